/- Loops by a relation; slice literals; []byte(s); copy. -/
import Derived.Test.YtilcnglcflohoaaElems
namespace Go.Wk
section
variable {P : Program} {f : FuncId} {n : Nat} {κ : World} {K : Post} {k : List Item} {al : List (Nat × Value)} {L L1 : List Assn} {o : Oper} {α : Type} {T : Rep α} {a : Option Addr} {m c : Nat} {l l' : List α} {e : TypeId}

theorem SG.loop2 {c : Code} (I : Nat → List (Nat × Value) → List Assn → Prop) {m0 : Nat} (h0 : I m0 al L)
    (round : ∀ m al L, I m al L → (∀ m' al' L', m' < m → I m' al' L' → SG P f n κ K (.inLoop c :: k) al' L') → SG P f n κ K (.code c :: .inLoop c :: k) al L) :
    SG P f n κ K (.code (.loop c) :: k) al L := by
  have key : ∀ m al L, I m al L → SG P f n κ K (.code c :: .inLoop c :: k) al L := by
    intro m
    induction m using Nat.strongRecOn with
    | ind m ih => exact fun al L hi => round m al L hi fun m' al' L' hlt hi' => SG.inLoop (ih m' hlt al' L' hi')
  exact fun a w he hs => G.step (fun _ => step_loop) (key _ al L h0 a w he hs)

/-- A proposition, for what the walk must not look into. -/
theorem look_int {d : Nat} {kk : IntKind} {x y : Int} (h : look al d = some (.int kk x)) (e : x = y) : look al d = some (.int kk y) := e ▸ h

/- slice literals -/
def BuildSl (P : Program) (E len : Nat) (zs : List Value) (sz : Nat) : Prop := ∃ i z, P.info? E = some i ∧ i.zero = some z ∧ i.size = sz ∧ zs.length = len * sz ∧ ((Array.range (len * sz)).map fun j => z.cells[j % z.cells.size]!) = zs.toArray
theorem bl_of {E len sz : Nat} {zE zs : List Value} (hz : Zero P E zE) (hs : ∃ i, P.info? E = some i ∧ i.size = sz) (hlen : zE.length = sz) (h : zs = (List.range (len * sz)).map fun j => zE.getD (j % sz) undef) (hsz : 0 < sz) : BuildSl P E len zs sz := by
  obtain ⟨i, z, h1, h2, h3⟩ := hz
  obtain ⟨i', h4, h5⟩ := hs
  rw [h1] at h4; cases h4
  subst h
  refine ⟨i, z, h1, h2, h5, by simp, ?_⟩
  rw [h3]
  apply Array.ext
  · simp
  · intro j g1 g2
    have hj : j % sz < zE.length := by rw [hlen]; exact Nat.mod_lt _ hsz
    simp [hlen, List.getElem?_eq_getElem hj]

theorem E.buildSlice {T' E len sz : Nat} {ps : Array (Nat × Operand)} {zs : List Value} (qs : List (Nat × List Value)) (ho : o.op = .buildSlice T' len ps) (hT : SliceTy P T' E sz) (hb : BuildSl P E len zs sz) (hsz : 0 < sz) (hsmall : len * sz ≤ 16777216) (hl0 : 0 < len) (hq : PartsOf al ps.toList qs) {cs : List Value} (hf : fillL (fun i => some (i * sz, sz)) zs qs = some cs) :
    OpE P n κ al L o fun v M => ∃ b, v = .slice (some ⟨b, 0, none⟩) len len ∧ M = Blk b E cs :: L := OpE.of_run fun a' w he hs => by
  obtain ⟨ti, h1, h2, rfl⟩ := hT
  obtain ⟨i, z, g1, g2, g3, g4, g5⟩ := hb
  rw [h2] at g1; cases g1
  have hfill := run_fill he _ ps.toList qs zs hq hf
  refine ⟨.slice (some ⟨w.heap.size, 0, none⟩) len len, w.alloc (.cells cs.toArray E), _, .inl ?_, ⟨_, rfl, rfl⟩, hs.alloc⟩
  have h24 : ¬ (16777216 < len * ti.size) := by omega
  have h0 : ¬ (len * ti.size = 0) := by have := Nat.mul_pos hl0 hsz; omega
  simp only [execOp, ho, Instr.buildSlice]
  simp [run_underlying h1, run_sizeOf_info h2, h24, zeroValue, typeInfo, h2, g2, newRow]
  have e1 : (Array.map (fun x => z.cells[x % z.cells.size]!) (Array.range (len * ti.size))) = zs.toArray := g5
  rw [e1]
  have e2 : (List.map (fun (x : Nat × Operand) => (x.fst, a'.eval x.snd)) ps.toList) = ps.toList.map fun (i, x) => (i, a'.eval x) := rfl
  rw [e2, hfill]
  simp
  intro hh
  exact absurd hh h0

/-- All parts are given, in order. -/
def enumQ : Nat → List (List Value) → List (Nat × List Value)
  | _, [] => []
  | k, us :: r => (k, us) :: enumQ (k + 1) r
theorem fillL_full {sz : Nat} : ∀ (uss : List (List Value)) (k : Nat) (pre mid : List Value), pre.length = k * sz → mid.length = uss.length * sz → (∀ us ∈ uss, us.length = sz) → fillL (fun i => some (i * sz, sz)) (pre ++ mid) (enumQ k uss) = some (pre ++ uss.flatten)
  | [], k, pre, mid, _, h2, _ => by
    have : mid = [] := List.eq_nil_of_length_eq_zero (by simpa using h2)
    subst this; simp [enumQ, fillL]
  | us :: r, k, pre, mid, h1, h2, h3 => by
    have hu := h3 us (List.mem_cons_self ..)
    simp only [List.length_cons, Nat.add_mul, Nat.one_mul] at h2
    have hm : mid = mid.take sz ++ mid.drop sz := by rw [List.take_append_drop]
    have ih := fillL_full r (k + 1) (pre ++ us) (mid.drop sz) (by simp [h1, hu, Nat.add_mul]) (by simp; omega) (fun x hx => h3 x (List.mem_cons_of_mem _ hx))
    simp only [enumQ, fillL]
    rw [if_pos ⟨hu, by simp [h1, hu]; omega⟩]
    have hset : setAt (pre ++ mid) (k * sz) us = pre ++ us ++ mid.drop sz := by
      have := setAt_mid us pre (mid.take sz) (mid.drop sz) (by simp; omega)
      rw [h1, List.append_assoc, List.take_append_drop] at this
      exact this
    rw [hset, ih]; simp
theorem PartsOf.enum : ∀ {xs : List Operand} {uss : List (List Value)} (k : Nat), (∀ (i : Nat) (x : Operand) (us : List Value), xs[i]? = some x → uss[i]? = some us → ∃ u, ev al x = some u ∧ u.cells = us.toArray) → xs.length = uss.length → PartsOf al ((List.range' k xs.length).zip xs) (enumQ k uss)
  | [], [], _, _, _ => trivial
  | [], _ :: _, _, _, h => by simp at h
  | _ :: _, [], _, _, h => by simp at h
  | x :: xs, us :: uss, k, h, hl => by
    simp only [List.length_cons, List.range'_succ, List.zip_cons_cons, enumQ]
    exact ⟨rfl, h 0 x us rfl rfl, PartsOf.enum (k + 1) (fun i y vs h1 h2 => h (i + 1) y vs (by simpa using h1) (by simpa using h2)) (by simpa using hl)⟩

theorem E.lit1 {T' E0 sz : Nat} {x : Operand} {u : Value} {zE : List Value} (us : List Value) (ho : o.op = .buildSlice T' 1 #[(0, x)]) (hT : SliceTy P T' E0 sz) (hz : Zero P E0 zE) (hlen : zE.length = sz) (hsz : 0 < sz) (h24 : sz ≤ 16777216) (hx : ev al x = some u) (hu : u.cells = us.toArray) (hul : us.length = sz) :
    OpE P n κ al L o fun v M => ∃ b, v = .slice (some ⟨b, 0, none⟩) 1 1 ∧ M = Blk b E0 us :: L := by
  have hs : ∃ i, P.info? E0 = some i ∧ i.size = sz := let ⟨i, _, a, b⟩ := hT; ⟨i, a, b⟩
  refine E.buildSlice (sz := sz) [(0, us)] ho hT (bl_of hz hs hlen rfl hsz) hsz (by omega) (by omega) ⟨rfl, ⟨u, hx, hu⟩, trivial⟩ ?_
  have := fillL_full (sz := sz) [us] 0 [] ((List.range (1 * sz)).map fun j => zE.getD (j % sz) undef) (by simp) (by simp) (by simpa using hul)
  simpa [enumQ] using this

/-- Elements of one cell each. -/
theorem E.litN {T' E0 len : Nat} {ps : Array (Nat × Operand)} {xs : List Operand} {vs : List Value} {zE : List Value} (ho : o.op = .buildSlice T' len ps) (hps : ps.toList = (List.range' 0 xs.length).zip xs) (hlx : xs.length = len) (hT : SliceTy P T' E0 1) (hz : Zero P E0 zE) (hlen : zE.length = 1) (h0 : 0 < len) (h24 : len ≤ 16777216)
    (hx : evs al xs = some vs) (hu : ∀ v ∈ vs, v.cells = #[v]) : OpE P n κ al L o fun v M => ∃ b, v = .slice (some ⟨b, 0, none⟩) len len ∧ M = Blk b E0 vs :: L := by
  have hs : ∃ i, P.info? E0 = some i ∧ i.size = 1 := let ⟨i, _, a, b⟩ := hT; ⟨i, a, b⟩
  have hev : ∀ (xs : List Operand) (vs : List Value), evs al xs = some vs → vs.length = xs.length ∧ ∀ (i : Nat) (x : Operand) (v : Value), xs[i]? = some x → vs[i]? = some v → ev al x = some v := by
    intro xs
    induction xs with
    | nil => intro vs h; cases h; exact ⟨rfl, fun i x v h => by simp at h⟩
    | cons x r ih =>
      intro vs h
      simp only [evs] at h
      split at h
      · rename_i v vs' h1 h2
        cases h
        obtain ⟨g1, g2⟩ := ih vs' h2
        refine ⟨by simp [g1], fun i y u hy hu => ?_⟩
        match i, hy, hu with
        | 0, hy, hu => simp at hy hu; subst hy; subst hu; exact h1
        | i + 1, hy, hu => exact g2 i y u (by simpa using hy) (by simpa using hu)
      · cases h
  obtain ⟨g1, g2⟩ := hev xs vs hx
  refine E.buildSlice (sz := 1) (enumQ 0 (vs.map fun v => [v])) ho hT (bl_of hz hs hlen rfl (by omega)) (by omega) (by omega) h0 ?_ ?_
  · rw [hps]
    refine PartsOf.enum 0 (fun i x us h1 h2 => ?_) (by simp [g1])
    rw [List.getElem?_map] at h2
    cases hv : vs[i]? with
    | none => rw [hv] at h2; cases h2
    | some v =>
      rw [hv] at h2; cases h2
      exact ⟨v, g2 i x v h1 hv, hu v (List.mem_of_getElem? hv)⟩
  · have := fillL_full (sz := 1) (vs.map fun v => [v]) 0 [] ((List.range (len * 1)).map fun j => zE.getD (j % 1) undef) (by simp) (by simp [g1, hlx]) (by simp)
    rw [List.nil_append] at this
    rw [this]
    simp [← List.flatMap_def]

/- []byte(s) -/
theorem E.sToBytes {S D bytes : TypeId} {x : Operand} {s : List UInt8} (ho : o.op = .convert S D x) (hS : P.underlying S = some .string) (hD : ElemTy P D e 1 bytes) (hE : P.underlying e = some (.int .u8)) (hx : ev al x = some (vS s)) (h63 : s.length ≤ 9223372036854775807) :
    OpE P n κ al L o fun v M => ∃ a' c', v = .slice a' s.length c' ∧ M = Buf R8 e a' s.length c' s :: L := OpE.of_run fun a' w he hs => by
  have hx' := he.ev hx
  have hr := run_bytes_of_string (P := P) w S D e ⟨⟨s⟩⟩ hS hD.under hE
  have hsz : (⟨⟨s⟩⟩ : ByteArray).size = s.length := rfl
  rw [hsz] at hr
  have hge := grownCap_ge w s.length 0 e
  have hle := grownCap_le_maxLen w s.length 0 e (by unfold maxLen; omega)
  generalize grownCap w s.length 0 e = C at *
  have hrow : bytesRow ⟨⟨s⟩⟩ C = (s.map v8 ++ List.replicate (C - s.length) (Value.int .u8 0)).toArray := by
    unfold bytesRow
    rw [hsz]
    apply Array.ext'
    simp
  rw [hrow] at hr
  have hs2 := (hs.drew (w.drawn + 1)).new (A := BlkF w.heap.size e (s.map v8 ++ List.replicate (C - s.length) (Value.int .u8 0)) ((s.map v8 ++ List.replicate (C - s.length) (Value.int .u8 0)).toArray.size, (s.map v8 ++ List.replicate (C - s.length) (Value.int .u8 0)).toArray.size + 1))
    (o := .cells (s.map v8 ++ List.replicate (C - s.length) (Value.int .u8 0)).toArray e ((s.map v8 ++ List.replicate (C - s.length) (Value.int .u8 0)).toArray.size, (s.map v8 ++ List.replicate (C - s.length) (Value.int .u8 0)).toArray.size + 1)) (fun _ => by show Frag.one w.heap.size _ w.heap.size = some _; simp [Frag.one])
  refine ⟨.slice (some ⟨w.heap.size, 0, none⟩) s.length C, _, _, .inl ?_, ⟨some ⟨w.heap.size, 0, none⟩, C, rfl, rfl⟩, hs2.ent ?_⟩
  · simp only [execOp, ho, hx', Sem.run_bind, hr]
    rfl
  · refine Ent.trans (Ent.frame _ (?_ : Ent L (ro (fun z => R8.rows z (s.map v8) s) :: L))) (Buf.close (T := R8) (cs := s.map v8) (rest := List.replicate (C - s.length) (Value.int .u8 0)) rfl hge (by simpa [maxLen] using hle) (fun i hi => ?_) (by simp [R8, Rep.sc]; omega))
    · exact fun z h H => Holds.add_ro (rows_sc.2 ⟨rfl, fun _ _ => trivial⟩) H
    · simp at hi ⊢; omega
theorem V.negI {T' : TypeId} {x : Operand} {i : Int} (ho : o.op = .unOp .neg T' x) (hx : ev al x = some (vI i)) (h1 : -9223372036854775808 ≤ -i) (h2 : -i ≤ 9223372036854775807) : OpV P n κ al L o (vI (-i)) := V.of_run fun a w he => by
  have hw : IntKind.i64.wrap (-i) = -i := IntWalk.i64_in _ ⟨h1, h2⟩
  simp [execOp, ho, he.ev hx, Op.unary, Op.intArith, hw]
theorem V.compl32 {T' : TypeId} {x : Operand} {i : UInt32} (ho : o.op = .unOp .xor T' x) (hx : ev al x = some (v32 i)) : OpV P n κ al L o (v32 (~~~i)) := V.of_run fun a w he => by
  have h0 : IntKind.u32.max = (4294967295 : Int) := rfl
  have h1 : (BitVec.ofInt IntKind.u32.bits IntKind.u32.max ^^^ BitVec.ofInt IntKind.u32.bits (i.toNat : Int)) = (~~~i).toBitVec := by
    rw [ofInt32, h0]
    show (4294967295#32 ^^^ i.toBitVec) = ~~~ i.toBitVec
    exact BitVec.allOnes_xor
  have hx' := he.ev hx
  simp only [execOp, ho, hx', Op.unary]
  have e : (if IntKind.u32.signed = true then (-1 : Int) else IntKind.u32.max) = IntKind.u32.max := rfl
  rw [e]
  have e2 := wrapBit32 (~~~i)
  simp only [Op.intBits, h1]
  show Result.ok (Next.value (Value.int IntKind.u32 (IntKind.u32.wrap ((~~~i).toBitVec.toNat : Int)))) w = _
  rw [e2]
/-- The beginning of a region that draws, with its size as a number. -/
theorem SG.drawN {id : Nat} {ops : List Oper} (N x : Nat) (L0 : List Assn) (hm : P.follows .mixedOrders = true) (hN : ops.length = N) {ls : Array Bool} (hls : Array.replicate N false = ls) (hL : Ent L L0) (h : RH P f n κ K k ops.toArray L0 x N ls al L) :
    SG P f n κ K (.code (.region id ops.toArray true) :: k) al L := by
  subst hN; subst hls
  exact SG.draw L0 x hm hL (by simpa using h)
theorem SG.drawL {id : Nat} {ops : List Oper} (N x : Nat) (hm : P.follows .mixedOrders = true) (hN : ops.length = N) {ls : Array Bool} (hls : Array.replicate N false = ls) (h : RH P f n κ K k ops.toArray L x N ls al L) :
    SG P f n κ K (.code (.region id ops.toArray true) :: k) al L := SG.drawN N x L hm hN hls (Ent.refl _) h
/- what is appended: one element that was just laid -/
theorem Src.lit {val : α → Value} {ok : α → Prop} {h1 : ∀ x, (val x).oneCell' = true} {b E c' : Nat} {x : α} (hp : Pick (Blk b E [val x]) L L1) (hok : ok x) : Src P L (Rep.sc val ok h1) (.slice (some ⟨b, 0, none⟩) 1 c') [x] :=
  Src.blk (l := [x]) hp (fun u hu => by simp at hu; subst hu; exact h1 x) fun z h _ => rows_sc.2 ⟨rfl, fun y hy => by simp at hy; subst hy; exact hok⟩
theorem Src.litRd {b E c' : Nat} {us : List Value} {y : α} (hp : Pick (Blk b E us) L L1) (hm : Rd T us y ∈ L) : Src P L T (.slice (some ⟨b, 0, none⟩) 1 c') [y] := fun z h H => by
  obtain ⟨_, _, z1, hz, _, _, _, hr, _⟩ := Pick.ro hm z h H
  exact Src.blk (l := [y]) hp (T.one hr) (fun z' h' H' => by
    obtain ⟨_, _, z2, hz', _, _, _, hr', _⟩ := Pick.ro hm z' h' H'
    exact (Rep.rows.single hr').mono hz') z h H
/-- Elements of one cell each, laid one behind the other. -/
theorem Src.lits {val : α → Value} {ok : α → Prop} {h1 : ∀ x, (val x).oneCell' = true} {b E c' : Nat} {vs : List Value} {n' : Nat} (l : List α) (hp : Pick (Blk b E vs) L L1) (hv : vs = l.map val) (hn : n' = l.length) (hok : ∀ x ∈ l, ok x) : Src P L (Rep.sc val ok h1) (.slice (some ⟨b, 0, none⟩) n' c') l := by
  subst hn
  exact Src.blk hp (fun u hu => by rw [hv] at hu; obtain ⟨x, _, rfl⟩ := List.mem_map.1 hu; exact h1 x) fun z h _ => rows_sc.2 ⟨hv, hok⟩
theorem RL.buf {ops : Array Oper} {rest : List Oper} (hp : Pick (Buf T e a m c l) L L1) (h : l.length = m → m ≤ c → c ≤ 9223372036854775807 → RL P f n κ K k ops rest al L) : RL P f n κ K k ops rest al L := fun a' w he hs => by
  obtain ⟨h1, h2, h3⟩ := hs.buf hp
  exact h h1 h2 h3 a' w he hs
/- several assertions as one; one of a family -/
def Ex {ι : Type} (A : ι → List Assn) : Assn := fun z h => ∃ i, Holds z (A i) h
theorem Holds.app : ∀ {A B : List Assn} {z h ha hb : Frag}, ha.disj hb → ha.le h → hb.le h → Holds z A ha → Holds z B hb → Holds z (A ++ B) h
  | [], _, _, _, _, _, _, _, hb, _, H => Holds.mono (Frag.le.refl _) hb H
  | X :: A, B, z, h, ha, hb, hd, h1, h2, ⟨k1, k2, z1, a, b, c, d, e, f⟩, H => by
    refine ⟨k1, k2.un hb, z1, a, ?_, c.trans h1, Frag.un_le (d.trans h1) h2, e, Holds.app ?_ (Frag.le_un_left _ _) (Frag.le_un_right ?_) f H⟩
    · exact (Frag.un_disj b.symm (hd.mono c (Frag.le.refl _)).symm).symm
    · exact hd.mono d (Frag.le.refl _)
    · exact hd.mono d (Frag.le.refl _)
theorem Holds.split : ∀ {A B : List Assn} {z h : Frag}, Holds z (A ++ B) h → ∃ ha hb : Frag, ha.disj hb ∧ ha.le h ∧ hb.le h ∧ Holds z A ha ∧ Holds z B hb
  | [], B, z, h, H => ⟨Frag.emp, h, Frag.emp_disj _, Frag.emp_le _, Frag.le.refl _, trivial, H⟩
  | X :: A, B, z, h, ⟨k1, k2, z1, a, b, c, d, e, f⟩ => by
    obtain ⟨ha, hb, g1, g2, g3, g4, g5⟩ := Holds.split f
    refine ⟨k1.un ha, hb, ?_, Frag.un_le c (g2.trans d), g3.trans d, ⟨k1, ha, z1, a, b.mono (Frag.le.refl _) g2, Frag.le_un_left _ _, Frag.le_un_right (b.mono (Frag.le.refl _) g2), e, g4⟩, g5⟩
    exact Frag.un_disj (b.mono (Frag.le.refl _) g3) g1
theorem Ex.close {ι : Type} {A : ι → List Assn} (i : ι) : Ent (A i ++ L) (Ex A :: L) := fun z h H => by
  obtain ⟨ha, hb, g1, g2, g3, g4, g5⟩ := Holds.split H
  exact ⟨ha, hb, z, Frag.le.refl _, g1, g2, g3, ⟨i, g4⟩, g5⟩
theorem Sep.openEx {ι : Type} {A : ι → List Assn} {w : World} (hs : Sep κ w (Ex A :: L)) : ∃ i, Sep κ w (A i ++ L) := by
  obtain ⟨s, z, h, d1, d2, d3, h1, h2, z1, g1, g2, g3, g4, ⟨i, hA⟩, H⟩ := hs
  exact ⟨i, s, z, h, d1, d2, d3, Holds.app g2 g3 g4 (Holds.mono g1 (Frag.le.refl _) hA) H⟩
theorem SG.openEx {ι : Type} {A : ι → List Assn} (hp : Pick (Ex A) L L1) (h : ∀ i, SG P f n κ K k al (A i ++ L1)) : SG P f n κ K k al L := fun a w he hs => by
  obtain ⟨i, hi⟩ := (hs.ent hp).openEx
  exact h i a w he hi
theorem RL.openEx {ι : Type} {A : ι → List Assn} {ops : Array Oper} {rest : List Oper} (hp : Pick (Ex A) L L1) (h : ∀ i, RL P f n κ K k ops rest al (A i ++ L1)) : RL P f n κ K k ops rest al L := fun a w he hs => by
  obtain ⟨i, hi⟩ := (hs.ent hp).openEx
  exact h i a w he hi
theorem Ctr.post {args : Array Value} {L' : List Assn} {K' : Post} (h : Ctr P f args κ L K) (hL : Ent L' L) (hK : ∀ v M, K v M → ∃ M', K' v M' ∧ Ent M M') : Ctr P f args κ L' K' :=
  fun w hw => Calls.mono (h w (hw.ent hL)) fun _ _ ⟨v, e, M, hM, hs⟩ => let ⟨M', h1, h2⟩ := hK v M hM; ⟨v, e, M', h1, hs.ent h2⟩
theorem Ctr.openEx {ι : Type} {A : ι → List Assn} {args : Array Value} (hp : Pick (Ex A) L L1) (h : ∀ i, Ctr P f args κ (A i ++ L1) K) : Ctr P f args κ L K := fun w hs => by
  obtain ⟨i, hi⟩ := (hs.ent hp).openEx
  exact h i w hi

theorem Src.weaken {x : Value} (h : Src P L T x l) {L' : List Assn} (hE : Ent L' L) : Src P L' T x l := fun z hh H => h z hh (hE z hh H)
theorem Src.buf (hsz : 0 < T.sz) (hp : Pick (Buf T e a m c l) L L1) : Src P L T (.slice a m c) l := fun z h H => by
  obtain ⟨h1, h2, z1, g1, g2, g3, g4, ⟨k1, k2, k3, k4⟩, _⟩ := hp z h H
  rcases k4 with ⟨rfl, rfl, rfl⟩ | ⟨b, pre, cs, rest, fz, rfl, hb, hf, hr, hl⟩
  · have : l = [] := List.eq_nil_of_length_eq_zero k1
    subst this
    exact Src.nil z h H
  · have hr' := hr.mono g1
    refine ⟨cs, hr', hr'.one hsz, fun w hz hh => ⟨fun k hk => ?_, by simp [Builtin.lenOf, k1]⟩⟩
    have hrow : Row h1 b pre.length cs := fun i u hu => by
      have hi : i < cs.length := (List.getElem?_eq_some_iff.1 hu).1
      simp only [cellAt, hb]
      simp [List.getElem?_append_right, List.getElem?_append_left hi, hu]
    exact run_firstCells_row (g3.trans hh) hrow (by rw [hr.1]; exact Nat.mul_le_mul_right _ hk)
theorem SG.slN (hm : Sl T a m c l ∈ L) (h : (a = none → m = 0) → SG P f n κ K k al L) : SG P f n κ K k al L := fun a' w he hs => by
  obtain ⟨z, _, _, _, _, h4⟩ := hs.sl hm
  exact h (fun e => by rcases h4 with h4 | ⟨b, o, cs, h4, _⟩; exact h4; rw [e] at h4; cases h4) a' w he hs
theorem Sep.slN {w : World} (hs : Sep κ w L) (hm : Sl T a m c l ∈ L) : a = none → m = 0 := fun e => by
  obtain ⟨z, _, _, _, _, h4⟩ := hs.sl hm
  rcases h4 with h4 | ⟨b, o, cs, h4, _⟩
  · exact h4
  · rw [e] at h4; cases h4
theorem Sep.bufN {w : World} (hs : Sep κ w L) (hp : Pick (Buf T e a m c l) L L1) : a = none → m = 0 := fun ea => by
  rcases (hs.ent hp).open_buf with ⟨_, h4, _⟩ | ⟨b, pre, cs, rest, fz, h5, _⟩
  · exact h4
  · rw [ea] at h5; cases h5
theorem Sep.slLen {w : World} (hs : Sep κ w L) (hm : Sl T a m c l ∈ L) : l.length = m := let ⟨_, _, h, _⟩ := hs.sl hm; h
theorem Sep.bufLen {w : World} (hs : Sep κ w L) (hp : Pick (Buf T e a m c l) L L1) : l.length = m := (hs.buf hp).1

theorem run_equalIn_nil (d : Nat) (w : World) (t e : TypeId) (a : Option Addr) (n c n' c' : Nat) (h : P.underlying t = some (.slice e)) : (Op.equalIn (d + 1) t (.slice a n c) (.slice none n' c')).run P w = .ok a.isNone w := by
  cases a <;> simp [Op.equalIn, run_underlying h]
/-- 's == nil' at a slice. -/
theorem V.eqlNil {T' : TypeId} {x y : Operand} {T2 c0 : Nat} (ho : o.op = .binOp .eql T' x y T2) {E : TypeId} (hT : P.underlying T' = some (.slice E)) (hx : ev al x = some (.slice a m c)) (hy : ev al y = some (.slice none 0 c0)) : OpV P n κ al L o (.bool a.isNone) := V.of_run fun a' w he => by
  have h1 : (binOp .eql T' (.slice a m c) (.slice none 0 c0)).run P w = .ok (.bool a.isNone) w := by
    simp only [binOp]
    simp [Op.equal, Op.maxDepth, run_equalIn_nil 9999 w T' E a m c 0 c0 hT]
  have h2 : (eqGuard .eql T' x y (.slice a m c) (.slice none 0 c0)).run P w = .ok () w := by
    unfold eqGuard; simp
  simp only [execOp, ho, he.ev hx, he.ev hy]
  simp [h1, h2]
/-- []T{}. -/
theorem E.lit0 {T' : TypeId} {bytes : Nat} {ps : Array (Nat × Operand)} (ho : o.op = .buildSlice T' 0 ps) (hps : ps = #[]) (hT : ElemTy P T' e T.sz bytes) : OpE P n κ al L o fun v M => ∃ b, v = .slice (some ⟨b, 0, none⟩) 0 0 ∧ M = Buf T e (some ⟨b, 0, none⟩) 0 0 [] :: L := OpE.of_run fun a' w he hs => by
  subst hps
  obtain ⟨i, z, h1, h2, h3, h4, h5, h6⟩ := hT
  refine ⟨.slice (some ⟨w.heap.size, 0, none⟩) 0 0, w.alloc (.cells ([] : List Value).toArray e), _, .inl ?_, ⟨_, rfl, rfl⟩, (hs.alloc (cs := []) (T := e)).ent (Buf.of_blk (by simp) rfl (by omega) fun z => Rep.rows.nil T z)⟩
  simp [execOp, ho, Instr.buildSlice, run_underlying h1, run_sizeOf_info h2, Instr.fill, newRow]
  congr 2
  apply Array.ext <;> simp
/- stores, for the walk -/
theorem E.store1 {T' E0 b i : Nat} {x y : Operand} {cs : List Value} {u : Value} (ho : o.op = .store T' x y) (hx : ev al x = some (ptr b i)) (hy : ev al y = some u) (hu : u.cells = #[u]) (h1 : u.oneCell' = true)
    (hT : ∃ ti, P.info? T' = some ti ∧ ti.size = 1) (hp : Pick (Blk b E0 cs) L L1) (hl : Nat.blt i cs.length = true) : OpE P n κ al L o fun _ M => M = Blk b E0 (cs.set i u) :: L1 :=
  E.store [u] ho hx hy hu rfl hT hp (fun v hv => by simp at hv; subst hv; exact h1) (Nat.succ_le_of_lt (by simpa using hl))
theorem E.storeAgg {T' E0 b i m' : Nat} {x y : Operand} {cs : List Value} {us : List Value} (ho : o.op = .store T' x y) (hx : ev al x = some (ptr b i)) (hy : ev al y = some (.agg us.toArray)) (hm : us.length = m')
    (hT : ∃ ti, P.info? T' = some ti ∧ ti.size = m') (hp : Pick (Blk b E0 cs) L L1) (h1 : ∀ u ∈ us, u.oneCell' = true) (hl : i + m' ≤ cs.length) : OpE P n κ al L o fun _ M => M = Blk b E0 (setAt cs i us) :: L1 :=
  E.store us ho hx hy rfl hm hT hp h1 hl
end
end Go.Wk
