/- More steps: tests that part the way, returns, facts on lengths, elements of slices of our own, bytes and strings, unsigned numbers. -/
import Derived.Test.YtilcnglcflohoaaSmall
namespace Go.Wk

section
variable {P : Program} {f : FuncId} {n : Nat} {κ : World} {K : Post} {k : List Item} {L L1 L' L0 M : List Assn} {al al' : List (Nat × Value)} {o : Oper} {v : Value} {ops : Array Oper} {rest : List Oper} {α : Type} {T : Rep α} {a : Option Addr} {m c : Nat} {l l' : List α} {e : TypeId}

/- 1. TESTS -/
theorem RL.cmp {p : Prop} [Decidable p] (hw : Wanted n ops o al true) (hv : OpV P n κ al L o (.bool (decide p))) (hd : fits n o.dst = true)
    (h1 : p → RL P f n κ K k ops rest (upd al o.dst (.bool true)) L) (h2 : ¬p → RL P f n κ K k ops rest (upd al o.dst (.bool false)) L) : RL P f n κ K k ops (o :: rest) al L := by
  by_cases hp : p
  · exact RL.val hw hv hd (by rw [decide_eq_true hp]; exact h1 hp)
  · exact RL.val hw hv hd (by rw [decide_eq_false hp]; exact h2 hp)
theorem RL.cmpT {p : Prop} [Decidable p] (hw : Wanted n ops o al true) (hv : OpV P n κ al L o (.bool (decide p))) (hd : fits n o.dst = true) (hp : p)
    (h1 : RL P f n κ K k ops rest (upd al o.dst (.bool true)) L) : RL P f n κ K k ops (o :: rest) al L := RL.cmp hw hv hd (fun _ => h1) (fun h => absurd hp h)
theorem RL.cmpF {p : Prop} [Decidable p] (hw : Wanted n ops o al true) (hv : OpV P n κ al L o (.bool (decide p))) (hd : fits n o.dst = true) (hp : ¬p)
    (h1 : RL P f n κ K k ops rest (upd al o.dst (.bool false)) L) : RL P f n κ K k ops (o :: rest) al L := RL.cmp hw hv hd (fun h => absurd h hp) (fun _ => h1)
theorem EnvLe.dup {d : Nat} {u : Value} (h : look al d = some u) : EnvLe ((d, u) :: al) al := EnvLe.cons h (EnvLe.refl _)
theorem RL.split (d : Nat) {t : Bool} (hl : look al d = some (.bool t)) (h1 : t = true → RL P f n κ K k ops rest ((d, .bool true) :: al) L) (h2 : t = false → RL P f n κ K k ops rest ((d, .bool false) :: al) L) : RL P f n κ K k ops rest al L := by
  cases t with
  | true => exact (h1 rfl).weaken (EnvLe.dup hl) (Ent.refl _)
  | false => exact (h2 rfl).weaken (EnvLe.dup hl) (Ent.refl _)
theorem SG.split (d : Nat) {t : Bool} (hl : look al d = some (.bool t)) (h1 : t = true → SG P f n κ K k ((d, .bool true) :: al) L) (h2 : t = false → SG P f n κ K k ((d, .bool false) :: al) L) : SG P f n κ K k al L := by
  cases t with
  | true => exact (h1 rfl).weaken (EnvLe.dup hl) (Ent.refl _)
  | false => exact (h2 rfl).weaken (EnvLe.dup hl) (Ent.refl _)
theorem SG.let_ {d : Nat} {u u' : Value} (hl : look al d = some u) (he : u = u') (h : SG P f n κ K k ((d, u') :: al) L) : SG P f n κ K k al L := by
  subst he; exact h.weaken (EnvLe.dup hl) (Ent.refl _)
theorem RL.let_ {d : Nat} {u u' : Value} (hl : look al d = some u) (he : u = u') (h : RL P f n κ K k ops rest ((d, u') :: al) L) : RL P f n κ K k ops rest al L := by
  subst he; exact h.weaken (EnvLe.dup hl) (Ent.refl _)

section
variable {listed : Array Bool} {x fuel : Nat}
theorem RH.cmp {p : Prop} [Decidable p] (i : Nat) (hi : ops[i]? = some o) (hs : Region.noSelect ops = true) (hf : Region.free .any ops listed i = true) (hr : (Region.ready .any ops listed).contains i = true) (hx : (waits .any ops x i && !listed.getD x false && !(Nat.beq i x)) = true)
    (hw : Wanted n ops o al true) (hv : OpV P n κ al L0 o (.bool (decide p))) (hd : fits n o.dst = true)
    (h1 : p → RH P f n κ K k ops L0 x fuel (listed.setIfInBounds i true) (upd al o.dst (.bool true)) L) (h2 : ¬p → RH P f n κ K k ops L0 x fuel (listed.setIfInBounds i true) (upd al o.dst (.bool false)) L) : RH P f n κ K k ops L0 x (fuel + 1) listed al L := by
  by_cases hp : p
  · exact RH.val i hi hs hf hr hx hw hv hd (by rw [decide_eq_true hp]; exact h1 hp)
  · exact RH.val i hi hs hf hr hx hw hv hd (by rw [decide_eq_false hp]; exact h2 hp)
theorem RH.cmpT {p : Prop} [Decidable p] (i : Nat) (hi : ops[i]? = some o) (hs : Region.noSelect ops = true) (hf : Region.free .any ops listed i = true) (hr : (Region.ready .any ops listed).contains i = true) (hx : (waits .any ops x i && !listed.getD x false && !(Nat.beq i x)) = true)
    (hw : Wanted n ops o al true) (hv : OpV P n κ al L0 o (.bool (decide p))) (hd : fits n o.dst = true) (hp : p)
    (h1 : RH P f n κ K k ops L0 x fuel (listed.setIfInBounds i true) (upd al o.dst (.bool true)) L) : RH P f n κ K k ops L0 x (fuel + 1) listed al L := RH.cmp i hi hs hf hr hx hw hv hd (fun _ => h1) (fun h => absurd hp h)
theorem RH.cmpF {p : Prop} [Decidable p] (i : Nat) (hi : ops[i]? = some o) (hs : Region.noSelect ops = true) (hf : Region.free .any ops listed i = true) (hr : (Region.ready .any ops listed).contains i = true) (hx : (waits .any ops x i && !listed.getD x false && !(Nat.beq i x)) = true)
    (hw : Wanted n ops o al true) (hv : OpV P n κ al L0 o (.bool (decide p))) (hd : fits n o.dst = true) (hp : ¬p)
    (h1 : RH P f n κ K k ops L0 x fuel (listed.setIfInBounds i true) (upd al o.dst (.bool false)) L) : RH P f n κ K k ops L0 x (fuel + 1) listed al L := RH.cmp i hi hs hf hr hx hw hv hd (fun h => absurd h hp) (fun _ => h1)
theorem RH.cmpP {p : Prop} [Decidable p] (i : Nat) (hi : ops[i]? = some o) (hs : Region.noSelect ops = true) (hf : Region.free .any ops listed i = true) (hr : (Region.ready .any ops listed).contains i = true) (hx : Nat.beq i x = false)
    (hw : Wanted n ops o al true) (hv : OpV P n κ al [] o (.bool (decide p))) (hd : fits n o.dst = true)
    (h1 : p → RH P f n κ K k ops L0 x fuel (listed.setIfInBounds i true) (upd al o.dst (.bool true)) L) (h2 : ¬p → RH P f n κ K k ops L0 x fuel (listed.setIfInBounds i true) (upd al o.dst (.bool false)) L) : RH P f n κ K k ops L0 x (fuel + 1) listed al L := by
  by_cases hp : p
  · exact RH.pure i hi hs hf hr hx hw hv hd (by rw [decide_eq_true hp]; exact h1 hp)
  · exact RH.pure i hi hs hf hr hx hw hv hd (by rw [decide_eq_false hp]; exact h2 hp)
theorem RH.cmpPT {p : Prop} [Decidable p] (i : Nat) (hi : ops[i]? = some o) (hs : Region.noSelect ops = true) (hf : Region.free .any ops listed i = true) (hr : (Region.ready .any ops listed).contains i = true) (hx : Nat.beq i x = false)
    (hw : Wanted n ops o al true) (hv : OpV P n κ al [] o (.bool (decide p))) (hd : fits n o.dst = true) (hp : p)
    (h1 : RH P f n κ K k ops L0 x fuel (listed.setIfInBounds i true) (upd al o.dst (.bool true)) L) : RH P f n κ K k ops L0 x (fuel + 1) listed al L := RH.cmpP i hi hs hf hr hx hw hv hd (fun _ => h1) (fun h => absurd hp h)
theorem RH.cmpPF {p : Prop} [Decidable p] (i : Nat) (hi : ops[i]? = some o) (hs : Region.noSelect ops = true) (hf : Region.free .any ops listed i = true) (hr : (Region.ready .any ops listed).contains i = true) (hx : Nat.beq i x = false)
    (hw : Wanted n ops o al true) (hv : OpV P n κ al [] o (.bool (decide p))) (hd : fits n o.dst = true) (hp : ¬p)
    (h1 : RH P f n κ K k ops L0 x fuel (listed.setIfInBounds i true) (upd al o.dst (.bool false)) L) : RH P f n κ K k ops L0 x (fuel + 1) listed al L := RH.cmpP i hi hs hf hr hx hw hv hd (fun h => absurd h hp) (fun _ => h1)
theorem RH.weaken (h : RH P f n κ K k ops L0 x fuel listed al L) (ha : EnvLe al al') (hL : Ent L' L) : RH P f n κ K k ops L0 x fuel listed al' L' := fun a w he hs hn => h a w (he.le ha) (hs.ent hL) hn
theorem RH.split (d : Nat) {t : Bool} (hl : look al d = some (.bool t)) (h1 : t = true → RH P f n κ K k ops L0 x fuel listed ((d, .bool true) :: al) L) (h2 : t = false → RH P f n κ K k ops L0 x fuel listed ((d, .bool false) :: al) L) : RH P f n κ K k ops L0 x fuel listed al L := by
  cases t with
  | true => exact (h1 rfl).weaken (EnvLe.dup hl) (Ent.refl _)
  | false => exact (h2 rfl).weaken (EnvLe.dup hl) (Ent.refl _)
end

/- 2. RETURNS -/
theorem SG.retE (hr : ReturnsOf P f n κ al L v) (hE : Ent L M) (hK : K v M) : SG P f n κ K (.code .ret :: k) al L := by
  intro a w he hs cs
  obtain ⟨fn, hf, hr⟩ := hr
  exact ⟨v, w, _, ⟨M, hK, hs.ent hE⟩, .one step_ret, rfl, rfl, he.defers, rfl, fn, hf, hr a w he hs⟩
theorem SG.doneE (hr : ReturnsOf P f n κ al L v) (hE : Ent L M) (hK : K v M) : SG P f n κ K [] al L := by
  intro a w he hs cs
  obtain ⟨fn, hf, hr⟩ := hr
  exact ⟨v, w, _, ⟨M, hK, hs.ent hE⟩, .one step_end, rfl, rfl, he.defers, rfl, fn, hf, hr a w he hs⟩

/-- What a result's slot or cell holds. -/
inductive ResIs (P : Program) (al : List (Nat × Value)) (L : List Assn) : ResultVar → Value → Prop
  | tmp {t : Tmp} {u : Value} (h : look al t = some u) : ResIs P al L (.tmp t) u
  | cell {t : Tmp} {T b i E : Nat} {cs : List Value} {L1 : List Assn} {u : Value} (h : look al t = some (ptr b i)) (hT : One P T) (hp : Pick (Blk b E cs) L L1) (hc : cs[i]? = some u) : ResIs P al L (.cell t T) u
  | agg {t : Tmp} {T b i E m : Nat} {cs us : List Value} {L1 : List Assn} (h : look al t = some (ptr b i)) (hT : Agg P T m) (hp : Pick (Blk b E cs) L L1) (hc : (cs.drop i).take m = us) (hm : us.length = m) : ResIs P al L (.cell t T) (.agg us.toArray)

theorem run_load_one {T b i E : Nat} {cs : List Value} {u : Value} {w : World} (hT : One P T) (hs : Sep κ w L) (hp : Pick (Blk b E cs) L L1) (hc : cs[i]? = some u) : (loadVar T ⟨b, i, none⟩).run P w = .ok u w := by
  have hcell := cell_of_blk hs hp hc
  simp [loadVar, hT.agg w, hcell]
theorem run_load_agg {T b i E m : Nat} {cs us : List Value} {w : World} (hT : Agg P T m) (hs : Sep κ w L) (hp : Pick (Blk b E cs) L L1) (hc : (cs.drop i).take m = us) (hm : us.length = m) : (loadVar T ⟨b, i, none⟩).run P w = .ok (.agg us.toArray) w := by
  have hl : (loadCells ⟨b, i, none⟩ us.length).run P w = .ok us.toArray w := by
    refine run_loadCells_list w _ us fun j u hj => ?_
    rw [addr_add]
    refine cell_of_blk hs hp ?_
    rw [← hc, List.getElem?_take] at hj
    split at hj
    · simpa using hj
    · cases hj
  have hg := hT.agg w
  obtain ⟨d, ti, h1, h2, h3, h4⟩ := hT
  rw [← h4] at hm
  rw [hm] at hl
  simp [loadVar, hg, run_sizeOf_info h3, hl]

theorem ResIs.run {r : ResultVar} {u : Value} (h : ResIs P al L r u) {a' : Act} {w : World} (he : Env n al a') (hs : Sep κ w L) :
    (∃ t, r = .tmp t ∧ a'.tmps.getD t undef = u) ∨ ∃ t T ad, r = .cell t T ∧ a'.tmps.getD t undef = .pointer (some ad) ∧ (loadVar T ad).run P w = .ok u w := by
  cases h with
  | tmp h => exact .inl ⟨_, rfl, he.get _ _ h⟩
  | cell h hT hp hc => exact .inr ⟨_, _, _, rfl, he.get _ _ h, run_load_one hT hs hp hc⟩
  | agg h hT hp hc hm => exact .inr ⟨_, _, _, rfl, he.get _ _ h, run_load_agg hT hs hp hc hm⟩

theorem Ret.r1 {fn : Func} {r : ResultVar} {u : Value} (hf : P.funcs[f]? = some fn) (hr : fn.results = #[r]) (h : ResIs P al L r u) : ReturnsOf P f n κ al L u := ⟨fn, hf, fun a w he hs => by
  rcases h.run he hs with ⟨t, rfl, h1⟩ | ⟨t, T, ad, rfl, h1, h2⟩ <;> simp_all [results, asAddr]⟩
theorem Ret.r2 {fn : Func} {r s : ResultVar} {u u' : Value} (hf : P.funcs[f]? = some fn) (hr : fn.results = #[r, s]) (h : ResIs P al L r u) (h' : ResIs P al L s u') : ReturnsOf P f n κ al L (.tuple #[u, u']) := ⟨fn, hf, fun a w he hs => by
  rcases h.run he hs with ⟨t, rfl, h1⟩ | ⟨t, T, ad, rfl, h1, h2⟩ <;> rcases h'.run he hs with ⟨t', rfl, h1'⟩ | ⟨t', T', ad', rfl, h1', h2'⟩ <;> simp_all [results, asAddr]⟩
theorem Ret.r3 {fn : Func} {r s t : ResultVar} {u u' u'' : Value} (hf : P.funcs[f]? = some fn) (hr : fn.results = #[r, s, t]) (h : ResIs P al L r u) (h' : ResIs P al L s u') (h'' : ResIs P al L t u'') : ReturnsOf P f n κ al L (.tuple #[u, u', u'']) := ⟨fn, hf, fun a w he hs => by
  rcases h.run he hs with ⟨t, rfl, h1⟩ | ⟨t, T, ad, rfl, h1, h2⟩ <;> rcases h'.run he hs with ⟨t', rfl, h1'⟩ | ⟨t', T', ad', rfl, h1', h2'⟩ <;>
    rcases h''.run he hs with ⟨t'', rfl, h1''⟩ | ⟨t'', T'', ad'', rfl, h1'', h2''⟩ <;> simp_all [results, asAddr]⟩

/- 3. FACTS ON LENGTHS -/
theorem Ctr.sl {args : Array Value} (hm : Sl T a m c l ∈ L) (h : l.length = m → m ≤ c → c ≤ 9223372036854775807 → Ctr P f args κ L K) : Ctr P f args κ L K := fun w hs => by
  obtain ⟨z, _, h1, h2, h3, _⟩ := hs.sl hm
  exact h h1 h2 h3 w hs
theorem SG.sl (hm : Sl T a m c l ∈ L) (h : l.length = m → m ≤ c → c ≤ 9223372036854775807 → SG P f n κ K k al L) : SG P f n κ K k al L := fun a' w he hs => by
  obtain ⟨z, _, h1, h2, h3, _⟩ := hs.sl hm
  exact h h1 h2 h3 a' w he hs
theorem RL.sl (hm : Sl T a m c l ∈ L) (h : l.length = m → m ≤ c → c ≤ 9223372036854775807 → RL P f n κ K k ops rest al L) : RL P f n κ K k ops rest al L := fun a' w he hs => by
  obtain ⟨z, _, h1, h2, h3, _⟩ := hs.sl hm
  exact h h1 h2 h3 a' w he hs
theorem SG.buf (hp : Pick (Buf T e a m c l) L L1) (h : l.length = m → m ≤ c → c ≤ 9223372036854775807 → SG P f n κ K k al L) : SG P f n κ K k al L := fun a' w he hs => by
  obtain ⟨h1, h2, h3⟩ := hs.buf hp
  exact h h1 h2 h3 a' w he hs
theorem RL.ent (hL : Ent L L') (h : RL P f n κ K k ops rest al L') : RL P f n κ K k ops rest al L := h.weaken (EnvLe.refl _) hL
theorem SG.ent (hL : Ent L L') (h : SG P f n κ K k al L') : SG P f n κ K k al L := h.weaken (EnvLe.refl _) hL
/-- A fact that memory shows. -/
theorem Ctr.fact {args : Array Value} {p : Prop} (hp : ∀ w, Sep κ w L → p) (h : p → Ctr P f args κ L K) : Ctr P f args κ L K := fun w hs => h (hp w hs) w hs
theorem SG.fact {p : Prop} (hp : ∀ w, Sep κ w L → p) (h : p → SG P f n κ K k al L) : SG P f n κ K k al L := fun a' w he hs => h (hp w hs) a' w he hs
theorem RL.fact {p : Prop} (hp : ∀ w, Sep κ w L → p) (h : p → RL P f n κ K k ops rest al L) : RL P f n κ K k ops rest al L := fun a' w he hs => h (hp w hs) a' w he hs
theorem Pick.sl (hm : Sl T a m c l ∈ L) : Pick (Sl T a m c l) L L := Pick.ro hm
theorem Pick.rd {cs : List Value} {y : α} (hm : Rd T cs y ∈ L) : Pick (Rd T cs y) L L := Pick.ro hm

theorem RL.publish (hp : Pick (Buf T e a m c l) L L1) (h : RL P f n κ K k ops rest al (Sl T a m c l :: L1)) : RL P f n κ K k ops rest al L := RL.sep ⟨Buf.publish (fun h => h.ent hp), h⟩
theorem SG.publish (hp : Pick (Buf T e a m c l) L L1) (h : SG P f n κ K k al (Sl T a m c l :: L1)) : SG P f n κ K k al L := SG.sep ⟨Buf.publish (fun h => h.ent hp), h⟩

/- 4. BYTES AND STRINGS -/
theorem loadCells_bytes {w : World} {z : Frag} {b off : Nat} {l : List UInt8} (hz : z.le (Frag.of w)) (hr : Row z b off (l.map v8)) : (loadCells ⟨b, off, none⟩ l.length).run P w = .ok (l.map v8).toArray w := by
  have := run_loadCells_list (P := P) w ⟨b, off, none⟩ (l.map v8) (fun j u hj => by rw [addr_add]; exact cell_of_row hz hr hj)
  simpa using this

theorem foldl_push (l : List UInt8) (s : List UInt8) : l.foldl (fun (r : ByteArray) x => r.push x) ⟨⟨s⟩⟩ = ⟨⟨s ++ l⟩⟩ := by
  induction l generalizing s with
  | nil => simp
  | cons x l ih =>
    rw [List.foldl_cons, show (⟨⟨s⟩⟩ : ByteArray).push x = ⟨⟨s ++ [x]⟩⟩ from by simp [ByteArray.push], ih]
    simp

theorem run_bytesToS {w : World} {z : Frag} {b off cap : Nat} {l : List UInt8} (hz : z.le (Frag.of w)) (hr : Row z b off (l.map v8)) : (Conv.bytesToString (.slice (some ⟨b, off, none⟩) l.length cap)).run P w = .ok (vS l) w := by
  have h := run_bytesToString (P := P) w ⟨b, off, none⟩ l.length cap (l.map fun c => (c.toNat : Int))
    (by have := loadCells_bytes (P := P) hz hr; simpa [List.map_map, Function.comp_def] using this)
  rw [h]
  congr 2
  rw [List.foldl_map]
  have e : (fun (r : ByteArray) (c : UInt8) => r.push (UInt8.ofNat ((c.toNat : Int).toNat))) = fun r c => r.push c := by funext r c; simp
  rw [e]
  exact foldl_push l []

theorem V.bytesToS {S D E' : TypeId} {x : Operand} {l : List UInt8} (ho : o.op = .convert S D x) (hS : P.underlying S = some (.slice E')) (hE : P.underlying E' = some (.int .u8)) (hD : P.underlying D = some .string) (hx : ev al x = some (.slice a m c)) (hm : Sl R8 a m c l ∈ L) :
    OpV P n κ al L o (vS l) := fun a' w he hs => by
  obtain ⟨z, hz, h1, _, _, h4⟩ := hs.sl hm
  have hrun : (Conv.bytesToString (.slice a m c)).run P w = .ok (vS l) w := by
    rcases h4 with h4 | ⟨b, off, cs, rfl, hr, hrows⟩
    · subst h4
      have hl : l = [] := List.eq_nil_of_length_eq_zero h1
      subst hl
      cases a with
      | none => rfl
      | some a => simp [Conv.bytesToString, loadCells, loadCellsFrom]; rfl
    · obtain ⟨rfl, _⟩ := rows_sc.1 hrows
      rw [← h1]; exact run_bytesToS hz hr
  simp [execOp, ho, convert, run_underlying hS, run_underlying hD, run_underlying hE, he.ev hx, hrun]
end
end Go.Wk
