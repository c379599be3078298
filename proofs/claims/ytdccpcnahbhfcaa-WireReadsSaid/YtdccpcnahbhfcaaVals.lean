/- The values of the statements. -/
import Derived.Test.YtdccpcnahbhfcaaReaderb
import Derived.Test.YtdccpcnahbhfcaaOps2
namespace Go.Proofs.Ytdccpcnahbhfcaa
open Go.Wk Go.Wire


/-- A value of the statements. -/
structure Val where
  kind : UInt8
  u : UInt64
  n : Int
  b : Bool
  s : List UInt8
  l : List Int
def Val.ok (v : Val) : Prop := inInt v.n ∧ v.s.length ≤ 9223372036854775807 ∧ ∀ x ∈ v.l, inInt x
def Val.cells (v : Val) (a : Option Addr) (m c : Nat) : List Value := [v8 v.kind, v64 v.u, vI v.n, vB v.b, vS v.s, .slice a m c]
def RVal : Rep Val where
  sz := 6
  rep z cs v := ∃ a m c, (cs = v.cells a m c ∧ v.ok) ∧ SlP RI a m c v.l z
  mono h := fun ⟨a, m, c, e, s⟩ => ⟨a, m, c, e, s.mono h⟩
  len := fun ⟨_, _, _, e, _⟩ => by rw [e.1]; rfl
  one := fun ⟨_, _, _, e, _⟩ u hu => by
    rw [e.1] at hu; simp only [Val.cells, List.mem_cons, List.not_mem_nil, or_false] at hu
    rcases hu with rfl | rfl | rfl | rfl | rfl | rfl <;> rfl
section
variable {P : Program} {f : FuncId} {n : Nat} {κ : World} {K : Post} {k : List Item} {L L1 : List Assn} {al : List (Nat × Value)} {ops : Array Oper} {rest : List Oper} {us : List Value} {v : Val}
theorem RL.openVal (hp : Pick (Rd RVal us v) L L1) (h : ∀ a m c, us = v.cells a m c → v.ok → RL P f n κ K k ops rest al (Sl RI a m c v.l :: L1)) : RL P f n κ K k ops rest al L :=
  RL.roEx (ι := Option Addr × Nat × Nat) (p := fun x => us = v.cells x.1 x.2.1 x.2.2 ∧ v.ok) (R := fun x => SlP RI x.1 x.2.1 x.2.2 v.l) hp (fun _ ⟨a, m, c, e, s⟩ => ⟨(a, m, c), e, s⟩) fun _ e => h _ _ _ e.1 e.2
theorem RH.openVal {L0 : List Assn} {fuel : Nat} {listed : Array Bool} (hp : Pick (Rd RVal us v) L L1) (h : ∀ a m c, us = v.cells a m c → v.ok → RH P f n κ K k ops L0 fuel listed al (Sl RI a m c v.l :: L1)) : RH P f n κ K k ops L0 fuel listed al L :=
  RH.roEx (ι := Option Addr × Nat × Nat) (p := fun x => us = v.cells x.1 x.2.1 x.2.2 ∧ v.ok) (R := fun x => SlP RI x.1 x.2.1 x.2.2 v.l) hp (fun _ ⟨a, m, c, e, s⟩ => ⟨(a, m, c), e, s⟩) fun _ e => h _ _ _ e.1 e.2
theorem RVal.mk {a : Option Addr} {m c : Nat} (hm : Sl RI a m c v.l ∈ L) (hv : v.ok) : Ent L (Rd RVal (v.cells a m c) v :: L) := Ent.ro_mk hm fun _ h => ⟨a, m, c, ⟨rfl, hv⟩, h⟩
end
theorem Src.valLit {P : Program} {L L1 : List Assn} {a : Option Addr} {m c b E c' : Nat} {v : Val} (hp : Pick (Blk b E (v.cells a m c)) L L1) (hm : Rd RVal (v.cells a m c) v ∈ L) : Src P L RVal (.slice (some ⟨b, 0, none⟩) 1 c') [v] := Src.litRd hp hm

/-- At most 12 values, with strings and lists of at most 20. -/
def Val.cut (v : Val) : Val := { v with s := v.s.take 20, l := v.l.take 20 }
def fewV (l : List Val) : List Val := (l.take 12).map Val.cut
theorem fewV_succ {l : List Val} {i : Nat} (h : i < l.length) (h12 : i < 12) : fewV (l.take (i + 1)) = fewV (l.take i) ++ [(l[i]).cut] := by
  simp only [fewV, List.take_take]
  rw [Nat.min_eq_right (by omega), Nat.min_eq_right (by omega), List.take_add_one, List.getElem?_eq_getElem h]
  simp only [Option.toList_some, List.map_append, List.map_cons, List.map_nil]
theorem cut_ok {v : Val} (h : v.ok) : v.cut.ok := ⟨h.1, by have := h.2.1; simp [Val.cut]; omega, fun x hx => h.2.2 x (List.mem_of_mem_take hx)⟩
def Val.small (v : Val) : Prop := v.ok ∧ v.s.length ≤ 20 ∧ v.l.length ≤ 20
theorem cut_small {v : Val} (h : v.ok) : v.cut.small := ⟨cut_ok h, by simp [Val.cut]; omega, by simp [Val.cut]; omega⟩

/-- By the kind of a value. -/
def byKind {α : Type} (k : UInt8) (x0 x1 x2 x3 x4 : α) : α := match (k % 5).toNat with | 0 => x0 | 1 => x1 | 2 => x2 | 3 => x3 | _ => x4
section
variable {α : Type} {k : UInt8} {x0 x1 x2 x3 x4 : α}
theorem bk0 (h : ((k % 5).toNat : Int) = 0) : byKind k x0 x1 x2 x3 x4 = x0 := by unfold byKind; rw [show (k % 5).toNat = 0 from by omega]; rfl
theorem bk1 (h : ((k % 5).toNat : Int) = 1) : byKind k x0 x1 x2 x3 x4 = x1 := by unfold byKind; rw [show (k % 5).toNat = 1 from by omega]; rfl
theorem bk2 (h : ((k % 5).toNat : Int) = 2) : byKind k x0 x1 x2 x3 x4 = x2 := by unfold byKind; rw [show (k % 5).toNat = 2 from by omega]; rfl
theorem bk3 (h : ((k % 5).toNat : Int) = 3) : byKind k x0 x1 x2 x3 x4 = x3 := by unfold byKind; rw [show (k % 5).toNat = 3 from by omega]; rfl
theorem bk4 (h0 : ¬ ((k % 5).toNat : Int) = 0) (h1 : ¬ ((k % 5).toNat : Int) = 1) (h2 : ¬ ((k % 5).toNat : Int) = 2) (h3 : ¬ ((k % 5).toNat : Int) = 3) : byKind k x0 x1 x2 x3 x4 = x4 := by
  have h5 : (k % 5).toNat < 5 := by rw [UInt8.toNat_mod]; exact Nat.mod_lt _ (by decide)
  unfold byKind; rw [show (k % 5).toNat = 4 from by omega]; rfl
theorem bk_ind {p : α → Prop} (h0 : p x0) (h1 : p x1) (h2 : p x2) (h3 : p x3) (h4 : p x4) : p (byKind k x0 x1 x2 x3 x4) := by
  unfold byKind; split <;> assumption
end
def encV (v : Val) : List UInt8 := byKind v.kind (enc v.u) (enc (zig v.n)) (encBool v.b) (encText v.s) (encInts v.l)
def encVs (l : List Val) : List UInt8 := l.flatMap encV
theorem encV_length {v : Val} (h : v.small) : (encV v).length ≤ 300 := by
  obtain ⟨_, h1, h2⟩ := h
  have a := enc_length v.u; have b := enc_length (zig v.n); have c := enc_length (UInt64.ofNat v.s.length); have d := enc_length (UInt64.ofNat v.l.length); have e := encList_length v.l
  unfold encV encBool encText encInts
  refine bk_ind (p := fun x : List UInt8 => x.length ≤ 300) ?_ ?_ ?_ ?_ ?_ <;> first | omega | (simp only [List.length_append, List.length_cons, List.length_nil]; omega)
def Val.mid (v : Val) : Prop := v.ok ∧ v.s.length ≤ 1000 ∧ v.l.length ≤ 1000
theorem Val.small.mid {v : Val} (h : v.small) : v.mid := ⟨h.1, by have := h.2.1; omega, by have := h.2.2; omega⟩
theorem encV_mid {v : Val} (h : v.mid) : (encV v).length ≤ 20000 := by
  obtain ⟨_, h1, h2⟩ := h
  have a := enc_length v.u; have b := enc_length (zig v.n); have c := enc_length (UInt64.ofNat v.s.length); have d := enc_length (UInt64.ofNat v.l.length); have e := encList_length v.l
  unfold encV encBool encText encInts
  refine bk_ind (p := fun x : List UInt8 => x.length ≤ 20000) ?_ ?_ ?_ ?_ ?_ <;> first | omega | (simp only [List.length_append, List.length_cons, List.length_nil]; omega)
theorem encVs_length {l : List Val} (h : ∀ v ∈ l, v.small) : (encVs l).length ≤ 300 * l.length := by
  induction l with
  | nil => simp [encVs]
  | cons x l ih =>
    have h1 := encV_length (h x (List.mem_cons_self ..))
    have h2 := ih fun v hv => h v (List.mem_cons_of_mem _ hv)
    simp only [encVs, List.flatMap_cons, List.length_append, List.length_cons] at *
    omega
theorem encVs_snoc (l : List Val) (v : Val) : encVs (l ++ [v]) = encVs l ++ encV v := by simp [encVs]
/-- Equal, as values of one kind. -/
def sameV (a b : Val) : Bool := byKind a.kind (decide (a.u = b.u)) (decide (a.n = b.n)) (decide (a.b = b.b)) (decide (a.s = b.s)) (decide (a.l = b.l))

set_option maxRecDepth 100000 in
theorem few2_ok {κ : World} {L : List Assn} {a : Option Addr} {m c : Nat} {l : List Val} (hm : Sl RVal a m c l ∈ L) :
    Ctr Try.prog 11 #[.slice a m c] κ L (fun v M => ∃ a' k' c', v = .slice a' k' c' ∧ M = Buf RVal 34 a' k' c' (fewV l) :: L) := by
  refine Ctr.enter (vs := [.slice a m c]) (m := 33) Try.func11 rfl rfl rfl ?_
  refine SG.sl hm fun hl _ hc63 => ?_
  subst hl
  refine SG.seq ?_
  refine SG.region ?_
  refine RL.val (Wanted.free rfl) (V.assign rfl rfl) rfl ?_
  refine RL.nil ?_
  refine SG.seq ?_
  refine SG.region ?_
  refine RL.val (Wanted.free rfl) (V.assign rfl rfl) rfl ?_
  refine RL.nil ?_
  refine SG.seq ?_
  refine SG.seq ?_
  refine SG.region ?_
  refine RL.val (Wanted.free rfl) (V.assign rfl rfl) rfl ?_
  refine RL.nil ?_
  refine SG.block ?_
  refine SG.ent (Buf.nil (T := RVal) (e := 34)) ?_
  refine SG.weaken (SG.loop2 (fun m al M => ∃ (i : Nat) (a' : Option Addr) (k' c' : Nat), i ≤ l.length ∧ i ≤ 12 ∧ m = 12 - i ∧ al = [(0, .slice a l.length c), (3, .slice a' k' c'), (4, vI i)] ∧ M = Buf RVal 34 a' k' c' (fewV (l.take i)) :: L) (m0 := _) ⟨0, none, 0, 0, by omega, by omega, rfl, rfl, rfl⟩ ?_) ?_ ?_
  rotate_left
  · repeat (first | exact EnvLe.nil _ | refine EnvLe.cons rfl ?_)
  · repeat (first | exact Ent.refl _ | (apply Ent.cons; (· repeat (first | exact Pick.here | (refine Pick.sl ?_; (· repeat (first | exact List.Mem.head _ | assumption | apply List.Mem.tail))) | apply Pick.there))) | (refine Ent.trans (Ent.drop _ _) ?_))
  rintro _ _ _ ⟨i, a', k', c', hil, hi12, rfl, rfl, rfl⟩ ih0
  refine SG.buf (by repeat (first | exact Pick.here | apply Pick.there)) fun hk _ _ => ?_
  have hlen : (fewV (l.take i)).length ≤ i := by simp [fewV]; omega
  refine SG.seq ?_
  refine SG.seq ?_
  refine SG.region ?_
  refine RL.val (Wanted.free rfl) (V.move rfl rfl) rfl ?_
  refine RL.val (Wanted.free rfl) (V.move rfl rfl) rfl ?_
  refine RL.val (Wanted.free rfl) (V.len rfl rfl el22.under rfl) rfl ?_
  refine RL.cmp (Wanted.free rfl) (V.bin rfl rfl rfl B.lss) rfl (fun h7 => ?_) (fun h7 => ?_)
  · skip
    refine RL.val (Wanted.free rfl) (V.move rfl rfl) rfl ?_
    refine RL.val (Wanted.yes rfl rfl rfl rfl) (V.move rfl rfl) rfl ?_
    refine RL.cmp (Wanted.yes rfl rfl rfl rfl) (V.bin rfl rfl rfl B.lss) rfl (fun h10 => ?_) (fun h10 => ?_)
    · skip
      refine RL.val (Wanted.free rfl) (V.pick_true rfl rfl rfl) rfl ?_
      refine RL.nil ?_
      refine SG.cond_true rfl ?_
      refine SG.skip ?_
      refine SG.seq ?_
      refine SG.block ?_
      refine SG.seq ?_
      refine SG.region ?_
      refine RL.val (Wanted.free rfl) (V.move rfl rfl) rfl ?_
      refine RL.val (Wanted.free rfl) (V.move rfl rfl) rfl ?_
      refine RL.val (Wanted.free rfl) (V.indexSl rfl el22.slice rfl rfl (by repeat (first | exact List.Mem.head _ | assumption | apply List.Mem.tail)) (by first | rfl | omega) (by omega)) rfl ?_
      refine RL.eff (Wanted.free rfl) (E.loadElem rfl ag34 rfl (by repeat (first | exact List.Mem.head _ | assumption | apply List.Mem.tail)) (List.getElem?_eq_getElem (by omega))) rfl ?_
      rintro _ _ ⟨us, rfl, rfl⟩
      refine RL.openVal (by repeat (first | exact Pick.here | apply Pick.there)) fun a1 m1 c1 hus hok => ?_
      subst hus
      refine RL.eff (Wanted.free rfl) (E.alloc rfl ze34) rfl ?_
      rintro _ _ ⟨b15, rfl, rfl⟩
      refine RL.eff (Wanted.free rfl) (E.storeAgg rfl rfl rfl rfl sz34 (by repeat (first | exact Pick.here | apply Pick.there)) (by simp [Val.cells, Value.oneCell']) (by simp [Val.cells])) rfl ?_
      rintro _ _ rfl
      refine RL.nil ?_
      refine SG.seq ?_
      refine SG.region ?_
      refine RL.val (Wanted.free rfl) (V.fieldAddr rfl rfl fo34_4) rfl ?_
      refine RL.val (Wanted.free rfl) (V.load rfl on9 rfl (by repeat (first | exact Pick.here | apply Pick.there)) rfl) rfl ?_
      refine RL.eff (Wanted.free rfl) (E.call rfl go28 rfl (short_ok (by omega))) rfl ?_
      rintro _ _ ⟨rfl, rfl⟩
      refine RL.val (Wanted.free rfl) (V.fieldAddr rfl rfl fo34_4) rfl ?_
      refine RL.eff (Wanted.free rfl) (E.store1 rfl rfl rfl rfl rfl sz9 (by repeat (first | exact Pick.here | apply Pick.there)) rfl) rfl ?_
      rintro _ _ rfl
      refine RL.nil ?_
      refine SG.seq ?_
      refine SG.region ?_
      refine RL.val (Wanted.free rfl) (V.fieldAddr rfl rfl fo34_5) rfl ?_
      refine RL.val (Wanted.free rfl) (V.load rfl on32 rfl (by repeat (first | exact Pick.here | apply Pick.there)) rfl) rfl ?_
      refine RL.eff (Wanted.free rfl) (E.call rfl go29 rfl (copied_ok (by repeat (first | exact List.Mem.head _ | assumption | apply List.Mem.tail)) (by omega) (by omega))) rfl ?_
      rintro _ _ ⟨a2, k2, c2, rfl, rfl⟩
      refine RL.publish (by repeat (first | exact Pick.here | apply Pick.there)) ?_
      refine RL.val (Wanted.free rfl) (V.fieldAddr rfl rfl fo34_5) rfl ?_
      refine RL.eff (Wanted.free rfl) (E.store1 rfl rfl rfl rfl rfl sz32 (by repeat (first | exact Pick.here | apply Pick.there)) rfl) rfl ?_
      rintro _ _ rfl
      refine RL.nil ?_
      refine SG.region ?_
      refine RL.val (Wanted.free rfl) (V.move rfl rfl) rfl ?_
      refine RL.val (Wanted.free rfl) (V.loadAgg (us := (l[i]).cut.cells a2 k2 c2) rfl ag34 rfl (by repeat (first | exact Pick.here | apply Pick.there)) rfl rfl) rfl ?_
      refine RL.eff (Wanted.free rfl) (E.lit1 ((l[i]).cut.cells a2 k2 c2) rfl el22.slice ze34 rfl (by decide) (by decide) rfl rfl rfl) rfl ?_
      rintro _ _ ⟨b3, rfl, rfl⟩
      refine RL.ent (RVal.mk (v := (l[i]).cut) (by repeat (first | exact List.Mem.head _ | assumption | apply List.Mem.tail)) (cut_ok hok)) ?_
      refine RL.eff (Wanted.free rfl) (E.append (T := RVal) rfl rfl rfl el22 el22.noInt rfl rfl (by repeat (first | exact Pick.here | apply Pick.there)) (Src.valLit (by repeat (first | exact Pick.here | apply Pick.there)) (by repeat (first | exact List.Mem.head _ | assumption | apply List.Mem.tail))) (by first | omega | (simp; omega)) (by first | omega | (simp; omega))) rfl ?_
      intro _ _ hK30
      try rw [List.nil_append] at hK30
      try rw [Nat.zero_add] at hK30
      obtain ⟨a9, c9, rfl, rfl⟩ := hK30
      refine RL.val (Wanted.free rfl) (V.assign rfl rfl) rfl ?_
      refine RL.nil ?_
      refine SG.inBlock ?_
      refine SG.region ?_
      refine RL.val (Wanted.free rfl) (V.move rfl rfl) rfl ?_
      refine RL.val (Wanted.free rfl) (V.bin rfl rfl rfl (B.addI (by omega) (by omega))) rfl ?_
      refine RL.val (Wanted.free rfl) (V.assign rfl rfl) rfl ?_
      refine RL.nil ?_
      refine SG.weaken (ih0 _ _ _ ?_ ⟨i + 1, a9, k' + 1, c9, by omega, by omega, rfl, rfl, rfl⟩) ?_ ?_
      · omega
      · repeat (first | exact EnvLe.nil _ | refine EnvLe.cons rfl ?_)
      · rw [fewV_succ (by omega) (by omega)]
        repeat (first | exact Ent.refl _ | (apply Ent.cons; (· repeat (first | exact Pick.here | (refine Pick.sl ?_; (· repeat (first | exact List.Mem.head _ | assumption | apply List.Mem.tail))) | apply Pick.there))) | (refine Ent.trans (Ent.drop _ _) ?_))
    · skip
      refine RL.val (Wanted.free rfl) (V.pick_true rfl rfl rfl) rfl ?_
      refine RL.nil ?_
      refine SG.cond_false rfl ?_
      refine SG.exit rfl ?_
      refine SG.seq ?_
      refine SG.region ?_
      refine RL.val (Wanted.free rfl) (V.move rfl rfl) rfl ?_
      refine RL.val (Wanted.free rfl) (V.assign rfl rfl) rfl ?_
      refine RL.nil ?_
      rw [show fewV (l.take i) = fewV l from by
        simp only [fewV, List.take_take]
        congr 1
        rw [List.take_eq_take_iff]; omega]
      refine SG.retE (Ret.r1 Try.func11 rfl (.tmp rfl)) ?_ ⟨_, _, _, rfl, rfl⟩
      repeat (first | exact Ent.refl _ | (apply Ent.cons; (· repeat (first | exact Pick.here | (refine Pick.sl ?_; (· repeat (first | exact List.Mem.head _ | assumption | apply List.Mem.tail))) | apply Pick.there))) | (refine Ent.trans (Ent.drop _ _) ?_))
  · skip
    refine RL.val (Wanted.free rfl) (V.move rfl rfl) rfl ?_
    refine RL.skip (Wanted.no rfl rfl rfl rfl rfl) rfl ?_
    refine RL.skip (Wanted.no rfl rfl rfl rfl rfl) rfl ?_
    refine RL.val (Wanted.free rfl) (V.pick_false rfl rfl rfl) rfl ?_
    refine RL.nil ?_
    refine SG.cond_false rfl ?_
    refine SG.exit rfl ?_
    refine SG.seq ?_
    refine SG.region ?_
    refine RL.val (Wanted.free rfl) (V.move rfl rfl) rfl ?_
    refine RL.val (Wanted.free rfl) (V.assign rfl rfl) rfl ?_
    refine RL.nil ?_
    rw [show fewV (l.take i) = fewV l from by
      simp only [fewV, List.take_take]
      congr 1
      rw [List.take_eq_take_iff]; omega]
    refine SG.retE (Ret.r1 Try.func11 rfl (.tmp rfl)) ?_ ⟨_, _, _, rfl, rfl⟩
    repeat (first | exact Ent.refl _ | (apply Ent.cons; (· repeat (first | exact Pick.here | (refine Pick.sl ?_; (· repeat (first | exact List.Mem.head _ | assumption | apply List.Mem.tail))) | apply Pick.there))) | (refine Ent.trans (Ent.drop _ _) ?_))

set_option maxRecDepth 100000 in
theorem write_ok {κ : World} {L : List Assn} {L1 : List Assn} {b : Nat} {l : List UInt8} (v : Val) {a : Option Addr} {m c : Nat} (hp : Pick (Wr b l) L L1) (hm : Sl RI a m c v.l ∈ L1) (hv : v.mid) (hb : l.length + 20000 ≤ 1000000000) :
    Ctr Try.prog 12 #[ptr b 0, .agg #[v8 v.kind, v64 v.u, vI v.n, vB v.b, vS v.s, .slice a m c]] κ L (fun r M => r = .tuple #[] ∧ M = Wr b (l ++ encV v) :: L1) := by
  refine Ctr.enter (vs := [ptr b 0, .agg #[v8 v.kind, v64 v.u, vI v.n, vB v.b, vS v.s, .slice a m c]]) (m := 35) Try.func12 rfl rfl rfl ?_
  obtain ⟨⟨hn1, hn2, hn3⟩, hv2, hv3⟩ := hv
  refine SG.ent hp ?_
  have hm2 : Sl RI a m c v.l ∈ Wr b l :: L1 := List.Mem.tail _ hm
  refine SG.seq ?_
  refine SG.region ?_
  refine RL.eff (Wanted.free rfl) (E.box _ rfl rfl rfl) rfl ?_
  rintro _ _ ⟨b1, rfl, rfl⟩
  refine RL.nil ?_
  refine SG.seq ?_
  refine SG.region ?_
  refine RL.val (Wanted.free rfl) (V.fieldAddr rfl rfl fo34_0) rfl ?_
  refine RL.val (Wanted.free rfl) (V.load rfl on5 rfl (by repeat (first | exact Pick.here | apply Pick.there)) rfl) rfl ?_
  refine RL.val (Wanted.free rfl) (V.bin rfl rfl rfl (B.rem8 (y := 5) (by decide))) rfl ?_
  refine RL.nil ?_
  refine SG.block ?_
  refine SG.seq ?_
  refine SG.region ?_
  refine RL.cmp (Wanted.free rfl) (V.bin rfl rfl rfl B.eql) rfl (fun h5 => ?_) (fun h5 => ?_)
  · skip
    refine RL.val (Wanted.free rfl) (V.assign rfl rfl) rfl ?_
    refine RL.nil ?_
    refine SG.cond_true rfl ?_
    refine SG.region ?_
    refine RL.val (Wanted.free rfl) (V.move rfl rfl) rfl ?_
    refine RL.val (Wanted.free rfl) (V.fieldAddr rfl rfl fo34_1) rfl ?_
    refine RL.val (Wanted.free rfl) (V.load rfl on31 rfl (by repeat (first | exact Pick.here | apply Pick.there)) rfl) rfl ?_
    refine RL.eff (Wanted.free rfl) (E.call rfl go30 rfl (wUint_ok _ (by repeat (first | exact Pick.here | apply Pick.there)) (by omega))) rfl ?_
    rintro _ _ ⟨rfl, rfl⟩
    refine RL.nil ?_
    refine SG.inBlock ?_
    refine SG.doneE (Ret.none Try.func12 rfl) ?_ ⟨rfl, rfl⟩
    rw [show encV v = _ from bk0 (by omega)]
    repeat (first | exact Ent.refl _ | (apply Ent.cons; (· repeat (first | exact Pick.here | (refine Pick.sl ?_; (· repeat (first | exact List.Mem.head _ | assumption | apply List.Mem.tail))) | apply Pick.there))) | (refine Ent.trans (Ent.drop _ _) ?_))
  · skip
    refine RL.val (Wanted.free rfl) (V.assign rfl rfl) rfl ?_
    refine RL.nil ?_
    refine SG.cond_false rfl ?_
    refine SG.seq ?_
    refine SG.region ?_
    refine RL.cmp (Wanted.free rfl) (V.bin rfl rfl rfl B.eql) rfl (fun h12 => ?_) (fun h12 => ?_)
    · skip
      refine RL.val (Wanted.free rfl) (V.assign rfl rfl) rfl ?_
      refine RL.nil ?_
      refine SG.cond_true rfl ?_
      refine SG.region ?_
      refine RL.val (Wanted.free rfl) (V.move rfl rfl) rfl ?_
      refine RL.val (Wanted.free rfl) (V.fieldAddr rfl rfl fo34_2) rfl ?_
      refine RL.val (Wanted.free rfl) (V.load rfl on3 rfl (by repeat (first | exact Pick.here | apply Pick.there)) rfl) rfl ?_
      refine RL.eff (Wanted.free rfl) (E.call rfl go31 rfl (wInt_ok _ (by repeat (first | exact Pick.here | apply Pick.there)) (by omega) hn1.1 hn1.2)) rfl ?_
      rintro _ _ ⟨rfl, rfl⟩
      refine RL.nil ?_
      refine SG.inBlock ?_
      refine SG.doneE (Ret.none Try.func12 rfl) ?_ ⟨rfl, rfl⟩
      rw [show encV v = _ from bk1 (by omega)]
      repeat (first | exact Ent.refl _ | (apply Ent.cons; (· repeat (first | exact Pick.here | (refine Pick.sl ?_; (· repeat (first | exact List.Mem.head _ | assumption | apply List.Mem.tail))) | apply Pick.there))) | (refine Ent.trans (Ent.drop _ _) ?_))
    · skip
      refine RL.val (Wanted.free rfl) (V.assign rfl rfl) rfl ?_
      refine RL.nil ?_
      refine SG.cond_false rfl ?_
      refine SG.seq ?_
      refine SG.region ?_
      refine RL.cmp (Wanted.free rfl) (V.bin rfl rfl rfl B.eql) rfl (fun h19 => ?_) (fun h19 => ?_)
      · skip
        refine RL.val (Wanted.free rfl) (V.assign rfl rfl) rfl ?_
        refine RL.nil ?_
        refine SG.cond_true rfl ?_
        refine SG.region ?_
        refine RL.val (Wanted.free rfl) (V.move rfl rfl) rfl ?_
        refine RL.val (Wanted.free rfl) (V.fieldAddr rfl rfl fo34_3) rfl ?_
        refine RL.val (Wanted.free rfl) (V.load rfl on4 rfl (by repeat (first | exact Pick.here | apply Pick.there)) rfl) rfl ?_
        refine RL.eff (Wanted.free rfl) (E.call rfl go32 rfl (wBool_ok _ (by repeat (first | exact Pick.here | apply Pick.there)) (by omega))) rfl ?_
        rintro _ _ ⟨rfl, rfl⟩
        refine RL.nil ?_
        refine SG.inBlock ?_
        refine SG.doneE (Ret.none Try.func12 rfl) ?_ ⟨rfl, rfl⟩
        rw [show encV v = _ from bk2 (by omega)]
        repeat (first | exact Ent.refl _ | (apply Ent.cons; (· repeat (first | exact Pick.here | (refine Pick.sl ?_; (· repeat (first | exact List.Mem.head _ | assumption | apply List.Mem.tail))) | apply Pick.there))) | (refine Ent.trans (Ent.drop _ _) ?_))
      · skip
        refine RL.val (Wanted.free rfl) (V.assign rfl rfl) rfl ?_
        refine RL.nil ?_
        refine SG.cond_false rfl ?_
        refine SG.seq ?_
        refine SG.region ?_
        refine RL.cmp (Wanted.free rfl) (V.bin rfl rfl rfl B.eql) rfl (fun h26 => ?_) (fun h26 => ?_)
        · skip
          refine RL.val (Wanted.free rfl) (V.assign rfl rfl) rfl ?_
          refine RL.nil ?_
          refine SG.cond_true rfl ?_
          refine SG.region ?_
          refine RL.val (Wanted.free rfl) (V.move rfl rfl) rfl ?_
          refine RL.val (Wanted.free rfl) (V.fieldAddr rfl rfl fo34_4) rfl ?_
          refine RL.val (Wanted.free rfl) (V.load rfl on9 rfl (by repeat (first | exact Pick.here | apply Pick.there)) rfl) rfl ?_
          refine RL.eff (Wanted.free rfl) (E.call rfl go33 rfl (wText_ok _ (by repeat (first | exact Pick.here | apply Pick.there)) (by omega))) rfl ?_
          rintro _ _ ⟨rfl, rfl⟩
          refine RL.nil ?_
          refine SG.inBlock ?_
          refine SG.doneE (Ret.none Try.func12 rfl) ?_ ⟨rfl, rfl⟩
          rw [show encV v = _ from bk3 (by omega)]
          repeat (first | exact Ent.refl _ | (apply Ent.cons; (· repeat (first | exact Pick.here | (refine Pick.sl ?_; (· repeat (first | exact List.Mem.head _ | assumption | apply List.Mem.tail))) | apply Pick.there))) | (refine Ent.trans (Ent.drop _ _) ?_))
        · skip
          refine RL.val (Wanted.free rfl) (V.assign rfl rfl) rfl ?_
          refine RL.nil ?_
          refine SG.cond_false rfl ?_
          refine SG.region ?_
          refine RL.val (Wanted.free rfl) (V.move rfl rfl) rfl ?_
          refine RL.val (Wanted.free rfl) (V.fieldAddr rfl rfl fo34_5) rfl ?_
          refine RL.val (Wanted.free rfl) (V.load rfl on32 rfl (by repeat (first | exact Pick.here | apply Pick.there)) rfl) rfl ?_
          refine RL.eff (Wanted.free rfl) (E.call rfl go34 rfl (wInts_ok (by repeat (first | exact Pick.here | apply Pick.there)) (by repeat (first | exact hm | exact hm2 | exact List.Mem.head _ | apply List.Mem.tail)) hn3 (by omega))) rfl ?_
          rintro _ _ ⟨rfl, rfl⟩
          refine RL.nil ?_
          refine SG.inBlock ?_
          refine SG.doneE (Ret.none Try.func12 rfl) ?_ ⟨rfl, rfl⟩
          rw [show encV v = _ from bk4 (by omega) (by omega) (by omega) (by omega)]
          repeat (first | exact Ent.refl _ | (apply Ent.cons; (· repeat (first | exact Pick.here | (refine Pick.sl ?_; (· repeat (first | exact List.Mem.head _ | assumption | apply List.Mem.tail))) | apply Pick.there))) | (refine Ent.trans (Ent.drop _ _) ?_))

set_option maxRecDepth 100000 in
theorem encoding_ok {κ : World} {L : List Assn} (v : Val) {a : Option Addr} {m c : Nat} (hm : Sl RI a m c v.l ∈ L) (hv : v.small) :
    Ctr Try.prog 13 #[.agg #[v8 v.kind, v64 v.u, vI v.n, vB v.b, vS v.s, .slice a m c]] κ L (fun r M => ∃ a' k' c', r = .slice a' k' c' ∧ M = Buf R8 5 a' k' c' (encV v) :: L) := by
  refine Ctr.enter (vs := [.agg #[v8 v.kind, v64 v.u, vI v.n, vB v.b, vS v.s, .slice a m c]]) (m := 29) Try.func13 rfl rfl rfl ?_
  obtain ⟨⟨hn1, hn2, hn3⟩, hv2, hv3⟩ := hv
  refine SG.seq ?_
  refine SG.region ?_
  refine RL.eff (Wanted.free rfl) (E.box _ rfl rfl rfl) rfl ?_
  rintro _ _ ⟨b1, rfl, rfl⟩
  refine RL.val (Wanted.free rfl) (V.assign rfl rfl) rfl ?_
  refine RL.nil ?_
  refine SG.seq ?_
  refine SG.seq ?_
  refine SG.region ?_
  refine RL.val (Wanted.free rfl) (V.fieldAddr rfl rfl fo34_0) rfl ?_
  refine RL.val (Wanted.free rfl) (V.load rfl on5 rfl (by repeat (first | exact Pick.here | apply Pick.there)) rfl) rfl ?_
  refine RL.val (Wanted.free rfl) (V.bin rfl rfl rfl (B.rem8 (y := 5) (by decide))) rfl ?_
  refine RL.nil ?_
  refine SG.block ?_
  refine SG.seq ?_
  refine SG.region ?_
  refine RL.cmp (Wanted.free rfl) (V.bin rfl rfl rfl B.eql) rfl (fun h6 => ?_) (fun h6 => ?_)
  · skip
    refine RL.val (Wanted.free rfl) (V.assign rfl rfl) rfl ?_
    refine RL.nil ?_
    refine SG.cond_true rfl ?_
    refine SG.seq ?_
    refine SG.region ?_
    refine RL.val (Wanted.free rfl) (V.fieldAddr rfl rfl fo34_1) rfl ?_
    refine RL.val (Wanted.free rfl) (V.load rfl on31 rfl (by repeat (first | exact Pick.here | apply Pick.there)) rfl) rfl ?_
    refine RL.eff (Wanted.free rfl) (E.call rfl go35 rfl (refUint_ok _)) rfl ?_
    rintro _ _ ⟨a10, k10, c10, rfl, rfl⟩
    refine RL.val (Wanted.free rfl) (V.assign rfl rfl) rfl ?_
    refine RL.nil ?_
    refine SG.retE (Ret.r1 Try.func13 rfl (.tmp rfl)) ?_ ⟨_, _, _, rfl, rfl⟩
    rw [show encV v = _ from bk0 (by omega)]
    repeat (first | exact Ent.refl _ | (apply Ent.cons; (· repeat (first | exact Pick.here | (refine Pick.sl ?_; (· repeat (first | exact List.Mem.head _ | assumption | apply List.Mem.tail))) | apply Pick.there))) | (refine Ent.trans (Ent.drop _ _) ?_))
  · skip
    refine RL.val (Wanted.free rfl) (V.assign rfl rfl) rfl ?_
    refine RL.nil ?_
    refine SG.cond_false rfl ?_
    refine SG.seq ?_
    refine SG.region ?_
    refine RL.cmp (Wanted.free rfl) (V.bin rfl rfl rfl B.eql) rfl (fun h13 => ?_) (fun h13 => ?_)
    · skip
      refine RL.val (Wanted.free rfl) (V.assign rfl rfl) rfl ?_
      refine RL.nil ?_
      refine SG.cond_true rfl ?_
      refine SG.seq ?_
      refine SG.region ?_
      refine RL.val (Wanted.free rfl) (V.fieldAddr rfl rfl fo34_2) rfl ?_
      refine RL.val (Wanted.free rfl) (V.load rfl on3 rfl (by repeat (first | exact Pick.here | apply Pick.there)) rfl) rfl ?_
      refine RL.eff (Wanted.free rfl) (E.call rfl go36 rfl (refInt_ok _ hn1.1 hn1.2)) rfl ?_
      rintro _ _ ⟨a17, k17, c17, rfl, rfl⟩
      refine RL.val (Wanted.free rfl) (V.assign rfl rfl) rfl ?_
      refine RL.nil ?_
      refine SG.retE (Ret.r1 Try.func13 rfl (.tmp rfl)) ?_ ⟨_, _, _, rfl, rfl⟩
      rw [show encV v = _ from bk1 (by omega)]
      repeat (first | exact Ent.refl _ | (apply Ent.cons; (· repeat (first | exact Pick.here | (refine Pick.sl ?_; (· repeat (first | exact List.Mem.head _ | assumption | apply List.Mem.tail))) | apply Pick.there))) | (refine Ent.trans (Ent.drop _ _) ?_))
    · skip
      refine RL.val (Wanted.free rfl) (V.assign rfl rfl) rfl ?_
      refine RL.nil ?_
      refine SG.cond_false rfl ?_
      refine SG.seq ?_
      refine SG.region ?_
      refine RL.cmp (Wanted.free rfl) (V.bin rfl rfl rfl B.eql) rfl (fun h20 => ?_) (fun h20 => ?_)
      · skip
        refine RL.val (Wanted.free rfl) (V.assign rfl rfl) rfl ?_
        refine RL.nil ?_
        refine SG.cond_true rfl ?_
        refine SG.seq ?_
        refine SG.region ?_
        refine RL.val (Wanted.free rfl) (V.fieldAddr rfl rfl fo34_3) rfl ?_
        refine RL.val (Wanted.free rfl) (V.load rfl on4 rfl (by repeat (first | exact Pick.here | apply Pick.there)) rfl) rfl ?_
        refine RL.eff (Wanted.free rfl) (E.call rfl go37 rfl (refBool_ok _)) rfl ?_
        rintro _ _ ⟨a24, k24, c24, rfl, rfl⟩
        refine RL.val (Wanted.free rfl) (V.assign rfl rfl) rfl ?_
        refine RL.nil ?_
        refine SG.retE (Ret.r1 Try.func13 rfl (.tmp rfl)) ?_ ⟨_, _, _, rfl, rfl⟩
        rw [show encV v = _ from bk2 (by omega)]
        repeat (first | exact Ent.refl _ | (apply Ent.cons; (· repeat (first | exact Pick.here | (refine Pick.sl ?_; (· repeat (first | exact List.Mem.head _ | assumption | apply List.Mem.tail))) | apply Pick.there))) | (refine Ent.trans (Ent.drop _ _) ?_))
      · skip
        refine RL.val (Wanted.free rfl) (V.assign rfl rfl) rfl ?_
        refine RL.nil ?_
        refine SG.cond_false rfl ?_
        refine SG.seq ?_
        refine SG.region ?_
        refine RL.cmp (Wanted.free rfl) (V.bin rfl rfl rfl B.eql) rfl (fun h27 => ?_) (fun h27 => ?_)
        · skip
          refine RL.val (Wanted.free rfl) (V.assign rfl rfl) rfl ?_
          refine RL.nil ?_
          refine SG.cond_true rfl ?_
          refine SG.seq ?_
          refine SG.region ?_
          refine RL.val (Wanted.free rfl) (V.fieldAddr rfl rfl fo34_4) rfl ?_
          refine RL.val (Wanted.free rfl) (V.load rfl on9 rfl (by repeat (first | exact Pick.here | apply Pick.there)) rfl) rfl ?_
          refine RL.eff (Wanted.free rfl) (E.call rfl go38 rfl (refText_ok _ (by omega))) rfl ?_
          rintro _ _ ⟨a31, k31, c31, rfl, rfl⟩
          refine RL.val (Wanted.free rfl) (V.assign rfl rfl) rfl ?_
          refine RL.nil ?_
          refine SG.retE (Ret.r1 Try.func13 rfl (.tmp rfl)) ?_ ⟨_, _, _, rfl, rfl⟩
          rw [show encV v = _ from bk3 (by omega)]
          repeat (first | exact Ent.refl _ | (apply Ent.cons; (· repeat (first | exact Pick.here | (refine Pick.sl ?_; (· repeat (first | exact List.Mem.head _ | assumption | apply List.Mem.tail))) | apply Pick.there))) | (refine Ent.trans (Ent.drop _ _) ?_))
        · skip
          refine RL.val (Wanted.free rfl) (V.assign rfl rfl) rfl ?_
          refine RL.nil ?_
          refine SG.cond_false rfl ?_
          refine SG.skip ?_
          refine SG.inBlock ?_
          refine SG.seq ?_
          refine SG.region ?_
          refine RL.val (Wanted.free rfl) (V.fieldAddr rfl rfl fo34_5) rfl ?_
          refine RL.val (Wanted.free rfl) (V.load rfl on32 rfl (by repeat (first | exact Pick.here | apply Pick.there)) rfl) rfl ?_
          refine RL.eff (Wanted.free rfl) (E.call rfl go39 rfl (refInts_ok (by repeat (first | exact List.Mem.head _ | assumption | apply List.Mem.tail)) hn3 (by omega))) rfl ?_
          rintro _ _ ⟨a36, k36, c36, rfl, rfl⟩
          refine RL.val (Wanted.free rfl) (V.assign rfl rfl) rfl ?_
          refine RL.nil ?_
          refine SG.retE (Ret.r1 Try.func13 rfl (.tmp rfl)) ?_ ⟨_, _, _, rfl, rfl⟩
          rw [show encV v = _ from bk4 (by omega) (by omega) (by omega) (by omega)]
          repeat (first | exact Ent.refl _ | (apply Ent.cons; (· repeat (first | exact Pick.here | (refine Pick.sl ?_; (· repeat (first | exact List.Mem.head _ | assumption | apply List.Mem.tail))) | apply Pick.there))) | (refine Ent.trans (Ent.drop _ _) ?_))

set_option maxRecDepth 100000 in
theorem same_ok {κ : World} {L : List Assn} (v v' : Val) {a a' : Option Addr} {m c m' c' : Nat} (hm : Sl RI a m c v.l ∈ L) (hm' : Sl RI a' m' c' v'.l ∈ L) :
    Ctr Try.prog 18 #[.agg #[v8 v.kind, v64 v.u, vI v.n, vB v.b, vS v.s, .slice a m c], .agg #[v8 v'.kind, v64 v'.u, vI v'.n, vB v'.b, vS v'.s, .slice a' m' c']] κ L (fun r M => r = vB (sameV v v') ∧ M = L) := by
  refine Ctr.enter (vs := [.agg #[v8 v.kind, v64 v.u, vI v.n, vB v.b, vS v.s, .slice a m c], .agg #[v8 v'.kind, v64 v'.u, vI v'.n, vB v'.b, vS v'.s, .slice a' m' c']]) (m := 41) Try.func18 rfl rfl rfl ?_
  refine SG.seq ?_
  refine SG.region ?_
  refine RL.eff (Wanted.free rfl) (E.box _ rfl rfl rfl) rfl ?_
  rintro _ _ ⟨b1, rfl, rfl⟩
  refine RL.eff (Wanted.free rfl) (E.box _ rfl rfl rfl) rfl ?_
  rintro _ _ ⟨b2, rfl, rfl⟩
  refine RL.val (Wanted.free rfl) (V.assign rfl rfl) rfl ?_
  refine RL.nil ?_
  refine SG.seq ?_
  refine SG.seq ?_
  refine SG.region ?_
  refine RL.val (Wanted.free rfl) (V.fieldAddr rfl rfl fo34_0) rfl ?_
  refine RL.val (Wanted.free rfl) (V.load rfl on5 rfl (by repeat (first | exact Pick.here | apply Pick.there)) rfl) rfl ?_
  refine RL.val (Wanted.free rfl) (V.bin rfl rfl rfl (B.rem8 (y := 5) (by decide))) rfl ?_
  refine RL.nil ?_
  refine SG.block ?_
  refine SG.seq ?_
  refine SG.region ?_
  refine RL.cmp (Wanted.free rfl) (V.bin rfl rfl rfl B.eql) rfl (fun h7 => ?_) (fun h7 => ?_)
  · skip
    refine RL.val (Wanted.free rfl) (V.assign rfl rfl) rfl ?_
    refine RL.nil ?_
    refine SG.cond_true rfl ?_
    refine SG.seq ?_
    refine SG.region ?_
    refine RL.val (Wanted.free rfl) (V.fieldAddr rfl rfl fo34_1) rfl ?_
    refine RL.val (Wanted.free rfl) (V.load rfl on31 rfl (by repeat (first | exact Pick.here | apply Pick.there)) rfl) rfl ?_
    refine RL.val (Wanted.free rfl) (V.fieldAddr rfl rfl fo34_1) rfl ?_
    refine RL.val (Wanted.free rfl) (V.load rfl on31 rfl (by repeat (first | exact Pick.here | apply Pick.there)) rfl) rfl ?_
    refine RL.val (Wanted.free rfl) (V.bin rfl rfl rfl B.eql) rfl ?_
    refine RL.val (Wanted.free rfl) (V.assign rfl rfl) rfl ?_
    refine RL.nil ?_
    refine SG.retE (Ret.r1 Try.func18 rfl (.tmp rfl)) ?_ ⟨by rw [show sameV v v' = _ from bk0 (by omega)]; congr 1; exact decide_eq_decide.2 (by constructor <;> intro h; exact UInt64.toNat_inj.1 (by omega); rw [h]), rfl⟩
    repeat (first | exact Ent.refl _ | (apply Ent.cons; (· repeat (first | exact Pick.here | (refine Pick.sl ?_; (· repeat (first | exact List.Mem.head _ | assumption | apply List.Mem.tail))) | apply Pick.there))) | (refine Ent.trans (Ent.drop _ _) ?_))
  · skip
    refine RL.val (Wanted.free rfl) (V.assign rfl rfl) rfl ?_
    refine RL.nil ?_
    refine SG.cond_false rfl ?_
    refine SG.seq ?_
    refine SG.region ?_
    refine RL.cmp (Wanted.free rfl) (V.bin rfl rfl rfl B.eql) rfl (fun h16 => ?_) (fun h16 => ?_)
    · skip
      refine RL.val (Wanted.free rfl) (V.assign rfl rfl) rfl ?_
      refine RL.nil ?_
      refine SG.cond_true rfl ?_
      refine SG.seq ?_
      refine SG.region ?_
      refine RL.val (Wanted.free rfl) (V.fieldAddr rfl rfl fo34_2) rfl ?_
      refine RL.val (Wanted.free rfl) (V.load rfl on3 rfl (by repeat (first | exact Pick.here | apply Pick.there)) rfl) rfl ?_
      refine RL.val (Wanted.free rfl) (V.fieldAddr rfl rfl fo34_2) rfl ?_
      refine RL.val (Wanted.free rfl) (V.load rfl on3 rfl (by repeat (first | exact Pick.here | apply Pick.there)) rfl) rfl ?_
      refine RL.val (Wanted.free rfl) (V.bin rfl rfl rfl B.eql) rfl ?_
      refine RL.val (Wanted.free rfl) (V.assign rfl rfl) rfl ?_
      refine RL.nil ?_
      refine SG.retE (Ret.r1 Try.func18 rfl (.tmp rfl)) ?_ ⟨by rw [show sameV v v' = _ from bk1 (by omega)], rfl⟩
      repeat (first | exact Ent.refl _ | (apply Ent.cons; (· repeat (first | exact Pick.here | (refine Pick.sl ?_; (· repeat (first | exact List.Mem.head _ | assumption | apply List.Mem.tail))) | apply Pick.there))) | (refine Ent.trans (Ent.drop _ _) ?_))
    · skip
      refine RL.val (Wanted.free rfl) (V.assign rfl rfl) rfl ?_
      refine RL.nil ?_
      refine SG.cond_false rfl ?_
      refine SG.seq ?_
      refine SG.region ?_
      refine RL.cmp (Wanted.free rfl) (V.bin rfl rfl rfl B.eql) rfl (fun h25 => ?_) (fun h25 => ?_)
      · skip
        refine RL.val (Wanted.free rfl) (V.assign rfl rfl) rfl ?_
        refine RL.nil ?_
        refine SG.cond_true rfl ?_
        refine SG.seq ?_
        refine SG.region ?_
        refine RL.val (Wanted.free rfl) (V.fieldAddr rfl rfl fo34_3) rfl ?_
        refine RL.val (Wanted.free rfl) (V.load rfl on4 rfl (by repeat (first | exact Pick.here | apply Pick.there)) rfl) rfl ?_
        refine RL.val (Wanted.free rfl) (V.fieldAddr rfl rfl fo34_3) rfl ?_
        refine RL.val (Wanted.free rfl) (V.load rfl on4 rfl (by repeat (first | exact Pick.here | apply Pick.there)) rfl) rfl ?_
        refine RL.val (Wanted.free rfl) (V.eqlBool rfl ub4 rfl rfl) rfl ?_
        refine RL.val (Wanted.free rfl) (V.assign rfl rfl) rfl ?_
        refine RL.nil ?_
        refine SG.retE (Ret.r1 Try.func18 rfl (.tmp rfl)) ?_ ⟨by rw [show sameV v v' = _ from bk2 (by omega)], rfl⟩
        repeat (first | exact Ent.refl _ | (apply Ent.cons; (· repeat (first | exact Pick.here | (refine Pick.sl ?_; (· repeat (first | exact List.Mem.head _ | assumption | apply List.Mem.tail))) | apply Pick.there))) | (refine Ent.trans (Ent.drop _ _) ?_))
      · skip
        refine RL.val (Wanted.free rfl) (V.assign rfl rfl) rfl ?_
        refine RL.nil ?_
        refine SG.cond_false rfl ?_
        refine SG.seq ?_
        refine SG.region ?_
        refine RL.cmp (Wanted.free rfl) (V.bin rfl rfl rfl B.eql) rfl (fun h34 => ?_) (fun h34 => ?_)
        · skip
          refine RL.val (Wanted.free rfl) (V.assign rfl rfl) rfl ?_
          refine RL.nil ?_
          refine SG.cond_true rfl ?_
          refine SG.seq ?_
          refine SG.region ?_
          refine RL.val (Wanted.free rfl) (V.fieldAddr rfl rfl fo34_4) rfl ?_
          refine RL.val (Wanted.free rfl) (V.load rfl on9 rfl (by repeat (first | exact Pick.here | apply Pick.there)) rfl) rfl ?_
          refine RL.val (Wanted.free rfl) (V.fieldAddr rfl rfl fo34_4) rfl ?_
          refine RL.val (Wanted.free rfl) (V.load rfl on9 rfl (by repeat (first | exact Pick.here | apply Pick.there)) rfl) rfl ?_
          refine RL.val (Wanted.free rfl) (V.bin rfl rfl rfl B.eqlS) rfl ?_
          refine RL.val (Wanted.free rfl) (V.assign rfl rfl) rfl ?_
          refine RL.nil ?_
          refine SG.retE (Ret.r1 Try.func18 rfl (.tmp rfl)) ?_ ⟨by rw [show sameV v v' = _ from bk3 (by omega)], rfl⟩
          repeat (first | exact Ent.refl _ | (apply Ent.cons; (· repeat (first | exact Pick.here | (refine Pick.sl ?_; (· repeat (first | exact List.Mem.head _ | assumption | apply List.Mem.tail))) | apply Pick.there))) | (refine Ent.trans (Ent.drop _ _) ?_))
        · skip
          refine RL.val (Wanted.free rfl) (V.assign rfl rfl) rfl ?_
          refine RL.nil ?_
          refine SG.cond_false rfl ?_
          refine SG.skip ?_
          refine SG.inBlock ?_
          refine SG.seq ?_
          refine SG.region ?_
          refine RL.val (Wanted.free rfl) (V.fieldAddr rfl rfl fo34_5) rfl ?_
          refine RL.val (Wanted.free rfl) (V.load rfl on32 rfl (by repeat (first | exact Pick.here | apply Pick.there)) rfl) rfl ?_
          refine RL.val (Wanted.free rfl) (V.fieldAddr rfl rfl fo34_5) rfl ?_
          refine RL.val (Wanted.free rfl) (V.load rfl on32 rfl (by repeat (first | exact Pick.here | apply Pick.there)) rfl) rfl ?_
          refine RL.eff (Wanted.free rfl) (E.call rfl go42 rfl (sameInts_ok (a := a) (a' := a') (by repeat (first | exact List.Mem.head _ | assumption | apply List.Mem.tail)) (by repeat (first | exact List.Mem.head _ | assumption | apply List.Mem.tail)))) rfl ?_
          rintro _ _ ⟨rfl, rfl⟩
          refine RL.val (Wanted.free rfl) (V.assign rfl rfl) rfl ?_
          refine RL.nil ?_
          refine SG.retE (Ret.r1 Try.func18 rfl (.tmp rfl)) ?_ ⟨by rw [show sameV v v' = _ from bk4 (by omega) (by omega) (by omega) (by omega)], rfl⟩
          repeat (first | exact Ent.refl _ | (apply Ent.cons; (· repeat (first | exact Pick.here | (refine Pick.sl ?_; (· repeat (first | exact List.Mem.head _ | assumption | apply List.Mem.tail))) | apply Pick.there))) | (refine Ent.trans (Ent.drop _ _) ?_))

theorem same_true {κ : World} {L : List Assn} (v v' : Val) {a a' : Option Addr} {m c m' c' : Nat} (hm : Sl RI a m c v.l ∈ L) (hm' : Sl RI a' m' c' v'.l ∈ L) (e : sameV v v' = true) : Ctr Try.prog 18 #[.agg #[v8 v.kind, v64 v.u, vI v.n, vB v.b, vS v.s, .slice a m c], .agg #[v8 v'.kind, v64 v'.u, vI v'.n, vB v'.b, vS v'.s, .slice a' m' c']] κ L (fun r M => r = vB true ∧ M = L) :=
  (same_ok v v' hm hm').mono (Ent.refl _) fun _ _ h => ⟨by rw [h.1, e], h.2⟩

set_option maxRecDepth 100000 in
theorem written_ok {κ : World} {L : List Assn} {a : Option Addr} {m c : Nat} {l : List Val} (hm : Sl RVal a m c l ∈ L) (hv : ∀ v ∈ l, v.small) (hl : l.length ≤ 1000) :
    Ctr Try.prog 16 #[.slice a m c] κ L (fun r M => ∃ a' k' c', r = .slice a' k' c' ∧ M = Buf R8 5 a' k' c' (encVs l) :: L) := by
  refine Ctr.enter (vs := [.slice a m c]) (m := 18) Try.func16 rfl rfl rfl ?_
  refine SG.sl hm fun hl2 _ _ => ?_
  subst hl2
  refine SG.seq ?_
  refine SG.region ?_
  refine RL.val (Wanted.free rfl) (V.assign rfl rfl) rfl ?_
  refine RL.nil ?_
  refine SG.seq ?_
  refine SG.region ?_
  refine RL.eff (Wanted.free rfl) (E.alloc rfl ze27) rfl ?_
  rintro _ _ ⟨b3, rfl, rfl⟩
  refine RL.nil ?_
  refine SG.seq ?_
  refine SG.seq ?_
  refine SG.region ?_
  refine RL.val (Wanted.free rfl) (V.assign rfl rfl) rfl ?_
  refine RL.nil ?_
  refine SG.block ?_
  have hW : Ent (Blk b3 27 [.slice none 0 0] :: L) (Wr b3 [] :: L) := Ent.trans (Ent.trans (Buf.nil (T := R8) (e := 5)) (Ent.swap _ _ _)) Wr.close
  refine SG.ent hW ?_
  refine SG.weaken (SG.loop2 (fun m al M => ∃ i : Nat, i ≤ l.length ∧ m = l.length - i ∧ al = [(0, .slice a l.length c), (3, ptr b3 0), (4, vI i)] ∧ M = Wr b3 (encVs (l.take i)) :: L) (m0 := _) ⟨0, by omega, rfl, rfl, rfl⟩ ?_) ?_ ?_
  rotate_left
  · repeat (first | exact EnvLe.nil _ | refine EnvLe.cons rfl ?_)
  · repeat (first | exact Ent.refl _ | (apply Ent.cons; (· repeat (first | exact Pick.here | (refine Pick.sl ?_; (· repeat (first | exact List.Mem.head _ | assumption | apply List.Mem.tail))) | apply Pick.there))) | (refine Ent.trans (Ent.drop _ _) ?_))
  rintro _ _ _ ⟨i, hil, rfl, rfl, rfl⟩ ih0
  refine SG.seq ?_
  refine SG.seq ?_
  refine SG.region ?_
  refine RL.val (Wanted.free rfl) (V.move rfl rfl) rfl ?_
  refine RL.val (Wanted.free rfl) (V.move rfl rfl) rfl ?_
  refine RL.val (Wanted.free rfl) (V.len rfl rfl el22.under rfl) rfl ?_
  refine RL.cmp (Wanted.free rfl) (V.bin rfl rfl rfl B.lss) rfl (fun h7 => ?_) (fun h7 => ?_)
  · skip
    refine RL.nil ?_
    refine SG.cond_true rfl ?_
    refine SG.skip ?_
    refine SG.seq ?_
    refine SG.block ?_
    refine SG.region ?_
    refine RL.val (Wanted.free rfl) (V.move rfl rfl) rfl ?_
    refine RL.val (Wanted.free rfl) (V.move rfl rfl) rfl ?_
    refine RL.val (Wanted.free rfl) (V.indexSl rfl el22.slice rfl rfl (by repeat (first | exact List.Mem.head _ | assumption | apply List.Mem.tail)) (by first | rfl | omega) (by omega)) rfl ?_
    refine RL.eff (Wanted.free rfl) (E.loadElem rfl ag34 rfl (by repeat (first | exact List.Mem.head _ | assumption | apply List.Mem.tail)) (List.getElem?_eq_getElem (by omega))) rfl ?_
    rintro _ _ ⟨us, rfl, rfl⟩
    refine RL.openVal (by repeat (first | exact Pick.here | apply Pick.there)) fun a1 m1 c1 hus hok => ?_
    subst hus
    have hsm := hv l[i] (List.getElem_mem _)
    have hlen := encVs_length (l := l.take i) (fun v h => hv v (List.mem_of_mem_take h))
    rw [List.length_take] at hlen
    refine RL.eff (Wanted.free rfl) (E.call rfl go12 rfl (write_ok _ (by repeat (first | exact Pick.here | apply Pick.there)) (by repeat (first | exact List.Mem.head _ | assumption | apply List.Mem.tail)) hsm.mid (by omega))) rfl ?_
    rintro _ _ ⟨rfl, rfl⟩
    refine RL.nil ?_
    refine SG.inBlock ?_
    refine SG.region ?_
    refine RL.val (Wanted.free rfl) (V.move rfl rfl) rfl ?_
    refine RL.val (Wanted.free rfl) (V.bin rfl rfl rfl (B.addI (by omega) (by omega))) rfl ?_
    refine RL.val (Wanted.free rfl) (V.assign rfl rfl) rfl ?_
    refine RL.nil ?_
    refine SG.weaken (ih0 _ _ _ ?_ ⟨i + 1, by omega, rfl, rfl, rfl⟩) ?_ ?_
    · omega
    · repeat (first | exact EnvLe.nil _ | refine EnvLe.cons rfl ?_)
    · rw [show l.take (i + 1) = l.take i ++ [l[i]] from by rw [List.take_add_one, List.getElem?_eq_getElem (by omega)]; rfl, encVs_snoc]
      repeat (first | exact Ent.refl _ | (apply Ent.cons; (· repeat (first | exact Pick.here | (refine Pick.sl ?_; (· repeat (first | exact List.Mem.head _ | assumption | apply List.Mem.tail))) | apply Pick.there))) | (refine Ent.trans (Ent.drop _ _) ?_))
  · skip
    refine RL.nil ?_
    refine SG.cond_false rfl ?_
    refine SG.exit rfl ?_
    refine SG.seq ?_
    rw [show i = l.length from by omega, List.take_length]
    have hlen := encVs_length hv
    refine SG.region ?_
    refine RL.val (Wanted.free rfl) (V.fieldAddr rfl rfl fo27_0) rfl ?_
    refine RL.eff (Wanted.free rfl) (E.call rfl go15 rfl (done_ok (by repeat (first | exact Pick.here | apply Pick.there)) (by omega))) rfl ?_
    rintro _ _ ⟨a17, k17, c17, rfl, rfl⟩
    refine RL.val (Wanted.free rfl) (V.assign rfl rfl) rfl ?_
    refine RL.nil ?_
    refine SG.retE (Ret.r1 Try.func16 rfl (.tmp rfl)) ?_ ⟨_, _, _, rfl, rfl⟩
    repeat (first | exact Ent.refl _ | (apply Ent.cons; (· repeat (first | exact Pick.here | (refine Pick.sl ?_; (· repeat (first | exact List.Mem.head _ | assumption | apply List.Mem.tail))) | apply Pick.there))) | (refine Ent.trans (Ent.drop _ _) ?_))

set_option maxRecDepth 100000 in
theorem lives_ok {κ : World} {L : List Assn}  :
    Ctr Try.prog 17 #[] κ L (fun r M => r = vB true ∧ M = L) := by
  refine Ctr.enter (vs := []) (m := 39) Try.func17 rfl rfl rfl ?_
  refine SG.seq ?_
  refine SG.region ?_
  refine RL.val (Wanted.free rfl) (V.assign rfl rfl) rfl ?_
  refine RL.nil ?_
  refine SG.seq ?_
  refine SG.region ?_
  refine RL.eff (Wanted.free rfl) (E.alloc rfl ze27) rfl ?_
  rintro _ _ ⟨b1, rfl, rfl⟩
  have hW : Ent (Blk b1 27 [.slice none 0 0] :: L) (Wr b1 [] :: L) := Ent.trans (Ent.trans (Buf.nil (T := R8) (e := 5)) (Ent.swap _ _ _)) Wr.close
  refine RL.ent hW ?_
  refine RL.nil ?_
  refine SG.seq ?_
  refine SG.region ?_
  refine RL.eff (Wanted.free rfl) (E.call rfl go30 rfl (wUint_ok 300 (by repeat (first | exact Pick.here | apply Pick.there)) (by decide))) rfl ?_
  rintro _ _ ⟨rfl, rfl⟩
  refine RL.nil ?_
  refine SG.seq ?_
  refine SG.region ?_
  refine RL.eff (Wanted.free rfl) (E.call rfl go31 rfl (wInt_ok (-3) (by repeat (first | exact Pick.here | apply Pick.there)) (by decide) (by decide) (by decide))) rfl ?_
  rintro _ _ ⟨rfl, rfl⟩
  refine RL.nil ?_
  refine SG.seq ?_
  refine SG.region ?_
  refine RL.eff (Wanted.free rfl) (E.call rfl go33 rfl (wText_ok [97, 98] (by repeat (first | exact Pick.here | apply Pick.there)) (by decide))) rfl ?_
  rintro _ _ ⟨rfl, rfl⟩
  refine RL.nil ?_
  refine SG.seq ?_
  refine SG.region ?_
  refine RL.eff (Wanted.free rfl) (E.litN (xs := [.const (.int .i64 (-1)), .const (.int .i64 (64))]) rfl rfl rfl el32.slice ze3 rfl (by decide) (by decide) rfl (by simp [Value.cells])) rfl ?_
  rintro _ _ ⟨b7, rfl, rfl⟩
  refine RL.sep ⟨Blk.publish (R := SlP RI (some ⟨b7, 0, none⟩) 2 2 [-1, 64]) (fun h => h) (fun z hr => ⟨rfl, Nat.le_refl _, by omega, .inr ⟨b7, 0, _, rfl, hr, rows_sc.2 ⟨rfl, by simp [inInt]⟩⟩⟩), ?_⟩
  change RL _ _ _ _ _ _ _ _ _ (Sl RI (some ⟨b7, 0, none⟩) 2 2 [-1, 64] :: _)
  refine RL.eff (Wanted.free rfl) (E.call rfl go34 rfl (wInts_ok (ls := [-1, 64]) (by repeat (first | exact Pick.here | apply Pick.there)) (by repeat (first | exact List.Mem.head _ | assumption | apply List.Mem.tail)) (by simp [inInt]) (by decide))) rfl ?_
  rintro _ _ ⟨rfl, rfl⟩
  refine RL.nil ?_
  refine SG.seq ?_
  refine SG.seq ?_
  refine SG.region ?_
  refine RL.val (Wanted.free rfl) (V.fieldAddr rfl rfl fo27_0) rfl ?_
  refine RL.eff (Wanted.free rfl) (E.call rfl go15 rfl (done_ok (by repeat (first | exact Pick.here | apply Pick.there)) (by decide))) rfl ?_
  rintro _ _ ⟨a10, k10, c10, rfl, rfl⟩
  refine RL.publish (by repeat (first | exact Pick.here | apply Pick.there)) ?_
  refine RL.val (Wanted.free rfl) (V.bytesToS rfl el23.under ui5 us9 rfl (by repeat (first | exact List.Mem.head _ | assumption | apply List.Mem.tail))) rfl ?_
  refine RL.cmpF (Wanted.free rfl) (V.bin rfl rfl rfl (B.neqS (y := [172, 2, 5, 2, 97, 98, 2, 1, 128, 1]))) rfl (by decide) ?_
  refine RL.nil ?_
  refine SG.cond_false rfl ?_
  refine SG.skip ?_
  refine SG.seq ?_
  refine SG.region ?_
  refine RL.eff (Wanted.free rfl) (E.lit1 _ rfl el23.slice ze5 rfl (by decide) (by decide) rfl rfl rfl) rfl ?_
  rintro _ _ ⟨b13, rfl, rfl⟩
  refine RL.eff (Wanted.free rfl) (E.call rfl go19 rfl (newReader_ok (l := [128]) (Src.lits (val := v8) (vs := [.int .u8 128]) [128] (by repeat (first | exact Pick.here | apply Pick.there)) rfl rfl (fun _ _ => trivial)) rfl (by simp) (by decide))) rfl ?_
  rintro _ _ ⟨r1, rfl, rfl⟩
  refine RL.val (Wanted.free rfl) (V.assign rfl rfl) rfl ?_
  refine RL.nil ?_
  refine SG.seq ?_
  refine SG.region ?_
  refine RL.eff (Wanted.free rfl) (E.litN (xs := [.const (.int .u8 (128)), .const (.int .u8 (0))]) rfl rfl rfl el23.slice ze5 rfl (by decide) (by decide) rfl (by simp [Value.cells])) rfl ?_
  rintro _ _ ⟨b15, rfl, rfl⟩
  refine RL.eff (Wanted.free rfl) (E.call rfl go19 rfl (newReader_ok (l := [128, 0]) (Src.lits (val := v8) (vs := [.int .u8 128, .int .u8 0]) [128, 0] (by repeat (first | exact Pick.here | apply Pick.there)) rfl rfl (fun _ _ => trivial)) rfl (by simp) (by decide))) rfl ?_
  rintro _ _ ⟨r2, rfl, rfl⟩
  refine RL.val (Wanted.free rfl) (V.assign rfl rfl) rfl ?_
  refine RL.nil ?_
  refine SG.seq ?_
  refine SG.seq ?_
  refine SG.region ?_
  refine RL.val (Wanted.free rfl) (V.move rfl rfl) rfl ?_
  refine RL.cmpF (Wanted.free rfl) (V.eqlPtrNil rfl up42 rfl rfl) rfl (by simp) ?_
  refine RL.val (Wanted.free rfl) (V.move rfl rfl) rfl ?_
  refine RL.val (Wanted.yes rfl rfl rfl rfl) (V.move rfl rfl) rfl ?_
  refine RL.cmpF (Wanted.yes rfl rfl rfl rfl) (V.eqlPtrNil rfl up42 rfl rfl) rfl (by simp) ?_
  refine RL.val (Wanted.free rfl) (V.pick_false rfl rfl rfl) rfl ?_
  refine RL.nil ?_
  refine SG.cond_false rfl ?_
  refine SG.skip ?_
  refine SG.seq ?_
  refine SG.region ?_
  refine RL.val (Wanted.free rfl) (V.move rfl rfl) rfl ?_
  refine RL.eff (Wanted.free rfl) (E.call rfl go41 rfl (rUint_ok (by repeat (first | exact Pick.here | apply Pick.there)))) rfl ?_
  rintro _ _ ⟨rfl, rfl⟩
  refine RL.nil ?_
  refine SG.seq ?_
  refine SG.region ?_
  refine RL.val (Wanted.free rfl) (V.move rfl rfl) rfl ?_
  refine RL.eff (Wanted.free rfl) (E.call rfl go41 rfl (rUint_ok (by repeat (first | exact Pick.here | apply Pick.there)))) rfl ?_
  rintro _ _ ⟨rfl, rfl⟩
  refine RL.nil ?_
  refine SG.seq ?_
  refine SG.region ?_
  refine RL.val (Wanted.free rfl) (V.move rfl rfl) rfl ?_
  refine RL.val (Wanted.free rfl) (V.nilCheck rfl rfl) rfl ?_
  refine RL.val (Wanted.free rfl) (V.fieldAddr rfl rfl fo50_0) rfl ?_
  refine RL.eff (Wanted.free rfl) (E.call rfl go22 rfl (rErr_ok (by repeat (first | exact Pick.here | apply Pick.there)))) rfl ?_
  rintro _ _ ⟨rfl, rfl⟩
  refine RL.cmpT (Wanted.free rfl) (V.bin rfl rfl rfl B.eql) rfl (by decide) ?_
  refine RL.val (Wanted.free rfl) (V.move rfl rfl) rfl ?_
  refine RL.val (Wanted.yes rfl rfl rfl rfl) (V.move rfl rfl) rfl ?_
  refine RL.val (Wanted.yes rfl rfl rfl rfl) (V.nilCheck rfl rfl) rfl ?_
  refine RL.val (Wanted.yes rfl rfl rfl rfl) (V.fieldAddr rfl rfl fo50_0) rfl ?_
  refine RL.eff (Wanted.yes rfl rfl rfl rfl) (E.call rfl go22 rfl (rErr_ok (by repeat (first | exact Pick.here | apply Pick.there)))) rfl ?_
  rintro _ _ ⟨rfl, rfl⟩
  refine RL.cmpT (Wanted.yes rfl rfl rfl rfl) (V.bin rfl rfl rfl B.eql) rfl (by decide) ?_
  refine RL.val (Wanted.free rfl) (V.pick_true rfl rfl rfl) rfl ?_
  refine RL.val (Wanted.free rfl) (V.assign rfl rfl) rfl ?_
  refine RL.nil ?_
  refine SG.retE (Ret.r1 Try.func17 rfl (.tmp rfl)) ?_ ⟨rfl, rfl⟩
  repeat (first | exact Ent.refl _ | (apply Ent.cons; (· repeat (first | exact Pick.here | (refine Pick.sl ?_; (· repeat (first | exact List.Mem.head _ | assumption | apply List.Mem.tail))) | apply Pick.there))) | (refine Ent.trans (Ent.drop _ _) ?_))

end Go.Proofs.Ytdccpcnahbhfcaa
