/- The walk of ReplicaHandles. -/
import Derived.Test.YtilcnglcflohoaaReff
import Derived.Test.YtilcnglcflohoaaLastp
namespace Go.Proofs.Ytilcnglcflohoaa
open Go.Wk Go.Rp

structure MIn (m : Msg) : Prop where
  a : inInt m.kind
  b : inInt m.frm
  c : inInt m.to
  d : inInt m.term
  e : inInt m.index
  f : inInt m.prev
  g : inInt m.commit
/-- A message as an argument. -/
def RRaw : Rep Msg where
  sz := 9
  rep _ cs m := ∃ x : Tri, cs = mv m (tv x) ∧ MIn m
  mono _ := fun h => h
  len := fun ⟨_, e, _⟩ => by rw [e]; rfl
  one := fun ⟨_, e, _⟩ u hu => by
    rw [e] at hu
    simp only [mv, List.mem_cons, List.not_mem_nil, or_false] at hu
    rcases hu with rfl | rfl | rfl | rfl | rfl | rfl | rfl | rfl | rfl <;> rfl
theorem rhandle_ok {κ : World} {L : List Assn} {us ms : List Value} {p : Peer} {m : Msg} (hm : Rd RPeer us p ∈ L) (hmm : Rd RMsg ms m ∈ L) (ho : POk p) (hmo : MOk m) : Ctr Try.prog 31 #[.agg us.toArray, .agg ms.toArray] κ L (fun v M => ∃ us' a c, v = .tuple #[.agg us'.toArray, .slice a (handle p m).2.length c] ∧ M = Rd RPeer us' (handle p m).1 :: Sl RMsg a (handle p m).2.length c (handle p m).2 :: L) := by
  by_cases hs : strange p m
  · exact rhandle_strange hm hmm ho hmo hs
  · have hs' := hs
    unfold strange at hs
    have hk : m.kind = 1 ∨ m.kind = 2 ∨ m.kind = 3 ∨ m.kind = 4 := by omega
    rcases hk with hk | hk | hk | hk
    · exact rhandle_k1 hm hmm ho hmo hk (by omega) (by omega) (by omega) (by omega)
    · exact rhandle_k2 hm hmm ho hmo hk (by omega) (by omega) (by omega) (by omega)
    · exact rhandle_k3 hm hmm ho hmo hk (by omega) (by omega) (by omega) (by omega)
    · exact rhandle_k4 hm hmm ho hmo hk (by omega) (by omega) (by omega) (by omega)

def oddS (k : Nat) (T : Int) : List Slot := List.replicate k ⟨T, [120]⟩
def oddM (r : Msg) (k : Nat) (T : Int) : Msg := ⟨aroundV r.kind 6, aroundV r.frm 7 - 1, aroundV r.to 7 - 1, aroundV r.term 6, aroundV r.index 8, aroundV r.prev 6, aroundV r.commit 8, oddS k T, r.yes⟩
theorem oddS_step (k : Nat) (T : Int) : oddS (k + 1) T = oddS k T ++ [⟨T, [120]⟩] := List.replicate_succ'
theorem oddS_len (k : Nat) (T : Int) : (oddS k T).length = k := List.length_replicate
theorem odd_ok {r : Msg} {k : Nat} {T : Int} (hk : k ≤ 3) : MOk (oddM r k T) := by
  obtain ⟨a, b⟩ := aroundV_bd (n := r.term) (most := 6) (by omega)
  obtain ⟨c, d⟩ := aroundV_bd (n := r.index) (most := 8) (by omega)
  exact ⟨a, by show aroundV r.term 6 ≤ _; omega, c, by show aroundV r.index 8 ≤ _; omega, by show (oddS k T).length ≤ _; rw [oddS_len]; omega⟩
def toM (m : Msg) (b : Bool) (k : Int) : Msg := if b then { m with to := k } else m
theorem MOk.to {m : Msg} (h : MOk m) (b : Bool) (k : Int) : MOk (toM m b k) := by
  unfold toM; split
  · exact ⟨h.t0, h.t1, h.x0, h.x1, h.s1⟩
  · exact h
theorem quoI {x : Int} (h : inInt x) : inInt (x.tdiv 4) := by
  have h1 : (x.tdiv 4).natAbs = x.natAbs / 4 := Int.natAbs_tdiv x 4
  unfold inInt at *; omega
set_option maxRecDepth 100000 in
set_option maxHeartbeats 2000000 in
theorem handles_law {κ : World} {L : List Assn} {n : Int} (hn : inInt n) {a : Option Addr} {k cc : Nat} {l : List Int} (hm : Sl RI a k cc l ∈ L) {r : Msg} (hri : MIn r) {za : Option Addr} {zn zc : Nat} {how : Int} (hhow : inInt how) :
    Ctr Try.prog 4 #[vI n, .slice a k cc, .agg (mv r (.slice za zn zc) : List Value).toArray, vI how] κ L (fun v M => v = vB true ∧ M = L) := by
 refine Ctr.enter (vs := [vI n, .slice a k cc, .agg (mv r (.slice za zn zc) : List Value).toArray, vI how]) (m := 145) Try.func4 rfl rfl rfl ?_
 refine SG.sl hm fun hkl hkc _ => ?_
 refine SG.seq ?_
 refine SG.region ?_
 refine RL.eff (Wanted.free rfl) (E.box _ rfl rfl rfl) rfl ?_
 rintro _ _ ⟨b6, rfl, rfl⟩
 refine RL.val (Wanted.free rfl) (V.assign rfl rfl) rfl ?_
 refine RL.nil ?_
 refine SG.seq ?_
 refine SG.region ?_
 refine RL.val (Wanted.free rfl) (V.move rfl rfl) rfl ?_
 refine RL.val (Wanted.free rfl) (V.move rfl rfl) rfl ?_
 refine RL.val (Wanted.free rfl) (V.move rfl rfl) rfl ?_
 refine RL.val (Wanted.free rfl) (V.len rfl rfl el22.under rfl) rfl ?_
 refine RL.val (Wanted.free rfl) (V.min rfl rfl rfl rfl) rfl ?_
 rw [show (if (30 : Int) < (k : Int) then (30 : Int) else (k : Int)) = ((min k 30 : Nat) : Int) from by split <;> omega]
 refine RL.eff (Wanted.free rfl) (E.slice (hi := min k 30) rfl el22.slice rfl memX rfl ⟨_, _, rfl, (by first | rfl | omega)⟩ (by omega) (by omega)) rfl ?_
 intro _ _ hK8
 try rw [List.drop_zero] at hK8
 iterate 2 (try rw [Nat.sub_zero] at hK8)
 obtain ⟨a28, rfl, rfl⟩ := hK8
 refine RL.eff (Wanted.free rfl) (E.call rfl go15 rfl (run_ok hn memX)) rfl ?_
 rintro _ _ ⟨a7, c7, rfl, rfl⟩
 obtain ⟨N, G, s, c, h1, h5, hs40, hr, hHl, hH0, hHc⟩ := runV_last n (l.take (min k 30)) (by rw [List.length_take]; omega)
 generalize runV n (l.take (min k 30)) = H at hHl hH0 hHc ⊢
 have hlen := hr.1.len
 have hok := Rch.ok hr h1 h5 (by omega)
 have hoks := hok.s
 refine RL.val (Wanted.free rfl) (V.move rfl rfl) rfl ?_
 refine RL.val (Wanted.free rfl) (V.extract rfl rfl rfl) rfl ?_
 refine RL.val (Wanted.free rfl) (V.extract rfl rfl rfl) rfl ?_
 refine RL.val (Wanted.free rfl) (V.assign rfl rfl) rfl ?_
 refine RL.val (Wanted.free rfl) (V.assign rfl rfl) rfl ?_
 refine RL.nil ?_
 refine SG.seq ?_
 refine SG.seq ?_
 refine SG.region ?_
 refine RL.val (Wanted.free rfl) (V.move rfl rfl) rfl ?_
 refine RL.val (Wanted.free rfl) (V.not rfl rfl) rfl ?_
 refine RL.nil ?_
 refine SG.cond_false rfl ?_
 refine SG.skip ?_
 refine SG.seq ?_
 refine SG.region ?_
 refine RL.val (Wanted.free rfl) (V.move rfl rfl) rfl ?_
 refine RL.val (Wanted.free rfl) (V.move rfl rfl) rfl ?_
 refine RL.val (Wanted.free rfl) (V.len rfl rfl el31.under rfl) rfl ?_
 refine RL.val (Wanted.free rfl) (V.bin rfl rfl rfl (B.subI (by omega) (by omega))) rfl ?_
 refine RL.val (Wanted.free rfl) (V.indexSl (T := RClu) (l := H) (a := a7) (j := H.length - 1) rfl el31.slice rfl rfl memX (by omega) (by omega)) rfl ?_
 refine RL.eff (Wanted.free rfl) (E.loadElem (T := RClu) (l := H) (a := a7) (j := H.length - 1) rfl ag37 rfl memX hHc) rfl ?_
 rintro _ _ ⟨u39, rfl, rfl⟩
 refine RL.eff (Wanted.free rfl) (E.alloc rfl ze37) rfl ?_
 rintro _ _ ⟨b11, rfl, rfl⟩
 refine RL.openClu (cs := u39) (Pick.rd (T := RClu) memX) fun na nn nc sa sn sc hcs => ?_
 subst hcs
 refine RL.eff (Wanted.free rfl) (E.storeWhole rfl rfl rfl (by rfl) sz37 pickX (by first | (simp [Value.oneCell']; done) | (simp [setAt, Value.oneCell']; done)) (by rfl)) rfl ?_
 rintro _ _ rfl
 refine RL.nil ?_
 refine SG.seq ?_
 refine SG.join (ι := Nat) (fun b12 => [(3, vI how), (11, ptr b11 0), (12, ptr b12 0)]) (fun b12 => Blk b12 50 (mv (oddM r 0 0) (.slice none 0 0)) :: Blk b11 37 [.slice na nn nc, .slice sa sn sc] :: Sl RPeer na nn nc c.nodes :: Sl RMsg sa sn sc c.sent :: L) (fun b12 => True) ?_ (fun rest => ?_)
 ·
  rintro b12 _
  try dsimp only
  refine SG.seq ?_
  refine SG.seq ?_
  obtain ⟨K, hK, hK4⟩ := aroundV_nat (n := how) (most := 4) (by omega)
  have hq4 := quoI hhow
  obtain ⟨T, hT⟩ : ∃ T, aroundV (how.tdiv 4) 4 = T := ⟨_, rfl⟩
  refine SG.ent (Buf.nil (T := RSlot) (e := 53)) ?_
  have hwr : IntKind.i64.wrap (how.tdiv 4) = how.tdiv 4 := IntWalk.i64_in _ ⟨hq4.1, hq4.2⟩
  refine SG.region ?_
  refine RL.val (Wanted.free rfl) (V.assign rfl rfl) rfl ?_
  refine RL.nil ?_
  refine SG.block ?_
  refine SG.weaken (SG.loop2 (fun m0 al M => ∃ (i : Nat) (ya : Option Addr) (yc : Nat), i ≤ K ∧ m0 = K - i ∧ al = [(3, vI how), (11, ptr b11 0), (12, ptr b12 0), (13, vI i)] ∧ M = Blk b12 50 (mv (oddM r i T) (.slice ya i yc)) :: Buf RSlot 53 ya i yc (oddS i T) :: Blk b11 37 [.slice na nn nc, .slice sa sn sc] :: Sl RPeer na nn nc c.nodes :: Sl RMsg sa sn sc c.sent :: L) (m0 := _) ⟨0, none, 0, by omega, rfl, rfl, rfl⟩ ?_) ?_ ?_
  rotate_left
  ·
   repeat (first | exact EnvLe.nil _ | refine EnvLe.cons rfl ?_)
  ·
   exact entX
  rintro _ _ _ ⟨i, ya, yc, hi, rfl, rfl, rfl⟩ ih0
  refine SG.seq ?_
  refine SG.seq ?_
  refine SG.region ?_
  refine RL.val (Wanted.free rfl) (V.move rfl rfl) rfl ?_
  refine RL.val (Wanted.free rfl) (V.move rfl rfl) rfl ?_
  refine RL.eff (Wanted.free rfl) (E.call rfl go29 rfl (around_ok _ _ hhow.1 hhow.2 (by omega))) rfl ?_
  rintro _ _ ⟨rfl, rfl⟩
  rw [hK]
  refine RL.cmp (Wanted.free rfl) (V.bin rfl rfl rfl B.lss) rfl (fun h28 => ?_) (fun h28 => ?_)
  ·
   refine RL.nil ?_
   refine SG.cond_true rfl ?_
   refine SG.skip ?_
   refine SG.seq ?_
   refine SG.block ?_
   refine SG.drawN 10 9 (Blk b12 50 (mv (oddM r i T) (.slice ya i yc)) :: L) wide rfl rfl (by repeat (first | exact Ent.refl _ | (apply Ent.cons; (· repeat (first | exact Pick.here | (refine Pick.sl ?_; (· repeat (first | exact List.Mem.head _ | assumption | apply List.Mem.tail))) | apply Pick.there))) | (refine Ent.trans (Ent.drop _ _) ?_))) ?_
   refine RH.val 0 rfl krX krX krX krX (Wanted.free rfl) (V.fieldAddr rfl rfl fo50_7) rfl ?_
   refine RH.val 1 rfl krX krX krX krX (Wanted.free rfl) (V.load rfl on23 rfl pickX rfl) rfl ?_
   refine RH.val 2 rfl krX krX krX krX (Wanted.free rfl) (V.move rfl rfl) rfl ?_
   refine RH.val 3 rfl krX krX krX krX (Wanted.free rfl) (V.bin rfl rfl rfl (B.quo (by decide))) rfl ?_
   rw [hwr]
   refine RH.one (i := 4) krX ?_
   refine RHone.eff rfl (Wanted.free rfl) (E.call rfl go29 rfl (around_ok _ _ hq4.1 hq4.2 (by omega))) rfl ?_
   rintro _ _ ⟨rfl, rfl⟩
   refine ⟨.inr entX, ?_⟩
   rw [hT]
   refine RH.val 5 rfl krX krX krX krX (Wanted.free rfl) (V.buildS [(0, _), (1, _)] rfl bs53 (by exact ⟨rfl, ⟨_, rfl, rfl⟩, ⟨rfl, ⟨_, rfl, rfl⟩, trivial⟩⟩) rfl) rfl ?_
   refine RH.one (i := 6) krX ?_
   refine RHone.eff rfl (Wanted.free rfl) (E.lit1 [vI T, vS [120]] rfl el23.slice ze53 rfl (by decide) (by decide) rfl rfl rfl) rfl ?_
   rintro _ _ ⟨b78, rfl, rfl⟩
   refine ⟨.inr entX, ?_⟩
   refine RH.one (i := 7) krX ?_
   refine RHone.eff rfl (Wanted.free rfl) (E.append (T := RSlot) rfl rfl rfl el23 el23.noInt rfl rfl pickX (Src.litDt (y := ⟨T, [120]⟩) pickX rfl trivial) (by first | omega | (simp; omega)) (by first | omega | (simp; omega))) rfl ?_
   intro _ _ hK36
   try rw [List.nil_append] at hK36
   try rw [Nat.zero_add] at hK36
   rw [← oddS_step] at hK36
   obtain ⟨a79, c79, rfl, rfl⟩ := hK36
   refine ⟨.inr entX, ?_⟩
   refine RH.val 8 rfl krX krX krX krX (Wanted.free rfl) (V.fieldAddr rfl rfl fo50_7) rfl ?_
   refine RH.one (i := 9) krX ?_
   refine RHone.eff rfl (Wanted.free rfl) (E.store1 rfl rfl rfl rfl rfl sz23 pickX rfl) rfl ?_
   rintro _ _ rfl
   refine ⟨.inl krX, ?_⟩
   refine RH.done krX ?_
   refine SG.inBlock ?_
   refine SG.region ?_
   refine RL.val (Wanted.free rfl) (V.move rfl rfl) rfl ?_
   refine RL.val (Wanted.free rfl) (V.bin rfl rfl rfl (B.addI (by omega) (by omega))) rfl ?_
   refine RL.val (Wanted.free rfl) (V.assign rfl rfl) rfl ?_
   refine RL.nil ?_
   refine SG.weaken (ih0 _ _ _ ?_ ⟨i + 1, a79, c79, by omega, rfl, rfl, rfl⟩) ?_ ?_
   ·
    omega
   ·
    repeat (first | exact EnvLe.nil _ | refine EnvLe.cons rfl ?_)
   ·
    exact entX
  ·
   refine RL.nil ?_
   refine SG.cond_false rfl ?_
   refine SG.exit rfl ?_
   refine SG.seq ?_
   refine SG.join (ι := Option Addr × Nat) (fun ⟨a14, c14⟩ => [(3, vI how), (11, ptr b11 0), (14, .slice a14 (c.sent.length + 1) c14)]) (fun ⟨a14, c14⟩ => Buf RMsg 50 a14 (c.sent.length + 1) c14 (c.sent ++ [oddM r i T]) :: Blk b11 37 [.slice na nn nc, .slice sa sn sc] :: Sl RPeer na nn nc c.nodes :: Sl RMsg sa sn sc c.sent :: L) (fun ⟨a14, c14⟩ => True) ?_ (fun rest => ?_)
   ·
    rintro ⟨a14, c14⟩ _
    try dsimp only
    refine SG.seq ?_
    refine SG.seq ?_
    refine SG.publish (T := RMsg) (a := a14) pickX ?_
    have hmok : ∀ x ∈ c.sent ++ [oddM r i T], MOk x := fun x hx => by
     rcases List.mem_append.1 hx with hx | hx
     ·
      exact (hok.m x hx).1
     ·
      rw [List.mem_singleton] at hx; subst hx; exact odd_ok (by omega)
    have hml : (c.sent ++ [oddM r i T]).length = c.sent.length + 1 := by simp
    generalize c.sent ++ [oddM r i T] = ms at hmok hml ⊢
    refine SG.region ?_
    refine RL.val (Wanted.free rfl) (V.move rfl rfl) rfl ?_
    refine RL.val (Wanted.free rfl) (V.len rfl rfl el35.under rfl) rfl ?_
    refine RL.val (Wanted.free rfl) (V.bin rfl rfl rfl (B.subI (by omega) (by omega))) rfl ?_
    refine RL.val (Wanted.free rfl) (V.max rfl rfl rfl rfl) rfl ?_
    obtain ⟨u0, hu0⟩ : ∃ u : Nat, (if (0 : Int) < (((c.sent.length + 1 : Nat) : Int) - 12) then (((c.sent.length + 1 : Nat) : Int) - 12) else 0) = (u : Int) := ⟨_, (Int.toNat_of_nonneg (by split <;> omega)).symm⟩
    rw [hu0]
    refine RL.val (Wanted.free rfl) (V.assign rfl rfl) rfl ?_
    refine RL.nil ?_
    refine SG.block ?_
    refine SG.weaken (SG.loop2 (fun m0 al M => ∃ i : Nat, m0 = c.sent.length + 2 - i ∧ al = [(3, vI how), (11, ptr b11 0), (14, .slice a14 (c.sent.length + 1) c14), (15, vI i)] ∧ M = Blk b11 37 [.slice na nn nc, .slice sa sn sc] :: Sl RPeer na nn nc c.nodes :: Sl RMsg sa sn sc c.sent :: Sl RMsg a14 (c.sent.length + 1) c14 ms :: L) (m0 := _) ⟨u0, rfl, rfl, rfl⟩ ?_) ?_ ?_
    rotate_left
    ·
     repeat (first | exact EnvLe.nil _ | refine EnvLe.cons rfl ?_)
    ·
     exact entX
    rintro _ _ _ ⟨i, rfl, rfl, rfl⟩ ih1
    refine SG.seq ?_
    refine SG.seq ?_
    refine SG.region ?_
    refine RL.val (Wanted.free rfl) (V.move rfl rfl) rfl ?_
    refine RL.val (Wanted.free rfl) (V.move rfl rfl) rfl ?_
    refine RL.val (Wanted.free rfl) (V.len rfl rfl el35.under rfl) rfl ?_
    refine RL.cmp (Wanted.free rfl) (V.bin rfl rfl rfl B.lss) rfl (fun h50 => ?_) (fun h50 => ?_)
    ·
     refine RL.nil ?_
     refine SG.cond_true rfl ?_
     refine SG.skip ?_
     refine SG.seq ?_
     refine SG.block ?_
     refine SG.seq ?_
     refine SG.region ?_
     refine RL.val (Wanted.free rfl) (V.assign rfl rfl) rfl ?_
     refine RL.nil ?_
     refine SG.block ?_
     refine SG.weaken (SG.loop2 (fun m0 al M => ∃ j : Nat, j ≤ c.nodes.length ∧ m0 = c.nodes.length - j ∧ al = [(3, vI how), (11, ptr b11 0), (14, .slice a14 (c.sent.length + 1) c14), (15, vI i), (16, vI j)] ∧ M = Blk b11 37 [.slice na nn nc, .slice sa sn sc] :: Sl RPeer na nn nc c.nodes :: Sl RMsg sa sn sc c.sent :: Sl RMsg a14 (c.sent.length + 1) c14 ms :: L) (m0 := _) ⟨0, by omega, rfl, rfl, rfl⟩ ?_) ?_ ?_
     rotate_left
     ·
      repeat (first | exact EnvLe.nil _ | refine EnvLe.cons rfl ?_)
     ·
      exact entX
     rintro _ _ _ ⟨j, hj, rfl, rfl, rfl⟩ ih2
     refine SG.seq ?_
     refine SG.seq ?_
     refine SG.sl (T := RPeer) (a := na) (l := c.nodes) memX fun hnn _ _ => ?_
     refine SG.region ?_
     refine RL.val (Wanted.free rfl) (V.move rfl rfl) rfl ?_
     refine RL.val (Wanted.free rfl) (V.fieldAddr rfl rfl fo37_0) rfl ?_
     refine RL.val (Wanted.free rfl) (V.load rfl on34 rfl pickX rfl) rfl ?_
     refine RL.val (Wanted.free rfl) (V.len rfl rfl el34.under rfl) rfl ?_
     refine RL.cmp (Wanted.free rfl) (V.bin rfl rfl rfl B.lss) rfl (fun h56 => ?_) (fun h56 => ?_)
     ·
      refine RL.nil ?_
      refine SG.cond_true rfl ?_
      refine SG.skip ?_
      refine SG.seq ?_
      refine SG.block ?_
      refine SG.seq ?_
      have hiM : i < ms.length := by omega
      have hjN : j < c.nodes.length := by omega
      refine SG.region ?_
      refine RL.val (Wanted.free rfl) (V.move rfl rfl) rfl ?_
      refine RL.val (Wanted.free rfl) (V.move rfl rfl) rfl ?_
      refine RL.val (Wanted.free rfl) (V.indexSl (T := RMsg) (l := ms) (a := a14) (j := i) rfl el35.slice rfl rfl memX rfl hiM) rfl ?_
      refine RL.eff (Wanted.free rfl) (E.loadElem (T := RMsg) (l := ms) (a := a14) (j := i) rfl ag50 rfl memX (List.getElem?_eq_getElem hiM)) rfl ?_
      rintro _ _ ⟨u108, rfl, rfl⟩
      refine RL.eff (Wanted.free rfl) (E.alloc rfl ze50) rfl ?_
      rintro _ _ ⟨b17, rfl, rfl⟩
      refine RL.openMsg (us := u108) (Pick.rd (show Rd RMsg u108 _ ∈ _ from memX)) fun ya yn yc hy => ?_
      subst hy
      refine RL.eff (Wanted.free rfl) (E.storeWhole rfl rfl rfl (by rfl) sz50 pickX mv_one (by rfl)) rfl ?_
      rintro _ _ rfl
      refine RL.nil ?_
      refine SG.seq ?_
      refine SG.seq ?_
      refine SG.join2 (ι := Msg × Tri) (fun ⟨q, ya, yn, yc⟩ => [(3, vI how), (11, ptr b11 0), (14, .slice a14 (c.sent.length + 1) c14), (15, vI i), (16, vI j), (17, ptr b17 0)]) (fun ⟨q, ya, yn, yc⟩ => Blk b17 50 (mv q (.slice ya yn yc)) :: Rd RMsg (mv q (.slice ya yn yc)) q :: Blk b11 37 [.slice na nn nc, .slice sa sn sc] :: Sl RPeer na nn nc c.nodes :: Sl RMsg sa sn sc c.sent :: Sl RMsg a14 (c.sent.length + 1) c14 ms :: L) (fun ⟨q, ya, yn, yc⟩ => MOk q) ?_ (fun rest => ?_)
      ·
       rintro ⟨q, ya, yn, yc⟩ hqo
       try dsimp only
       refine SG.seq ?_
       refine SG.join (ι := Tri × Tri × Tri × Option Addr × Nat × Nat) (fun ⟨⟨k1a, k1n, k1c⟩, ⟨w1a, w1n, w1c⟩, ⟨x1a, x1n, x1c⟩, a121, c121, b18⟩ => [(3, vI how), (11, ptr b11 0), (14, .slice a14 (c.sent.length + 1) c14), (15, vI i), (16, vI j), (17, ptr b17 0), (18, ptr b18 0), (19, .slice a121 (handle (c.p j) q).2.length c121)]) (fun ⟨⟨k1a, k1n, k1c⟩, ⟨w1a, w1n, w1c⟩, ⟨x1a, x1n, x1c⟩, a121, c121, b18⟩ => Blk b18 26 (pv (handle (c.p j) q).1 (.slice k1a k1n k1c) (.slice w1a w1n w1c) (.slice x1a x1n x1c)) :: Sl RSlot k1a k1n k1c (handle (c.p j) q).1.log :: Sl RB w1a w1n w1c (handle (c.p j) q).1.votes :: Sl RI x1a x1n x1c (handle (c.p j) q).1.mtch :: Sl RMsg a121 (handle (c.p j) q).2.length c121 (handle (c.p j) q).2 :: Blk b17 50 (mv q (.slice ya yn yc)) :: Rd RMsg (mv q (.slice ya yn yc)) q :: Blk b11 37 [.slice na nn nc, .slice sa sn sc] :: Sl RPeer na nn nc c.nodes :: Sl RMsg sa sn sc c.sent :: Sl RMsg a14 (c.sent.length + 1) c14 ms :: L) (fun ⟨⟨k1a, k1n, k1c⟩, ⟨w1a, w1n, w1c⟩, ⟨x1a, x1n, x1c⟩, a121, c121, b18⟩ => True) ?_ (fun rest => ?_)
       ·
        rintro ⟨⟨k1a, k1n, k1c⟩, ⟨w1a, w1n, w1c⟩, ⟨x1a, x1n, x1c⟩, a121, c121, b18⟩ _
        try dsimp only
        refine SG.seq ?_
        refine SG.drawL 13 11 wide rfl rfl ?_
        refine RH.val 0 rfl krX krX krX krX (Wanted.free rfl) (V.fieldAddr rfl rfl fo37_0) rfl ?_
        refine RH.val 1 rfl krX krX krX krX (Wanted.free rfl) (V.load rfl on34 rfl pickX rfl) rfl ?_
        refine RH.val 2 rfl krX krX krX krX (Wanted.free rfl) (V.move rfl rfl) rfl ?_
        refine RH.val 3 rfl krX krX krX krX (Wanted.free rfl) (V.indexSl (T := RPeer) (l := c.nodes) (a := na) (j := j) rfl el34.slice rfl rfl memX rfl (by omega)) rfl ?_
        refine RH.val 5 rfl krX krX krX krX (Wanted.free rfl) (V.loadAgg (us := mv q (.slice ya yn yc)) rfl ag50 rfl pickX rfl rfl) rfl ?_
        refine RH.two (i := 4) (j := 10) krX ?_ ?_
        ·
         refine RHone.eff rfl (Wanted.free rfl) (E.loadElem (T := RPeer) (l := c.nodes) (a := na) (j := j) rfl ag26 rfl memX (Clu.p_get hjN)) rfl ?_
         rintro _ _ ⟨u129, rfl, rfl⟩
         refine ⟨.inr entX, ?_⟩
         refine RH.two (i := 6) (j := 10) krX ?_ ?_
         ·
          refine RHone.eff rfl (Wanted.free rfl) (E.call rfl go31 rfl (rhandle_ok (p := c.p j) (m := q) memX memX (hok.p _ (Clu.p_mem hjN)) hqo)) rfl ?_
          rintro _ _ ⟨u131, a131, c131, rfl, rfl⟩
          refine ⟨.inr entX, ?_⟩
          refine RH.openPeer (us := u131) (Pick.rd (T := RPeer) memX) fun k2a k2n k2c w2a w2n w2c x2a x2n x2c hus => ?_
          subst hus
          refine RH.val 7 rfl krX krX krX krX (Wanted.free rfl) (V.move rfl rfl) rfl ?_
          refine RH.val 8 rfl krX krX krX krX (Wanted.free rfl) (V.extract rfl rfl rfl) rfl ?_
          refine RH.pure 9 rfl krX krX krX krX (Wanted.free rfl) (V.extract rfl rfl rfl) rfl ?_
          refine RH.one (i := 10) krX ?_
          refine RHone.eff rfl (Wanted.free rfl) (E.alloc rfl ze26) rfl ?_
          rintro _ _ ⟨b20, rfl, rfl⟩
          refine ⟨.inr entX, ?_⟩
          refine RH.one (i := 11) krX ?_
          refine RHone.eff rfl (Wanted.free rfl) (E.storeWhole rfl rfl rfl (by rfl) sz26 pickX pv_one (by rfl)) rfl ?_
          rintro _ _ rfl
          refine ⟨.inl krX, ?_⟩
          refine RH.pure 12 rfl krX krX krX krX (Wanted.free rfl) (V.assign rfl rfl) rfl ?_
          refine RH.done krX ?_
          refine SG.seq ?_
          refine SG.ent (RPeer.mk (p := (handle (c.p j) q).1) (la := k1a) (ln := k1n) (lc := k1c) (va := w1a) (vn := w1n) (vc := w1c) (ma := x1a) (mn := x1n) (mc := x1c) memX memX memX) ?_
          refine SG.ent (RPeer.mk (p := (handle (c.p j) q).1) (la := k2a) (ln := k2n) (lc := k2c) (va := w2a) (vn := w2n) (vc := w2c) (ma := x2a) (mn := x2n) (mc := x2c) memX memX memX) ?_
          refine SG.region ?_
          refine RL.val (Wanted.free rfl) (V.loadAgg (us := pv (handle (c.p j) q).1 (.slice k1a k1n k1c) (.slice w1a w1n w1c) (.slice x1a x1n x1c)) rfl ag26 rfl pickX rfl rfl) rfl ?_
          refine RL.val (Wanted.free rfl) (V.loadAgg (us := pv (handle (c.p j) q).1 (.slice k2a k2n k2c) (.slice w2a w2n w2c) (.slice x2a x2n x2c)) rfl ag26 rfl pickX rfl rfl) rfl ?_
          refine RL.eff (Wanted.free rfl) (E.call rfl go14 rfl (same_ok (us := pv (handle (c.p j) q).1 (.slice k1a k1n k1c) (.slice w1a w1n w1c) (.slice x1a x1n x1c)) (us' := pv (handle (c.p j) q).1 (.slice k2a k2n k2c) (.slice w2a w2n w2c) (.slice x2a x2n x2c)) (p := (handle (c.p j) q).1) (p' := (handle (c.p j) q).1) memX memX rfl)) rfl ?_
          rintro _ _ ⟨rfl, rfl⟩
          refine RL.val (Wanted.free rfl) (V.not rfl rfl) rfl ?_
          refine RL.val (Wanted.free rfl) (V.move rfl rfl) rfl ?_
          refine RL.val (Wanted.yes rfl rfl rfl rfl) (V.move rfl rfl) rfl ?_
          refine RL.val (Wanted.yes rfl rfl rfl rfl) (V.move rfl rfl) rfl ?_
          refine RL.eff (Wanted.yes rfl rfl rfl rfl) (E.call rfl go20 rfl (sameMsgs_ok (l := (handle (c.p j) q).2) (l' := (handle (c.p j) q).2) (a := a121) (b := a131) memX memX rfl)) rfl ?_
          rintro _ _ ⟨rfl, rfl⟩
          refine RL.val (Wanted.yes rfl rfl rfl rfl) (V.not rfl rfl) rfl ?_
          refine RL.val (Wanted.free rfl) (V.pick_false rfl rfl rfl) rfl ?_
          refine RL.nil ?_
          refine SG.cond_false rfl ?_
          refine SG.skip ?_
          refine SG.inBlock ?_
          refine SG.region ?_
          refine RL.val (Wanted.free rfl) (V.move rfl rfl) rfl ?_
          refine RL.val (Wanted.free rfl) (V.bin rfl rfl rfl (B.addI (by omega) (by omega))) rfl ?_
          refine RL.val (Wanted.free rfl) (V.assign rfl rfl) rfl ?_
          refine RL.nil ?_
          refine SG.weaken (ih2 _ _ _ ?_ ⟨j + 1, by omega, rfl, rfl, rfl⟩) ?_ ?_
          ·
           omega
          ·
           repeat (first | exact EnvLe.nil _ | refine EnvLe.cons rfl ?_)
          ·
           exact entX
         ·
          refine RHone.eff rfl (Wanted.free rfl) (E.alloc rfl ze26) rfl ?_
          rintro _ _ ⟨b20, rfl, rfl⟩
          refine ⟨.inr entX, ?_⟩
          refine RH.one (i := 6) krX ?_
          refine RHone.eff rfl (Wanted.free rfl) (E.call rfl go31 rfl (rhandle_ok (p := c.p j) (m := q) memX memX (hok.p _ (Clu.p_mem hjN)) hqo)) rfl ?_
          rintro _ _ ⟨u131, a131, c131, rfl, rfl⟩
          refine ⟨.inr entX, ?_⟩
          refine RH.openPeer (us := u131) (Pick.rd (T := RPeer) memX) fun k2a k2n k2c w2a w2n w2c x2a x2n x2c hus => ?_
          subst hus
          refine RH.val 7 rfl krX krX krX krX (Wanted.free rfl) (V.move rfl rfl) rfl ?_
          refine RH.val 8 rfl krX krX krX krX (Wanted.free rfl) (V.extract rfl rfl rfl) rfl ?_
          refine RH.pure 9 rfl krX krX krX krX (Wanted.free rfl) (V.extract rfl rfl rfl) rfl ?_
          refine RH.one (i := 11) krX ?_
          refine RHone.eff rfl (Wanted.free rfl) (E.storeWhole rfl rfl rfl (by rfl) sz26 pickX pv_one (by rfl)) rfl ?_
          rintro _ _ rfl
          refine ⟨.inl krX, ?_⟩
          refine RH.pure 12 rfl krX krX krX krX (Wanted.free rfl) (V.assign rfl rfl) rfl ?_
          refine RH.done krX ?_
          refine SG.seq ?_
          refine SG.ent (RPeer.mk (p := (handle (c.p j) q).1) (la := k1a) (ln := k1n) (lc := k1c) (va := w1a) (vn := w1n) (vc := w1c) (ma := x1a) (mn := x1n) (mc := x1c) memX memX memX) ?_
          refine SG.ent (RPeer.mk (p := (handle (c.p j) q).1) (la := k2a) (ln := k2n) (lc := k2c) (va := w2a) (vn := w2n) (vc := w2c) (ma := x2a) (mn := x2n) (mc := x2c) memX memX memX) ?_
          refine SG.region ?_
          refine RL.val (Wanted.free rfl) (V.loadAgg (us := pv (handle (c.p j) q).1 (.slice k1a k1n k1c) (.slice w1a w1n w1c) (.slice x1a x1n x1c)) rfl ag26 rfl pickX rfl rfl) rfl ?_
          refine RL.val (Wanted.free rfl) (V.loadAgg (us := pv (handle (c.p j) q).1 (.slice k2a k2n k2c) (.slice w2a w2n w2c) (.slice x2a x2n x2c)) rfl ag26 rfl pickX rfl rfl) rfl ?_
          refine RL.eff (Wanted.free rfl) (E.call rfl go14 rfl (same_ok (us := pv (handle (c.p j) q).1 (.slice k1a k1n k1c) (.slice w1a w1n w1c) (.slice x1a x1n x1c)) (us' := pv (handle (c.p j) q).1 (.slice k2a k2n k2c) (.slice w2a w2n w2c) (.slice x2a x2n x2c)) (p := (handle (c.p j) q).1) (p' := (handle (c.p j) q).1) memX memX rfl)) rfl ?_
          rintro _ _ ⟨rfl, rfl⟩
          refine RL.val (Wanted.free rfl) (V.not rfl rfl) rfl ?_
          refine RL.val (Wanted.free rfl) (V.move rfl rfl) rfl ?_
          refine RL.val (Wanted.yes rfl rfl rfl rfl) (V.move rfl rfl) rfl ?_
          refine RL.val (Wanted.yes rfl rfl rfl rfl) (V.move rfl rfl) rfl ?_
          refine RL.eff (Wanted.yes rfl rfl rfl rfl) (E.call rfl go20 rfl (sameMsgs_ok (l := (handle (c.p j) q).2) (l' := (handle (c.p j) q).2) (a := a121) (b := a131) memX memX rfl)) rfl ?_
          rintro _ _ ⟨rfl, rfl⟩
          refine RL.val (Wanted.yes rfl rfl rfl rfl) (V.not rfl rfl) rfl ?_
          refine RL.val (Wanted.free rfl) (V.pick_false rfl rfl rfl) rfl ?_
          refine RL.nil ?_
          refine SG.cond_false rfl ?_
          refine SG.skip ?_
          refine SG.inBlock ?_
          refine SG.region ?_
          refine RL.val (Wanted.free rfl) (V.move rfl rfl) rfl ?_
          refine RL.val (Wanted.free rfl) (V.bin rfl rfl rfl (B.addI (by omega) (by omega))) rfl ?_
          refine RL.val (Wanted.free rfl) (V.assign rfl rfl) rfl ?_
          refine RL.nil ?_
          refine SG.weaken (ih2 _ _ _ ?_ ⟨j + 1, by omega, rfl, rfl, rfl⟩) ?_ ?_
          ·
           omega
          ·
           repeat (first | exact EnvLe.nil _ | refine EnvLe.cons rfl ?_)
          ·
           exact entX
        ·
         refine RHone.eff rfl (Wanted.free rfl) (E.alloc rfl ze26) rfl ?_
         rintro _ _ ⟨b20, rfl, rfl⟩
         refine ⟨.inr entX, ?_⟩
         refine RH.one (i := 4) krX ?_
         refine RHone.eff rfl (Wanted.free rfl) (E.loadElem (T := RPeer) (l := c.nodes) (a := na) (j := j) rfl ag26 rfl memX (Clu.p_get hjN)) rfl ?_
         rintro _ _ ⟨u129, rfl, rfl⟩
         refine ⟨.inr entX, ?_⟩
         refine RH.one (i := 6) krX ?_
         refine RHone.eff rfl (Wanted.free rfl) (E.call rfl go31 rfl (rhandle_ok (p := c.p j) (m := q) memX memX (hok.p _ (Clu.p_mem hjN)) hqo)) rfl ?_
         rintro _ _ ⟨u131, a131, c131, rfl, rfl⟩
         refine ⟨.inr entX, ?_⟩
         refine RH.openPeer (us := u131) (Pick.rd (T := RPeer) memX) fun k2a k2n k2c w2a w2n w2c x2a x2n x2c hus => ?_
         subst hus
         refine RH.val 7 rfl krX krX krX krX (Wanted.free rfl) (V.move rfl rfl) rfl ?_
         refine RH.val 8 rfl krX krX krX krX (Wanted.free rfl) (V.extract rfl rfl rfl) rfl ?_
         refine RH.pure 9 rfl krX krX krX krX (Wanted.free rfl) (V.extract rfl rfl rfl) rfl ?_
         refine RH.one (i := 11) krX ?_
         refine RHone.eff rfl (Wanted.free rfl) (E.storeWhole rfl rfl rfl (by rfl) sz26 pickX pv_one (by rfl)) rfl ?_
         rintro _ _ rfl
         refine ⟨.inl krX, ?_⟩
         refine RH.pure 12 rfl krX krX krX krX (Wanted.free rfl) (V.assign rfl rfl) rfl ?_
         refine RH.done krX ?_
         refine SG.seq ?_
         refine SG.ent (RPeer.mk (p := (handle (c.p j) q).1) (la := k1a) (ln := k1n) (lc := k1c) (va := w1a) (vn := w1n) (vc := w1c) (ma := x1a) (mn := x1n) (mc := x1c) memX memX memX) ?_
         refine SG.ent (RPeer.mk (p := (handle (c.p j) q).1) (la := k2a) (ln := k2n) (lc := k2c) (va := w2a) (vn := w2n) (vc := w2c) (ma := x2a) (mn := x2n) (mc := x2c) memX memX memX) ?_
         refine SG.region ?_
         refine RL.val (Wanted.free rfl) (V.loadAgg (us := pv (handle (c.p j) q).1 (.slice k1a k1n k1c) (.slice w1a w1n w1c) (.slice x1a x1n x1c)) rfl ag26 rfl pickX rfl rfl) rfl ?_
         refine RL.val (Wanted.free rfl) (V.loadAgg (us := pv (handle (c.p j) q).1 (.slice k2a k2n k2c) (.slice w2a w2n w2c) (.slice x2a x2n x2c)) rfl ag26 rfl pickX rfl rfl) rfl ?_
         refine RL.eff (Wanted.free rfl) (E.call rfl go14 rfl (same_ok (us := pv (handle (c.p j) q).1 (.slice k1a k1n k1c) (.slice w1a w1n w1c) (.slice x1a x1n x1c)) (us' := pv (handle (c.p j) q).1 (.slice k2a k2n k2c) (.slice w2a w2n w2c) (.slice x2a x2n x2c)) (p := (handle (c.p j) q).1) (p' := (handle (c.p j) q).1) memX memX rfl)) rfl ?_
         rintro _ _ ⟨rfl, rfl⟩
         refine RL.val (Wanted.free rfl) (V.not rfl rfl) rfl ?_
         refine RL.val (Wanted.free rfl) (V.move rfl rfl) rfl ?_
         refine RL.val (Wanted.yes rfl rfl rfl rfl) (V.move rfl rfl) rfl ?_
         refine RL.val (Wanted.yes rfl rfl rfl rfl) (V.move rfl rfl) rfl ?_
         refine RL.eff (Wanted.yes rfl rfl rfl rfl) (E.call rfl go20 rfl (sameMsgs_ok (l := (handle (c.p j) q).2) (l' := (handle (c.p j) q).2) (a := a121) (b := a131) memX memX rfl)) rfl ?_
         rintro _ _ ⟨rfl, rfl⟩
         refine RL.val (Wanted.yes rfl rfl rfl rfl) (V.not rfl rfl) rfl ?_
         refine RL.val (Wanted.free rfl) (V.pick_false rfl rfl rfl) rfl ?_
         refine RL.nil ?_
         refine SG.cond_false rfl ?_
         refine SG.skip ?_
         refine SG.inBlock ?_
         refine SG.region ?_
         refine RL.val (Wanted.free rfl) (V.move rfl rfl) rfl ?_
         refine RL.val (Wanted.free rfl) (V.bin rfl rfl rfl (B.addI (by omega) (by omega))) rfl ?_
         refine RL.val (Wanted.free rfl) (V.assign rfl rfl) rfl ?_
         refine RL.nil ?_
         refine SG.weaken (ih2 _ _ _ ?_ ⟨j + 1, by omega, rfl, rfl, rfl⟩) ?_ ?_
         ·
          omega
         ·
          repeat (first | exact EnvLe.nil _ | refine EnvLe.cons rfl ?_)
         ·
          exact entX
       ·
        refine SG.drawL 13 11 wide rfl rfl ?_
        refine RH.val 0 rfl krX krX krX krX (Wanted.free rfl) (V.fieldAddr rfl rfl fo37_0) rfl ?_
        refine RH.val 1 rfl krX krX krX krX (Wanted.free rfl) (V.load rfl on34 rfl pickX rfl) rfl ?_
        refine RH.val 2 rfl krX krX krX krX (Wanted.free rfl) (V.move rfl rfl) rfl ?_
        refine RH.val 3 rfl krX krX krX krX (Wanted.free rfl) (V.indexSl (T := RPeer) (l := c.nodes) (a := na) (j := j) rfl el34.slice rfl rfl memX rfl (by omega)) rfl ?_
        refine RH.val 5 rfl krX krX krX krX (Wanted.free rfl) (V.loadAgg (us := mv q (.slice ya yn yc)) rfl ag50 rfl pickX rfl rfl) rfl ?_
        refine RH.two (i := 4) (j := 10) krX ?_ ?_
        ·
         refine RHone.eff rfl (Wanted.free rfl) (E.loadElem (T := RPeer) (l := c.nodes) (a := na) (j := j) rfl ag26 rfl memX (Clu.p_get hjN)) rfl ?_
         rintro _ _ ⟨u119, rfl, rfl⟩
         refine ⟨.inr entX, ?_⟩
         refine RH.two (i := 6) (j := 10) krX ?_ ?_
         ·
          refine RHone.eff rfl (Wanted.free rfl) (E.call rfl go30 rfl (handle_okw (p := c.p j) (m := q) memX memX (hok.p _ (Clu.p_mem hjN)) hqo)) rfl ?_
          rintro _ _ ⟨u121, a121, c121, rfl, rfl⟩
          refine ⟨.inr entX, ?_⟩
          refine RH.openPeer (us := u121) (Pick.rd (T := RPeer) memX) fun k1a k1n k1c w1a w1n w1c x1a x1n x1c hus => ?_
          subst hus
          refine RH.val 7 rfl krX krX krX krX (Wanted.free rfl) (V.move rfl rfl) rfl ?_
          refine RH.val 8 rfl krX krX krX krX (Wanted.free rfl) (V.extract rfl rfl rfl) rfl ?_
          refine RH.pure 9 rfl krX krX krX krX (Wanted.free rfl) (V.extract rfl rfl rfl) rfl ?_
          refine RH.one (i := 10) krX ?_
          refine RHone.eff rfl (Wanted.free rfl) (E.alloc rfl ze26) rfl ?_
          rintro _ _ ⟨b18, rfl, rfl⟩
          refine ⟨.inr entX, ?_⟩
          refine RH.one (i := 11) krX ?_
          refine RHone.eff rfl (Wanted.free rfl) (E.storeWhole rfl rfl rfl (by rfl) sz26 pickX pv_one (by rfl)) rfl ?_
          rintro _ _ rfl
          refine ⟨.inl krX, ?_⟩
          refine RH.pure 12 rfl krX krX krX krX (Wanted.free rfl) (V.assign rfl rfl) rfl ?_
          refine RH.done krX ?_
          refine SG.weaken (rest ⟨(k1a, k1n, k1c), (w1a, w1n, w1c), (x1a, x1n, x1c), a121, c121, b18⟩ trivial) ?_ ?_
          ·
           repeat (first | exact EnvLe.nil _ | refine EnvLe.cons rfl ?_)
          ·
           exact entX
         ·
          refine RHone.eff rfl (Wanted.free rfl) (E.alloc rfl ze26) rfl ?_
          rintro _ _ ⟨b18, rfl, rfl⟩
          refine ⟨.inr entX, ?_⟩
          refine RH.one (i := 6) krX ?_
          refine RHone.eff rfl (Wanted.free rfl) (E.call rfl go30 rfl (handle_okw (p := c.p j) (m := q) memX memX (hok.p _ (Clu.p_mem hjN)) hqo)) rfl ?_
          rintro _ _ ⟨u121, a121, c121, rfl, rfl⟩
          refine ⟨.inr entX, ?_⟩
          refine RH.openPeer (us := u121) (Pick.rd (T := RPeer) memX) fun k1a k1n k1c w1a w1n w1c x1a x1n x1c hus => ?_
          subst hus
          refine RH.val 7 rfl krX krX krX krX (Wanted.free rfl) (V.move rfl rfl) rfl ?_
          refine RH.val 8 rfl krX krX krX krX (Wanted.free rfl) (V.extract rfl rfl rfl) rfl ?_
          refine RH.pure 9 rfl krX krX krX krX (Wanted.free rfl) (V.extract rfl rfl rfl) rfl ?_
          refine RH.one (i := 11) krX ?_
          refine RHone.eff rfl (Wanted.free rfl) (E.storeWhole rfl rfl rfl (by rfl) sz26 pickX pv_one (by rfl)) rfl ?_
          rintro _ _ rfl
          refine ⟨.inl krX, ?_⟩
          refine RH.pure 12 rfl krX krX krX krX (Wanted.free rfl) (V.assign rfl rfl) rfl ?_
          refine RH.done krX ?_
          refine SG.weaken (rest ⟨(k1a, k1n, k1c), (w1a, w1n, w1c), (x1a, x1n, x1c), a121, c121, b18⟩ trivial) ?_ ?_
          ·
           repeat (first | exact EnvLe.nil _ | refine EnvLe.cons rfl ?_)
          ·
           exact entX
        ·
         refine RHone.eff rfl (Wanted.free rfl) (E.alloc rfl ze26) rfl ?_
         rintro _ _ ⟨b18, rfl, rfl⟩
         refine ⟨.inr entX, ?_⟩
         refine RH.one (i := 4) krX ?_
         refine RHone.eff rfl (Wanted.free rfl) (E.loadElem (T := RPeer) (l := c.nodes) (a := na) (j := j) rfl ag26 rfl memX (Clu.p_get hjN)) rfl ?_
         rintro _ _ ⟨u119, rfl, rfl⟩
         refine ⟨.inr entX, ?_⟩
         refine RH.one (i := 6) krX ?_
         refine RHone.eff rfl (Wanted.free rfl) (E.call rfl go30 rfl (handle_okw (p := c.p j) (m := q) memX memX (hok.p _ (Clu.p_mem hjN)) hqo)) rfl ?_
         rintro _ _ ⟨u121, a121, c121, rfl, rfl⟩
         refine ⟨.inr entX, ?_⟩
         refine RH.openPeer (us := u121) (Pick.rd (T := RPeer) memX) fun k1a k1n k1c w1a w1n w1c x1a x1n x1c hus => ?_
         subst hus
         refine RH.val 7 rfl krX krX krX krX (Wanted.free rfl) (V.move rfl rfl) rfl ?_
         refine RH.val 8 rfl krX krX krX krX (Wanted.free rfl) (V.extract rfl rfl rfl) rfl ?_
         refine RH.pure 9 rfl krX krX krX krX (Wanted.free rfl) (V.extract rfl rfl rfl) rfl ?_
         refine RH.one (i := 11) krX ?_
         refine RHone.eff rfl (Wanted.free rfl) (E.storeWhole rfl rfl rfl (by rfl) sz26 pickX pv_one (by rfl)) rfl ?_
         rintro _ _ rfl
         refine ⟨.inl krX, ?_⟩
         refine RH.pure 12 rfl krX krX krX krX (Wanted.free rfl) (V.assign rfl rfl) rfl ?_
         refine RH.done krX ?_
         refine SG.weaken (rest ⟨(k1a, k1n, k1c), (w1a, w1n, w1c), (x1a, x1n, x1c), a121, c121, b18⟩ trivial) ?_ ?_
         ·
          repeat (first | exact EnvLe.nil _ | refine EnvLe.cons rfl ?_)
         ·
          exact entX
      ·
       have hmi := hmok _ (List.getElem_mem hiM)
       refine SG.region ?_
       refine RL.val (Wanted.free rfl) (V.move rfl rfl) rfl ?_
       refine RL.val (Wanted.free rfl) (V.bin rfl rfl rfl (B.rem (by decide))) rfl ?_
       refine RL.cmp (Wanted.free rfl) (V.bin rfl rfl rfl B.eql) rfl (fun h151 => ?_) (fun h151 => ?_)
       ·
        refine RL.nil ?_
        refine SG.cond_true rfl ?_
        refine SG.region ?_
        refine RL.val (Wanted.free rfl) (V.move rfl rfl) rfl ?_
        refine RL.val (Wanted.free rfl) (V.fieldAddr rfl rfl fo50_2) rfl ?_
        refine RL.eff (Wanted.free rfl) (E.store1 rfl rfl rfl rfl rfl sz3 pickX rfl) rfl ?_
        rintro _ _ rfl
        refine RL.nil ?_
        refine SG.ent (RMsg.mk (m := { (ms[i]'hiM) with to := (j : Int) }) (a := ya) (n' := yn) (c := yc) (show Sl RSlot ya yn yc (ms[i]'hiM).slots ∈ _ from memX)) ?_
        refine SG.ent (RMsg.mk (m := (ms[i]'hiM)) (a := ya) (n' := yn) (c := yc) memX) ?_
        refine SG.weaken (rest ⟨{ (ms[i]'hiM) with to := (j : Int) }, ya, yn, yc⟩ ⟨hmi.t0, hmi.t1, hmi.x0, hmi.x1, hmi.s1⟩) ?_ ?_
        ·
         repeat (first | exact EnvLe.nil _ | refine EnvLe.cons rfl ?_)
        ·
         try dsimp only
         exact entX
       ·
        refine RL.nil ?_
        refine SG.cond_false rfl ?_
        refine SG.skip ?_
        refine SG.ent (RMsg.mk (m := { (ms[i]'hiM) with to := (j : Int) }) (a := ya) (n' := yn) (c := yc) (show Sl RSlot ya yn yc (ms[i]'hiM).slots ∈ _ from memX)) ?_
        refine SG.ent (RMsg.mk (m := (ms[i]'hiM)) (a := ya) (n' := yn) (c := yc) memX) ?_
        refine SG.weaken (rest ⟨ms[i]'hiM, ya, yn, yc⟩ hmi) ?_ ?_
        ·
         repeat (first | exact EnvLe.nil _ | refine EnvLe.cons rfl ?_)
        ·
         try dsimp only
         exact entX
     ·
      refine RL.nil ?_
      refine SG.cond_false rfl ?_
      refine SG.exit rfl ?_
      refine SG.inBlock ?_
      refine SG.region ?_
      refine RL.val (Wanted.free rfl) (V.move rfl rfl) rfl ?_
      refine RL.val (Wanted.free rfl) (V.bin rfl rfl rfl (B.addI (by omega) (by omega))) rfl ?_
      refine RL.val (Wanted.free rfl) (V.assign rfl rfl) rfl ?_
      refine RL.nil ?_
      refine SG.weaken (ih1 _ _ _ ?_ ⟨i + 1, rfl, rfl, rfl⟩) ?_ ?_
      ·
       omega
      ·
       repeat (first | exact EnvLe.nil _ | refine EnvLe.cons rfl ?_)
      ·
       exact entX
    ·
     refine RL.nil ?_
     refine SG.cond_false rfl ?_
     refine SG.exit rfl ?_
     refine SG.seq ?_
     refine SG.region ?_
     refine RL.eff (Wanted.free rfl) (E.call rfl go28 rfl (lives_ok)) rfl ?_
     rintro _ _ ⟨rfl, rfl⟩
     refine RL.val (Wanted.free rfl) (V.assign rfl rfl) rfl ?_
     refine RL.nil ?_
     refine SG.retE (Ret.r1 Try.func4 rfl (.tmp rfl)) ?_ ⟨rfl, rfl⟩
     exact entX
   ·
    obtain rfl : i = K := by omega
    refine SG.publish (T := RSlot) (a := ya) pickX ?_
    refine SG.ent (RMsg.mk (m := oddM r i T) (a := ya) (n' := i) (c := yc) memX) ?_
    refine SG.sl (T := RMsg) (a := sa) (l := c.sent) memX fun hsn _ _ => ?_
    subst hsn
    refine SG.drawL 8 8 wide rfl rfl ?_
    refine RH.val 1 rfl krX krX krX krX (Wanted.free rfl) (V.fieldAddr rfl rfl fo37_1) rfl ?_
    refine RH.val 2 rfl krX krX krX krX (Wanted.free rfl) (V.load rfl on35 rfl pickX rfl) rfl ?_
    refine RH.val 4 rfl krX krX krX krX (Wanted.free rfl) (V.loadAgg (us := mv (oddM r i T) (.slice ya i yc)) rfl ag50 rfl pickX rfl rfl) rfl ?_
    refine RH.two (i := 0) (j := 5) krX ?_ ?_
    ·
     refine RHone.eff rfl (Wanted.free rfl) (E.lit0 (T := RMsg) rfl rfl el35) rfl ?_
     rintro _ _ ⟨b81, rfl, rfl⟩
     refine ⟨.inr entX, ?_⟩
     refine RH.two (i := 3) (j := 5) krX ?_ ?_
     ·
      refine RHone.eff rfl (Wanted.free rfl) (E.append (T := RMsg) rfl rfl rfl el35 el35.noInt rfl rfl pickX (Src.sl (by decide) memX) (by first | omega | (simp; omega)) (by first | omega | (simp; omega))) rfl ?_
      intro _ _ hK164
      try rw [List.nil_append] at hK164
      try rw [Nat.zero_add] at hK164
      obtain ⟨a84, c84, rfl, rfl⟩ := hK164
      refine ⟨.inr entX, ?_⟩
      refine RH.one (i := 5) krX ?_
      refine RHone.eff rfl (Wanted.free rfl) (E.lit1 (mv (oddM r i T) (.slice ya i yc)) rfl el35.slice ze50 rfl (by decide) (by decide) rfl rfl rfl) rfl ?_
      rintro _ _ ⟨b86, rfl, rfl⟩
      refine ⟨.inr entX, ?_⟩
      refine RH.one (i := 6) krX ?_
      refine RHone.eff rfl (Wanted.free rfl) (E.append (T := RMsg) rfl rfl rfl el35 el35.noInt rfl rfl pickX (Src.litRd (T := RMsg) (y := oddM r i T) pickX memX) (by first | omega | (simp; omega)) (by first | omega | (simp; omega))) rfl ?_
      intro _ _ hK166
      try rw [List.nil_append] at hK166
      try rw [Nat.zero_add] at hK166
      obtain ⟨a14, c14, rfl, rfl⟩ := hK166
      refine ⟨.inr entX, ?_⟩
      refine RH.val 7 rfl krX krX krX krX (Wanted.free rfl) (V.assign rfl rfl) rfl ?_
      refine RH.done krX ?_
      refine SG.weaken (rest ⟨a14, c14⟩ trivial) ?_ ?_
      ·
       repeat (first | exact EnvLe.nil _ | refine EnvLe.cons rfl ?_)
      ·
       exact entX
     ·
      refine RHone.eff rfl (Wanted.free rfl) (E.lit1 (mv (oddM r i T) (.slice ya i yc)) rfl el35.slice ze50 rfl (by decide) (by decide) rfl rfl rfl) rfl ?_
      rintro _ _ ⟨b86, rfl, rfl⟩
      refine ⟨.inr entX, ?_⟩
      refine RH.one (i := 3) krX ?_
      refine RHone.eff rfl (Wanted.free rfl) (E.append (T := RMsg) rfl rfl rfl el35 el35.noInt rfl rfl pickX (Src.sl (by decide) memX) (by first | omega | (simp; omega)) (by first | omega | (simp; omega))) rfl ?_
      intro _ _ hK169
      try rw [List.nil_append] at hK169
      try rw [Nat.zero_add] at hK169
      obtain ⟨a84, c84, rfl, rfl⟩ := hK169
      refine ⟨.inr entX, ?_⟩
      refine RH.one (i := 6) krX ?_
      refine RHone.eff rfl (Wanted.free rfl) (E.append (T := RMsg) rfl rfl rfl el35 el35.noInt rfl rfl pickX (Src.litRd (T := RMsg) (y := oddM r i T) pickX memX) (by first | omega | (simp; omega)) (by first | omega | (simp; omega))) rfl ?_
      intro _ _ hK170
      try rw [List.nil_append] at hK170
      try rw [Nat.zero_add] at hK170
      obtain ⟨a14, c14, rfl, rfl⟩ := hK170
      refine ⟨.inr entX, ?_⟩
      refine RH.val 7 rfl krX krX krX krX (Wanted.free rfl) (V.assign rfl rfl) rfl ?_
      refine RH.done krX ?_
      refine SG.weaken (rest ⟨a14, c14⟩ trivial) ?_ ?_
      ·
       repeat (first | exact EnvLe.nil _ | refine EnvLe.cons rfl ?_)
      ·
       exact entX
    ·
     refine RHone.eff rfl (Wanted.free rfl) (E.lit1 (mv (oddM r i T) (.slice ya i yc)) rfl el35.slice ze50 rfl (by decide) (by decide) rfl rfl rfl) rfl ?_
     rintro _ _ ⟨b86, rfl, rfl⟩
     refine ⟨.inr entX, ?_⟩
     refine RH.one (i := 0) krX ?_
     refine RHone.eff rfl (Wanted.free rfl) (E.lit0 (T := RMsg) rfl rfl el35) rfl ?_
     rintro _ _ ⟨b81, rfl, rfl⟩
     refine ⟨.inr entX, ?_⟩
     refine RH.one (i := 3) krX ?_
     refine RHone.eff rfl (Wanted.free rfl) (E.append (T := RMsg) rfl rfl rfl el35 el35.noInt rfl rfl pickX (Src.sl (by decide) memX) (by first | omega | (simp; omega)) (by first | omega | (simp; omega))) rfl ?_
     intro _ _ hK174
     try rw [List.nil_append] at hK174
     try rw [Nat.zero_add] at hK174
     obtain ⟨a84, c84, rfl, rfl⟩ := hK174
     refine ⟨.inr entX, ?_⟩
     refine RH.one (i := 6) krX ?_
     refine RHone.eff rfl (Wanted.free rfl) (E.append (T := RMsg) rfl rfl rfl el35 el35.noInt rfl rfl pickX (Src.litRd (T := RMsg) (y := oddM r i T) pickX memX) (by first | omega | (simp; omega)) (by first | omega | (simp; omega))) rfl ?_
     intro _ _ hK175
     try rw [List.nil_append] at hK175
     try rw [Nat.zero_add] at hK175
     obtain ⟨a14, c14, rfl, rfl⟩ := hK175
     refine ⟨.inr entX, ?_⟩
     refine RH.val 7 rfl krX krX krX krX (Wanted.free rfl) (V.assign rfl rfl) rfl ?_
     refine RH.done krX ?_
     refine SG.weaken (rest ⟨a14, c14⟩ trivial) ?_ ?_
     ·
      repeat (first | exact EnvLe.nil _ | refine EnvLe.cons rfl ?_)
     ·
      exact entX
 ·
  obtain ⟨ia, ib, ic, id_, ie, if_, ig⟩ := id hri
  obtain ⟨ekind0, ekind1⟩ := aroundV_bd (n := r.kind) (most := 6) (by omega)
  obtain ⟨efrm0, efrm1⟩ := aroundV_bd (n := r.frm) (most := 7) (by omega)
  obtain ⟨eto0, eto1⟩ := aroundV_bd (n := r.to) (most := 7) (by omega)
  obtain ⟨eterm0, eterm1⟩ := aroundV_bd (n := r.term) (most := 6) (by omega)
  obtain ⟨eindex0, eindex1⟩ := aroundV_bd (n := r.index) (most := 8) (by omega)
  obtain ⟨eprev0, eprev1⟩ := aroundV_bd (n := r.prev) (most := 6) (by omega)
  obtain ⟨ecommit0, ecommit1⟩ := aroundV_bd (n := r.commit) (most := 8) (by omega)
  refine SG.drawL 28 27 wide rfl rfl ?_
  refine RH.val 0 rfl krX krX krX krX (Wanted.free rfl) (V.fieldAddr rfl rfl fo50_0) rfl ?_
  refine RH.val 1 rfl krX krX krX krX (Wanted.free rfl) (V.load rfl on3 rfl pickX rfl) rfl ?_
  refine RH.val 3 rfl krX krX krX krX (Wanted.free rfl) (V.fieldAddr rfl rfl fo50_1) rfl ?_
  refine RH.val 4 rfl krX krX krX krX (Wanted.free rfl) (V.load rfl on3 rfl pickX rfl) rfl ?_
  refine RH.val 7 rfl krX krX krX krX (Wanted.free rfl) (V.fieldAddr rfl rfl fo50_2) rfl ?_
  refine RH.val 8 rfl krX krX krX krX (Wanted.free rfl) (V.load rfl on3 rfl pickX rfl) rfl ?_
  refine RH.val 11 rfl krX krX krX krX (Wanted.free rfl) (V.fieldAddr rfl rfl fo50_3) rfl ?_
  refine RH.val 12 rfl krX krX krX krX (Wanted.free rfl) (V.load rfl on3 rfl pickX rfl) rfl ?_
  refine RH.val 14 rfl krX krX krX krX (Wanted.free rfl) (V.fieldAddr rfl rfl fo50_4) rfl ?_
  refine RH.val 15 rfl krX krX krX krX (Wanted.free rfl) (V.load rfl on3 rfl pickX rfl) rfl ?_
  refine RH.val 17 rfl krX krX krX krX (Wanted.free rfl) (V.fieldAddr rfl rfl fo50_5) rfl ?_
  refine RH.val 18 rfl krX krX krX krX (Wanted.free rfl) (V.load rfl on3 rfl pickX rfl) rfl ?_
  refine RH.val 20 rfl krX krX krX krX (Wanted.free rfl) (V.fieldAddr rfl rfl fo50_6) rfl ?_
  refine RH.val 21 rfl krX krX krX krX (Wanted.free rfl) (V.load rfl on3 rfl pickX rfl) rfl ?_
  refine RH.val 23 rfl krX krX krX krX (Wanted.free rfl) (V.fieldAddr rfl rfl fo50_8) rfl ?_
  refine RH.val 24 rfl krX krX krX krX (Wanted.free rfl) (V.load rfl on4 rfl pickX rfl) rfl ?_
  refine RH.two (i := 2) (j := 26) krX ?_ ?_
  ·
   refine RHone.eff rfl (Wanted.free rfl) (E.call rfl go29 rfl (around_ok _ _ ia.1 ia.2 (by omega))) rfl ?_
   rintro _ _ ⟨rfl, rfl⟩
   refine ⟨.inr entX, ?_⟩
   refine RH.two (i := 5) (j := 26) krX ?_ ?_
   ·
    refine RHone.eff rfl (Wanted.free rfl) (E.call rfl go29 rfl (around_ok _ _ ib.1 ib.2 (by omega))) rfl ?_
    rintro _ _ ⟨rfl, rfl⟩
    refine ⟨.inr entX, ?_⟩
    refine RH.val 6 rfl krX krX krX krX (Wanted.free rfl) (V.bin rfl rfl rfl (B.subI (by omega) (by omega))) rfl ?_
    refine RH.two (i := 9) (j := 26) krX ?_ ?_
    ·
     refine RHone.eff rfl (Wanted.free rfl) (E.call rfl go29 rfl (around_ok _ _ ic.1 ic.2 (by omega))) rfl ?_
     rintro _ _ ⟨rfl, rfl⟩
     refine ⟨.inr entX, ?_⟩
     refine RH.val 10 rfl krX krX krX krX (Wanted.free rfl) (V.bin rfl rfl rfl (B.subI (by omega) (by omega))) rfl ?_
     refine RH.two (i := 13) (j := 26) krX ?_ ?_
     ·
      refine RHone.eff rfl (Wanted.free rfl) (E.call rfl go29 rfl (around_ok _ _ id_.1 id_.2 (by omega))) rfl ?_
      rintro _ _ ⟨rfl, rfl⟩
      refine ⟨.inr entX, ?_⟩
      refine RH.two (i := 16) (j := 26) krX ?_ ?_
      ·
       refine RHone.eff rfl (Wanted.free rfl) (E.call rfl go29 rfl (around_ok _ _ ie.1 ie.2 (by omega))) rfl ?_
       rintro _ _ ⟨rfl, rfl⟩
       refine ⟨.inr entX, ?_⟩
       refine RH.two (i := 19) (j := 26) krX ?_ ?_
       ·
        refine RHone.eff rfl (Wanted.free rfl) (E.call rfl go29 rfl (around_ok _ _ if_.1 if_.2 (by omega))) rfl ?_
        rintro _ _ ⟨rfl, rfl⟩
        refine ⟨.inr entX, ?_⟩
        refine RH.two (i := 22) (j := 26) krX ?_ ?_
        ·
         refine RHone.eff rfl (Wanted.free rfl) (E.call rfl go29 rfl (around_ok _ _ ig.1 ig.2 (by omega))) rfl ?_
         rintro _ _ ⟨rfl, rfl⟩
         refine ⟨.inr entX, ?_⟩
         refine RH.val 25 rfl krX krX krX krX (Wanted.free rfl) (V.buildS [(0, _), (1, _), (2, _), (3, _), (4, _), (5, _), (6, _), (8, _)] rfl bs50 (by exact ⟨rfl, ⟨_, rfl, rfl⟩, ⟨rfl, ⟨_, rfl, rfl⟩, ⟨rfl, ⟨_, rfl, rfl⟩, ⟨rfl, ⟨_, rfl, rfl⟩, ⟨rfl, ⟨_, rfl, rfl⟩, ⟨rfl, ⟨_, rfl, rfl⟩, ⟨rfl, ⟨_, rfl, rfl⟩, ⟨rfl, ⟨_, rfl, rfl⟩, trivial⟩⟩⟩⟩⟩⟩⟩⟩) rfl) rfl ?_
         refine RH.one (i := 26) krX ?_
         refine RHone.eff rfl (Wanted.free rfl) (E.alloc rfl ze50) rfl ?_
         rintro _ _ ⟨b12, rfl, rfl⟩
         refine ⟨.inr entX, ?_⟩
         refine RH.one (i := 27) krX ?_
         refine RHone.eff rfl (Wanted.free rfl) (E.storeWhole rfl rfl rfl (by rfl) sz50 pickX (by first | (simp [Value.oneCell']; done) | (simp [setAt, Value.oneCell']; done)) (by rfl)) rfl ?_
         rintro _ _ rfl
         refine ⟨.inl krX, ?_⟩
         refine RH.done krX ?_
         refine SG.weaken (rest b12 trivial) ?_ ?_
         ·
          repeat (first | exact EnvLe.nil _ | refine EnvLe.cons rfl ?_)
         ·
          exact entX
        ·
         refine RHone.eff rfl (Wanted.free rfl) (E.alloc rfl ze50) rfl ?_
         rintro _ _ ⟨b12, rfl, rfl⟩
         refine ⟨.inr entX, ?_⟩
         refine RH.one (i := 22) krX ?_
         refine RHone.eff rfl (Wanted.free rfl) (E.call rfl go29 rfl (around_ok _ _ ig.1 ig.2 (by omega))) rfl ?_
         rintro _ _ ⟨rfl, rfl⟩
         refine ⟨.inr entX, ?_⟩
         refine RH.val 25 rfl krX krX krX krX (Wanted.free rfl) (V.buildS [(0, _), (1, _), (2, _), (3, _), (4, _), (5, _), (6, _), (8, _)] rfl bs50 (by exact ⟨rfl, ⟨_, rfl, rfl⟩, ⟨rfl, ⟨_, rfl, rfl⟩, ⟨rfl, ⟨_, rfl, rfl⟩, ⟨rfl, ⟨_, rfl, rfl⟩, ⟨rfl, ⟨_, rfl, rfl⟩, ⟨rfl, ⟨_, rfl, rfl⟩, ⟨rfl, ⟨_, rfl, rfl⟩, ⟨rfl, ⟨_, rfl, rfl⟩, trivial⟩⟩⟩⟩⟩⟩⟩⟩) rfl) rfl ?_
         refine RH.one (i := 27) krX ?_
         refine RHone.eff rfl (Wanted.free rfl) (E.storeWhole rfl rfl rfl (by rfl) sz50 pickX (by first | (simp [Value.oneCell']; done) | (simp [setAt, Value.oneCell']; done)) (by rfl)) rfl ?_
         rintro _ _ rfl
         refine ⟨.inl krX, ?_⟩
         refine RH.done krX ?_
         refine SG.weaken (rest b12 trivial) ?_ ?_
         ·
          repeat (first | exact EnvLe.nil _ | refine EnvLe.cons rfl ?_)
         ·
          exact entX
       ·
        refine RHone.eff rfl (Wanted.free rfl) (E.alloc rfl ze50) rfl ?_
        rintro _ _ ⟨b12, rfl, rfl⟩
        refine ⟨.inr entX, ?_⟩
        refine RH.one (i := 19) krX ?_
        refine RHone.eff rfl (Wanted.free rfl) (E.call rfl go29 rfl (around_ok _ _ if_.1 if_.2 (by omega))) rfl ?_
        rintro _ _ ⟨rfl, rfl⟩
        refine ⟨.inr entX, ?_⟩
        refine RH.one (i := 22) krX ?_
        refine RHone.eff rfl (Wanted.free rfl) (E.call rfl go29 rfl (around_ok _ _ ig.1 ig.2 (by omega))) rfl ?_
        rintro _ _ ⟨rfl, rfl⟩
        refine ⟨.inr entX, ?_⟩
        refine RH.val 25 rfl krX krX krX krX (Wanted.free rfl) (V.buildS [(0, _), (1, _), (2, _), (3, _), (4, _), (5, _), (6, _), (8, _)] rfl bs50 (by exact ⟨rfl, ⟨_, rfl, rfl⟩, ⟨rfl, ⟨_, rfl, rfl⟩, ⟨rfl, ⟨_, rfl, rfl⟩, ⟨rfl, ⟨_, rfl, rfl⟩, ⟨rfl, ⟨_, rfl, rfl⟩, ⟨rfl, ⟨_, rfl, rfl⟩, ⟨rfl, ⟨_, rfl, rfl⟩, ⟨rfl, ⟨_, rfl, rfl⟩, trivial⟩⟩⟩⟩⟩⟩⟩⟩) rfl) rfl ?_
        refine RH.one (i := 27) krX ?_
        refine RHone.eff rfl (Wanted.free rfl) (E.storeWhole rfl rfl rfl (by rfl) sz50 pickX (by first | (simp [Value.oneCell']; done) | (simp [setAt, Value.oneCell']; done)) (by rfl)) rfl ?_
        rintro _ _ rfl
        refine ⟨.inl krX, ?_⟩
        refine RH.done krX ?_
        refine SG.weaken (rest b12 trivial) ?_ ?_
        ·
         repeat (first | exact EnvLe.nil _ | refine EnvLe.cons rfl ?_)
        ·
         exact entX
      ·
       refine RHone.eff rfl (Wanted.free rfl) (E.alloc rfl ze50) rfl ?_
       rintro _ _ ⟨b12, rfl, rfl⟩
       refine ⟨.inr entX, ?_⟩
       refine RH.one (i := 16) krX ?_
       refine RHone.eff rfl (Wanted.free rfl) (E.call rfl go29 rfl (around_ok _ _ ie.1 ie.2 (by omega))) rfl ?_
       rintro _ _ ⟨rfl, rfl⟩
       refine ⟨.inr entX, ?_⟩
       refine RH.one (i := 19) krX ?_
       refine RHone.eff rfl (Wanted.free rfl) (E.call rfl go29 rfl (around_ok _ _ if_.1 if_.2 (by omega))) rfl ?_
       rintro _ _ ⟨rfl, rfl⟩
       refine ⟨.inr entX, ?_⟩
       refine RH.one (i := 22) krX ?_
       refine RHone.eff rfl (Wanted.free rfl) (E.call rfl go29 rfl (around_ok _ _ ig.1 ig.2 (by omega))) rfl ?_
       rintro _ _ ⟨rfl, rfl⟩
       refine ⟨.inr entX, ?_⟩
       refine RH.val 25 rfl krX krX krX krX (Wanted.free rfl) (V.buildS [(0, _), (1, _), (2, _), (3, _), (4, _), (5, _), (6, _), (8, _)] rfl bs50 (by exact ⟨rfl, ⟨_, rfl, rfl⟩, ⟨rfl, ⟨_, rfl, rfl⟩, ⟨rfl, ⟨_, rfl, rfl⟩, ⟨rfl, ⟨_, rfl, rfl⟩, ⟨rfl, ⟨_, rfl, rfl⟩, ⟨rfl, ⟨_, rfl, rfl⟩, ⟨rfl, ⟨_, rfl, rfl⟩, ⟨rfl, ⟨_, rfl, rfl⟩, trivial⟩⟩⟩⟩⟩⟩⟩⟩) rfl) rfl ?_
       refine RH.one (i := 27) krX ?_
       refine RHone.eff rfl (Wanted.free rfl) (E.storeWhole rfl rfl rfl (by rfl) sz50 pickX (by first | (simp [Value.oneCell']; done) | (simp [setAt, Value.oneCell']; done)) (by rfl)) rfl ?_
       rintro _ _ rfl
       refine ⟨.inl krX, ?_⟩
       refine RH.done krX ?_
       refine SG.weaken (rest b12 trivial) ?_ ?_
       ·
        repeat (first | exact EnvLe.nil _ | refine EnvLe.cons rfl ?_)
       ·
        exact entX
     ·
      refine RHone.eff rfl (Wanted.free rfl) (E.alloc rfl ze50) rfl ?_
      rintro _ _ ⟨b12, rfl, rfl⟩
      refine ⟨.inr entX, ?_⟩
      refine RH.one (i := 13) krX ?_
      refine RHone.eff rfl (Wanted.free rfl) (E.call rfl go29 rfl (around_ok _ _ id_.1 id_.2 (by omega))) rfl ?_
      rintro _ _ ⟨rfl, rfl⟩
      refine ⟨.inr entX, ?_⟩
      refine RH.one (i := 16) krX ?_
      refine RHone.eff rfl (Wanted.free rfl) (E.call rfl go29 rfl (around_ok _ _ ie.1 ie.2 (by omega))) rfl ?_
      rintro _ _ ⟨rfl, rfl⟩
      refine ⟨.inr entX, ?_⟩
      refine RH.one (i := 19) krX ?_
      refine RHone.eff rfl (Wanted.free rfl) (E.call rfl go29 rfl (around_ok _ _ if_.1 if_.2 (by omega))) rfl ?_
      rintro _ _ ⟨rfl, rfl⟩
      refine ⟨.inr entX, ?_⟩
      refine RH.one (i := 22) krX ?_
      refine RHone.eff rfl (Wanted.free rfl) (E.call rfl go29 rfl (around_ok _ _ ig.1 ig.2 (by omega))) rfl ?_
      rintro _ _ ⟨rfl, rfl⟩
      refine ⟨.inr entX, ?_⟩
      refine RH.val 25 rfl krX krX krX krX (Wanted.free rfl) (V.buildS [(0, _), (1, _), (2, _), (3, _), (4, _), (5, _), (6, _), (8, _)] rfl bs50 (by exact ⟨rfl, ⟨_, rfl, rfl⟩, ⟨rfl, ⟨_, rfl, rfl⟩, ⟨rfl, ⟨_, rfl, rfl⟩, ⟨rfl, ⟨_, rfl, rfl⟩, ⟨rfl, ⟨_, rfl, rfl⟩, ⟨rfl, ⟨_, rfl, rfl⟩, ⟨rfl, ⟨_, rfl, rfl⟩, ⟨rfl, ⟨_, rfl, rfl⟩, trivial⟩⟩⟩⟩⟩⟩⟩⟩) rfl) rfl ?_
      refine RH.one (i := 27) krX ?_
      refine RHone.eff rfl (Wanted.free rfl) (E.storeWhole rfl rfl rfl (by rfl) sz50 pickX (by first | (simp [Value.oneCell']; done) | (simp [setAt, Value.oneCell']; done)) (by rfl)) rfl ?_
      rintro _ _ rfl
      refine ⟨.inl krX, ?_⟩
      refine RH.done krX ?_
      refine SG.weaken (rest b12 trivial) ?_ ?_
      ·
       repeat (first | exact EnvLe.nil _ | refine EnvLe.cons rfl ?_)
      ·
       exact entX
    ·
     refine RHone.eff rfl (Wanted.free rfl) (E.alloc rfl ze50) rfl ?_
     rintro _ _ ⟨b12, rfl, rfl⟩
     refine ⟨.inr entX, ?_⟩
     refine RH.one (i := 9) krX ?_
     refine RHone.eff rfl (Wanted.free rfl) (E.call rfl go29 rfl (around_ok _ _ ic.1 ic.2 (by omega))) rfl ?_
     rintro _ _ ⟨rfl, rfl⟩
     refine ⟨.inr entX, ?_⟩
     refine RH.val 10 rfl krX krX krX krX (Wanted.free rfl) (V.bin rfl rfl rfl (B.subI (by omega) (by omega))) rfl ?_
     refine RH.one (i := 13) krX ?_
     refine RHone.eff rfl (Wanted.free rfl) (E.call rfl go29 rfl (around_ok _ _ id_.1 id_.2 (by omega))) rfl ?_
     rintro _ _ ⟨rfl, rfl⟩
     refine ⟨.inr entX, ?_⟩
     refine RH.one (i := 16) krX ?_
     refine RHone.eff rfl (Wanted.free rfl) (E.call rfl go29 rfl (around_ok _ _ ie.1 ie.2 (by omega))) rfl ?_
     rintro _ _ ⟨rfl, rfl⟩
     refine ⟨.inr entX, ?_⟩
     refine RH.one (i := 19) krX ?_
     refine RHone.eff rfl (Wanted.free rfl) (E.call rfl go29 rfl (around_ok _ _ if_.1 if_.2 (by omega))) rfl ?_
     rintro _ _ ⟨rfl, rfl⟩
     refine ⟨.inr entX, ?_⟩
     refine RH.one (i := 22) krX ?_
     refine RHone.eff rfl (Wanted.free rfl) (E.call rfl go29 rfl (around_ok _ _ ig.1 ig.2 (by omega))) rfl ?_
     rintro _ _ ⟨rfl, rfl⟩
     refine ⟨.inr entX, ?_⟩
     refine RH.val 25 rfl krX krX krX krX (Wanted.free rfl) (V.buildS [(0, _), (1, _), (2, _), (3, _), (4, _), (5, _), (6, _), (8, _)] rfl bs50 (by exact ⟨rfl, ⟨_, rfl, rfl⟩, ⟨rfl, ⟨_, rfl, rfl⟩, ⟨rfl, ⟨_, rfl, rfl⟩, ⟨rfl, ⟨_, rfl, rfl⟩, ⟨rfl, ⟨_, rfl, rfl⟩, ⟨rfl, ⟨_, rfl, rfl⟩, ⟨rfl, ⟨_, rfl, rfl⟩, ⟨rfl, ⟨_, rfl, rfl⟩, trivial⟩⟩⟩⟩⟩⟩⟩⟩) rfl) rfl ?_
     refine RH.one (i := 27) krX ?_
     refine RHone.eff rfl (Wanted.free rfl) (E.storeWhole rfl rfl rfl (by rfl) sz50 pickX (by first | (simp [Value.oneCell']; done) | (simp [setAt, Value.oneCell']; done)) (by rfl)) rfl ?_
     rintro _ _ rfl
     refine ⟨.inl krX, ?_⟩
     refine RH.done krX ?_
     refine SG.weaken (rest b12 trivial) ?_ ?_
     ·
      repeat (first | exact EnvLe.nil _ | refine EnvLe.cons rfl ?_)
     ·
      exact entX
   ·
    refine RHone.eff rfl (Wanted.free rfl) (E.alloc rfl ze50) rfl ?_
    rintro _ _ ⟨b12, rfl, rfl⟩
    refine ⟨.inr entX, ?_⟩
    refine RH.one (i := 5) krX ?_
    refine RHone.eff rfl (Wanted.free rfl) (E.call rfl go29 rfl (around_ok _ _ ib.1 ib.2 (by omega))) rfl ?_
    rintro _ _ ⟨rfl, rfl⟩
    refine ⟨.inr entX, ?_⟩
    refine RH.val 6 rfl krX krX krX krX (Wanted.free rfl) (V.bin rfl rfl rfl (B.subI (by omega) (by omega))) rfl ?_
    refine RH.one (i := 9) krX ?_
    refine RHone.eff rfl (Wanted.free rfl) (E.call rfl go29 rfl (around_ok _ _ ic.1 ic.2 (by omega))) rfl ?_
    rintro _ _ ⟨rfl, rfl⟩
    refine ⟨.inr entX, ?_⟩
    refine RH.val 10 rfl krX krX krX krX (Wanted.free rfl) (V.bin rfl rfl rfl (B.subI (by omega) (by omega))) rfl ?_
    refine RH.one (i := 13) krX ?_
    refine RHone.eff rfl (Wanted.free rfl) (E.call rfl go29 rfl (around_ok _ _ id_.1 id_.2 (by omega))) rfl ?_
    rintro _ _ ⟨rfl, rfl⟩
    refine ⟨.inr entX, ?_⟩
    refine RH.one (i := 16) krX ?_
    refine RHone.eff rfl (Wanted.free rfl) (E.call rfl go29 rfl (around_ok _ _ ie.1 ie.2 (by omega))) rfl ?_
    rintro _ _ ⟨rfl, rfl⟩
    refine ⟨.inr entX, ?_⟩
    refine RH.one (i := 19) krX ?_
    refine RHone.eff rfl (Wanted.free rfl) (E.call rfl go29 rfl (around_ok _ _ if_.1 if_.2 (by omega))) rfl ?_
    rintro _ _ ⟨rfl, rfl⟩
    refine ⟨.inr entX, ?_⟩
    refine RH.one (i := 22) krX ?_
    refine RHone.eff rfl (Wanted.free rfl) (E.call rfl go29 rfl (around_ok _ _ ig.1 ig.2 (by omega))) rfl ?_
    rintro _ _ ⟨rfl, rfl⟩
    refine ⟨.inr entX, ?_⟩
    refine RH.val 25 rfl krX krX krX krX (Wanted.free rfl) (V.buildS [(0, _), (1, _), (2, _), (3, _), (4, _), (5, _), (6, _), (8, _)] rfl bs50 (by exact ⟨rfl, ⟨_, rfl, rfl⟩, ⟨rfl, ⟨_, rfl, rfl⟩, ⟨rfl, ⟨_, rfl, rfl⟩, ⟨rfl, ⟨_, rfl, rfl⟩, ⟨rfl, ⟨_, rfl, rfl⟩, ⟨rfl, ⟨_, rfl, rfl⟩, ⟨rfl, ⟨_, rfl, rfl⟩, ⟨rfl, ⟨_, rfl, rfl⟩, trivial⟩⟩⟩⟩⟩⟩⟩⟩) rfl) rfl ?_
    refine RH.one (i := 27) krX ?_
    refine RHone.eff rfl (Wanted.free rfl) (E.storeWhole rfl rfl rfl (by rfl) sz50 pickX (by first | (simp [Value.oneCell']; done) | (simp [setAt, Value.oneCell']; done)) (by rfl)) rfl ?_
    rintro _ _ rfl
    refine ⟨.inl krX, ?_⟩
    refine RH.done krX ?_
    refine SG.weaken (rest b12 trivial) ?_ ?_
    ·
     repeat (first | exact EnvLe.nil _ | refine EnvLe.cons rfl ?_)
    ·
     exact entX
  ·
   refine RHone.eff rfl (Wanted.free rfl) (E.alloc rfl ze50) rfl ?_
   rintro _ _ ⟨b12, rfl, rfl⟩
   refine ⟨.inr entX, ?_⟩
   refine RH.one (i := 2) krX ?_
   refine RHone.eff rfl (Wanted.free rfl) (E.call rfl go29 rfl (around_ok _ _ ia.1 ia.2 (by omega))) rfl ?_
   rintro _ _ ⟨rfl, rfl⟩
   refine ⟨.inr entX, ?_⟩
   refine RH.one (i := 5) krX ?_
   refine RHone.eff rfl (Wanted.free rfl) (E.call rfl go29 rfl (around_ok _ _ ib.1 ib.2 (by omega))) rfl ?_
   rintro _ _ ⟨rfl, rfl⟩
   refine ⟨.inr entX, ?_⟩
   refine RH.val 6 rfl krX krX krX krX (Wanted.free rfl) (V.bin rfl rfl rfl (B.subI (by omega) (by omega))) rfl ?_
   refine RH.one (i := 9) krX ?_
   refine RHone.eff rfl (Wanted.free rfl) (E.call rfl go29 rfl (around_ok _ _ ic.1 ic.2 (by omega))) rfl ?_
   rintro _ _ ⟨rfl, rfl⟩
   refine ⟨.inr entX, ?_⟩
   refine RH.val 10 rfl krX krX krX krX (Wanted.free rfl) (V.bin rfl rfl rfl (B.subI (by omega) (by omega))) rfl ?_
   refine RH.one (i := 13) krX ?_
   refine RHone.eff rfl (Wanted.free rfl) (E.call rfl go29 rfl (around_ok _ _ id_.1 id_.2 (by omega))) rfl ?_
   rintro _ _ ⟨rfl, rfl⟩
   refine ⟨.inr entX, ?_⟩
   refine RH.one (i := 16) krX ?_
   refine RHone.eff rfl (Wanted.free rfl) (E.call rfl go29 rfl (around_ok _ _ ie.1 ie.2 (by omega))) rfl ?_
   rintro _ _ ⟨rfl, rfl⟩
   refine ⟨.inr entX, ?_⟩
   refine RH.one (i := 19) krX ?_
   refine RHone.eff rfl (Wanted.free rfl) (E.call rfl go29 rfl (around_ok _ _ if_.1 if_.2 (by omega))) rfl ?_
   rintro _ _ ⟨rfl, rfl⟩
   refine ⟨.inr entX, ?_⟩
   refine RH.one (i := 22) krX ?_
   refine RHone.eff rfl (Wanted.free rfl) (E.call rfl go29 rfl (around_ok _ _ ig.1 ig.2 (by omega))) rfl ?_
   rintro _ _ ⟨rfl, rfl⟩
   refine ⟨.inr entX, ?_⟩
   refine RH.val 25 rfl krX krX krX krX (Wanted.free rfl) (V.buildS [(0, _), (1, _), (2, _), (3, _), (4, _), (5, _), (6, _), (8, _)] rfl bs50 (by exact ⟨rfl, ⟨_, rfl, rfl⟩, ⟨rfl, ⟨_, rfl, rfl⟩, ⟨rfl, ⟨_, rfl, rfl⟩, ⟨rfl, ⟨_, rfl, rfl⟩, ⟨rfl, ⟨_, rfl, rfl⟩, ⟨rfl, ⟨_, rfl, rfl⟩, ⟨rfl, ⟨_, rfl, rfl⟩, ⟨rfl, ⟨_, rfl, rfl⟩, trivial⟩⟩⟩⟩⟩⟩⟩⟩) rfl) rfl ?_
   refine RH.one (i := 27) krX ?_
   refine RHone.eff rfl (Wanted.free rfl) (E.storeWhole rfl rfl rfl (by rfl) sz50 pickX (by first | (simp [Value.oneCell']; done) | (simp [setAt, Value.oneCell']; done)) (by rfl)) rfl ?_
   rintro _ _ rfl
   refine ⟨.inl krX, ?_⟩
   refine RH.done krX ?_
   refine SG.weaken (rest b12 trivial) ?_ ?_
   ·
    repeat (first | exact EnvLe.nil _ | refine EnvLe.cons rfl ?_)
   ·
    exact entX

end Go.Proofs.Ytilcnglcflohoaa
