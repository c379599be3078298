/- Runs. -/
import Derived.Test.YtilcnglcflohoaaRuns2
namespace Go.Proofs.Ytilcnglcflohoaa
open Go.Wk Go.Rp

theorem actsOf_ok {N : Nat} {l : List Int} (h1 : 1 ≤ N) (h5 : N ≤ 5) {a : Act} (ha : a ∈ actsOf N l) : AOk a := by
  obtain ⟨v, _, rfl⟩ := List.mem_map.1 ha
  exact actOf_ok h1 h5
theorem actsOf_len (N : Nat) (l : List Int) : (actsOf N l).length ≤ 60 := by
  rw [actsOf, List.length_map, List.length_take]; omega
theorem state_step {N : Nat} {A : List Act} {i : Nat} (h : i < A.length) : stateAt N A (i + 1) = actC (stateAt N A i) A[i] i := by
  show actC (stateAt N A i) (A.getD i _) i = _
  rw [List.getD_eq_getElem?_getD, List.getElem?_eq_getElem h]; rfl
set_option maxRecDepth 100000 in
set_option maxHeartbeats 1000000 in
theorem run_ok {κ : World} {L : List Assn} {n : Int} (hn : inInt n) {a : Option Addr} {k cc : Nat} {l : List Int} (hm : Sl RI a k cc l ∈ L) :
    Ctr Try.prog 15 #[vI n, .slice a k cc] κ L (fun v M => ∃ a' c', v = .tuple #[.slice a' (runV n l).length c', vB true] ∧ M = Sl RClu a' (runV n l).length c' (runV n l) :: L) := by
 refine Ctr.enter (vs := [vI n, .slice a k cc]) (m := 45) Try.func15 rfl rfl rfl ?_
 obtain ⟨_, _, _, _, h1, h5⟩ := sizeN_ok n
 have hrun : runV n l = hist (sizeN n) (actsOf (sizeN n) l) (actsOf (sizeN n) l).length := rfl
 have hst0 : clu0 (sizeN n) = stateAt (sizeN n) (actsOf (sizeN n) l) 0 := rfl
 rw [hrun]
 clear hrun hst0
 generalize hN : sizeN n = N at h1 h5 ⊢
 have haok : ∀ x ∈ actsOf N l, AOk x := fun x hx => actsOf_ok h1 h5 hx
 have hA60 := actsOf_len N l
 refine SG.seq ?_
 refine SG.region ?_
 refine RL.val (Wanted.free rfl) (V.assign rfl rfl) rfl ?_
 refine RL.val (Wanted.free rfl) (V.assign rfl rfl) rfl ?_
 refine RL.nil ?_
 refine SG.seq ?_
 refine SG.region ?_
 refine RL.val (Wanted.free rfl) (V.move rfl rfl) rfl ?_
 refine RL.eff (Wanted.free rfl) (E.call rfl go54 rfl (size_ok hn)) rfl ?_
 rintro _ _ ⟨rfl, hM⟩
 rw [hM, hN]
 refine RL.eff (Wanted.free rfl) (E.call rfl go53 rfl (cluster_ok h1 h5)) rfl ?_
 rintro _ _ ⟨u14, rfl, rfl⟩
 refine RL.openClu (cs := u14) (Pick.rd (T := RClu) memX) fun ea en ec fa fn fc hcs => ?_
 subst hcs
 refine RL.val (Wanted.free rfl) (V.move rfl rfl) rfl ?_
 refine RL.val (Wanted.free rfl) (V.extract rfl rfl rfl) rfl ?_
 refine RL.val (Wanted.free rfl) (V.extract rfl rfl rfl) rfl ?_
 refine RL.eff (Wanted.free rfl) (E.alloc rfl ze37) rfl ?_
 rintro _ _ ⟨b6, rfl, rfl⟩
 refine RL.eff (Wanted.free rfl) (E.storeWhole rfl rfl rfl (by rfl) sz37 pickX (by first | (simp [Value.oneCell']; done) | (simp [setAt, Value.oneCell']; done)) (by rfl)) rfl ?_
 rintro _ _ rfl
 refine RL.val (Wanted.free rfl) (V.assign rfl rfl) rfl ?_
 refine RL.nil ?_
 refine SG.seq ?_
 refine SG.region ?_
 refine RL.val (Wanted.free rfl) (V.loadAgg (us := [.slice ea en ec, .slice fa fn fc]) rfl ag37 rfl pickX rfl rfl) rfl ?_
 refine RL.eff (Wanted.free rfl) (E.lit1 [.slice ea en ec, .slice fa fn fc] rfl el31.slice ze37 rfl (by decide) (by decide) rfl rfl rfl) rfl ?_
 rintro _ _ ⟨b18, rfl, rfl⟩
 refine RL.ent (Buf.of_els (T := RClu) (b := b18) (e := 37) (m := 1) (l := [clu0 N]) Pick.here rfl rfl (by decide) (fun z h H => Rep.rows.single (Rd.rep (T := RClu) memX z h H))) ?_
 refine RL.val (Wanted.free rfl) (V.assign rfl rfl) rfl ?_
 refine RL.nil ?_
 refine SG.seq ?_
 refine SG.seq ?_
 refine SG.region ?_
 refine RL.val (Wanted.free rfl) (V.move rfl rfl) rfl ?_
 refine RL.val (Wanted.free rfl) (V.not rfl rfl) rfl ?_
 refine RL.nil ?_
 refine SG.cond_false rfl ?_
 refine SG.skip ?_
 refine SG.seq ?_
 refine SG.region ?_
 refine RL.val (Wanted.free rfl) (V.move rfl rfl) rfl ?_
 refine RL.val (Wanted.free rfl) (V.fieldAddr rfl rfl fo37_0) rfl ?_
 refine RL.val (Wanted.free rfl) (V.load rfl on34 rfl pickX rfl) rfl ?_
 refine RL.val (Wanted.free rfl) (V.len rfl rfl el34.under rfl) rfl ?_
 refine RL.sl (T := RPeer) (a := ea) memX fun hel _ _ => ?_
 rw [show (en : Int) = (N : Int) from by rw [← hel]; simp [clu0]]
 refine RL.eff (Wanted.free rfl) (E.call rfl go55 rfl (acts_ok (N := N) (l := l) memX h1 h5)) rfl ?_
 rintro _ _ ⟨a9, c9, rfl, rfl⟩
 refine RL.val (Wanted.free rfl) (V.assign rfl rfl) rfl ?_
 refine RL.nil ?_
 refine SG.seq ?_
 refine SG.seq ?_
 generalize hA : actsOf N l = A at haok hA60 ⊢
 refine SG.region ?_
 refine RL.val (Wanted.free rfl) (V.assign rfl rfl) rfl ?_
 refine RL.nil ?_
 refine SG.block ?_
 refine SG.weaken (SG.loop2 (fun m al M => ∃ (i : Nat) (na : Option Addr) (nn nc : Nat) (sa : Option Addr) (sn sc : Nat) (a8 : Option Addr) (c8 : Nat), i ≤ A.length ∧ m = A.length - i ∧ al = [(0, vI n), (1, .slice a k cc), (4, .slice none 0 0), (5, vB false), (6, ptr b6 0), (7, vB true), (8, .slice a8 (i + 1) c8), (9, .slice a9 A.length c9), (10, vI i)] ∧ M = Blk b6 37 [.slice na nn nc, .slice sa sn sc] :: Rd RClu [.slice na nn nc, .slice sa sn sc] (stateAt N A i) :: Buf RClu 37 a8 (i + 1) c8 (hist N A i) :: Sl RAct a9 A.length c9 A :: L) (m0 := _) ⟨0, ea, en, ec, fa, fn, fc, some ⟨b18, 0, none⟩, 1, by omega, rfl, rfl, rfl⟩ ?_) ?_ ?_
 rotate_left
 ·
  repeat (first | exact EnvLe.nil _ | refine EnvLe.cons rfl ?_)
 ·
  exact entX
 rintro _ _ _ ⟨i, na, nn, nc, sa, sn, sc, a8, c8, hi, rfl, rfl, rfl⟩ ih0
 refine SG.seq ?_
 refine SG.seq ?_
 refine SG.region ?_
 refine RL.val (Wanted.free rfl) (V.move rfl rfl) rfl ?_
 refine RL.val (Wanted.free rfl) (V.move rfl rfl) rfl ?_
 refine RL.val (Wanted.free rfl) (V.len rfl rfl el86.under rfl) rfl ?_
 refine RL.cmp (Wanted.free rfl) (V.bin rfl rfl rfl B.lss) rfl (fun h26 => ?_) (fun h26 => ?_)
 ·
  refine RL.nil ?_
  refine SG.cond_true rfl ?_
  refine SG.skip ?_
  refine SG.seq ?_
  refine SG.block ?_
  refine SG.seq ?_
  have hiA : i < A.length := by omega
  obtain ⟨G, hr⟩ := reach_at h1 h5 A i
  have hok := Rch.ok hr h1 h5 (by omega)
  have hnl : 1 ≤ (stateAt N A i).nodes.length := by rw [hr.1.len]; exact h1
  refine SG.drawN 8 7 (Blk b6 37 [.slice na nn nc, .slice sa sn sc] :: Rd RClu [.slice na nn nc, .slice sa sn sc] (stateAt N A i) :: Sl RAct a9 A.length c9 A :: L) wide rfl rfl (by repeat (first | exact Ent.refl _ | (apply Ent.cons; (· repeat (first | exact Pick.here | (refine Pick.sl ?_; (· repeat (first | exact List.Mem.head _ | assumption | apply List.Mem.tail))) | apply Pick.there))) | (refine Ent.trans (Ent.drop _ _) ?_))) ?_
  refine RH.val 0 rfl krX krX krX krX (Wanted.free rfl) (V.loadAgg (us := [.slice na nn nc, .slice sa sn sc]) rfl ag37 rfl pickX rfl rfl) rfl ?_
  refine RH.val 1 rfl krX krX krX krX (Wanted.free rfl) (V.move rfl rfl) rfl ?_
  refine RH.val 2 rfl krX krX krX krX (Wanted.free rfl) (V.move rfl rfl) rfl ?_
  refine RH.val 3 rfl krX krX krX krX (Wanted.free rfl) (V.indexSl (T := RAct) (l := A) (a := a9) (j := i) rfl el86.slice rfl rfl memX rfl hiA) rfl ?_
  refine RH.val 4 rfl krX krX krX krX (Wanted.free rfl) (V.loadSlDt (j := i) rfl ag90 rfl memX (List.getElem?_eq_getElem hiA)) rfl ?_
  refine RH.val 5 rfl krX krX krX krX (Wanted.free rfl) (V.move rfl rfl) rfl ?_
  refine RH.one (i := 6) krX ?_
  refine RHone.eff rfl (Wanted.free rfl) (E.call rfl go56 rfl (act_ok (c := stateAt N A i) (a := A[i]'hiA) (i := i) memX hok hnl (haok _ (List.getElem_mem _)) (by omega))) rfl ?_
  rintro _ _ ⟨u39, rfl, rfl⟩
  refine ⟨.inr entX, ?_⟩
  rw [← state_step hiA]
  refine RH.openClu (cs := u39) (Pick.rd (T := RClu) memX) fun ea en ec fa fn fc hcs => ?_
  subst hcs
  refine RH.one (i := 7) krX ?_
  refine RHone.eff rfl (Wanted.free rfl) (E.storeWhole rfl rfl rfl (by rfl) sz37 pickX (by first | (simp [Value.oneCell']; done) | (simp [setAt, Value.oneCell']; done)) (by rfl)) rfl ?_
  rintro _ _ rfl
  refine ⟨.inl krX, ?_⟩
  refine RH.done krX ?_
  refine SG.region ?_
  refine RL.val (Wanted.free rfl) (V.move rfl rfl) rfl ?_
  refine RL.val (Wanted.free rfl) (V.loadAgg (us := [.slice ea en ec, .slice fa fn fc]) rfl ag37 rfl pickX rfl rfl) rfl ?_
  refine RL.eff (Wanted.free rfl) (E.lit1 [.slice ea en ec, .slice fa fn fc] rfl el31.slice ze37 rfl (by decide) (by decide) rfl rfl rfl) rfl ?_
  rintro _ _ ⟨b42, rfl, rfl⟩
  refine RL.eff (Wanted.free rfl) (E.append (T := RClu) rfl rfl rfl el31 el31.noInt rfl rfl pickX (Src.litRd (T := RClu) (y := stateAt N A (i + 1)) pickX memX) (by first | omega | (simp; omega)) (by first | omega | (simp; omega))) rfl ?_
  intro _ _ hK38
  try rw [List.nil_append] at hK38
  try rw [Nat.zero_add] at hK38
  rw [← hist_step] at hK38
  obtain ⟨a43, c43, rfl, rfl⟩ := hK38
  refine RL.val (Wanted.free rfl) (V.assign rfl rfl) rfl ?_
  refine RL.nil ?_
  refine SG.inBlock ?_
  refine SG.region ?_
  refine RL.val (Wanted.free rfl) (V.move rfl rfl) rfl ?_
  refine RL.val (Wanted.free rfl) (V.bin rfl rfl rfl (B.addI (by omega) (by omega))) rfl ?_
  refine RL.val (Wanted.free rfl) (V.assign rfl rfl) rfl ?_
  refine RL.nil ?_
  refine SG.weaken (ih0 _ _ _ ?_ ⟨i + 1, ea, en, ec, fa, fn, fc, a43, c43, by omega, rfl, rfl, rfl⟩) ?_ ?_
  ·
   omega
  ·
   repeat (first | exact EnvLe.nil _ | refine EnvLe.cons rfl ?_)
  ·
   exact entX
 ·
  refine RL.nil ?_
  refine SG.cond_false rfl ?_
  refine SG.exit rfl ?_
  refine SG.seq ?_
  obtain rfl : i = A.length := by omega
  refine SG.publish (T := RClu) (a := a8) pickX ?_
  rw [hist_len]
  refine SG.region ?_
  refine RL.val (Wanted.free rfl) (V.move rfl rfl) rfl ?_
  refine RL.val (Wanted.free rfl) (V.assign rfl rfl) rfl ?_
  refine RL.val (Wanted.free rfl) (V.assign rfl rfl) rfl ?_
  refine RL.nil ?_
  refine SG.retE (Ret.r2 Try.func15 rfl (.tmp rfl) (.tmp rfl)) ?_ ⟨_, _, rfl, rfl⟩
  exact entX

end Go.Proofs.Ytilcnglcflohoaa
