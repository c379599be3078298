/- The law MerkleFrontiers. -/
import Derived.Test.YtcbloadpffjkiaaDoorMleaves
namespace Go.Proofs.YtcbloadpffjkiaaDoor
open Go.Wk Go.Mk Go.Sha

theorem topB_ok {κ : World} {L : List Assn} {a : Option Addr} {m c : Nat} {n : Int} {s : List Hs} (hb : s.length ≤ 1000) (hm : Sl (RArr8 32) a m c (blocksV s) ∈ L) (hT : Tab L) : Ctr Tryd.prog 23 #[.agg #[vI n, .slice a m c]] κ L (fun v M => v = .agg ((rootV s).map v8).toArray ∧ M = L) := by
  have := top_ok (κ := κ) (n := n) hm hT (by have := blocks_le s; omega)
  rwa [top_blocks _ s (Nat.le_refl _)] at this
theorem appB_ok {κ : World} {L : List Assn} {a : Option Addr} {m c i : Nat} {s : List Hs} {x : Hs} (hb : s.length ≤ 1000) (hx : s[i]? = some x) (hxl : x.length = 32) (hm : Sl (RArr8 32) a m c (blocksV (s.take i)) ∈ L) (hT : Tab L) : Ctr Tryd.prog 24 #[.agg #[vI (i : Int), .slice a m c], .agg (x.map v8).toArray] κ L (fun v M => ∃ a2 c2, v = .agg #[vI ((i : Int) + 1), .slice a2 (blocksV (s.take (i + 1))).length c2] ∧ M = Sl (RArr8 32) a2 (blocksV (s.take (i + 1))).length c2 (blocksV (s.take (i + 1))) :: L) := by
  have hi := (List.getElem?_eq_some_iff.1 hx).1
  have hl : (s.take i).length = i := by rw [List.length_take]; omega
  have h1 := Go.Mk.blocks_snoc _ (s.take i) x (Nat.le_refl _)
  have h2 : s.take (i + 1) = s.take i ++ [x] := by rw [List.take_add_one, hx]; rfl
  have h3 := blocks_len _ (s.take i) (Nat.le_refl _)
  rw [hl] at h1 h3
  have := append_ok (κ := κ) (n := i) hm hxl hT (by omega) h3
  rwa [h1, ← h2] at this
set_option maxRecDepth 100000 in
set_option maxHeartbeats 2000000 in
theorem frontiers_law {κ : World} {L : List Assn} {a : Option Addr} {m c : Nat} {ls : List (List UInt8)} (hm : Sl (Rep.slice R8) a m c ls ∈ L) (hb : ∀ x ∈ ls, x.length ≤ 140737488355000) (hT : Tab L) :
    Ctr Tryd.prog 6 #[.slice a m c] κ L (fun v M => v = vB true ∧ M = L) := by
 refine Ctr.enter (vs := [.slice a m c]) (m := 74) Tryd.func6 rfl rfl rfl ?_
 unfold Tab at hT
 refine SG.seq ?_
 refine SG.region ?_
 refine RL.val (Wanted.free rfl) (V.assign rfl rfl) rfl ?_
 refine RL.nil ?_
 refine SG.seq ?_
 refine SG.region ?_
 refine RL.val (Wanted.free rfl) (V.move rfl rfl) rfl ?_
 refine RL.eff (Wanted.free rfl) (E.call rfl go22 rfl (leaves_ok (most := 40) memX hb (by decide))) rfl ?_
 rintro _ _ ⟨a10, c10, rfl, rfl⟩
 refine RL.val (Wanted.free rfl) (V.assign rfl rfl) rfl ?_
 refine RL.nil ?_
 refine SG.seq ?_
 obtain ⟨s, hs⟩ : ∃ s, leavesV ls 40 = s := ⟨_, rfl⟩
 have hs32 : ∀ x ∈ s, x.length = 32 := by rw [← hs]; exact leaves32
 have hsl : s.length ≤ 40 := by rw [← hs, leaves_len]; omega
 rw [hs]
 refine SG.sl (T := RArr8 32) (a := a10) (l := s) memX fun _ hc10 _ => ?_
 refine SG.ent (Sl.nil (T := RArr8 32)) ?_
 refine SG.region ?_
 refine RL.val (Wanted.free rfl) (V.buildS [] rfl bs39 (by exact trivial) rfl) rfl ?_
 refine RL.eff (Wanted.free rfl) (E.alloc rfl ze39) rfl ?_
 rintro _ _ ⟨b4, rfl, rfl⟩
 refine RL.eff (Wanted.free rfl) (E.storeWhole rfl rfl rfl (by rfl) sz39 pickX (by first | (simp [Value.oneCell']; done) | (simp [setAt, Value.oneCell']; done)) (by rfl)) rfl ?_
 rintro _ _ rfl
 refine RL.nil ?_
 refine SG.seq ?_
 refine SG.seq ?_
 refine SG.region ?_
 refine RL.val (Wanted.free rfl) (V.assign rfl rfl) rfl ?_
 refine RL.nil ?_
 refine SG.block ?_
 refine SG.weaken (SG.loop2 (fun m0 al M => ∃ (i : Nat) (a4 : Option Addr) (c4 : Nat), i ≤ s.length ∧ m0 = s.length + 1 - i ∧ al = [(3, .slice a10 s.length c10), (4, ptr b4 0), (5, vI i)] ∧ M = Sl (RArr8 32) a4 (blocksV (s.take i)).length c4 (blocksV (s.take i)) :: Blk b4 39 [vI (i : Int), .slice a4 (blocksV (s.take i)).length c4] :: Sl (RArr8 32) a10 (s).length c10 (s) :: L) (m0 := _) ⟨0, none, 0, by omega, rfl, rfl, rfl⟩ ?_) ?_ ?_
 rotate_left
 ·
  repeat (first | exact EnvLe.nil _ | refine EnvLe.cons rfl ?_)
 ·
  rw [List.take_zero, blocks_nil]
  exact entX
 rintro _ _ _ ⟨i, a4, c4, hi, rfl, rfl, rfl⟩ ih0
 refine SG.seq ?_
 refine SG.seq ?_
 refine SG.region ?_
 refine RL.val (Wanted.free rfl) (V.move rfl rfl) rfl ?_
 refine RL.val (Wanted.free rfl) (V.move rfl rfl) rfl ?_
 refine RL.val (Wanted.free rfl) (V.len rfl rfl el22.under rfl) rfl ?_
 refine RL.cmp (Wanted.free rfl) (V.bin rfl rfl rfl B.lss) rfl (fun h12 => ?_) (fun h12 => ?_)
 ·
  refine RL.nil ?_
  refine SG.cond_true rfl ?_
  refine SG.skip ?_
  refine SG.seq ?_
  refine SG.block ?_
  refine SG.seq ?_
  refine SG.seq ?_
  refine SG.cut (T := RArr8 32) (lo := 0) (hi := i) (l' := s.take (i)) (a := a10) (l := s) memX (by omega) (by omega) (by rw [List.drop_zero, Nat.sub_zero]) ?_
  refine SG.drawL 7 7 wide rfl rfl ?_
  refine RH.val 0 rfl krX krX krX krX (Wanted.free rfl) (V.loadAgg (us := _) rfl ag39 rfl pickX rfl rfl) rfl ?_
  refine RH.val 2 rfl krX krX krX krX (Wanted.free rfl) (V.move rfl rfl) rfl ?_
  refine RH.val 3 rfl krX krX krX krX (Wanted.free rfl) (V.move rfl rfl) rfl ?_
  refine RH.val 4 rfl krX krX krX krX (Wanted.free rfl) (V.slice (T := (RArr8 32)) (lo := 0) (hi := i) rfl el22.slice rfl rfl ⟨_, _, rfl, (by first | rfl | omega)⟩ (by omega) (by omega)) rfl ?_
  refine RH.one (i := 1) krX ?_
  refine RHone.eff rfl (Wanted.free rfl) (E.call rfl go23 rfl (topB_ok (s := s.take i) (by rw [List.length_take]; omega) memX (by unfold Tab; repeat (first | exact List.Mem.head _ | assumption | apply List.Mem.tail)))) rfl ?_
  rintro _ _ ⟨rfl, rfl⟩
  refine ⟨.inr entX, ?_⟩
  refine RH.one (i := 5) krX ?_
  refine RHone.eff rfl (Wanted.free rfl) (E.call rfl go13 rfl (root_ok (l := s.take i) memX (by unfold Tab; repeat (first | exact List.Mem.head _ | assumption | apply List.Mem.tail)) (by rw [List.length_take]; omega))) rfl ?_
  rintro _ _ ⟨rfl, rfl⟩
  refine ⟨.inr entX, ?_⟩
  refine RH.cmpF 6 rfl krX krX krX krX (Wanted.free rfl) (V.neqArr rfl ar25 on5 ui5 ce25 eg25 inj8 (root_len (fun x hx => hs32 x (List.mem_of_mem_take hx))) (root_len (fun x hx => hs32 x (List.mem_of_mem_take hx))) rfl rfl) rfl (by simp) ?_
  refine RH.done krX ?_
  refine SG.cond_false rfl ?_
  refine SG.skip ?_
  refine SG.seq ?_
  obtain ⟨x, hx⟩ : ∃ x, s[i]? = some x := ⟨_, List.getElem?_eq_getElem (by omega)⟩
  have hxl := hs32 x (List.mem_of_getElem? hx)
  refine SG.drawL 7 6 wide rfl rfl ?_
  refine RH.val 0 rfl krX krX krX krX (Wanted.free rfl) (V.loadAgg (us := _) rfl ag39 rfl pickX rfl rfl) rfl ?_
  refine RH.val 1 rfl krX krX krX krX (Wanted.free rfl) (V.move rfl rfl) rfl ?_
  refine RH.val 2 rfl krX krX krX krX (Wanted.free rfl) (V.move rfl rfl) rfl ?_
  refine RH.val 3 rfl krX krX krX krX (Wanted.free rfl) (V.indexSl (j := i) rfl el22.slice rfl rfl memX (by first | rfl | omega) (by omega)) rfl ?_
  refine RH.val 4 rfl krX krX krX krX (Wanted.free rfl) (V.loadSlDt rfl ag25 rfl memX hx) rfl ?_
  refine RH.one (i := 5) krX ?_
  refine RHone.eff rfl (Wanted.free rfl) (E.call rfl go24 rfl (appB_ok (s := s) (by omega) hx hxl memX (by unfold Tab; repeat (first | exact List.Mem.head _ | assumption | apply List.Mem.tail)))) rfl ?_
  rintro _ _ ⟨a30, c30, rfl, rfl⟩
  refine ⟨.inr entX, ?_⟩
  refine RH.one (i := 6) krX ?_
  refine RHone.eff rfl (Wanted.free rfl) (E.storeWhole rfl rfl rfl (by rfl) sz39 pickX (by first | (simp [Value.oneCell']; done) | (simp [setAt, Value.oneCell']; done)) (by rfl)) rfl ?_
  rintro _ _ rfl
  refine ⟨.inl krX, ?_⟩
  refine RH.done krX ?_
  refine SG.seq ?_
  refine SG.region ?_
  refine RL.val (Wanted.free rfl) (V.move rfl rfl) rfl ?_
  refine RL.val (Wanted.free rfl) (V.move rfl rfl) rfl ?_
  refine RL.val (Wanted.free rfl) (V.bin rfl rfl rfl (B.addI (by omega) (by omega))) rfl ?_
  refine RL.eff (Wanted.free rfl) (E.slice (lo := 0) (hi := (i + 1)) rfl el22.slice rfl memX rfl ⟨_, _, rfl, (by first | rfl | omega)⟩ (by omega) (by omega)) rfl ?_
  intro _ _ hK29
  try rw [List.drop_zero] at hK29
  iterate 2 (try rw [Nat.sub_zero] at hK29)
  obtain ⟨a29, rfl, rfl⟩ := hK29
  refine RL.eff (Wanted.free rfl) (E.call rfl go25 rfl (frontier_ok (l := s.take (i + 1)) memX (by unfold Tab; repeat (first | exact List.Mem.head _ | assumption | apply List.Mem.tail)) (by rw [List.length_take]; omega))) rfl ?_
  rintro _ _ ⟨a35, c35, rfl, rfl⟩
  have hkl : ((s.take (i + 1)).length : Int) = (i : Int) + 1 := by rw [List.length_take]; omega
  rw [hkl]
  refine RL.eff (Wanted.free rfl) (E.alloc rfl ze39) rfl ?_
  rintro _ _ ⟨b6, rfl, rfl⟩
  refine RL.eff (Wanted.free rfl) (E.storeWhole rfl rfl rfl (by rfl) sz39 pickX (by first | (simp [Value.oneCell']; done) | (simp [setAt, Value.oneCell']; done)) (by rfl)) rfl ?_
  rintro _ _ rfl
  refine RL.nil ?_
  refine SG.seq ?_
  refine SG.region ?_
  refine RL.val (Wanted.free rfl) (V.assign rfl rfl) rfl ?_
  refine RL.nil ?_
  refine SG.seq ?_
  refine SG.seq ?_
  refine SG.region ?_
  refine RL.val (Wanted.free rfl) (V.move rfl rfl) rfl ?_
  refine RL.val (Wanted.free rfl) (V.bin rfl rfl rfl (B.addI (by omega) (by omega))) rfl ?_
  refine RL.val (Wanted.free rfl) (V.assign rfl rfl) rfl ?_
  refine RL.nil ?_
  refine SG.block ?_
  refine SG.weaken (SG.loop2 (fun m1 al M => ∃ (o n : Nat), o + ones n = ones (i + 1) ∧ n ≤ 50 ∧ m1 = n + 1 ∧ al = [(3, .slice a10 s.length c10), (4, ptr b4 0), (5, vI i), (6, ptr b6 0), (7, vI o), (8, vI n)] ∧ M = Sl (RArr8 32) a35 (blocksV (s.take (i + 1))).length c35 (blocksV (s.take (i + 1))) :: Blk b6 39 [vI ((i : Int) + 1), .slice a35 (blocksV (s.take (i + 1))).length c35] :: Sl (RArr8 32) a30 (blocksV (s.take (i + 1))).length c30 (blocksV (s.take (i + 1))) :: Blk b4 39 [vI ((i : Int) + 1), .slice a30 (blocksV (s.take (i + 1))).length c30] :: Sl (RArr8 32) a10 (s).length c10 (s) :: L) (m0 := _) ⟨0, i + 1, by omega, by omega, rfl, rfl, rfl⟩ ?_) ?_ ?_
  rotate_left
  ·
   repeat (first | exact EnvLe.nil _ | refine EnvLe.cons rfl ?_)
  ·
   exact entX
  rintro _ _ _ ⟨o, n, hon, hn50, rfl, rfl, rfl⟩ ih1
  refine SG.seq ?_
  refine SG.seq ?_
  refine SG.region ?_
  refine RL.val (Wanted.free rfl) (V.move rfl rfl) rfl ?_
  refine RL.cmp (Wanted.free rfl) (V.bin rfl rfl rfl B.gtr) rfl (fun h38 => ?_) (fun h38 => ?_)
  ·
   refine RL.nil ?_
   refine SG.cond_true rfl ?_
   refine SG.skip ?_
   refine SG.seq ?_
   refine SG.block ?_
   have hst := ones_step n
   have hnz : 0 < n := by omega
   have hol := ones_le _ (i + 1) (Nat.le_refl _)
   refine SG.region ?_
   refine RL.val (Wanted.free rfl) (V.move rfl rfl) rfl ?_
   refine RL.val (Wanted.free rfl) (V.move rfl rfl) rfl ?_
   refine RL.val (Wanted.free rfl) (V.bin rfl rfl rfl (B.remI (by omega) (by omega))) rfl ?_
   refine RL.val (Wanted.free rfl) (V.bin rfl rfl rfl (B.addI (by omega) (by omega))) rfl ?_
   refine RL.val (Wanted.free rfl) (V.assign rfl rfl) rfl ?_
   refine RL.nil ?_
   refine SG.inBlock ?_
   refine SG.region ?_
   refine RL.val (Wanted.free rfl) (V.move rfl rfl) rfl ?_
   refine RL.val (Wanted.free rfl) (V.bin rfl rfl rfl (B.quoI (by omega) (by omega) (by omega))) rfl ?_
   refine RL.val (Wanted.free rfl) (V.assign rfl rfl) rfl ?_
   refine RL.nil ?_
   refine SG.weaken (ih1 _ _ _ ?_ ⟨o + n % 2, n / 2, by omega, by omega, rfl, rfl, rfl⟩) ?_ ?_
   ·
    omega
   ·
    rw [show ((o + n % 2 : Nat) : Int) = (o : Int) + (n : Int) % 2 from by omega, show ((n / 2 : Nat) : Int) = (n : Int) / 2 from by omega]
    repeat (first | exact EnvLe.nil _ | refine EnvLe.cons rfl ?_)
   ·
    exact entX
  ·
   refine RL.nil ?_
   refine SG.cond_false rfl ?_
   refine SG.exit rfl ?_
   refine SG.seq ?_
   have hn0 : n = 0 := by omega
   have hz := ones_zero
   rw [hn0, hz] at hon
   have hbl := blocks_len _ (s.take (i + 1)) (Nat.le_refl _)
   rw [List.length_take, show min (i + 1) s.length = i + 1 from by omega] at hbl
   refine SG.region ?_
   refine RL.val (Wanted.free rfl) (V.fieldAddr rfl rfl fo39_0) rfl ?_
   refine RL.val (Wanted.free rfl) (V.load rfl on3 rfl pickX rfl) rfl ?_
   refine RL.val (Wanted.free rfl) (V.fieldAddr rfl rfl fo39_0) rfl ?_
   refine RL.val (Wanted.free rfl) (V.load rfl on3 rfl pickX rfl) rfl ?_
   refine RL.cmpF (Wanted.free rfl) (V.bin rfl rfl rfl B.neq) rfl (by simp) ?_
   refine RL.val (Wanted.free rfl) (V.move rfl rfl) rfl ?_
   refine RL.val (Wanted.yes rfl rfl rfl rfl) (V.fieldAddr rfl rfl fo39_1) rfl ?_
   refine RL.val (Wanted.yes rfl rfl rfl rfl) (V.load rfl on22 rfl pickX rfl) rfl ?_
   refine RL.val (Wanted.yes rfl rfl rfl rfl) (V.fieldAddr rfl rfl fo39_1) rfl ?_
   refine RL.val (Wanted.yes rfl rfl rfl rfl) (V.load rfl on22 rfl pickX rfl) rfl ?_
   refine RL.eff (Wanted.yes rfl rfl rfl rfl) (E.call rfl go19 rfl (sameT_ok (l := blocksV (s.take (i + 1))) memX memX)) rfl ?_
   rintro _ _ ⟨rfl, rfl⟩
   refine RL.val (Wanted.yes rfl rfl rfl rfl) (V.not rfl rfl) rfl ?_
   refine RL.val (Wanted.free rfl) (V.pick_false rfl rfl rfl) rfl ?_
   refine RL.val (Wanted.free rfl) (V.move rfl rfl) rfl ?_
   refine RL.val (Wanted.yes rfl rfl rfl rfl) (V.fieldAddr rfl rfl fo39_1) rfl ?_
   refine RL.val (Wanted.yes rfl rfl rfl rfl) (V.load rfl on22 rfl pickX rfl) rfl ?_
   refine RL.val (Wanted.yes rfl rfl rfl rfl) (V.len rfl rfl el22.under rfl) rfl ?_
   refine RL.val (Wanted.yes rfl rfl rfl rfl) (V.move rfl rfl) rfl ?_
   refine RL.cmpF (Wanted.yes rfl rfl rfl rfl) (V.bin rfl rfl rfl B.neq) rfl (by omega) ?_
   refine RL.val (Wanted.free rfl) (V.pick_false rfl rfl rfl) rfl ?_
   refine RL.nil ?_
   refine SG.cond_false rfl ?_
   refine SG.skip ?_
   refine SG.inBlock ?_
   refine SG.region ?_
   refine RL.val (Wanted.free rfl) (V.move rfl rfl) rfl ?_
   refine RL.val (Wanted.free rfl) (V.bin rfl rfl rfl (B.addI (by omega) (by omega))) rfl ?_
   refine RL.val (Wanted.free rfl) (V.assign rfl rfl) rfl ?_
   refine RL.nil ?_
   refine SG.weaken (ih0 _ _ _ ?_ ⟨i + 1, a30, c30, by omega, rfl, rfl, rfl⟩) ?_ ?_
   ·
    omega
   ·
    repeat (first | exact EnvLe.nil _ | refine EnvLe.cons rfl ?_)
   ·
    exact entX
 ·
  refine RL.nil ?_
  refine SG.cond_false rfl ?_
  refine SG.exit rfl ?_
  refine SG.seq ?_
  have hil : i = s.length := by omega
  rw [hil, List.take_length]
  refine SG.region ?_
  refine RL.val (Wanted.free rfl) (V.loadAgg (us := _) rfl ag39 rfl pickX rfl rfl) rfl ?_
  refine RL.eff (Wanted.free rfl) (E.call rfl go23 rfl (topB_ok (s := s) (by omega) memX (by unfold Tab; repeat (first | exact List.Mem.head _ | assumption | apply List.Mem.tail)))) rfl ?_
  rintro _ _ ⟨rfl, rfl⟩
  refine RL.val (Wanted.free rfl) (V.move rfl rfl) rfl ?_
  refine RL.eff (Wanted.free rfl) (E.call rfl go13 rfl (root_ok (l := s) memX (by unfold Tab; repeat (first | exact List.Mem.head _ | assumption | apply List.Mem.tail)) (by omega))) rfl ?_
  rintro _ _ ⟨rfl, rfl⟩
  refine RL.cmpT (Wanted.free rfl) (V.eqlArr rfl ar25 on5 ui5 ce25 eg25 inj8 (root_len hs32) (root_len hs32) rfl rfl) rfl rfl ?_
  refine RL.val (Wanted.free rfl) (V.move rfl rfl) rfl ?_
  refine RL.eff (Wanted.yes rfl rfl rfl rfl) (E.call rfl go15 rfl (lives_ok (by unfold Tab; repeat (first | exact List.Mem.head _ | assumption | apply List.Mem.tail)))) rfl ?_
  rintro _ _ ⟨rfl, rfl⟩
  refine RL.val (Wanted.free rfl) (V.pick_true rfl rfl rfl) rfl ?_
  refine RL.val (Wanted.free rfl) (V.assign rfl rfl) rfl ?_
  refine RL.nil ?_
  refine SG.retE (Ret.r1 Tryd.func6 rfl (.tmp rfl)) ?_ ⟨rfl, rfl⟩
  exact entX

end Go.Proofs.YtcbloadpffjkiaaDoor
