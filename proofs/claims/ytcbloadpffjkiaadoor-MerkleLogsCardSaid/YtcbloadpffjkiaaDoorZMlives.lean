/- Three leaves. -/
import Derived.Test.YtcbloadpffjkiaaDoorZMtop
namespace Go.Proofs.YtcbloadpffjkiaaDoor
open Go.Wk Go.Mk Go.Sha

section
variable (A B C : Hs)
theorem s2 : spl 2 = 1 := spl_of (e := 0) (by decide) (by decide)
theorem s3 : spl 3 = 2 := spl_of (e := 1) (by decide) (by decide)
theorem r2 : rootV [A, B] = node A B := by
  rw [root_two (by simp)]
  show node (rootV ([A, B].take (spl 2))) (rootV ([A, B].drop (spl 2))) = _
  rw [s2]
  show node (rootV [A]) (rootV [B]) = _
  rw [root_one, root_one]
theorem r3 : rootV [A, B, C] = node (node A B) C := by
  rw [root_two (by simp)]
  show node (rootV ([A, B, C].take (spl 3))) (rootV ([A, B, C].drop (spl 3))) = _
  rw [s3]
  show node (rootV [A, B]) (rootV [C]) = _
  rw [root_one, r2]
theorem p1 : pathL [A, B, C] 1 = [A, C] := by
  rw [show pathL [A, B, C] 1 = pathV [A, B, C] 1 from (pathL_ok (l := [A, B, C]) (i := 1) (by simp)).2]
  rw [path_lo (by simp) (by show 1 < spl 3; rw [s3]; decide)]
  show pathV ([A, B, C].take (spl 3)) 1 ++ [rootV ([A, B, C].drop (spl 3))] = _
  rw [s3]
  show pathV [A, B] 1 ++ [rootV [C]] = _
  rw [root_one, path_hi (l := [A, B]) (by simp) (by show ¬ 1 < spl 2; rw [s2]; decide)]
  show (pathV ([A, B].drop (spl 2)) (1 - spl 2) ++ [rootV ([A, B].take (spl 2))]) ++ [C] = _
  rw [s2]
  show (pathV [B] 0 ++ [rootV [A]]) ++ [C] = _
  rw [path_one (by simp), root_one]; rfl
theorem p2 : pathL [A, B, C] 2 = [node A B] := by
  rw [show pathL [A, B, C] 2 = pathV [A, B, C] 2 from (pathL_ok (l := [A, B, C]) (i := 2) (by simp)).2]
  rw [path_hi (by simp) (by show ¬ 2 < spl 3; rw [s3]; decide)]
  show pathV ([A, B, C].drop (spl 3)) (2 - spl 3) ++ [rootV ([A, B, C].take (spl 3))] = _
  rw [s3]
  show pathV [C] 0 ++ [rootV [A, B]] = _
  rw [path_one (by simp), r2]; rfl
theorem g1 : growL [A, B, C] 1 = [B, C] := by
  rw [show growL [A, B, C] 1 = growV 1 [A, B, C] true from (growL_ok (l := [A, B, C]) (m := 1) (by decide) (by simp)).2]
  rw [grow_lo (by simp) (by simp) (by show 1 ≤ spl 3; rw [s3]; decide)]
  show growV 1 ([A, B, C].take (spl 3)) true ++ [rootV ([A, B, C].drop (spl 3))] = _
  rw [s3]
  show growV 1 [A, B] true ++ [rootV [C]] = _
  rw [root_one, grow_lo (by simp) (by simp) (by show 1 ≤ spl 2; rw [s2]; decide)]
  show (growV 1 ([A, B].take (spl 2)) true ++ [rootV ([A, B].drop (spl 2))]) ++ [C] = _
  rw [s2]
  show (growV [A].length [A] true ++ [rootV [B]]) ++ [C] = _
  rw [grow_whole, root_one]; rfl
theorem g2 : growL [A, B, C] 2 = [C] := by
  rw [show growL [A, B, C] 2 = growV 2 [A, B, C] true from (growL_ok (l := [A, B, C]) (m := 2) (by decide) (by simp)).2]
  rw [grow_lo (by simp) (by simp) (by show 2 ≤ spl 3; rw [s3]; decide)]
  show growV 2 ([A, B, C].take (spl 3)) true ++ [rootV ([A, B, C].drop (spl 3))] = _
  rw [s3]
  show growV [A, B].length [A, B] true ++ [rootV [C]] = _
  rw [root_one, grow_whole]; rfl
theorem g3 : growL [A, B, C] 3 = [] := by
  rw [show growL [A, B, C] 3 = growV 3 [A, B, C] true from (growL_ok (l := [A, B, C]) (m := 3) (by decide) (by simp)).2]
  exact grow_whole (l := [A, B, C])
theorem g4 : growL [A, B, C] 4 = [] := (growL_bad (l := [A, B, C]) (m := 4) (.inr (by simp))).2
theorem m0 : mergeV 0 ([] ++ [A]) = [A] := merge_even (by decide)
theorem m1 : mergeV 1 ([A] ++ [B]) = [node A B] := by
  rw [merge_odd (by decide)]; exact merge_even (by decide)
theorem m2 : mergeV 2 ([A] ++ [B]) = [A, B] := merge_even (by decide)
end
theorem o1 : ones 1 = 1 := by rw [ones_step]; show 1 + ones 0 = 1; rw [ones_zero]
theorem o2 : ones 2 = 1 := by rw [ones_step]; show 0 + ones 1 = 1; rw [o1]
section
variable {κ : World} {L : List Assn} {a a' : Option Addr} {m c m' c' : Nat} {A B C : Hs}
theorem sameT_ok {l : List Hs} (hm : Sl (RArr8 32) a m c l ∈ L) (hm' : Sl (RArr8 32) a' m' c' l ∈ L) : Ctr Tryd.prog 19 #[.slice a m c, .slice a' m' c'] κ L (fun v M => v = vB true ∧ M = L) :=
  (sameh_ok hm hm').mono (Ent.refl _) fun _ _ h => by rw [decide_eq_true rfl] at h; exact h
theorem path3_ok {i : Int} {l : List Hs} {e : Int} (hp : pathL [A, B, C] i = l) (he : pathE 3 i = e) (hi : inInt i) (hm : Sl (RArr8 32) a m c [A, B, C] ∈ L) (hT : Tab L) : Ctr Tryd.prog 17 #[.slice a m c, vI i] κ L (fun v M => ∃ a2 c2, v = .tuple #[.slice a2 l.length c2, vI e] ∧ M = Sl (RArr8 32) a2 l.length c2 l :: L) := by
  subst hp; subst he
  exact path_ok hm hT (by simp) hi
theorem grow3_ok {i : Int} {l : List Hs} {e : Int} (hp : growL [A, B, C] i = l) (he : growE 3 i = e) (hi : inInt i) (hm : Sl (RArr8 32) a m c [A, B, C] ∈ L) (hT : Tab L) : Ctr Tryd.prog 20 #[.slice a m c, vI i] κ L (fun v M => ∃ a2 c2, v = .tuple #[.slice a2 l.length c2, vI e] ∧ M = Sl (RArr8 32) a2 l.length c2 l :: L) := by
  subst hp; subst he
  exact growth_ok hm hT (by simp) hi
theorem app3_ok {n : Nat} {i j : Int} {f l : List Hs} {x : Hs} (hn : i = (n : Int)) (hj : j = (n : Int) + 1) (hp : mergeV n (f ++ [x]) = l) (hf : f.length = ones n) (h5 : n ≤ 100000) (hx : x.length = 32) (hm : Sl (RArr8 32) a m c f ∈ L) (hT : Tab L) : Ctr Tryd.prog 24 #[.agg #[vI i, .slice a m c], .agg (x.map v8).toArray] κ L (fun v M => ∃ a2 c2, v = .agg #[vI j, .slice a2 l.length c2] ∧ M = Sl (RArr8 32) a2 l.length c2 l :: L) := by
  subst hp; subst hn; subst hj
  exact append_ok hm hx hT h5 hf
theorem root3_ok {D E : Hs} (hD : node A B = D) (hE : node D C = E) (hm : Sl (RArr8 32) a m c [A, B, C] ∈ L) (hT : Tab L) : Ctr Tryd.prog 13 #[.slice a m c] κ L (fun v M => v = .agg (E.map v8).toArray ∧ M = L) := by
  have := root_ok (κ := κ) hm hT (by simp)
  rwa [r3, hD, hE] at this
theorem top2_ok {D E : Hs} {n : Int} (hE : node D C = E) (hm : Sl (RArr8 32) a m c [D, C] ∈ L) (hT : Tab L) : Ctr Tryd.prog 23 #[.agg #[vI n, .slice a m c]] κ L (fun v M => v = .agg (E.map v8).toArray ∧ M = L) := by
  have := top_ok (κ := κ) (n := n) hm hT (by simp)
  rwa [show topV [D, C] = node D C from rfl, hE] at this
theorem node3_ok {x y E : Hs} (hE : node x y = E) (hx : x.length = 32) (hy : y.length = 32) (hT : Tab L) : Ctr Tryd.prog 47 #[.agg (x.map v8).toArray, .agg (y.map v8).toArray] κ L (fun v M => v = .agg (E.map v8).toArray ∧ M = L) := by
  have := node_ok (κ := κ) hx hy hT
  rwa [hE] at this
end
set_option maxRecDepth 100000 in
set_option maxHeartbeats 2000000 in
theorem lives_ok {κ : World} {L : List Assn} (hT : Tab L) :
    Ctr Tryd.prog 15 #[] κ L (fun v M => v = vB true ∧ M = L) := by
 refine Ctr.enter (vs := []) (m := 170) Tryd.func15 rfl rfl rfl ?_
 unfold Tab at hT
 refine SG.ent (Sl.nil (T := RArr8 32)) ?_
 refine SG.seq ?_
 refine SG.region ?_
 refine RL.val (Wanted.free rfl) (V.assign rfl rfl) rfl ?_
 refine RL.nil ?_
 refine SG.seq ?_
 refine SG.region ?_
 refine RL.eff (Wanted.free rfl) (E.lit1 _ rfl el62.slice ze5 rfl (by decide) (by decide) rfl rfl rfl) rfl ?_
 rintro _ _ ⟨b19, rfl, rfl⟩
 refine RL.eff (Wanted.free rfl) (E.convLit (b := b19) (s := [97]) rfl el62.under ui5 rfl Pick.here rfl rfl (by decide)) rfl ?_
 rintro _ _ ⟨rfl, rfl⟩
 refine RL.publish (T := R8) Pick.here ?_
 refine RL.eff (Wanted.free rfl) (E.call rfl go38 rfl (leaf_ok (l := [97]) memX (by unfold Tab; repeat (first | exact List.Mem.head _ | assumption | apply List.Mem.tail)) (by decide))) rfl ?_
 rintro _ _ ⟨rfl, rfl⟩
 obtain ⟨A, hqA⟩ : ∃ x, leaf [97] = x := ⟨_, rfl⟩
 have hA : A.length = 32 := by rw [← hqA]; exact leaf_length _
 rw [hqA]
 refine RL.eff (Wanted.free rfl) (E.lit1 _ rfl el62.slice ze5 rfl (by decide) (by decide) rfl rfl rfl) rfl ?_
 rintro _ _ ⟨b22, rfl, rfl⟩
 refine RL.eff (Wanted.free rfl) (E.convLit (b := b22) (s := [98]) rfl el62.under ui5 rfl Pick.here rfl rfl (by decide)) rfl ?_
 rintro _ _ ⟨rfl, rfl⟩
 refine RL.publish (T := R8) Pick.here ?_
 refine RL.eff (Wanted.free rfl) (E.call rfl go38 rfl (leaf_ok (l := [98]) memX (by unfold Tab; repeat (first | exact List.Mem.head _ | assumption | apply List.Mem.tail)) (by decide))) rfl ?_
 rintro _ _ ⟨rfl, rfl⟩
 obtain ⟨Z, hqZ⟩ : ∃ x, leaf [98] = x := ⟨_, rfl⟩
 have hZ : Z.length = 32 := by rw [← hqZ]; exact leaf_length _
 rw [hqZ]
 refine RL.eff (Wanted.free rfl) (E.lit1 _ rfl el62.slice ze5 rfl (by decide) (by decide) rfl rfl rfl) rfl ?_
 rintro _ _ ⟨b25, rfl, rfl⟩
 refine RL.eff (Wanted.free rfl) (E.convLit (b := b25) (s := [99]) rfl el62.under ui5 rfl Pick.here rfl rfl (by decide)) rfl ?_
 rintro _ _ ⟨rfl, rfl⟩
 refine RL.publish (T := R8) Pick.here ?_
 refine RL.eff (Wanted.free rfl) (E.call rfl go38 rfl (leaf_ok (l := [99]) memX (by unfold Tab; repeat (first | exact List.Mem.head _ | assumption | apply List.Mem.tail)) (by decide))) rfl ?_
 rintro _ _ ⟨rfl, rfl⟩
 obtain ⟨C, hqC⟩ : ∃ x, leaf [99] = x := ⟨_, rfl⟩
 have hC : C.length = 32 := by rw [← hqC]; exact leaf_length _
 rw [hqC]
 refine RL.eff (Wanted.free rfl) (E.litA3 A Z C rfl el22.slice ze25 (by simp) (by decide) (by decide) rfl hA rfl hZ rfl hC) rfl ?_
 rintro _ _ ⟨b28, rfl, rfl⟩
 refine RL.val (Wanted.free rfl) (V.assign rfl rfl) rfl ?_
 refine RL.nil ?_
 refine SG.seq ?_
 obtain ⟨D, hqD⟩ : ∃ x, node A Z = x := ⟨_, rfl⟩
 have hD : D.length = 32 := by rw [← hqD]; exact node_length _ _
 obtain ⟨G, hqG⟩ : ∃ x, node D C = x := ⟨_, rfl⟩
 have hG : G.length = 32 := by rw [← hqG]; exact node_length _ _
 refine SG.drawL 9 8 wide rfl rfl ?_
 refine RH.val 0 rfl krX krX krX krX (Wanted.free rfl) (V.move rfl rfl) rfl ?_
 refine RH.val 1 rfl krX krX krX krX (Wanted.free rfl) (V.indexSl (j := 0) rfl el22.slice rfl rfl memX (by first | rfl | omega) (by simp)) rfl ?_
 refine RH.val 2 rfl krX krX krX krX (Wanted.free rfl) (V.loadSlDt (j := 0) rfl ag25 rfl memX rfl) rfl ?_
 refine RH.val 3 rfl krX krX krX krX (Wanted.free rfl) (V.move rfl rfl) rfl ?_
 refine RH.val 4 rfl krX krX krX krX (Wanted.free rfl) (V.indexSl (j := 1) rfl el22.slice rfl rfl memX (by first | rfl | omega) (by simp)) rfl ?_
 refine RH.val 5 rfl krX krX krX krX (Wanted.free rfl) (V.loadSlDt (j := 1) rfl ag25 rfl memX rfl) rfl ?_
 refine RH.two (i := 6) (j := 7) krX ?_ ?_
 ·
  refine RHone.eff rfl (Wanted.free rfl) (E.call rfl go47 rfl (node3_ok hqD hA hZ (by unfold Tab; repeat (first | exact List.Mem.head _ | assumption | apply List.Mem.tail)))) rfl ?_
  rintro _ _ ⟨rfl, rfl⟩
  refine ⟨.inr entX, ?_⟩
  refine RH.one (i := 7) krX ?_
  refine RHone.eff rfl (Wanted.free rfl) (E.alloc rfl ze25) rfl ?_
  rintro _ _ ⟨b2, rfl, rfl⟩
  refine ⟨.inr entX, ?_⟩
  refine RH.one (i := 8) krX ?_
  refine RHone.eff rfl (Wanted.free rfl) (E.storeWhole rfl rfl rfl (by rw [List.length_map]; exact hD) sz25 pickX (one8 _) (by rfl)) rfl ?_
  rintro _ _ rfl
  refine ⟨.inl krX, ?_⟩
  refine RH.done krX ?_
  refine SG.seq ?_
  refine SG.region ?_
  refine RL.val (Wanted.free rfl) (V.move rfl rfl) rfl ?_
  refine RL.eff (Wanted.free rfl) (E.call rfl go17 rfl (path3_ok (A := A) (B := Z) (C := C) (l := [A, C]) (e := 0) (p1 _ _ _) (by decide) (by unfold inInt; decide) memX (by unfold Tab; repeat (first | exact List.Mem.head _ | assumption | apply List.Mem.tail)))) rfl ?_
  rintro _ _ ⟨a23, c23, rfl, rfl⟩
  refine RL.val (Wanted.free rfl) (V.move rfl rfl) rfl ?_
  refine RL.val (Wanted.free rfl) (V.extract rfl rfl rfl) rfl ?_
  refine RL.val (Wanted.free rfl) (V.extract rfl rfl rfl) rfl ?_
  refine RL.val (Wanted.free rfl) (V.assign rfl rfl) rfl ?_
  refine RL.val (Wanted.free rfl) (V.assign rfl rfl) rfl ?_
  refine RL.nil ?_
  refine SG.seq ?_
  refine SG.region ?_
  refine RL.val (Wanted.free rfl) (V.move rfl rfl) rfl ?_
  refine RL.eff (Wanted.free rfl) (E.call rfl go17 rfl (path3_ok (A := A) (B := Z) (C := C) (l := [D]) (e := 0) (by rw [p2, hqD]) (by decide) (by unfold inInt; decide) memX (by unfold Tab; repeat (first | exact List.Mem.head _ | assumption | apply List.Mem.tail)))) rfl ?_
  rintro _ _ ⟨a30, c30, rfl, rfl⟩
  refine RL.val (Wanted.free rfl) (V.move rfl rfl) rfl ?_
  refine RL.val (Wanted.free rfl) (V.extract rfl rfl rfl) rfl ?_
  refine RL.val (Wanted.free rfl) (V.extract rfl rfl rfl) rfl ?_
  refine RL.val (Wanted.free rfl) (V.assign rfl rfl) rfl ?_
  refine RL.val (Wanted.free rfl) (V.assign rfl rfl) rfl ?_
  refine RL.nil ?_
  refine SG.seq ?_
  refine SG.region ?_
  refine RL.val (Wanted.free rfl) (V.move rfl rfl) rfl ?_
  refine RL.eff (Wanted.free rfl) (E.call rfl go20 rfl (grow3_ok (A := A) (B := Z) (C := C) (l := [Z, C]) (e := 0) (g1 _ _ _) (by decide) (by unfold inInt; decide) memX (by unfold Tab; repeat (first | exact List.Mem.head _ | assumption | apply List.Mem.tail)))) rfl ?_
  rintro _ _ ⟨a37, c37, rfl, rfl⟩
  refine RL.val (Wanted.free rfl) (V.move rfl rfl) rfl ?_
  refine RL.val (Wanted.free rfl) (V.extract rfl rfl rfl) rfl ?_
  refine RL.val (Wanted.free rfl) (V.extract rfl rfl rfl) rfl ?_
  refine RL.val (Wanted.free rfl) (V.assign rfl rfl) rfl ?_
  refine RL.val (Wanted.free rfl) (V.assign rfl rfl) rfl ?_
  refine RL.nil ?_
  refine SG.seq ?_
  refine SG.region ?_
  refine RL.val (Wanted.free rfl) (V.move rfl rfl) rfl ?_
  refine RL.eff (Wanted.free rfl) (E.call rfl go20 rfl (grow3_ok (A := A) (B := Z) (C := C) (l := [C]) (e := 0) (g2 _ _ _) (by decide) (by unfold inInt; decide) memX (by unfold Tab; repeat (first | exact List.Mem.head _ | assumption | apply List.Mem.tail)))) rfl ?_
  rintro _ _ ⟨a44, c44, rfl, rfl⟩
  refine RL.val (Wanted.free rfl) (V.move rfl rfl) rfl ?_
  refine RL.val (Wanted.free rfl) (V.extract rfl rfl rfl) rfl ?_
  refine RL.val (Wanted.free rfl) (V.extract rfl rfl rfl) rfl ?_
  refine RL.val (Wanted.free rfl) (V.assign rfl rfl) rfl ?_
  refine RL.val (Wanted.free rfl) (V.assign rfl rfl) rfl ?_
  refine RL.nil ?_
  refine SG.seq ?_
  refine SG.region ?_
  refine RL.val (Wanted.free rfl) (V.move rfl rfl) rfl ?_
  refine RL.eff (Wanted.free rfl) (E.call rfl go20 rfl (grow3_ok (A := A) (B := Z) (C := C) (l := []) (e := 0) (g3 _ _ _) (by decide) (by unfold inInt; decide) memX (by unfold Tab; repeat (first | exact List.Mem.head _ | assumption | apply List.Mem.tail)))) rfl ?_
  rintro _ _ ⟨a51, c51, rfl, rfl⟩
  refine RL.val (Wanted.free rfl) (V.move rfl rfl) rfl ?_
  refine RL.val (Wanted.free rfl) (V.extract rfl rfl rfl) rfl ?_
  refine RL.val (Wanted.free rfl) (V.extract rfl rfl rfl) rfl ?_
  refine RL.val (Wanted.free rfl) (V.assign rfl rfl) rfl ?_
  refine RL.val (Wanted.free rfl) (V.assign rfl rfl) rfl ?_
  refine RL.nil ?_
  refine SG.seq ?_
  refine SG.region ?_
  refine RL.val (Wanted.free rfl) (V.move rfl rfl) rfl ?_
  refine RL.eff (Wanted.free rfl) (E.call rfl go20 rfl (grow3_ok (A := A) (B := Z) (C := C) (l := []) (e := 5) (g4 _ _ _) (by decide) (by unfold inInt; decide) memX (by unfold Tab; repeat (first | exact List.Mem.head _ | assumption | apply List.Mem.tail)))) rfl ?_
  rintro _ _ ⟨a58, c58, rfl, rfl⟩
  refine RL.val (Wanted.free rfl) (V.move rfl rfl) rfl ?_
  refine RL.val (Wanted.free rfl) (V.extract rfl rfl rfl) rfl ?_
  refine RL.val (Wanted.free rfl) (V.extract rfl rfl rfl) rfl ?_
  refine RL.val (Wanted.free rfl) (V.assign rfl rfl) rfl ?_
  refine RL.val (Wanted.free rfl) (V.assign rfl rfl) rfl ?_
  refine RL.nil ?_
  refine SG.seq ?_
  refine SG.drawL 15 14 wide rfl rfl ?_
  refine RH.val 0 rfl krX krX krX krX (Wanted.free rfl) (V.buildS [] rfl bs39 (by exact trivial) rfl) rfl ?_
  refine RH.val 1 rfl krX krX krX krX (Wanted.free rfl) (V.move rfl rfl) rfl ?_
  refine RH.val 2 rfl krX krX krX krX (Wanted.free rfl) (V.indexSl (j := 0) rfl el22.slice rfl rfl memX (by first | rfl | omega) (by simp)) rfl ?_
  refine RH.val 3 rfl krX krX krX krX (Wanted.free rfl) (V.loadSlDt (j := 0) rfl ag25 rfl memX rfl) rfl ?_
  refine RH.val 5 rfl krX krX krX krX (Wanted.free rfl) (V.move rfl rfl) rfl ?_
  refine RH.val 6 rfl krX krX krX krX (Wanted.free rfl) (V.indexSl (j := 1) rfl el22.slice rfl rfl memX (by first | rfl | omega) (by simp)) rfl ?_
  refine RH.val 7 rfl krX krX krX krX (Wanted.free rfl) (V.loadSlDt (j := 1) rfl ag25 rfl memX rfl) rfl ?_
  refine RH.val 9 rfl krX krX krX krX (Wanted.free rfl) (V.move rfl rfl) rfl ?_
  refine RH.val 10 rfl krX krX krX krX (Wanted.free rfl) (V.indexSl (j := 2) rfl el22.slice rfl rfl memX (by first | rfl | omega) (by simp)) rfl ?_
  refine RH.val 11 rfl krX krX krX krX (Wanted.free rfl) (V.loadSlDt (j := 2) rfl ag25 rfl memX rfl) rfl ?_
  refine RH.two (i := 4) (j := 13) krX ?_ ?_
  ·
   refine RHone.eff rfl (Wanted.free rfl) (E.call rfl go24 rfl (app3_ok (n := 0) (f := []) (x := A) (l := [A]) rfl (j := 1) rfl (m0 _) ones_zero.symm (by decide) hA memX (by unfold Tab; repeat (first | exact List.Mem.head _ | assumption | apply List.Mem.tail)))) rfl ?_
   rintro _ _ ⟨a74, c74, rfl, rfl⟩
   refine ⟨.inr entX, ?_⟩
   refine RH.two (i := 8) (j := 13) krX ?_ ?_
   ·
    refine RHone.eff rfl (Wanted.free rfl) (E.call rfl go24 rfl (app3_ok (n := 1) (f := [A]) (x := Z) (l := [D]) rfl (j := 2) rfl (by rw [m1, hqD]) o1.symm (by decide) hZ memX (by unfold Tab; repeat (first | exact List.Mem.head _ | assumption | apply List.Mem.tail)))) rfl ?_
    rintro _ _ ⟨a75, c75, rfl, rfl⟩
    refine ⟨.inr entX, ?_⟩
    refine RH.two (i := 12) (j := 13) krX ?_ ?_
    ·
     refine RHone.eff rfl (Wanted.free rfl) (E.call rfl go24 rfl (app3_ok (n := 2) (f := [D]) (x := C) (l := [D, C]) rfl (j := 3) rfl (m2 _ _) o2.symm (by decide) hC memX (by unfold Tab; repeat (first | exact List.Mem.head _ | assumption | apply List.Mem.tail)))) rfl ?_
     rintro _ _ ⟨a76, c76, rfl, rfl⟩
     refine ⟨.inr entX, ?_⟩
     refine RH.one (i := 13) krX ?_
     refine RHone.eff rfl (Wanted.free rfl) (E.alloc rfl ze39) rfl ?_
     rintro _ _ ⟨b15, rfl, rfl⟩
     refine ⟨.inr entX, ?_⟩
     refine RH.one (i := 14) krX ?_
     refine RHone.eff rfl (Wanted.free rfl) (E.storeWhole rfl rfl rfl (by rfl) sz39 pickX (by first | (simp [Value.oneCell']; done) | (simp [setAt, Value.oneCell']; done)) (by rfl)) rfl ?_
     rintro _ _ rfl
     refine ⟨.inl krX, ?_⟩
     refine RH.done krX ?_
     refine SG.seq ?_
     refine SG.region ?_
     refine RL.val (Wanted.free rfl) (V.move rfl rfl) rfl ?_
     refine RL.cmpT (Wanted.free rfl) (V.bin rfl rfl rfl B.eql) rfl rfl ?_
     refine RL.val (Wanted.free rfl) (V.move rfl rfl) rfl ?_
     refine RL.val (Wanted.yes rfl rfl rfl rfl) (V.move rfl rfl) rfl ?_
     refine RL.cmpT (Wanted.yes rfl rfl rfl rfl) (V.bin rfl rfl rfl B.eql) rfl rfl ?_
     refine RL.val (Wanted.free rfl) (V.pick_true rfl rfl rfl) rfl ?_
     refine RL.val (Wanted.free rfl) (V.move rfl rfl) rfl ?_
     refine RL.val (Wanted.yes rfl rfl rfl rfl) (V.move rfl rfl) rfl ?_
     refine RL.cmpT (Wanted.yes rfl rfl rfl rfl) (V.bin rfl rfl rfl B.eql) rfl rfl ?_
     refine RL.val (Wanted.free rfl) (V.pick_true rfl rfl rfl) rfl ?_
     refine RL.val (Wanted.free rfl) (V.move rfl rfl) rfl ?_
     refine RL.val (Wanted.yes rfl rfl rfl rfl) (V.move rfl rfl) rfl ?_
     refine RL.cmpT (Wanted.yes rfl rfl rfl rfl) (V.bin rfl rfl rfl B.eql) rfl rfl ?_
     refine RL.val (Wanted.free rfl) (V.pick_true rfl rfl rfl) rfl ?_
     refine RL.val (Wanted.free rfl) (V.move rfl rfl) rfl ?_
     refine RL.val (Wanted.yes rfl rfl rfl rfl) (V.move rfl rfl) rfl ?_
     refine RL.cmpT (Wanted.yes rfl rfl rfl rfl) (V.bin rfl rfl rfl B.eql) rfl rfl ?_
     refine RL.val (Wanted.free rfl) (V.pick_true rfl rfl rfl) rfl ?_
     refine RL.val (Wanted.free rfl) (V.move rfl rfl) rfl ?_
     refine RL.val (Wanted.yes rfl rfl rfl rfl) (V.move rfl rfl) rfl ?_
     refine RL.cmpT (Wanted.yes rfl rfl rfl rfl) (V.bin rfl rfl rfl B.eql) rfl rfl ?_
     refine RL.val (Wanted.free rfl) (V.pick_true rfl rfl rfl) rfl ?_
     refine RL.val (Wanted.free rfl) (V.assign rfl rfl) rfl ?_
     refine RL.nil ?_
     refine SG.seq ?_
     refine SG.drawL 16 16 wide rfl rfl ?_
     refine RH.val 0 rfl krX krX krX krX (Wanted.free rfl) (V.move rfl rfl) rfl ?_
     refine RH.val 1 rfl krX krX krX krX (Wanted.free rfl) (V.move rfl rfl) rfl ?_
     refine RH.val 2 rfl krX krX krX krX (Wanted.free rfl) (V.indexSl (j := 0) rfl el22.slice rfl rfl memX (by first | rfl | omega) (by simp)) rfl ?_
     refine RH.val 3 rfl krX krX krX krX (Wanted.free rfl) (V.loadSlDt (j := 0) rfl ag25 rfl memX rfl) rfl ?_
     refine RH.val 4 rfl krX krX krX krX (Wanted.free rfl) (V.move rfl rfl) rfl ?_
     refine RH.val 5 rfl krX krX krX krX (Wanted.free rfl) (V.indexSl (j := 2) rfl el22.slice rfl rfl memX (by first | rfl | omega) (by simp)) rfl ?_
     refine RH.val 6 rfl krX krX krX krX (Wanted.free rfl) (V.loadSlDt (j := 2) rfl ag25 rfl memX rfl) rfl ?_
     refine RH.one (i := 7) krX ?_
     refine RHone.eff rfl (Wanted.free rfl) (E.litA2 A C rfl el22.slice ze25 (by simp) (by decide) (by decide) rfl hA rfl hC) rfl ?_
     rintro _ _ ⟨b108, rfl, rfl⟩
     refine ⟨.inr entX, ?_⟩
     refine RH.one (i := 8) krX ?_
     refine RHone.eff rfl (Wanted.free rfl) (E.call rfl go19 rfl (sameT_ok (l := [A, C]) memX memX)) rfl ?_
     rintro _ _ ⟨rfl, rfl⟩
     refine ⟨.inr entX, ?_⟩
     refine RH.val 9 rfl krX krX krX krX (Wanted.free rfl) (V.move rfl rfl) rfl ?_
     refine RH.val 10 rfl krX krX krX krX (Wanted.yes rfl rfl rfl rfl) (V.move rfl rfl) rfl ?_
     refine RH.val 11 rfl krX krX krX krX (Wanted.yes rfl rfl rfl rfl) (V.loadAgg (us := D.map v8) rfl ag25 rfl pickX (take8 hD) (by rw [List.length_map]; exact hD)) rfl ?_
     refine RH.one (i := 12) krX ?_
     refine RHone.eff rfl (Wanted.yes rfl rfl rfl rfl) (E.litA1 D rfl el22.slice ze25 (by simp) (by decide) (by decide) rfl hD) rfl ?_
     rintro _ _ ⟨b113, rfl, rfl⟩
     refine ⟨.inr entX, ?_⟩
     refine RH.one (i := 13) krX ?_
     refine RHone.eff rfl (Wanted.yes rfl rfl rfl rfl) (E.call rfl go19 rfl (sameT_ok (l := [D]) memX memX)) rfl ?_
     rintro _ _ ⟨rfl, rfl⟩
     refine ⟨.inr entX, ?_⟩
     refine RH.pure 14 rfl krX krX krX krX (Wanted.free rfl) (V.pick_true rfl rfl rfl) rfl ?_
     refine RH.val 15 rfl krX krX krX krX (Wanted.free rfl) (V.assign rfl rfl) rfl ?_
     refine RH.done krX ?_
     refine SG.seq ?_
     refine SG.region ?_
     refine RL.val (Wanted.free rfl) (V.move rfl rfl) rfl ?_
     refine RL.val (Wanted.free rfl) (V.move rfl rfl) rfl ?_
     refine RL.eff (Wanted.free rfl) (E.slice (lo := 1) (hi := 3) (l := [A, Z, C]) rfl el22.slice rfl memX ⟨_, _, rfl, (by first | rfl | omega)⟩ rfl (by decide) (by decide)) rfl ?_
     intro _ _ hK108
     try rw [List.drop_zero] at hK108
     iterate 2 (try rw [Nat.sub_zero] at hK108)
     simp only [List.drop_succ_cons, List.drop_zero, List.take_succ_cons, List.take_nil, Nat.reduceSub] at hK108
     obtain ⟨a108, rfl, rfl⟩ := hK108
     refine RL.eff (Wanted.free rfl) (E.call rfl go19 rfl (sameT_ok (l := [Z, C]) memX memX)) rfl ?_
     rintro _ _ ⟨rfl, rfl⟩
     refine RL.val (Wanted.free rfl) (V.move rfl rfl) rfl ?_
     refine RL.val (Wanted.yes rfl rfl rfl rfl) (V.move rfl rfl) rfl ?_
     refine RL.val (Wanted.yes rfl rfl rfl rfl) (V.move rfl rfl) rfl ?_
     refine RL.eff (Wanted.yes rfl rfl rfl rfl) (E.slice (lo := 2) (hi := 3) (l := [A, Z, C]) rfl el22.slice rfl memX ⟨_, _, rfl, (by first | rfl | omega)⟩ rfl (by decide) (by decide)) rfl ?_
     intro _ _ hK113
     try rw [List.drop_zero] at hK113
     iterate 2 (try rw [Nat.sub_zero] at hK113)
     simp only [List.drop_succ_cons, List.drop_zero, List.take_succ_cons, List.take_nil, Nat.reduceSub] at hK113
     obtain ⟨a113, rfl, rfl⟩ := hK113
     refine RL.eff (Wanted.yes rfl rfl rfl rfl) (E.call rfl go19 rfl (sameT_ok (l := [C]) memX memX)) rfl ?_
     rintro _ _ ⟨rfl, rfl⟩
     refine RL.val (Wanted.free rfl) (V.pick_true rfl rfl rfl) rfl ?_
     refine RL.val (Wanted.free rfl) (V.move rfl rfl) rfl ?_
     refine RL.val (Wanted.yes rfl rfl rfl rfl) (V.move rfl rfl) rfl ?_
     refine RL.val (Wanted.yes rfl rfl rfl rfl) (V.len rfl rfl el22.under rfl) rfl ?_
     refine RL.cmpT (Wanted.yes rfl rfl rfl rfl) (V.bin rfl rfl rfl B.eql) rfl rfl ?_
     refine RL.val (Wanted.free rfl) (V.pick_true rfl rfl rfl) rfl ?_
     refine RL.val (Wanted.free rfl) (V.assign rfl rfl) rfl ?_
     refine RL.nil ?_
     refine SG.seq ?_
     refine SG.drawL 40 40 wide rfl rfl ?_
     refine RH.val 0 rfl krX krX krX krX (Wanted.free rfl) (V.move rfl rfl) rfl ?_
     refine RH.val 1 rfl krX krX krX krX (Wanted.free rfl) (V.move rfl rfl) rfl ?_
     refine RH.val 2 rfl krX krX krX krX (Wanted.yes rfl rfl rfl rfl) (V.move rfl rfl) rfl ?_
     refine RH.pure 3 rfl krX krX krX krX (Wanted.free rfl) (V.pick_true rfl rfl rfl) rfl ?_
     refine RH.val 4 rfl krX krX krX krX (Wanted.free rfl) (V.move rfl rfl) rfl ?_
     refine RH.val 5 rfl krX krX krX krX (Wanted.yes rfl rfl rfl rfl) (V.move rfl rfl) rfl ?_
     refine RH.pure 6 rfl krX krX krX krX (Wanted.free rfl) (V.pick_true rfl rfl rfl) rfl ?_
     refine RH.val 7 rfl krX krX krX krX (Wanted.free rfl) (V.move rfl rfl) rfl ?_
     refine RH.val 8 rfl krX krX krX krX (Wanted.yes rfl rfl rfl rfl) (V.move rfl rfl) rfl ?_
     refine RH.val 10 rfl krX krX krX krX (Wanted.yes rfl rfl rfl rfl) (V.loadAgg (us := D.map v8) rfl ag25 rfl pickX (take8 hD) (by rw [List.length_map]; exact hD)) rfl ?_
     refine RH.val 11 rfl krX krX krX krX (Wanted.yes rfl rfl rfl rfl) (V.move rfl rfl) rfl ?_
     refine RH.val 12 rfl krX krX krX krX (Wanted.yes rfl rfl rfl rfl) (V.indexSl (j := 2) rfl el22.slice rfl rfl memX (by first | rfl | omega) (by simp)) rfl ?_
     refine RH.val 13 rfl krX krX krX krX (Wanted.yes rfl rfl rfl rfl) (V.loadSlDt (j := 2) rfl ag25 rfl memX rfl) rfl ?_
     refine RH.one (i := 9) krX ?_
     refine RHone.eff rfl (Wanted.yes rfl rfl rfl rfl) (E.call rfl go13 rfl (root3_ok hqD hqG memX (by unfold Tab; repeat (first | exact List.Mem.head _ | assumption | apply List.Mem.tail)))) rfl ?_
     rintro _ _ ⟨rfl, rfl⟩
     refine ⟨.inr entX, ?_⟩
     refine RH.one (i := 14) krX ?_
     refine RHone.eff rfl (Wanted.yes rfl rfl rfl rfl) (E.call rfl go47 rfl (node3_ok hqG hD hC (by unfold Tab; repeat (first | exact List.Mem.head _ | assumption | apply List.Mem.tail)))) rfl ?_
     rintro _ _ ⟨rfl, rfl⟩
     refine ⟨.inr entX, ?_⟩
     refine RH.cmpT 15 rfl krX krX krX krX (Wanted.yes rfl rfl rfl rfl) (V.eqlArr rfl ar25 on5 ui5 ce25 eg25 inj8 hG hG rfl rfl) rfl rfl ?_
     refine RH.pure 16 rfl krX krX krX krX (Wanted.free rfl) (V.pick_true rfl rfl rfl) rfl ?_
     refine RH.val 17 rfl krX krX krX krX (Wanted.free rfl) (V.move rfl rfl) rfl ?_
     refine RH.val 18 rfl krX krX krX krX (Wanted.yes rfl rfl rfl rfl) (V.fieldAddr rfl rfl fo39_0) rfl ?_
     refine RH.val 19 rfl krX krX krX krX (Wanted.yes rfl rfl rfl rfl) (V.load rfl on3 rfl pickX rfl) rfl ?_
     refine RH.cmpT 20 rfl krX krX krX krX (Wanted.yes rfl rfl rfl rfl) (V.bin rfl rfl rfl B.eql) rfl rfl ?_
     refine RH.pure 21 rfl krX krX krX krX (Wanted.free rfl) (V.pick_true rfl rfl rfl) rfl ?_
     refine RH.val 22 rfl krX krX krX krX (Wanted.free rfl) (V.move rfl rfl) rfl ?_
     refine RH.val 23 rfl krX krX krX krX (Wanted.yes rfl rfl rfl rfl) (V.fieldAddr rfl rfl fo39_1) rfl ?_
     refine RH.val 24 rfl krX krX krX krX (Wanted.yes rfl rfl rfl rfl) (V.load rfl on22 rfl pickX rfl) rfl ?_
     refine RH.val 25 rfl krX krX krX krX (Wanted.yes rfl rfl rfl rfl) (V.loadAgg (us := D.map v8) rfl ag25 rfl pickX (take8 hD) (by rw [List.length_map]; exact hD)) rfl ?_
     refine RH.val 26 rfl krX krX krX krX (Wanted.yes rfl rfl rfl rfl) (V.move rfl rfl) rfl ?_
     refine RH.val 27 rfl krX krX krX krX (Wanted.yes rfl rfl rfl rfl) (V.indexSl (j := 2) rfl el22.slice rfl rfl memX (by first | rfl | omega) (by simp)) rfl ?_
     refine RH.val 28 rfl krX krX krX krX (Wanted.yes rfl rfl rfl rfl) (V.loadSlDt (j := 2) rfl ag25 rfl memX rfl) rfl ?_
     refine RH.one (i := 29) krX ?_
     refine RHone.eff rfl (Wanted.yes rfl rfl rfl rfl) (E.litA2 D C rfl el22.slice ze25 (by simp) (by decide) (by decide) rfl hD rfl hC) rfl ?_
     rintro _ _ ⟨b160, rfl, rfl⟩
     refine ⟨.inr entX, ?_⟩
     refine RH.one (i := 30) krX ?_
     refine RHone.eff rfl (Wanted.yes rfl rfl rfl rfl) (E.call rfl go19 rfl (sameT_ok (l := [D, C]) memX memX)) rfl ?_
     rintro _ _ ⟨rfl, rfl⟩
     refine ⟨.inr entX, ?_⟩
     refine RH.pure 31 rfl krX krX krX krX (Wanted.free rfl) (V.pick_true rfl rfl rfl) rfl ?_
     refine RH.val 32 rfl krX krX krX krX (Wanted.free rfl) (V.move rfl rfl) rfl ?_
     refine RH.val 33 rfl krX krX krX krX (Wanted.yes rfl rfl rfl rfl) (V.loadAgg (us := _) rfl ag39 rfl pickX rfl rfl) rfl ?_
     refine RH.val 35 rfl krX krX krX krX (Wanted.yes rfl rfl rfl rfl) (V.move rfl rfl) rfl ?_
     refine RH.one (i := 34) krX ?_
     refine RHone.eff rfl (Wanted.yes rfl rfl rfl rfl) (E.call rfl go23 rfl (top2_ok hqG memX (by unfold Tab; repeat (first | exact List.Mem.head _ | assumption | apply List.Mem.tail)))) rfl ?_
     rintro _ _ ⟨rfl, rfl⟩
     refine ⟨.inr entX, ?_⟩
     refine RH.one (i := 36) krX ?_
     refine RHone.eff rfl (Wanted.yes rfl rfl rfl rfl) (E.call rfl go13 rfl (root3_ok hqD hqG memX (by unfold Tab; repeat (first | exact List.Mem.head _ | assumption | apply List.Mem.tail)))) rfl ?_
     rintro _ _ ⟨rfl, rfl⟩
     refine ⟨.inr entX, ?_⟩
     refine RH.cmpT 37 rfl krX krX krX krX (Wanted.yes rfl rfl rfl rfl) (V.eqlArr rfl ar25 on5 ui5 ce25 eg25 inj8 hG hG rfl rfl) rfl rfl ?_
     refine RH.pure 38 rfl krX krX krX krX (Wanted.free rfl) (V.pick_true rfl rfl rfl) rfl ?_
     refine RH.val 39 rfl krX krX krX krX (Wanted.free rfl) (V.assign rfl rfl) rfl ?_
     refine RH.done krX ?_
     refine SG.retE (Ret.r1 Tryd.func15 rfl (.tmp rfl)) ?_ ⟨rfl, rfl⟩
     exact entX
    ·
     refine RHone.eff rfl (Wanted.free rfl) (E.alloc rfl ze39) rfl ?_
     rintro _ _ ⟨b15, rfl, rfl⟩
     refine ⟨.inr entX, ?_⟩
     refine RH.one (i := 12) krX ?_
     refine RHone.eff rfl (Wanted.free rfl) (E.call rfl go24 rfl (app3_ok (n := 2) (f := [D]) (x := C) (l := [D, C]) rfl (j := 3) rfl (m2 _ _) o2.symm (by decide) hC memX (by unfold Tab; repeat (first | exact List.Mem.head _ | assumption | apply List.Mem.tail)))) rfl ?_
     rintro _ _ ⟨a151, c151, rfl, rfl⟩
     refine ⟨.inr entX, ?_⟩
     refine RH.one (i := 14) krX ?_
     refine RHone.eff rfl (Wanted.free rfl) (E.storeWhole rfl rfl rfl (by rfl) sz39 pickX (by first | (simp [Value.oneCell']; done) | (simp [setAt, Value.oneCell']; done)) (by rfl)) rfl ?_
     rintro _ _ rfl
     refine ⟨.inl krX, ?_⟩
     refine RH.done krX ?_
     refine SG.seq ?_
     refine SG.region ?_
     refine RL.val (Wanted.free rfl) (V.move rfl rfl) rfl ?_
     refine RL.cmpT (Wanted.free rfl) (V.bin rfl rfl rfl B.eql) rfl rfl ?_
     refine RL.val (Wanted.free rfl) (V.move rfl rfl) rfl ?_
     refine RL.val (Wanted.yes rfl rfl rfl rfl) (V.move rfl rfl) rfl ?_
     refine RL.cmpT (Wanted.yes rfl rfl rfl rfl) (V.bin rfl rfl rfl B.eql) rfl rfl ?_
     refine RL.val (Wanted.free rfl) (V.pick_true rfl rfl rfl) rfl ?_
     refine RL.val (Wanted.free rfl) (V.move rfl rfl) rfl ?_
     refine RL.val (Wanted.yes rfl rfl rfl rfl) (V.move rfl rfl) rfl ?_
     refine RL.cmpT (Wanted.yes rfl rfl rfl rfl) (V.bin rfl rfl rfl B.eql) rfl rfl ?_
     refine RL.val (Wanted.free rfl) (V.pick_true rfl rfl rfl) rfl ?_
     refine RL.val (Wanted.free rfl) (V.move rfl rfl) rfl ?_
     refine RL.val (Wanted.yes rfl rfl rfl rfl) (V.move rfl rfl) rfl ?_
     refine RL.cmpT (Wanted.yes rfl rfl rfl rfl) (V.bin rfl rfl rfl B.eql) rfl rfl ?_
     refine RL.val (Wanted.free rfl) (V.pick_true rfl rfl rfl) rfl ?_
     refine RL.val (Wanted.free rfl) (V.move rfl rfl) rfl ?_
     refine RL.val (Wanted.yes rfl rfl rfl rfl) (V.move rfl rfl) rfl ?_
     refine RL.cmpT (Wanted.yes rfl rfl rfl rfl) (V.bin rfl rfl rfl B.eql) rfl rfl ?_
     refine RL.val (Wanted.free rfl) (V.pick_true rfl rfl rfl) rfl ?_
     refine RL.val (Wanted.free rfl) (V.move rfl rfl) rfl ?_
     refine RL.val (Wanted.yes rfl rfl rfl rfl) (V.move rfl rfl) rfl ?_
     refine RL.cmpT (Wanted.yes rfl rfl rfl rfl) (V.bin rfl rfl rfl B.eql) rfl rfl ?_
     refine RL.val (Wanted.free rfl) (V.pick_true rfl rfl rfl) rfl ?_
     refine RL.val (Wanted.free rfl) (V.assign rfl rfl) rfl ?_
     refine RL.nil ?_
     refine SG.seq ?_
     refine SG.drawL 16 16 wide rfl rfl ?_
     refine RH.val 0 rfl krX krX krX krX (Wanted.free rfl) (V.move rfl rfl) rfl ?_
     refine RH.val 1 rfl krX krX krX krX (Wanted.free rfl) (V.move rfl rfl) rfl ?_
     refine RH.val 2 rfl krX krX krX krX (Wanted.free rfl) (V.indexSl (j := 0) rfl el22.slice rfl rfl memX (by first | rfl | omega) (by simp)) rfl ?_
     refine RH.val 3 rfl krX krX krX krX (Wanted.free rfl) (V.loadSlDt (j := 0) rfl ag25 rfl memX rfl) rfl ?_
     refine RH.val 4 rfl krX krX krX krX (Wanted.free rfl) (V.move rfl rfl) rfl ?_
     refine RH.val 5 rfl krX krX krX krX (Wanted.free rfl) (V.indexSl (j := 2) rfl el22.slice rfl rfl memX (by first | rfl | omega) (by simp)) rfl ?_
     refine RH.val 6 rfl krX krX krX krX (Wanted.free rfl) (V.loadSlDt (j := 2) rfl ag25 rfl memX rfl) rfl ?_
     refine RH.one (i := 7) krX ?_
     refine RHone.eff rfl (Wanted.free rfl) (E.litA2 A C rfl el22.slice ze25 (by simp) (by decide) (by decide) rfl hA rfl hC) rfl ?_
     rintro _ _ ⟨b108, rfl, rfl⟩
     refine ⟨.inr entX, ?_⟩
     refine RH.one (i := 8) krX ?_
     refine RHone.eff rfl (Wanted.free rfl) (E.call rfl go19 rfl (sameT_ok (l := [A, C]) memX memX)) rfl ?_
     rintro _ _ ⟨rfl, rfl⟩
     refine ⟨.inr entX, ?_⟩
     refine RH.val 9 rfl krX krX krX krX (Wanted.free rfl) (V.move rfl rfl) rfl ?_
     refine RH.val 10 rfl krX krX krX krX (Wanted.yes rfl rfl rfl rfl) (V.move rfl rfl) rfl ?_
     refine RH.val 11 rfl krX krX krX krX (Wanted.yes rfl rfl rfl rfl) (V.loadAgg (us := D.map v8) rfl ag25 rfl pickX (take8 hD) (by rw [List.length_map]; exact hD)) rfl ?_
     refine RH.one (i := 12) krX ?_
     refine RHone.eff rfl (Wanted.yes rfl rfl rfl rfl) (E.litA1 D rfl el22.slice ze25 (by simp) (by decide) (by decide) rfl hD) rfl ?_
     rintro _ _ ⟨b113, rfl, rfl⟩
     refine ⟨.inr entX, ?_⟩
     refine RH.one (i := 13) krX ?_
     refine RHone.eff rfl (Wanted.yes rfl rfl rfl rfl) (E.call rfl go19 rfl (sameT_ok (l := [D]) memX memX)) rfl ?_
     rintro _ _ ⟨rfl, rfl⟩
     refine ⟨.inr entX, ?_⟩
     refine RH.pure 14 rfl krX krX krX krX (Wanted.free rfl) (V.pick_true rfl rfl rfl) rfl ?_
     refine RH.val 15 rfl krX krX krX krX (Wanted.free rfl) (V.assign rfl rfl) rfl ?_
     refine RH.done krX ?_
     refine SG.seq ?_
     refine SG.region ?_
     refine RL.val (Wanted.free rfl) (V.move rfl rfl) rfl ?_
     refine RL.val (Wanted.free rfl) (V.move rfl rfl) rfl ?_
     refine RL.eff (Wanted.free rfl) (E.slice (lo := 1) (hi := 3) (l := [A, Z, C]) rfl el22.slice rfl memX ⟨_, _, rfl, (by first | rfl | omega)⟩ rfl (by decide) (by decide)) rfl ?_
     intro _ _ hK182
     try rw [List.drop_zero] at hK182
     iterate 2 (try rw [Nat.sub_zero] at hK182)
     simp only [List.drop_succ_cons, List.drop_zero, List.take_succ_cons, List.take_nil, Nat.reduceSub] at hK182
     obtain ⟨a182, rfl, rfl⟩ := hK182
     refine RL.eff (Wanted.free rfl) (E.call rfl go19 rfl (sameT_ok (l := [Z, C]) memX memX)) rfl ?_
     rintro _ _ ⟨rfl, rfl⟩
     refine RL.val (Wanted.free rfl) (V.move rfl rfl) rfl ?_
     refine RL.val (Wanted.yes rfl rfl rfl rfl) (V.move rfl rfl) rfl ?_
     refine RL.val (Wanted.yes rfl rfl rfl rfl) (V.move rfl rfl) rfl ?_
     refine RL.eff (Wanted.yes rfl rfl rfl rfl) (E.slice (lo := 2) (hi := 3) (l := [A, Z, C]) rfl el22.slice rfl memX ⟨_, _, rfl, (by first | rfl | omega)⟩ rfl (by decide) (by decide)) rfl ?_
     intro _ _ hK187
     try rw [List.drop_zero] at hK187
     iterate 2 (try rw [Nat.sub_zero] at hK187)
     simp only [List.drop_succ_cons, List.drop_zero, List.take_succ_cons, List.take_nil, Nat.reduceSub] at hK187
     obtain ⟨a187, rfl, rfl⟩ := hK187
     refine RL.eff (Wanted.yes rfl rfl rfl rfl) (E.call rfl go19 rfl (sameT_ok (l := [C]) memX memX)) rfl ?_
     rintro _ _ ⟨rfl, rfl⟩
     refine RL.val (Wanted.free rfl) (V.pick_true rfl rfl rfl) rfl ?_
     refine RL.val (Wanted.free rfl) (V.move rfl rfl) rfl ?_
     refine RL.val (Wanted.yes rfl rfl rfl rfl) (V.move rfl rfl) rfl ?_
     refine RL.val (Wanted.yes rfl rfl rfl rfl) (V.len rfl rfl el22.under rfl) rfl ?_
     refine RL.cmpT (Wanted.yes rfl rfl rfl rfl) (V.bin rfl rfl rfl B.eql) rfl rfl ?_
     refine RL.val (Wanted.free rfl) (V.pick_true rfl rfl rfl) rfl ?_
     refine RL.val (Wanted.free rfl) (V.assign rfl rfl) rfl ?_
     refine RL.nil ?_
     refine SG.seq ?_
     refine SG.drawL 40 40 wide rfl rfl ?_
     refine RH.val 0 rfl krX krX krX krX (Wanted.free rfl) (V.move rfl rfl) rfl ?_
     refine RH.val 1 rfl krX krX krX krX (Wanted.free rfl) (V.move rfl rfl) rfl ?_
     refine RH.val 2 rfl krX krX krX krX (Wanted.yes rfl rfl rfl rfl) (V.move rfl rfl) rfl ?_
     refine RH.pure 3 rfl krX krX krX krX (Wanted.free rfl) (V.pick_true rfl rfl rfl) rfl ?_
     refine RH.val 4 rfl krX krX krX krX (Wanted.free rfl) (V.move rfl rfl) rfl ?_
     refine RH.val 5 rfl krX krX krX krX (Wanted.yes rfl rfl rfl rfl) (V.move rfl rfl) rfl ?_
     refine RH.pure 6 rfl krX krX krX krX (Wanted.free rfl) (V.pick_true rfl rfl rfl) rfl ?_
     refine RH.val 7 rfl krX krX krX krX (Wanted.free rfl) (V.move rfl rfl) rfl ?_
     refine RH.val 8 rfl krX krX krX krX (Wanted.yes rfl rfl rfl rfl) (V.move rfl rfl) rfl ?_
     refine RH.val 10 rfl krX krX krX krX (Wanted.yes rfl rfl rfl rfl) (V.loadAgg (us := D.map v8) rfl ag25 rfl pickX (take8 hD) (by rw [List.length_map]; exact hD)) rfl ?_
     refine RH.val 11 rfl krX krX krX krX (Wanted.yes rfl rfl rfl rfl) (V.move rfl rfl) rfl ?_
     refine RH.val 12 rfl krX krX krX krX (Wanted.yes rfl rfl rfl rfl) (V.indexSl (j := 2) rfl el22.slice rfl rfl memX (by first | rfl | omega) (by simp)) rfl ?_
     refine RH.val 13 rfl krX krX krX krX (Wanted.yes rfl rfl rfl rfl) (V.loadSlDt (j := 2) rfl ag25 rfl memX rfl) rfl ?_
     refine RH.one (i := 9) krX ?_
     refine RHone.eff rfl (Wanted.yes rfl rfl rfl rfl) (E.call rfl go13 rfl (root3_ok hqD hqG memX (by unfold Tab; repeat (first | exact List.Mem.head _ | assumption | apply List.Mem.tail)))) rfl ?_
     rintro _ _ ⟨rfl, rfl⟩
     refine ⟨.inr entX, ?_⟩
     refine RH.one (i := 14) krX ?_
     refine RHone.eff rfl (Wanted.yes rfl rfl rfl rfl) (E.call rfl go47 rfl (node3_ok hqG hD hC (by unfold Tab; repeat (first | exact List.Mem.head _ | assumption | apply List.Mem.tail)))) rfl ?_
     rintro _ _ ⟨rfl, rfl⟩
     refine ⟨.inr entX, ?_⟩
     refine RH.cmpT 15 rfl krX krX krX krX (Wanted.yes rfl rfl rfl rfl) (V.eqlArr rfl ar25 on5 ui5 ce25 eg25 inj8 hG hG rfl rfl) rfl rfl ?_
     refine RH.pure 16 rfl krX krX krX krX (Wanted.free rfl) (V.pick_true rfl rfl rfl) rfl ?_
     refine RH.val 17 rfl krX krX krX krX (Wanted.free rfl) (V.move rfl rfl) rfl ?_
     refine RH.val 18 rfl krX krX krX krX (Wanted.yes rfl rfl rfl rfl) (V.fieldAddr rfl rfl fo39_0) rfl ?_
     refine RH.val 19 rfl krX krX krX krX (Wanted.yes rfl rfl rfl rfl) (V.load rfl on3 rfl pickX rfl) rfl ?_
     refine RH.cmpT 20 rfl krX krX krX krX (Wanted.yes rfl rfl rfl rfl) (V.bin rfl rfl rfl B.eql) rfl rfl ?_
     refine RH.pure 21 rfl krX krX krX krX (Wanted.free rfl) (V.pick_true rfl rfl rfl) rfl ?_
     refine RH.val 22 rfl krX krX krX krX (Wanted.free rfl) (V.move rfl rfl) rfl ?_
     refine RH.val 23 rfl krX krX krX krX (Wanted.yes rfl rfl rfl rfl) (V.fieldAddr rfl rfl fo39_1) rfl ?_
     refine RH.val 24 rfl krX krX krX krX (Wanted.yes rfl rfl rfl rfl) (V.load rfl on22 rfl pickX rfl) rfl ?_
     refine RH.val 25 rfl krX krX krX krX (Wanted.yes rfl rfl rfl rfl) (V.loadAgg (us := D.map v8) rfl ag25 rfl pickX (take8 hD) (by rw [List.length_map]; exact hD)) rfl ?_
     refine RH.val 26 rfl krX krX krX krX (Wanted.yes rfl rfl rfl rfl) (V.move rfl rfl) rfl ?_
     refine RH.val 27 rfl krX krX krX krX (Wanted.yes rfl rfl rfl rfl) (V.indexSl (j := 2) rfl el22.slice rfl rfl memX (by first | rfl | omega) (by simp)) rfl ?_
     refine RH.val 28 rfl krX krX krX krX (Wanted.yes rfl rfl rfl rfl) (V.loadSlDt (j := 2) rfl ag25 rfl memX rfl) rfl ?_
     refine RH.one (i := 29) krX ?_
     refine RHone.eff rfl (Wanted.yes rfl rfl rfl rfl) (E.litA2 D C rfl el22.slice ze25 (by simp) (by decide) (by decide) rfl hD rfl hC) rfl ?_
     rintro _ _ ⟨b160, rfl, rfl⟩
     refine ⟨.inr entX, ?_⟩
     refine RH.one (i := 30) krX ?_
     refine RHone.eff rfl (Wanted.yes rfl rfl rfl rfl) (E.call rfl go19 rfl (sameT_ok (l := [D, C]) memX memX)) rfl ?_
     rintro _ _ ⟨rfl, rfl⟩
     refine ⟨.inr entX, ?_⟩
     refine RH.pure 31 rfl krX krX krX krX (Wanted.free rfl) (V.pick_true rfl rfl rfl) rfl ?_
     refine RH.val 32 rfl krX krX krX krX (Wanted.free rfl) (V.move rfl rfl) rfl ?_
     refine RH.val 33 rfl krX krX krX krX (Wanted.yes rfl rfl rfl rfl) (V.loadAgg (us := _) rfl ag39 rfl pickX rfl rfl) rfl ?_
     refine RH.val 35 rfl krX krX krX krX (Wanted.yes rfl rfl rfl rfl) (V.move rfl rfl) rfl ?_
     refine RH.one (i := 34) krX ?_
     refine RHone.eff rfl (Wanted.yes rfl rfl rfl rfl) (E.call rfl go23 rfl (top2_ok hqG memX (by unfold Tab; repeat (first | exact List.Mem.head _ | assumption | apply List.Mem.tail)))) rfl ?_
     rintro _ _ ⟨rfl, rfl⟩
     refine ⟨.inr entX, ?_⟩
     refine RH.one (i := 36) krX ?_
     refine RHone.eff rfl (Wanted.yes rfl rfl rfl rfl) (E.call rfl go13 rfl (root3_ok hqD hqG memX (by unfold Tab; repeat (first | exact List.Mem.head _ | assumption | apply List.Mem.tail)))) rfl ?_
     rintro _ _ ⟨rfl, rfl⟩
     refine ⟨.inr entX, ?_⟩
     refine RH.cmpT 37 rfl krX krX krX krX (Wanted.yes rfl rfl rfl rfl) (V.eqlArr rfl ar25 on5 ui5 ce25 eg25 inj8 hG hG rfl rfl) rfl rfl ?_
     refine RH.pure 38 rfl krX krX krX krX (Wanted.free rfl) (V.pick_true rfl rfl rfl) rfl ?_
     refine RH.val 39 rfl krX krX krX krX (Wanted.free rfl) (V.assign rfl rfl) rfl ?_
     refine RH.done krX ?_
     refine SG.retE (Ret.r1 Tryd.func15 rfl (.tmp rfl)) ?_ ⟨rfl, rfl⟩
     exact entX
   ·
    refine RHone.eff rfl (Wanted.free rfl) (E.alloc rfl ze39) rfl ?_
    rintro _ _ ⟨b15, rfl, rfl⟩
    refine ⟨.inr entX, ?_⟩
    refine RH.one (i := 8) krX ?_
    refine RHone.eff rfl (Wanted.free rfl) (E.call rfl go24 rfl (app3_ok (n := 1) (f := [A]) (x := Z) (l := [D]) rfl (j := 2) rfl (by rw [m1, hqD]) o1.symm (by decide) hZ memX (by unfold Tab; repeat (first | exact List.Mem.head _ | assumption | apply List.Mem.tail)))) rfl ?_
    rintro _ _ ⟨a225, c225, rfl, rfl⟩
    refine ⟨.inr entX, ?_⟩
    refine RH.one (i := 12) krX ?_
    refine RHone.eff rfl (Wanted.free rfl) (E.call rfl go24 rfl (app3_ok (n := 2) (f := [D]) (x := C) (l := [D, C]) rfl (j := 3) rfl (m2 _ _) o2.symm (by decide) hC memX (by unfold Tab; repeat (first | exact List.Mem.head _ | assumption | apply List.Mem.tail)))) rfl ?_
    rintro _ _ ⟨a226, c226, rfl, rfl⟩
    refine ⟨.inr entX, ?_⟩
    refine RH.one (i := 14) krX ?_
    refine RHone.eff rfl (Wanted.free rfl) (E.storeWhole rfl rfl rfl (by rfl) sz39 pickX (by first | (simp [Value.oneCell']; done) | (simp [setAt, Value.oneCell']; done)) (by rfl)) rfl ?_
    rintro _ _ rfl
    refine ⟨.inl krX, ?_⟩
    refine RH.done krX ?_
    refine SG.seq ?_
    refine SG.region ?_
    refine RL.val (Wanted.free rfl) (V.move rfl rfl) rfl ?_
    refine RL.cmpT (Wanted.free rfl) (V.bin rfl rfl rfl B.eql) rfl rfl ?_
    refine RL.val (Wanted.free rfl) (V.move rfl rfl) rfl ?_
    refine RL.val (Wanted.yes rfl rfl rfl rfl) (V.move rfl rfl) rfl ?_
    refine RL.cmpT (Wanted.yes rfl rfl rfl rfl) (V.bin rfl rfl rfl B.eql) rfl rfl ?_
    refine RL.val (Wanted.free rfl) (V.pick_true rfl rfl rfl) rfl ?_
    refine RL.val (Wanted.free rfl) (V.move rfl rfl) rfl ?_
    refine RL.val (Wanted.yes rfl rfl rfl rfl) (V.move rfl rfl) rfl ?_
    refine RL.cmpT (Wanted.yes rfl rfl rfl rfl) (V.bin rfl rfl rfl B.eql) rfl rfl ?_
    refine RL.val (Wanted.free rfl) (V.pick_true rfl rfl rfl) rfl ?_
    refine RL.val (Wanted.free rfl) (V.move rfl rfl) rfl ?_
    refine RL.val (Wanted.yes rfl rfl rfl rfl) (V.move rfl rfl) rfl ?_
    refine RL.cmpT (Wanted.yes rfl rfl rfl rfl) (V.bin rfl rfl rfl B.eql) rfl rfl ?_
    refine RL.val (Wanted.free rfl) (V.pick_true rfl rfl rfl) rfl ?_
    refine RL.val (Wanted.free rfl) (V.move rfl rfl) rfl ?_
    refine RL.val (Wanted.yes rfl rfl rfl rfl) (V.move rfl rfl) rfl ?_
    refine RL.cmpT (Wanted.yes rfl rfl rfl rfl) (V.bin rfl rfl rfl B.eql) rfl rfl ?_
    refine RL.val (Wanted.free rfl) (V.pick_true rfl rfl rfl) rfl ?_
    refine RL.val (Wanted.free rfl) (V.move rfl rfl) rfl ?_
    refine RL.val (Wanted.yes rfl rfl rfl rfl) (V.move rfl rfl) rfl ?_
    refine RL.cmpT (Wanted.yes rfl rfl rfl rfl) (V.bin rfl rfl rfl B.eql) rfl rfl ?_
    refine RL.val (Wanted.free rfl) (V.pick_true rfl rfl rfl) rfl ?_
    refine RL.val (Wanted.free rfl) (V.assign rfl rfl) rfl ?_
    refine RL.nil ?_
    refine SG.seq ?_
    refine SG.drawL 16 16 wide rfl rfl ?_
    refine RH.val 0 rfl krX krX krX krX (Wanted.free rfl) (V.move rfl rfl) rfl ?_
    refine RH.val 1 rfl krX krX krX krX (Wanted.free rfl) (V.move rfl rfl) rfl ?_
    refine RH.val 2 rfl krX krX krX krX (Wanted.free rfl) (V.indexSl (j := 0) rfl el22.slice rfl rfl memX (by first | rfl | omega) (by simp)) rfl ?_
    refine RH.val 3 rfl krX krX krX krX (Wanted.free rfl) (V.loadSlDt (j := 0) rfl ag25 rfl memX rfl) rfl ?_
    refine RH.val 4 rfl krX krX krX krX (Wanted.free rfl) (V.move rfl rfl) rfl ?_
    refine RH.val 5 rfl krX krX krX krX (Wanted.free rfl) (V.indexSl (j := 2) rfl el22.slice rfl rfl memX (by first | rfl | omega) (by simp)) rfl ?_
    refine RH.val 6 rfl krX krX krX krX (Wanted.free rfl) (V.loadSlDt (j := 2) rfl ag25 rfl memX rfl) rfl ?_
    refine RH.one (i := 7) krX ?_
    refine RHone.eff rfl (Wanted.free rfl) (E.litA2 A C rfl el22.slice ze25 (by simp) (by decide) (by decide) rfl hA rfl hC) rfl ?_
    rintro _ _ ⟨b108, rfl, rfl⟩
    refine ⟨.inr entX, ?_⟩
    refine RH.one (i := 8) krX ?_
    refine RHone.eff rfl (Wanted.free rfl) (E.call rfl go19 rfl (sameT_ok (l := [A, C]) memX memX)) rfl ?_
    rintro _ _ ⟨rfl, rfl⟩
    refine ⟨.inr entX, ?_⟩
    refine RH.val 9 rfl krX krX krX krX (Wanted.free rfl) (V.move rfl rfl) rfl ?_
    refine RH.val 10 rfl krX krX krX krX (Wanted.yes rfl rfl rfl rfl) (V.move rfl rfl) rfl ?_
    refine RH.val 11 rfl krX krX krX krX (Wanted.yes rfl rfl rfl rfl) (V.loadAgg (us := D.map v8) rfl ag25 rfl pickX (take8 hD) (by rw [List.length_map]; exact hD)) rfl ?_
    refine RH.one (i := 12) krX ?_
    refine RHone.eff rfl (Wanted.yes rfl rfl rfl rfl) (E.litA1 D rfl el22.slice ze25 (by simp) (by decide) (by decide) rfl hD) rfl ?_
    rintro _ _ ⟨b113, rfl, rfl⟩
    refine ⟨.inr entX, ?_⟩
    refine RH.one (i := 13) krX ?_
    refine RHone.eff rfl (Wanted.yes rfl rfl rfl rfl) (E.call rfl go19 rfl (sameT_ok (l := [D]) memX memX)) rfl ?_
    rintro _ _ ⟨rfl, rfl⟩
    refine ⟨.inr entX, ?_⟩
    refine RH.pure 14 rfl krX krX krX krX (Wanted.free rfl) (V.pick_true rfl rfl rfl) rfl ?_
    refine RH.val 15 rfl krX krX krX krX (Wanted.free rfl) (V.assign rfl rfl) rfl ?_
    refine RH.done krX ?_
    refine SG.seq ?_
    refine SG.region ?_
    refine RL.val (Wanted.free rfl) (V.move rfl rfl) rfl ?_
    refine RL.val (Wanted.free rfl) (V.move rfl rfl) rfl ?_
    refine RL.eff (Wanted.free rfl) (E.slice (lo := 1) (hi := 3) (l := [A, Z, C]) rfl el22.slice rfl memX ⟨_, _, rfl, (by first | rfl | omega)⟩ rfl (by decide) (by decide)) rfl ?_
    intro _ _ hK257
    try rw [List.drop_zero] at hK257
    iterate 2 (try rw [Nat.sub_zero] at hK257)
    simp only [List.drop_succ_cons, List.drop_zero, List.take_succ_cons, List.take_nil, Nat.reduceSub] at hK257
    obtain ⟨a257, rfl, rfl⟩ := hK257
    refine RL.eff (Wanted.free rfl) (E.call rfl go19 rfl (sameT_ok (l := [Z, C]) memX memX)) rfl ?_
    rintro _ _ ⟨rfl, rfl⟩
    refine RL.val (Wanted.free rfl) (V.move rfl rfl) rfl ?_
    refine RL.val (Wanted.yes rfl rfl rfl rfl) (V.move rfl rfl) rfl ?_
    refine RL.val (Wanted.yes rfl rfl rfl rfl) (V.move rfl rfl) rfl ?_
    refine RL.eff (Wanted.yes rfl rfl rfl rfl) (E.slice (lo := 2) (hi := 3) (l := [A, Z, C]) rfl el22.slice rfl memX ⟨_, _, rfl, (by first | rfl | omega)⟩ rfl (by decide) (by decide)) rfl ?_
    intro _ _ hK262
    try rw [List.drop_zero] at hK262
    iterate 2 (try rw [Nat.sub_zero] at hK262)
    simp only [List.drop_succ_cons, List.drop_zero, List.take_succ_cons, List.take_nil, Nat.reduceSub] at hK262
    obtain ⟨a262, rfl, rfl⟩ := hK262
    refine RL.eff (Wanted.yes rfl rfl rfl rfl) (E.call rfl go19 rfl (sameT_ok (l := [C]) memX memX)) rfl ?_
    rintro _ _ ⟨rfl, rfl⟩
    refine RL.val (Wanted.free rfl) (V.pick_true rfl rfl rfl) rfl ?_
    refine RL.val (Wanted.free rfl) (V.move rfl rfl) rfl ?_
    refine RL.val (Wanted.yes rfl rfl rfl rfl) (V.move rfl rfl) rfl ?_
    refine RL.val (Wanted.yes rfl rfl rfl rfl) (V.len rfl rfl el22.under rfl) rfl ?_
    refine RL.cmpT (Wanted.yes rfl rfl rfl rfl) (V.bin rfl rfl rfl B.eql) rfl rfl ?_
    refine RL.val (Wanted.free rfl) (V.pick_true rfl rfl rfl) rfl ?_
    refine RL.val (Wanted.free rfl) (V.assign rfl rfl) rfl ?_
    refine RL.nil ?_
    refine SG.seq ?_
    refine SG.drawL 40 40 wide rfl rfl ?_
    refine RH.val 0 rfl krX krX krX krX (Wanted.free rfl) (V.move rfl rfl) rfl ?_
    refine RH.val 1 rfl krX krX krX krX (Wanted.free rfl) (V.move rfl rfl) rfl ?_
    refine RH.val 2 rfl krX krX krX krX (Wanted.yes rfl rfl rfl rfl) (V.move rfl rfl) rfl ?_
    refine RH.pure 3 rfl krX krX krX krX (Wanted.free rfl) (V.pick_true rfl rfl rfl) rfl ?_
    refine RH.val 4 rfl krX krX krX krX (Wanted.free rfl) (V.move rfl rfl) rfl ?_
    refine RH.val 5 rfl krX krX krX krX (Wanted.yes rfl rfl rfl rfl) (V.move rfl rfl) rfl ?_
    refine RH.pure 6 rfl krX krX krX krX (Wanted.free rfl) (V.pick_true rfl rfl rfl) rfl ?_
    refine RH.val 7 rfl krX krX krX krX (Wanted.free rfl) (V.move rfl rfl) rfl ?_
    refine RH.val 8 rfl krX krX krX krX (Wanted.yes rfl rfl rfl rfl) (V.move rfl rfl) rfl ?_
    refine RH.val 10 rfl krX krX krX krX (Wanted.yes rfl rfl rfl rfl) (V.loadAgg (us := D.map v8) rfl ag25 rfl pickX (take8 hD) (by rw [List.length_map]; exact hD)) rfl ?_
    refine RH.val 11 rfl krX krX krX krX (Wanted.yes rfl rfl rfl rfl) (V.move rfl rfl) rfl ?_
    refine RH.val 12 rfl krX krX krX krX (Wanted.yes rfl rfl rfl rfl) (V.indexSl (j := 2) rfl el22.slice rfl rfl memX (by first | rfl | omega) (by simp)) rfl ?_
    refine RH.val 13 rfl krX krX krX krX (Wanted.yes rfl rfl rfl rfl) (V.loadSlDt (j := 2) rfl ag25 rfl memX rfl) rfl ?_
    refine RH.one (i := 9) krX ?_
    refine RHone.eff rfl (Wanted.yes rfl rfl rfl rfl) (E.call rfl go13 rfl (root3_ok hqD hqG memX (by unfold Tab; repeat (first | exact List.Mem.head _ | assumption | apply List.Mem.tail)))) rfl ?_
    rintro _ _ ⟨rfl, rfl⟩
    refine ⟨.inr entX, ?_⟩
    refine RH.one (i := 14) krX ?_
    refine RHone.eff rfl (Wanted.yes rfl rfl rfl rfl) (E.call rfl go47 rfl (node3_ok hqG hD hC (by unfold Tab; repeat (first | exact List.Mem.head _ | assumption | apply List.Mem.tail)))) rfl ?_
    rintro _ _ ⟨rfl, rfl⟩
    refine ⟨.inr entX, ?_⟩
    refine RH.cmpT 15 rfl krX krX krX krX (Wanted.yes rfl rfl rfl rfl) (V.eqlArr rfl ar25 on5 ui5 ce25 eg25 inj8 hG hG rfl rfl) rfl rfl ?_
    refine RH.pure 16 rfl krX krX krX krX (Wanted.free rfl) (V.pick_true rfl rfl rfl) rfl ?_
    refine RH.val 17 rfl krX krX krX krX (Wanted.free rfl) (V.move rfl rfl) rfl ?_
    refine RH.val 18 rfl krX krX krX krX (Wanted.yes rfl rfl rfl rfl) (V.fieldAddr rfl rfl fo39_0) rfl ?_
    refine RH.val 19 rfl krX krX krX krX (Wanted.yes rfl rfl rfl rfl) (V.load rfl on3 rfl pickX rfl) rfl ?_
    refine RH.cmpT 20 rfl krX krX krX krX (Wanted.yes rfl rfl rfl rfl) (V.bin rfl rfl rfl B.eql) rfl rfl ?_
    refine RH.pure 21 rfl krX krX krX krX (Wanted.free rfl) (V.pick_true rfl rfl rfl) rfl ?_
    refine RH.val 22 rfl krX krX krX krX (Wanted.free rfl) (V.move rfl rfl) rfl ?_
    refine RH.val 23 rfl krX krX krX krX (Wanted.yes rfl rfl rfl rfl) (V.fieldAddr rfl rfl fo39_1) rfl ?_
    refine RH.val 24 rfl krX krX krX krX (Wanted.yes rfl rfl rfl rfl) (V.load rfl on22 rfl pickX rfl) rfl ?_
    refine RH.val 25 rfl krX krX krX krX (Wanted.yes rfl rfl rfl rfl) (V.loadAgg (us := D.map v8) rfl ag25 rfl pickX (take8 hD) (by rw [List.length_map]; exact hD)) rfl ?_
    refine RH.val 26 rfl krX krX krX krX (Wanted.yes rfl rfl rfl rfl) (V.move rfl rfl) rfl ?_
    refine RH.val 27 rfl krX krX krX krX (Wanted.yes rfl rfl rfl rfl) (V.indexSl (j := 2) rfl el22.slice rfl rfl memX (by first | rfl | omega) (by simp)) rfl ?_
    refine RH.val 28 rfl krX krX krX krX (Wanted.yes rfl rfl rfl rfl) (V.loadSlDt (j := 2) rfl ag25 rfl memX rfl) rfl ?_
    refine RH.one (i := 29) krX ?_
    refine RHone.eff rfl (Wanted.yes rfl rfl rfl rfl) (E.litA2 D C rfl el22.slice ze25 (by simp) (by decide) (by decide) rfl hD rfl hC) rfl ?_
    rintro _ _ ⟨b160, rfl, rfl⟩
    refine ⟨.inr entX, ?_⟩
    refine RH.one (i := 30) krX ?_
    refine RHone.eff rfl (Wanted.yes rfl rfl rfl rfl) (E.call rfl go19 rfl (sameT_ok (l := [D, C]) memX memX)) rfl ?_
    rintro _ _ ⟨rfl, rfl⟩
    refine ⟨.inr entX, ?_⟩
    refine RH.pure 31 rfl krX krX krX krX (Wanted.free rfl) (V.pick_true rfl rfl rfl) rfl ?_
    refine RH.val 32 rfl krX krX krX krX (Wanted.free rfl) (V.move rfl rfl) rfl ?_
    refine RH.val 33 rfl krX krX krX krX (Wanted.yes rfl rfl rfl rfl) (V.loadAgg (us := _) rfl ag39 rfl pickX rfl rfl) rfl ?_
    refine RH.val 35 rfl krX krX krX krX (Wanted.yes rfl rfl rfl rfl) (V.move rfl rfl) rfl ?_
    refine RH.one (i := 34) krX ?_
    refine RHone.eff rfl (Wanted.yes rfl rfl rfl rfl) (E.call rfl go23 rfl (top2_ok hqG memX (by unfold Tab; repeat (first | exact List.Mem.head _ | assumption | apply List.Mem.tail)))) rfl ?_
    rintro _ _ ⟨rfl, rfl⟩
    refine ⟨.inr entX, ?_⟩
    refine RH.one (i := 36) krX ?_
    refine RHone.eff rfl (Wanted.yes rfl rfl rfl rfl) (E.call rfl go13 rfl (root3_ok hqD hqG memX (by unfold Tab; repeat (first | exact List.Mem.head _ | assumption | apply List.Mem.tail)))) rfl ?_
    rintro _ _ ⟨rfl, rfl⟩
    refine ⟨.inr entX, ?_⟩
    refine RH.cmpT 37 rfl krX krX krX krX (Wanted.yes rfl rfl rfl rfl) (V.eqlArr rfl ar25 on5 ui5 ce25 eg25 inj8 hG hG rfl rfl) rfl rfl ?_
    refine RH.pure 38 rfl krX krX krX krX (Wanted.free rfl) (V.pick_true rfl rfl rfl) rfl ?_
    refine RH.val 39 rfl krX krX krX krX (Wanted.free rfl) (V.assign rfl rfl) rfl ?_
    refine RH.done krX ?_
    refine SG.retE (Ret.r1 Tryd.func15 rfl (.tmp rfl)) ?_ ⟨rfl, rfl⟩
    exact entX
  ·
   refine RHone.eff rfl (Wanted.free rfl) (E.alloc rfl ze39) rfl ?_
   rintro _ _ ⟨b15, rfl, rfl⟩
   refine ⟨.inr entX, ?_⟩
   refine RH.one (i := 4) krX ?_
   refine RHone.eff rfl (Wanted.free rfl) (E.call rfl go24 rfl (app3_ok (n := 0) (f := []) (x := A) (l := [A]) rfl (j := 1) rfl (m0 _) ones_zero.symm (by decide) hA memX (by unfold Tab; repeat (first | exact List.Mem.head _ | assumption | apply List.Mem.tail)))) rfl ?_
   rintro _ _ ⟨a300, c300, rfl, rfl⟩
   refine ⟨.inr entX, ?_⟩
   refine RH.one (i := 8) krX ?_
   refine RHone.eff rfl (Wanted.free rfl) (E.call rfl go24 rfl (app3_ok (n := 1) (f := [A]) (x := Z) (l := [D]) rfl (j := 2) rfl (by rw [m1, hqD]) o1.symm (by decide) hZ memX (by unfold Tab; repeat (first | exact List.Mem.head _ | assumption | apply List.Mem.tail)))) rfl ?_
   rintro _ _ ⟨a301, c301, rfl, rfl⟩
   refine ⟨.inr entX, ?_⟩
   refine RH.one (i := 12) krX ?_
   refine RHone.eff rfl (Wanted.free rfl) (E.call rfl go24 rfl (app3_ok (n := 2) (f := [D]) (x := C) (l := [D, C]) rfl (j := 3) rfl (m2 _ _) o2.symm (by decide) hC memX (by unfold Tab; repeat (first | exact List.Mem.head _ | assumption | apply List.Mem.tail)))) rfl ?_
   rintro _ _ ⟨a302, c302, rfl, rfl⟩
   refine ⟨.inr entX, ?_⟩
   refine RH.one (i := 14) krX ?_
   refine RHone.eff rfl (Wanted.free rfl) (E.storeWhole rfl rfl rfl (by rfl) sz39 pickX (by first | (simp [Value.oneCell']; done) | (simp [setAt, Value.oneCell']; done)) (by rfl)) rfl ?_
   rintro _ _ rfl
   refine ⟨.inl krX, ?_⟩
   refine RH.done krX ?_
   refine SG.seq ?_
   refine SG.region ?_
   refine RL.val (Wanted.free rfl) (V.move rfl rfl) rfl ?_
   refine RL.cmpT (Wanted.free rfl) (V.bin rfl rfl rfl B.eql) rfl rfl ?_
   refine RL.val (Wanted.free rfl) (V.move rfl rfl) rfl ?_
   refine RL.val (Wanted.yes rfl rfl rfl rfl) (V.move rfl rfl) rfl ?_
   refine RL.cmpT (Wanted.yes rfl rfl rfl rfl) (V.bin rfl rfl rfl B.eql) rfl rfl ?_
   refine RL.val (Wanted.free rfl) (V.pick_true rfl rfl rfl) rfl ?_
   refine RL.val (Wanted.free rfl) (V.move rfl rfl) rfl ?_
   refine RL.val (Wanted.yes rfl rfl rfl rfl) (V.move rfl rfl) rfl ?_
   refine RL.cmpT (Wanted.yes rfl rfl rfl rfl) (V.bin rfl rfl rfl B.eql) rfl rfl ?_
   refine RL.val (Wanted.free rfl) (V.pick_true rfl rfl rfl) rfl ?_
   refine RL.val (Wanted.free rfl) (V.move rfl rfl) rfl ?_
   refine RL.val (Wanted.yes rfl rfl rfl rfl) (V.move rfl rfl) rfl ?_
   refine RL.cmpT (Wanted.yes rfl rfl rfl rfl) (V.bin rfl rfl rfl B.eql) rfl rfl ?_
   refine RL.val (Wanted.free rfl) (V.pick_true rfl rfl rfl) rfl ?_
   refine RL.val (Wanted.free rfl) (V.move rfl rfl) rfl ?_
   refine RL.val (Wanted.yes rfl rfl rfl rfl) (V.move rfl rfl) rfl ?_
   refine RL.cmpT (Wanted.yes rfl rfl rfl rfl) (V.bin rfl rfl rfl B.eql) rfl rfl ?_
   refine RL.val (Wanted.free rfl) (V.pick_true rfl rfl rfl) rfl ?_
   refine RL.val (Wanted.free rfl) (V.move rfl rfl) rfl ?_
   refine RL.val (Wanted.yes rfl rfl rfl rfl) (V.move rfl rfl) rfl ?_
   refine RL.cmpT (Wanted.yes rfl rfl rfl rfl) (V.bin rfl rfl rfl B.eql) rfl rfl ?_
   refine RL.val (Wanted.free rfl) (V.pick_true rfl rfl rfl) rfl ?_
   refine RL.val (Wanted.free rfl) (V.assign rfl rfl) rfl ?_
   refine RL.nil ?_
   refine SG.seq ?_
   refine SG.drawL 16 16 wide rfl rfl ?_
   refine RH.val 0 rfl krX krX krX krX (Wanted.free rfl) (V.move rfl rfl) rfl ?_
   refine RH.val 1 rfl krX krX krX krX (Wanted.free rfl) (V.move rfl rfl) rfl ?_
   refine RH.val 2 rfl krX krX krX krX (Wanted.free rfl) (V.indexSl (j := 0) rfl el22.slice rfl rfl memX (by first | rfl | omega) (by simp)) rfl ?_
   refine RH.val 3 rfl krX krX krX krX (Wanted.free rfl) (V.loadSlDt (j := 0) rfl ag25 rfl memX rfl) rfl ?_
   refine RH.val 4 rfl krX krX krX krX (Wanted.free rfl) (V.move rfl rfl) rfl ?_
   refine RH.val 5 rfl krX krX krX krX (Wanted.free rfl) (V.indexSl (j := 2) rfl el22.slice rfl rfl memX (by first | rfl | omega) (by simp)) rfl ?_
   refine RH.val 6 rfl krX krX krX krX (Wanted.free rfl) (V.loadSlDt (j := 2) rfl ag25 rfl memX rfl) rfl ?_
   refine RH.one (i := 7) krX ?_
   refine RHone.eff rfl (Wanted.free rfl) (E.litA2 A C rfl el22.slice ze25 (by simp) (by decide) (by decide) rfl hA rfl hC) rfl ?_
   rintro _ _ ⟨b108, rfl, rfl⟩
   refine ⟨.inr entX, ?_⟩
   refine RH.one (i := 8) krX ?_
   refine RHone.eff rfl (Wanted.free rfl) (E.call rfl go19 rfl (sameT_ok (l := [A, C]) memX memX)) rfl ?_
   rintro _ _ ⟨rfl, rfl⟩
   refine ⟨.inr entX, ?_⟩
   refine RH.val 9 rfl krX krX krX krX (Wanted.free rfl) (V.move rfl rfl) rfl ?_
   refine RH.val 10 rfl krX krX krX krX (Wanted.yes rfl rfl rfl rfl) (V.move rfl rfl) rfl ?_
   refine RH.val 11 rfl krX krX krX krX (Wanted.yes rfl rfl rfl rfl) (V.loadAgg (us := D.map v8) rfl ag25 rfl pickX (take8 hD) (by rw [List.length_map]; exact hD)) rfl ?_
   refine RH.one (i := 12) krX ?_
   refine RHone.eff rfl (Wanted.yes rfl rfl rfl rfl) (E.litA1 D rfl el22.slice ze25 (by simp) (by decide) (by decide) rfl hD) rfl ?_
   rintro _ _ ⟨b113, rfl, rfl⟩
   refine ⟨.inr entX, ?_⟩
   refine RH.one (i := 13) krX ?_
   refine RHone.eff rfl (Wanted.yes rfl rfl rfl rfl) (E.call rfl go19 rfl (sameT_ok (l := [D]) memX memX)) rfl ?_
   rintro _ _ ⟨rfl, rfl⟩
   refine ⟨.inr entX, ?_⟩
   refine RH.pure 14 rfl krX krX krX krX (Wanted.free rfl) (V.pick_true rfl rfl rfl) rfl ?_
   refine RH.val 15 rfl krX krX krX krX (Wanted.free rfl) (V.assign rfl rfl) rfl ?_
   refine RH.done krX ?_
   refine SG.seq ?_
   refine SG.region ?_
   refine RL.val (Wanted.free rfl) (V.move rfl rfl) rfl ?_
   refine RL.val (Wanted.free rfl) (V.move rfl rfl) rfl ?_
   refine RL.eff (Wanted.free rfl) (E.slice (lo := 1) (hi := 3) (l := [A, Z, C]) rfl el22.slice rfl memX ⟨_, _, rfl, (by first | rfl | omega)⟩ rfl (by decide) (by decide)) rfl ?_
   intro _ _ hK333
   try rw [List.drop_zero] at hK333
   iterate 2 (try rw [Nat.sub_zero] at hK333)
   simp only [List.drop_succ_cons, List.drop_zero, List.take_succ_cons, List.take_nil, Nat.reduceSub] at hK333
   obtain ⟨a333, rfl, rfl⟩ := hK333
   refine RL.eff (Wanted.free rfl) (E.call rfl go19 rfl (sameT_ok (l := [Z, C]) memX memX)) rfl ?_
   rintro _ _ ⟨rfl, rfl⟩
   refine RL.val (Wanted.free rfl) (V.move rfl rfl) rfl ?_
   refine RL.val (Wanted.yes rfl rfl rfl rfl) (V.move rfl rfl) rfl ?_
   refine RL.val (Wanted.yes rfl rfl rfl rfl) (V.move rfl rfl) rfl ?_
   refine RL.eff (Wanted.yes rfl rfl rfl rfl) (E.slice (lo := 2) (hi := 3) (l := [A, Z, C]) rfl el22.slice rfl memX ⟨_, _, rfl, (by first | rfl | omega)⟩ rfl (by decide) (by decide)) rfl ?_
   intro _ _ hK338
   try rw [List.drop_zero] at hK338
   iterate 2 (try rw [Nat.sub_zero] at hK338)
   simp only [List.drop_succ_cons, List.drop_zero, List.take_succ_cons, List.take_nil, Nat.reduceSub] at hK338
   obtain ⟨a338, rfl, rfl⟩ := hK338
   refine RL.eff (Wanted.yes rfl rfl rfl rfl) (E.call rfl go19 rfl (sameT_ok (l := [C]) memX memX)) rfl ?_
   rintro _ _ ⟨rfl, rfl⟩
   refine RL.val (Wanted.free rfl) (V.pick_true rfl rfl rfl) rfl ?_
   refine RL.val (Wanted.free rfl) (V.move rfl rfl) rfl ?_
   refine RL.val (Wanted.yes rfl rfl rfl rfl) (V.move rfl rfl) rfl ?_
   refine RL.val (Wanted.yes rfl rfl rfl rfl) (V.len rfl rfl el22.under rfl) rfl ?_
   refine RL.cmpT (Wanted.yes rfl rfl rfl rfl) (V.bin rfl rfl rfl B.eql) rfl rfl ?_
   refine RL.val (Wanted.free rfl) (V.pick_true rfl rfl rfl) rfl ?_
   refine RL.val (Wanted.free rfl) (V.assign rfl rfl) rfl ?_
   refine RL.nil ?_
   refine SG.seq ?_
   refine SG.drawL 40 40 wide rfl rfl ?_
   refine RH.val 0 rfl krX krX krX krX (Wanted.free rfl) (V.move rfl rfl) rfl ?_
   refine RH.val 1 rfl krX krX krX krX (Wanted.free rfl) (V.move rfl rfl) rfl ?_
   refine RH.val 2 rfl krX krX krX krX (Wanted.yes rfl rfl rfl rfl) (V.move rfl rfl) rfl ?_
   refine RH.pure 3 rfl krX krX krX krX (Wanted.free rfl) (V.pick_true rfl rfl rfl) rfl ?_
   refine RH.val 4 rfl krX krX krX krX (Wanted.free rfl) (V.move rfl rfl) rfl ?_
   refine RH.val 5 rfl krX krX krX krX (Wanted.yes rfl rfl rfl rfl) (V.move rfl rfl) rfl ?_
   refine RH.pure 6 rfl krX krX krX krX (Wanted.free rfl) (V.pick_true rfl rfl rfl) rfl ?_
   refine RH.val 7 rfl krX krX krX krX (Wanted.free rfl) (V.move rfl rfl) rfl ?_
   refine RH.val 8 rfl krX krX krX krX (Wanted.yes rfl rfl rfl rfl) (V.move rfl rfl) rfl ?_
   refine RH.val 10 rfl krX krX krX krX (Wanted.yes rfl rfl rfl rfl) (V.loadAgg (us := D.map v8) rfl ag25 rfl pickX (take8 hD) (by rw [List.length_map]; exact hD)) rfl ?_
   refine RH.val 11 rfl krX krX krX krX (Wanted.yes rfl rfl rfl rfl) (V.move rfl rfl) rfl ?_
   refine RH.val 12 rfl krX krX krX krX (Wanted.yes rfl rfl rfl rfl) (V.indexSl (j := 2) rfl el22.slice rfl rfl memX (by first | rfl | omega) (by simp)) rfl ?_
   refine RH.val 13 rfl krX krX krX krX (Wanted.yes rfl rfl rfl rfl) (V.loadSlDt (j := 2) rfl ag25 rfl memX rfl) rfl ?_
   refine RH.one (i := 9) krX ?_
   refine RHone.eff rfl (Wanted.yes rfl rfl rfl rfl) (E.call rfl go13 rfl (root3_ok hqD hqG memX (by unfold Tab; repeat (first | exact List.Mem.head _ | assumption | apply List.Mem.tail)))) rfl ?_
   rintro _ _ ⟨rfl, rfl⟩
   refine ⟨.inr entX, ?_⟩
   refine RH.one (i := 14) krX ?_
   refine RHone.eff rfl (Wanted.yes rfl rfl rfl rfl) (E.call rfl go47 rfl (node3_ok hqG hD hC (by unfold Tab; repeat (first | exact List.Mem.head _ | assumption | apply List.Mem.tail)))) rfl ?_
   rintro _ _ ⟨rfl, rfl⟩
   refine ⟨.inr entX, ?_⟩
   refine RH.cmpT 15 rfl krX krX krX krX (Wanted.yes rfl rfl rfl rfl) (V.eqlArr rfl ar25 on5 ui5 ce25 eg25 inj8 hG hG rfl rfl) rfl rfl ?_
   refine RH.pure 16 rfl krX krX krX krX (Wanted.free rfl) (V.pick_true rfl rfl rfl) rfl ?_
   refine RH.val 17 rfl krX krX krX krX (Wanted.free rfl) (V.move rfl rfl) rfl ?_
   refine RH.val 18 rfl krX krX krX krX (Wanted.yes rfl rfl rfl rfl) (V.fieldAddr rfl rfl fo39_0) rfl ?_
   refine RH.val 19 rfl krX krX krX krX (Wanted.yes rfl rfl rfl rfl) (V.load rfl on3 rfl pickX rfl) rfl ?_
   refine RH.cmpT 20 rfl krX krX krX krX (Wanted.yes rfl rfl rfl rfl) (V.bin rfl rfl rfl B.eql) rfl rfl ?_
   refine RH.pure 21 rfl krX krX krX krX (Wanted.free rfl) (V.pick_true rfl rfl rfl) rfl ?_
   refine RH.val 22 rfl krX krX krX krX (Wanted.free rfl) (V.move rfl rfl) rfl ?_
   refine RH.val 23 rfl krX krX krX krX (Wanted.yes rfl rfl rfl rfl) (V.fieldAddr rfl rfl fo39_1) rfl ?_
   refine RH.val 24 rfl krX krX krX krX (Wanted.yes rfl rfl rfl rfl) (V.load rfl on22 rfl pickX rfl) rfl ?_
   refine RH.val 25 rfl krX krX krX krX (Wanted.yes rfl rfl rfl rfl) (V.loadAgg (us := D.map v8) rfl ag25 rfl pickX (take8 hD) (by rw [List.length_map]; exact hD)) rfl ?_
   refine RH.val 26 rfl krX krX krX krX (Wanted.yes rfl rfl rfl rfl) (V.move rfl rfl) rfl ?_
   refine RH.val 27 rfl krX krX krX krX (Wanted.yes rfl rfl rfl rfl) (V.indexSl (j := 2) rfl el22.slice rfl rfl memX (by first | rfl | omega) (by simp)) rfl ?_
   refine RH.val 28 rfl krX krX krX krX (Wanted.yes rfl rfl rfl rfl) (V.loadSlDt (j := 2) rfl ag25 rfl memX rfl) rfl ?_
   refine RH.one (i := 29) krX ?_
   refine RHone.eff rfl (Wanted.yes rfl rfl rfl rfl) (E.litA2 D C rfl el22.slice ze25 (by simp) (by decide) (by decide) rfl hD rfl hC) rfl ?_
   rintro _ _ ⟨b160, rfl, rfl⟩
   refine ⟨.inr entX, ?_⟩
   refine RH.one (i := 30) krX ?_
   refine RHone.eff rfl (Wanted.yes rfl rfl rfl rfl) (E.call rfl go19 rfl (sameT_ok (l := [D, C]) memX memX)) rfl ?_
   rintro _ _ ⟨rfl, rfl⟩
   refine ⟨.inr entX, ?_⟩
   refine RH.pure 31 rfl krX krX krX krX (Wanted.free rfl) (V.pick_true rfl rfl rfl) rfl ?_
   refine RH.val 32 rfl krX krX krX krX (Wanted.free rfl) (V.move rfl rfl) rfl ?_
   refine RH.val 33 rfl krX krX krX krX (Wanted.yes rfl rfl rfl rfl) (V.loadAgg (us := _) rfl ag39 rfl pickX rfl rfl) rfl ?_
   refine RH.val 35 rfl krX krX krX krX (Wanted.yes rfl rfl rfl rfl) (V.move rfl rfl) rfl ?_
   refine RH.one (i := 34) krX ?_
   refine RHone.eff rfl (Wanted.yes rfl rfl rfl rfl) (E.call rfl go23 rfl (top2_ok hqG memX (by unfold Tab; repeat (first | exact List.Mem.head _ | assumption | apply List.Mem.tail)))) rfl ?_
   rintro _ _ ⟨rfl, rfl⟩
   refine ⟨.inr entX, ?_⟩
   refine RH.one (i := 36) krX ?_
   refine RHone.eff rfl (Wanted.yes rfl rfl rfl rfl) (E.call rfl go13 rfl (root3_ok hqD hqG memX (by unfold Tab; repeat (first | exact List.Mem.head _ | assumption | apply List.Mem.tail)))) rfl ?_
   rintro _ _ ⟨rfl, rfl⟩
   refine ⟨.inr entX, ?_⟩
   refine RH.cmpT 37 rfl krX krX krX krX (Wanted.yes rfl rfl rfl rfl) (V.eqlArr rfl ar25 on5 ui5 ce25 eg25 inj8 hG hG rfl rfl) rfl rfl ?_
   refine RH.pure 38 rfl krX krX krX krX (Wanted.free rfl) (V.pick_true rfl rfl rfl) rfl ?_
   refine RH.val 39 rfl krX krX krX krX (Wanted.free rfl) (V.assign rfl rfl) rfl ?_
   refine RH.done krX ?_
   refine SG.retE (Ret.r1 Tryd.func15 rfl (.tmp rfl)) ?_ ⟨rfl, rfl⟩
   exact entX
 ·
  refine RHone.eff rfl (Wanted.free rfl) (E.alloc rfl ze25) rfl ?_
  rintro _ _ ⟨b2, rfl, rfl⟩
  refine ⟨.inr entX, ?_⟩
  refine RH.one (i := 6) krX ?_
  refine RHone.eff rfl (Wanted.free rfl) (E.call rfl go47 rfl (node3_ok hqD hA hZ (by unfold Tab; repeat (first | exact List.Mem.head _ | assumption | apply List.Mem.tail)))) rfl ?_
  rintro _ _ ⟨rfl, rfl⟩
  refine ⟨.inr entX, ?_⟩
  refine RH.one (i := 8) krX ?_
  refine RHone.eff rfl (Wanted.free rfl) (E.storeWhole rfl rfl rfl (by rw [List.length_map]; exact hD) sz25 pickX (one8 _) (by rfl)) rfl ?_
  rintro _ _ rfl
  refine ⟨.inl krX, ?_⟩
  refine RH.done krX ?_
  refine SG.seq ?_
  refine SG.region ?_
  refine RL.val (Wanted.free rfl) (V.move rfl rfl) rfl ?_
  refine RL.eff (Wanted.free rfl) (E.call rfl go17 rfl (path3_ok (A := A) (B := Z) (C := C) (l := [A, C]) (e := 0) (p1 _ _ _) (by decide) (by unfold inInt; decide) memX (by unfold Tab; repeat (first | exact List.Mem.head _ | assumption | apply List.Mem.tail)))) rfl ?_
  rintro _ _ ⟨a379, c379, rfl, rfl⟩
  refine RL.val (Wanted.free rfl) (V.move rfl rfl) rfl ?_
  refine RL.val (Wanted.free rfl) (V.extract rfl rfl rfl) rfl ?_
  refine RL.val (Wanted.free rfl) (V.extract rfl rfl rfl) rfl ?_
  refine RL.val (Wanted.free rfl) (V.assign rfl rfl) rfl ?_
  refine RL.val (Wanted.free rfl) (V.assign rfl rfl) rfl ?_
  refine RL.nil ?_
  refine SG.seq ?_
  refine SG.region ?_
  refine RL.val (Wanted.free rfl) (V.move rfl rfl) rfl ?_
  refine RL.eff (Wanted.free rfl) (E.call rfl go17 rfl (path3_ok (A := A) (B := Z) (C := C) (l := [D]) (e := 0) (by rw [p2, hqD]) (by decide) (by unfold inInt; decide) memX (by unfold Tab; repeat (first | exact List.Mem.head _ | assumption | apply List.Mem.tail)))) rfl ?_
  rintro _ _ ⟨a386, c386, rfl, rfl⟩
  refine RL.val (Wanted.free rfl) (V.move rfl rfl) rfl ?_
  refine RL.val (Wanted.free rfl) (V.extract rfl rfl rfl) rfl ?_
  refine RL.val (Wanted.free rfl) (V.extract rfl rfl rfl) rfl ?_
  refine RL.val (Wanted.free rfl) (V.assign rfl rfl) rfl ?_
  refine RL.val (Wanted.free rfl) (V.assign rfl rfl) rfl ?_
  refine RL.nil ?_
  refine SG.seq ?_
  refine SG.region ?_
  refine RL.val (Wanted.free rfl) (V.move rfl rfl) rfl ?_
  refine RL.eff (Wanted.free rfl) (E.call rfl go20 rfl (grow3_ok (A := A) (B := Z) (C := C) (l := [Z, C]) (e := 0) (g1 _ _ _) (by decide) (by unfold inInt; decide) memX (by unfold Tab; repeat (first | exact List.Mem.head _ | assumption | apply List.Mem.tail)))) rfl ?_
  rintro _ _ ⟨a393, c393, rfl, rfl⟩
  refine RL.val (Wanted.free rfl) (V.move rfl rfl) rfl ?_
  refine RL.val (Wanted.free rfl) (V.extract rfl rfl rfl) rfl ?_
  refine RL.val (Wanted.free rfl) (V.extract rfl rfl rfl) rfl ?_
  refine RL.val (Wanted.free rfl) (V.assign rfl rfl) rfl ?_
  refine RL.val (Wanted.free rfl) (V.assign rfl rfl) rfl ?_
  refine RL.nil ?_
  refine SG.seq ?_
  refine SG.region ?_
  refine RL.val (Wanted.free rfl) (V.move rfl rfl) rfl ?_
  refine RL.eff (Wanted.free rfl) (E.call rfl go20 rfl (grow3_ok (A := A) (B := Z) (C := C) (l := [C]) (e := 0) (g2 _ _ _) (by decide) (by unfold inInt; decide) memX (by unfold Tab; repeat (first | exact List.Mem.head _ | assumption | apply List.Mem.tail)))) rfl ?_
  rintro _ _ ⟨a400, c400, rfl, rfl⟩
  refine RL.val (Wanted.free rfl) (V.move rfl rfl) rfl ?_
  refine RL.val (Wanted.free rfl) (V.extract rfl rfl rfl) rfl ?_
  refine RL.val (Wanted.free rfl) (V.extract rfl rfl rfl) rfl ?_
  refine RL.val (Wanted.free rfl) (V.assign rfl rfl) rfl ?_
  refine RL.val (Wanted.free rfl) (V.assign rfl rfl) rfl ?_
  refine RL.nil ?_
  refine SG.seq ?_
  refine SG.region ?_
  refine RL.val (Wanted.free rfl) (V.move rfl rfl) rfl ?_
  refine RL.eff (Wanted.free rfl) (E.call rfl go20 rfl (grow3_ok (A := A) (B := Z) (C := C) (l := []) (e := 0) (g3 _ _ _) (by decide) (by unfold inInt; decide) memX (by unfold Tab; repeat (first | exact List.Mem.head _ | assumption | apply List.Mem.tail)))) rfl ?_
  rintro _ _ ⟨a407, c407, rfl, rfl⟩
  refine RL.val (Wanted.free rfl) (V.move rfl rfl) rfl ?_
  refine RL.val (Wanted.free rfl) (V.extract rfl rfl rfl) rfl ?_
  refine RL.val (Wanted.free rfl) (V.extract rfl rfl rfl) rfl ?_
  refine RL.val (Wanted.free rfl) (V.assign rfl rfl) rfl ?_
  refine RL.val (Wanted.free rfl) (V.assign rfl rfl) rfl ?_
  refine RL.nil ?_
  refine SG.seq ?_
  refine SG.region ?_
  refine RL.val (Wanted.free rfl) (V.move rfl rfl) rfl ?_
  refine RL.eff (Wanted.free rfl) (E.call rfl go20 rfl (grow3_ok (A := A) (B := Z) (C := C) (l := []) (e := 5) (g4 _ _ _) (by decide) (by unfold inInt; decide) memX (by unfold Tab; repeat (first | exact List.Mem.head _ | assumption | apply List.Mem.tail)))) rfl ?_
  rintro _ _ ⟨a414, c414, rfl, rfl⟩
  refine RL.val (Wanted.free rfl) (V.move rfl rfl) rfl ?_
  refine RL.val (Wanted.free rfl) (V.extract rfl rfl rfl) rfl ?_
  refine RL.val (Wanted.free rfl) (V.extract rfl rfl rfl) rfl ?_
  refine RL.val (Wanted.free rfl) (V.assign rfl rfl) rfl ?_
  refine RL.val (Wanted.free rfl) (V.assign rfl rfl) rfl ?_
  refine RL.nil ?_
  refine SG.seq ?_
  refine SG.drawL 15 14 wide rfl rfl ?_
  refine RH.val 0 rfl krX krX krX krX (Wanted.free rfl) (V.buildS [] rfl bs39 (by exact trivial) rfl) rfl ?_
  refine RH.val 1 rfl krX krX krX krX (Wanted.free rfl) (V.move rfl rfl) rfl ?_
  refine RH.val 2 rfl krX krX krX krX (Wanted.free rfl) (V.indexSl (j := 0) rfl el22.slice rfl rfl memX (by first | rfl | omega) (by simp)) rfl ?_
  refine RH.val 3 rfl krX krX krX krX (Wanted.free rfl) (V.loadSlDt (j := 0) rfl ag25 rfl memX rfl) rfl ?_
  refine RH.val 5 rfl krX krX krX krX (Wanted.free rfl) (V.move rfl rfl) rfl ?_
  refine RH.val 6 rfl krX krX krX krX (Wanted.free rfl) (V.indexSl (j := 1) rfl el22.slice rfl rfl memX (by first | rfl | omega) (by simp)) rfl ?_
  refine RH.val 7 rfl krX krX krX krX (Wanted.free rfl) (V.loadSlDt (j := 1) rfl ag25 rfl memX rfl) rfl ?_
  refine RH.val 9 rfl krX krX krX krX (Wanted.free rfl) (V.move rfl rfl) rfl ?_
  refine RH.val 10 rfl krX krX krX krX (Wanted.free rfl) (V.indexSl (j := 2) rfl el22.slice rfl rfl memX (by first | rfl | omega) (by simp)) rfl ?_
  refine RH.val 11 rfl krX krX krX krX (Wanted.free rfl) (V.loadSlDt (j := 2) rfl ag25 rfl memX rfl) rfl ?_
  refine RH.two (i := 4) (j := 13) krX ?_ ?_
  ·
   refine RHone.eff rfl (Wanted.free rfl) (E.call rfl go24 rfl (app3_ok (n := 0) (f := []) (x := A) (l := [A]) rfl (j := 1) rfl (m0 _) ones_zero.symm (by decide) hA memX (by unfold Tab; repeat (first | exact List.Mem.head _ | assumption | apply List.Mem.tail)))) rfl ?_
   rintro _ _ ⟨a430, c430, rfl, rfl⟩
   refine ⟨.inr entX, ?_⟩
   refine RH.two (i := 8) (j := 13) krX ?_ ?_
   ·
    refine RHone.eff rfl (Wanted.free rfl) (E.call rfl go24 rfl (app3_ok (n := 1) (f := [A]) (x := Z) (l := [D]) rfl (j := 2) rfl (by rw [m1, hqD]) o1.symm (by decide) hZ memX (by unfold Tab; repeat (first | exact List.Mem.head _ | assumption | apply List.Mem.tail)))) rfl ?_
    rintro _ _ ⟨a431, c431, rfl, rfl⟩
    refine ⟨.inr entX, ?_⟩
    refine RH.two (i := 12) (j := 13) krX ?_ ?_
    ·
     refine RHone.eff rfl (Wanted.free rfl) (E.call rfl go24 rfl (app3_ok (n := 2) (f := [D]) (x := C) (l := [D, C]) rfl (j := 3) rfl (m2 _ _) o2.symm (by decide) hC memX (by unfold Tab; repeat (first | exact List.Mem.head _ | assumption | apply List.Mem.tail)))) rfl ?_
     rintro _ _ ⟨a432, c432, rfl, rfl⟩
     refine ⟨.inr entX, ?_⟩
     refine RH.one (i := 13) krX ?_
     refine RHone.eff rfl (Wanted.free rfl) (E.alloc rfl ze39) rfl ?_
     rintro _ _ ⟨b15, rfl, rfl⟩
     refine ⟨.inr entX, ?_⟩
     refine RH.one (i := 14) krX ?_
     refine RHone.eff rfl (Wanted.free rfl) (E.storeWhole rfl rfl rfl (by rfl) sz39 pickX (by first | (simp [Value.oneCell']; done) | (simp [setAt, Value.oneCell']; done)) (by rfl)) rfl ?_
     rintro _ _ rfl
     refine ⟨.inl krX, ?_⟩
     refine RH.done krX ?_
     refine SG.seq ?_
     refine SG.region ?_
     refine RL.val (Wanted.free rfl) (V.move rfl rfl) rfl ?_
     refine RL.cmpT (Wanted.free rfl) (V.bin rfl rfl rfl B.eql) rfl rfl ?_
     refine RL.val (Wanted.free rfl) (V.move rfl rfl) rfl ?_
     refine RL.val (Wanted.yes rfl rfl rfl rfl) (V.move rfl rfl) rfl ?_
     refine RL.cmpT (Wanted.yes rfl rfl rfl rfl) (V.bin rfl rfl rfl B.eql) rfl rfl ?_
     refine RL.val (Wanted.free rfl) (V.pick_true rfl rfl rfl) rfl ?_
     refine RL.val (Wanted.free rfl) (V.move rfl rfl) rfl ?_
     refine RL.val (Wanted.yes rfl rfl rfl rfl) (V.move rfl rfl) rfl ?_
     refine RL.cmpT (Wanted.yes rfl rfl rfl rfl) (V.bin rfl rfl rfl B.eql) rfl rfl ?_
     refine RL.val (Wanted.free rfl) (V.pick_true rfl rfl rfl) rfl ?_
     refine RL.val (Wanted.free rfl) (V.move rfl rfl) rfl ?_
     refine RL.val (Wanted.yes rfl rfl rfl rfl) (V.move rfl rfl) rfl ?_
     refine RL.cmpT (Wanted.yes rfl rfl rfl rfl) (V.bin rfl rfl rfl B.eql) rfl rfl ?_
     refine RL.val (Wanted.free rfl) (V.pick_true rfl rfl rfl) rfl ?_
     refine RL.val (Wanted.free rfl) (V.move rfl rfl) rfl ?_
     refine RL.val (Wanted.yes rfl rfl rfl rfl) (V.move rfl rfl) rfl ?_
     refine RL.cmpT (Wanted.yes rfl rfl rfl rfl) (V.bin rfl rfl rfl B.eql) rfl rfl ?_
     refine RL.val (Wanted.free rfl) (V.pick_true rfl rfl rfl) rfl ?_
     refine RL.val (Wanted.free rfl) (V.move rfl rfl) rfl ?_
     refine RL.val (Wanted.yes rfl rfl rfl rfl) (V.move rfl rfl) rfl ?_
     refine RL.cmpT (Wanted.yes rfl rfl rfl rfl) (V.bin rfl rfl rfl B.eql) rfl rfl ?_
     refine RL.val (Wanted.free rfl) (V.pick_true rfl rfl rfl) rfl ?_
     refine RL.val (Wanted.free rfl) (V.assign rfl rfl) rfl ?_
     refine RL.nil ?_
     refine SG.seq ?_
     refine SG.drawL 16 16 wide rfl rfl ?_
     refine RH.val 0 rfl krX krX krX krX (Wanted.free rfl) (V.move rfl rfl) rfl ?_
     refine RH.val 1 rfl krX krX krX krX (Wanted.free rfl) (V.move rfl rfl) rfl ?_
     refine RH.val 2 rfl krX krX krX krX (Wanted.free rfl) (V.indexSl (j := 0) rfl el22.slice rfl rfl memX (by first | rfl | omega) (by simp)) rfl ?_
     refine RH.val 3 rfl krX krX krX krX (Wanted.free rfl) (V.loadSlDt (j := 0) rfl ag25 rfl memX rfl) rfl ?_
     refine RH.val 4 rfl krX krX krX krX (Wanted.free rfl) (V.move rfl rfl) rfl ?_
     refine RH.val 5 rfl krX krX krX krX (Wanted.free rfl) (V.indexSl (j := 2) rfl el22.slice rfl rfl memX (by first | rfl | omega) (by simp)) rfl ?_
     refine RH.val 6 rfl krX krX krX krX (Wanted.free rfl) (V.loadSlDt (j := 2) rfl ag25 rfl memX rfl) rfl ?_
     refine RH.one (i := 7) krX ?_
     refine RHone.eff rfl (Wanted.free rfl) (E.litA2 A C rfl el22.slice ze25 (by simp) (by decide) (by decide) rfl hA rfl hC) rfl ?_
     rintro _ _ ⟨b108, rfl, rfl⟩
     refine ⟨.inr entX, ?_⟩
     refine RH.one (i := 8) krX ?_
     refine RHone.eff rfl (Wanted.free rfl) (E.call rfl go19 rfl (sameT_ok (l := [A, C]) memX memX)) rfl ?_
     rintro _ _ ⟨rfl, rfl⟩
     refine ⟨.inr entX, ?_⟩
     refine RH.val 9 rfl krX krX krX krX (Wanted.free rfl) (V.move rfl rfl) rfl ?_
     refine RH.val 10 rfl krX krX krX krX (Wanted.yes rfl rfl rfl rfl) (V.move rfl rfl) rfl ?_
     refine RH.val 11 rfl krX krX krX krX (Wanted.yes rfl rfl rfl rfl) (V.loadAgg (us := D.map v8) rfl ag25 rfl pickX (take8 hD) (by rw [List.length_map]; exact hD)) rfl ?_
     refine RH.one (i := 12) krX ?_
     refine RHone.eff rfl (Wanted.yes rfl rfl rfl rfl) (E.litA1 D rfl el22.slice ze25 (by simp) (by decide) (by decide) rfl hD) rfl ?_
     rintro _ _ ⟨b113, rfl, rfl⟩
     refine ⟨.inr entX, ?_⟩
     refine RH.one (i := 13) krX ?_
     refine RHone.eff rfl (Wanted.yes rfl rfl rfl rfl) (E.call rfl go19 rfl (sameT_ok (l := [D]) memX memX)) rfl ?_
     rintro _ _ ⟨rfl, rfl⟩
     refine ⟨.inr entX, ?_⟩
     refine RH.pure 14 rfl krX krX krX krX (Wanted.free rfl) (V.pick_true rfl rfl rfl) rfl ?_
     refine RH.val 15 rfl krX krX krX krX (Wanted.free rfl) (V.assign rfl rfl) rfl ?_
     refine RH.done krX ?_
     refine SG.seq ?_
     refine SG.region ?_
     refine RL.val (Wanted.free rfl) (V.move rfl rfl) rfl ?_
     refine RL.val (Wanted.free rfl) (V.move rfl rfl) rfl ?_
     refine RL.eff (Wanted.free rfl) (E.slice (lo := 1) (hi := 3) (l := [A, Z, C]) rfl el22.slice rfl memX ⟨_, _, rfl, (by first | rfl | omega)⟩ rfl (by decide) (by decide)) rfl ?_
     intro _ _ hK464
     try rw [List.drop_zero] at hK464
     iterate 2 (try rw [Nat.sub_zero] at hK464)
     simp only [List.drop_succ_cons, List.drop_zero, List.take_succ_cons, List.take_nil, Nat.reduceSub] at hK464
     obtain ⟨a464, rfl, rfl⟩ := hK464
     refine RL.eff (Wanted.free rfl) (E.call rfl go19 rfl (sameT_ok (l := [Z, C]) memX memX)) rfl ?_
     rintro _ _ ⟨rfl, rfl⟩
     refine RL.val (Wanted.free rfl) (V.move rfl rfl) rfl ?_
     refine RL.val (Wanted.yes rfl rfl rfl rfl) (V.move rfl rfl) rfl ?_
     refine RL.val (Wanted.yes rfl rfl rfl rfl) (V.move rfl rfl) rfl ?_
     refine RL.eff (Wanted.yes rfl rfl rfl rfl) (E.slice (lo := 2) (hi := 3) (l := [A, Z, C]) rfl el22.slice rfl memX ⟨_, _, rfl, (by first | rfl | omega)⟩ rfl (by decide) (by decide)) rfl ?_
     intro _ _ hK469
     try rw [List.drop_zero] at hK469
     iterate 2 (try rw [Nat.sub_zero] at hK469)
     simp only [List.drop_succ_cons, List.drop_zero, List.take_succ_cons, List.take_nil, Nat.reduceSub] at hK469
     obtain ⟨a469, rfl, rfl⟩ := hK469
     refine RL.eff (Wanted.yes rfl rfl rfl rfl) (E.call rfl go19 rfl (sameT_ok (l := [C]) memX memX)) rfl ?_
     rintro _ _ ⟨rfl, rfl⟩
     refine RL.val (Wanted.free rfl) (V.pick_true rfl rfl rfl) rfl ?_
     refine RL.val (Wanted.free rfl) (V.move rfl rfl) rfl ?_
     refine RL.val (Wanted.yes rfl rfl rfl rfl) (V.move rfl rfl) rfl ?_
     refine RL.val (Wanted.yes rfl rfl rfl rfl) (V.len rfl rfl el22.under rfl) rfl ?_
     refine RL.cmpT (Wanted.yes rfl rfl rfl rfl) (V.bin rfl rfl rfl B.eql) rfl rfl ?_
     refine RL.val (Wanted.free rfl) (V.pick_true rfl rfl rfl) rfl ?_
     refine RL.val (Wanted.free rfl) (V.assign rfl rfl) rfl ?_
     refine RL.nil ?_
     refine SG.seq ?_
     refine SG.drawL 40 40 wide rfl rfl ?_
     refine RH.val 0 rfl krX krX krX krX (Wanted.free rfl) (V.move rfl rfl) rfl ?_
     refine RH.val 1 rfl krX krX krX krX (Wanted.free rfl) (V.move rfl rfl) rfl ?_
     refine RH.val 2 rfl krX krX krX krX (Wanted.yes rfl rfl rfl rfl) (V.move rfl rfl) rfl ?_
     refine RH.pure 3 rfl krX krX krX krX (Wanted.free rfl) (V.pick_true rfl rfl rfl) rfl ?_
     refine RH.val 4 rfl krX krX krX krX (Wanted.free rfl) (V.move rfl rfl) rfl ?_
     refine RH.val 5 rfl krX krX krX krX (Wanted.yes rfl rfl rfl rfl) (V.move rfl rfl) rfl ?_
     refine RH.pure 6 rfl krX krX krX krX (Wanted.free rfl) (V.pick_true rfl rfl rfl) rfl ?_
     refine RH.val 7 rfl krX krX krX krX (Wanted.free rfl) (V.move rfl rfl) rfl ?_
     refine RH.val 8 rfl krX krX krX krX (Wanted.yes rfl rfl rfl rfl) (V.move rfl rfl) rfl ?_
     refine RH.val 10 rfl krX krX krX krX (Wanted.yes rfl rfl rfl rfl) (V.loadAgg (us := D.map v8) rfl ag25 rfl pickX (take8 hD) (by rw [List.length_map]; exact hD)) rfl ?_
     refine RH.val 11 rfl krX krX krX krX (Wanted.yes rfl rfl rfl rfl) (V.move rfl rfl) rfl ?_
     refine RH.val 12 rfl krX krX krX krX (Wanted.yes rfl rfl rfl rfl) (V.indexSl (j := 2) rfl el22.slice rfl rfl memX (by first | rfl | omega) (by simp)) rfl ?_
     refine RH.val 13 rfl krX krX krX krX (Wanted.yes rfl rfl rfl rfl) (V.loadSlDt (j := 2) rfl ag25 rfl memX rfl) rfl ?_
     refine RH.one (i := 9) krX ?_
     refine RHone.eff rfl (Wanted.yes rfl rfl rfl rfl) (E.call rfl go13 rfl (root3_ok hqD hqG memX (by unfold Tab; repeat (first | exact List.Mem.head _ | assumption | apply List.Mem.tail)))) rfl ?_
     rintro _ _ ⟨rfl, rfl⟩
     refine ⟨.inr entX, ?_⟩
     refine RH.one (i := 14) krX ?_
     refine RHone.eff rfl (Wanted.yes rfl rfl rfl rfl) (E.call rfl go47 rfl (node3_ok hqG hD hC (by unfold Tab; repeat (first | exact List.Mem.head _ | assumption | apply List.Mem.tail)))) rfl ?_
     rintro _ _ ⟨rfl, rfl⟩
     refine ⟨.inr entX, ?_⟩
     refine RH.cmpT 15 rfl krX krX krX krX (Wanted.yes rfl rfl rfl rfl) (V.eqlArr rfl ar25 on5 ui5 ce25 eg25 inj8 hG hG rfl rfl) rfl rfl ?_
     refine RH.pure 16 rfl krX krX krX krX (Wanted.free rfl) (V.pick_true rfl rfl rfl) rfl ?_
     refine RH.val 17 rfl krX krX krX krX (Wanted.free rfl) (V.move rfl rfl) rfl ?_
     refine RH.val 18 rfl krX krX krX krX (Wanted.yes rfl rfl rfl rfl) (V.fieldAddr rfl rfl fo39_0) rfl ?_
     refine RH.val 19 rfl krX krX krX krX (Wanted.yes rfl rfl rfl rfl) (V.load rfl on3 rfl pickX rfl) rfl ?_
     refine RH.cmpT 20 rfl krX krX krX krX (Wanted.yes rfl rfl rfl rfl) (V.bin rfl rfl rfl B.eql) rfl rfl ?_
     refine RH.pure 21 rfl krX krX krX krX (Wanted.free rfl) (V.pick_true rfl rfl rfl) rfl ?_
     refine RH.val 22 rfl krX krX krX krX (Wanted.free rfl) (V.move rfl rfl) rfl ?_
     refine RH.val 23 rfl krX krX krX krX (Wanted.yes rfl rfl rfl rfl) (V.fieldAddr rfl rfl fo39_1) rfl ?_
     refine RH.val 24 rfl krX krX krX krX (Wanted.yes rfl rfl rfl rfl) (V.load rfl on22 rfl pickX rfl) rfl ?_
     refine RH.val 25 rfl krX krX krX krX (Wanted.yes rfl rfl rfl rfl) (V.loadAgg (us := D.map v8) rfl ag25 rfl pickX (take8 hD) (by rw [List.length_map]; exact hD)) rfl ?_
     refine RH.val 26 rfl krX krX krX krX (Wanted.yes rfl rfl rfl rfl) (V.move rfl rfl) rfl ?_
     refine RH.val 27 rfl krX krX krX krX (Wanted.yes rfl rfl rfl rfl) (V.indexSl (j := 2) rfl el22.slice rfl rfl memX (by first | rfl | omega) (by simp)) rfl ?_
     refine RH.val 28 rfl krX krX krX krX (Wanted.yes rfl rfl rfl rfl) (V.loadSlDt (j := 2) rfl ag25 rfl memX rfl) rfl ?_
     refine RH.one (i := 29) krX ?_
     refine RHone.eff rfl (Wanted.yes rfl rfl rfl rfl) (E.litA2 D C rfl el22.slice ze25 (by simp) (by decide) (by decide) rfl hD rfl hC) rfl ?_
     rintro _ _ ⟨b160, rfl, rfl⟩
     refine ⟨.inr entX, ?_⟩
     refine RH.one (i := 30) krX ?_
     refine RHone.eff rfl (Wanted.yes rfl rfl rfl rfl) (E.call rfl go19 rfl (sameT_ok (l := [D, C]) memX memX)) rfl ?_
     rintro _ _ ⟨rfl, rfl⟩
     refine ⟨.inr entX, ?_⟩
     refine RH.pure 31 rfl krX krX krX krX (Wanted.free rfl) (V.pick_true rfl rfl rfl) rfl ?_
     refine RH.val 32 rfl krX krX krX krX (Wanted.free rfl) (V.move rfl rfl) rfl ?_
     refine RH.val 33 rfl krX krX krX krX (Wanted.yes rfl rfl rfl rfl) (V.loadAgg (us := _) rfl ag39 rfl pickX rfl rfl) rfl ?_
     refine RH.val 35 rfl krX krX krX krX (Wanted.yes rfl rfl rfl rfl) (V.move rfl rfl) rfl ?_
     refine RH.one (i := 34) krX ?_
     refine RHone.eff rfl (Wanted.yes rfl rfl rfl rfl) (E.call rfl go23 rfl (top2_ok hqG memX (by unfold Tab; repeat (first | exact List.Mem.head _ | assumption | apply List.Mem.tail)))) rfl ?_
     rintro _ _ ⟨rfl, rfl⟩
     refine ⟨.inr entX, ?_⟩
     refine RH.one (i := 36) krX ?_
     refine RHone.eff rfl (Wanted.yes rfl rfl rfl rfl) (E.call rfl go13 rfl (root3_ok hqD hqG memX (by unfold Tab; repeat (first | exact List.Mem.head _ | assumption | apply List.Mem.tail)))) rfl ?_
     rintro _ _ ⟨rfl, rfl⟩
     refine ⟨.inr entX, ?_⟩
     refine RH.cmpT 37 rfl krX krX krX krX (Wanted.yes rfl rfl rfl rfl) (V.eqlArr rfl ar25 on5 ui5 ce25 eg25 inj8 hG hG rfl rfl) rfl rfl ?_
     refine RH.pure 38 rfl krX krX krX krX (Wanted.free rfl) (V.pick_true rfl rfl rfl) rfl ?_
     refine RH.val 39 rfl krX krX krX krX (Wanted.free rfl) (V.assign rfl rfl) rfl ?_
     refine RH.done krX ?_
     refine SG.retE (Ret.r1 Tryd.func15 rfl (.tmp rfl)) ?_ ⟨rfl, rfl⟩
     exact entX
    ·
     refine RHone.eff rfl (Wanted.free rfl) (E.alloc rfl ze39) rfl ?_
     rintro _ _ ⟨b15, rfl, rfl⟩
     refine ⟨.inr entX, ?_⟩
     refine RH.one (i := 12) krX ?_
     refine RHone.eff rfl (Wanted.free rfl) (E.call rfl go24 rfl (app3_ok (n := 2) (f := [D]) (x := C) (l := [D, C]) rfl (j := 3) rfl (m2 _ _) o2.symm (by decide) hC memX (by unfold Tab; repeat (first | exact List.Mem.head _ | assumption | apply List.Mem.tail)))) rfl ?_
     rintro _ _ ⟨a507, c507, rfl, rfl⟩
     refine ⟨.inr entX, ?_⟩
     refine RH.one (i := 14) krX ?_
     refine RHone.eff rfl (Wanted.free rfl) (E.storeWhole rfl rfl rfl (by rfl) sz39 pickX (by first | (simp [Value.oneCell']; done) | (simp [setAt, Value.oneCell']; done)) (by rfl)) rfl ?_
     rintro _ _ rfl
     refine ⟨.inl krX, ?_⟩
     refine RH.done krX ?_
     refine SG.seq ?_
     refine SG.region ?_
     refine RL.val (Wanted.free rfl) (V.move rfl rfl) rfl ?_
     refine RL.cmpT (Wanted.free rfl) (V.bin rfl rfl rfl B.eql) rfl rfl ?_
     refine RL.val (Wanted.free rfl) (V.move rfl rfl) rfl ?_
     refine RL.val (Wanted.yes rfl rfl rfl rfl) (V.move rfl rfl) rfl ?_
     refine RL.cmpT (Wanted.yes rfl rfl rfl rfl) (V.bin rfl rfl rfl B.eql) rfl rfl ?_
     refine RL.val (Wanted.free rfl) (V.pick_true rfl rfl rfl) rfl ?_
     refine RL.val (Wanted.free rfl) (V.move rfl rfl) rfl ?_
     refine RL.val (Wanted.yes rfl rfl rfl rfl) (V.move rfl rfl) rfl ?_
     refine RL.cmpT (Wanted.yes rfl rfl rfl rfl) (V.bin rfl rfl rfl B.eql) rfl rfl ?_
     refine RL.val (Wanted.free rfl) (V.pick_true rfl rfl rfl) rfl ?_
     refine RL.val (Wanted.free rfl) (V.move rfl rfl) rfl ?_
     refine RL.val (Wanted.yes rfl rfl rfl rfl) (V.move rfl rfl) rfl ?_
     refine RL.cmpT (Wanted.yes rfl rfl rfl rfl) (V.bin rfl rfl rfl B.eql) rfl rfl ?_
     refine RL.val (Wanted.free rfl) (V.pick_true rfl rfl rfl) rfl ?_
     refine RL.val (Wanted.free rfl) (V.move rfl rfl) rfl ?_
     refine RL.val (Wanted.yes rfl rfl rfl rfl) (V.move rfl rfl) rfl ?_
     refine RL.cmpT (Wanted.yes rfl rfl rfl rfl) (V.bin rfl rfl rfl B.eql) rfl rfl ?_
     refine RL.val (Wanted.free rfl) (V.pick_true rfl rfl rfl) rfl ?_
     refine RL.val (Wanted.free rfl) (V.move rfl rfl) rfl ?_
     refine RL.val (Wanted.yes rfl rfl rfl rfl) (V.move rfl rfl) rfl ?_
     refine RL.cmpT (Wanted.yes rfl rfl rfl rfl) (V.bin rfl rfl rfl B.eql) rfl rfl ?_
     refine RL.val (Wanted.free rfl) (V.pick_true rfl rfl rfl) rfl ?_
     refine RL.val (Wanted.free rfl) (V.assign rfl rfl) rfl ?_
     refine RL.nil ?_
     refine SG.seq ?_
     refine SG.drawL 16 16 wide rfl rfl ?_
     refine RH.val 0 rfl krX krX krX krX (Wanted.free rfl) (V.move rfl rfl) rfl ?_
     refine RH.val 1 rfl krX krX krX krX (Wanted.free rfl) (V.move rfl rfl) rfl ?_
     refine RH.val 2 rfl krX krX krX krX (Wanted.free rfl) (V.indexSl (j := 0) rfl el22.slice rfl rfl memX (by first | rfl | omega) (by simp)) rfl ?_
     refine RH.val 3 rfl krX krX krX krX (Wanted.free rfl) (V.loadSlDt (j := 0) rfl ag25 rfl memX rfl) rfl ?_
     refine RH.val 4 rfl krX krX krX krX (Wanted.free rfl) (V.move rfl rfl) rfl ?_
     refine RH.val 5 rfl krX krX krX krX (Wanted.free rfl) (V.indexSl (j := 2) rfl el22.slice rfl rfl memX (by first | rfl | omega) (by simp)) rfl ?_
     refine RH.val 6 rfl krX krX krX krX (Wanted.free rfl) (V.loadSlDt (j := 2) rfl ag25 rfl memX rfl) rfl ?_
     refine RH.one (i := 7) krX ?_
     refine RHone.eff rfl (Wanted.free rfl) (E.litA2 A C rfl el22.slice ze25 (by simp) (by decide) (by decide) rfl hA rfl hC) rfl ?_
     rintro _ _ ⟨b108, rfl, rfl⟩
     refine ⟨.inr entX, ?_⟩
     refine RH.one (i := 8) krX ?_
     refine RHone.eff rfl (Wanted.free rfl) (E.call rfl go19 rfl (sameT_ok (l := [A, C]) memX memX)) rfl ?_
     rintro _ _ ⟨rfl, rfl⟩
     refine ⟨.inr entX, ?_⟩
     refine RH.val 9 rfl krX krX krX krX (Wanted.free rfl) (V.move rfl rfl) rfl ?_
     refine RH.val 10 rfl krX krX krX krX (Wanted.yes rfl rfl rfl rfl) (V.move rfl rfl) rfl ?_
     refine RH.val 11 rfl krX krX krX krX (Wanted.yes rfl rfl rfl rfl) (V.loadAgg (us := D.map v8) rfl ag25 rfl pickX (take8 hD) (by rw [List.length_map]; exact hD)) rfl ?_
     refine RH.one (i := 12) krX ?_
     refine RHone.eff rfl (Wanted.yes rfl rfl rfl rfl) (E.litA1 D rfl el22.slice ze25 (by simp) (by decide) (by decide) rfl hD) rfl ?_
     rintro _ _ ⟨b113, rfl, rfl⟩
     refine ⟨.inr entX, ?_⟩
     refine RH.one (i := 13) krX ?_
     refine RHone.eff rfl (Wanted.yes rfl rfl rfl rfl) (E.call rfl go19 rfl (sameT_ok (l := [D]) memX memX)) rfl ?_
     rintro _ _ ⟨rfl, rfl⟩
     refine ⟨.inr entX, ?_⟩
     refine RH.pure 14 rfl krX krX krX krX (Wanted.free rfl) (V.pick_true rfl rfl rfl) rfl ?_
     refine RH.val 15 rfl krX krX krX krX (Wanted.free rfl) (V.assign rfl rfl) rfl ?_
     refine RH.done krX ?_
     refine SG.seq ?_
     refine SG.region ?_
     refine RL.val (Wanted.free rfl) (V.move rfl rfl) rfl ?_
     refine RL.val (Wanted.free rfl) (V.move rfl rfl) rfl ?_
     refine RL.eff (Wanted.free rfl) (E.slice (lo := 1) (hi := 3) (l := [A, Z, C]) rfl el22.slice rfl memX ⟨_, _, rfl, (by first | rfl | omega)⟩ rfl (by decide) (by decide)) rfl ?_
     intro _ _ hK538
     try rw [List.drop_zero] at hK538
     iterate 2 (try rw [Nat.sub_zero] at hK538)
     simp only [List.drop_succ_cons, List.drop_zero, List.take_succ_cons, List.take_nil, Nat.reduceSub] at hK538
     obtain ⟨a538, rfl, rfl⟩ := hK538
     refine RL.eff (Wanted.free rfl) (E.call rfl go19 rfl (sameT_ok (l := [Z, C]) memX memX)) rfl ?_
     rintro _ _ ⟨rfl, rfl⟩
     refine RL.val (Wanted.free rfl) (V.move rfl rfl) rfl ?_
     refine RL.val (Wanted.yes rfl rfl rfl rfl) (V.move rfl rfl) rfl ?_
     refine RL.val (Wanted.yes rfl rfl rfl rfl) (V.move rfl rfl) rfl ?_
     refine RL.eff (Wanted.yes rfl rfl rfl rfl) (E.slice (lo := 2) (hi := 3) (l := [A, Z, C]) rfl el22.slice rfl memX ⟨_, _, rfl, (by first | rfl | omega)⟩ rfl (by decide) (by decide)) rfl ?_
     intro _ _ hK543
     try rw [List.drop_zero] at hK543
     iterate 2 (try rw [Nat.sub_zero] at hK543)
     simp only [List.drop_succ_cons, List.drop_zero, List.take_succ_cons, List.take_nil, Nat.reduceSub] at hK543
     obtain ⟨a543, rfl, rfl⟩ := hK543
     refine RL.eff (Wanted.yes rfl rfl rfl rfl) (E.call rfl go19 rfl (sameT_ok (l := [C]) memX memX)) rfl ?_
     rintro _ _ ⟨rfl, rfl⟩
     refine RL.val (Wanted.free rfl) (V.pick_true rfl rfl rfl) rfl ?_
     refine RL.val (Wanted.free rfl) (V.move rfl rfl) rfl ?_
     refine RL.val (Wanted.yes rfl rfl rfl rfl) (V.move rfl rfl) rfl ?_
     refine RL.val (Wanted.yes rfl rfl rfl rfl) (V.len rfl rfl el22.under rfl) rfl ?_
     refine RL.cmpT (Wanted.yes rfl rfl rfl rfl) (V.bin rfl rfl rfl B.eql) rfl rfl ?_
     refine RL.val (Wanted.free rfl) (V.pick_true rfl rfl rfl) rfl ?_
     refine RL.val (Wanted.free rfl) (V.assign rfl rfl) rfl ?_
     refine RL.nil ?_
     refine SG.seq ?_
     refine SG.drawL 40 40 wide rfl rfl ?_
     refine RH.val 0 rfl krX krX krX krX (Wanted.free rfl) (V.move rfl rfl) rfl ?_
     refine RH.val 1 rfl krX krX krX krX (Wanted.free rfl) (V.move rfl rfl) rfl ?_
     refine RH.val 2 rfl krX krX krX krX (Wanted.yes rfl rfl rfl rfl) (V.move rfl rfl) rfl ?_
     refine RH.pure 3 rfl krX krX krX krX (Wanted.free rfl) (V.pick_true rfl rfl rfl) rfl ?_
     refine RH.val 4 rfl krX krX krX krX (Wanted.free rfl) (V.move rfl rfl) rfl ?_
     refine RH.val 5 rfl krX krX krX krX (Wanted.yes rfl rfl rfl rfl) (V.move rfl rfl) rfl ?_
     refine RH.pure 6 rfl krX krX krX krX (Wanted.free rfl) (V.pick_true rfl rfl rfl) rfl ?_
     refine RH.val 7 rfl krX krX krX krX (Wanted.free rfl) (V.move rfl rfl) rfl ?_
     refine RH.val 8 rfl krX krX krX krX (Wanted.yes rfl rfl rfl rfl) (V.move rfl rfl) rfl ?_
     refine RH.val 10 rfl krX krX krX krX (Wanted.yes rfl rfl rfl rfl) (V.loadAgg (us := D.map v8) rfl ag25 rfl pickX (take8 hD) (by rw [List.length_map]; exact hD)) rfl ?_
     refine RH.val 11 rfl krX krX krX krX (Wanted.yes rfl rfl rfl rfl) (V.move rfl rfl) rfl ?_
     refine RH.val 12 rfl krX krX krX krX (Wanted.yes rfl rfl rfl rfl) (V.indexSl (j := 2) rfl el22.slice rfl rfl memX (by first | rfl | omega) (by simp)) rfl ?_
     refine RH.val 13 rfl krX krX krX krX (Wanted.yes rfl rfl rfl rfl) (V.loadSlDt (j := 2) rfl ag25 rfl memX rfl) rfl ?_
     refine RH.one (i := 9) krX ?_
     refine RHone.eff rfl (Wanted.yes rfl rfl rfl rfl) (E.call rfl go13 rfl (root3_ok hqD hqG memX (by unfold Tab; repeat (first | exact List.Mem.head _ | assumption | apply List.Mem.tail)))) rfl ?_
     rintro _ _ ⟨rfl, rfl⟩
     refine ⟨.inr entX, ?_⟩
     refine RH.one (i := 14) krX ?_
     refine RHone.eff rfl (Wanted.yes rfl rfl rfl rfl) (E.call rfl go47 rfl (node3_ok hqG hD hC (by unfold Tab; repeat (first | exact List.Mem.head _ | assumption | apply List.Mem.tail)))) rfl ?_
     rintro _ _ ⟨rfl, rfl⟩
     refine ⟨.inr entX, ?_⟩
     refine RH.cmpT 15 rfl krX krX krX krX (Wanted.yes rfl rfl rfl rfl) (V.eqlArr rfl ar25 on5 ui5 ce25 eg25 inj8 hG hG rfl rfl) rfl rfl ?_
     refine RH.pure 16 rfl krX krX krX krX (Wanted.free rfl) (V.pick_true rfl rfl rfl) rfl ?_
     refine RH.val 17 rfl krX krX krX krX (Wanted.free rfl) (V.move rfl rfl) rfl ?_
     refine RH.val 18 rfl krX krX krX krX (Wanted.yes rfl rfl rfl rfl) (V.fieldAddr rfl rfl fo39_0) rfl ?_
     refine RH.val 19 rfl krX krX krX krX (Wanted.yes rfl rfl rfl rfl) (V.load rfl on3 rfl pickX rfl) rfl ?_
     refine RH.cmpT 20 rfl krX krX krX krX (Wanted.yes rfl rfl rfl rfl) (V.bin rfl rfl rfl B.eql) rfl rfl ?_
     refine RH.pure 21 rfl krX krX krX krX (Wanted.free rfl) (V.pick_true rfl rfl rfl) rfl ?_
     refine RH.val 22 rfl krX krX krX krX (Wanted.free rfl) (V.move rfl rfl) rfl ?_
     refine RH.val 23 rfl krX krX krX krX (Wanted.yes rfl rfl rfl rfl) (V.fieldAddr rfl rfl fo39_1) rfl ?_
     refine RH.val 24 rfl krX krX krX krX (Wanted.yes rfl rfl rfl rfl) (V.load rfl on22 rfl pickX rfl) rfl ?_
     refine RH.val 25 rfl krX krX krX krX (Wanted.yes rfl rfl rfl rfl) (V.loadAgg (us := D.map v8) rfl ag25 rfl pickX (take8 hD) (by rw [List.length_map]; exact hD)) rfl ?_
     refine RH.val 26 rfl krX krX krX krX (Wanted.yes rfl rfl rfl rfl) (V.move rfl rfl) rfl ?_
     refine RH.val 27 rfl krX krX krX krX (Wanted.yes rfl rfl rfl rfl) (V.indexSl (j := 2) rfl el22.slice rfl rfl memX (by first | rfl | omega) (by simp)) rfl ?_
     refine RH.val 28 rfl krX krX krX krX (Wanted.yes rfl rfl rfl rfl) (V.loadSlDt (j := 2) rfl ag25 rfl memX rfl) rfl ?_
     refine RH.one (i := 29) krX ?_
     refine RHone.eff rfl (Wanted.yes rfl rfl rfl rfl) (E.litA2 D C rfl el22.slice ze25 (by simp) (by decide) (by decide) rfl hD rfl hC) rfl ?_
     rintro _ _ ⟨b160, rfl, rfl⟩
     refine ⟨.inr entX, ?_⟩
     refine RH.one (i := 30) krX ?_
     refine RHone.eff rfl (Wanted.yes rfl rfl rfl rfl) (E.call rfl go19 rfl (sameT_ok (l := [D, C]) memX memX)) rfl ?_
     rintro _ _ ⟨rfl, rfl⟩
     refine ⟨.inr entX, ?_⟩
     refine RH.pure 31 rfl krX krX krX krX (Wanted.free rfl) (V.pick_true rfl rfl rfl) rfl ?_
     refine RH.val 32 rfl krX krX krX krX (Wanted.free rfl) (V.move rfl rfl) rfl ?_
     refine RH.val 33 rfl krX krX krX krX (Wanted.yes rfl rfl rfl rfl) (V.loadAgg (us := _) rfl ag39 rfl pickX rfl rfl) rfl ?_
     refine RH.val 35 rfl krX krX krX krX (Wanted.yes rfl rfl rfl rfl) (V.move rfl rfl) rfl ?_
     refine RH.one (i := 34) krX ?_
     refine RHone.eff rfl (Wanted.yes rfl rfl rfl rfl) (E.call rfl go23 rfl (top2_ok hqG memX (by unfold Tab; repeat (first | exact List.Mem.head _ | assumption | apply List.Mem.tail)))) rfl ?_
     rintro _ _ ⟨rfl, rfl⟩
     refine ⟨.inr entX, ?_⟩
     refine RH.one (i := 36) krX ?_
     refine RHone.eff rfl (Wanted.yes rfl rfl rfl rfl) (E.call rfl go13 rfl (root3_ok hqD hqG memX (by unfold Tab; repeat (first | exact List.Mem.head _ | assumption | apply List.Mem.tail)))) rfl ?_
     rintro _ _ ⟨rfl, rfl⟩
     refine ⟨.inr entX, ?_⟩
     refine RH.cmpT 37 rfl krX krX krX krX (Wanted.yes rfl rfl rfl rfl) (V.eqlArr rfl ar25 on5 ui5 ce25 eg25 inj8 hG hG rfl rfl) rfl rfl ?_
     refine RH.pure 38 rfl krX krX krX krX (Wanted.free rfl) (V.pick_true rfl rfl rfl) rfl ?_
     refine RH.val 39 rfl krX krX krX krX (Wanted.free rfl) (V.assign rfl rfl) rfl ?_
     refine RH.done krX ?_
     refine SG.retE (Ret.r1 Tryd.func15 rfl (.tmp rfl)) ?_ ⟨rfl, rfl⟩
     exact entX
   ·
    refine RHone.eff rfl (Wanted.free rfl) (E.alloc rfl ze39) rfl ?_
    rintro _ _ ⟨b15, rfl, rfl⟩
    refine ⟨.inr entX, ?_⟩
    refine RH.one (i := 8) krX ?_
    refine RHone.eff rfl (Wanted.free rfl) (E.call rfl go24 rfl (app3_ok (n := 1) (f := [A]) (x := Z) (l := [D]) rfl (j := 2) rfl (by rw [m1, hqD]) o1.symm (by decide) hZ memX (by unfold Tab; repeat (first | exact List.Mem.head _ | assumption | apply List.Mem.tail)))) rfl ?_
    rintro _ _ ⟨a581, c581, rfl, rfl⟩
    refine ⟨.inr entX, ?_⟩
    refine RH.one (i := 12) krX ?_
    refine RHone.eff rfl (Wanted.free rfl) (E.call rfl go24 rfl (app3_ok (n := 2) (f := [D]) (x := C) (l := [D, C]) rfl (j := 3) rfl (m2 _ _) o2.symm (by decide) hC memX (by unfold Tab; repeat (first | exact List.Mem.head _ | assumption | apply List.Mem.tail)))) rfl ?_
    rintro _ _ ⟨a582, c582, rfl, rfl⟩
    refine ⟨.inr entX, ?_⟩
    refine RH.one (i := 14) krX ?_
    refine RHone.eff rfl (Wanted.free rfl) (E.storeWhole rfl rfl rfl (by rfl) sz39 pickX (by first | (simp [Value.oneCell']; done) | (simp [setAt, Value.oneCell']; done)) (by rfl)) rfl ?_
    rintro _ _ rfl
    refine ⟨.inl krX, ?_⟩
    refine RH.done krX ?_
    refine SG.seq ?_
    refine SG.region ?_
    refine RL.val (Wanted.free rfl) (V.move rfl rfl) rfl ?_
    refine RL.cmpT (Wanted.free rfl) (V.bin rfl rfl rfl B.eql) rfl rfl ?_
    refine RL.val (Wanted.free rfl) (V.move rfl rfl) rfl ?_
    refine RL.val (Wanted.yes rfl rfl rfl rfl) (V.move rfl rfl) rfl ?_
    refine RL.cmpT (Wanted.yes rfl rfl rfl rfl) (V.bin rfl rfl rfl B.eql) rfl rfl ?_
    refine RL.val (Wanted.free rfl) (V.pick_true rfl rfl rfl) rfl ?_
    refine RL.val (Wanted.free rfl) (V.move rfl rfl) rfl ?_
    refine RL.val (Wanted.yes rfl rfl rfl rfl) (V.move rfl rfl) rfl ?_
    refine RL.cmpT (Wanted.yes rfl rfl rfl rfl) (V.bin rfl rfl rfl B.eql) rfl rfl ?_
    refine RL.val (Wanted.free rfl) (V.pick_true rfl rfl rfl) rfl ?_
    refine RL.val (Wanted.free rfl) (V.move rfl rfl) rfl ?_
    refine RL.val (Wanted.yes rfl rfl rfl rfl) (V.move rfl rfl) rfl ?_
    refine RL.cmpT (Wanted.yes rfl rfl rfl rfl) (V.bin rfl rfl rfl B.eql) rfl rfl ?_
    refine RL.val (Wanted.free rfl) (V.pick_true rfl rfl rfl) rfl ?_
    refine RL.val (Wanted.free rfl) (V.move rfl rfl) rfl ?_
    refine RL.val (Wanted.yes rfl rfl rfl rfl) (V.move rfl rfl) rfl ?_
    refine RL.cmpT (Wanted.yes rfl rfl rfl rfl) (V.bin rfl rfl rfl B.eql) rfl rfl ?_
    refine RL.val (Wanted.free rfl) (V.pick_true rfl rfl rfl) rfl ?_
    refine RL.val (Wanted.free rfl) (V.move rfl rfl) rfl ?_
    refine RL.val (Wanted.yes rfl rfl rfl rfl) (V.move rfl rfl) rfl ?_
    refine RL.cmpT (Wanted.yes rfl rfl rfl rfl) (V.bin rfl rfl rfl B.eql) rfl rfl ?_
    refine RL.val (Wanted.free rfl) (V.pick_true rfl rfl rfl) rfl ?_
    refine RL.val (Wanted.free rfl) (V.assign rfl rfl) rfl ?_
    refine RL.nil ?_
    refine SG.seq ?_
    refine SG.drawL 16 16 wide rfl rfl ?_
    refine RH.val 0 rfl krX krX krX krX (Wanted.free rfl) (V.move rfl rfl) rfl ?_
    refine RH.val 1 rfl krX krX krX krX (Wanted.free rfl) (V.move rfl rfl) rfl ?_
    refine RH.val 2 rfl krX krX krX krX (Wanted.free rfl) (V.indexSl (j := 0) rfl el22.slice rfl rfl memX (by first | rfl | omega) (by simp)) rfl ?_
    refine RH.val 3 rfl krX krX krX krX (Wanted.free rfl) (V.loadSlDt (j := 0) rfl ag25 rfl memX rfl) rfl ?_
    refine RH.val 4 rfl krX krX krX krX (Wanted.free rfl) (V.move rfl rfl) rfl ?_
    refine RH.val 5 rfl krX krX krX krX (Wanted.free rfl) (V.indexSl (j := 2) rfl el22.slice rfl rfl memX (by first | rfl | omega) (by simp)) rfl ?_
    refine RH.val 6 rfl krX krX krX krX (Wanted.free rfl) (V.loadSlDt (j := 2) rfl ag25 rfl memX rfl) rfl ?_
    refine RH.one (i := 7) krX ?_
    refine RHone.eff rfl (Wanted.free rfl) (E.litA2 A C rfl el22.slice ze25 (by simp) (by decide) (by decide) rfl hA rfl hC) rfl ?_
    rintro _ _ ⟨b108, rfl, rfl⟩
    refine ⟨.inr entX, ?_⟩
    refine RH.one (i := 8) krX ?_
    refine RHone.eff rfl (Wanted.free rfl) (E.call rfl go19 rfl (sameT_ok (l := [A, C]) memX memX)) rfl ?_
    rintro _ _ ⟨rfl, rfl⟩
    refine ⟨.inr entX, ?_⟩
    refine RH.val 9 rfl krX krX krX krX (Wanted.free rfl) (V.move rfl rfl) rfl ?_
    refine RH.val 10 rfl krX krX krX krX (Wanted.yes rfl rfl rfl rfl) (V.move rfl rfl) rfl ?_
    refine RH.val 11 rfl krX krX krX krX (Wanted.yes rfl rfl rfl rfl) (V.loadAgg (us := D.map v8) rfl ag25 rfl pickX (take8 hD) (by rw [List.length_map]; exact hD)) rfl ?_
    refine RH.one (i := 12) krX ?_
    refine RHone.eff rfl (Wanted.yes rfl rfl rfl rfl) (E.litA1 D rfl el22.slice ze25 (by simp) (by decide) (by decide) rfl hD) rfl ?_
    rintro _ _ ⟨b113, rfl, rfl⟩
    refine ⟨.inr entX, ?_⟩
    refine RH.one (i := 13) krX ?_
    refine RHone.eff rfl (Wanted.yes rfl rfl rfl rfl) (E.call rfl go19 rfl (sameT_ok (l := [D]) memX memX)) rfl ?_
    rintro _ _ ⟨rfl, rfl⟩
    refine ⟨.inr entX, ?_⟩
    refine RH.pure 14 rfl krX krX krX krX (Wanted.free rfl) (V.pick_true rfl rfl rfl) rfl ?_
    refine RH.val 15 rfl krX krX krX krX (Wanted.free rfl) (V.assign rfl rfl) rfl ?_
    refine RH.done krX ?_
    refine SG.seq ?_
    refine SG.region ?_
    refine RL.val (Wanted.free rfl) (V.move rfl rfl) rfl ?_
    refine RL.val (Wanted.free rfl) (V.move rfl rfl) rfl ?_
    refine RL.eff (Wanted.free rfl) (E.slice (lo := 1) (hi := 3) (l := [A, Z, C]) rfl el22.slice rfl memX ⟨_, _, rfl, (by first | rfl | omega)⟩ rfl (by decide) (by decide)) rfl ?_
    intro _ _ hK613
    try rw [List.drop_zero] at hK613
    iterate 2 (try rw [Nat.sub_zero] at hK613)
    simp only [List.drop_succ_cons, List.drop_zero, List.take_succ_cons, List.take_nil, Nat.reduceSub] at hK613
    obtain ⟨a613, rfl, rfl⟩ := hK613
    refine RL.eff (Wanted.free rfl) (E.call rfl go19 rfl (sameT_ok (l := [Z, C]) memX memX)) rfl ?_
    rintro _ _ ⟨rfl, rfl⟩
    refine RL.val (Wanted.free rfl) (V.move rfl rfl) rfl ?_
    refine RL.val (Wanted.yes rfl rfl rfl rfl) (V.move rfl rfl) rfl ?_
    refine RL.val (Wanted.yes rfl rfl rfl rfl) (V.move rfl rfl) rfl ?_
    refine RL.eff (Wanted.yes rfl rfl rfl rfl) (E.slice (lo := 2) (hi := 3) (l := [A, Z, C]) rfl el22.slice rfl memX ⟨_, _, rfl, (by first | rfl | omega)⟩ rfl (by decide) (by decide)) rfl ?_
    intro _ _ hK618
    try rw [List.drop_zero] at hK618
    iterate 2 (try rw [Nat.sub_zero] at hK618)
    simp only [List.drop_succ_cons, List.drop_zero, List.take_succ_cons, List.take_nil, Nat.reduceSub] at hK618
    obtain ⟨a618, rfl, rfl⟩ := hK618
    refine RL.eff (Wanted.yes rfl rfl rfl rfl) (E.call rfl go19 rfl (sameT_ok (l := [C]) memX memX)) rfl ?_
    rintro _ _ ⟨rfl, rfl⟩
    refine RL.val (Wanted.free rfl) (V.pick_true rfl rfl rfl) rfl ?_
    refine RL.val (Wanted.free rfl) (V.move rfl rfl) rfl ?_
    refine RL.val (Wanted.yes rfl rfl rfl rfl) (V.move rfl rfl) rfl ?_
    refine RL.val (Wanted.yes rfl rfl rfl rfl) (V.len rfl rfl el22.under rfl) rfl ?_
    refine RL.cmpT (Wanted.yes rfl rfl rfl rfl) (V.bin rfl rfl rfl B.eql) rfl rfl ?_
    refine RL.val (Wanted.free rfl) (V.pick_true rfl rfl rfl) rfl ?_
    refine RL.val (Wanted.free rfl) (V.assign rfl rfl) rfl ?_
    refine RL.nil ?_
    refine SG.seq ?_
    refine SG.drawL 40 40 wide rfl rfl ?_
    refine RH.val 0 rfl krX krX krX krX (Wanted.free rfl) (V.move rfl rfl) rfl ?_
    refine RH.val 1 rfl krX krX krX krX (Wanted.free rfl) (V.move rfl rfl) rfl ?_
    refine RH.val 2 rfl krX krX krX krX (Wanted.yes rfl rfl rfl rfl) (V.move rfl rfl) rfl ?_
    refine RH.pure 3 rfl krX krX krX krX (Wanted.free rfl) (V.pick_true rfl rfl rfl) rfl ?_
    refine RH.val 4 rfl krX krX krX krX (Wanted.free rfl) (V.move rfl rfl) rfl ?_
    refine RH.val 5 rfl krX krX krX krX (Wanted.yes rfl rfl rfl rfl) (V.move rfl rfl) rfl ?_
    refine RH.pure 6 rfl krX krX krX krX (Wanted.free rfl) (V.pick_true rfl rfl rfl) rfl ?_
    refine RH.val 7 rfl krX krX krX krX (Wanted.free rfl) (V.move rfl rfl) rfl ?_
    refine RH.val 8 rfl krX krX krX krX (Wanted.yes rfl rfl rfl rfl) (V.move rfl rfl) rfl ?_
    refine RH.val 10 rfl krX krX krX krX (Wanted.yes rfl rfl rfl rfl) (V.loadAgg (us := D.map v8) rfl ag25 rfl pickX (take8 hD) (by rw [List.length_map]; exact hD)) rfl ?_
    refine RH.val 11 rfl krX krX krX krX (Wanted.yes rfl rfl rfl rfl) (V.move rfl rfl) rfl ?_
    refine RH.val 12 rfl krX krX krX krX (Wanted.yes rfl rfl rfl rfl) (V.indexSl (j := 2) rfl el22.slice rfl rfl memX (by first | rfl | omega) (by simp)) rfl ?_
    refine RH.val 13 rfl krX krX krX krX (Wanted.yes rfl rfl rfl rfl) (V.loadSlDt (j := 2) rfl ag25 rfl memX rfl) rfl ?_
    refine RH.one (i := 9) krX ?_
    refine RHone.eff rfl (Wanted.yes rfl rfl rfl rfl) (E.call rfl go13 rfl (root3_ok hqD hqG memX (by unfold Tab; repeat (first | exact List.Mem.head _ | assumption | apply List.Mem.tail)))) rfl ?_
    rintro _ _ ⟨rfl, rfl⟩
    refine ⟨.inr entX, ?_⟩
    refine RH.one (i := 14) krX ?_
    refine RHone.eff rfl (Wanted.yes rfl rfl rfl rfl) (E.call rfl go47 rfl (node3_ok hqG hD hC (by unfold Tab; repeat (first | exact List.Mem.head _ | assumption | apply List.Mem.tail)))) rfl ?_
    rintro _ _ ⟨rfl, rfl⟩
    refine ⟨.inr entX, ?_⟩
    refine RH.cmpT 15 rfl krX krX krX krX (Wanted.yes rfl rfl rfl rfl) (V.eqlArr rfl ar25 on5 ui5 ce25 eg25 inj8 hG hG rfl rfl) rfl rfl ?_
    refine RH.pure 16 rfl krX krX krX krX (Wanted.free rfl) (V.pick_true rfl rfl rfl) rfl ?_
    refine RH.val 17 rfl krX krX krX krX (Wanted.free rfl) (V.move rfl rfl) rfl ?_
    refine RH.val 18 rfl krX krX krX krX (Wanted.yes rfl rfl rfl rfl) (V.fieldAddr rfl rfl fo39_0) rfl ?_
    refine RH.val 19 rfl krX krX krX krX (Wanted.yes rfl rfl rfl rfl) (V.load rfl on3 rfl pickX rfl) rfl ?_
    refine RH.cmpT 20 rfl krX krX krX krX (Wanted.yes rfl rfl rfl rfl) (V.bin rfl rfl rfl B.eql) rfl rfl ?_
    refine RH.pure 21 rfl krX krX krX krX (Wanted.free rfl) (V.pick_true rfl rfl rfl) rfl ?_
    refine RH.val 22 rfl krX krX krX krX (Wanted.free rfl) (V.move rfl rfl) rfl ?_
    refine RH.val 23 rfl krX krX krX krX (Wanted.yes rfl rfl rfl rfl) (V.fieldAddr rfl rfl fo39_1) rfl ?_
    refine RH.val 24 rfl krX krX krX krX (Wanted.yes rfl rfl rfl rfl) (V.load rfl on22 rfl pickX rfl) rfl ?_
    refine RH.val 25 rfl krX krX krX krX (Wanted.yes rfl rfl rfl rfl) (V.loadAgg (us := D.map v8) rfl ag25 rfl pickX (take8 hD) (by rw [List.length_map]; exact hD)) rfl ?_
    refine RH.val 26 rfl krX krX krX krX (Wanted.yes rfl rfl rfl rfl) (V.move rfl rfl) rfl ?_
    refine RH.val 27 rfl krX krX krX krX (Wanted.yes rfl rfl rfl rfl) (V.indexSl (j := 2) rfl el22.slice rfl rfl memX (by first | rfl | omega) (by simp)) rfl ?_
    refine RH.val 28 rfl krX krX krX krX (Wanted.yes rfl rfl rfl rfl) (V.loadSlDt (j := 2) rfl ag25 rfl memX rfl) rfl ?_
    refine RH.one (i := 29) krX ?_
    refine RHone.eff rfl (Wanted.yes rfl rfl rfl rfl) (E.litA2 D C rfl el22.slice ze25 (by simp) (by decide) (by decide) rfl hD rfl hC) rfl ?_
    rintro _ _ ⟨b160, rfl, rfl⟩
    refine ⟨.inr entX, ?_⟩
    refine RH.one (i := 30) krX ?_
    refine RHone.eff rfl (Wanted.yes rfl rfl rfl rfl) (E.call rfl go19 rfl (sameT_ok (l := [D, C]) memX memX)) rfl ?_
    rintro _ _ ⟨rfl, rfl⟩
    refine ⟨.inr entX, ?_⟩
    refine RH.pure 31 rfl krX krX krX krX (Wanted.free rfl) (V.pick_true rfl rfl rfl) rfl ?_
    refine RH.val 32 rfl krX krX krX krX (Wanted.free rfl) (V.move rfl rfl) rfl ?_
    refine RH.val 33 rfl krX krX krX krX (Wanted.yes rfl rfl rfl rfl) (V.loadAgg (us := _) rfl ag39 rfl pickX rfl rfl) rfl ?_
    refine RH.val 35 rfl krX krX krX krX (Wanted.yes rfl rfl rfl rfl) (V.move rfl rfl) rfl ?_
    refine RH.one (i := 34) krX ?_
    refine RHone.eff rfl (Wanted.yes rfl rfl rfl rfl) (E.call rfl go23 rfl (top2_ok hqG memX (by unfold Tab; repeat (first | exact List.Mem.head _ | assumption | apply List.Mem.tail)))) rfl ?_
    rintro _ _ ⟨rfl, rfl⟩
    refine ⟨.inr entX, ?_⟩
    refine RH.one (i := 36) krX ?_
    refine RHone.eff rfl (Wanted.yes rfl rfl rfl rfl) (E.call rfl go13 rfl (root3_ok hqD hqG memX (by unfold Tab; repeat (first | exact List.Mem.head _ | assumption | apply List.Mem.tail)))) rfl ?_
    rintro _ _ ⟨rfl, rfl⟩
    refine ⟨.inr entX, ?_⟩
    refine RH.cmpT 37 rfl krX krX krX krX (Wanted.yes rfl rfl rfl rfl) (V.eqlArr rfl ar25 on5 ui5 ce25 eg25 inj8 hG hG rfl rfl) rfl rfl ?_
    refine RH.pure 38 rfl krX krX krX krX (Wanted.free rfl) (V.pick_true rfl rfl rfl) rfl ?_
    refine RH.val 39 rfl krX krX krX krX (Wanted.free rfl) (V.assign rfl rfl) rfl ?_
    refine RH.done krX ?_
    refine SG.retE (Ret.r1 Tryd.func15 rfl (.tmp rfl)) ?_ ⟨rfl, rfl⟩
    exact entX
  ·
   refine RHone.eff rfl (Wanted.free rfl) (E.alloc rfl ze39) rfl ?_
   rintro _ _ ⟨b15, rfl, rfl⟩
   refine ⟨.inr entX, ?_⟩
   refine RH.one (i := 4) krX ?_
   refine RHone.eff rfl (Wanted.free rfl) (E.call rfl go24 rfl (app3_ok (n := 0) (f := []) (x := A) (l := [A]) rfl (j := 1) rfl (m0 _) ones_zero.symm (by decide) hA memX (by unfold Tab; repeat (first | exact List.Mem.head _ | assumption | apply List.Mem.tail)))) rfl ?_
   rintro _ _ ⟨a656, c656, rfl, rfl⟩
   refine ⟨.inr entX, ?_⟩
   refine RH.one (i := 8) krX ?_
   refine RHone.eff rfl (Wanted.free rfl) (E.call rfl go24 rfl (app3_ok (n := 1) (f := [A]) (x := Z) (l := [D]) rfl (j := 2) rfl (by rw [m1, hqD]) o1.symm (by decide) hZ memX (by unfold Tab; repeat (first | exact List.Mem.head _ | assumption | apply List.Mem.tail)))) rfl ?_
   rintro _ _ ⟨a657, c657, rfl, rfl⟩
   refine ⟨.inr entX, ?_⟩
   refine RH.one (i := 12) krX ?_
   refine RHone.eff rfl (Wanted.free rfl) (E.call rfl go24 rfl (app3_ok (n := 2) (f := [D]) (x := C) (l := [D, C]) rfl (j := 3) rfl (m2 _ _) o2.symm (by decide) hC memX (by unfold Tab; repeat (first | exact List.Mem.head _ | assumption | apply List.Mem.tail)))) rfl ?_
   rintro _ _ ⟨a658, c658, rfl, rfl⟩
   refine ⟨.inr entX, ?_⟩
   refine RH.one (i := 14) krX ?_
   refine RHone.eff rfl (Wanted.free rfl) (E.storeWhole rfl rfl rfl (by rfl) sz39 pickX (by first | (simp [Value.oneCell']; done) | (simp [setAt, Value.oneCell']; done)) (by rfl)) rfl ?_
   rintro _ _ rfl
   refine ⟨.inl krX, ?_⟩
   refine RH.done krX ?_
   refine SG.seq ?_
   refine SG.region ?_
   refine RL.val (Wanted.free rfl) (V.move rfl rfl) rfl ?_
   refine RL.cmpT (Wanted.free rfl) (V.bin rfl rfl rfl B.eql) rfl rfl ?_
   refine RL.val (Wanted.free rfl) (V.move rfl rfl) rfl ?_
   refine RL.val (Wanted.yes rfl rfl rfl rfl) (V.move rfl rfl) rfl ?_
   refine RL.cmpT (Wanted.yes rfl rfl rfl rfl) (V.bin rfl rfl rfl B.eql) rfl rfl ?_
   refine RL.val (Wanted.free rfl) (V.pick_true rfl rfl rfl) rfl ?_
   refine RL.val (Wanted.free rfl) (V.move rfl rfl) rfl ?_
   refine RL.val (Wanted.yes rfl rfl rfl rfl) (V.move rfl rfl) rfl ?_
   refine RL.cmpT (Wanted.yes rfl rfl rfl rfl) (V.bin rfl rfl rfl B.eql) rfl rfl ?_
   refine RL.val (Wanted.free rfl) (V.pick_true rfl rfl rfl) rfl ?_
   refine RL.val (Wanted.free rfl) (V.move rfl rfl) rfl ?_
   refine RL.val (Wanted.yes rfl rfl rfl rfl) (V.move rfl rfl) rfl ?_
   refine RL.cmpT (Wanted.yes rfl rfl rfl rfl) (V.bin rfl rfl rfl B.eql) rfl rfl ?_
   refine RL.val (Wanted.free rfl) (V.pick_true rfl rfl rfl) rfl ?_
   refine RL.val (Wanted.free rfl) (V.move rfl rfl) rfl ?_
   refine RL.val (Wanted.yes rfl rfl rfl rfl) (V.move rfl rfl) rfl ?_
   refine RL.cmpT (Wanted.yes rfl rfl rfl rfl) (V.bin rfl rfl rfl B.eql) rfl rfl ?_
   refine RL.val (Wanted.free rfl) (V.pick_true rfl rfl rfl) rfl ?_
   refine RL.val (Wanted.free rfl) (V.move rfl rfl) rfl ?_
   refine RL.val (Wanted.yes rfl rfl rfl rfl) (V.move rfl rfl) rfl ?_
   refine RL.cmpT (Wanted.yes rfl rfl rfl rfl) (V.bin rfl rfl rfl B.eql) rfl rfl ?_
   refine RL.val (Wanted.free rfl) (V.pick_true rfl rfl rfl) rfl ?_
   refine RL.val (Wanted.free rfl) (V.assign rfl rfl) rfl ?_
   refine RL.nil ?_
   refine SG.seq ?_
   refine SG.drawL 16 16 wide rfl rfl ?_
   refine RH.val 0 rfl krX krX krX krX (Wanted.free rfl) (V.move rfl rfl) rfl ?_
   refine RH.val 1 rfl krX krX krX krX (Wanted.free rfl) (V.move rfl rfl) rfl ?_
   refine RH.val 2 rfl krX krX krX krX (Wanted.free rfl) (V.indexSl (j := 0) rfl el22.slice rfl rfl memX (by first | rfl | omega) (by simp)) rfl ?_
   refine RH.val 3 rfl krX krX krX krX (Wanted.free rfl) (V.loadSlDt (j := 0) rfl ag25 rfl memX rfl) rfl ?_
   refine RH.val 4 rfl krX krX krX krX (Wanted.free rfl) (V.move rfl rfl) rfl ?_
   refine RH.val 5 rfl krX krX krX krX (Wanted.free rfl) (V.indexSl (j := 2) rfl el22.slice rfl rfl memX (by first | rfl | omega) (by simp)) rfl ?_
   refine RH.val 6 rfl krX krX krX krX (Wanted.free rfl) (V.loadSlDt (j := 2) rfl ag25 rfl memX rfl) rfl ?_
   refine RH.one (i := 7) krX ?_
   refine RHone.eff rfl (Wanted.free rfl) (E.litA2 A C rfl el22.slice ze25 (by simp) (by decide) (by decide) rfl hA rfl hC) rfl ?_
   rintro _ _ ⟨b108, rfl, rfl⟩
   refine ⟨.inr entX, ?_⟩
   refine RH.one (i := 8) krX ?_
   refine RHone.eff rfl (Wanted.free rfl) (E.call rfl go19 rfl (sameT_ok (l := [A, C]) memX memX)) rfl ?_
   rintro _ _ ⟨rfl, rfl⟩
   refine ⟨.inr entX, ?_⟩
   refine RH.val 9 rfl krX krX krX krX (Wanted.free rfl) (V.move rfl rfl) rfl ?_
   refine RH.val 10 rfl krX krX krX krX (Wanted.yes rfl rfl rfl rfl) (V.move rfl rfl) rfl ?_
   refine RH.val 11 rfl krX krX krX krX (Wanted.yes rfl rfl rfl rfl) (V.loadAgg (us := D.map v8) rfl ag25 rfl pickX (take8 hD) (by rw [List.length_map]; exact hD)) rfl ?_
   refine RH.one (i := 12) krX ?_
   refine RHone.eff rfl (Wanted.yes rfl rfl rfl rfl) (E.litA1 D rfl el22.slice ze25 (by simp) (by decide) (by decide) rfl hD) rfl ?_
   rintro _ _ ⟨b113, rfl, rfl⟩
   refine ⟨.inr entX, ?_⟩
   refine RH.one (i := 13) krX ?_
   refine RHone.eff rfl (Wanted.yes rfl rfl rfl rfl) (E.call rfl go19 rfl (sameT_ok (l := [D]) memX memX)) rfl ?_
   rintro _ _ ⟨rfl, rfl⟩
   refine ⟨.inr entX, ?_⟩
   refine RH.pure 14 rfl krX krX krX krX (Wanted.free rfl) (V.pick_true rfl rfl rfl) rfl ?_
   refine RH.val 15 rfl krX krX krX krX (Wanted.free rfl) (V.assign rfl rfl) rfl ?_
   refine RH.done krX ?_
   refine SG.seq ?_
   refine SG.region ?_
   refine RL.val (Wanted.free rfl) (V.move rfl rfl) rfl ?_
   refine RL.val (Wanted.free rfl) (V.move rfl rfl) rfl ?_
   refine RL.eff (Wanted.free rfl) (E.slice (lo := 1) (hi := 3) (l := [A, Z, C]) rfl el22.slice rfl memX ⟨_, _, rfl, (by first | rfl | omega)⟩ rfl (by decide) (by decide)) rfl ?_
   intro _ _ hK689
   try rw [List.drop_zero] at hK689
   iterate 2 (try rw [Nat.sub_zero] at hK689)
   simp only [List.drop_succ_cons, List.drop_zero, List.take_succ_cons, List.take_nil, Nat.reduceSub] at hK689
   obtain ⟨a689, rfl, rfl⟩ := hK689
   refine RL.eff (Wanted.free rfl) (E.call rfl go19 rfl (sameT_ok (l := [Z, C]) memX memX)) rfl ?_
   rintro _ _ ⟨rfl, rfl⟩
   refine RL.val (Wanted.free rfl) (V.move rfl rfl) rfl ?_
   refine RL.val (Wanted.yes rfl rfl rfl rfl) (V.move rfl rfl) rfl ?_
   refine RL.val (Wanted.yes rfl rfl rfl rfl) (V.move rfl rfl) rfl ?_
   refine RL.eff (Wanted.yes rfl rfl rfl rfl) (E.slice (lo := 2) (hi := 3) (l := [A, Z, C]) rfl el22.slice rfl memX ⟨_, _, rfl, (by first | rfl | omega)⟩ rfl (by decide) (by decide)) rfl ?_
   intro _ _ hK694
   try rw [List.drop_zero] at hK694
   iterate 2 (try rw [Nat.sub_zero] at hK694)
   simp only [List.drop_succ_cons, List.drop_zero, List.take_succ_cons, List.take_nil, Nat.reduceSub] at hK694
   obtain ⟨a694, rfl, rfl⟩ := hK694
   refine RL.eff (Wanted.yes rfl rfl rfl rfl) (E.call rfl go19 rfl (sameT_ok (l := [C]) memX memX)) rfl ?_
   rintro _ _ ⟨rfl, rfl⟩
   refine RL.val (Wanted.free rfl) (V.pick_true rfl rfl rfl) rfl ?_
   refine RL.val (Wanted.free rfl) (V.move rfl rfl) rfl ?_
   refine RL.val (Wanted.yes rfl rfl rfl rfl) (V.move rfl rfl) rfl ?_
   refine RL.val (Wanted.yes rfl rfl rfl rfl) (V.len rfl rfl el22.under rfl) rfl ?_
   refine RL.cmpT (Wanted.yes rfl rfl rfl rfl) (V.bin rfl rfl rfl B.eql) rfl rfl ?_
   refine RL.val (Wanted.free rfl) (V.pick_true rfl rfl rfl) rfl ?_
   refine RL.val (Wanted.free rfl) (V.assign rfl rfl) rfl ?_
   refine RL.nil ?_
   refine SG.seq ?_
   refine SG.drawL 40 40 wide rfl rfl ?_
   refine RH.val 0 rfl krX krX krX krX (Wanted.free rfl) (V.move rfl rfl) rfl ?_
   refine RH.val 1 rfl krX krX krX krX (Wanted.free rfl) (V.move rfl rfl) rfl ?_
   refine RH.val 2 rfl krX krX krX krX (Wanted.yes rfl rfl rfl rfl) (V.move rfl rfl) rfl ?_
   refine RH.pure 3 rfl krX krX krX krX (Wanted.free rfl) (V.pick_true rfl rfl rfl) rfl ?_
   refine RH.val 4 rfl krX krX krX krX (Wanted.free rfl) (V.move rfl rfl) rfl ?_
   refine RH.val 5 rfl krX krX krX krX (Wanted.yes rfl rfl rfl rfl) (V.move rfl rfl) rfl ?_
   refine RH.pure 6 rfl krX krX krX krX (Wanted.free rfl) (V.pick_true rfl rfl rfl) rfl ?_
   refine RH.val 7 rfl krX krX krX krX (Wanted.free rfl) (V.move rfl rfl) rfl ?_
   refine RH.val 8 rfl krX krX krX krX (Wanted.yes rfl rfl rfl rfl) (V.move rfl rfl) rfl ?_
   refine RH.val 10 rfl krX krX krX krX (Wanted.yes rfl rfl rfl rfl) (V.loadAgg (us := D.map v8) rfl ag25 rfl pickX (take8 hD) (by rw [List.length_map]; exact hD)) rfl ?_
   refine RH.val 11 rfl krX krX krX krX (Wanted.yes rfl rfl rfl rfl) (V.move rfl rfl) rfl ?_
   refine RH.val 12 rfl krX krX krX krX (Wanted.yes rfl rfl rfl rfl) (V.indexSl (j := 2) rfl el22.slice rfl rfl memX (by first | rfl | omega) (by simp)) rfl ?_
   refine RH.val 13 rfl krX krX krX krX (Wanted.yes rfl rfl rfl rfl) (V.loadSlDt (j := 2) rfl ag25 rfl memX rfl) rfl ?_
   refine RH.one (i := 9) krX ?_
   refine RHone.eff rfl (Wanted.yes rfl rfl rfl rfl) (E.call rfl go13 rfl (root3_ok hqD hqG memX (by unfold Tab; repeat (first | exact List.Mem.head _ | assumption | apply List.Mem.tail)))) rfl ?_
   rintro _ _ ⟨rfl, rfl⟩
   refine ⟨.inr entX, ?_⟩
   refine RH.one (i := 14) krX ?_
   refine RHone.eff rfl (Wanted.yes rfl rfl rfl rfl) (E.call rfl go47 rfl (node3_ok hqG hD hC (by unfold Tab; repeat (first | exact List.Mem.head _ | assumption | apply List.Mem.tail)))) rfl ?_
   rintro _ _ ⟨rfl, rfl⟩
   refine ⟨.inr entX, ?_⟩
   refine RH.cmpT 15 rfl krX krX krX krX (Wanted.yes rfl rfl rfl rfl) (V.eqlArr rfl ar25 on5 ui5 ce25 eg25 inj8 hG hG rfl rfl) rfl rfl ?_
   refine RH.pure 16 rfl krX krX krX krX (Wanted.free rfl) (V.pick_true rfl rfl rfl) rfl ?_
   refine RH.val 17 rfl krX krX krX krX (Wanted.free rfl) (V.move rfl rfl) rfl ?_
   refine RH.val 18 rfl krX krX krX krX (Wanted.yes rfl rfl rfl rfl) (V.fieldAddr rfl rfl fo39_0) rfl ?_
   refine RH.val 19 rfl krX krX krX krX (Wanted.yes rfl rfl rfl rfl) (V.load rfl on3 rfl pickX rfl) rfl ?_
   refine RH.cmpT 20 rfl krX krX krX krX (Wanted.yes rfl rfl rfl rfl) (V.bin rfl rfl rfl B.eql) rfl rfl ?_
   refine RH.pure 21 rfl krX krX krX krX (Wanted.free rfl) (V.pick_true rfl rfl rfl) rfl ?_
   refine RH.val 22 rfl krX krX krX krX (Wanted.free rfl) (V.move rfl rfl) rfl ?_
   refine RH.val 23 rfl krX krX krX krX (Wanted.yes rfl rfl rfl rfl) (V.fieldAddr rfl rfl fo39_1) rfl ?_
   refine RH.val 24 rfl krX krX krX krX (Wanted.yes rfl rfl rfl rfl) (V.load rfl on22 rfl pickX rfl) rfl ?_
   refine RH.val 25 rfl krX krX krX krX (Wanted.yes rfl rfl rfl rfl) (V.loadAgg (us := D.map v8) rfl ag25 rfl pickX (take8 hD) (by rw [List.length_map]; exact hD)) rfl ?_
   refine RH.val 26 rfl krX krX krX krX (Wanted.yes rfl rfl rfl rfl) (V.move rfl rfl) rfl ?_
   refine RH.val 27 rfl krX krX krX krX (Wanted.yes rfl rfl rfl rfl) (V.indexSl (j := 2) rfl el22.slice rfl rfl memX (by first | rfl | omega) (by simp)) rfl ?_
   refine RH.val 28 rfl krX krX krX krX (Wanted.yes rfl rfl rfl rfl) (V.loadSlDt (j := 2) rfl ag25 rfl memX rfl) rfl ?_
   refine RH.one (i := 29) krX ?_
   refine RHone.eff rfl (Wanted.yes rfl rfl rfl rfl) (E.litA2 D C rfl el22.slice ze25 (by simp) (by decide) (by decide) rfl hD rfl hC) rfl ?_
   rintro _ _ ⟨b160, rfl, rfl⟩
   refine ⟨.inr entX, ?_⟩
   refine RH.one (i := 30) krX ?_
   refine RHone.eff rfl (Wanted.yes rfl rfl rfl rfl) (E.call rfl go19 rfl (sameT_ok (l := [D, C]) memX memX)) rfl ?_
   rintro _ _ ⟨rfl, rfl⟩
   refine ⟨.inr entX, ?_⟩
   refine RH.pure 31 rfl krX krX krX krX (Wanted.free rfl) (V.pick_true rfl rfl rfl) rfl ?_
   refine RH.val 32 rfl krX krX krX krX (Wanted.free rfl) (V.move rfl rfl) rfl ?_
   refine RH.val 33 rfl krX krX krX krX (Wanted.yes rfl rfl rfl rfl) (V.loadAgg (us := _) rfl ag39 rfl pickX rfl rfl) rfl ?_
   refine RH.val 35 rfl krX krX krX krX (Wanted.yes rfl rfl rfl rfl) (V.move rfl rfl) rfl ?_
   refine RH.one (i := 34) krX ?_
   refine RHone.eff rfl (Wanted.yes rfl rfl rfl rfl) (E.call rfl go23 rfl (top2_ok hqG memX (by unfold Tab; repeat (first | exact List.Mem.head _ | assumption | apply List.Mem.tail)))) rfl ?_
   rintro _ _ ⟨rfl, rfl⟩
   refine ⟨.inr entX, ?_⟩
   refine RH.one (i := 36) krX ?_
   refine RHone.eff rfl (Wanted.yes rfl rfl rfl rfl) (E.call rfl go13 rfl (root3_ok hqD hqG memX (by unfold Tab; repeat (first | exact List.Mem.head _ | assumption | apply List.Mem.tail)))) rfl ?_
   rintro _ _ ⟨rfl, rfl⟩
   refine ⟨.inr entX, ?_⟩
   refine RH.cmpT 37 rfl krX krX krX krX (Wanted.yes rfl rfl rfl rfl) (V.eqlArr rfl ar25 on5 ui5 ce25 eg25 inj8 hG hG rfl rfl) rfl rfl ?_
   refine RH.pure 38 rfl krX krX krX krX (Wanted.free rfl) (V.pick_true rfl rfl rfl) rfl ?_
   refine RH.val 39 rfl krX krX krX krX (Wanted.free rfl) (V.assign rfl rfl) rfl ?_
   refine RH.done krX ?_
   refine SG.retE (Ret.r1 Tryd.func15 rfl (.tmp rfl)) ?_ ⟨rfl, rfl⟩
   exact entX

end Go.Proofs.YtcbloadpffjkiaaDoor
