/- What the laws share. -/
import Derived.Test.YtilcnglcflohoaaLvp
namespace Go.Proofs.Ytilcnglcflohoaa
open Go.Wk Go.Rp

structure HOK (N : Nat) (G : Gh) (c : Clu) : Prop where
  past : Past N G c
  ok : COk c
  len : c.nodes.length = N
  term : ∀ p ∈ c.nodes, p.term ≤ 60
theorem runV_facts (n : Int) (l : List Int) : ∃ N G, 1 ≤ N ∧ N ≤ 5 ∧ GOK N G ∧ (runV n l).length ≤ 61 ∧ ∀ (j : Nat) c, (runV n l)[j]? = some c → HOK N G c := by
  obtain ⟨_, _, _, _, h1, h5⟩ := sizeN_ok n
  have hA := actsOf_len (sizeN n) l
  unfold runV
  generalize actsOf (sizeN n) l = A at hA ⊢
  generalize sizeN n = N at h1 h5 ⊢
  obtain ⟨G, hG, hr, hp⟩ := reach_all h1 h5 A A.length
  refine ⟨N, G, h1, h5, hG, by rw [hist_len]; omega, fun j c hc => ?_⟩
  have hj := (List.getElem?_eq_some_iff.1 hc).1
  rw [hist_len] at hj
  have hcj : c = stateAt N A j := by
    unfold hist at hc
    rw [List.getElem?_map, List.getElem?_range hj] at hc
    exact (Option.some.inj hc).symm
  obtain ⟨G', hr'⟩ := reach_at h1 h5 A j
  rw [hcj]
  refine ⟨hp j (by omega), Rch.ok hr' h1 h5 (by omega), hr'.1.len, fun p hp => ?_⟩
  obtain ⟨i, hi⟩ := List.getElem?_of_mem hp
  have := (hr'.2.node i p hi).1
  omega
theorem min_cast (a b : Nat) : (if (a : Int) < (b : Int) then (a : Int) else (b : Int)) = ((min a b : Nat) : Int) := by split <;> omega
theorem HOK.get {N : Nat} {G : Gh} {c : Clu} (h : HOK N G c) {i : Nat} (hi : i < N) : c.nodes[i]? = some (c.p i) ∧ POK N G i (c.p i) ∧ POk (c.p i) := by
  have hl : i < c.nodes.length := by rw [h.len]; exact hi
  exact ⟨Clu.p_get hl, h.past i _ (Clu.p_get hl), h.ok.p _ (Clu.p_mem hl)⟩
theorem map_take_eq {a b : List Slot} (h : a <+: b) {n : Nat} (hn : n ≤ a.length) : (a.map (·.data)).take n = (b.map (·.data)).take n := by
  obtain ⟨c, rfl⟩ := h
  rw [List.map_append, List.take_append_of_le_length (by rw [List.length_map]; exact hn)]

set_option maxRecDepth 100000 in
theorem sameStr_ok {κ : World} {L : List Assn} {a b : Option Addr} {n n' c c' : Nat} {l l' : List (List UInt8)} (hm : Sl RS a n c l ∈ L) (hm' : Sl RS b n' c' l' ∈ L) (he : l = l') :
    Ctr Try.prog 25 #[.slice a n c, .slice b n' c'] κ L (fun v M => v = vB true ∧ M = L) := by
 refine Ctr.enter (vs := [.slice a n c, .slice b n' c']) (m := 26) Try.func25 rfl rfl rfl ?_
 subst he
 refine SG.sl hm fun hn _ _ => ?_
 refine SG.sl hm' fun hn' _ _ => ?_
 obtain rfl : n = n' := by omega
 refine SG.seq ?_
 refine SG.region ?_
 refine RL.val (Wanted.free rfl) (V.assign rfl rfl) rfl ?_
 refine RL.nil ?_
 refine SG.seq ?_
 refine SG.seq ?_
 refine SG.region ?_
 refine RL.val (Wanted.free rfl) (V.move rfl rfl) rfl ?_
 refine RL.val (Wanted.free rfl) (V.len rfl rfl el45.under rfl) rfl ?_
 refine RL.val (Wanted.free rfl) (V.move rfl rfl) rfl ?_
 refine RL.val (Wanted.free rfl) (V.len rfl rfl el45.under rfl) rfl ?_
 refine RL.cmpF (Wanted.free rfl) (V.bin rfl rfl rfl B.neq) rfl (by omega) ?_
 refine RL.nil ?_
 refine SG.cond_false rfl ?_
 refine SG.skip ?_
 refine SG.seq ?_
 refine SG.seq ?_
 refine SG.region ?_
 refine RL.val (Wanted.free rfl) (V.assign rfl rfl) rfl ?_
 refine RL.nil ?_
 refine SG.block ?_
 refine SG.weaken (SG.loop2 (fun m al M => ∃ i : Nat, i ≤ n ∧ m = n - i ∧ al = [(0, .slice a n c), (1, .slice b n c'), (4, vB false), (5, vI i)] ∧ M = L) (m0 := _) ⟨0, by omega, rfl, rfl, rfl⟩ ?_) ?_ ?_
 rotate_left
 ·
  repeat (first | exact EnvLe.nil _ | refine EnvLe.cons rfl ?_)
 ·
  exact entX
 rintro _ _ _ ⟨i, hi, rfl, rfl, hM⟩ ih0
 subst hM
 refine SG.seq ?_
 refine SG.seq ?_
 refine SG.region ?_
 refine RL.val (Wanted.free rfl) (V.move rfl rfl) rfl ?_
 refine RL.val (Wanted.free rfl) (V.move rfl rfl) rfl ?_
 refine RL.val (Wanted.free rfl) (V.len rfl rfl el45.under rfl) rfl ?_
 refine RL.cmp (Wanted.free rfl) (V.bin rfl rfl rfl B.lss) rfl (fun h10 => ?_) (fun h10 => ?_)
 ·
  refine RL.nil ?_
  refine SG.cond_true rfl ?_
  refine SG.skip ?_
  refine SG.seq ?_
  refine SG.block ?_
  refine SG.seq ?_
  have hil : i < l.length := by omega
  refine SG.drawL 9 9 wide rfl rfl ?_
  refine RH.val 0 rfl krX krX krX krX (Wanted.free rfl) (V.move rfl rfl) rfl ?_
  refine RH.val 1 rfl krX krX krX krX (Wanted.free rfl) (V.move rfl rfl) rfl ?_
  refine RH.val 2 rfl krX krX krX krX (Wanted.free rfl) (V.indexSl (T := RS) (a := a) (l := l) (j := i) rfl el45.slice rfl rfl memX rfl hil) rfl ?_
  refine RH.val 3 rfl krX krX krX krX (Wanted.free rfl) (V.loadSc (l := l) (y := l[i]'hil) (j := i) rfl on9 rfl (show Sl RS a n c l ∈ _ from memX) (List.getElem?_eq_getElem hil)) rfl ?_
  refine RH.val 4 rfl krX krX krX krX (Wanted.free rfl) (V.move rfl rfl) rfl ?_
  refine RH.val 5 rfl krX krX krX krX (Wanted.free rfl) (V.move rfl rfl) rfl ?_
  refine RH.val 6 rfl krX krX krX krX (Wanted.free rfl) (V.indexSl (T := RS) (a := b) (l := l) (j := i) rfl el45.slice rfl rfl memX rfl hil) rfl ?_
  refine RH.val 7 rfl krX krX krX krX (Wanted.free rfl) (V.loadSc (l := l) (y := l[i]'hil) (j := i) rfl on9 rfl (show Sl RS b n c' l ∈ _ from memX) (List.getElem?_eq_getElem hil)) rfl ?_
  refine RH.cmpF 8 rfl krX krX krX krX (Wanted.free rfl) (V.bin rfl rfl rfl B.neqS) rfl (fun h => h rfl) ?_
  refine RH.done krX ?_
  refine SG.cond_false rfl ?_
  refine SG.skip ?_
  refine SG.inBlock ?_
  refine SG.region ?_
  refine RL.val (Wanted.free rfl) (V.move rfl rfl) rfl ?_
  refine RL.val (Wanted.free rfl) (V.bin rfl rfl rfl (B.addI (by omega) (by omega))) rfl ?_
  refine RL.val (Wanted.free rfl) (V.assign rfl rfl) rfl ?_
  refine RL.nil ?_
  refine SG.weaken (ih0 _ _ _ ?_ ⟨i + 1, by omega, rfl, rfl, rfl⟩) ?_ ?_
  ·
   omega
  ·
   repeat (first | exact EnvLe.nil _ | refine EnvLe.cons rfl ?_)
  ·
   exact entX
 ·
  refine RL.nil ?_
  refine SG.cond_false rfl ?_
  refine SG.exit rfl ?_
  refine SG.seq ?_
  refine SG.region ?_
  refine RL.val (Wanted.free rfl) (V.assign rfl rfl) rfl ?_
  refine RL.nil ?_
  refine SG.retE (Ret.r1 Try.func25 rfl (.tmp rfl)) ?_ ⟨rfl, rfl⟩
  exact entX

end Go.Proofs.Ytilcnglcflohoaa
