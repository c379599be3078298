/- The last state of a run. -/
import Derived.Test.YtilcnglcflohoaaLawp
namespace Go.Proofs.Ytilcnglcflohoaa
open Go.Wk Go.Rp

theorem stateAt_reach {N : Nat} (h1 : 1 ≤ N) (h5 : N ≤ 5) (A : List Act) (j : Nat) : ∃ G, Rp.Reach N G j (stateAt N A j) := reach_at h1 h5 A j
theorem runV_last (n : Int) (l : List Int) (hl : l.length ≤ 40) : ∃ N G s c, 1 ≤ N ∧ N ≤ 5 ∧ s ≤ 40 ∧ Rp.Reach N G s c ∧ (runV n l).length ≤ 61 ∧ 0 < (runV n l).length ∧ (runV n l)[(runV n l).length - 1]? = some c := by
  obtain ⟨_, _, _, _, h1, h5⟩ := sizeN_ok n
  have hA : (actsOf (sizeN n) l).length ≤ 40 := by rw [actsOf, List.length_map, List.length_take]; omega
  unfold runV
  generalize actsOf (sizeN n) l = A at hA ⊢
  generalize sizeN n = N at h1 h5 ⊢
  obtain ⟨G, hr⟩ := reach_at h1 h5 A A.length
  refine ⟨N, G, A.length, stateAt N A A.length, h1, h5, hA, hr, by rw [hist_len]; omega, by rw [hist_len]; omega, ?_⟩
  rw [hist_len, Nat.add_sub_cancel]
  unfold hist
  rw [List.getElem?_map, List.getElem?_range (by omega)]; rfl
end Go.Proofs.Ytilcnglcflohoaa
