/- DiskNew: whatever the int, the law 'DiskNew' returns true. No condition. -/
import Derived.Test.YteghgfgkkpfcaaaOpens
import Derived.Test.YteghgfgkkpfcaaaLaws1
namespace Go.Proofs.Yteghgfgkkpfcaaa
open Go.Wk Go.Dsk Go.ChangeShapes Go.WideShapes Go.ChangeAt Go.RowKit

set_option maxRecDepth 100000 in
theorem diskNew_lifted (os : Os) (started : os.Started) (H : Type) (enc : TypeId × Value → H) :
    ReturnsInHanded {} Try.checked os 4 .any (Rows.diskNewSpec.pre6 enc Try.prog Try.f4 Rows.diskNewRow.domain false) (Rows.diskNewSpec.post enc Try.prog Try.f4 false true false false) := by
  refine returnsInHanded_of_change (C := Try.checked) own started (by kernel_rfl) Try.func4
    (ChangeSpec.witness6 (enc := enc) (C := Try.checked) false ⟨#[], #[.int .i64 0], []⟩ 12 (by kernel_rfl) (by kernel_rfl) (by kernel_rfl) (by kernel_rfl)) ?_
  intro W base args ds gs before hval0 hW _ _
  have hval : ∀ (j : Nat) t v, Try.f4.params[j]? = some t → args[j]? = some v → Value.okWide Try.prog W .any base t v := hval0
  refine law_post (P := Try.prog) (tb := 4) rfl rfl ub4 (fun ds' hd => ?_) laidOut ?_ hW ?_
  · rw [Try.params4] at hd
    match ds', hd with
    | [_], _ => rfl
  · rw [Try.params4]
    intro t ht
    simp only [List.mem_cons, List.not_mem_nil, or_false] at ht
    rcases ht with rfl
    · exact ⟨by kernel_rfl, of_decide_eq_true (by kernel_rfl)⟩
  · obtain ⟨p, q, hA, _⟩ := hW
    rw [Try.params4] at hA hval
    obtain ⟨args⟩ := args
    change DataW.TrodAll enc Try.prog W 0 (fun _ => true) true [3] args ds p at hA
    obtain ⟨v0, args, d0, ds0, p0, q0, rfl, rfl, rfl, h0, hA⟩ := trodAll_cons hA
    obtain ⟨rfl, rfl, rfl⟩ := trodAll_nil hA
    obtain ⟨y0, e0, ok0⟩ := (Opens.i64 ui3 (by kernel_rfl)).arg (by rw [ui3]; simp) (by rw [ui3]; simp) (hval 0 3 v0 rfl rfl) h0
    cases e0
    exact ⟨_, List.Mem.head _, Sep.start W [] (fun _ h => absurd h List.not_mem_nil), new_law ok0.1 ok0.2⟩

set_option maxRecDepth 100000 in
theorem diskNew_holds : Rows.DiskNewSaid :=
  OpenClaim.holds_of_wide 4 Try.f4 rfl rfl rfl rfl rfl rfl rfl ⟨rfl, rfl, rfl, rfl, rfl⟩ rfl rfl rfl rfl rfl (by kernel_rfl) Try.func4 (by kernel_rfl)
    (of_decide_eq_true (by kernel_rfl)) (by unfold Func.isWrapper; first | (rw [if_pos (by decide +kernel)]; kernel_rfl) | (rw [if_neg (by decide +kernel)]; exact ⟨rfl, rfl⟩))
    (fun os started H enc _ => diskNew_lifted os started H enc)
end Go.Proofs.Yteghgfgkkpfcaaa
