/- WalFills: whatever the ints, the law 'WalFills' returns true. No condition. -/
import Derived.Test.YtnbjonijlkjclaaOpens2
import Derived.Test.YtnbjonijlkjclaaWfill
namespace Go.Proofs.Ytnbjonijlkjclaa
open Go.Wk Go.Wl Go.Dsk Go.ChangeShapes Go.WideShapes Go.ChangeAt Go.RowKit

set_option maxRecDepth 100000 in
theorem walFills_lifted (os : Os) (started : os.Started) (H : Type) (enc : TypeId × Value → H) :
    ReturnsInHanded {} Try.checked os 5 .any (Rows.walFillsSpec.pre6 enc Try.prog Try.f5 Rows.walFillsRow.domain false) (Rows.walFillsSpec.post enc Try.prog Try.f5 false true false false) := by
  refine returnsInHanded_of_change (C := Try.checked) own started krX Try.func5
    (ChangeSpec.witness6 (enc := enc) (C := Try.checked) false ⟨#[], #[.int .i64 0, .slice none 0 0], []⟩ 12 krX krX krX krX) ?_
  intro W base args ds gs before hval0 hW _ _
  have hval : ∀ (j : Nat) t v, Try.f5.params[j]? = some t → args[j]? = some v → Value.okWide Try.prog W .any base t v := hval0
  refine law_post (P := Try.prog) (tb := 4) rfl rfl ub4 (fun ds' hd => ?_) laidOut ?_ hW ?_
  · rw [Try.params5] at hd
    match ds', hd with
    | [_, _], _ => rfl
  · rw [Try.params5]
    intro t ht
    simp only [List.mem_cons, List.not_mem_nil, or_false] at ht
    rcases ht with rfl | rfl
    · exact ⟨by kernel_rfl, of_decide_eq_true krX⟩
    · exact ⟨by kernel_rfl, of_decide_eq_true krX⟩
  · obtain ⟨p, q, hA, _⟩ := hW
    rw [Try.params5] at hA hval
    obtain ⟨args⟩ := args
    change DataW.TrodAll enc Try.prog W 0 (fun _ => true) true [3, 47] args ds p at hA
    obtain ⟨v0, args, d0, ds0, p0, q0, rfl, rfl, rfl, h0, hA⟩ := trodAll_cons hA
    obtain ⟨v1, args, d1, ds1, p1, q1, rfl, rfl, rfl, h1, hA⟩ := trodAll_cons hA
    obtain ⟨rfl, rfl, rfl⟩ := trodAll_nil hA
    obtain ⟨y0, e0, ok0⟩ := (Opens.i64 ui3 krX).arg (by rw [ui3]; simp) (by rw [ui3]; simp) (hval 0 3 v0 rfl rfl) h0
    cases e0
    obtain ⟨y1, a1, m1, c1, e1, s1⟩ := (Opens.slice el47.under krX (Opens.i64 ui3 krX) (by decide)).arg (by rw [el47.under]; simp) (by rw [el47.under]; simp) (hval 1 47 v1 rfl rfl) h1
    cases e1
    have hall : ∀ R ∈ [SlP RI a1 m1 c1 y1], R (Frag.of W) := by
      intro R hR
      simp only [List.mem_cons, List.not_mem_nil, or_false] at hR
      rcases hR with rfl
      · exact s1
    exact ⟨_, List.Mem.head _, Sep.start W _ hall, fills_law ok0 memX⟩

set_option maxRecDepth 100000 in
theorem walFills_holds : Rows.WalFillsSaid :=
  OpenClaim.holds_of_wide 5 Try.f5 rfl rfl rfl rfl rfl rfl rfl ⟨rfl, rfl, rfl, rfl, rfl⟩ rfl rfl rfl rfl rfl krX Try.func5 krX
    (of_decide_eq_true krX) (by unfold Func.isWrapper; first | (rw [if_pos (by decide +kernel)]; kernel_rfl) | (rw [if_neg (by decide +kernel)]; exact ⟨rfl, rfl⟩))
    (fun os started H enc _ => walFills_lifted os started H enc)
end Go.Proofs.Ytnbjonijlkjclaa
