/- WalRanges: whatever the ints and the bool, the law 'WalRanges' returns true. No condition. -/
import Derived.Test.YtnbjonijlkjclaaOpens
import Derived.Test.YtnbjonijlkjclaaRanges
namespace Go.Proofs.Ytnbjonijlkjclaa
open Go.Wk Go.Wl Go.Dsk Go.ChangeShapes Go.WideShapes Go.ChangeAt Go.RowKit

set_option maxRecDepth 100000 in
theorem walRanges_lifted (os : Os) (started : os.Started) (H : Type) (enc : TypeId × Value → H) :
    ReturnsInHanded {} Try.checked os 3 .any (Rows.walRangesSpec.pre6 enc Try.prog Try.f3 Rows.walRangesRow.domain false) (Rows.walRangesSpec.post enc Try.prog Try.f3 false true false false) := by
  refine returnsInHanded_of_change (C := Try.checked) own started krX Try.func3
    (ChangeSpec.witness6 (enc := enc) (C := Try.checked) false ⟨#[], #[.int .i64 0, .int .i64 0, .int .i64 0, .bool false, .int .i64 0], []⟩ 12 krX krX krX krX) ?_
  intro W base args ds gs before hval0 hW _ _
  have hval : ∀ (j : Nat) t v, Try.f3.params[j]? = some t → args[j]? = some v → Value.okWide Try.prog W .any base t v := hval0
  refine law_post (P := Try.prog) (tb := 4) rfl rfl ub4 (fun ds' hd => ?_) laidOut ?_ hW ?_
  · rw [Try.params3] at hd
    match ds', hd with
    | [_, _, _, _, _], _ => rfl
  · rw [Try.params3]
    intro t ht
    simp only [List.mem_cons, List.not_mem_nil, or_false] at ht
    rcases ht with rfl | rfl | rfl | rfl | rfl
    · exact ⟨by kernel_rfl, of_decide_eq_true krX⟩
    · exact ⟨by kernel_rfl, of_decide_eq_true krX⟩
    · exact ⟨by kernel_rfl, of_decide_eq_true krX⟩
    · exact ⟨by kernel_rfl, of_decide_eq_true krX⟩
    · exact ⟨by kernel_rfl, of_decide_eq_true krX⟩
  · obtain ⟨p, q, hA, _⟩ := hW
    rw [Try.params3] at hA hval
    obtain ⟨args⟩ := args
    change DataW.TrodAll enc Try.prog W 0 (fun _ => true) true [3, 3, 3, 4, 3] args ds p at hA
    obtain ⟨v0, args, d0, ds0, p0, q0, rfl, rfl, rfl, h0, hA⟩ := trodAll_cons hA
    obtain ⟨v1, args, d1, ds1, p1, q1, rfl, rfl, rfl, h1, hA⟩ := trodAll_cons hA
    obtain ⟨v2, args, d2, ds2, p2, q2, rfl, rfl, rfl, h2, hA⟩ := trodAll_cons hA
    obtain ⟨v3, args, d3, ds3, p3, q3, rfl, rfl, rfl, h3, hA⟩ := trodAll_cons hA
    obtain ⟨v4, args, d4, ds4, p4, q4, rfl, rfl, rfl, h4, hA⟩ := trodAll_cons hA
    obtain ⟨rfl, rfl, rfl⟩ := trodAll_nil hA
    obtain ⟨y0, e0, ok0⟩ := (Opens.i64 ui3 krX).arg (by rw [ui3]; simp) (by rw [ui3]; simp) (hval 0 3 v0 rfl rfl) h0
    cases e0
    obtain ⟨y1, e1, ok1⟩ := (Opens.i64 ui3 krX).arg (by rw [ui3]; simp) (by rw [ui3]; simp) (hval 1 3 v1 rfl rfl) h1
    cases e1
    obtain ⟨y2, e2, ok2⟩ := (Opens.i64 ui3 krX).arg (by rw [ui3]; simp) (by rw [ui3]; simp) (hval 2 3 v2 rfl rfl) h2
    cases e2
    obtain ⟨y3, e3, ok3⟩ := (Opens.bool ub4 krX).arg (by rw [ub4]; simp) (by rw [ub4]; simp) (hval 3 4 v3 rfl rfl) h3
    cases e3
    obtain ⟨y4, e4, ok4⟩ := (Opens.i64 ui3 krX).arg (by rw [ui3]; simp) (by rw [ui3]; simp) (hval 4 3 v4 rfl rfl) h4
    cases e4
    exact ⟨_, List.Mem.head _, Sep.start W [] (fun _ h => absurd h List.not_mem_nil), ranges_law ok0 ok1 ok2 ok4⟩

set_option maxRecDepth 100000 in
theorem walRanges_holds : Rows.WalRangesSaid :=
  OpenClaim.holds_of_wide 3 Try.f3 rfl rfl rfl rfl rfl rfl rfl ⟨rfl, rfl, rfl, rfl, rfl⟩ rfl rfl rfl rfl rfl krX Try.func3 krX
    (of_decide_eq_true krX) (by unfold Func.isWrapper; first | (rw [if_pos (by decide +kernel)]; kernel_rfl) | (rw [if_neg (by decide +kernel)]; exact ⟨rfl, rfl⟩))
    (fun os started H enc _ => walRanges_lifted os started H enc)
end Go.Proofs.Ytnbjonijlkjclaa
