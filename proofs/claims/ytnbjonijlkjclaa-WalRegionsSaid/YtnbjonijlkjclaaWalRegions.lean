/- WalRegions: whatever the acts, the bools and the ints, the law 'WalRegions' returns true. No condition. -/
import Derived.Test.YtnbjonijlkjclaaOpens2
import Derived.Test.YtnbjonijlkjclaaWregs
namespace Go.Proofs.Ytnbjonijlkjclaa
open Go.Wk Go.Wl Go.Dsk Go.ChangeShapes Go.WideShapes Go.ChangeAt Go.RowKit

set_option maxRecDepth 100000 in
theorem walRegions_lifted (os : Os) (started : os.Started) (H : Type) (enc : TypeId × Value → H) :
    ReturnsInHanded {} Try.checked os 8 .any (Rows.walRegionsSpec.pre6 enc Try.prog Try.f8 Rows.walRegionsRow.domain false) (Rows.walRegionsSpec.post enc Try.prog Try.f8 false true false false) := by
  refine returnsInHanded_of_change (C := Try.checked) own started krX Try.func8
    (ChangeSpec.witness6 (enc := enc) (C := Try.checked) false ⟨#[], #[.slice none 0 0, .slice none 0 0, .int .i64 0, .slice none 0 0], []⟩ 12 krX krX krX krX) ?_
  intro W base args ds gs before hval0 hW _ _
  have hval : ∀ (j : Nat) t v, Try.f8.params[j]? = some t → args[j]? = some v → Value.okWide Try.prog W .any base t v := hval0
  refine law_post (P := Try.prog) (tb := 4) rfl rfl ub4 (fun ds' hd => ?_) laidOut ?_ hW ?_
  · rw [Try.params8] at hd
    match ds', hd with
    | [_, _, _, _], _ => rfl
  · rw [Try.params8]
    intro t ht
    simp only [List.mem_cons, List.not_mem_nil, or_false] at ht
    rcases ht with rfl | rfl | rfl | rfl
    · exact ⟨by kernel_rfl, of_decide_eq_true krX⟩
    · exact ⟨by kernel_rfl, of_decide_eq_true krX⟩
    · exact ⟨by kernel_rfl, of_decide_eq_true krX⟩
    · exact ⟨by kernel_rfl, of_decide_eq_true krX⟩
  · obtain ⟨p, q, hA, _⟩ := hW
    rw [Try.params8] at hA hval
    obtain ⟨args⟩ := args
    change DataW.TrodAll enc Try.prog W 0 (fun _ => true) true [38, 65, 3, 47] args ds p at hA
    obtain ⟨v0, args, d0, ds0, p0, q0, rfl, rfl, rfl, h0, hA⟩ := trodAll_cons hA
    obtain ⟨v1, args, d1, ds1, p1, q1, rfl, rfl, rfl, h1, hA⟩ := trodAll_cons hA
    obtain ⟨v2, args, d2, ds2, p2, q2, rfl, rfl, rfl, h2, hA⟩ := trodAll_cons hA
    obtain ⟨v3, args, d3, ds3, p3, q3, rfl, rfl, rfl, h3, hA⟩ := trodAll_cons hA
    obtain ⟨rfl, rfl, rfl⟩ := trodAll_nil hA
    obtain ⟨y0, a0, m0, c0, e0, s0⟩ := (Opens.slice el38.under krX opensAct (by decide)).arg (by rw [el38.under]; simp) (by rw [el38.under]; simp) (hval 0 38 v0 rfl rfl) h0
    cases e0
    obtain ⟨y1, a1, m1, c1, e1, s1⟩ := (Opens.slice el65.under krX (Opens.bool ub4 krX) (by decide)).arg (by rw [el65.under]; simp) (by rw [el65.under]; simp) (hval 1 65 v1 rfl rfl) h1
    cases e1
    obtain ⟨y2, e2, ok2⟩ := (Opens.i64 ui3 krX).arg (by rw [ui3]; simp) (by rw [ui3]; simp) (hval 2 3 v2 rfl rfl) h2
    cases e2
    obtain ⟨y3, a3, m3, c3, e3, s3⟩ := (Opens.slice el47.under krX (Opens.i64 ui3 krX) (by decide)).arg (by rw [el47.under]; simp) (by rw [el47.under]; simp) (hval 3 47 v3 rfl rfl) h3
    cases e3
    have hall : ∀ R ∈ [SlP RAct a0 m0 c0 y0, SlP RB a1 m1 c1 y1, SlP RI a3 m3 c3 y3], R (Frag.of W) := by
      intro R hR
      simp only [List.mem_cons, List.not_mem_nil, or_false] at hR
      rcases hR with rfl | rfl | rfl
      · exact s0
      · exact s1
      · exact s3
    exact ⟨_, List.Mem.head _, Sep.start W _ hall, regions_law ok2 memX memX memX⟩

set_option maxRecDepth 100000 in
theorem walRegions_holds : Rows.WalRegionsSaid :=
  OpenClaim.holds_of_wide 8 Try.f8 rfl rfl rfl rfl rfl rfl rfl ⟨rfl, rfl, rfl, rfl, rfl⟩ rfl rfl rfl rfl rfl krX Try.func8 krX
    (of_decide_eq_true krX) (by unfold Func.isWrapper; first | (rw [if_pos (by decide +kernel)]; kernel_rfl) | (rw [if_neg (by decide +kernel)]; exact ⟨rfl, rfl⟩))
    (fun os started H enc _ => walRegions_lifted os started H enc)
end Go.Proofs.Ytnbjonijlkjclaa
