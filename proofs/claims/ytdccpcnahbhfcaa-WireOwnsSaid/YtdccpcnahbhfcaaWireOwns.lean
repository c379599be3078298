/- WireOwns: whatever the list of values, the law 'WireOwns' returns true and leaves the list as it was. No condition. -/
import Derived.Test.YtdccpcnahbhfcaaOpens
import Derived.Test.YtdccpcnahbhfcaaLaws6
namespace Go.Proofs.Ytdccpcnahbhfcaa
open Go.Wk Go.Wire Go.ChangeShapes Go.WideShapes Go.ChangeAt Go.RowKit

set_option maxRecDepth 100000 in
theorem wireOwns_lifted (os : Os) (started : os.Started) (H : Type) (enc : TypeId × Value → H) :
    ReturnsInHanded {} Try.checked os 10 .any (Rows.wireOwnsSpec.pre6 enc Try.prog Try.f10 Rows.wireOwnsRow.domain false) (Rows.wireOwnsSpec.post enc Try.prog Try.f10 false true false false) := by
  refine returnsInHanded_of_change (C := Try.checked) own started (by kernel_rfl) Try.func10
    (ChangeSpec.witness6 (enc := enc) (C := Try.checked) false ⟨#[], #[.slice none 0 0], []⟩ 12 (by kernel_rfl) (by kernel_rfl) (by kernel_rfl) (by kernel_rfl)) ?_
  intro W base args ds gs before hval0 hW _ _
  have hval : ∀ (j : Nat) t v, Try.f10.params[j]? = some t → args[j]? = some v → Value.okWide Try.prog W .any base t v := hval0
  refine law_post (P := Try.prog) (tb := 4) rfl rfl ub4 (fun ds' hd => ?_) laidOut ?_ hW ?_
  · rw [Try.params10] at hd
    match ds', hd with
    | [_], _ => rfl
  · rw [Try.params10]
    intro t ht
    simp only [List.mem_cons, List.not_mem_nil, or_false] at ht
    rcases ht with rfl
    · exact ⟨by kernel_rfl, of_decide_eq_true (by kernel_rfl)⟩
  · obtain ⟨p, q, hA, _⟩ := hW
    rw [Try.params10] at hA hval
    obtain ⟨args⟩ := args
    change DataW.TrodAll enc Try.prog W 0 (fun _ => true) true [22] args ds p at hA
    obtain ⟨v0, args, d0, ds0, p0, q0, rfl, rfl, rfl, h0, hA⟩ := trodAll_cons hA
    obtain ⟨rfl, rfl, rfl⟩ := trodAll_nil hA
    obtain ⟨y0, a0, m0, c0, e0, s0⟩ := (Opens.slice el22.under (by kernel_rfl) opensVal (by decide)).arg (by rw [el22.under]; simp) (by rw [el22.under]; simp) (hval 0 22 v0 rfl rfl) h0
    cases e0
    have hall : ∀ R ∈ [SlP RVal a0 m0 c0 y0], R (Frag.of W) := by
      intro R hR
      simp only [List.mem_cons, List.not_mem_nil, or_false] at hR
      rcases hR with rfl
      · exact s0
    exact ⟨_, List.Mem.head _, Sep.start W _ hall, owns_law (by repeat (first | exact List.Mem.head _ | assumption | apply List.Mem.tail))⟩

set_option maxRecDepth 100000 in
theorem wireOwns_holds : Rows.WireOwnsSaid :=
  OpenClaim.holds_of_wide 10 Try.f10 rfl rfl rfl rfl rfl rfl rfl ⟨rfl, rfl, rfl, rfl, rfl⟩ rfl rfl rfl rfl rfl (by kernel_rfl) Try.func10 (by kernel_rfl)
    (of_decide_eq_true (by kernel_rfl)) (by unfold Func.isWrapper; first | (rw [if_pos (by decide +kernel)]; kernel_rfl) | (rw [if_neg (by decide +kernel)]; exact ⟨rfl, rfl⟩))
    (fun os started H enc _ => wireOwns_lifted os started H enc)
end Go.Proofs.Ytdccpcnahbhfcaa
