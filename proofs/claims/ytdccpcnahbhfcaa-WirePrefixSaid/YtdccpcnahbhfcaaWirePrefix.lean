/- WirePrefix: whatever the two values, the law 'WirePrefix' returns true and leaves them as they were. No condition. -/
import Derived.Test.YtdccpcnahbhfcaaOpens
import Derived.Test.YtdccpcnahbhfcaaLaws4
namespace Go.Proofs.Ytdccpcnahbhfcaa
open Go.Wk Go.Wire Go.ChangeShapes Go.WideShapes Go.ChangeAt Go.RowKit

set_option maxRecDepth 100000 in
theorem wirePrefix_lifted (os : Os) (started : os.Started) (H : Type) (enc : TypeId × Value → H) :
    ReturnsInHanded {} Try.checked os 4 .any (Rows.wirePrefixSpec.pre6 enc Try.prog Try.f4 Rows.wirePrefixRow.domain false) (Rows.wirePrefixSpec.post enc Try.prog Try.f4 false true false false) := by
  refine returnsInHanded_of_change (C := Try.checked) own started (by kernel_rfl) Try.func4
    (ChangeSpec.witness6 (enc := enc) (C := Try.checked) false ⟨#[], #[.agg #[.int .u8 0, .int .u64 0, .int .i64 0, .bool false, vS [], .slice none 0 0], .agg #[.int .u8 0, .int .u64 0, .int .i64 0, .bool false, vS [], .slice none 0 0]], []⟩ 12 (by kernel_rfl) (by kernel_rfl) (by kernel_rfl) (by kernel_rfl)) ?_
  intro W base args ds gs before hval0 hW _ _
  have hval : ∀ (j : Nat) t v, Try.f4.params[j]? = some t → args[j]? = some v → Value.okWide Try.prog W .any base t v := hval0
  refine law_post (P := Try.prog) (tb := 4) rfl rfl ub4 (fun ds' hd => ?_) laidOut ?_ hW ?_
  · rw [Try.params4] at hd
    match ds', hd with
    | [_, _], _ => rfl
  · rw [Try.params4]
    intro t ht
    simp only [List.mem_cons, List.not_mem_nil, or_false] at ht
    rcases ht with rfl | rfl
    · exact ⟨by kernel_rfl, of_decide_eq_true (by kernel_rfl)⟩
    · exact ⟨by kernel_rfl, of_decide_eq_true (by kernel_rfl)⟩
  · obtain ⟨p, q, hA, _⟩ := hW
    rw [Try.params4] at hA hval
    obtain ⟨args⟩ := args
    change DataW.TrodAll enc Try.prog W 0 (fun _ => true) true [34, 34] args ds p at hA
    obtain ⟨v0, args, d0, ds0, p0, q0, rfl, rfl, rfl, h0, hA⟩ := trodAll_cons hA
    obtain ⟨v1, args, d1, ds1, p1, q1, rfl, rfl, rfl, h1, hA⟩ := trodAll_cons hA
    obtain ⟨rfl, rfl, rfl⟩ := trodAll_nil hA
    obtain ⟨us0, y0, rfl, a0, m0, c0, ⟨e0, ok0⟩, s0⟩ := opensVal.argS Try.underlying34 (hval 0 34 v0 rfl rfl) h0
    subst e0
    obtain ⟨us1, y1, rfl, a1, m1, c1, ⟨e1, ok1⟩, s1⟩ := opensVal.argS Try.underlying34 (hval 1 34 v1 rfl rfl) h1
    subst e1
    have hall : ∀ R ∈ [SlP RI a0 m0 c0 y0.l, SlP RI a1 m1 c1 y1.l], R (Frag.of W) := by
      intro R hR
      simp only [List.mem_cons, List.not_mem_nil, or_false] at hR
      rcases hR with rfl | rfl
      · exact s0
      · exact s1
    exact ⟨_, List.Mem.head _, Sep.start W _ hall, prefix_law y0 y1 (by repeat (first | exact List.Mem.head _ | assumption | apply List.Mem.tail)) ok0 (by repeat (first | exact List.Mem.head _ | assumption | apply List.Mem.tail)) ok1⟩

set_option maxRecDepth 100000 in
theorem wirePrefix_holds : Rows.WirePrefixSaid :=
  OpenClaim.holds_of_wide 4 Try.f4 rfl rfl rfl rfl rfl rfl rfl ⟨rfl, rfl, rfl, rfl, rfl⟩ rfl rfl rfl rfl rfl (by kernel_rfl) Try.func4 (by kernel_rfl)
    (of_decide_eq_true (by kernel_rfl)) (by unfold Func.isWrapper; first | (rw [if_pos (by decide +kernel)]; kernel_rfl) | (rw [if_neg (by decide +kernel)]; exact ⟨rfl, rfl⟩))
    (fun os started H enc _ => wirePrefix_lifted os started H enc)
end Go.Proofs.Ytdccpcnahbhfcaa
