/- DiskWire: whatever the list of ints, the list of operations and the list of what survives, the law 'DiskWire' returns true and leaves the lists as they were. No condition. -/
import Derived.Test.YteghgfgkkpfcaaaOpens
import Derived.Test.YteghgfgkkpfcaaaLaws6
namespace Go.Proofs.Yteghgfgkkpfcaaa
open Go.Wk Go.Dsk Go.ChangeShapes Go.WideShapes Go.ChangeAt Go.RowKit

set_option maxRecDepth 100000 in
theorem diskWire_lifted (os : Os) (started : os.Started) (H : Type) (enc : TypeId × Value → H) :
    ReturnsInHanded {} Try.checked os 11 .any (Rows.diskWireSpec.pre6 enc Try.prog Try.f11 Rows.diskWireRow.domain false) (Rows.diskWireSpec.post enc Try.prog Try.f11 false true false false) := by
  refine returnsInHanded_of_change (C := Try.checked) own started (by kernel_rfl) Try.func11
    (ChangeSpec.witness6 (enc := enc) (C := Try.checked) false ⟨#[], #[.slice none 0 0, .slice none 0 0, .slice none 0 0], []⟩ 12 (by kernel_rfl) (by kernel_rfl) (by kernel_rfl) (by kernel_rfl)) ?_
  intro W base args ds gs before hval0 hW _ _
  have hval : ∀ (j : Nat) t v, Try.f11.params[j]? = some t → args[j]? = some v → Value.okWide Try.prog W .any base t v := hval0
  refine law_post (P := Try.prog) (tb := 4) rfl rfl ub4 (fun ds' hd => ?_) laidOut ?_ hW ?_
  · rw [Try.params11] at hd
    match ds', hd with
    | [_, _, _], _ => rfl
  · rw [Try.params11]
    intro t ht
    simp only [List.mem_cons, List.not_mem_nil, or_false] at ht
    rcases ht with rfl | rfl | rfl
    · exact ⟨by kernel_rfl, of_decide_eq_true (by kernel_rfl)⟩
    · exact ⟨by kernel_rfl, of_decide_eq_true (by kernel_rfl)⟩
    · exact ⟨by kernel_rfl, of_decide_eq_true (by kernel_rfl)⟩
  · obtain ⟨p, q, hA, _⟩ := hW
    rw [Try.params11] at hA hval
    obtain ⟨args⟩ := args
    change DataW.TrodAll enc Try.prog W 0 (fun _ => true) true [64, 22, 33] args ds p at hA
    obtain ⟨v0, args, d0, ds0, p0, q0, rfl, rfl, rfl, h0, hA⟩ := trodAll_cons hA
    obtain ⟨v1, args, d1, ds1, p1, q1, rfl, rfl, rfl, h1, hA⟩ := trodAll_cons hA
    obtain ⟨v2, args, d2, ds2, p2, q2, rfl, rfl, rfl, h2, hA⟩ := trodAll_cons hA
    obtain ⟨rfl, rfl, rfl⟩ := trodAll_nil hA
    obtain ⟨y0, a0, m0, c0, e0, s0⟩ := (Opens.slice el64.under (by kernel_rfl) (Opens.i64 ui3 (by kernel_rfl)) (by decide)).arg (by rw [el64.under]; simp) (by rw [el64.under]; simp) (hval 0 64 v0 rfl rfl) h0
    cases e0
    obtain ⟨y1, a1, m1, c1, e1, s1⟩ := (Opens.slice el22.under (by kernel_rfl) opensOp (by decide)).arg (by rw [el22.under]; simp) (by rw [el22.under]; simp) (hval 1 22 v1 rfl rfl) h1
    cases e1
    obtain ⟨y2, a2, m2, c2, e2, s2⟩ := (Opens.slice el33.under (by kernel_rfl) opensTorn (by decide)).arg (by rw [el33.under]; simp) (by rw [el33.under]; simp) (hval 2 33 v2 rfl rfl) h2
    cases e2
    have hall : ∀ R ∈ [SlP RI a0 m0 c0 y0, SlP ROp a1 m1 c1 y1, SlP RTorn a2 m2 c2 y2], R (Frag.of W) := by
      intro R hR
      simp only [List.mem_cons, List.not_mem_nil, or_false] at hR
      rcases hR with rfl | rfl | rfl
      · exact s0
      · exact s1
      · exact s2
    exact ⟨_, List.Mem.head _, Sep.start W _ hall, wire_law (by repeat (first | exact List.Mem.head _ | assumption | apply List.Mem.tail)) (by repeat (first | exact List.Mem.head _ | assumption | apply List.Mem.tail)) (by repeat (first | exact List.Mem.head _ | assumption | apply List.Mem.tail))⟩

set_option maxRecDepth 100000 in
theorem diskWire_holds : Rows.DiskWireSaid :=
  OpenClaim.holds_of_wide 11 Try.f11 rfl rfl rfl rfl rfl rfl rfl ⟨rfl, rfl, rfl, rfl, rfl⟩ rfl rfl rfl rfl rfl (by kernel_rfl) Try.func11 (by kernel_rfl)
    (of_decide_eq_true (by kernel_rfl)) (by unfold Func.isWrapper; first | (rw [if_pos (by decide +kernel)]; kernel_rfl) | (rw [if_neg (by decide +kernel)]; exact ⟨rfl, rfl⟩))
    (fun os started H enc _ => diskWire_lifted os started H enc)
end Go.Proofs.Yteghgfgkkpfcaaa
