/- What the arguments of the statements say. -/
import Derived.Test.YtdccpcnahbhfcaaVals
import Derived.Test.YtdccpcnahbhfcaaTop
namespace Go.Proofs.Ytdccpcnahbhfcaa
open Go.Wk Go.Wire Go.ChangeShapes Go.WideShapes Go.ChangeAt Go.RowKit

theorem own : ownKnob Try.prog.godebug = none := by kernel_rfl
theorem laidOut : laidOutB Try.prog = true := by kernel_rfl

theorem opensVal : Opens Try.prog 34 RVal := ⟨by kernel_rfl, fun {H enc W n cs x} h => by
  obtain ⟨hl, n', hf⟩ := trod_fields Try.underlying34 h
  rw [show Try.prog.cellsOf 34 = 6 from by kernel_rfl] at hl
  match cs, hl with
  | [c0, c1, c2, c3, c4, c5], _ =>
    obtain ⟨x0, h0⟩ := hf 0 _ rfl
    obtain ⟨x1, h1⟩ := hf 1 _ rfl
    obtain ⟨x2, h2⟩ := hf 2 _ rfl
    obtain ⟨x3, h3⟩ := hf 3 _ rfl
    obtain ⟨x4, h4⟩ := hf 4 _ rfl
    obtain ⟨x5, h5⟩ := hf 5 _ rfl
    have e0 : Try.prog.cellsOf 5 = 1 := by kernel_rfl
    have e1 : Try.prog.cellsOf 31 = 1 := by kernel_rfl
    have e2 : Try.prog.cellsOf 3 = 1 := by kernel_rfl
    have e3 : Try.prog.cellsOf 4 = 1 := by kernel_rfl
    have e4 : Try.prog.cellsOf 9 = 1 := by kernel_rfl
    have e5 : Try.prog.cellsOf 32 = 1 := by kernel_rfl
    replace h0 : DataW.trod enc Try.prog W 0 (fun _ => true) true n' 5 (List.take (Try.prog.cellsOf 5) (List.drop 0 [c0, c1, c2, c3, c4, c5])) = some x0 := h0
    rw [e0] at h0
    replace h1 : DataW.trod enc Try.prog W 0 (fun _ => true) true n' 31 (List.take (Try.prog.cellsOf 31) (List.drop 1 [c0, c1, c2, c3, c4, c5])) = some x1 := h1
    rw [e1] at h1
    replace h2 : DataW.trod enc Try.prog W 0 (fun _ => true) true n' 3 (List.take (Try.prog.cellsOf 3) (List.drop 2 [c0, c1, c2, c3, c4, c5])) = some x2 := h2
    rw [e2] at h2
    replace h3 : DataW.trod enc Try.prog W 0 (fun _ => true) true n' 4 (List.take (Try.prog.cellsOf 4) (List.drop 3 [c0, c1, c2, c3, c4, c5])) = some x3 := h3
    rw [e3] at h3
    replace h4 : DataW.trod enc Try.prog W 0 (fun _ => true) true n' 9 (List.take (Try.prog.cellsOf 9) (List.drop 4 [c0, c1, c2, c3, c4, c5])) = some x4 := h4
    rw [e4] at h4
    replace h5 : DataW.trod enc Try.prog W 0 (fun _ => true) true n' 32 (List.take (Try.prog.cellsOf 32) (List.drop 5 [c0, c1, c2, c3, c4, c5])) = some x5 := h5
    rw [e5] at h5
    obtain ⟨k, g0, _⟩ := (Opens.u8 ui5 e0).op h0
    obtain ⟨u, g1, _⟩ := (Opens.u64 ui31 e1).op h1
    obtain ⟨i, g2, hi⟩ := (Opens.i64 ui3 e2).op h2
    obtain ⟨b, g3, _⟩ := (Opens.bool ub4 e3).op h3
    obtain ⟨s, g4, hs⟩ := (Opens.str us9 e4).op h4
    obtain ⟨l, a, m, c, g5, hsl⟩ := (Opens.slice el32.under e5 (Opens.i64 ui3 (by kernel_rfl)) (by decide)).op h5
    simp only [List.drop_zero, List.take_succ_cons, List.take_zero, List.drop_succ_cons, List.cons.injEq, and_true] at g0 g1 g2 g3 g4 g5
    subst g0; subst g1; subst g2; subst g3; subst g4; subst g5
    refine ⟨⟨k, u, i, b, s, l⟩, a, m, c, ⟨rfl, hi, hs, ?_⟩, hsl⟩
    obtain ⟨q1, q2, q3, q4⟩ := hsl
    rcases q4 with q4 | ⟨_, _, cs, _, _, hr⟩
    · subst q4
      have : l = [] := List.eq_nil_of_length_eq_zero q1
      subst this
      exact fun x hx => by cases hx
    · exact (rows_sc.1 hr).2⟩
end Go.Proofs.Ytdccpcnahbhfcaa
