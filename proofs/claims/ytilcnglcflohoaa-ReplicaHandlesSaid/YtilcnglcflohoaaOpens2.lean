/- What the reading of a message says. -/
import Derived.Test.YtilcnglcflohoaaOpens
import Derived.Test.YtilcnglcflohoaaHandles
namespace Go.Proofs.Ytilcnglcflohoaa
open Go.Wk Go.Rp Go.ChangeShapes Go.WideShapes Go.ChangeAt Go.RowKit

set_option maxRecDepth 100000 in
theorem opensSlot : Opens Try.prog 53 RSlot := ⟨by kernel_rfl, fun {H enc W n cs x} h => by
  obtain ⟨hl, n', hf⟩ := trod_fields Try.underlying53 h
  rw [show Try.prog.cellsOf 53 = 2 from by kernel_rfl] at hl
  match cs, hl with
  | [c0, c1], _ =>
    obtain ⟨x0, h0⟩ := hf 0 _ rfl
    have e0 : Try.prog.cellsOf 3 = 1 := by kernel_rfl
    replace h0 : DataW.trod enc Try.prog W 0 (fun _ => true) true n' 3 (List.take (Try.prog.cellsOf 3) (List.drop 0 [c0, c1])) = some x0 := h0
    rw [e0] at h0
    obtain ⟨y0, g0, ok0⟩ := (Opens.i64 ui3 krX).op h0
    obtain ⟨x1, h1⟩ := hf 1 _ rfl
    have e1 : Try.prog.cellsOf 9 = 1 := by kernel_rfl
    replace h1 : DataW.trod enc Try.prog W 0 (fun _ => true) true n' 9 (List.take (Try.prog.cellsOf 9) (List.drop 1 [c0, c1])) = some x1 := h1
    rw [e1] at h1
    obtain ⟨y1, g1, ok1⟩ := (Opens.str us9 krX).op h1
    simp only [List.drop_zero, List.take_succ_cons, List.take_zero, List.drop_succ_cons, List.cons.injEq, and_true] at g0 g1
    subst g0; subst g1
    exact ⟨⟨y0, y1⟩, rfl, trivial⟩⟩
set_option maxRecDepth 100000 in
theorem opensRaw : Opens Try.prog 50 RRaw := ⟨by kernel_rfl, fun {H enc W n cs x} h => by
  obtain ⟨hl, n', hf⟩ := trod_fields Try.underlying50 h
  rw [show Try.prog.cellsOf 50 = 9 from by kernel_rfl] at hl
  match cs, hl with
  | [c0, c1, c2, c3, c4, c5, c6, c7, c8], _ =>
    obtain ⟨x0, h0⟩ := hf 0 _ rfl
    have e0 : Try.prog.cellsOf 3 = 1 := by kernel_rfl
    replace h0 : DataW.trod enc Try.prog W 0 (fun _ => true) true n' 3 (List.take (Try.prog.cellsOf 3) (List.drop 0 [c0, c1, c2, c3, c4, c5, c6, c7, c8])) = some x0 := h0
    rw [e0] at h0
    obtain ⟨y0, g0, ok0⟩ := (Opens.i64 ui3 krX).op h0
    obtain ⟨x1, h1⟩ := hf 1 _ rfl
    have e1 : Try.prog.cellsOf 3 = 1 := by kernel_rfl
    replace h1 : DataW.trod enc Try.prog W 0 (fun _ => true) true n' 3 (List.take (Try.prog.cellsOf 3) (List.drop 1 [c0, c1, c2, c3, c4, c5, c6, c7, c8])) = some x1 := h1
    rw [e1] at h1
    obtain ⟨y1, g1, ok1⟩ := (Opens.i64 ui3 krX).op h1
    obtain ⟨x2, h2⟩ := hf 2 _ rfl
    have e2 : Try.prog.cellsOf 3 = 1 := by kernel_rfl
    replace h2 : DataW.trod enc Try.prog W 0 (fun _ => true) true n' 3 (List.take (Try.prog.cellsOf 3) (List.drop 2 [c0, c1, c2, c3, c4, c5, c6, c7, c8])) = some x2 := h2
    rw [e2] at h2
    obtain ⟨y2, g2, ok2⟩ := (Opens.i64 ui3 krX).op h2
    obtain ⟨x3, h3⟩ := hf 3 _ rfl
    have e3 : Try.prog.cellsOf 3 = 1 := by kernel_rfl
    replace h3 : DataW.trod enc Try.prog W 0 (fun _ => true) true n' 3 (List.take (Try.prog.cellsOf 3) (List.drop 3 [c0, c1, c2, c3, c4, c5, c6, c7, c8])) = some x3 := h3
    rw [e3] at h3
    obtain ⟨y3, g3, ok3⟩ := (Opens.i64 ui3 krX).op h3
    obtain ⟨x4, h4⟩ := hf 4 _ rfl
    have e4 : Try.prog.cellsOf 3 = 1 := by kernel_rfl
    replace h4 : DataW.trod enc Try.prog W 0 (fun _ => true) true n' 3 (List.take (Try.prog.cellsOf 3) (List.drop 4 [c0, c1, c2, c3, c4, c5, c6, c7, c8])) = some x4 := h4
    rw [e4] at h4
    obtain ⟨y4, g4, ok4⟩ := (Opens.i64 ui3 krX).op h4
    obtain ⟨x5, h5⟩ := hf 5 _ rfl
    have e5 : Try.prog.cellsOf 3 = 1 := by kernel_rfl
    replace h5 : DataW.trod enc Try.prog W 0 (fun _ => true) true n' 3 (List.take (Try.prog.cellsOf 3) (List.drop 5 [c0, c1, c2, c3, c4, c5, c6, c7, c8])) = some x5 := h5
    rw [e5] at h5
    obtain ⟨y5, g5, ok5⟩ := (Opens.i64 ui3 krX).op h5
    obtain ⟨x6, h6⟩ := hf 6 _ rfl
    have e6 : Try.prog.cellsOf 3 = 1 := by kernel_rfl
    replace h6 : DataW.trod enc Try.prog W 0 (fun _ => true) true n' 3 (List.take (Try.prog.cellsOf 3) (List.drop 6 [c0, c1, c2, c3, c4, c5, c6, c7, c8])) = some x6 := h6
    rw [e6] at h6
    obtain ⟨y6, g6, ok6⟩ := (Opens.i64 ui3 krX).op h6
    obtain ⟨x7, h7⟩ := hf 7 _ rfl
    have e7 : Try.prog.cellsOf 23 = 1 := by kernel_rfl
    replace h7 : DataW.trod enc Try.prog W 0 (fun _ => true) true n' 23 (List.take (Try.prog.cellsOf 23) (List.drop 7 [c0, c1, c2, c3, c4, c5, c6, c7, c8])) = some x7 := h7
    rw [e7] at h7
    obtain ⟨y7, a7, m7, q7, g7, s7⟩ := (Opens.slice el23.under krX opensSlot (by decide)).op h7
    obtain ⟨x8, h8⟩ := hf 8 _ rfl
    have e8 : Try.prog.cellsOf 4 = 1 := by kernel_rfl
    replace h8 : DataW.trod enc Try.prog W 0 (fun _ => true) true n' 4 (List.take (Try.prog.cellsOf 4) (List.drop 8 [c0, c1, c2, c3, c4, c5, c6, c7, c8])) = some x8 := h8
    rw [e8] at h8
    obtain ⟨y8, g8, _⟩ := (Opens.bool ub4 krX).op h8
    simp only [List.drop_zero, List.take_succ_cons, List.take_zero, List.drop_succ_cons, List.cons.injEq, and_true] at g0 g1 g2 g3 g4 g5 g6 g7 g8
    subst g0; subst g1; subst g2; subst g3; subst g4; subst g5; subst g6; subst g7; subst g8
    exact ⟨⟨y0, y1, y2, y3, y4, y5, y6, [], y8⟩, (a7, m7, q7), rfl, ⟨ok0, ok1, ok2, ok3, ok4, ok5, ok6⟩⟩⟩
end Go.Proofs.Ytilcnglcflohoaa
