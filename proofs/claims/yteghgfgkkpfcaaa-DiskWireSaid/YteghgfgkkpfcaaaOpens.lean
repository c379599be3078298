/- What the arguments of the statements say. -/
import Derived.Test.YteghgfgkkpfcaaaLives
import Derived.Test.YteghgfgkkpfcaaaTop
namespace Go.Proofs.Yteghgfgkkpfcaaa
open Go.Wk Go.Dsk Go.ChangeShapes Go.WideShapes Go.ChangeAt Go.RowKit

theorem own : ownKnob Try.prog.godebug = none := by kernel_rfl
theorem laidOut : laidOutB Try.prog = true := by kernel_rfl

set_option maxRecDepth 100000 in
theorem opensTorn : Opens Try.prog 67 RTorn := ⟨by kernel_rfl, fun {H enc W n cs x} h => by
  obtain ⟨hl, n', hf⟩ := trod_fields Try.underlying67 h
  rw [show Try.prog.cellsOf 67 = 3 from by kernel_rfl] at hl
  match cs, hl with
  | [c0, c1, c2], _ =>
    obtain ⟨x0, h0⟩ := hf 0 _ rfl
    have e0 : Try.prog.cellsOf 3 = 1 := by kernel_rfl
    replace h0 : DataW.trod enc Try.prog W 0 (fun _ => true) true n' 3 (List.take (Try.prog.cellsOf 3) (List.drop 0 [c0, c1, c2])) = some x0 := h0
    rw [e0] at h0
    obtain ⟨y0, g0, ok0⟩ := (Opens.i64 ui3 (by kernel_rfl)).op h0
    obtain ⟨x1, h1⟩ := hf 1 _ rfl
    have e1 : Try.prog.cellsOf 3 = 1 := by kernel_rfl
    replace h1 : DataW.trod enc Try.prog W 0 (fun _ => true) true n' 3 (List.take (Try.prog.cellsOf 3) (List.drop 1 [c0, c1, c2])) = some x1 := h1
    rw [e1] at h1
    obtain ⟨y1, g1, ok1⟩ := (Opens.i64 ui3 (by kernel_rfl)).op h1
    obtain ⟨x2, h2⟩ := hf 2 _ rfl
    have e2 : Try.prog.cellsOf 3 = 1 := by kernel_rfl
    replace h2 : DataW.trod enc Try.prog W 0 (fun _ => true) true n' 3 (List.take (Try.prog.cellsOf 3) (List.drop 2 [c0, c1, c2])) = some x2 := h2
    rw [e2] at h2
    obtain ⟨y2, g2, ok2⟩ := (Opens.i64 ui3 (by kernel_rfl)).op h2
    simp only [List.drop_zero, List.take_succ_cons, List.take_zero, List.drop_succ_cons, List.cons.injEq, and_true] at g0 g1 g2
    subst g0; subst g1; subst g2
    exact ⟨⟨y0, y1, y2⟩, rfl, ok0, ok1, ok2⟩⟩
set_option maxRecDepth 100000 in
theorem opensOp : Opens Try.prog 35 ROp := ⟨by kernel_rfl, fun {H enc W n cs x} h => by
  obtain ⟨hl, n', hf⟩ := trod_fields Try.underlying35 h
  rw [show Try.prog.cellsOf 35 = 5 from by kernel_rfl] at hl
  match cs, hl with
  | [c0, c1, c2, c3, c4], _ =>
    obtain ⟨x0, h0⟩ := hf 0 _ rfl
    have e0 : Try.prog.cellsOf 3 = 1 := by kernel_rfl
    replace h0 : DataW.trod enc Try.prog W 0 (fun _ => true) true n' 3 (List.take (Try.prog.cellsOf 3) (List.drop 0 [c0, c1, c2, c3, c4])) = some x0 := h0
    rw [e0] at h0
    obtain ⟨y0, g0, ok0⟩ := (Opens.i64 ui3 (by kernel_rfl)).op h0
    obtain ⟨x1, h1⟩ := hf 1 _ rfl
    have e1 : Try.prog.cellsOf 3 = 1 := by kernel_rfl
    replace h1 : DataW.trod enc Try.prog W 0 (fun _ => true) true n' 3 (List.take (Try.prog.cellsOf 3) (List.drop 1 [c0, c1, c2, c3, c4])) = some x1 := h1
    rw [e1] at h1
    obtain ⟨y1, g1, ok1⟩ := (Opens.i64 ui3 (by kernel_rfl)).op h1
    obtain ⟨x2, h2⟩ := hf 2 _ rfl
    have e2 : Try.prog.cellsOf 3 = 1 := by kernel_rfl
    replace h2 : DataW.trod enc Try.prog W 0 (fun _ => true) true n' 3 (List.take (Try.prog.cellsOf 3) (List.drop 2 [c0, c1, c2, c3, c4])) = some x2 := h2
    rw [e2] at h2
    obtain ⟨y2, g2, ok2⟩ := (Opens.i64 ui3 (by kernel_rfl)).op h2
    obtain ⟨x3, h3⟩ := hf 3 _ rfl
    have e3 : Try.prog.cellsOf 32 = 1 := by kernel_rfl
    replace h3 : DataW.trod enc Try.prog W 0 (fun _ => true) true n' 32 (List.take (Try.prog.cellsOf 32) (List.drop 3 [c0, c1, c2, c3, c4])) = some x3 := h3
    rw [e3] at h3
    obtain ⟨y3, a3, m3, q3, g3, s3⟩ := (Opens.slice el32.under (by kernel_rfl) (Opens.u8 ui5 (by kernel_rfl)) (by decide)).op h3
    obtain ⟨x4, h4⟩ := hf 4 _ rfl
    have e4 : Try.prog.cellsOf 33 = 1 := by kernel_rfl
    replace h4 : DataW.trod enc Try.prog W 0 (fun _ => true) true n' 33 (List.take (Try.prog.cellsOf 33) (List.drop 4 [c0, c1, c2, c3, c4])) = some x4 := h4
    rw [e4] at h4
    obtain ⟨y4, a4, m4, q4, g4, s4⟩ := (Opens.slice el33.under (by kernel_rfl) opensTorn (by decide)).op h4
    simp only [List.drop_zero, List.take_succ_cons, List.take_zero, List.drop_succ_cons, List.cons.injEq, and_true] at g0 g1 g2 g3 g4
    subst g0; subst g1; subst g2; subst g3; subst g4
    exact ⟨⟨y0, y1, y2, y3, y4⟩, (a3, m3, q3), (a4, m4, q4), rfl, ⟨ok0, ok1, ok2⟩, s3, s4⟩⟩
end Go.Proofs.Yteghgfgkkpfcaaa
