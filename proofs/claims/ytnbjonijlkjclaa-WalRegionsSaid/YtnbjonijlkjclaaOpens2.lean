/- What the reading of an act says. -/
import Derived.Test.YtnbjonijlkjclaaOpens
import Derived.Test.YtnbjonijlkjclaaHist
namespace Go.Proofs.Ytnbjonijlkjclaa
open Go.Wk Go.Wl Go.Dsk Go.ChangeShapes Go.WideShapes Go.ChangeAt Go.RowKit

set_option maxRecDepth 100000 in
theorem opensAct : Opens Try.prog 42 RAct := ⟨by kernel_rfl, fun {H enc W n cs x} h => by
  obtain ⟨hl, n', hf⟩ := trod_fields Try.underlying42 h
  rw [show Try.prog.cellsOf 42 = 3 from by kernel_rfl] at hl
  match cs, hl with
  | [c0, c1, c2], _ =>
    obtain ⟨x0, h0⟩ := hf 0 _ rfl
    have e0 : Try.prog.cellsOf 3 = 1 := by kernel_rfl
    replace h0 : DataW.trod enc Try.prog W 0 (fun _ => true) true n' 3 (List.take (Try.prog.cellsOf 3) (List.drop 0 [c0, c1, c2])) = some x0 := h0
    rw [e0] at h0
    obtain ⟨y0, g0, ok0⟩ := (Opens.i64 ui3 krX).op h0
    obtain ⟨x1, h1⟩ := hf 1 _ rfl
    have e1 : Try.prog.cellsOf 3 = 1 := by kernel_rfl
    replace h1 : DataW.trod enc Try.prog W 0 (fun _ => true) true n' 3 (List.take (Try.prog.cellsOf 3) (List.drop 1 [c0, c1, c2])) = some x1 := h1
    rw [e1] at h1
    obtain ⟨y1, g1, ok1⟩ := (Opens.i64 ui3 krX).op h1
    obtain ⟨x2, h2⟩ := hf 2 _ rfl
    have e2 : Try.prog.cellsOf 35 = 1 := by kernel_rfl
    replace h2 : DataW.trod enc Try.prog W 0 (fun _ => true) true n' 35 (List.take (Try.prog.cellsOf 35) (List.drop 2 [c0, c1, c2])) = some x2 := h2
    rw [e2] at h2
    obtain ⟨y2, a2, m2, q2, g2, s2⟩ := (Opens.slice el35.under krX (Opens.u8 ui5 krX) (by decide)).op h2
    simp only [List.drop_zero, List.take_succ_cons, List.take_zero, List.drop_succ_cons, List.cons.injEq, and_true] at g0 g1 g2
    subst g0; subst g1; subst g2
    exact ⟨⟨y0, y1, y2⟩, (a2, m2, q2), rfl, ⟨ok0, ok1⟩, s2⟩⟩
end Go.Proofs.Ytnbjonijlkjclaa
