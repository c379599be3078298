/- What is changed in a proof, as an argument. -/
import Derived.Test.YtcbloadpffjkiaaDoorCardb
namespace Go.Proofs.YtcbloadpffjkiaaDoor
open Go.Wk Go.ChangeShapes Go.WideShapes Go.RowKit

/-- What is changed in a proof, as an argument. -/
def RSpoil : Rep (Int × Int × Int × List UInt8) := Rep.dt 35 (fun y => vI y.1 :: vI y.2.1 :: vI y.2.2.1 :: y.2.2.2.map v8) (fun y => inInt y.1 ∧ inInt y.2.1 ∧ inInt y.2.2.1 ∧ y.2.2.2.length = 32) (fun y h => by simp [h.2.2.2]) (fun y u hu => by
  simp only [List.mem_cons] at hu
  rcases hu with rfl | rfl | rfl | hu
  · rfl
  · rfl
  · rfl
  · obtain ⟨x, _, rfl⟩ := List.mem_map.1 hu; rfl)
set_option maxRecDepth 100000 in
theorem opensSpoil : Opens Tryd.prog 46 RSpoil := ⟨by kernel_rfl, fun {H enc W n cs x} h => by
  obtain ⟨hl, n', hf⟩ := trod_fields Tryd.underlying46 h
  rw [show Tryd.prog.cellsOf 46 = 35 from by kernel_rfl] at hl
  have e1 : Tryd.prog.cellsOf 3 = 1 := by kernel_rfl
  have e32 : Tryd.prog.cellsOf 25 = 32 := by kernel_rfl
  match cs, hl with
  | c0 :: c1 :: c2 :: r, hl =>
    have hr : r.length = 32 := by simpa using hl
    obtain ⟨x0, h0⟩ := hf 0 _ rfl
    obtain ⟨x1, h1⟩ := hf 1 _ rfl
    obtain ⟨x2, h2⟩ := hf 2 _ rfl
    obtain ⟨x3, h3⟩ := hf 3 _ rfl
    replace h0 : DataW.trod enc Tryd.prog W 0 (fun _ => true) true n' 3 (List.take (Tryd.prog.cellsOf 3) (List.drop 0 (c0 :: c1 :: c2 :: r))) = some x0 := h0
    replace h1 : DataW.trod enc Tryd.prog W 0 (fun _ => true) true n' 3 (List.take (Tryd.prog.cellsOf 3) (List.drop 1 (c0 :: c1 :: c2 :: r))) = some x1 := h1
    replace h2 : DataW.trod enc Tryd.prog W 0 (fun _ => true) true n' 3 (List.take (Tryd.prog.cellsOf 3) (List.drop 2 (c0 :: c1 :: c2 :: r))) = some x2 := h2
    replace h3 : DataW.trod enc Tryd.prog W 0 (fun _ => true) true n' 25 (List.take (Tryd.prog.cellsOf 25) (List.drop 3 (c0 :: c1 :: c2 :: r))) = some x3 := h3
    rw [e1] at h0 h1 h2
    rw [e32, show List.drop 3 (c0 :: c1 :: c2 :: r) = r from rfl, List.take_of_length_le (by omega)] at h3
    obtain ⟨y0, g0, k0⟩ := (Opens.i64 ui3 krX).op h0
    obtain ⟨y1, g1, k1⟩ := (Opens.i64 ui3 krX).op h1
    obtain ⟨y2, g2, k2⟩ := (Opens.i64 ui3 krX).op h2
    obtain ⟨y3, g3, k3⟩ := opensHash.op h3
    replace g0 : [c0] = [vI y0] := g0
    replace g1 : [c1] = [vI y1] := g1
    replace g2 : [c2] = [vI y2] := g2
    cases g0; cases g1; cases g2
    subst g3
    exact ⟨(y0, y1, y2, y3), rfl, k0, k1, k2, k3⟩⟩
end Go.Proofs.YtcbloadpffjkiaaDoor
