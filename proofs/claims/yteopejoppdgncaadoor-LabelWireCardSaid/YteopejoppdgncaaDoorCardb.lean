/- The tables, as the rows list them. -/
import Derived.Test.YteopejoppdgncaaDoorFacts
import Derived.Test.YteopejoppdgncaaDoorKernB
import Derived.Test.YteopejoppdgncaaDoorRows
import Derived.Test.YteopejoppdgncaaDoorCards
import Derived.Test.YteopejoppdgncaaDoorTie
import Derived.Test.YteopejoppdgncaaDoorItoa
import Derived.Test.YteopejoppdgncaaDoorLPlain
import Derived.WalkKit
import Derived.ProofKit
import Derived.OpenShut
import Derived.Deep.DeepHandedRow
import Derived.Lib.LaidTab
import Derived.SevenTiedAt
namespace Go.Proofs.YteopejoppdgncaaDoor
open Go.Wk Go.Lb Go.ChangeShapes Go.WideShapes Go.ChangeAt Go.RowKit

theorem own : ownKnob Tryd.prog.godebug = none := by kernel_rfl
theorem laidOut : laidOutB Tryd.prog = true := by kernel_rfl

theorem tab_at {W : World} {r : List (String × DataW Unit)} {ps : List MemPlace} (h : DataW.LaidVars Tryd.prog W (("internal/strconv.uint64pow10", Rows.laid_internal_strconv_uint64pow10) :: r) ps) : Lib.TabIs Tryd.prog W "internal/strconv.uint64pow10" .u64 [1, 10, 100, 1000, 10000, 100000, 1000000, 10000000, 100000000, 1000000000, 10000000000, 100000000000, 1000000000000, 10000000000000, 100000000000000, 1000000000000000, 10000000000000000, 100000000000000000, 1000000000000000000, 10000000000000000000] := by
  obtain ⟨g', t', cs, fuel, p, q, hg', ht', hvar, hd, _, _⟩ := h
  obtain rfl := Option.some.inj (itoaLays.m17.symm.trans hg')
  obtain rfl := Option.some.inj ((show (Tryd.prog.globals[0]?).map (·.type) = some 80 by kernel_rfl).symm.trans ht')
  unfold Lib.TabIs
  rw [hvar, ← Lib.cells_of_tab Tryd.underlying80 Tryd.underlying60 krX krX hd]
theorem table_row {W : World} (h : laidMetH Tryd.prog Rows.labelChecksRow.laid W) : ∃ T fr, Frag.of W 0 = some (.cells pows.toArray T fr) := by
  have h' : laidMet Tryd.prog Rows.labelChecksRow.laid W := h
  obtain ⟨ps, ⟨g1, t1, cs1, f1, p1, q1, _, _, _, _, ⟨g2, t2, cs2, f2, p2, q2, _, _, _, _, h3, _⟩, _⟩, _⟩ := h'
  have ht := tab_at h3
  unfold Lib.TabIs World.var? at ht
  rw [itoaLays.m17] at ht
  change (match W.heap[0]? with | some (.cells cs _ _) => some cs | _ => none) = _ at ht
  show ∃ T fr, W.heap[0]? = _
  split at ht
  · rename_i cs T fr e
    refine ⟨T, fr, ?_⟩
    rw [e]
    have := Option.some.inj ht
    rw [this]; rfl
  · cases ht
def lay (cs : List Value) (o : Obj) : Obj := match o with
  | .cells _ t fr => .cells cs.toArray t fr
  | o => o
/-- A world for the witness: the tables as their initialisers lay them. -/
noncomputable def laidWorld (os : Os) : World :=
  { World.holding Tryd.prog os ⟨#[], #[], []⟩ with heap := (((World.holding Tryd.prog os ⟨#[], #[], []⟩).heap.modify 0 (lay [.int .u64 1, .int .u64 10, .int .u64 100, .int .u64 1000, .int .u64 10000, .int .u64 100000, .int .u64 1000000, .int .u64 10000000, .int .u64 100000000, .int .u64 1000000000, .int .u64 10000000000, .int .u64 100000000000, .int .u64 1000000000000, .int .u64 10000000000000, .int .u64 100000000000000, .int .u64 1000000000000000, .int .u64 10000000000000000, .int .u64 100000000000000000, .int .u64 1000000000000000000, .int .u64 10000000000000000000])).modify 1 (lay [.int .u8 0, .int .u8 1, .int .u8 28, .int .u8 2, .int .u8 29, .int .u8 14, .int .u8 24, .int .u8 3, .int .u8 30, .int .u8 22, .int .u8 20, .int .u8 15, .int .u8 25, .int .u8 17, .int .u8 4, .int .u8 8, .int .u8 31, .int .u8 27, .int .u8 13, .int .u8 23, .int .u8 21, .int .u8 19, .int .u8 16, .int .u8 7, .int .u8 26, .int .u8 12, .int .u8 18, .int .u8 6, .int .u8 11, .int .u8 5, .int .u8 10, .int .u8 9])).modify 2 (lay [.int .u8 0, .int .u8 1, .int .u8 56, .int .u8 2, .int .u8 57, .int .u8 49, .int .u8 28, .int .u8 3, .int .u8 61, .int .u8 58, .int .u8 42, .int .u8 50, .int .u8 38, .int .u8 29, .int .u8 17, .int .u8 4, .int .u8 62, .int .u8 47, .int .u8 59, .int .u8 36, .int .u8 45, .int .u8 43, .int .u8 51, .int .u8 22, .int .u8 53, .int .u8 39, .int .u8 33, .int .u8 30, .int .u8 24, .int .u8 18, .int .u8 12, .int .u8 5, .int .u8 63, .int .u8 55, .int .u8 48, .int .u8 27, .int .u8 60, .int .u8 41, .int .u8 37, .int .u8 16, .int .u8 46, .int .u8 35, .int .u8 44, .int .u8 21, .int .u8 52, .int .u8 32, .int .u8 23, .int .u8 11, .int .u8 54, .int .u8 26, .int .u8 40, .int .u8 15, .int .u8 34, .int .u8 20, .int .u8 31, .int .u8 10, .int .u8 25, .int .u8 14, .int .u8 19, .int .u8 9, .int .u8 13, .int .u8 8, .int .u8 7, .int .u8 6]) }
def RLab : Rep Lab := Rep.dt 2 (fun l => [vI l.num, vI l.suf]) (fun _ => True) (fun _ _ => rfl) (fun s u hu => by
  simp only [List.mem_cons, List.not_mem_nil, or_false] at hu
  rcases hu with rfl | rfl <;> rfl)
set_option maxRecDepth 100000 in
theorem opensLab : Opens Tryd.prog 23 RLab := ⟨by kernel_rfl, fun {H enc W n cs x} h => by
  obtain ⟨hl, n', hf⟩ := trod_fields Tryd.underlying23 h
  rw [show Tryd.prog.cellsOf 23 = 2 from by kernel_rfl] at hl
  match cs, hl with
  | [c0, c1], _ =>
    obtain ⟨x0, h0⟩ := hf 0 _ rfl
    have e0 : Tryd.prog.cellsOf 3 = 1 := by kernel_rfl
    replace h0 : DataW.trod enc Tryd.prog W 0 (fun _ => true) true n' 3 (List.take (Tryd.prog.cellsOf 3) (List.drop 0 [c0, c1])) = some x0 := h0
    rw [e0] at h0
    obtain ⟨y0, g0, ok0⟩ := (Opens.i64 ui3 krX).op h0
    obtain ⟨x1, h1⟩ := hf 1 _ rfl
    have e1 : Tryd.prog.cellsOf 3 = 1 := by kernel_rfl
    replace h1 : DataW.trod enc Tryd.prog W 0 (fun _ => true) true n' 3 (List.take (Tryd.prog.cellsOf 3) (List.drop 1 [c0, c1])) = some x1 := h1
    rw [e1] at h1
    obtain ⟨y1, g1, ok1⟩ := (Opens.i64 ui3 krX).op h1
    simp only [List.drop_zero, List.take_succ_cons, List.take_zero, List.drop_succ_cons, List.cons.injEq, and_true] at g0 g1
    subst g0; subst g1
    exact ⟨⟨y0, y1⟩, rfl, trivial⟩⟩
end Go.Proofs.YteopejoppdgncaaDoor
