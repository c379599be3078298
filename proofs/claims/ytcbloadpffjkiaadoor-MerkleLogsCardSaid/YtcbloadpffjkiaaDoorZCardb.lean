/- The table, as the rows list it. -/
import Derived.Test.YtcbloadpffjkiaaDoorFacts
import Derived.Test.YtcbloadpffjkiaaDoorKernB
import Derived.Test.YtcbloadpffjkiaaDoorRows
import Derived.Test.YtcbloadpffjkiaaDoorCards
import Derived.Test.YtcbloadpffjkiaaDoorTie
import Derived.Test.YtcbloadpffjkiaaDoorZPlm
import Derived.WalkKit
import Derived.ProofKit
import Derived.OpenShut
import Derived.Deep.DeepHandedRow
import Derived.Lib.LaidTab
import Derived.SevenTiedAt
namespace Go.Proofs.YtcbloadpffjkiaaDoor
open Go.Wk Go.ChangeShapes Go.WideShapes Go.ChangeAt Go.RowKit

theorem own : ownKnob Tryd.prog.godebug = none := by kernel_rfl
theorem laidOut : laidOutB Tryd.prog = true := by kernel_rfl

theorem gTab : Tryd.prog.globalNamed "rollbook/digest.rounds" = some 0 := by kernel_rfl
theorem gTabType : (Tryd.prog.globals[0]?).map (·.type) = some 138 := by kernel_rfl
theorem cellsTab : Tryd.prog.cellsOf 138 = 64 := by kernel_rfl
theorem cellsEl : Tryd.prog.cellsOf 108 = 1 := by kernel_rfl
theorem table {W : World} (h : laidMetH Tryd.prog Rows.merkleLogsRow.laid W) : Lib.TabIs Tryd.prog W "rollbook/digest.rounds" .u32 [1116352408, 1899447441, 3049323471, 3921009573, 961987163, 1508970993, 2453635748, 2870763221, 3624381080, 310598401, 607225278, 1426881987, 1925078388, 2162078206, 2614888103, 3248222580, 3835390401, 4022224774, 264347078, 604807628, 770255983, 1249150122, 1555081692, 1996064986, 2554220882, 2821834349, 2952996808, 3210313671, 3336571891, 3584528711, 113926993, 338241895, 666307205, 773529912, 1294757372, 1396182291, 1695183700, 1986661051, 2177026350, 2456956037, 2730485921, 2820302411, 3259730800, 3345764771, 3516065817, 3600352804, 4094571909, 275423344, 430227734, 506948616, 659060556, 883997877, 958139571, 1322822218, 1537002063, 1747873779, 1955562222, 2024104815, 2227730452, 2361852424, 2428436474, 2756734187, 3204031479, 3329325298] :=
  Lib.tabIs_of_head (rest := []) gTab gTabType Tryd.underlying138 Tryd.underlying108 cellsEl cellsTab h
theorem kk_eq : ([1116352408, 1899447441, 3049323471, 3921009573, 961987163, 1508970993, 2453635748, 2870763221, 3624381080, 310598401, 607225278, 1426881987, 1925078388, 2162078206, 2614888103, 3248222580, 3835390401, 4022224774, 264347078, 604807628, 770255983, 1249150122, 1555081692, 1996064986, 2554220882, 2821834349, 2952996808, 3210313671, 3336571891, 3584528711, 113926993, 338241895, 666307205, 773529912, 1294757372, 1396182291, 1695183700, 1986661051, 2177026350, 2456956037, 2730485921, 2820302411, 3259730800, 3345764771, 3516065817, 3600352804, 4094571909, 275423344, 430227734, 506948616, 659060556, 883997877, 958139571, 1322822218, 1537002063, 1747873779, 1955562222, 2024104815, 2227730452, 2361852424, 2428436474, 2756734187, 3204031479, 3329325298] : List Int) = Sha.KK.map (fun x => (x.toNat : Int)) := by decide
theorem table_row {W : World} (h : laidMetH Tryd.prog Rows.merkleLogsRow.laid W) : ∃ b o, (some ⟨0, 0, none⟩ : Option Addr) = some ⟨b, o, none⟩ ∧ Row (Frag.of W) b (o + 0) (Sha.KK.map v32) := by
  refine ⟨0, 0, rfl, fun i u hu => ?_⟩
  have hi : i < 64 := by have := (List.getElem?_eq_some_iff.1 hu).1; simpa [Sha.KK] using this
  have hc := (table h).cell gTab i hi
  rw [kk_eq, List.getD_eq_getElem?_getD, List.getElem?_map] at hc
  rw [List.getElem?_map] at hu
  have hk : i < Sha.KK.length := hi
  rw [List.getElem?_eq_getElem hk] at hc hu
  have hu' : v32 Sha.KK[i] = u := by simpa using hu
  subst hu'
  unfold World.cell? at hc
  unfold cellAt Frag.of
  simp only [Option.map_some, Option.getD_some] at hc
  simp only [Nat.zero_add]
  split at hc
  · rename_i e
    simp only [e]
    exact hc
  · cases hc
/-- A world for the witness: the table as its initialiser lays it. -/
noncomputable def laidWorld (os : Os) : World :=
  { World.holding Tryd.prog os ⟨#[], #[], []⟩ with heap := (World.holding Tryd.prog os ⟨#[], #[], []⟩).heap.modify 0 fun
      | .cells _ t frozen => .cells (Sha.KK.map v32).toArray t frozen
      | o => o }
end Go.Proofs.YtcbloadpffjkiaaDoor
