/- The table, as the rows list it. -/
import Derived.Test.YtbljfilkdhgcnaaDoorFacts
import Derived.Test.YtbljfilkdhgcnaaDoorReach
import Derived.Test.YtbljfilkdhgcnaaDoorRows
import Derived.Test.YtbljfilkdhgcnaaDoorCards
import Derived.Test.YtbljfilkdhgcnaaDoorTie
import Derived.Test.YtbljfilkdhgcnaaDoorSha
import Derived.WalkKit
import Derived.ProofKit
import Derived.OpenShut
import Derived.Deep.DeepHandedRow
import Derived.Lib.LaidTab
import Derived.SevenTiedAt
namespace Go.Proofs.YtbljfilkdhgcnaaDoor
open Go.Wk Go.ChangeShapes Go.WideShapes Go.ChangeAt Go.RowKit

theorem own : ownKnob Tryd.prog.godebug = none := by kernel_rfl
theorem laidOut : laidOutB Tryd.prog = true := by kernel_rfl

theorem gTab : Tryd.prog.globalNamed "rollbook/digest.rounds" = some 0 := by kernel_rfl
theorem gTabType : (Tryd.prog.globals[0]?).map (·.type) = some 66 := by kernel_rfl
theorem cellsTab : Tryd.prog.cellsOf 66 = 64 := by kernel_rfl
theorem cellsEl : Tryd.prog.cellsOf 30 = 1 := by kernel_rfl
theorem table {W : World} (h : laidMetH Tryd.prog Rows.digestSumsRow.laid W) : Lib.TabIs Tryd.prog W "rollbook/digest.rounds" .u32 [1116352408, 1899447441, 3049323471, 3921009573, 961987163, 1508970993, 2453635748, 2870763221, 3624381080, 310598401, 607225278, 1426881987, 1925078388, 2162078206, 2614888103, 3248222580, 3835390401, 4022224774, 264347078, 604807628, 770255983, 1249150122, 1555081692, 1996064986, 2554220882, 2821834349, 2952996808, 3210313671, 3336571891, 3584528711, 113926993, 338241895, 666307205, 773529912, 1294757372, 1396182291, 1695183700, 1986661051, 2177026350, 2456956037, 2730485921, 2820302411, 3259730800, 3345764771, 3516065817, 3600352804, 4094571909, 275423344, 430227734, 506948616, 659060556, 883997877, 958139571, 1322822218, 1537002063, 1747873779, 1955562222, 2024104815, 2227730452, 2361852424, 2428436474, 2756734187, 3204031479, 3329325298] :=
  Lib.tabIs_of_head (rest := []) gTab gTabType Tryd.underlying66 Tryd.underlying30 cellsEl cellsTab h
theorem kk_eq : ([1116352408, 1899447441, 3049323471, 3921009573, 961987163, 1508970993, 2453635748, 2870763221, 3624381080, 310598401, 607225278, 1426881987, 1925078388, 2162078206, 2614888103, 3248222580, 3835390401, 4022224774, 264347078, 604807628, 770255983, 1249150122, 1555081692, 1996064986, 2554220882, 2821834349, 2952996808, 3210313671, 3336571891, 3584528711, 113926993, 338241895, 666307205, 773529912, 1294757372, 1396182291, 1695183700, 1986661051, 2177026350, 2456956037, 2730485921, 2820302411, 3259730800, 3345764771, 3516065817, 3600352804, 4094571909, 275423344, 430227734, 506948616, 659060556, 883997877, 958139571, 1322822218, 1537002063, 1747873779, 1955562222, 2024104815, 2227730452, 2361852424, 2428436474, 2756734187, 3204031479, 3329325298] : List Int) = Sha.KK.map (fun x => (x.toNat : Int)) := by decide
theorem table_row {W : World} (h : laidMetH Tryd.prog Rows.digestSumsRow.laid W) : ∃ b o, (some ⟨0, 0, none⟩ : Option Addr) = some ⟨b, o, none⟩ ∧ Row (Frag.of W) b (o + 0) (Sha.KK.map v32) := by
  refine ⟨0, 0, rfl, fun i u hu => ?_⟩
  have hi : i < 64 := by have := (List.getElem?_eq_some_iff.1 hu).1; simpa [Sha.KK] using this
  have hc := (table h).cell gTab i hi
  rw [kk_eq, List.getD_eq_getElem?_getD, List.getElem?_map] at hc
  rw [List.getElem?_map] at hu
  have hk : i < Sha.KK.length := hi
  rw [List.getElem?_eq_getElem hk] at hc hu
  have hu' : v32 Sha.KK[i] = u := by simpa using hu
  subst hu'
  unfold World.cell? at hc
  unfold cellAt Frag.of
  simp only [Option.map_some, Option.getD_some] at hc
  simp only [Nat.zero_add]
  split at hc
  · rename_i e
    simp only [e]
    exact hc
  · cases hc
/-- A world for the witness: the table as its initialiser lays it. -/
noncomputable def laidWorld (os : Os) : World :=
  { World.holding Tryd.prog os ⟨#[], #[], []⟩ with heap := (World.holding Tryd.prog os ⟨#[], #[], []⟩).heap.modify 0 fun
      | .cells _ t frozen => .cells (Sha.KK.map v32).toArray t frozen
      | o => o }
theorem opensHash : Opens Tryd.prog 24 (RArr8 32) := Opens.arr8 (e := 5) (by kernel_rfl) (by kernel_rfl) (Opens.u8 ui5 (by kernel_rfl))
theorem bulk_all {H : Type} : ∀ l : List (DataW H), (l.map Rows.uptoBulk).sum = Rows.uptoBulkAll l
  | [] => by simp [Rows.uptoBulkAll]
  | x :: l => by simp only [List.map_cons, List.sum_cons, Rows.uptoBulkAll, bulk_all l]
theorem bulk_slice {H : Type} (E R : List (DataW H)) : (E.map Rows.uptoBulk).sum ≤ Rows.uptoBulk (.slice E R) := by
  rw [bulk_all]; simp only [Rows.uptoBulk]; omega
theorem bulk_pos {H : Type} (d : DataW H) : 1 ≤ Rows.uptoBulk d := by
  cases d with
  | lit l => cases l <;> simp [Rows.uptoBulk]
  | nil => simp [Rows.uptoBulk]
  | ptr d => simp [Rows.uptoBulk]
  | slice elems spare => simp [Rows.uptoBulk]
  | agg parts => simp [Rows.uptoBulk]
  | iface t d => simp [Rows.uptoBulk]
  | map entries => simp [Rows.uptoBulk]
  | held h => simp [Rows.uptoBulk]
theorem bulk_list {H : Type} {l : List (DataW H)} (hk : Rows.uptoSmall H l = true) : Rows.uptoBulkAll l ≤ 1048576 := of_decide_eq_true hk
theorem bulk_one {H : Type} {d : DataW H} {gs : List (DataW H)} (hk : Rows.uptoSmall H ([d] ++ gs) = true) : Rows.uptoBulk d ≤ 1048576 := by
  have := bulk_list hk
  simp only [List.cons_append, Rows.uptoBulkAll] at this
  omega
theorem bulk_three {H : Type} {d e f : DataW H} {gs : List (DataW H)} (hk : Rows.uptoSmall H ([d, e, f] ++ gs) = true) : Rows.uptoBulk d ≤ 1048576 ∧ Rows.uptoBulk e ≤ 1048576 ∧ Rows.uptoBulk f ≤ 1048576 := by
  have := bulk_list hk
  simp only [List.cons_append, Rows.uptoBulkAll] at this
  omega
theorem open_bytes {H : Type} {enc : TypeId × Value → H} {W : World} {n : Nat} {cs : List Value} {x : DataW H × List MemPlace} (h : DataW.trod enc Tryd.prog W 0 (fun _ => true) true n 22 cs = some x) : ∃ y, (Rep.slice R8).rep (Frag.of W) cs y ∧ y.length ≤ Rows.uptoBulk x.1 := by
  obtain ⟨y, h1, h2⟩ := opens_sum (T := R8) (sz := fun _ => 1) el22.under (by kernel_rfl) (by decide) bulk_slice (fun h => by
    obtain ⟨y, hy⟩ := (Opens.u8 ui5 (by kernel_rfl)).op h
    exact ⟨y, hy, bulk_pos _⟩) h
  refine ⟨y, h1, ?_⟩
  rw [List.map_const', List.sum_replicate_nat, Nat.mul_one] at h2
  exact h2
theorem open_parts {H : Type} {enc : TypeId × Value → H} {W : World} {n : Nat} {cs : List Value} {x : DataW H × List MemPlace} (h : DataW.trod enc Tryd.prog W 0 (fun _ => true) true n 39 cs = some x) : ∃ y, (Rep.slice (Rep.slice R8)).rep (Frag.of W) cs y ∧ (y.map List.length).sum ≤ Rows.uptoBulk x.1 :=
  opens_sum (T := Rep.slice R8) (sz := List.length) el39.under (by kernel_rfl) (by decide) bulk_slice (fun h => open_bytes h) h

theorem arg_bytes {r : Reach} {base : Nat} {H : Type} {enc : TypeId × Value → H} {W : World} {v : Value} {d : DataW H} {ps : List MemPlace} (hval : Value.okWide Tryd.prog W r base 22 v) (h : DataW.Trod enc Tryd.prog W 0 (fun _ => true) true 22 v d ps) :
    ∃ y a m c, v = .slice a m c ∧ SlP R8 a m c y (Frag.of W) ∧ y.length ≤ Rows.uptoBulk d := by
  obtain ⟨_, a0, m0, c0, e0, _⟩ := (Opens.slice (T := R8) el22.under (by kernel_rfl) (Opens.u8 ui5 (by kernel_rfl)) (by decide)).arg (by rw [el22.under]; simp) (by rw [el22.under]; simp) hval h
  simp only [List.cons.injEq, and_true] at e0
  subst e0
  obtain ⟨n, hn⟩ := h
  obtain ⟨y, ⟨a, m, c, e, s⟩, z⟩ := open_bytes hn
  have e' : [Value.slice a0 m0 c0] = [.slice a m c] := e
  simp only [List.cons.injEq, Value.slice.injEq, and_true] at e'
  obtain ⟨rfl, rfl, rfl⟩ := e'
  exact ⟨y, a0, m0, c0, rfl, s, z⟩

theorem arg_parts {r : Reach} {base : Nat} {H : Type} {enc : TypeId × Value → H} {W : World} {v : Value} {d : DataW H} {ps : List MemPlace} (hval : Value.okWide Tryd.prog W r base 39 v) (h : DataW.Trod enc Tryd.prog W 0 (fun _ => true) true 39 v d ps) :
    ∃ y a m c, v = .slice a m c ∧ SlP (Rep.slice R8) a m c y (Frag.of W) ∧ (y.map List.length).sum ≤ Rows.uptoBulk d := by
  obtain ⟨_, a0, m0, c0, e0, _⟩ := (Opens.slice (T := (Rep.slice R8)) el39.under (by kernel_rfl) (Opens.slice el22.under (by kernel_rfl) (Opens.u8 ui5 (by kernel_rfl)) (by decide)) (by decide)).arg (by rw [el39.under]; simp) (by rw [el39.under]; simp) hval h
  simp only [List.cons.injEq, and_true] at e0
  subst e0
  obtain ⟨n, hn⟩ := h
  obtain ⟨y, ⟨a, m, c, e, s⟩, z⟩ := open_parts hn
  have e' : [Value.slice a0 m0 c0] = [.slice a m c] := e
  simp only [List.cons.injEq, Value.slice.injEq, and_true] at e'
  obtain ⟨rfl, rfl, rfl⟩ := e'
  exact ⟨y, a0, m0, c0, rfl, s, z⟩

end Go.Proofs.YtbljfilkdhgcnaaDoor
