/- Parts of a slice of bytes. -/
import Derived.Test.YtcbloadpffjkiaaDoorZNewest
import Derived.Test.YtcbloadpffjkiaaDoorZFormat
namespace Go.Proofs.YtcbloadpffjkiaaDoor
open Go.Wk Go.Wl Go.Dsk Go.RowKit Go.Shelf

/-- The place lo cells behind a, where n cells are. -/
def AtOff (a : Option Addr) (lo n : Nat) (a' : Option Addr) : Prop := n = 0 ∨ a' = a.map (·.add lo)
theorem AtOff.start (a : Option Addr) (n : Nat) : AtOff a 0 n a := .inr (by cases a with
  | none => rfl
  | some p => cases p; simp [Addr.add])
theorem AtOff.cut {a a' : Option Addr} {lo n s t cc : Nat} (h : AtOff a lo n a') (h1 : s ≤ t) (h2 : t ≤ n) (h3 : n ≤ cc) : AtOff a (lo + s) (t - s) (cutA a' s 1 cc) := by
  by_cases h0 : t - s = 0
  · exact .inl h0
  · rcases h with h | rfl
    · omega
    · refine .inr ?_
      rw [cutA, if_neg (by omega)]
      cases a with
      | none => rfl
      | some p =>
        show Option.some ((p.add lo).add (s * 1)) = Option.some (p.add (lo + s))
        congr 1
        by_cases e1 : lo = 0
        · subst e1; rw [Nat.zero_add, Nat.mul_one]; rfl
        · by_cases e2 : s = 0
          · subst e2; rfl
          · cases p; simp [Addr.add, e1, e2]; omega
theorem AtOff.some {ad : Addr} {lo n : Nat} {a' : Option Addr} (h : AtOff (.some ad) lo n a') (e : a' = none) : n = 0 := by
  rcases h with h | rfl
  · exact h
  · cases e
section
variable {P : Program} {L L1 : List Assn} {e : TypeId} {a a' : Option Addr} {m c c' lo n : Nat} {l : List UInt8}
theorem rowAt {z h : Frag} (hp : Pick (Buf R8 e a m c l) L L1) (H : Holds z L h) (hn : lo + n ≤ m) (h0 : n ≠ 0) (ha : AtOff a lo n a') : ∃ b o h1, a' = .some ⟨b, o, none⟩ ∧ h1.le h ∧ Row h1 b o (((l.drop lo).take n).map v8) ∧ ((l.drop lo).take n).length = n := by
  obtain ⟨h1, h2, z1, g1, g2, g3, g4, ⟨k1, k2, k3, k4⟩, _⟩ := hp z h H
  rcases k4 with ⟨rfl, rfl, rfl⟩ | ⟨b, pre, cs, rest, fz, rfl, hb, hf, hr, hl⟩
  · omega
  · obtain ⟨rfl, _⟩ := rows_sc.1 hr
    rcases ha with ha | rfl
    · exact absurd ha h0
    refine ⟨b, pre.length + lo, h1, by simp [addr_add], g3, ?_, by rw [List.length_take, List.length_drop]; omega⟩
    have hrow : Row h1 b pre.length (l.map v8) := fun i u hu => by
      have hi : i < (l.map v8).length := (List.getElem?_eq_some_iff.1 hu).1
      simp only [cellAt, hb]
      simp only [List.getElem?_toArray]
      rw [List.getElem?_append_right (by omega), Nat.add_sub_cancel_left, List.getElem?_append_left hi, hu]
    rw [List.map_take, List.map_drop]
    exact hrow.sub lo n
theorem Src.bufAt (hp : Pick (Buf R8 e a m c l) L L1) (hn : lo + n ≤ m) (ha : AtOff a lo n a') : Src P L R8 (.slice a' n c') ((l.drop lo).take n) := fun z h H => by
  by_cases h0 : n = 0
  · subst h0
    rw [List.take_zero]
    refine ⟨[], Rep.rows.nil R8 z, fun u hu => by simp at hu, fun w hz hh => ⟨fun k hk => ?_, by simp [Builtin.lenOf]⟩⟩
    simp at hk; subst hk
    cases a' with
    | none => simp [Builtin.firstCells]
    | some p => simp [Builtin.firstCells, loadCells, loadCellsFrom]
  · obtain ⟨b, o, h1, rfl, g, hr, hl⟩ := rowAt hp H hn h0 ha
    refine ⟨((l.drop lo).take n).map v8, rows_sc.2 ⟨rfl, fun _ _ => trivial⟩, fun u hu => by obtain ⟨x, _, rfl⟩ := List.mem_map.1 hu; rfl, fun w hz hh => ⟨fun k hk => ?_, by simp [Builtin.lenOf, hl]⟩⟩
    exact run_firstCells_row (g.trans hh) hr (by rw [List.length_map]; have hsz : R8.sz = 1 := rfl; rw [hsz]; omega)
theorem Src.bufAtE {l' : List UInt8} (hp : Pick (Buf R8 e a m c l) L L1) (hn : lo + n ≤ m) (ha : AtOff a lo n a') (e' : (l.drop lo).take n = l') : Src P L R8 (.slice a' n c') l' := e' ▸ Src.bufAt hp hn ha
theorem value_buf {κ : World} (hp : Pick (Buf R8 e a m c l) L L1) (hn : lo + n ≤ m) (h0 : n ≠ 0) (h8 : n ≤ 8) (ha : AtOff a lo n a') : Ctr Tryd.prog 77 #[.slice a' n c'] κ L (fun v M => v = v64 (UInt64.ofNat (lev ((l.drop lo).take n))) ∧ M = L) := fun w hs => by
  have hs0 := hs
  obtain ⟨s, z, x, d1, d2, d3, H⟩ := hs
  obtain ⟨b, o, h1, rfl, g, hr, hl⟩ := rowAt hp H hn h0 ha
  obtain ⟨t, ht⟩ : ∃ t, (l.drop lo).take n = t := ⟨_, rfl⟩
  rw [ht] at hr hl ⊢
  have hcl : ∀ j (hj : j < t.length), w.cell? ⟨b, o + j, none⟩ = .some (v8 (t[j]?.getD 0)) := fun j hj => Go.Wk.cell_of_row (g.trans d3) hr (by rw [List.getElem?_map, List.getElem?_eq_getElem hj]; rfl)
  have hI : Bytes8 w.heap.size w (.slice (.some ⟨b, o, none⟩) n c') t := by
    refine .inr ⟨b, o, c', by rw [hl], ?_, fun j hj => hcl j hj⟩
    have hcell := hcl 0 (by omega)
    unfold World.cell? at hcell
    simp only at hcell
    split at hcell
    · rename_i hh; exact (Array.getElem?_eq_some_iff.1 hh).1
    · cases hcell
  refine Calls.mono (callsIn_wide.1 (value_in Fence.wide 3 trivial trivial trivial rfl (by omega) _ n c' t (by omega) w hI)) ?_
  rintro e' w' ⟨rfl, hB⟩
  refine ⟨_, rfl, L, ⟨?_, rfl⟩, Sep.blw hs0 hB⟩
  have q1 := lev_lt t
  have q2 : 256 ^ t.length ≤ 256 ^ 8 := Nat.pow_le_pow_right (by decide) (by omega)
  rw [gath_lev t (by omega) _ (Nat.le_refl _), Nat.sub_self, List.drop_zero]
  show _ = Value.int .u64 ((UInt64.ofNat (lev t)).toNat : Int)
  rw [UInt64.toNat_ofNat', Nat.mod_eq_of_lt (by omega)]
end
end Go.Proofs.YtcbloadpffjkiaaDoor
