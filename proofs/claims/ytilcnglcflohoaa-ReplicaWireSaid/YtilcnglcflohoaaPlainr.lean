/- Runs in plain Lean. -/
import Derived.Test.YtilcnglcflohoaaStepc
namespace Go.Proofs.Ytilcnglcflohoaa
open Go.Wk Go.Rp


/-- n modulo most, never negative. -/
def aroundV (n most : Int) : Int := (if n < 0 then -(n + 1) else n) % most
theorem take_succ_eq {α : Type} {l l' : List α} {i : Nat} (h : i < l.length) (h' : i < l'.length) (ht : l.take i = l'.take i) (hx : l[i] = l'[i]) : l.take (i + 1) = l'.take (i + 1) := by
  rw [List.take_add_one, List.take_add_one, ht, List.getElem?_eq_getElem h, List.getElem?_eq_getElem h', hx]
theorem aroundV_bd {n most : Int} (h : 0 < most) : 0 ≤ aroundV n most ∧ aroundV n most < most := ⟨Int.emod_nonneg _ (by omega), Int.emod_lt_of_pos _ h⟩

def digs : List UInt8 := [48, 49, 50, 51, 52, 53, 54, 55, 56, 57]
def decGo (k : Nat) (s : List UInt8) : List UInt8 := if _ : k = 0 then s else decGo (k / 10) ((digs.drop (k % 10)).take (k % 10 + 1 - k % 10) ++ s)
termination_by k
decreasing_by omega
def decV (n : Nat) : List UInt8 := if n = 0 then [48] else decGo n []
structure Act where
  op : Int
  node : Int
  pick : Int
def RAct : Rep Act := Rep.dt 3 (fun a => [vI a.op, vI a.node, vI a.pick]) (fun _ => True) (fun _ _ => rfl) (fun s u hu => by
  simp only [List.mem_cons, List.not_mem_nil, or_false] at hu
  rcases hu with rfl | rfl | rfl <;> rfl)
structure AOk (a : Act) : Prop where
  o : 0 ≤ a.op ∧ a.op ≤ 4
  n : 0 ≤ a.node ∧ a.node ≤ 1000000
  p : 0 ≤ a.pick ∧ a.pick ≤ 1000000
def ndOf (c : Clu) (a : Act) : Nat := (aroundV a.node c.nodes.length).toNat
def pickOf (c : Clu) (a : Act) : Nat := c.sent.length - 1 - (a.pick % (c.sent.length : Int)).toNat
def actC (c : Clu) (a : Act) (i : Nat) : Clu :=
  if a.op = 0 then cCamp c (ndOf c a) else if a.op = 1 then cProp c (ndOf c a) (decV i) else if a.op = 2 then cBeat c (ndOf c a) else if a.op = 3 then cRest c (ndOf c a)
  else if c.sent.length = 0 then c else cArr c (pickOf c a)
def kinds : List Int := [0, 1, 1, 2, 2, 4, 4, 4, 4, 4, 3, 4, 4, 4, 4, 2]
def actOf (n : Nat) (v : Int) : Act := ⟨kinds.getD (aroundV v 1000000 % 16).toNat 0, aroundV v 1000000 / 16 % (n : Int), aroundV v 1000000 / 128⟩
def actsOf (n : Nat) (l : List Int) : List Act := (l.take 60).map (actOf n)
def sizes : List Int := [3, 1, 2, 3, 4, 5, 3, 5]
def sizeN (n : Int) : Nat := (sizes.getD (aroundV n 8).toNat 0).toNat
/-- The states behind the first steps. -/
def stateAt (N : Nat) (acts : List Act) : Nat → Clu
  | 0 => clu0 N
  | i + 1 => actC (stateAt N acts i) (acts.getD i ⟨0, 0, 0⟩) i
def hist (N : Nat) (acts : List Act) (i : Nat) : List Clu := (List.range (i + 1)).map (stateAt N acts)
def runV (n : Int) (l : List Int) : List Clu := hist (sizeN n) (actsOf (sizeN n) l) (actsOf (sizeN n) l).length
theorem hist_step (N : Nat) (acts : List Act) (i : Nat) : hist N acts (i + 1) = hist N acts i ++ [stateAt N acts (i + 1)] := by
  rw [hist, List.range_succ, List.map_append]; rfl
theorem hist_len (N : Nat) (acts : List Act) (i : Nat) : (hist N acts i).length = i + 1 := by simp [hist]
theorem kinds_get {k : Nat} (h : k < 16) : ∃ y, kinds[k]? = some y ∧ 0 ≤ y ∧ y ≤ 4 := by
  have : ∀ k < 16, ∃ y, kinds[k]? = some y ∧ 0 ≤ y ∧ y ≤ 4 := by decide
  exact this k h
theorem actOf_ok {n : Nat} {v : Int} (hn : 1 ≤ n) (h5 : n ≤ 5) : AOk (actOf n v) := by
  obtain ⟨h1, h2⟩ := aroundV_bd (n := v) (most := 1000000) (by omega)
  obtain ⟨y, a, b, d⟩ := kinds_get (k := (aroundV v 1000000 % 16).toNat) (by omega)
  have e : (actOf n v).op = y := by show kinds.getD _ 0 = y; rw [List.getD_eq_getElem?_getD, a]; rfl
  have g1 := Int.emod_nonneg (aroundV v 1000000 / 16) (show (n : Int) ≠ 0 by omega)
  have g2 := Int.emod_lt_of_pos (aroundV v 1000000 / 16) (show (0 : Int) < n by omega)
  exact ⟨by rw [e]; exact ⟨b, d⟩, ⟨g1, by show _ % _ ≤ _; omega⟩, ⟨by show 0 ≤ aroundV v 1000000 / 128; omega, by show aroundV v 1000000 / 128 ≤ _; omega⟩⟩
theorem sizes_ok : ∀ k < 8, ∃ y, sizes[k]? = some y ∧ 1 ≤ y ∧ y ≤ 5 := by decide
theorem sizeN_ok (n : Int) : ∃ q : Nat, aroundV n 8 = (q : Int) ∧ q < 8 ∧ sizes[q]? = some (sizeN n : Int) ∧ 1 ≤ sizeN n ∧ sizeN n ≤ 5 := by
  obtain ⟨h1, h2⟩ := aroundV_bd (n := n) (most := 8) (by omega)
  obtain ⟨q, hq⟩ := Int.eq_ofNat_of_zero_le h1
  obtain ⟨y, a, b, c⟩ := sizes_ok q (by omega)
  have e : sizeN n = y.toNat := by rw [sizeN, hq, Int.toNat_natCast, List.getD_eq_getElem?_getD, a]; rfl
  exact ⟨q, hq, by omega, by rw [a, e]; congr 1; omega, by omega, by omega⟩
theorem nd_lt {c : Clu} {a : Act} (h : 1 ≤ c.nodes.length) : ndOf c a < c.nodes.length := by
  obtain ⟨h1, h2⟩ := aroundV_bd (n := a.node) (most := (c.nodes.length : Int)) (by omega)
  unfold ndOf; omega
theorem pick_lt {c : Clu} {a : Act} (h : c.sent.length ≠ 0) : pickOf c a < c.sent.length := by
  unfold pickOf; omega
section
variable {N : Nat} {G : Gh} {s : Nat} {c : Clu}
theorem Rch.act (h : Rp.Reach N G s c) (h1 : 1 ≤ N) (h5 : N ≤ 5) (a : Act) (i : Nat) : ∃ G', Le G G' ∧ Rp.Reach N G' (s + 1) (actC c a i) := by
  have hnd : ndOf c a < N := by rw [← h.1.len]; exact nd_lt (by rw [h.1.len]; exact h1)
  unfold actC
  split
  · exact h.camp h5 hnd
  split
  · exact h.prop hnd
  split
  · exact ⟨G, Le.refl G, h.beat h5 hnd⟩
  split
  · exact ⟨G, Le.refl G, h.rest hnd⟩
  split
  · exact ⟨G, Le.refl G, h.weak⟩
  · rename_i hs
    exact h.arr (pick_lt hs)
end
theorem reach_at {N : Nat} (h1 : 1 ≤ N) (h5 : N ≤ 5) (acts : List Act) : ∀ i, ∃ G, Rp.Reach N G i (stateAt N acts i)
  | 0 => ⟨gh0, reach0 N⟩
  | i + 1 => by
    obtain ⟨G, h⟩ := reach_at h1 h5 acts i
    obtain ⟨G', _, h'⟩ := Rch.act h h1 h5 (acts.getD i ⟨0, 0, 0⟩) i
    exact ⟨G', h'⟩
/-- All states up to the last, seen from the last. -/
theorem reach_all {N : Nat} (h1 : 1 ≤ N) (h5 : N ≤ 5) (acts : List Act) : ∀ i, ∃ G, GOK N G ∧ Rp.Reach N G i (stateAt N acts i) ∧ ∀ j ≤ i, Past N G (stateAt N acts j)
  | 0 => ⟨gh0, (reach0 N).1.g, reach0 N, fun j hj => by obtain rfl : j = 0 := by omega
                                                        exact (reach0 N).past⟩
  | i + 1 => by
    obtain ⟨G, hg, h, hp⟩ := reach_all h1 h5 acts i
    obtain ⟨G', hl, h'⟩ := Rch.act h h1 h5 (acts.getD i ⟨0, 0, 0⟩) i
    exact ⟨G', h'.1.g, h', fun j hj => by
      by_cases e : j = i + 1
      · subst e; exact h'.past
      · exact (hp j (by omega)).mono hg hl⟩

end Go.Proofs.Ytilcnglcflohoaa
