/- What holds behind a place where ways part and meet is said once; slices of slices. -/
import Derived.Test.YtilcnglcflohoaaMore2
namespace Go.Wk
section
variable {P : Program} {f : FuncId} {n : Nat} {κ : World} {K : Post} {k : List Item} {it : Item} {al : List (Nat × Value)} {L L1 : List Assn} {o : Oper} {α : Type} {T : Rep α} {a : Option Addr} {m c : Nat} {l : List α} {e : TypeId}
/-- Behind 'it', whichever way it took, one of these holds. -/
theorem SG.join {ι : Type} (alI : ι → List (Nat × Value)) (LI : ι → List Assn) (p : ι → Prop) (rest : ∀ i, p i → SG P f n κ K k (alI i) (LI i))
    (h : (∀ i, p i → SG P f n κ K k (alI i) (LI i)) → SG P f n κ K (it :: k) al L) : SG P f n κ K (it :: k) al L := h rest
theorem SG.join2 {it2 : Item} {ι : Type} (alI : ι → List (Nat × Value)) (LI : ι → List Assn) (p : ι → Prop) (rest : ∀ i, p i → SG P f n κ K k (alI i) (LI i))
    (h : (∀ i, p i → SG P f n κ K k (alI i) (LI i)) → SG P f n κ K (it :: it2 :: k) al L) : SG P f n κ K (it :: it2 :: k) al L := h rest
theorem SG.openSl {us : List Value} (hp : Pick (Rd (Rep.slice T) us l) L L1) (h : ∀ a m c, us = [.slice a m c] → SG P f n κ K k al (Sl T a m c l :: L1)) : SG P f n κ K k al L :=
  SG.roEx (ι := Option Addr × Nat × Nat) (p := fun x => us = [.slice x.1 x.2.1 x.2.2]) (R := fun x => SlP T x.1 x.2.1 x.2.2 l) hp (fun _ ⟨a, m, c, e, s⟩ => ⟨(a, m, c), e, s⟩) fun _ e => h _ _ _ e
theorem Holds.slr {z h : Frag} (hm : Sl T a m c l ∈ L) (H : Holds z L h) : (Rep.slice T).rep z [.slice a m c] l := by
  obtain ⟨_, _, z1, hz, _, _, _, hr, _⟩ := Pick.ro hm z h H
  exact ⟨a, m, c, rfl, hr.mono hz⟩
theorem rows_two_sl {z h : Frag} {a' : Option Addr} {m' c' : Nat} {l' : List α} (hx : Sl T a m c l ∈ L) (hy : Sl T a' m' c' l' ∈ L) (H : Holds z L h) : (Rep.slice T).rows z [.slice a m c, .slice a' m' c'] [l, l'] :=
  Rep.rows.append (l := [l]) (l' := [l']) (Rep.rows.single (H.slr hx)) (Rep.rows.single (H.slr hy))
theorem V.loadAt1 {T' k : Nat} {x : Operand} {u : Value} (ho : o.op = .load T' x) (hT : One P T') (hx : ev al x = some (eptr a k)) (hm : At a k [u] ∈ L) : OpV P n κ al L o u := fun a' w he hs => by
  obtain ⟨z, hz, b, off, rfl, hr⟩ := hs.get_ro hm
  have hcell := cell_of_row (i := 0) hz hr (u := u) rfl
  rw [Nat.add_zero] at hcell
  have hx' := he.ev hx
  simp [eptr, addr_add] at hx'
  simp [execOp, ho, hx', Instr.loadAt, Instr.sureAddr, loadVar, hT.agg w, hcell]
end
end Go.Wk
