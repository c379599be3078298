/- An empty literal of a slice; two facts out of one. -/
import Derived.Test.YtilcnglcflohoaaRecs
namespace Go.Wk
section
variable {P : Program} {n : Nat} {κ : World} {al : List (Nat × Value)} {L L1 : List Assn} {o : Oper} {α : Type} {T : Rep α} {e : TypeId}
/-- A value, as an effect (it may be read of what the region itself has made). -/
theorem E.val {u : Value} (h : OpV P n κ al L o u) : OpE P n κ al L o (fun v M => v = u ∧ M = L) := OpE.of_val h ⟨rfl, rfl⟩
section
variable {f : FuncId} {K : Post} {k : List Item} {ops : Array Oper} {rest : List Oper} {ι : Type} {R0 : Frag → Prop} {p : ι → Prop} {R R' : ι → Frag → Prop}
theorem SG.roEx2 (hp : Pick (ro R0) L L1) (hR : ∀ z, R0 z → ∃ i, p i ∧ (R i z ∧ R' i z)) (h : ∀ i, p i → SG P f n κ K k al (ro (R i) :: ro (R' i) :: L1)) : SG P f n κ K k al L :=
  SG.roEx hp hR fun i hi => SG.ent Ent.ro_and (h i hi)
theorem RL.roEx2 (hp : Pick (ro R0) L L1) (hR : ∀ z, R0 z → ∃ i, p i ∧ (R i z ∧ R' i z)) (h : ∀ i, p i → RL P f n κ K k ops rest al (ro (R i) :: ro (R' i) :: L1)) : RL P f n κ K k ops rest al L :=
  RL.roEx hp hR fun i hi => RL.ent Ent.ro_and (h i hi)
theorem RH.roEx2 {L0 : List Assn} {x fuel : Nat} {listed : Array Bool} (hp : Pick (ro R0) L L1) (hR : ∀ z, R0 z → ∃ i, p i ∧ (R i z ∧ R' i z)) (h : ∀ i, p i → RH P f n κ K k ops L0 x fuel listed al (ro (R i) :: ro (R' i) :: L1)) : RH P f n κ K k ops L0 x fuel listed al L :=
  RH.roEx hp hR fun i hi => RH.ent Ent.ro_and (h i hi)
end
end
end Go.Wk
