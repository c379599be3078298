/- Equality of Bools and pointers; opening what is immutable. -/
import Derived.Test.YtilcnglcflohoaaMore
namespace Go.Wk
section
variable {P : Program} {f : FuncId} {n : Nat} {κ : World} {K : Post} {k : List Item} {al : List (Nat × Value)} {L L1 : List Assn} {o : Oper} {ops : Array Oper} {rest : List Oper}

theorem eqGuard_ptr (op : BinOp) (T : TypeId) (x y : Operand) (m m' : Option Addr) (w : World) : (eqGuard op T x y (.pointer m) (.pointer m')).run P w = .ok () w := by
  unfold eqGuard; split <;> simp

theorem run_equalIn_bool (d : Nat) (w : World) (t : TypeId) (a b : Bool) (h : P.underlying t = some .bool) : (Op.equalIn (d + 1) t (.bool a) (.bool b)).run P w = .ok (a == b) w := by
  simp [Op.equalIn, run_underlying h]
theorem V.eqlBool {T' T2 : TypeId} {x y : Operand} {a b : Bool} (ho : o.op = .binOp .eql T' x y T2) (hT : P.underlying T' = some .bool) (hx : ev al x = some (.bool a)) (hy : ev al y = some (.bool b)) : OpV P n κ al L o (.bool (decide (a = b))) := V.of_run fun a' w he => by
  have h1 : (binOp .eql T' (.bool a) (.bool b)).run P w = .ok (.bool (a == b)) w := by
    simp only [binOp]
    simp [Op.equal, Op.maxDepth, run_equalIn_bool 9999 w T' a b hT]
  have h2 : (eqGuard .eql T' x y (.bool a) (.bool b)).run P w = .ok () w := eqGuard_bool _ _ _ _ _ _ _
  simp only [execOp, ho, he.ev hx, he.ev hy]
  simp [h1, h2, beq_dec]
theorem V.neqBool {T' T2 : TypeId} {x y : Operand} {a b : Bool} (ho : o.op = .binOp .neq T' x y T2) (hT : P.underlying T' = some .bool) (hx : ev al x = some (.bool a)) (hy : ev al y = some (.bool b)) : OpV P n κ al L o (.bool (decide (a ≠ b))) := V.of_run fun a' w he => by
  have h1 : (binOp .neq T' (.bool a) (.bool b)).run P w = .ok (.bool (!(a == b))) w := by
    simp only [binOp]
    simp [Op.equal, Op.maxDepth, run_equalIn_bool 9999 w T' a b hT]
  have h2 : (eqGuard .neq T' x y (.bool a) (.bool b)).run P w = .ok () w := eqGuard_bool _ _ _ _ _ _ _
  simp only [execOp, ho, he.ev hx, he.ev hy]
  cases a <;> cases b <;> simp_all

theorem run_equalIn_ptr (d : Nat) (w : World) (t e : TypeId) (a : Option Addr) (h : P.underlying t = some (.pointer e)) : (Op.equalIn (d + 1) t (.pointer a) (.pointer none)).run P w = .ok a.isNone w := by
  cases a <;> simp [Op.equalIn, run_underlying h]
theorem V.eqlPtrNil {T' T2 E : TypeId} {x y : Operand} {a : Option Addr} (ho : o.op = .binOp .eql T' x y T2) (hT : P.underlying T' = some (.pointer E)) (hx : ev al x = some (.pointer a)) (hy : ev al y = some (.pointer none)) : OpV P n κ al L o (.bool (decide (a = none))) := V.of_run fun a' w he => by
  have h1 : (binOp .eql T' (.pointer a) (.pointer none)).run P w = .ok (.bool a.isNone) w := by
    simp only [binOp]
    simp [Op.equal, Op.maxDepth, run_equalIn_ptr 9999 w T' E a hT]
  have h2 : (eqGuard .eql T' x y (.pointer a) (.pointer none)).run P w = .ok () w := eqGuard_ptr _ _ _ _ _ _ _
  simp only [execOp, ho, he.ev hx, he.ev hy]
  cases a <;> simp [h1, h2]
theorem V.neqPtrNil {T' T2 E : TypeId} {x y : Operand} {a : Option Addr} (ho : o.op = .binOp .neq T' x y T2) (hT : P.underlying T' = some (.pointer E)) (hx : ev al x = some (.pointer a)) (hy : ev al y = some (.pointer none)) : OpV P n κ al L o (.bool (decide (a ≠ none))) := V.of_run fun a' w he => by
  have h1 : (binOp .neq T' (.pointer a) (.pointer none)).run P w = .ok (.bool (!a.isNone)) w := by
    simp only [binOp]
    simp [Op.equal, Op.maxDepth, run_equalIn_ptr 9999 w T' E a hT]
  have h2 : (eqGuard .neq T' x y (.pointer a) (.pointer none)).run P w = .ok () w := eqGuard_ptr _ _ _ _ _ _ _
  simp only [execOp, ho, he.ev hx, he.ev hy]
  cases a <;> simp [h1, h2]

/- opening what is immutable -/
theorem SG.roEx {ι : Type} {R0 : Frag → Prop} {p : ι → Prop} {R : ι → Frag → Prop} (hp : Pick (ro R0) L L1) (hR : ∀ z, R0 z → ∃ i, p i ∧ R i z) (h : ∀ i, p i → SG P f n κ K k al (ro (R i) :: L1)) : SG P f n κ K k al L := fun a w he hs => by
  obtain ⟨s, z, hh, d1, d2, d3, h1, h2, z1, g1, g2, g3, g4, hr, H⟩ := hs.ent hp
  obtain ⟨i, hi, hri⟩ := hR z1 hr
  exact h i hi a w he ⟨s, z, hh, d1, d2, d3, h1, h2, z1, g1, g2, g3, g4, hri, H⟩
theorem RL.roEx {ι : Type} {R0 : Frag → Prop} {p : ι → Prop} {R : ι → Frag → Prop} (hp : Pick (ro R0) L L1) (hR : ∀ z, R0 z → ∃ i, p i ∧ R i z) (h : ∀ i, p i → RL P f n κ K k ops rest al (ro (R i) :: L1)) : RL P f n κ K k ops rest al L := fun a w he hs => by
  obtain ⟨s, z, hh, d1, d2, d3, h1, h2, z1, g1, g2, g3, g4, hr, H⟩ := hs.ent hp
  obtain ⟨i, hi, hri⟩ := hR z1 hr
  exact h i hi a w he ⟨s, z, hh, d1, d2, d3, h1, h2, z1, g1, g2, g3, g4, hri, H⟩
theorem RH.roEx {ι : Type} {R0 : Frag → Prop} {p : ι → Prop} {R : ι → Frag → Prop} {L0 : List Assn} {x fuel : Nat} {listed : Array Bool} (hp : Pick (ro R0) L L1) (hR : ∀ z, R0 z → ∃ i, p i ∧ R i z) (h : ∀ i, p i → RH P f n κ K k ops L0 x fuel listed al (ro (R i) :: L1)) : RH P f n κ K k ops L0 x fuel listed al L := fun a w he hs hn => by
  obtain ⟨s, z, hh, d1, d2, d3, h1, h2, z1, g1, g2, g3, g4, hr, H⟩ := hs.ent hp
  obtain ⟨i, hi, hri⟩ := hR z1 hr
  exact h i hi a w he ⟨s, z, hh, d1, d2, d3, h1, h2, z1, g1, g2, g3, g4, hri, H⟩ hn
/-- What follows of what is immutable. -/
theorem Ent.ro_mk {R R' : Frag → Prop} (hm : ro R ∈ L) (h : ∀ z, R z → R' z) : Ent L (ro R' :: L) := (Pick.ro hm).trans (Ent.ro_ro h)
theorem Wanted.yes {j d : Nat} {x : Bool} (h : o.guard = some (j, x)) (hd : (ops[j]?).bind (·.dst) = some d) (hn : Nat.blt d n = true) (hl : look al d = some (.bool x)) : Wanted n ops o al true := by
  have := Wanted.by h hd hn hl
  simpa using this
theorem Wanted.no {j d : Nat} {x y : Bool} (h : o.guard = some (j, x)) (hd : (ops[j]?).bind (·.dst) = some d) (hn : Nat.blt d n = true) (hl : look al d = some (.bool y)) (hxy : (y == x) = false) : Wanted n ops o al false := by
  have := Wanted.by h hd hn hl
  rwa [hxy] at this
/- draws beside stores into these blocks -/
theorem SG.drawP1 {id : Nat} {ops : List Oper} (N t : Nat) {b i E : Nat} {cs : List Value} {L0 : List Assn} (hm : P.follows .mixedOrders = true) (hN : ops.length = N) {ls : Array Bool} (hls : Array.replicate N false = ls) (_ : look al t = some (ptr b i)) (hp : Pick (Blk b E cs) L L0)
    (h : RH P f n κ K k ops.toArray L0 N N ls al L) : SG P f n κ K (.code (.region id ops.toArray true) :: k) al L := SG.drawN N N L0 hm hN hls (hp.trans (Ent.drop _ _)) h
theorem SG.drawP2 {id : Nat} {ops : List Oper} (N t t' : Nat) {b i E b' i' E' : Nat} {cs cs' : List Value} {L0 L1 : List Assn} (hm : P.follows .mixedOrders = true) (hN : ops.length = N) {ls : Array Bool} (hls : Array.replicate N false = ls) (_ : look al t = some (ptr b i)) (hp : Pick (Blk b E cs) L L1)
    (_ : look al t' = some (ptr b' i')) (hp' : Pick (Blk b' E' cs') L1 L0) (h : RH P f n κ K k ops.toArray L0 N N ls al L) : SG P f n κ K (.code (.region id ops.toArray true) :: k) al L := SG.drawN N N L0 hm hN hls ((hp.trans (Ent.drop _ _)).trans (hp'.trans (Ent.drop _ _))) h
theorem Wanted.un {j d : Nat} {x : Bool} (h : o.guard = some (j, x)) (hd : (ops[j]?).bind (·.dst) = some d) (hl : look al d = some undef) : Wanted n ops o al false := by
  intro a he
  have h2 := he.get d _ hl
  simp only [Region.wanted, h, yielded, hd, Option.bind_some]
  cases e : a.tmps[d]? with
  | none => rfl
  | some u =>
    rw [Array.getD_eq_getD_getElem?, e] at h2
    simp only [Option.getD_some] at h2
    subst h2
    rfl
end
end Go.Wk
