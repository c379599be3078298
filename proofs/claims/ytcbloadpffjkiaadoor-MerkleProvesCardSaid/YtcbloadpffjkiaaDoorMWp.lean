/- Regions within the kit's own judgement of code, by the rules of the walks; memory that a range over a function leaves. -/
import Derived.Test.YtcbloadpffjkiaaDoorKernB
import Derived.RangeFuncNested
import Derived.RangeFuncBox
import Derived.RangeFuncLeaves
import Derived.OwnWalkIn
import Derived.TacticsIn
namespace Go.Wk
open Go.RowKit
section
variable {P : Program} {n m : Nat} {κ : World} {al al' : List (Nat × Value)} {L L' : List Assn} {o : Oper} {v : Value} {ro : Option Nat} {Q : Exit → Act → World → Prop} {ops : Array Oper} {rest : List Oper} {ds : List Deferred}
def Fw (ro : Option Nat) : Fence := { Fence.wide with round := ro }
theorem callsFw {f : FuncId} {args : Array Value} {w : World} {R : Ending → World → Prop} (h : Calls P f args w R) : CallsIn (Fw ro) m P f args w R := callsIn_wide (n := m).2 h
theorem rowsFw {row : String} {args : Array Value} {w : World} {R : Value → World → Prop} (h : Rows P row args w R) : RowsIn (Fw ro) m P row args w R :=
  fun c cs _ => let ⟨v, w', r, s⟩ := h c cs; ⟨v, w', r, stepsIn_wide.2 s⟩
theorem put_defers (a : Act) (d : Option Tmp) (v : Value) : (a.put d v).defers = a.defers := by cases d <;> rfl
theorem put_clear (a : Act) (d : Option Tmp) (v : Value) : ({ a.put d v with defers := [] } : Act) = ({ a with defers := [] } : Act).put d v := by cases d <;> rfl
theorem put_inj {a : Act} {d : Option Tmp} {v v' : Value} (h : ({ a with defers := [] } : Act).put d v = ({ a with defers := [] } : Act).put d v') : a.put d v = a.put d v' := by
  cases d with
  | none => rfl
  | some d =>
    simp only [Act.put, Act.mk.injEq, and_true] at h ⊢
    exact h
theorem wpIn_opV {a : Act} {w : World} {next : Act → World → Prop} (hd : ∀ c, o.op ≠ .defer c) (hv : OpV P n κ al L o v) (he : Env n al { a with defers := [] }) (hs : Sep κ w L) (h : next (a.put o.dst v) w) : o.wpIn (Fw ro) m P a w next Q := by
  refine ⟨fun _ _ => trivial, ?_⟩
  rw [Oper.semAt_eq _ _ _ hd]
  have := hv _ w he hs
  change (execOp a.eval o).run P w = _ at this
  rw [this]; exact h
theorem wpIn_opE {K : Post} {a : Act} {w : World} {next : Act → World → Prop} (hd : ∀ c, o.op ≠ .defer c) (hv : OpE P n κ al L o K) (he : Env n al { a with defers := [] }) (hs : Sep κ w L) (h : ∀ v w', K.at κ v w' → next (a.put o.dst v) w') : o.wpIn (Fw ro) m P a w next Q := by
  refine ⟨fun _ _ => trivial, ?_⟩
  rw [Oper.semAt_eq _ _ _ hd]
  have hw := hv _ w he hs
  unfold Oper.wp at hw
  change Oper.upon P o _ _ _ ((execOp a.eval o).run P w) at hw
  generalize (execOp a.eval o).run P w = r at hw ⊢
  cases r with
  | ok x w' =>
    cases x with
    | value u =>
      obtain ⟨v, e, hK⟩ := hw
      show next (a.put o.dst u) w'
      rw [put_inj e]; exact h v w' hK
    | skip =>
      obtain ⟨v, e, hK⟩ := hw
      show next (a.put o.dst undef) w'
      rw [put_inj e]; exact h v w' hK
    | defer d =>
      obtain ⟨v, e, hK⟩ := hw
      have := congrArg Act.defers e
      rw [put_defers, put_defers] at this
      cases this
    | enter f args =>
      refine ⟨fun hh => by simp [Fw, Fence.wide] at hh, callsFw (Calls.mono hw ?_)⟩
      intro e w'' hh
      cases e with
      | returned u =>
        obtain ⟨v, e, hK⟩ := hh
        show next (a.put o.dst u) w''
        rw [put_inj e]; exact h v w'' hK
      | panicked c => exact hh.elim
      | outgrown =>
        obtain ⟨_, _, q⟩ := hh
        exact q.elim
    | row r args =>
      refine ⟨fun hh => by simp [Fw, Fence.wide] at hh, rowsFw (Rows.mono hw ?_)⟩
      rintro u w'' ⟨v, e, hK⟩
      show next (a.put o.dst u) w''
      rw [put_inj e]; exact h v w'' hK
    | _ => exact hw.elim
  | halt x w' =>
    cases x <;> exact hw.elim
/-- The region's operations, within the kit's judgement. -/
def WL (P : Program) (ro : Option Nat) (m n : Nat) (κ : World) (ds : List Deferred) (Q : Exit → Act → World → Prop) (ops : Array Oper) (rest : List Oper) (al : List (Nat × Value)) (L : List Assn) : Prop :=
  ∀ a w, a.defers = ds → Env n al { a with defers := [] } → Sep κ w L → wpListIn (Fw ro) m P ops Q rest a w
theorem WL.nil (h : ∀ a w, a.defers = ds → Env n al { a with defers := [] } → Sep κ w L → Q .normal a w) : WL P ro m n κ ds Q ops [] al L := h
theorem WL.val (hd : ∀ c, o.op ≠ .defer c) (hw : Wanted n ops o al true) (hv : OpV P n κ al L o v) (hf : fits n o.dst = true) (h : WL P ro m n κ ds Q ops rest (upd al o.dst v) L) : WL P ro m n κ ds Q ops (o :: rest) al L := by
  intro a w ha he hs
  refine wpListIn_step fun K' hK' => ?_
  have := hw _ he
  change Region.wanted o (yielded ops a.tmps) = true at this
  rw [if_pos this]
  refine wpIn_opV hd hv he hs (hK' _ _ (h _ w ?_ ?_ hs))
  · rw [put_defers]; exact ha
  · rw [put_clear]; exact he.put v hf
theorem WL.eff {K : Post} (hd : ∀ c, o.op ≠ .defer c) (hw : Wanted n ops o al true) (hv : OpE P n κ al L o K) (hf : fits n o.dst = true) (h : ∀ v L', K v L' → WL P ro m n κ ds Q ops rest (upd al o.dst v) L') : WL P ro m n κ ds Q ops (o :: rest) al L := by
  intro a w ha he hs
  refine wpListIn_step fun K' hK' => ?_
  have := hw _ he
  change Region.wanted o (yielded ops a.tmps) = true at this
  rw [if_pos this]
  refine wpIn_opE hd hv he hs fun v w' ⟨M, hM, hs'⟩ => hK' _ _ (h v M hM _ w' ?_ ?_ hs')
  · rw [put_defers]; exact ha
  · rw [put_clear]; exact he.put v hf
theorem WL.ent (hL : Ent L L') (h : WL P ro m n κ ds Q ops rest al L') : WL P ro m n κ ds Q ops rest al L := fun a w ha he hs => h a w ha he (hs.ent hL)
/-- Code, within the kit's judgement. -/
def WG (P : Program) (ro : Option Nat) (m n : Nat) (κ : World) (ds : List Deferred) (Q : Exit → Act → World → Prop) (c : Code) (al : List (Nat × Value)) (L : List Assn) : Prop :=
  ∀ a w, a.defers = ds → Env n al { a with defers := [] } → Sep κ w L → c.wpIn (Fw ro) m P Q a w
theorem WG.seq {x y : Code} (h : WG P ro m n κ ds (Exit.then (y.wpIn (Fw ro) m P Q) Q) x al L) : WG P ro m n κ ds Q (.seq x y) al L := fun a w ha he hs => wpIn_seq (h a w ha he hs)
theorem WG.region {id : Nat} {l : List Oper} (h : WL P ro m n κ ds Q l.toArray l al L) : WG P ro m n κ ds Q (.region id l.toArray false) al L := fun a w ha he hs => wpIn_region_lit (h a w ha he hs)
theorem WG.block {id : Nat} {c : Code} (h : WG P ro m n κ ds (Exit.inBlock id Q) c al L) : WG P ro m n κ ds Q (.block id c) al L := fun a w ha he hs => wpIn_block (h a w ha he hs)
theorem WG.skip (h : ∀ a w, a.defers = ds → Env n al { a with defers := [] } → Sep κ w L → Q .normal a w) : WG P ro m n κ ds Q .skip al L := fun a w ha he hs => wpIn_skip (h a w ha he hs)
theorem WG.ret (h : ∀ a w, a.defers = ds → Env n al { a with defers := [] } → Sep κ w L → Q .ret a w) : WG P ro m n κ ds Q .ret al L := fun a w ha he hs => wpIn_ret (h a w ha he hs)
theorem WG.cond {c : Operand} {x y : Code} {t : Bool} (hc : ev al c = some (.bool t)) (h1 : t = true → WG P ro m n κ ds Q x al L) (h2 : t = false → WG P ro m n κ ds Q y al L) : WG P ro m n κ ds Q (.cond c x y) al L := fun a w ha he hs =>
  wpIn_cond_split (t := t) (by have := he.ev hc; exact this) (fun e => h1 e a w ha he hs) (fun e => h2 e a w ha he hs)
/-- Behind a first part the second one. -/
theorem WL.then {y : Code} (h : WG P ro m n κ ds Q y al L) : WL P ro m n κ ds (Exit.then (y.wpIn (Fw ro) m P Q) Q) ops [] al L := fun a w ha he hs => h a w ha he hs
theorem WG.then {y : Code} (h : WG P ro m n κ ds Q y al L) : WG P ro m n κ ds (Exit.then (y.wpIn (Fw ro) m P Q) Q) .skip al L := fun a w ha he hs => wpIn_skip (h a w ha he hs)
end
section
variable {κ w w' : World} {L : List Assn} {b : Nat} {T : TypeId} {cs cs' : List Value}
/-- A block of ours is another one now; the rest of what was there is as it was. -/
theorem Sep.turn (hs : Sep κ w (Blk b T cs :: L)) (hb : b < w.heap.size) (h : Below w.heap.size (w.putObj b (.cells cs'.toArray T (0, 0))) w') : Sep κ w' (Blk b T cs' :: L) := by
  obtain ⟨s, z, x, a, hz, hx, h1, h2, z1, e, f, g, i, j, k⟩ := hs
  have hbx : h1 b = some (.cells cs.toArray T (0, 0)) := j
  have hzn : z b = none := by
    rcases a b with h' | h'
    · exact h'
    · have := g b _ hbx; rw [h'] at this; cases this
  have h2n : h2 b = none := by
    rcases f b with h' | h'
    · rw [hbx] at h'; cases h'
    · exact h'
  have hold : ∀ k o, w.heap[k]? = some o → k ≠ b → w'.heap[k]? = some o := fun k o hk hne => by
    have hlt := (Array.getElem?_eq_some_iff.1 hk).1
    rw [h.block k hlt, World.putObj_heap_other hne]; exact hk
  have hnew : w'.heap[b]? = some (.cells cs'.toArray T (0, 0)) := by
    rw [h.block b hb]
    exact World.putObj_heap_same hb
  have hos : w'.os = κ.os := h.os.trans s.os
  have hta : w'.tape = κ.tape := h.tape.trans s.tape
  have hou : w'.output = κ.output := h.output.trans s.output
  have d1 : (Frag.one b (.cells cs'.toArray T (0, 0))).disj h2 := fun k => by
    by_cases e : k = b
    · subst e; exact .inr h2n
    · left; simp [Frag.one, e]
  refine ⟨⟨hos, hta, hou⟩, z, (Frag.one b (.cells cs'.toArray T (0, 0))).un h2, ?_, ?_, ?_, Frag.one b (.cells cs'.toArray T (0, 0)), h2, z1, e, d1, Frag.le_un_left _ _, Frag.le_un_right d1, ?_, k⟩
  · refine (Frag.un_disj (fun k => ?_) ((a.mono (Frag.le.refl _) i).symm)).symm
    by_cases e : k = b
    · subst e; exact .inr hzn
    · left; simp [Frag.one, e]
  · intro k o hk
    have hne : k ≠ b := fun e => by subst e; rw [hzn] at hk; cases hk
    exact hold k o (hz k o hk) hne
  · refine Frag.un_le (fun k o hk => ?_) (fun k o hk => ?_)
    · simp only [Frag.one] at hk
      split at hk
      · rename_i e; subst e; cases hk; exact hnew
      · cases hk
    · have hne : k ≠ b := fun e => by subst e; rw [h2n] at hk; cases hk
      exact hold k o (hx k o (i k o hk)) hne
  · show Frag.one b _ b = _
    simp [Frag.one]
/-- An object that is not cells is of our own. -/
def ObjO (D : Nat) (o : Obj) : Assn := fun _ h => h D = some o
theorem Sep.obj {D : Nat} {o : Obj} (hs : Sep κ w (ObjO D o :: L)) : w.heap[D]? = some o := by
  obtain ⟨_, z, x, _, _, c, h1, _, _, _, _, g, _, j, _⟩ := hs
  exact c D _ (g D _ j)
end
end Go.Wk
namespace Go.Wk
open Go.RowKit
section
variable {P : Program} {n m : Nat} {κ : World} {al : List (Nat × Value)} {L : List Assn} {o : Oper} {ro : Option Nat} {Q : Exit → Act → World → Prop} {ops : Array Oper} {rest : List Oper} {ds : List Deferred}
theorem WL.cmp {p : Prop} [Decidable p] (hd : ∀ c, o.op ≠ .defer c) (hw : Wanted n ops o al true) (hv : OpV P n κ al L o (.bool (decide p))) (hf : fits n o.dst = true) (h1 : p → WL P ro m n κ ds Q ops rest (upd al o.dst (.bool true)) L) (h2 : ¬ p → WL P ro m n κ ds Q ops rest (upd al o.dst (.bool false)) L) : WL P ro m n κ ds Q ops (o :: rest) al L := by
  by_cases hp : p
  · exact WL.val hd hw (by rwa [decide_eq_true hp] at hv) hf (h1 hp)
  · exact WL.val hd hw (by rwa [decide_eq_false hp] at hv) hf (h2 hp)
end
section
variable {κ w w' : World} {L : List Assn} {b : Nat} {T : TypeId} {cs cs' : List Value}
theorem Sep.turnD {D : Nat} {o : Obj} (hs : Sep κ w (Blk b T cs :: L)) (hb : b < w.heap.size) (h : Below w.heap.size (w.putObj b (.cells cs'.toArray T (0, 0))) w') (hD : w.heap.size ≤ D) (ho : w'.heap[D]? = some o) : Sep κ w' (ObjO D o :: Blk b T cs' :: L) := by
  obtain ⟨s, z, x, a, hz, hx, h1, h2, z1, e, f, g, i, j, k⟩ := hs
  have hbx : h1 b = some (.cells cs.toArray T (0, 0)) := j
  have hzn : z b = none := by
    rcases a b with h' | h'
    · exact h'
    · have := g b _ hbx; rw [h'] at this; cases this
  have h2n : h2 b = none := by
    rcases f b with h' | h'
    · rw [hbx] at h'; cases h'
    · exact h'
  have dom : ∀ {F : Frag}, F.le (Frag.of w) → F D = none := fun {F} hF => by
    cases hFD : F D with
    | none => rfl
    | some o' => have := (Array.getElem?_eq_some_iff.1 (hF D _ hFD)).1; omega
  have hne : D ≠ b := by omega
  have hold : ∀ k o, w.heap[k]? = some o → k ≠ b → w'.heap[k]? = some o := fun k o hk hne => by
    have hlt := (Array.getElem?_eq_some_iff.1 hk).1
    rw [h.block k hlt, World.putObj_heap_other hne]; exact hk
  have hnew : w'.heap[b]? = some (.cells cs'.toArray T (0, 0)) := by
    rw [h.block b hb]
    exact World.putObj_heap_same hb
  have d1 : (Frag.one b (.cells cs'.toArray T (0, 0))).disj h2 := fun k => by
    by_cases e : k = b
    · subst e; exact .inr h2n
    · left; simp [Frag.one, e]
  have hrest : ((Frag.one b (.cells cs'.toArray T (0, 0))).un h2).le (Frag.of w') := Frag.un_le (fun k o hk => by
      simp only [Frag.one] at hk
      split at hk
      · rename_i e; subst e; cases hk; exact hnew
      · cases hk) (fun k o hk => hold k o (hx k o (i k o hk)) fun e => by subst e; rw [h2n] at hk; cases hk)
  have d2 : (Frag.one D o).disj ((Frag.one b (.cells cs'.toArray T (0, 0))).un h2) := fun k => by
    by_cases e : k = D
    · subst e; right
      have := dom (i.trans hx)
      simp [Frag.un, Frag.one, hne, this]
    · left; simp [Frag.one, e]
  have dz : z.disj ((Frag.one b (.cells cs'.toArray T (0, 0))).un h2) := (Frag.un_disj (fun k => by
    by_cases e : k = b
    · subst e; exact .inr hzn
    · left; simp [Frag.one, e]) ((a.mono (Frag.le.refl _) i).symm)).symm
  refine ⟨⟨h.os.trans s.os, h.tape.trans s.tape, h.output.trans s.output⟩, z, (Frag.one D o).un ((Frag.one b (.cells cs'.toArray T (0, 0))).un h2), ?_, ?_, ?_, Frag.one D o, (Frag.one b (.cells cs'.toArray T (0, 0))).un h2, Frag.emp, Frag.emp_le _, d2, Frag.le_un_left _ _, Frag.le_un_right d2, ?_, Frag.one b (.cells cs'.toArray T (0, 0)), h2, z1, e, d1, Frag.le_un_left _ _, Frag.le_un_right d1, ?_, k⟩
  · refine (Frag.un_disj (fun k => ?_) dz.symm).symm
    by_cases e : k = D
    · subst e; exact .inr (dom hz)
    · left; simp [Frag.one, e]
  · intro k o hk
    have hne : k ≠ b := fun e => by subst e; rw [hzn] at hk; cases hk
    exact hold k o (hz k o hk) hne
  · refine Frag.un_le (fun k o' hk => ?_) hrest
    simp only [Frag.one] at hk
    split at hk
    · rename_i e; subst e; cases hk; exact ho
    · cases hk
  · show Frag.one D _ D = _
    simp [Frag.one]
  · show Frag.one b _ b = _
    simp [Frag.one]
theorem Sep.dropObj {D : Nat} {o o' : Obj} (hs : Sep κ w (ObjO D o :: L)) : Sep κ (w.putObj D o') L := by
  obtain ⟨s, z, x, a, hz, hx, h1, h2, z1, e, f, g, i, j, k⟩ := hs
  have hj : h1 D = some o := j
  have hzn : z D = none := by
    rcases a D with h' | h'
    · exact h'
    · have := g D _ hj; rw [h'] at this; cases this
  have h2n : h2 D = none := by
    rcases f D with h' | h'
    · rw [hj] at h'; cases h'
    · exact h'
  refine ⟨⟨s.os, s.tape, s.output⟩, z, h2, a.mono (Frag.le.refl _) i, fun k o hk => ?_, fun k o hk => ?_, k⟩
  · show (w.putObj D o').heap[k]? = some o
    rw [World.putObj_heap_other (fun e => by subst e; rw [hzn] at hk; cases hk)]; exact hz k o hk
  · show (w.putObj D o').heap[k]? = some o
    rw [World.putObj_heap_other (fun e => by subst e; rw [h2n] at hk; cases hk)]; exact hx k o (i k o hk)
/-- All but two blocks and block 0, as they are in W. -/
def OldX (W : World) (b b' : Nat) : Assn := fun _ h => ∀ j o, j ≠ b → j ≠ b' → j ≠ 0 → W.heap[j]? = some o → h j = some o
theorem Sep.old {W : World} {b b' : Nat} (hs : Sep κ w (OldX W b b' :: L)) {j : Nat} {o : Obj} (h1 : j ≠ b) (h2 : j ≠ b') (h3 : j ≠ 0) (hj : W.heap[j]? = some o) : w.heap[j]? = some o := by
  obtain ⟨_, z, x, _, _, c, h1', _, _, _, _, g, _, hO, _⟩ := hs
  exact c j _ (g j _ (hO j o h1 h2 h3 hj))
/-- A world, as what is ours of it: two blocks, the rest, and block 0 that does not change. -/
theorem Sep.here {W : World} {b b' : Nat} {T T' : TypeId} {cs cs' : List Value} (h0 : b ≠ 0) (h0' : b' ≠ 0) (hne : b ≠ b') (hb : W.heap[b]? = some (.cells cs.toArray T (0, 0))) (hb' : W.heap[b']? = some (.cells cs'.toArray T' (0, 0))) : Sep W W [Blk b T cs, Blk b' T' cs', OldX W b b', ro (fun z => z 0 = W.heap[0]?)] := by
  refine ⟨⟨rfl, rfl, rfl⟩, (fun j => if j = 0 then W.heap[0]? else none), (fun j => if j = 0 then none else W.heap[j]?), fun j => ?_, fun j o hj => ?_, fun j o hj => ?_, ?_⟩
  · by_cases e : j = 0
    · right; simp [e]
    · left; simp [e]
  · change (if j = 0 then W.heap[0]? else none) = some o at hj
    split at hj
    · rename_i e; subst e; exact hj
    · cases hj
  · change (if j = 0 then none else W.heap[j]?) = some o at hj
    split at hj
    · cases hj
    · exact hj
  · refine ⟨Frag.one b (.cells cs.toArray T (0, 0)), (fun j => if j = 0 ∨ j = b then none else W.heap[j]?), Frag.emp, Frag.emp_le _, fun j => ?_, fun j o hj => ?_, fun j o hj => ?_, by show Frag.one b _ b = _; simp [Frag.one], ?_⟩
    · by_cases e : j = b
      · right; simp [e]
      · left; simp [Frag.one, e]
    · simp only [Frag.one] at hj
      split at hj
      · rename_i e; subst e; cases hj; simp [h0, hb]
      · cases hj
    · simp only at hj ⊢
      split at hj
      · cases hj
      · rename_i e; rw [if_neg (fun e' => e (.inl e'))]; exact hj
    · refine ⟨Frag.one b' (.cells cs'.toArray T' (0, 0)), (fun j => if j = 0 ∨ j = b ∨ j = b' then none else W.heap[j]?), Frag.emp, Frag.emp_le _, fun j => ?_, fun j o hj => ?_, fun j o hj => ?_, by show Frag.one b' _ b' = _; simp [Frag.one], ?_⟩
      · by_cases e : j = b'
        · right; simp [e]
        · left; simp [Frag.one, e]
      · simp only [Frag.one] at hj
        split at hj
        · rename_i e; subst e; cases hj; simp [h0', hb', Ne.symm hne]
        · cases hj
      · simp only at hj ⊢
        split at hj
        · cases hj
        · rename_i e; rw [if_neg (fun e' => e (e'.elim .inl fun x => .inr (.inl x)))]; exact hj
      · refine ⟨(fun j => if j = 0 ∨ j = b ∨ j = b' then none else W.heap[j]?), Frag.emp, Frag.emp, Frag.emp_le _, fun _ => .inr rfl, Frag.le.refl _, Frag.emp_le _, fun j o k1 k2 k3 hj => ?_, ?_⟩
        · simp only; rw [if_neg (fun e => e.elim k3 fun e => e.elim k1 k2)]; exact hj
        · exact ⟨Frag.emp, Frag.emp, _, Frag.le.refl _, fun _ => .inl rfl, Frag.le.refl _, Frag.le.refl _, by show (if (0 : Nat) = 0 then W.heap[0]? else none) = _; rw [if_pos rfl], trivial⟩
theorem Sep.zero {W : World} (hs : Sep κ w (ro (fun z => z 0 = W.heap[0]?) :: L)) {o : Obj} (h : W.heap[0]? = some o) : w.heap[0]? = some o := by
  obtain ⟨z, hz, e⟩ := hs.get_ro (List.Mem.head _)
  exact hz 0 o (e.trans h)
end
end Go.Wk
namespace Go.Wk
open Go.RowKit
section
variable {P : Program} {f : FuncId} {k m : Nat} {κ : World} {K : Post} {al : List (Nat × Value)} {L L' : List Assn} {v : Value} {fn : Func} {c : Code}
/-- What a call comes to. -/
def RK (κ : World) (K : Post) : Ending → World → Prop := fun e w' => ∃ v, e = .returned v ∧ K.at κ v w'
theorem WG.enter {vs : List Value} (m : Nat) (hf : P.funcs[f]? = some fn) (hb : fn.body = some c) (hal : zipAl 0 vs = al) (hm : vs.length + (fn.ntmps - vs.length) = k)
    (h : WG P none m k κ [] (bodyPostM (Fw none) m P fn (RK κ K)) c al L) : Ctr P f vs.toArray κ L K := by
  subst hal; subst hm
  intro w hw
  refine (callsIn_wide (n := m)).1 (callsIn_of_wp_marks hf hb trivial (h _ w rfl ?_ hw) rfl)
  have hm' : vs.toArray.size + (fn.ntmps - vs.toArray.size) = vs.length + (fn.ntmps - vs.length) := by simp
  rw [← hm']
  exact Env.enter fun t v ht => by
    have := (look_zipAl vs 0 t v ht).2
    simpa using this
theorem ret_mark0 (hR : ReturnsOf P f k κ al L v) (hf : P.funcs[f]? = some fn) (hK : K v L') (hE : Ent L L') (a : Act) (w : World) (hd : a.defers = []) (he : Env k al { a with defers := [] }) (hs : Sep κ w L) : bodyPostM (Fw none) m P fn (RK κ K) .ret a w := by
  obtain ⟨fn', hf', h⟩ := hR
  cases hf.symm.trans hf'
  show LeavesInM (Fw none) m P fn a.tmps (RK κ K) a.defers .returning w
  rw [hd]
  exact ⟨v, h { a with defers := [] } w he hs, v, rfl, L', hK, hs.ent hE⟩
theorem ret_mark1 {D : Nat} (hR : ReturnsOf P f k κ al L v) (hf : P.funcs[f]? = some fn) (hK : K v L') (hE : Ent L L') (a : Act) (w : World) (hd : a.defers = [{ target := .collected D, args := #[] }]) (he : Env k al { a with defers := [] })
    (hs : Sep κ w (ObjO D (.deferred (some [])) :: L)) : bodyPostM (Fw none) m P fn (RK κ K) .ret a w := by
  obtain ⟨fn', hf', h⟩ := hR
  cases hf.symm.trans hf'
  show LeavesInM (Fw none) m P fn a.tmps (RK κ K) a.defers .returning w
  rw [hd]
  have hs' : Sep κ (w.putObj D (.deferred none)) L := hs.dropObj
  exact ⟨by simp, .inl ⟨D, _, rfl, run_takeDeferred hs.obj, v, h { a with defers := [] } _ he hs', v, rfl, L', hK, hs'.ent hE⟩⟩
end
end Go.Wk
