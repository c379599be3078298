/- Symbolic execution of a function's code over the assertions of the first text: the judgements and their rules. -/
import Derived.Test.YtilcnglcflohoaaCore
import Derived.Scope
namespace Go.Wk

/- 1. THE FRAME's SLOTS -/

def look : List (Nat × Value) → Nat → Option Value
  | [], _ => none
  | (k, v) :: r, t => bif Nat.beq k t then some v else look r t

structure Env (n : Nat) (al : List (Nat × Value)) (a : Act) : Prop where
  defers : a.defers = []
  size : a.tmps.size = n
  get : ∀ t v, look al t = some v → a.tmps.getD t undef = v

def upd (al : List (Nat × Value)) (d : Option Tmp) (v : Value) : List (Nat × Value) := match d with | some d => (d, v) :: al | none => al
def fits (n : Nat) : Option Tmp → Bool | some d => Nat.blt d n | none => true

theorem look_cons (k : Nat) (v : Value) (r : List (Nat × Value)) (t : Nat) : look ((k, v) :: r) t = if k = t then some v else look r t := by
  simp only [look]
  by_cases h : k = t
  · subst h; simp
  · cases hb : Nat.beq k t with
    | true => exact absurd (Nat.eq_of_beq_eq_true hb) h
    | false => simp [h]

theorem Env.put {n : Nat} {al : List (Nat × Value)} {a : Act} {d : Option Tmp} (h : Env n al a) (v : Value) (hd : fits n d = true) : Env n (upd al d v) (a.put d v) := by
  cases d with
  | none => exact h
  | some d =>
    have hd' : d < n := by simpa [fits] using hd
    refine ⟨h.defers, by simp [Act.put, h.size], fun t u ht => ?_⟩
    simp only [upd, look_cons] at ht
    have hs := h.size
    by_cases e : d = t
    · subst e
      rw [if_pos rfl] at ht; cases ht
      simp [Act.put, Array.getD, hs, hd']
    · rw [if_neg e] at ht
      have := h.get t u ht
      simp only [Act.put]
      rw [← this]
      simp [Array.getD_eq_getD_getElem?, e]

def ev (al : List (Nat × Value)) : Operand → Option Value
  | .tmp t => look al t
  | .const v => some v
  | .global g => some (.pointer (some ⟨g, 0, none⟩))
  | .func f => some (.func (.func f) #[] #[])
theorem Env.ev {n : Nat} {al : List (Nat × Value)} {a : Act} (h : Env n al a) {x : Operand} {v : Value} (hx : Wk.ev al x = some v) : a.eval x = v := by
  cases x with
  | tmp t => exact h.get t v hx
  | _ => simpa [Wk.ev, Act.eval] using hx

/-- The first has no slot that the second has not. -/
def EnvLe (al al' : List (Nat × Value)) : Prop := ∀ t v, look al t = some v → look al' t = some v
theorem EnvLe.refl (al : List (Nat × Value)) : EnvLe al al := fun _ _ h => h
theorem EnvLe.nil (al : List (Nat × Value)) : EnvLe [] al := fun _ _ h => by cases h
theorem EnvLe.cons {t : Nat} {v : Value} {al al' : List (Nat × Value)} (h : look al' t = some v) (h' : EnvLe al al') : EnvLe ((t, v) :: al) al' := fun s u hs => by
  rw [look_cons] at hs
  split at hs
  · rename_i e; subst e; cases hs; exact h
  · exact h' s u hs
theorem Env.le {n : Nat} {al al' : List (Nat × Value)} {a : Act} (h : Env n al' a) (hl : EnvLe al al') : Env n al a := ⟨h.defers, h.size, fun t v ht => h.get t v (hl t v ht)⟩

/- 2. THE JUDGEMENTS -/

def fb (f : FuncId) : Frame := { (default : Frame) with fn := f, kind := .normal }

/-- From this frame on function f returns, and R holds of what it returns and of the world then. -/
def G (P : Program) (f : FuncId) (todo : List Item) (a : Act) (w : World) (R : Value → World → Prop) : Prop :=
  ∀ cs, ∃ v w' fr, R v w' ∧ Steps P (lone ((fb f).at a todo) cs w) (lone fr cs w') ∧ fr.fn = f ∧ fr.leaving P w' (.returned v)

theorem G.step {P : Program} {f : FuncId} {todo todo' : List Item} {a a' : Act} {w w' : World} {R : Value → World → Prop}
    (h : ∀ cs, step P (lone ((fb f).at a todo) cs w) = .next (lone ((fb f).at a' todo') cs w')) (h' : G P f todo' a' w' R) : G P f todo a w R :=
  fun cs => let ⟨v, w'', fr, r, s, x⟩ := h' cs; ⟨v, w'', fr, r, .head (h cs) s, x⟩

abbrev Post := Value → List Assn → Prop
def Post.at (κ : World) (K : Post) (v : Value) (w : World) : Prop := ∃ L, K v L ∧ Sep κ w L

def SG (P : Program) (f : FuncId) (n : Nat) (κ : World) (K : Post) (todo : List Item) (al : List (Nat × Value)) (L : List Assn) : Prop :=
  ∀ a w, Env n al a → Sep κ w L → G P f todo a w (K.at κ)

/-- A CONTRACT: called with these values in a memory that holds L the function returns, K holds of what it returns and of what memory holds then. -/
def Ctr (P : Program) (f : FuncId) (args : Array Value) (κ : World) (L : List Assn) (K : Post) : Prop :=
  ∀ w, Sep κ w L → Calls P f args w fun e w' => ∃ v, e = .returned v ∧ K.at κ v w'

theorem Ctr.mono {P : Program} {f : FuncId} {args : Array Value} {κ : World} {L L' : List Assn} {K K' : Post} (h : Ctr P f args κ L K) (hL : Ent L' L)
    (hK : ∀ v M, K v M → K' v M) : Ctr P f args κ L' K' :=
  fun w hw => Calls.mono (h w (hw.ent hL)) fun _ _ ⟨v, e, M, hM, hs⟩ => ⟨v, e, M, hK v M hM, hs⟩

section
variable {P : Program} {f : FuncId} {n : Nat} {κ : World} {K : Post} {k : List Item} {al al' : List (Nat × Value)} {L L' : List Assn}

theorem SG.weaken (h : SG P f n κ K k al L) (ha : EnvLe al al') (hL : Ent L' L) : SG P f n κ K k al' L' :=
  fun a w he hs => h a w (he.le ha) (hs.ent hL)

theorem SG.sep (h : (∀ w, Sep κ w L → Sep κ w L') ∧ SG P f n κ K k al L') : SG P f n κ K k al L := fun a w he hs => h.2 a w he (h.1 w hs)

theorem SG.skip (h : SG P f n κ K k al L) : SG P f n κ K (.code .skip :: k) al L := fun a w he hs => G.step (fun _ => step_skip) (h a w he hs)
theorem SG.label {l : Nat} (h : SG P f n κ K k al L) : SG P f n κ K (.code (.label l) :: k) al L := fun a w he hs => G.step (fun _ => step_label) (h a w he hs)
theorem SG.seq {x y : Code} (h : SG P f n κ K (.code x :: .code y :: k) al L) : SG P f n κ K (.code (.seq x y) :: k) al L := fun a w he hs => G.step (fun _ => step_seq) (h a w he hs)
theorem SG.block {id : Nat} {c : Code} (h : SG P f n κ K (.code c :: .inBlock id :: k) al L) : SG P f n κ K (.code (.block id c) :: k) al L := fun a w he hs => G.step (fun _ => step_block) (h a w he hs)
theorem SG.inBlock {id : Nat} (h : SG P f n κ K k al L) : SG P f n κ K (.inBlock id :: k) al L := fun a w he hs => G.step (fun _ => step_inBlock) (h a w he hs)
theorem SG.scope {c : Code} (h : SG P f n κ K (.code c :: .inScope c :: k) al L) : SG P f n κ K (.code (.scope c) :: k) al L := fun a w he hs => G.step (fun _ => step_scope) (h a w he hs)
theorem SG.inScope {c : Code} (h : SG P f n κ K k al L) : SG P f n κ K (.inScope c :: k) al L := fun a w he hs => G.step (fun _ => step_inScope) (h a w he hs)
theorem SG.exit {id : Nat} {k' : List Item} (hk : exitTo id k = some k') (h : SG P f n κ K k' al L) : SG P f n κ K (.code (.exit id) :: k) al L :=
  fun a w he hs => G.step (fun _ => step_exit hk) (h a w he hs)
theorem SG.inLoop {c : Code} (h : SG P f n κ K (.code c :: .inLoop c :: k) al L) : SG P f n κ K (.inLoop c :: k) al L := fun a w he hs => G.step (fun _ => step_inLoop) (h a w he hs)
theorem SG.cond {c : Operand} {x y : Code} {t : Bool} (hc : ev al c = some (.bool t)) (h1 : t = true → SG P f n κ K (.code x :: k) al L)
    (h2 : t = false → SG P f n κ K (.code y :: k) al L) : SG P f n κ K (.code (.cond c x y) :: k) al L := fun a w he hs => by
  refine G.step (a' := a) (w' := w) (todo' := .code (if t then x else y) :: k) (fun _ => step_cond (he.ev hc)) ?_
  cases t with
  | true => exact h1 rfl a w he hs
  | false => exact h2 rfl a w he hs
theorem SG.cond_true {c : Operand} {x y : Code} (hc : ev al c = some (.bool true)) (h1 : SG P f n κ K (.code x :: k) al L) : SG P f n κ K (.code (.cond c x y) :: k) al L :=
  SG.cond hc (fun _ => h1) (fun e => by cases e)
theorem SG.cond_false {c : Operand} {x y : Code} (hc : ev al c = some (.bool false)) (h1 : SG P f n κ K (.code y :: k) al L) : SG P f n κ K (.code (.cond c x y) :: k) al L :=
  SG.cond hc (fun e => by cases e) (fun _ => h1)

/-- A loop: i says what holds at a round's head; μ goes down. -/
theorem SG.loop {ι : Type} {c : Code} (I : ι → Prop) (ef : ι → List (Nat × Value)) (lf : ι → List Assn) (μ : ι → Nat) (i0 : ι) (h0 : I i0) (ha : EnvLe (ef i0) al) (hL : Ent L (lf i0))
    (round : ∀ i, I i → (∀ i', I i' → μ i' < μ i → SG P f n κ K (.inLoop c :: k) (ef i') (lf i')) → SG P f n κ K (.code c :: .inLoop c :: k) (ef i) (lf i)) :
    SG P f n κ K (.code (.loop c) :: k) al L := by
  have key : ∀ m i, μ i = m → I i → SG P f n κ K (.code c :: .inLoop c :: k) (ef i) (lf i) := by
    intro m
    induction m using Nat.strongRecOn with
    | ind m ih => exact fun i hm hi => round i hi fun i' hi' hlt => SG.inLoop (ih (μ i') (hm ▸ hlt) i' rfl hi')
  exact fun a w he hs => G.step (fun _ => step_loop) (key _ i0 rfl h0 a w (he.le ha) (hs.ent hL))

/-- The end. -/
def ReturnsOf (P : Program) (f : FuncId) (n : Nat) (κ : World) (al : List (Nat × Value)) (L : List Assn) (v : Value) : Prop :=
  ∃ fn, P.funcs[f]? = some fn ∧ ∀ a w, Env n al a → Sep κ w L → (results fn a.tmps).run P w = .ok v w
theorem SG.ret {v : Value} (h : ReturnsOf P f n κ al L v) (hK : K v L) : SG P f n κ K (.code .ret :: k) al L := by
  intro a w he hs cs
  obtain ⟨fn, hf, hr⟩ := h
  exact ⟨v, w, _, ⟨L, hK, hs⟩, .one step_ret, rfl, rfl, he.defers, rfl, fn, hf, hr a w he hs⟩
theorem SG.done {v : Value} (h : ReturnsOf P f n κ al L v) (hK : K v L) : SG P f n κ K [] al L := by
  intro a w he hs cs
  obtain ⟨fn, hf, hr⟩ := h
  exact ⟨v, w, _, ⟨L, hK, hs⟩, .one step_end, rfl, rfl, he.defers, rfl, fn, hf, hr a w he hs⟩

theorem Ctr.intro {fn : Func} {c : Code} {args : Array Value} (hf : P.funcs[f]? = some fn) (hb : fn.body = some c) (al : List (Nat × Value))
    (hal : Env (args.size + (fn.ntmps - args.size)) al { tmps := args ++ Array.replicate (fn.ntmps - args.size) undef, defers := [] })
    (h : SG P f (args.size + (fn.ntmps - args.size)) κ K [.code c] al L) : Ctr P f args κ L K := by
  intro w hw cs
  have henter : Frame.enter P f args .normal = (fb f).at { tmps := args ++ Array.replicate (fn.ntmps - args.size) undef, defers := [] } [.code c] := by
    simp [Frame.enter, Frame.at, hf, hb, fb]
  obtain ⟨v, w', fr, hR, hs, hfn, hl⟩ := h _ w hal hw cs
  rw [← henter] at hs
  exact ⟨.returned v, w', fr, ⟨v, rfl, hR⟩, hs, hfn, hl⟩

/-- The slots at the beginning: the parameters. -/
theorem Env.enter {args : Array Value} {m : Nat} {al : List (Nat × Value)} (h : ∀ t v, look al t = some v → args[t]? = some v) :
    Env (args.size + m) al { tmps := args ++ Array.replicate m undef, defers := [] } := by
  refine ⟨rfl, by simp, fun t v ht => ?_⟩
  have := h t v ht
  rw [Array.getD_eq_getD_getElem?, Array.getElem?_append_left (Array.getElem?_eq_some_iff.1 this).1, this]
  rfl

/- 3. REGIONS -/

def RL (P : Program) (f : FuncId) (n : Nat) (κ : World) (K : Post) (k : List Item) (ops : Array Oper) (rest : List Oper) (al : List (Nat × Value)) (L : List Assn) : Prop :=
  ∀ a w, Env n al a → Sep κ w L → wpList P ops (fun e a' w' => e = .normal ∧ G P f k a' w' (K.at κ)) rest a w

theorem G.of_region {id : Nat} {ops : Array Oper} {d : Bool} {a : Act} {w : World} {R : Value → World → Prop}
    (h : (Code.region id ops d).wp P (fun e a' w' => e = .normal ∧ G P f k a' w' R) a w) : G P f (.code (.region id ops d) :: k) a w R := by
  intro cs
  obtain ⟨e, a', w', ⟨he, hg⟩, harr⟩ := h (fb f) k cs
  subst he
  obtain ⟨v, w'', fr, r, s, x⟩ := hg cs
  exact ⟨v, w'', fr, r, Steps.trans harr s, x⟩

theorem SG.region {id : Nat} {ops : List Oper} (h : RL P f n κ K k ops.toArray ops al L) : SG P f n κ K (.code (.region id ops.toArray false) :: k) al L :=
  fun a w he hs => G.of_region (wp_region_lit (h a w he hs))

variable {ops : Array Oper} {o : Oper} {rest : List Oper} {v : Value}

theorem RL.nil (h : SG P f n κ K k al L) : RL P f n κ K k ops [] al L := fun a w he hs => ⟨rfl, h a w he hs⟩

theorem RL.sep (h : (∀ w, Sep κ w L → Sep κ w L') ∧ RL P f n κ K k ops rest al L') : RL P f n κ K k ops rest al L := fun a w he hs => h.2 a w he (h.1 w hs)
theorem RL.weaken (h : RL P f n κ K k ops rest al L) (ha : EnvLe al al') (hL : Ent L' L) : RL P f n κ K k ops rest al' L' :=
  fun a w he hs => h a w (he.le ha) (hs.ent hL)

/-- The operation is carried out: it has no guard, or its guard says so. -/
def Wanted (n : Nat) (ops : Array Oper) (o : Oper) (al : List (Nat × Value)) (b : Bool) : Prop := ∀ a, Env n al a → Region.wanted o (yielded ops a.tmps) = b
theorem Wanted.free (h : o.guard = none) : Wanted n ops o al true := fun _ _ => by simp [Region.wanted, h]
theorem Wanted.by {j d : Nat} {x y : Bool} (h : o.guard = some (j, x)) (hd : (ops[j]?).bind (·.dst) = some d) (hn : Nat.blt d n = true) (hl : look al d = some (.bool y)) : Wanted n ops o al (y == x) := by
  intro a he
  have hlt : d < n := by simpa using hn
  have h2 := he.get d _ hl
  have h3 : a.tmps[d]? = some (.bool y) := by
    rw [Array.getD_eq_getD_getElem?] at h2
    cases e : a.tmps[d]? with
    | none => rw [Array.getElem?_eq_none_iff] at e; have := he.size; omega
    | some u => rw [e] at h2; simpa using h2
  simp only [Region.wanted, h, yielded, hd, Option.bind_some, h3]
  cases x <;> cases y <;> rfl

/-- It yields v and does nothing else. -/
def OpV (P : Program) (n : Nat) (κ : World) (al : List (Nat × Value)) (L : List Assn) (o : Oper) (v : Value) : Prop :=
  ∀ a w, Env n al a → Sep κ w L → (execOp a.eval o).run P w = .ok (.value v) w
/-- It yields a v and comes to memory that holds M, for which K holds. -/
def OpE (P : Program) (n : Nat) (κ : World) (al : List (Nat × Value)) (L : List Assn) (o : Oper) (K : Post) : Prop :=
  ∀ a w, Env n al a → Sep κ w L → o.wp P a w (fun a' w' => ∃ v, a' = a.put o.dst v ∧ K.at κ v w') (fun _ _ _ => False)

theorem Oper.wp_imp {o : Oper} {a : Act} {w : World} {K K' : Act → World → Prop} {Q Q' : Exit → Act → World → Prop} (h : ∀ a w, K a w → K' a w) (hQ : ∀ e a w, Q e a w → Q' e a w)
    (hh : o.wp P a w K Q) : o.wp P a w K' Q' := by
  unfold Oper.wp at *
  generalize (execOp a.eval o).run P w = r at *
  cases r with
  | ok m w' =>
    cases m <;> simp only [Oper.upon] at hh ⊢ <;>
      first
        | exact h _ _ hh
        | exact Calls.mono hh (fun e w'' he => by cases e <;> first | exact h _ _ he | exact hQ _ _ _ he | (obtain ⟨a0, w0, q⟩ := he; exact ⟨a0, w0, hQ _ _ _ q⟩))
        | exact Rows.mono hh (fun _ _ he => h _ _ he)
  | halt x w' => cases x <;> simp only [Oper.upon] at hh ⊢ <;> first | exact hQ _ _ _ hh | exact hh

theorem RL.val (hw : Wanted n ops o al true) (hv : OpV P n κ al L o v) (hd : fits n o.dst = true) (h : RL P f n κ K k ops rest (upd al o.dst v) L) : RL P f n κ K k ops (o :: rest) al L := by
  intro a w he hs
  refine wpList_step fun K' hK' => ?_
  rw [if_pos (hw a he)]
  simp only [Oper.wp, hv a w he hs, Oper.upon]
  exact hK' _ _ (h _ w (he.put v hd) hs)

theorem RL.eff {K' : Post} (hw : Wanted n ops o al true) (hv : OpE P n κ al L o K') (hd : fits n o.dst = true) (h : ∀ v L', K' v L' → RL P f n κ K k ops rest (upd al o.dst v) L') :
    RL P f n κ K k ops (o :: rest) al L := by
  intro a w he hs
  refine wpList_step fun K'' hK'' => ?_
  rw [if_pos (hw a he)]
  refine Oper.wp_imp ?_ (fun _ _ _ q => q.elim) (hv a w he hs)
  rintro a' w' ⟨v, rfl, M, hM, hs'⟩
  exact hK'' _ _ (h v M hM _ w' (he.put v hd) hs')

theorem RL.skip (hw : Wanted n ops o al false) (hd : fits n o.dst = true) (h : RL P f n κ K k ops rest (upd al o.dst undef) L) : RL P f n κ K k ops (o :: rest) al L := by
  intro a w he hs
  refine wpList_step fun K' hK' => ?_
  rw [if_neg (by simp [hw a he])]
  exact hK' _ _ (h _ w (he.put undef hd) hs)

/- 4. REGIONS THAT DRAW THEIR ORDER -/

section
variable {ops : Array Oper} {Q : Exit → Act → World → Prop} {md : Region.Mode} {S0 S : World → Prop} {x : Nat}
/-- The condition S stands until x has come up. -/
def Need (S : World → Prop) (x : Nat) (listed : Array Bool) (w : World) : Prop := listed.getD x false = true ∨ S w
/-- Like the kit's rule with a condition on the world; but behind operation x it need not hold: x is one that waits for those that read. -/
def wpAnyX (P : Program) (md : Region.Mode) (ops : Array Oper) (Q : Exit → Act → World → Prop) (S0 S : World → Prop) (x : Nat) : Nat → Array Bool → Act → World → Prop
  | 0, listed, a, w => Region.ready md ops listed = [] ∧ Q .normal a w
  | fuel + 1, listed, a, w =>
    (Region.ready md ops listed = [] → Q .normal a w) ∧
    ∀ i ∈ Region.ready md ops listed, wpOp P ops Q i (fun a' w' => (S0 w' ∧ Need S x (listed.setIfInBounds i true) w') ∧ wpAnyX P md ops Q S0 S x fuel (listed.setIfInBounds i true) a' w') a w
theorem wpAny_of_X : ∀ (fuel : Nat) (listed : Array Bool) (a : Act) (w : World), wpAnyX P md ops Q S0 S x fuel listed a w → wpAny P md ops Q fuel listed a w
  | 0, _, _, _, h => h
  | fuel + 1, _, _, _, h => ⟨h.1, fun i hi => wpOp_mono (fun a' w' h' => wpAny_of_X fuel _ a' w' h'.2) (h.2 i hi)⟩
/-- x waits for i. -/
def waits (md : Region.Mode) (ops : Array Oper) (x i : Nat) : Bool := match ops[x]? with
  | none => true
  | some o => o.after.any fun e => Region.binds md e && e.on == i
theorem waits_spec {i : Nat} (h : waits md ops x i = true) {ox : Oper} (hx : ops[x]? = some ox) : ∃ e ∈ ox.after, Region.binds md e = true ∧ e.on = i := by
  unfold waits at h
  rw [hx] at h
  obtain ⟨e, he, hb⟩ := Array.any_eq_true'.1 h
  simp only [Bool.and_eq_true, beq_iff_eq] at hb
  exact ⟨e, he, hb⟩
theorem wpAnyX_first (m : Bool) {i : Nat} {oi : Oper} {v : Value} (hi : ops[i]? = some oi) (hsel : ∀ (j : Nat) (o : Oper) cs b, ops[j]? = some o → o.op ≠ .select cs b)
    (hQ : ∀ c a w, Q (.panic c) (a.put oi.dst v) w → Q (.panic c) a w) (hix : i ≠ x) (hw : m = true → waits md ops x i = true) :
    ∀ (fuel : Nat) (listed : Array Bool) (a : Act) (w : World), (m = true → listed.getD x false = false) →
      (∀ j oj, ops[j]? = some oj → j ≠ i → listed.getD j true = false → (∀ e ∈ oj.after, Region.binds md e = true → e.on ≠ i) → oi.apart ops oj = true) →
      i ∈ Region.ready md ops listed → YieldsIf P ops (if m then S else S0) oi v a → S0 w ∧ Need S x listed w →
      wpAnyX P md ops Q S0 S x fuel (listed.setIfInBounds i true) (a.put oi.dst v) w → wpAnyX P md ops Q S0 S x (fuel + 1) listed a w := by
  have hT : ∀ (listed : Array Bool) (w : World), (m = true → listed.getD x false = false) → S0 w ∧ Need S x listed w → (if m then S else S0) w := by
    intro listed w hl hS
    cases m with
    | false => exact hS.1
    | true => rcases hS.2 with h | h
              · rw [hl rfl] at h; cases h
              · exact h
  have hN : ∀ (listed : Array Bool) (w : World), S0 w ∧ Need S x listed w → S0 w ∧ Need S x (listed.setIfInBounds i true) w := fun listed w hS =>
    ⟨hS.1, hS.2.imp (fun h => by rw [getD_set_ne false hix]; exact h) id⟩
  intro fuel
  induction fuel with
  | zero =>
    intro listed a w hlx _ hr hy hS H
    refine ⟨fun h => (by rw [h] at hr; cases hr), fun j hj => ?_⟩
    by_cases hji : j = i
    · subst hji; exact hy.wpOp hi (hT listed w hlx hS) ⟨hN listed w hS, H⟩
    · have := ready_mono hj hji
      rw [H.1] at this
      cases this
  | succ fuel ih =>
    intro listed a w hlx hfree hr hy hS H
    refine ⟨fun h => (by rw [h] at hr; cases hr), fun j hj => ?_⟩
    by_cases hji : j = i
    · subst hji; exact hy.wpOp hi (hT listed w hlx hS) ⟨hN listed w hS, H⟩
    · have h1 := H.2 j (ready_mono hj hji)
      obtain ⟨hjun, oj, hoj, hall⟩ := mem_ready.1 hj
      have hnot : ∀ e ∈ oj.after, Region.binds md e = true → e.on ≠ i := fun e he hb heq => by
        have h1 := hall e he hb
        have h0 := (mem_ready.1 hr).1
        rw [heq] at h1
        rcases Nat.lt_or_ge i listed.size with h' | h'
        · simp [h'] at h0 h1; rw [h0] at h1; cases h1
        · simp [Array.getElem?_eq_none h'] at h1
      have h2 := wpOp_putIf hoj (hfree j oj hoj hji hjun hnot) (fun cs b => hsel i oi cs b hi) (fun cs b => hsel j oj cs b hoj) hQ hy h1
      have hfree' : ∀ k ok, ops[k]? = some ok → k ≠ i → (listed.setIfInBounds j true).getD k true = false →
          (∀ e ∈ ok.after, Region.binds md e = true → e.on ≠ i) → oi.apart ops ok = true := fun k ok hk hki hun hno => by
        refine hfree k ok hk hki ?_ hno
        by_cases hjk : j = k
        · subst hjk; exact hjun
        · rw [getD_set_ne true hjk] at hun; exact hun
      have hjx : m = true → j ≠ x := fun hm e => by
        subst e
        obtain ⟨e, he, hb, heq⟩ := waits_spec (hw hm) hoj
        exact hnot e he hb heq
      have hcomm : (listed.setIfInBounds i true).setIfInBounds j true = (listed.setIfInBounds j true).setIfInBounds i true := (Array.setIfInBounds_comm _ _ hji).symm
      refine wpOp_mono (fun a' w' h3 => ?_) h2
      obtain ⟨hy', hS', hX'⟩ := h3
      have hS2 : S0 w' ∧ Need S x (listed.setIfInBounds j true) w' := ⟨hS'.1, hS'.2.imp (fun q => by rw [hcomm, getD_set_ne false hix] at q; exact q) id⟩
      refine ⟨hS2, ih (listed.setIfInBounds j true) a' w' (fun hm => by rw [getD_set_ne false (hjx hm)]; exact hlx hm) hfree' (ready_mono hr (Ne.symm hji)) hy' hS2 ?_⟩
      rw [← hcomm]; exact hX'
end

/-- 'listed': what has come up. L0: what holds throughout, until x has come up. -/
def RH (P : Program) (f : FuncId) (n : Nat) (κ : World) (K : Post) (k : List Item) (ops : Array Oper) (L0 : List Assn) (x fuel : Nat) (listed : Array Bool) (al : List (Nat × Value)) (L : List Assn) : Prop :=
  ∀ a w, Env n al a → Sep κ w L → (Need (fun w => Sep κ w L0) x listed w) → wpAnyX P .any ops (fun e a' w' => e = .normal ∧ G P f k a' w' (K.at κ)) (fun w => Sep κ w []) (fun w => Sep κ w L0) x fuel listed a w

theorem SG.draw {id : Nat} (L0 : List Assn) (x : Nat) (hm : P.follows .mixedOrders = true) (hL : Ent L L0) (h : RH P f n κ K k ops L0 x ops.size (Array.replicate ops.size false) al L) :
    SG P f n κ K (.code (.region id ops true) :: k) al L :=
  fun a _ he hs => G.of_region (wp_region_any hm (wpAny_of_X _ _ _ _ (h a _ he (hs.drew _) (.inr ((hs.drew _).ent hL)))))

variable {L0 : List Assn} {x fuel i : Nat} {listed : Array Bool}

theorem RH.done (hr : Region.ready .any ops listed = []) (h : SG P f n κ K k al L) : RH P f n κ K k ops L0 x fuel listed al L :=
  fun a w he hs _ => by
    cases fuel with
    | zero => exact ⟨hr, rfl, h a w he hs⟩
    | succ fuel => exact ⟨fun _ => ⟨rfl, h a w he hs⟩, by rw [hr]; simp⟩

theorem RH.val (i : Nat) (hi : ops[i]? = some o) (hs : Region.noSelect ops = true) (hf : Region.free .any ops listed i = true) (hr : (Region.ready .any ops listed).contains i = true)
    (hx : (waits .any ops x i && !listed.getD x false && !(Nat.beq i x)) = true)
    (hw : Wanted n ops o al true) (hv : OpV P n κ al L0 o v) (hd : fits n o.dst = true)
    (h : RH P f n κ K k ops L0 x fuel (listed.setIfInBounds i true) (upd al o.dst v) L) : RH P f n κ K k ops L0 x (fuel + 1) listed al L :=
  fun a w he hsep hneed => by
    simp only [Bool.and_eq_true, Bool.not_eq_true'] at hx
    have hix : i ≠ x := fun e => by have := hx.2; rw [e] at this; simp at this
    refine wpAnyX_first true hi (Region.noSelect_spec hs) (fun _ _ _ q => by cases q.1) hix (fun _ => hx.1.1) fuel listed a w (fun _ => hx.1.2) (Region.free_spec hi hf) (by simpa using hr) (.inl ⟨hw a he, fun w' hw' => hv a w' he (by simpa using hw')⟩) ⟨hsep.ent (Ent.nil _), hneed⟩ (h _ w (he.put v hd) hsep ?_)
    rcases hneed with q | q
    · rw [hx.1.2] at q; cases q
    · exact .inr q

/-- One that does not look at memory. -/
theorem RH.pure (i : Nat) (hi : ops[i]? = some o) (hs : Region.noSelect ops = true) (hf : Region.free .any ops listed i = true) (hr : (Region.ready .any ops listed).contains i = true)
    (hx : Nat.beq i x = false)
    (hw : Wanted n ops o al true) (hv : OpV P n κ al [] o v) (hd : fits n o.dst = true)
    (h : RH P f n κ K k ops L0 x fuel (listed.setIfInBounds i true) (upd al o.dst v) L) : RH P f n κ K k ops L0 x (fuel + 1) listed al L :=
  fun a w he hsep hneed => by
    have hix : i ≠ x := fun e => by rw [e] at hx; simp at hx
    exact wpAnyX_first false hi (Region.noSelect_spec hs) (fun _ _ _ q => by cases q.1) hix (fun h => by cases h) fuel listed a w (fun h => by cases h) (Region.free_spec hi hf) (by simpa using hr) (.inl ⟨hw a he, fun w' hw' => hv a w' he (by simpa using hw')⟩) ⟨hsep.ent (Ent.nil _), hneed⟩
      (h _ w (he.put v hd) hsep (hneed.imp (fun q => by rw [getD_set_ne false hix]; exact q) id))

theorem RH.skip (i : Nat) (hi : ops[i]? = some o) (hs : Region.noSelect ops = true) (hf : Region.free .any ops listed i = true) (hr : (Region.ready .any ops listed).contains i = true)
    (hx : Nat.beq i x = false)
    (hw : Wanted n ops o al false) (hd : fits n o.dst = true)
    (h : RH P f n κ K k ops L0 x fuel (listed.setIfInBounds i true) (upd al o.dst undef) L) : RH P f n κ K k ops L0 x (fuel + 1) listed al L :=
  fun a w he hsep hneed => by
    have hix : i ≠ x := fun e => by rw [e] at hx; simp at hx
    exact wpAnyX_first false hi (Region.noSelect_spec hs) (fun _ _ _ q => by cases q.1) hix (fun h => by cases h) fuel listed a w (fun h => by cases h) (Region.free_spec hi hf) (by simpa using hr) (.inr ⟨hw a he, rfl⟩) ⟨hsep.ent (Ent.nil _), hneed⟩
      (h _ w (he.put undef hd) hsep (hneed.imp (fun q => by rw [getD_set_ne false hix]; exact q) id))

/-- One that has its effect on memory, i, may come up next: what is to be shown of it. -/
def RHone (P : Program) (f : FuncId) (n : Nat) (κ : World) (K : Post) (k : List Item) (ops : Array Oper) (L0 : List Assn) (x fuel : Nat) (listed : Array Bool) (al : List (Nat × Value)) (L : List Assn) (i : Nat) : Prop :=
  ∀ a w, Env n al a → Sep κ w L → wpOp P ops (fun e a' w' => e = .normal ∧ G P f k a' w' (K.at κ)) i
    (fun a' w' => (Sep κ w' [] ∧ Need (fun w => Sep κ w L0) x (listed.setIfInBounds i true) w') ∧ wpAnyX P .any ops (fun e a' w' => e = .normal ∧ G P f k a' w' (K.at κ)) (fun w => Sep κ w []) (fun w => Sep κ w L0) x fuel (listed.setIfInBounds i true) a' w') a w

theorem RHone.eff {K' : Post} (hi : ops[i]? = some o) (hw : Wanted n ops o al true) (hv : OpE P n κ al L o K') (hd : fits n o.dst = true)
    (h : ∀ v L', K' v L' → ((listed.setIfInBounds i true).getD x false = true ∨ Ent L' L0) ∧ RH P f n κ K k ops L0 x fuel (listed.setIfInBounds i true) (upd al o.dst v) L') : RHone P f n κ K k ops L0 x fuel listed al L i := by
  intro a w he hs
  unfold wpOp
  simp only [hi, hw a he, if_true]
  refine .inl (Oper.wp_imp ?_ (fun _ _ _ q => q.elim) (hv a w he hs))
  rintro _ w' ⟨v, rfl, M, hM, hs'⟩
  obtain ⟨h1, h2⟩ := h v M hM
  have hneed : Need (fun w => Sep κ w L0) x (listed.setIfInBounds i true) w' := h1.imp id (fun q => hs'.ent q)
  exact ⟨⟨hs'.ent (Ent.nil _), hneed⟩, h2 _ w' (he.put v hd) hs' hneed⟩

theorem RH.alls {rs : List Nat} (hr : Region.ready .any ops listed = rs) (hne : rs ≠ []) (h : ∀ i ∈ rs, RHone P f n κ K k ops L0 x fuel listed al L i) : RH P f n κ K k ops L0 x (fuel + 1) listed al L :=
  fun a w he hs _ => ⟨fun h0 => absurd (hr ▸ h0) hne, fun j hj => h j (hr ▸ hj) a w he hs⟩
theorem RH.one (hr : Region.ready .any ops listed = [i]) (h : RHone P f n κ K k ops L0 x fuel listed al L i) : RH P f n κ K k ops L0 x (fuel + 1) listed al L :=
  RH.alls hr (by simp) fun j hj => by rw [List.mem_singleton] at hj; subst hj; exact h
theorem RH.two {i j : Nat} (hr : Region.ready .any ops listed = [i, j]) (h : RHone P f n κ K k ops L0 x fuel listed al L i) (h' : RHone P f n κ K k ops L0 x fuel listed al L j) :
    RH P f n κ K k ops L0 x (fuel + 1) listed al L :=
  RH.alls hr (by simp) fun m hm => by
    rcases List.mem_cons.1 hm with rfl | hm
    · exact h
    · rw [List.mem_singleton] at hm; subst hm; exact h'
theorem RH.three {i j l : Nat} (hr : Region.ready .any ops listed = [i, j, l]) (h : RHone P f n κ K k ops L0 x fuel listed al L i) (h' : RHone P f n κ K k ops L0 x fuel listed al L j)
    (h'' : RHone P f n κ K k ops L0 x fuel listed al L l) : RH P f n κ K k ops L0 x (fuel + 1) listed al L :=
  RH.alls hr (by simp) fun m hm => by
    rcases List.mem_cons.1 hm with rfl | hm
    · exact h
    · rcases List.mem_cons.1 hm with rfl | hm
      · exact h'
      · rw [List.mem_singleton] at hm; subst hm; exact h''
end
end Go.Wk
