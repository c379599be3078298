/- The walk of ReplicaLogs. -/
import Derived.Test.YtilcnglcflohoaaSlotEq
namespace Go.Proofs.Ytilcnglcflohoaa
open Go.Wk Go.Rp

theorem take_split {l l' : List Slot} {i : Nat} {s s' : Slot} (h : l[i]? = some s) (h' : l'[i]? = some s') : l.take (i + 1) = l'.take (i + 1) ↔ l.take i = l'.take i ∧ s = s' := by
  have hl := (List.getElem?_eq_some_iff.1 h).1
  have hl' := (List.getElem?_eq_some_iff.1 h').1
  rw [List.take_add_one, List.take_add_one, h, h']
  constructor
  · intro e
    have := List.append_inj e (by rw [List.length_take, List.length_take]; omega)
    exact ⟨this.1, by simpa using this.2⟩
  · rintro ⟨e, rfl⟩; rw [e]
set_option maxRecDepth 100000 in
theorem match_ok {κ : World} {L : List Assn} {a b : Option Addr} {n n' c c' : Nat} {l l' : List Slot} (hm : Sl RSlot a n c l ∈ L) (hm' : Sl RSlot b n' c' l' ∈ L) (hmt : ∀ (i : Nat) s s', l[i]? = some s → l'[i]? = some s' → s.term = s'.term → l.take (i + 1) = l'.take (i + 1)) :
    Ctr Try.prog 32 #[.slice a n c, .slice b n' c'] κ L (fun v M => v = vB true ∧ M = L) := by
  refine Ctr.enter (vs := [.slice a n c, .slice b n' c']) (m := 57) Try.func32 rfl rfl rfl ?_
  refine SG.sl hm fun hn _ _ => ?_
  refine SG.sl hm' fun hn' _ _ => ?_
  refine SG.seq ?_
  refine SG.region ?_
  refine RL.val (Wanted.free rfl) (V.assign rfl rfl) rfl ?_
  refine RL.nil ?_
  refine SG.seq ?_
  refine SG.region ?_
  refine RL.val (Wanted.free rfl) (V.assign rfl rfl) rfl ?_
  refine RL.nil ?_
  refine SG.seq ?_
  refine SG.seq ?_
  refine SG.region ?_
  refine RL.val (Wanted.free rfl) (V.assign rfl rfl) rfl ?_
  refine RL.nil ?_
  refine SG.block ?_
  refine SG.weaken (SG.loop2 (fun m al M => ∃ i : Nat, i ≤ n ∧ i ≤ n' ∧ m = n - i ∧ al = [(0, .slice a n c), (1, .slice b n' c'), (4, vB false), (5, vB (decide (l.take i = l'.take i))), (6, vI i)] ∧ M = L) (m0 := _) ⟨0, by omega, by omega, rfl, rfl, rfl⟩ ?_) ?_ ?_
  rotate_left
  · repeat (first | exact EnvLe.nil _ | refine EnvLe.cons rfl ?_)
  · repeat (first | exact Ent.refl _ | (apply Ent.cons; (· repeat (first | exact Pick.here | (refine Pick.sl ?_; (· repeat (first | exact List.Mem.head _ | assumption | apply List.Mem.tail))) | apply Pick.there))) | (refine Ent.trans (Ent.drop _ _) ?_))
  rintro _ _ _ ⟨i, hi, hi2, rfl, rfl, hM⟩ ih0
  subst hM
  refine SG.seq ?_
  refine SG.seq ?_
  refine SG.region ?_
  refine RL.val (Wanted.free rfl) (V.move rfl rfl) rfl ?_
  refine RL.val (Wanted.free rfl) (V.move rfl rfl) rfl ?_
  refine RL.val (Wanted.free rfl) (V.len rfl rfl el23.under rfl) rfl ?_
  refine RL.cmp (Wanted.free rfl) (V.bin rfl rfl rfl B.lss) rfl (fun h7 => ?_) (fun h7 => ?_)
  · skip
    refine RL.val (Wanted.free rfl) (V.move rfl rfl) rfl ?_
    refine RL.val (Wanted.yes rfl rfl rfl rfl) (V.move rfl rfl) rfl ?_
    refine RL.val (Wanted.yes rfl rfl rfl rfl) (V.move rfl rfl) rfl ?_
    refine RL.val (Wanted.yes rfl rfl rfl rfl) (V.len rfl rfl el23.under rfl) rfl ?_
    refine RL.cmp (Wanted.yes rfl rfl rfl rfl) (V.bin rfl rfl rfl B.lss) rfl (fun h12 => ?_) (fun h12 => ?_)
    · skip
      refine RL.val (Wanted.free rfl) (V.pick_true rfl rfl rfl) rfl ?_
      refine RL.nil ?_
      refine SG.cond_true rfl ?_
      refine SG.skip ?_
      refine SG.seq ?_
      refine SG.block ?_
      refine SG.seq ?_
      refine SG.seq ?_
      obtain ⟨s, hs⟩ : ∃ s, l[i]? = some s := ⟨_, List.getElem?_eq_getElem (by omega)⟩
      obtain ⟨s', hs'⟩ : ∃ s, l'[i]? = some s := ⟨_, List.getElem?_eq_getElem (by omega)⟩
      refine SG.elemDt (a := a) hm hs fun _ => ?_
      refine SG.elemDt (a := b) (List.Mem.tail _ hm') hs' fun _ => ?_
      refine SG.drawL 26 26 wide rfl rfl ?_
      refine RH.val 0 rfl (by kernel_rfl) (by kernel_rfl) (by kernel_rfl) (by kernel_rfl) (Wanted.free rfl) (V.move rfl rfl) rfl ?_
      refine RH.val 1 rfl (by kernel_rfl) (by kernel_rfl) (by kernel_rfl) (by kernel_rfl) (Wanted.free rfl) (V.move rfl rfl) rfl ?_
      refine RH.val 2 rfl (by kernel_rfl) (by kernel_rfl) (by kernel_rfl) (by kernel_rfl) (Wanted.free rfl) (V.indexSl (T := RSlot) (a := a) (l := l) (j := i) rfl el23.slice rfl rfl (by repeat (first | exact List.Mem.head _ | assumption | apply List.Mem.tail)) rfl (by omega)) rfl ?_
      refine RH.val 3 rfl (by kernel_rfl) (by kernel_rfl) (by kernel_rfl) (by kernel_rfl) (Wanted.free rfl) (V.fieldAt rfl rfl fo53_0 (by repeat (first | exact List.Mem.head _ | assumption | apply List.Mem.tail))) rfl ?_
      refine RH.val 4 rfl (by kernel_rfl) (by kernel_rfl) (by kernel_rfl) (by kernel_rfl) (Wanted.free rfl) (V.loadAtF rfl on3 rfl (by repeat (first | exact List.Mem.head _ | assumption | apply List.Mem.tail)) rfl) rfl ?_
      refine RH.val 5 rfl (by kernel_rfl) (by kernel_rfl) (by kernel_rfl) (by kernel_rfl) (Wanted.free rfl) (V.move rfl rfl) rfl ?_
      refine RH.val 6 rfl (by kernel_rfl) (by kernel_rfl) (by kernel_rfl) (by kernel_rfl) (Wanted.free rfl) (V.move rfl rfl) rfl ?_
      refine RH.val 7 rfl (by kernel_rfl) (by kernel_rfl) (by kernel_rfl) (by kernel_rfl) (Wanted.free rfl) (V.indexSl (T := RSlot) (a := b) (l := l') (j := i) rfl el23.slice rfl rfl (by repeat (first | exact List.Mem.head _ | assumption | apply List.Mem.tail)) rfl (by omega)) rfl ?_
      refine RH.val 8 rfl (by kernel_rfl) (by kernel_rfl) (by kernel_rfl) (by kernel_rfl) (Wanted.free rfl) (V.fieldAt rfl rfl fo53_0 (by repeat (first | exact List.Mem.head _ | assumption | apply List.Mem.tail))) rfl ?_
      refine RH.val 9 rfl (by kernel_rfl) (by kernel_rfl) (by kernel_rfl) (by kernel_rfl) (Wanted.free rfl) (V.loadAtF rfl on3 rfl (by repeat (first | exact List.Mem.head _ | assumption | apply List.Mem.tail)) rfl) rfl ?_
      refine RH.cmp 10 rfl (by kernel_rfl) (by kernel_rfl) (by kernel_rfl) (by kernel_rfl) (Wanted.free rfl) (V.bin rfl rfl rfl B.eql) rfl (fun h23 => ?_) (fun h23 => ?_)
      · skip
        obtain ⟨hte, hse⟩ := (take_split hs hs').1 (hmt i s s' hs hs' h23)
        rw [decide_eq_true hte]
        refine RH.val 11 rfl (by kernel_rfl) (by kernel_rfl) (by kernel_rfl) (by kernel_rfl) (Wanted.free rfl) (V.move rfl rfl) rfl ?_
        refine RH.val 12 rfl (by kernel_rfl) (by kernel_rfl) (by kernel_rfl) (by kernel_rfl) (Wanted.yes rfl rfl rfl rfl) (V.move rfl rfl) rfl ?_
        refine RH.pure 13 rfl (by kernel_rfl) (by kernel_rfl) (by kernel_rfl) (by kernel_rfl) (Wanted.yes rfl rfl rfl rfl) (V.not rfl rfl) rfl ?_
        refine RH.val 14 rfl (by kernel_rfl) (by kernel_rfl) (by kernel_rfl) (by kernel_rfl) (Wanted.yes rfl rfl rfl rfl) (V.move rfl rfl) rfl ?_
        refine RH.val 15 rfl (by kernel_rfl) (by kernel_rfl) (by kernel_rfl) (by kernel_rfl) (Wanted.yes rfl rfl rfl rfl) (V.move rfl rfl) rfl ?_
        refine RH.val 16 rfl (by kernel_rfl) (by kernel_rfl) (by kernel_rfl) (by kernel_rfl) (Wanted.yes rfl rfl rfl rfl) (V.move rfl rfl) rfl ?_
        refine RH.val 17 rfl (by kernel_rfl) (by kernel_rfl) (by kernel_rfl) (by kernel_rfl) (Wanted.yes rfl rfl rfl rfl) (V.indexSl (T := RSlot) (a := a) (l := l) (j := i) rfl el23.slice rfl rfl (by repeat (first | exact List.Mem.head _ | assumption | apply List.Mem.tail)) rfl (by omega)) rfl ?_
        refine RH.val 18 rfl (by kernel_rfl) (by kernel_rfl) (by kernel_rfl) (by kernel_rfl) (Wanted.yes rfl rfl rfl rfl) (V.loadSlDt (l := l) (j := i) rfl ag53 rfl (by repeat (first | exact List.Mem.head _ | assumption | apply List.Mem.tail)) hs) rfl ?_
        refine RH.val 19 rfl (by kernel_rfl) (by kernel_rfl) (by kernel_rfl) (by kernel_rfl) (Wanted.yes rfl rfl rfl rfl) (V.move rfl rfl) rfl ?_
        refine RH.val 20 rfl (by kernel_rfl) (by kernel_rfl) (by kernel_rfl) (by kernel_rfl) (Wanted.yes rfl rfl rfl rfl) (V.move rfl rfl) rfl ?_
        refine RH.val 21 rfl (by kernel_rfl) (by kernel_rfl) (by kernel_rfl) (by kernel_rfl) (Wanted.yes rfl rfl rfl rfl) (V.indexSl (T := RSlot) (a := b) (l := l') (j := i) rfl el23.slice rfl rfl (by repeat (first | exact List.Mem.head _ | assumption | apply List.Mem.tail)) rfl (by omega)) rfl ?_
        refine RH.val 22 rfl (by kernel_rfl) (by kernel_rfl) (by kernel_rfl) (by kernel_rfl) (Wanted.yes rfl rfl rfl rfl) (V.loadSlDt (l := l') (j := i) rfl ag53 rfl (by repeat (first | exact List.Mem.head _ | assumption | apply List.Mem.tail)) hs') rfl ?_
        refine RH.cmpF 23 rfl (by kernel_rfl) (by kernel_rfl) (by kernel_rfl) (by kernel_rfl) (Wanted.yes rfl rfl rfl rfl) (V.neqSlot rfl rfl rfl) rfl (fun h => h hse) ?_
        refine RH.pure 24 rfl (by kernel_rfl) (by kernel_rfl) (by kernel_rfl) (by kernel_rfl) (Wanted.yes rfl rfl rfl rfl) (V.pick_false rfl rfl rfl) rfl ?_
        refine RH.pure 25 rfl (by kernel_rfl) (by kernel_rfl) (by kernel_rfl) (by kernel_rfl) (Wanted.free rfl) (V.pick_true rfl rfl rfl) rfl ?_
        refine RH.done (by kernel_rfl) ?_
        refine SG.cond_false rfl ?_
        refine SG.skip ?_
        refine SG.drawL 13 13 wide rfl rfl ?_
        refine RH.val 0 rfl (by kernel_rfl) (by kernel_rfl) (by kernel_rfl) (by kernel_rfl) (Wanted.free rfl) (V.move rfl rfl) rfl ?_
        refine RH.val 1 rfl (by kernel_rfl) (by kernel_rfl) (by kernel_rfl) (by kernel_rfl) (Wanted.free rfl) (V.move rfl rfl) rfl ?_
        refine RH.val 2 rfl (by kernel_rfl) (by kernel_rfl) (by kernel_rfl) (by kernel_rfl) (Wanted.yes rfl rfl rfl rfl) (V.move rfl rfl) rfl ?_
        refine RH.val 3 rfl (by kernel_rfl) (by kernel_rfl) (by kernel_rfl) (by kernel_rfl) (Wanted.yes rfl rfl rfl rfl) (V.move rfl rfl) rfl ?_
        refine RH.val 4 rfl (by kernel_rfl) (by kernel_rfl) (by kernel_rfl) (by kernel_rfl) (Wanted.yes rfl rfl rfl rfl) (V.indexSl (T := RSlot) (a := a) (l := l) (j := i) rfl el23.slice rfl rfl (by repeat (first | exact List.Mem.head _ | assumption | apply List.Mem.tail)) rfl (by omega)) rfl ?_
        refine RH.val 5 rfl (by kernel_rfl) (by kernel_rfl) (by kernel_rfl) (by kernel_rfl) (Wanted.yes rfl rfl rfl rfl) (V.loadSlDt (l := l) (j := i) rfl ag53 rfl (by repeat (first | exact List.Mem.head _ | assumption | apply List.Mem.tail)) hs) rfl ?_
        refine RH.val 6 rfl (by kernel_rfl) (by kernel_rfl) (by kernel_rfl) (by kernel_rfl) (Wanted.yes rfl rfl rfl rfl) (V.move rfl rfl) rfl ?_
        refine RH.val 7 rfl (by kernel_rfl) (by kernel_rfl) (by kernel_rfl) (by kernel_rfl) (Wanted.yes rfl rfl rfl rfl) (V.move rfl rfl) rfl ?_
        refine RH.val 8 rfl (by kernel_rfl) (by kernel_rfl) (by kernel_rfl) (by kernel_rfl) (Wanted.yes rfl rfl rfl rfl) (V.indexSl (T := RSlot) (a := b) (l := l') (j := i) rfl el23.slice rfl rfl (by repeat (first | exact List.Mem.head _ | assumption | apply List.Mem.tail)) rfl (by omega)) rfl ?_
        refine RH.val 9 rfl (by kernel_rfl) (by kernel_rfl) (by kernel_rfl) (by kernel_rfl) (Wanted.yes rfl rfl rfl rfl) (V.loadSlDt (l := l') (j := i) rfl ag53 rfl (by repeat (first | exact List.Mem.head _ | assumption | apply List.Mem.tail)) hs') rfl ?_
        refine RH.cmpT 10 rfl (by kernel_rfl) (by kernel_rfl) (by kernel_rfl) (by kernel_rfl) (Wanted.yes rfl rfl rfl rfl) (V.eqlSlot rfl rfl rfl) rfl hse ?_
        refine RH.pure 11 rfl (by kernel_rfl) (by kernel_rfl) (by kernel_rfl) (by kernel_rfl) (Wanted.free rfl) (V.pick_true rfl rfl rfl) rfl ?_
        refine RH.val 12 rfl (by kernel_rfl) (by kernel_rfl) (by kernel_rfl) (by kernel_rfl) (Wanted.free rfl) (V.assign rfl rfl) rfl ?_
        refine RH.done (by kernel_rfl) ?_
        refine SG.inBlock ?_
        refine SG.region ?_
        refine RL.val (Wanted.free rfl) (V.move rfl rfl) rfl ?_
        refine RL.val (Wanted.free rfl) (V.bin rfl rfl rfl (B.addI (by omega) (by omega))) rfl ?_
        refine RL.val (Wanted.free rfl) (V.assign rfl rfl) rfl ?_
        refine RL.nil ?_
        have hd : decide (l.take (i + 1) = l'.take (i + 1)) = true := decide_eq_true ((take_split hs hs').2 ⟨hte, hse⟩)
        refine SG.weaken (ih0 _ _ _ ?_ ⟨i + 1, by omega, by omega, rfl, rfl, rfl⟩) ?_ ?_
        · omega
        · repeat (first | exact EnvLe.nil _ | refine EnvLe.cons (by first | rfl | (rw [hd]; rfl)) ?_)
        · repeat (first | exact Ent.refl _ | (apply Ent.cons; (· repeat (first | exact Pick.here | (refine Pick.sl ?_; (· repeat (first | exact List.Mem.head _ | assumption | apply List.Mem.tail))) | apply Pick.there))) | (refine Ent.trans (Ent.drop _ _) ?_))
      · skip
        refine RH.val 11 rfl (by kernel_rfl) (by kernel_rfl) (by kernel_rfl) (by kernel_rfl) (Wanted.free rfl) (V.move rfl rfl) rfl ?_
        refine RH.skip 12 rfl (by kernel_rfl) (by kernel_rfl) (by kernel_rfl) (by kernel_rfl) (Wanted.no rfl rfl rfl rfl rfl) rfl ?_
        refine RH.skip 13 rfl (by kernel_rfl) (by kernel_rfl) (by kernel_rfl) (by kernel_rfl) (Wanted.no rfl rfl rfl rfl rfl) rfl ?_
        refine RH.skip 14 rfl (by kernel_rfl) (by kernel_rfl) (by kernel_rfl) (by kernel_rfl) (Wanted.no rfl rfl rfl rfl rfl) rfl ?_
        refine RH.skip 15 rfl (by kernel_rfl) (by kernel_rfl) (by kernel_rfl) (by kernel_rfl) (Wanted.un rfl rfl rfl) rfl ?_
        refine RH.skip 16 rfl (by kernel_rfl) (by kernel_rfl) (by kernel_rfl) (by kernel_rfl) (Wanted.un rfl rfl rfl) rfl ?_
        refine RH.skip 17 rfl (by kernel_rfl) (by kernel_rfl) (by kernel_rfl) (by kernel_rfl) (Wanted.un rfl rfl rfl) rfl ?_
        refine RH.skip 18 rfl (by kernel_rfl) (by kernel_rfl) (by kernel_rfl) (by kernel_rfl) (Wanted.un rfl rfl rfl) rfl ?_
        refine RH.skip 19 rfl (by kernel_rfl) (by kernel_rfl) (by kernel_rfl) (by kernel_rfl) (Wanted.un rfl rfl rfl) rfl ?_
        refine RH.skip 20 rfl (by kernel_rfl) (by kernel_rfl) (by kernel_rfl) (by kernel_rfl) (Wanted.un rfl rfl rfl) rfl ?_
        refine RH.skip 21 rfl (by kernel_rfl) (by kernel_rfl) (by kernel_rfl) (by kernel_rfl) (Wanted.un rfl rfl rfl) rfl ?_
        refine RH.skip 22 rfl (by kernel_rfl) (by kernel_rfl) (by kernel_rfl) (by kernel_rfl) (Wanted.un rfl rfl rfl) rfl ?_
        refine RH.skip 23 rfl (by kernel_rfl) (by kernel_rfl) (by kernel_rfl) (by kernel_rfl) (Wanted.un rfl rfl rfl) rfl ?_
        refine RH.skip 24 rfl (by kernel_rfl) (by kernel_rfl) (by kernel_rfl) (by kernel_rfl) (Wanted.no rfl rfl rfl rfl rfl) rfl ?_
        refine RH.pure 25 rfl (by kernel_rfl) (by kernel_rfl) (by kernel_rfl) (by kernel_rfl) (Wanted.free rfl) (V.pick_false rfl rfl rfl) rfl ?_
        refine RH.done (by kernel_rfl) ?_
        refine SG.cond_false rfl ?_
        refine SG.skip ?_
        refine SG.drawL 13 13 wide rfl rfl ?_
        refine RH.val 0 rfl (by kernel_rfl) (by kernel_rfl) (by kernel_rfl) (by kernel_rfl) (Wanted.free rfl) (V.move rfl rfl) rfl ?_
        refine RH.val 1 rfl (by kernel_rfl) (by kernel_rfl) (by kernel_rfl) (by kernel_rfl) (Wanted.free rfl) (V.move rfl rfl) rfl ?_
        refine RH.split 46 rfl (fun g52 => ?_) (fun g52 => ?_)
        · skip
          refine RH.val 2 rfl (by kernel_rfl) (by kernel_rfl) (by kernel_rfl) (by kernel_rfl) (Wanted.yes rfl rfl rfl rfl) (V.move rfl rfl) rfl ?_
          refine RH.val 3 rfl (by kernel_rfl) (by kernel_rfl) (by kernel_rfl) (by kernel_rfl) (Wanted.yes rfl rfl rfl rfl) (V.move rfl rfl) rfl ?_
          refine RH.val 4 rfl (by kernel_rfl) (by kernel_rfl) (by kernel_rfl) (by kernel_rfl) (Wanted.yes rfl rfl rfl rfl) (V.indexSl (T := RSlot) (a := a) (l := l) (j := i) rfl el23.slice rfl rfl (by repeat (first | exact List.Mem.head _ | assumption | apply List.Mem.tail)) rfl (by omega)) rfl ?_
          refine RH.val 5 rfl (by kernel_rfl) (by kernel_rfl) (by kernel_rfl) (by kernel_rfl) (Wanted.yes rfl rfl rfl rfl) (V.loadSlDt (l := l) (j := i) rfl ag53 rfl (by repeat (first | exact List.Mem.head _ | assumption | apply List.Mem.tail)) hs) rfl ?_
          refine RH.val 6 rfl (by kernel_rfl) (by kernel_rfl) (by kernel_rfl) (by kernel_rfl) (Wanted.yes rfl rfl rfl rfl) (V.move rfl rfl) rfl ?_
          refine RH.val 7 rfl (by kernel_rfl) (by kernel_rfl) (by kernel_rfl) (by kernel_rfl) (Wanted.yes rfl rfl rfl rfl) (V.move rfl rfl) rfl ?_
          refine RH.val 8 rfl (by kernel_rfl) (by kernel_rfl) (by kernel_rfl) (by kernel_rfl) (Wanted.yes rfl rfl rfl rfl) (V.indexSl (T := RSlot) (a := b) (l := l') (j := i) rfl el23.slice rfl rfl (by repeat (first | exact List.Mem.head _ | assumption | apply List.Mem.tail)) rfl (by omega)) rfl ?_
          refine RH.val 9 rfl (by kernel_rfl) (by kernel_rfl) (by kernel_rfl) (by kernel_rfl) (Wanted.yes rfl rfl rfl rfl) (V.loadSlDt (l := l') (j := i) rfl ag53 rfl (by repeat (first | exact List.Mem.head _ | assumption | apply List.Mem.tail)) hs') rfl ?_
          refine RH.cmpF 10 rfl (by kernel_rfl) (by kernel_rfl) (by kernel_rfl) (by kernel_rfl) (Wanted.yes rfl rfl rfl rfl) (V.eqlSlot rfl rfl rfl) rfl (fun h => by have e := congrArg Slot.term h; omega) ?_
          refine RH.pure 11 rfl (by kernel_rfl) (by kernel_rfl) (by kernel_rfl) (by kernel_rfl) (Wanted.free rfl) (V.pick_true rfl rfl rfl) rfl ?_
          refine RH.val 12 rfl (by kernel_rfl) (by kernel_rfl) (by kernel_rfl) (by kernel_rfl) (Wanted.free rfl) (V.assign rfl rfl) rfl ?_
          refine RH.done (by kernel_rfl) ?_
          refine SG.inBlock ?_
          refine SG.region ?_
          refine RL.val (Wanted.free rfl) (V.move rfl rfl) rfl ?_
          refine RL.val (Wanted.free rfl) (V.bin rfl rfl rfl (B.addI (by omega) (by omega))) rfl ?_
          refine RL.val (Wanted.free rfl) (V.assign rfl rfl) rfl ?_
          refine RL.nil ?_
          have hd : decide (l.take (i + 1) = l'.take (i + 1)) = false := decide_eq_false (fun h => by have e := congrArg Slot.term ((take_split hs hs').1 h).2; omega)
          refine SG.weaken (ih0 _ _ _ ?_ ⟨i + 1, by omega, by omega, rfl, rfl, rfl⟩) ?_ ?_
          · omega
          · repeat (first | exact EnvLe.nil _ | refine EnvLe.cons (by first | rfl | (rw [hd]; rfl)) ?_)
          · repeat (first | exact Ent.refl _ | (apply Ent.cons; (· repeat (first | exact Pick.here | (refine Pick.sl ?_; (· repeat (first | exact List.Mem.head _ | assumption | apply List.Mem.tail))) | apply Pick.there))) | (refine Ent.trans (Ent.drop _ _) ?_))
        · skip
          refine RH.skip 2 rfl (by kernel_rfl) (by kernel_rfl) (by kernel_rfl) (by kernel_rfl) (Wanted.no rfl rfl rfl rfl rfl) rfl ?_
          refine RH.skip 3 rfl (by kernel_rfl) (by kernel_rfl) (by kernel_rfl) (by kernel_rfl) (Wanted.no rfl rfl rfl rfl rfl) rfl ?_
          refine RH.skip 4 rfl (by kernel_rfl) (by kernel_rfl) (by kernel_rfl) (by kernel_rfl) (Wanted.no rfl rfl rfl rfl rfl) rfl ?_
          refine RH.skip 5 rfl (by kernel_rfl) (by kernel_rfl) (by kernel_rfl) (by kernel_rfl) (Wanted.no rfl rfl rfl rfl rfl) rfl ?_
          refine RH.skip 6 rfl (by kernel_rfl) (by kernel_rfl) (by kernel_rfl) (by kernel_rfl) (Wanted.no rfl rfl rfl rfl rfl) rfl ?_
          refine RH.skip 7 rfl (by kernel_rfl) (by kernel_rfl) (by kernel_rfl) (by kernel_rfl) (Wanted.no rfl rfl rfl rfl rfl) rfl ?_
          refine RH.skip 8 rfl (by kernel_rfl) (by kernel_rfl) (by kernel_rfl) (by kernel_rfl) (Wanted.no rfl rfl rfl rfl rfl) rfl ?_
          refine RH.skip 9 rfl (by kernel_rfl) (by kernel_rfl) (by kernel_rfl) (by kernel_rfl) (Wanted.no rfl rfl rfl rfl rfl) rfl ?_
          refine RH.skip 10 rfl (by kernel_rfl) (by kernel_rfl) (by kernel_rfl) (by kernel_rfl) (Wanted.no rfl rfl rfl rfl rfl) rfl ?_
          refine RH.pure 11 rfl (by kernel_rfl) (by kernel_rfl) (by kernel_rfl) (by kernel_rfl) (Wanted.free rfl) (V.pick_false rfl rfl rfl) rfl ?_
          refine RH.val 12 rfl (by kernel_rfl) (by kernel_rfl) (by kernel_rfl) (by kernel_rfl) (Wanted.free rfl) (V.assign rfl rfl) rfl ?_
          refine RH.done (by kernel_rfl) ?_
          refine SG.inBlock ?_
          refine SG.region ?_
          refine RL.val (Wanted.free rfl) (V.move rfl rfl) rfl ?_
          refine RL.val (Wanted.free rfl) (V.bin rfl rfl rfl (B.addI (by omega) (by omega))) rfl ?_
          refine RL.val (Wanted.free rfl) (V.assign rfl rfl) rfl ?_
          refine RL.nil ?_
          have hd : decide (l.take (i + 1) = l'.take (i + 1)) = false := decide_eq_false (fun h => by have e := congrArg Slot.term ((take_split hs hs').1 h).2; omega)
          refine SG.weaken (ih0 _ _ _ ?_ ⟨i + 1, by omega, by omega, rfl, rfl, rfl⟩) ?_ ?_
          · omega
          · repeat (first | exact EnvLe.nil _ | refine EnvLe.cons (by first | rfl | (rw [hd]; rfl)) ?_)
          · repeat (first | exact Ent.refl _ | (apply Ent.cons; (· repeat (first | exact Pick.here | (refine Pick.sl ?_; (· repeat (first | exact List.Mem.head _ | assumption | apply List.Mem.tail))) | apply Pick.there))) | (refine Ent.trans (Ent.drop _ _) ?_))
    · skip
      refine RL.val (Wanted.free rfl) (V.pick_true rfl rfl rfl) rfl ?_
      refine RL.nil ?_
      refine SG.cond_false rfl ?_
      refine SG.exit rfl ?_
      refine SG.seq ?_
      refine SG.region ?_
      refine RL.val (Wanted.free rfl) (V.assign rfl rfl) rfl ?_
      refine RL.nil ?_
      refine SG.retE (Ret.r1 Try.func32 rfl (.tmp rfl)) ?_ ⟨rfl, rfl⟩
      repeat (first | exact Ent.refl _ | (apply Ent.cons; (· repeat (first | exact Pick.here | (refine Pick.sl ?_; (· repeat (first | exact List.Mem.head _ | assumption | apply List.Mem.tail))) | apply Pick.there))) | (refine Ent.trans (Ent.drop _ _) ?_))
  · skip
    refine RL.val (Wanted.free rfl) (V.move rfl rfl) rfl ?_
    refine RL.skip (Wanted.no rfl rfl rfl rfl rfl) rfl ?_
    refine RL.skip (Wanted.no rfl rfl rfl rfl rfl) rfl ?_
    refine RL.skip (Wanted.no rfl rfl rfl rfl rfl) rfl ?_
    refine RL.skip (Wanted.no rfl rfl rfl rfl rfl) rfl ?_
    refine RL.val (Wanted.free rfl) (V.pick_false rfl rfl rfl) rfl ?_
    refine RL.nil ?_
    refine SG.cond_false rfl ?_
    refine SG.exit rfl ?_
    refine SG.seq ?_
    refine SG.region ?_
    refine RL.val (Wanted.free rfl) (V.assign rfl rfl) rfl ?_
    refine RL.nil ?_
    refine SG.retE (Ret.r1 Try.func32 rfl (.tmp rfl)) ?_ ⟨rfl, rfl⟩
    repeat (first | exact Ent.refl _ | (apply Ent.cons; (· repeat (first | exact Pick.here | (refine Pick.sl ?_; (· repeat (first | exact List.Mem.head _ | assumption | apply List.Mem.tail))) | apply Pick.there))) | (refine Ent.trans (Ent.drop _ _) ?_))

set_option maxRecDepth 100000 in
set_option maxHeartbeats 1000000 in
theorem logs_law {κ : World} {L : List Assn} {n : Int} (hn : inInt n) {a : Option Addr} {k cc : Nat} {l : List Int} (hm : Sl RI a k cc l ∈ L) :
    Ctr Try.prog 7 #[vI n, .slice a k cc] κ L (fun v M => v = vB true ∧ M = L) := by
  refine Ctr.enter (vs := [vI n, .slice a k cc]) (m := 89) Try.func7 rfl rfl rfl ?_
  refine SG.seq ?_
  refine SG.region ?_
  refine RL.val (Wanted.free rfl) (V.assign rfl rfl) rfl ?_
  refine RL.nil ?_
  refine SG.seq ?_
  refine SG.region ?_
  refine RL.val (Wanted.free rfl) (V.move rfl rfl) rfl ?_
  refine RL.val (Wanted.free rfl) (V.move rfl rfl) rfl ?_
  refine RL.eff (Wanted.free rfl) (E.call rfl go15 rfl (run_ok hn (by repeat (first | exact List.Mem.head _ | assumption | apply List.Mem.tail)))) rfl ?_
  rintro _ _ ⟨a5, c5, rfl, rfl⟩
  obtain ⟨N, G, h1, h5, hG, hHl, hH⟩ := runV_facts n l
  generalize runV n l = H at hHl hH ⊢
  refine RL.val (Wanted.free rfl) (V.move rfl rfl) rfl ?_
  refine RL.val (Wanted.free rfl) (V.extract rfl rfl rfl) rfl ?_
  refine RL.val (Wanted.free rfl) (V.extract rfl rfl rfl) rfl ?_
  refine RL.val (Wanted.free rfl) (V.assign rfl rfl) rfl ?_
  refine RL.val (Wanted.free rfl) (V.assign rfl rfl) rfl ?_
  refine RL.nil ?_
  refine SG.seq ?_
  refine SG.seq ?_
  refine SG.region ?_
  refine RL.val (Wanted.free rfl) (V.move rfl rfl) rfl ?_
  refine RL.val (Wanted.free rfl) (V.not rfl rfl) rfl ?_
  refine RL.nil ?_
  refine SG.cond_false rfl ?_
  refine SG.skip ?_
  refine SG.seq ?_
  refine SG.seq ?_
  refine SG.region ?_
  refine RL.val (Wanted.free rfl) (V.assign rfl rfl) rfl ?_
  refine RL.nil ?_
  refine SG.block ?_
  refine SG.weaken (SG.loop2 (fun m al M => ∃ i : Nat, i ≤ H.length ∧ m = H.length - i ∧ al = [(0, vI n), (1, .slice a k cc), (4, vB false), (5, .slice a5 H.length c5), (6, vB true), (7, vI i)] ∧ M = Sl RClu a5 H.length c5 H :: L) (m0 := _) ⟨0, by omega, rfl, rfl, rfl⟩ ?_) ?_ ?_
  rotate_left
  · repeat (first | exact EnvLe.nil _ | refine EnvLe.cons rfl ?_)
  · repeat (first | exact Ent.refl _ | (apply Ent.cons; (· repeat (first | exact Pick.here | (refine Pick.sl ?_; (· repeat (first | exact List.Mem.head _ | assumption | apply List.Mem.tail))) | apply Pick.there))) | (refine Ent.trans (Ent.drop _ _) ?_))
  rintro _ _ _ ⟨i, hi, rfl, rfl, rfl⟩ ih0
  refine SG.seq ?_
  refine SG.seq ?_
  refine SG.region ?_
  refine RL.val (Wanted.free rfl) (V.move rfl rfl) rfl ?_
  refine RL.val (Wanted.free rfl) (V.move rfl rfl) rfl ?_
  refine RL.val (Wanted.free rfl) (V.len rfl rfl el31.under rfl) rfl ?_
  refine RL.cmp (Wanted.free rfl) (V.bin rfl rfl rfl B.lss) rfl (fun h15 => ?_) (fun h15 => ?_)
  · skip
    refine RL.nil ?_
    refine SG.cond_true rfl ?_
    refine SG.skip ?_
    refine SG.seq ?_
    refine SG.block ?_
    refine SG.seq ?_
    refine SG.region ?_
    refine RL.val (Wanted.free rfl) (V.assign rfl rfl) rfl ?_
    refine RL.nil ?_
    refine SG.block ?_
    refine SG.weaken (SG.loop2 (fun m0 al M => ∃ j : Nat, j ≤ N ∧ m0 = N - j ∧ al = [(0, vI n), (1, .slice a k cc), (4, vB false), (5, .slice a5 H.length c5), (6, vB true), (7, vI i), (8, vI j)] ∧ M = Sl RClu a5 H.length c5 H :: L) (m0 := _) ⟨0, by omega, rfl, rfl, rfl⟩ ?_) ?_ ?_
    rotate_left
    · repeat (first | exact EnvLe.nil _ | refine EnvLe.cons rfl ?_)
    · repeat (first | exact Ent.refl _ | (apply Ent.cons; (· repeat (first | exact Pick.here | (refine Pick.sl ?_; (· repeat (first | exact List.Mem.head _ | assumption | apply List.Mem.tail))) | apply Pick.there))) | (refine Ent.trans (Ent.drop _ _) ?_))
    rintro _ _ _ ⟨j, hj, rfl, rfl, rfl⟩ ih1
    refine SG.seq ?_
    refine SG.seq ?_
    obtain ⟨c, hc⟩ : ∃ c, H[i]? = some c := ⟨_, List.getElem?_eq_getElem (by omega)⟩
    have hHc := hH _ _ hc
    refine SG.elemClu (l := H) (a := a5) (j := i) (by repeat (first | exact List.Mem.head _ | assumption | apply List.Mem.tail)) hc fun na nn nc sa sn sc => ?_
    refine SG.sl (T := RPeer) (a := na) (l := c.nodes) (by repeat (first | exact List.Mem.head _ | assumption | apply List.Mem.tail)) fun hnn _ _ => ?_
    rw [hHc.len] at hnn
    subst hnn
    refine SG.region ?_
    refine RL.val (Wanted.free rfl) (V.move rfl rfl) rfl ?_
    refine RL.val (Wanted.free rfl) (V.move rfl rfl) rfl ?_
    refine RL.val (Wanted.free rfl) (V.move rfl rfl) rfl ?_
    refine RL.val (Wanted.free rfl) (V.indexSl (T := RClu) (l := H) (a := a5) (j := i) rfl el31.slice rfl rfl (by repeat (first | exact List.Mem.head _ | assumption | apply List.Mem.tail)) rfl (by omega)) rfl ?_
    refine RL.val (Wanted.free rfl) (V.fieldAt rfl rfl fo37_0 (by repeat (first | exact List.Mem.head _ | assumption | apply List.Mem.tail))) rfl ?_
    refine RL.val (Wanted.free rfl) (V.loadAtF rfl on34 rfl (by repeat (first | exact List.Mem.head _ | assumption | apply List.Mem.tail)) rfl) rfl ?_
    refine RL.val (Wanted.free rfl) (V.len rfl rfl el34.under rfl) rfl ?_
    refine RL.cmp (Wanted.free rfl) (V.bin rfl rfl rfl B.lss) rfl (fun h24 => ?_) (fun h24 => ?_)
    · skip
      refine RL.nil ?_
      refine SG.cond_true rfl ?_
      refine SG.skip ?_
      refine SG.seq ?_
      refine SG.block ?_
      refine SG.seq ?_
      refine SG.seq ?_
      refine SG.region ?_
      refine RL.val (Wanted.free rfl) (V.assign rfl rfl) rfl ?_
      refine RL.nil ?_
      refine SG.block ?_
      refine SG.weaken (SG.loop2 (fun m0 al M => ∃ q : Nat, q ≤ j ∧ m0 = j - q ∧ al = [(0, vI n), (1, .slice a k cc), (4, vB false), (5, .slice a5 H.length c5), (6, vB true), (7, vI i), (8, vI j), (9, vI q)] ∧ M = Sl RClu a5 H.length c5 H :: L) (m0 := _) ⟨0, by omega, rfl, rfl, rfl⟩ ?_) ?_ ?_
      rotate_left
      · repeat (first | exact EnvLe.nil _ | refine EnvLe.cons rfl ?_)
      · repeat (first | exact Ent.refl _ | (apply Ent.cons; (· repeat (first | exact Pick.here | (refine Pick.sl ?_; (· repeat (first | exact List.Mem.head _ | assumption | apply List.Mem.tail))) | apply Pick.there))) | (refine Ent.trans (Ent.drop _ _) ?_))
      rintro _ _ _ ⟨q, hq, rfl, rfl, rfl⟩ ih2
      refine SG.seq ?_
      refine SG.seq ?_
      refine SG.region ?_
      refine RL.val (Wanted.free rfl) (V.move rfl rfl) rfl ?_
      refine RL.val (Wanted.free rfl) (V.move rfl rfl) rfl ?_
      refine RL.cmp (Wanted.free rfl) (V.bin rfl rfl rfl B.lss) rfl (fun h28 => ?_) (fun h28 => ?_)
      · skip
        refine RL.nil ?_
        refine SG.cond_true rfl ?_
        refine SG.skip ?_
        refine SG.seq ?_
        refine SG.block ?_
        refine SG.seq ?_
        obtain ⟨hpj, hpk, hpo⟩ := hHc.get (i := j) (by omega)
        obtain ⟨hqj, hqk, hqo⟩ := hHc.get (i := q) (by omega)
        refine SG.elemClu (l := H) (a := a5) (j := i) (by repeat (first | exact List.Mem.head _ | assumption | apply List.Mem.tail)) hc fun na nn nc sa sn sc => ?_
        refine SG.elemPeer (a := na) (j := j) (l := c.nodes) (by repeat (first | exact List.Mem.head _ | assumption | apply List.Mem.tail)) hpj fun pa pn pc _ _ _ _ _ _ => ?_
        refine SG.elemPeer (a := na) (j := q) (l := c.nodes) (by repeat (first | exact List.Mem.head _ | assumption | apply List.Mem.tail)) hqj fun qa qn qc _ _ _ _ _ _ => ?_
        refine SG.drawL 20 20 wide rfl rfl ?_
        refine RH.val 0 rfl (by kernel_rfl) (by kernel_rfl) (by kernel_rfl) (by kernel_rfl) (Wanted.free rfl) (V.move rfl rfl) rfl ?_
        refine RH.val 1 rfl (by kernel_rfl) (by kernel_rfl) (by kernel_rfl) (by kernel_rfl) (Wanted.free rfl) (V.move rfl rfl) rfl ?_
        refine RH.val 2 rfl (by kernel_rfl) (by kernel_rfl) (by kernel_rfl) (by kernel_rfl) (Wanted.free rfl) (V.indexSl (T := RClu) (l := H) (a := a5) (j := i) rfl el31.slice rfl rfl (by repeat (first | exact List.Mem.head _ | assumption | apply List.Mem.tail)) rfl (by omega)) rfl ?_
        refine RH.val 3 rfl (by kernel_rfl) (by kernel_rfl) (by kernel_rfl) (by kernel_rfl) (Wanted.free rfl) (V.fieldAt rfl rfl fo37_0 (by repeat (first | exact List.Mem.head _ | assumption | apply List.Mem.tail))) rfl ?_
        refine RH.val 4 rfl (by kernel_rfl) (by kernel_rfl) (by kernel_rfl) (by kernel_rfl) (Wanted.free rfl) (V.loadAtF rfl on34 rfl (by repeat (first | exact List.Mem.head _ | assumption | apply List.Mem.tail)) rfl) rfl ?_
        refine RH.val 5 rfl (by kernel_rfl) (by kernel_rfl) (by kernel_rfl) (by kernel_rfl) (Wanted.free rfl) (V.move rfl rfl) rfl ?_
        refine RH.val 6 rfl (by kernel_rfl) (by kernel_rfl) (by kernel_rfl) (by kernel_rfl) (Wanted.free rfl) (V.indexSl (T := RPeer) (l := c.nodes) (a := na) (j := j) rfl el34.slice rfl rfl (by repeat (first | exact List.Mem.head _ | assumption | apply List.Mem.tail)) rfl (by rw [hHc.len]; omega)) rfl ?_
        refine RH.val 7 rfl (by kernel_rfl) (by kernel_rfl) (by kernel_rfl) (by kernel_rfl) (Wanted.free rfl) (V.fieldAt rfl rfl fo26_6 (by repeat (first | exact List.Mem.head _ | assumption | apply List.Mem.tail))) rfl ?_
        refine RH.val 8 rfl (by kernel_rfl) (by kernel_rfl) (by kernel_rfl) (by kernel_rfl) (Wanted.free rfl) (V.loadAtF rfl on23 rfl (by repeat (first | exact List.Mem.head _ | assumption | apply List.Mem.tail)) rfl) rfl ?_
        refine RH.val 9 rfl (by kernel_rfl) (by kernel_rfl) (by kernel_rfl) (by kernel_rfl) (Wanted.free rfl) (V.move rfl rfl) rfl ?_
        refine RH.val 10 rfl (by kernel_rfl) (by kernel_rfl) (by kernel_rfl) (by kernel_rfl) (Wanted.free rfl) (V.move rfl rfl) rfl ?_
        refine RH.val 11 rfl (by kernel_rfl) (by kernel_rfl) (by kernel_rfl) (by kernel_rfl) (Wanted.free rfl) (V.indexSl (T := RClu) (l := H) (a := a5) (j := i) rfl el31.slice rfl rfl (by repeat (first | exact List.Mem.head _ | assumption | apply List.Mem.tail)) rfl (by omega)) rfl ?_
        refine RH.val 12 rfl (by kernel_rfl) (by kernel_rfl) (by kernel_rfl) (by kernel_rfl) (Wanted.free rfl) (V.fieldAt rfl rfl fo37_0 (by repeat (first | exact List.Mem.head _ | assumption | apply List.Mem.tail))) rfl ?_
        refine RH.val 13 rfl (by kernel_rfl) (by kernel_rfl) (by kernel_rfl) (by kernel_rfl) (Wanted.free rfl) (V.loadAtF rfl on34 rfl (by repeat (first | exact List.Mem.head _ | assumption | apply List.Mem.tail)) rfl) rfl ?_
        refine RH.val 14 rfl (by kernel_rfl) (by kernel_rfl) (by kernel_rfl) (by kernel_rfl) (Wanted.free rfl) (V.move rfl rfl) rfl ?_
        refine RH.val 15 rfl (by kernel_rfl) (by kernel_rfl) (by kernel_rfl) (by kernel_rfl) (Wanted.free rfl) (V.indexSl (T := RPeer) (l := c.nodes) (a := na) (j := q) rfl el34.slice rfl rfl (by repeat (first | exact List.Mem.head _ | assumption | apply List.Mem.tail)) rfl (by rw [hHc.len]; omega)) rfl ?_
        refine RH.val 16 rfl (by kernel_rfl) (by kernel_rfl) (by kernel_rfl) (by kernel_rfl) (Wanted.free rfl) (V.fieldAt rfl rfl fo26_6 (by repeat (first | exact List.Mem.head _ | assumption | apply List.Mem.tail))) rfl ?_
        refine RH.val 17 rfl (by kernel_rfl) (by kernel_rfl) (by kernel_rfl) (by kernel_rfl) (Wanted.free rfl) (V.loadAtF rfl on23 rfl (by repeat (first | exact List.Mem.head _ | assumption | apply List.Mem.tail)) rfl) rfl ?_
        refine RH.one (i := 18) (by kernel_rfl) ?_
        refine RHone.eff rfl (Wanted.free rfl) (E.call rfl go32 rfl (match_ok (l := (c.p j).log) (l' := (c.p q).log) (a := pa) (b := qa) (by repeat (first | exact List.Mem.head _ | assumption | apply List.Mem.tail)) (by repeat (first | exact List.Mem.head _ | assumption | apply List.Mem.tail)) (fun _ _ _ h h' e => same_upto hpk hqk h h' e))) rfl ?_
        rintro _ _ ⟨rfl, rfl⟩
        refine ⟨.inr (by repeat (first | exact Ent.refl _ | (apply Ent.cons; (· repeat (first | exact Pick.here | (refine Pick.sl ?_; (· repeat (first | exact List.Mem.head _ | assumption | apply List.Mem.tail))) | apply Pick.there))) | (refine Ent.trans (Ent.drop _ _) ?_))), ?_⟩
        refine RH.pure 19 rfl (by kernel_rfl) (by kernel_rfl) (by kernel_rfl) (by kernel_rfl) (Wanted.free rfl) (V.not rfl rfl) rfl ?_
        refine RH.done (by kernel_rfl) ?_
        refine SG.cond_false rfl ?_
        refine SG.skip ?_
        refine SG.inBlock ?_
        refine SG.region ?_
        refine RL.val (Wanted.free rfl) (V.move rfl rfl) rfl ?_
        refine RL.val (Wanted.free rfl) (V.bin rfl rfl rfl (B.addI (by omega) (by omega))) rfl ?_
        refine RL.val (Wanted.free rfl) (V.assign rfl rfl) rfl ?_
        refine RL.nil ?_
        refine SG.weaken (ih2 _ _ _ ?_ ⟨q + 1, by omega, rfl, rfl, rfl⟩) ?_ ?_
        · omega
        · repeat (first | exact EnvLe.nil _ | refine EnvLe.cons rfl ?_)
        · repeat (first | exact Ent.refl _ | (apply Ent.cons; (· repeat (first | exact Pick.here | (refine Pick.sl ?_; (· repeat (first | exact List.Mem.head _ | assumption | apply List.Mem.tail))) | apply Pick.there))) | (refine Ent.trans (Ent.drop _ _) ?_))
      · skip
        refine RL.nil ?_
        refine SG.cond_false rfl ?_
        refine SG.exit rfl ?_
        refine SG.seq ?_
        obtain ⟨hpj, hpk, hpo⟩ := hHc.get (i := j) (by omega)
        refine SG.elemClu (l := H) (a := a5) (j := i) (by repeat (first | exact List.Mem.head _ | assumption | apply List.Mem.tail)) hc fun na nn nc sa sn sc => ?_
        refine SG.elemPeer (a := na) (j := j) (l := c.nodes) (by repeat (first | exact List.Mem.head _ | assumption | apply List.Mem.tail)) hpj fun pa pn pc _ _ _ _ _ _ => ?_
        refine SG.sl (T := RSlot) (a := pa) (l := (c.p j).log) (by repeat (first | exact List.Mem.head _ | assumption | apply List.Mem.tail)) fun hpl _ _ => ?_
        subst hpl
        refine SG.region ?_
        refine RL.val (Wanted.free rfl) (V.move rfl rfl) rfl ?_
        refine RL.val (Wanted.free rfl) (V.move rfl rfl) rfl ?_
        refine RL.val (Wanted.free rfl) (V.indexSl (T := RClu) (l := H) (a := a5) (j := i) rfl el31.slice rfl rfl (by repeat (first | exact List.Mem.head _ | assumption | apply List.Mem.tail)) rfl (by omega)) rfl ?_
        refine RL.val (Wanted.free rfl) (V.fieldAt rfl rfl fo37_0 (by repeat (first | exact List.Mem.head _ | assumption | apply List.Mem.tail))) rfl ?_
        refine RL.val (Wanted.free rfl) (V.loadAtF rfl on34 rfl (by repeat (first | exact List.Mem.head _ | assumption | apply List.Mem.tail)) rfl) rfl ?_
        refine RL.val (Wanted.free rfl) (V.move rfl rfl) rfl ?_
        refine RL.val (Wanted.free rfl) (V.indexSl (T := RPeer) (l := c.nodes) (a := na) (j := j) rfl el34.slice rfl rfl (by repeat (first | exact List.Mem.head _ | assumption | apply List.Mem.tail)) rfl (by rw [hHc.len]; omega)) rfl ?_
        refine RL.val (Wanted.free rfl) (V.fieldAt rfl rfl fo26_6 (by repeat (first | exact List.Mem.head _ | assumption | apply List.Mem.tail))) rfl ?_
        refine RL.val (Wanted.free rfl) (V.loadAtF rfl on23 rfl (by repeat (first | exact List.Mem.head _ | assumption | apply List.Mem.tail)) rfl) rfl ?_
        refine RL.val (Wanted.free rfl) (V.assign rfl rfl) rfl ?_
        refine RL.nil ?_
        refine SG.seq ?_
        refine SG.region ?_
        refine RL.val (Wanted.free rfl) (V.assign rfl rfl) rfl ?_
        refine RL.nil ?_
        refine SG.block ?_
        refine SG.weaken (SG.loop2 (fun m0 al M => ∃ u : Nat, 1 ≤ u ∧ u ≤ (c.p j).log.length + 1 ∧ m0 = (c.p j).log.length + 1 - u ∧ al = [(0, vI n), (1, .slice a k cc), (4, vB false), (5, .slice a5 H.length c5), (6, vB true), (7, vI i), (8, vI j), (10, .slice pa (c.p j).log.length pc), (11, vI u)] ∧ M = Sl RSlot pa (c.p j).log.length pc (c.p j).log :: Sl RClu a5 H.length c5 H :: L) (m0 := _) ⟨1, by omega, by omega, rfl, rfl, rfl⟩ ?_) ?_ ?_
        rotate_left
        · repeat (first | exact EnvLe.nil _ | refine EnvLe.cons rfl ?_)
        · repeat (first | exact Ent.refl _ | (apply Ent.cons; (· repeat (first | exact Pick.here | (refine Pick.sl ?_; (· repeat (first | exact List.Mem.head _ | assumption | apply List.Mem.tail))) | apply Pick.there))) | (refine Ent.trans (Ent.drop _ _) ?_))
        rintro _ _ _ ⟨u, hu1, hu, rfl, rfl, rfl⟩ ih3
        refine SG.seq ?_
        refine SG.seq ?_
        refine SG.region ?_
        refine RL.val (Wanted.free rfl) (V.move rfl rfl) rfl ?_
        refine RL.val (Wanted.free rfl) (V.move rfl rfl) rfl ?_
        refine RL.val (Wanted.free rfl) (V.len rfl rfl el23.under rfl) rfl ?_
        refine RL.cmp (Wanted.free rfl) (V.bin rfl rfl rfl B.lss) rfl (fun h65 => ?_) (fun h65 => ?_)
        · skip
          refine RL.nil ?_
          refine SG.cond_true rfl ?_
          refine SG.skip ?_
          refine SG.seq ?_
          refine SG.block ?_
          refine SG.seq ?_
          obtain ⟨s, hs⟩ : ∃ s, (c.p j).log[u]? = some s := ⟨_, List.getElem?_eq_getElem (by omega)⟩
          obtain ⟨s', hs'⟩ : ∃ s, (c.p j).log[u - 1]? = some s := ⟨_, List.getElem?_eq_getElem (by omega)⟩
          have hso := sorted hG hpk hs' (by rw [show u - 1 + 1 = u from by omega]; exact hs)
          refine SG.elemDt (a := pa) (l := (c.p j).log) (by repeat (first | exact List.Mem.head _ | assumption | apply List.Mem.tail)) hs fun _ => ?_
          refine SG.elemDt (a := pa) (l := (c.p j).log) (by repeat (first | exact List.Mem.head _ | assumption | apply List.Mem.tail)) hs' fun _ => ?_
          refine SG.drawL 12 12 wide rfl rfl ?_
          refine RH.val 0 rfl (by kernel_rfl) (by kernel_rfl) (by kernel_rfl) (by kernel_rfl) (Wanted.free rfl) (V.move rfl rfl) rfl ?_
          refine RH.val 1 rfl (by kernel_rfl) (by kernel_rfl) (by kernel_rfl) (by kernel_rfl) (Wanted.free rfl) (V.move rfl rfl) rfl ?_
          refine RH.val 2 rfl (by kernel_rfl) (by kernel_rfl) (by kernel_rfl) (by kernel_rfl) (Wanted.free rfl) (V.indexSl (T := RSlot) (a := pa) (l := (c.p j).log) (j := u) rfl el23.slice rfl rfl (by repeat (first | exact List.Mem.head _ | assumption | apply List.Mem.tail)) rfl (by omega)) rfl ?_
          refine RH.val 3 rfl (by kernel_rfl) (by kernel_rfl) (by kernel_rfl) (by kernel_rfl) (Wanted.free rfl) (V.fieldAt rfl rfl fo53_0 (by repeat (first | exact List.Mem.head _ | assumption | apply List.Mem.tail))) rfl ?_
          refine RH.val 4 rfl (by kernel_rfl) (by kernel_rfl) (by kernel_rfl) (by kernel_rfl) (Wanted.free rfl) (V.loadAtF rfl on3 rfl (by repeat (first | exact List.Mem.head _ | assumption | apply List.Mem.tail)) rfl) rfl ?_
          refine RH.val 5 rfl (by kernel_rfl) (by kernel_rfl) (by kernel_rfl) (by kernel_rfl) (Wanted.free rfl) (V.move rfl rfl) rfl ?_
          refine RH.val 6 rfl (by kernel_rfl) (by kernel_rfl) (by kernel_rfl) (by kernel_rfl) (Wanted.free rfl) (V.move rfl rfl) rfl ?_
          refine RH.val 7 rfl (by kernel_rfl) (by kernel_rfl) (by kernel_rfl) (by kernel_rfl) (Wanted.free rfl) (V.bin rfl rfl rfl (B.subI (by omega) (by omega))) rfl ?_
          refine RH.val 8 rfl (by kernel_rfl) (by kernel_rfl) (by kernel_rfl) (by kernel_rfl) (Wanted.free rfl) (V.indexSl (T := RSlot) (a := pa) (l := (c.p j).log) (j := u - 1) rfl el23.slice rfl rfl (by repeat (first | exact List.Mem.head _ | assumption | apply List.Mem.tail)) (by omega) (by omega)) rfl ?_
          refine RH.val 9 rfl (by kernel_rfl) (by kernel_rfl) (by kernel_rfl) (by kernel_rfl) (Wanted.free rfl) (V.fieldAt rfl rfl fo53_0 (by repeat (first | exact List.Mem.head _ | assumption | apply List.Mem.tail))) rfl ?_
          refine RH.val 10 rfl (by kernel_rfl) (by kernel_rfl) (by kernel_rfl) (by kernel_rfl) (Wanted.free rfl) (V.loadAtF rfl on3 rfl (by repeat (first | exact List.Mem.head _ | assumption | apply List.Mem.tail)) rfl) rfl ?_
          refine RH.cmpF 11 rfl (by kernel_rfl) (by kernel_rfl) (by kernel_rfl) (by kernel_rfl) (Wanted.free rfl) (V.bin rfl rfl rfl B.lss) rfl (by omega) ?_
          refine RH.done (by kernel_rfl) ?_
          refine SG.cond_false rfl ?_
          refine SG.skip ?_
          refine SG.inBlock ?_
          refine SG.region ?_
          refine RL.val (Wanted.free rfl) (V.move rfl rfl) rfl ?_
          refine RL.val (Wanted.free rfl) (V.bin rfl rfl rfl (B.addI (by omega) (by omega))) rfl ?_
          refine RL.val (Wanted.free rfl) (V.assign rfl rfl) rfl ?_
          refine RL.nil ?_
          refine SG.weaken (ih3 _ _ _ ?_ ⟨u + 1, by omega, by omega, rfl, rfl, rfl⟩) ?_ ?_
          · omega
          · repeat (first | exact EnvLe.nil _ | refine EnvLe.cons rfl ?_)
          · repeat (first | exact Ent.refl _ | (apply Ent.cons; (· repeat (first | exact Pick.here | (refine Pick.sl ?_; (· repeat (first | exact List.Mem.head _ | assumption | apply List.Mem.tail))) | apply Pick.there))) | (refine Ent.trans (Ent.drop _ _) ?_))
        · skip
          refine RL.nil ?_
          refine SG.cond_false rfl ?_
          refine SG.exit rfl ?_
          refine SG.inBlock ?_
          refine SG.region ?_
          refine RL.val (Wanted.free rfl) (V.move rfl rfl) rfl ?_
          refine RL.val (Wanted.free rfl) (V.bin rfl rfl rfl (B.addI (by omega) (by omega))) rfl ?_
          refine RL.val (Wanted.free rfl) (V.assign rfl rfl) rfl ?_
          refine RL.nil ?_
          refine SG.weaken (ih1 _ _ _ ?_ ⟨j + 1, by omega, rfl, rfl, rfl⟩) ?_ ?_
          · omega
          · repeat (first | exact EnvLe.nil _ | refine EnvLe.cons rfl ?_)
          · repeat (first | exact Ent.refl _ | (apply Ent.cons; (· repeat (first | exact Pick.here | (refine Pick.sl ?_; (· repeat (first | exact List.Mem.head _ | assumption | apply List.Mem.tail))) | apply Pick.there))) | (refine Ent.trans (Ent.drop _ _) ?_))
    · skip
      refine RL.nil ?_
      refine SG.cond_false rfl ?_
      refine SG.exit rfl ?_
      refine SG.inBlock ?_
      refine SG.region ?_
      refine RL.val (Wanted.free rfl) (V.move rfl rfl) rfl ?_
      refine RL.val (Wanted.free rfl) (V.bin rfl rfl rfl (B.addI (by omega) (by omega))) rfl ?_
      refine RL.val (Wanted.free rfl) (V.assign rfl rfl) rfl ?_
      refine RL.nil ?_
      refine SG.weaken (ih0 _ _ _ ?_ ⟨i + 1, by omega, rfl, rfl, rfl⟩) ?_ ?_
      · omega
      · repeat (first | exact EnvLe.nil _ | refine EnvLe.cons rfl ?_)
      · repeat (first | exact Ent.refl _ | (apply Ent.cons; (· repeat (first | exact Pick.here | (refine Pick.sl ?_; (· repeat (first | exact List.Mem.head _ | assumption | apply List.Mem.tail))) | apply Pick.there))) | (refine Ent.trans (Ent.drop _ _) ?_))
  · skip
    refine RL.nil ?_
    refine SG.cond_false rfl ?_
    refine SG.exit rfl ?_
    refine SG.seq ?_
    refine SG.region ?_
    refine RL.eff (Wanted.free rfl) (E.call rfl go28 rfl (lives_ok)) rfl ?_
    rintro _ _ ⟨rfl, rfl⟩
    refine RL.val (Wanted.free rfl) (V.assign rfl rfl) rfl ?_
    refine RL.nil ?_
    refine SG.retE (Ret.r1 Try.func7 rfl (.tmp rfl)) ?_ ⟨rfl, rfl⟩
    repeat (first | exact Ent.refl _ | (apply Ent.cons; (· repeat (first | exact Pick.here | (refine Pick.sl ?_; (· repeat (first | exact List.Mem.head _ | assumption | apply List.Mem.tail))) | apply Pick.there))) | (refine Ent.trans (Ent.drop _ _) ?_))

end Go.Proofs.Ytilcnglcflohoaa
