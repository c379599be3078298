/- The reference's Parse. -/
import Derived.Test.YteopejoppdgncaaDoorBasic
namespace Go.Proofs.YteopejoppdgncaaDoor
open Go.Wk Go.Lb

set_option maxRecDepth 100000 in
set_option maxHeartbeats 2000000 in
theorem rParse_ok {κ : World} {L : List Assn} {s : List UInt8} (hs : s.length ≤ 1000000) :
    Ctr Tryd.prog 21 #[vS s] κ L (fun v M => v = .tuple #[(.agg ([vI (parseV 7 5 s).1.num, vI (parseV 7 5 s).1.suf] : List Value).toArray), vI (parseV 7 5 s).2] ∧ M = L) := by
 refine Ctr.enter (vs := [vS s]) (m := 95) Tryd.func21 rfl rfl rfl ?_
 refine SG.seq ?_
 refine SG.region ?_
 refine RL.eff (Wanted.free rfl) (E.alloc rfl ze23) rfl ?_
 rintro _ _ ⟨b2, rfl, rfl⟩
 refine RL.val (Wanted.free rfl) (V.assign rfl rfl) rfl ?_
 refine RL.nil ?_
 refine SG.seq ?_
 refine SG.region ?_
 refine RL.val (Wanted.free rfl) (V.buildS [] rfl bs23 (by exact trivial) rfl) rfl ?_
 refine RL.eff (Wanted.free rfl) (E.alloc rfl ze23) rfl ?_
 rintro _ _ ⟨b4, rfl, rfl⟩
 refine RL.eff (Wanted.free rfl) (E.storeWhole rfl rfl rfl (by rfl) sz23 pickX (by first | (simp [Value.oneCell']; done) | (simp [setAt, Value.oneCell']; done)) (by rfl)) rfl ?_
 rintro _ _ rfl
 refine RL.nil ?_
 refine SG.seq ?_
 refine SG.region ?_
 refine RL.val (Wanted.free rfl) (V.assign rfl rfl) rfl ?_
 refine RL.nil ?_
 refine SG.seq ?_
 refine SG.block ?_
 refine SG.weaken (SG.loop2 (fun m0 al M => ∃ j : Nat, j ≤ s.length ∧ (∀ c ∈ s.take j, Lb.dig c = true) ∧ m0 = s.length + 1 - j ∧ al = [(0, vS s), (2, ptr b2 0), (4, ptr b4 0), (5, vI j)] ∧ M = Blk b4 23 [vI (0 : Nat), vI (0 : Nat)] :: Blk b2 23 [vI 0, vI 0] :: L) (m0 := _) ⟨0, by omega, by simp, rfl, rfl, rfl⟩ ?_) ?_ ?_
 rotate_left
 ·
  repeat (first | exact EnvLe.nil _ | refine EnvLe.cons rfl ?_)
 ·
  exact entX
 rintro _ _ _ ⟨j, hj, hd, rfl, rfl, rfl⟩ ih0
 refine SG.seq ?_
 refine SG.seq ?_
 refine SG.region ?_
 refine RL.val (Wanted.free rfl) (V.move rfl rfl) rfl ?_
 refine RL.val (Wanted.free rfl) (V.move rfl rfl) rfl ?_
 refine RL.val (Wanted.free rfl) (V.lenS rfl rfl us9 rfl) rfl ?_
 refine RL.cmp (Wanted.free rfl) (V.bin rfl rfl rfl B.lss) rfl (fun h10 => ?_) (fun h10 => ?_)
 ·
  refine RL.val (Wanted.free rfl) (V.move rfl rfl) rfl ?_
  refine RL.val (Wanted.yes rfl rfl rfl rfl) (V.move rfl rfl) rfl ?_
  refine RL.val (Wanted.yes rfl rfl rfl rfl) (V.move rfl rfl) rfl ?_
  refine RL.val (Wanted.yes rfl rfl rfl rfl) (V.indexS (j := j) rfl us9 rfl rfl (by first | rfl | omega) (List.getElem?_eq_getElem (by omega))) rfl ?_
  refine RL.cmp (Wanted.yes rfl rfl rfl rfl) (V.bin rfl rfl rfl B.geq) rfl (fun h15 => ?_) (fun h15 => ?_)
  ·
   refine RL.val (Wanted.free rfl) (V.pick_true rfl rfl rfl) rfl ?_
   refine RL.val (Wanted.free rfl) (V.move rfl rfl) rfl ?_
   refine RL.val (Wanted.yes rfl rfl rfl rfl) (V.move rfl rfl) rfl ?_
   refine RL.val (Wanted.yes rfl rfl rfl rfl) (V.move rfl rfl) rfl ?_
   refine RL.val (Wanted.yes rfl rfl rfl rfl) (V.indexS (j := j) rfl us9 rfl rfl (by first | rfl | omega) (List.getElem?_eq_getElem (by omega))) rfl ?_
   refine RL.cmp (Wanted.yes rfl rfl rfl rfl) (V.bin rfl rfl rfl B.leq) rfl (fun h20 => ?_) (fun h20 => ?_)
   ·
    refine RL.val (Wanted.free rfl) (V.pick_true rfl rfl rfl) rfl ?_
    refine RL.nil ?_
    refine SG.cond_true rfl ?_
    refine SG.skip ?_
    refine SG.block ?_
    have hjs : s[j]? = some (s[j]'(by omega)) := List.getElem?_eq_getElem (by omega)
    have hd2 := take_step hd hjs (dig_iff.2 (by omega))
    refine SG.region ?_
    refine RL.val (Wanted.free rfl) (V.move rfl rfl) rfl ?_
    refine RL.val (Wanted.free rfl) (V.bin rfl rfl rfl (B.addI (by omega) (by omega))) rfl ?_
    refine RL.val (Wanted.free rfl) (V.assign rfl rfl) rfl ?_
    refine RL.nil ?_
    refine SG.inBlock ?_
    refine SG.weaken (ih0 _ _ _ ?_ ⟨j + 1, by omega, hd2, rfl, rfl, rfl⟩) ?_ ?_
    ·
     omega
    ·
     repeat (first | exact EnvLe.nil _ | refine EnvLe.cons rfl ?_)
    ·
     exact entX
   ·
    refine RL.val (Wanted.free rfl) (V.pick_true rfl rfl rfl) rfl ?_
    refine RL.nil ?_
    refine SG.cond_false rfl ?_
    refine SG.exit rfl ?_
    refine SG.seq ?_
    refine SG.seq ?_
    have htw : ∀ c, s[j]? = some c → Lb.dig c = false := fun c hc => by
     obtain ⟨hlt, he⟩ := List.getElem?_eq_some_iff.1 hc
     cases hx : Lb.dig c with
     | false => rfl
     | true =>
      have := dig_iff.1 hx
      subst he
      omega
    obtain ⟨e1, e2⟩ := tw_at hd htw
    refine SG.region ?_
    refine RL.val (Wanted.free rfl) (V.move rfl rfl) rfl ?_
    refine RL.cmp (Wanted.free rfl) (V.bin rfl rfl rfl B.lss) rfl (fun h25 => ?_) (fun h25 => ?_)
    ·
     refine RL.val (Wanted.free rfl) (V.move rfl rfl) rfl ?_
     refine RL.skip (Wanted.no rfl rfl rfl rfl rfl) rfl ?_
     refine RL.skip (Wanted.no rfl rfl rfl rfl rfl) rfl ?_
     refine RL.val (Wanted.free rfl) (V.pick_true rfl rfl rfl) rfl ?_
     refine RL.val (Wanted.free rfl) (V.move rfl rfl) rfl ?_
     refine RL.skip (Wanted.no rfl rfl rfl rfl rfl) rfl ?_
     refine RL.skip (Wanted.no rfl rfl rfl rfl rfl) rfl ?_
     refine RL.skip (Wanted.no rfl rfl rfl rfl rfl) rfl ?_
     refine RL.val (Wanted.free rfl) (V.pick_true rfl rfl rfl) rfl ?_
     refine RL.val (Wanted.free rfl) (V.move rfl rfl) rfl ?_
     refine RL.skip (Wanted.no rfl rfl rfl rfl rfl) rfl ?_
     refine RL.skip (Wanted.no rfl rfl rfl rfl rfl) rfl ?_
     refine RL.skip (Wanted.no rfl rfl rfl rfl rfl) rfl ?_
     refine RL.skip (Wanted.no rfl rfl rfl rfl rfl) rfl ?_
     refine RL.skip (Wanted.no rfl rfl rfl rfl rfl) rfl ?_
     refine RL.val (Wanted.free rfl) (V.pick_true rfl rfl rfl) rfl ?_
     refine RL.nil ?_
     refine SG.cond_true rfl ?_
     refine SG.seq ?_
     have hbad := bad_ref hj e1 e2 (by first | exact .inr (.inr (.inl hh)) | omega)
     refine SG.region ?_
     refine RL.val (Wanted.free rfl) (V.buildS [] rfl bs23 (by exact trivial) rfl) rfl ?_
     refine RL.eff (Wanted.free rfl) (E.storeWhole rfl rfl rfl (by rfl) sz23 pickX (by first | (simp [Value.oneCell']; done) | (simp [setAt, Value.oneCell']; done)) (by rfl)) rfl ?_
     rintro _ _ rfl
     refine RL.val (Wanted.free rfl) (V.assign rfl rfl) rfl ?_
     refine RL.nil ?_
     refine SG.retE (Ret.r2 Tryd.func21 rfl (.agg rfl ag23 pickX rfl rfl) (.tmp rfl)) ?_ ⟨by first | (rw [parseV, if_pos hbad]; rfl) | (rw [hgood, if_neg hno]; rfl) | (rw [hgood, if_pos hyes]; rfl), rfl⟩
     exact entX
    ·
     refine RL.val (Wanted.free rfl) (V.move rfl rfl) rfl ?_
     refine RL.val (Wanted.yes rfl rfl rfl rfl) (V.move rfl rfl) rfl ?_
     refine RL.cmp (Wanted.yes rfl rfl rfl rfl) (V.bin rfl rfl rfl B.gtr) rfl (fun h34 => ?_) (fun h34 => ?_)
     ·
      refine RL.val (Wanted.free rfl) (V.pick_false rfl rfl rfl) rfl ?_
      refine RL.val (Wanted.free rfl) (V.move rfl rfl) rfl ?_
      refine RL.skip (Wanted.no rfl rfl rfl rfl rfl) rfl ?_
      refine RL.skip (Wanted.no rfl rfl rfl rfl rfl) rfl ?_
      refine RL.skip (Wanted.no rfl rfl rfl rfl rfl) rfl ?_
      refine RL.val (Wanted.free rfl) (V.pick_true rfl rfl rfl) rfl ?_
      refine RL.val (Wanted.free rfl) (V.move rfl rfl) rfl ?_
      refine RL.skip (Wanted.no rfl rfl rfl rfl rfl) rfl ?_
      refine RL.skip (Wanted.no rfl rfl rfl rfl rfl) rfl ?_
      refine RL.skip (Wanted.no rfl rfl rfl rfl rfl) rfl ?_
      refine RL.skip (Wanted.no rfl rfl rfl rfl rfl) rfl ?_
      refine RL.skip (Wanted.no rfl rfl rfl rfl rfl) rfl ?_
      refine RL.val (Wanted.free rfl) (V.pick_true rfl rfl rfl) rfl ?_
      refine RL.nil ?_
      refine SG.cond_true rfl ?_
      refine SG.seq ?_
      have hbad := bad_ref hj e1 e2 (by first | exact .inr (.inr (.inl hh)) | omega)
      refine SG.region ?_
      refine RL.val (Wanted.free rfl) (V.buildS [] rfl bs23 (by exact trivial) rfl) rfl ?_
      refine RL.eff (Wanted.free rfl) (E.storeWhole rfl rfl rfl (by rfl) sz23 pickX (by first | (simp [Value.oneCell']; done) | (simp [setAt, Value.oneCell']; done)) (by rfl)) rfl ?_
      rintro _ _ rfl
      refine RL.val (Wanted.free rfl) (V.assign rfl rfl) rfl ?_
      refine RL.nil ?_
      refine SG.retE (Ret.r2 Tryd.func21 rfl (.agg rfl ag23 pickX rfl rfl) (.tmp rfl)) ?_ ⟨by first | (rw [parseV, if_pos hbad]; rfl) | (rw [hgood, if_neg hno]; rfl) | (rw [hgood, if_pos hyes]; rfl), rfl⟩
      exact entX
     ·
      refine RL.val (Wanted.free rfl) (V.pick_false rfl rfl rfl) rfl ?_
      refine RL.val (Wanted.free rfl) (V.move rfl rfl) rfl ?_
      refine RL.val (Wanted.yes rfl rfl rfl rfl) (V.move rfl rfl) rfl ?_
      refine RL.val (Wanted.yes rfl rfl rfl rfl) (V.indexS (j := 0) rfl us9 rfl rfl (by first | rfl | omega) (List.getElem?_eq_getElem (by omega))) rfl ?_
      refine RL.cmp (Wanted.yes rfl rfl rfl rfl) (V.bin rfl rfl rfl B.eql) rfl (fun h43 => ?_) (fun h43 => ?_)
      ·
       have hh : s.head? = some 48 := by
        obtain ⟨x, r, rfl⟩ := List.exists_cons_of_length_pos (show 0 < s.length by omega)
        simp only [List.head?_cons, Option.some.injEq]
        apply eq_of_toNat
        have := h43
        simp only [List.getElem_cons_zero] at this
        show x.toNat = 48
        omega
       refine RL.val (Wanted.free rfl) (V.pick_false rfl rfl rfl) rfl ?_
       refine RL.val (Wanted.free rfl) (V.move rfl rfl) rfl ?_
       refine RL.skip (Wanted.no rfl rfl rfl rfl rfl) rfl ?_
       refine RL.skip (Wanted.no rfl rfl rfl rfl rfl) rfl ?_
       refine RL.skip (Wanted.no rfl rfl rfl rfl rfl) rfl ?_
       refine RL.skip (Wanted.no rfl rfl rfl rfl rfl) rfl ?_
       refine RL.skip (Wanted.no rfl rfl rfl rfl rfl) rfl ?_
       refine RL.val (Wanted.free rfl) (V.pick_true rfl rfl rfl) rfl ?_
       refine RL.nil ?_
       refine SG.cond_true rfl ?_
       refine SG.seq ?_
       have hbad := bad_ref hj e1 e2 (by first | exact .inr (.inr (.inl hh)) | omega)
       refine SG.region ?_
       refine RL.val (Wanted.free rfl) (V.buildS [] rfl bs23 (by exact trivial) rfl) rfl ?_
       refine RL.eff (Wanted.free rfl) (E.storeWhole rfl rfl rfl (by rfl) sz23 pickX (by first | (simp [Value.oneCell']; done) | (simp [setAt, Value.oneCell']; done)) (by rfl)) rfl ?_
       rintro _ _ rfl
       refine RL.val (Wanted.free rfl) (V.assign rfl rfl) rfl ?_
       refine RL.nil ?_
       refine SG.retE (Ret.r2 Tryd.func21 rfl (.agg rfl ag23 pickX rfl rfl) (.tmp rfl)) ?_ ⟨by first | (rw [parseV, if_pos hbad]; rfl) | (rw [hgood, if_neg hno]; rfl) | (rw [hgood, if_pos hyes]; rfl), rfl⟩
       exact entX
      ·
       have hh : s.head? ≠ some 48 := by
        obtain ⟨x, r, rfl⟩ := List.exists_cons_of_length_pos (show 0 < s.length by omega)
        simp only [List.head?_cons, ne_eq, Option.some.injEq]
        intro e
        subst e
        exact h43 rfl
       refine RL.val (Wanted.free rfl) (V.pick_false rfl rfl rfl) rfl ?_
       refine RL.val (Wanted.free rfl) (V.move rfl rfl) rfl ?_
       refine RL.val (Wanted.yes rfl rfl rfl rfl) (V.move rfl rfl) rfl ?_
       refine RL.val (Wanted.yes rfl rfl rfl rfl) (V.lenS rfl rfl us9 rfl) rfl ?_
       refine RL.val (Wanted.yes rfl rfl rfl rfl) (V.move rfl rfl) rfl ?_
       refine RL.val (Wanted.yes rfl rfl rfl rfl) (V.bin rfl rfl rfl (B.subI (by omega) (by omega))) rfl ?_
       refine RL.cmp (Wanted.yes rfl rfl rfl rfl) (V.bin rfl rfl rfl B.gtr) rfl (fun h53 => ?_) (fun h53 => ?_)
       ·
        refine RL.val (Wanted.free rfl) (V.pick_false rfl rfl rfl) rfl ?_
        refine RL.nil ?_
        refine SG.cond_true rfl ?_
        refine SG.seq ?_
        have hbad := bad_ref hj e1 e2 (by first | exact .inr (.inr (.inl hh)) | omega)
        refine SG.region ?_
        refine RL.val (Wanted.free rfl) (V.buildS [] rfl bs23 (by exact trivial) rfl) rfl ?_
        refine RL.eff (Wanted.free rfl) (E.storeWhole rfl rfl rfl (by rfl) sz23 pickX (by first | (simp [Value.oneCell']; done) | (simp [setAt, Value.oneCell']; done)) (by rfl)) rfl ?_
        rintro _ _ rfl
        refine RL.val (Wanted.free rfl) (V.assign rfl rfl) rfl ?_
        refine RL.nil ?_
        refine SG.retE (Ret.r2 Tryd.func21 rfl (.agg rfl ag23 pickX rfl rfl) (.tmp rfl)) ?_ ⟨by first | (rw [parseV, if_pos hbad]; rfl) | (rw [hgood, if_neg hno]; rfl) | (rw [hgood, if_pos hyes]; rfl), rfl⟩
        exact entX
       ·
        refine RL.val (Wanted.free rfl) (V.pick_false rfl rfl rfl) rfl ?_
        refine RL.nil ?_
        refine SG.cond_false rfl ?_
        refine SG.skip ?_
        refine SG.seq ?_
        refine SG.seq ?_
        refine SG.region ?_
        refine RL.val (Wanted.free rfl) (V.assign rfl rfl) rfl ?_
        refine RL.nil ?_
        refine SG.block ?_
        refine SG.weaken (SG.loop2 (fun m0 al M => ∃ i : Nat, i ≤ j ∧ m0 = j + 1 - i ∧ al = [(0, vS s), (2, ptr b2 0), (4, ptr b4 0), (5, vI j), (6, vI i)] ∧ M = Blk b4 23 [vI (nval (s.take i) : Nat), vI (0 : Nat)] :: Blk b2 23 [vI 0, vI 0] :: L) (m0 := _) ⟨0, by omega, rfl, rfl, rfl⟩ ?_) ?_ ?_
        rotate_left
        ·
         repeat (first | exact EnvLe.nil _ | refine EnvLe.cons rfl ?_)
        ·
         exact entX
        rintro _ _ _ ⟨i, hi, rfl, rfl, rfl⟩ ih1
        refine SG.seq ?_
        refine SG.seq ?_
        refine SG.region ?_
        refine RL.val (Wanted.free rfl) (V.move rfl rfl) rfl ?_
        refine RL.val (Wanted.free rfl) (V.move rfl rfl) rfl ?_
        refine RL.cmp (Wanted.free rfl) (V.bin rfl rfl rfl B.lss) rfl (fun h60 => ?_) (fun h60 => ?_)
        ·
         refine RL.nil ?_
         refine SG.cond_true rfl ?_
         refine SG.skip ?_
         refine SG.seq ?_
         refine SG.block ?_
         have his : s[i]? = some (s[i]'(by omega)) := List.getElem?_eq_getElem (by omega)
         have hdi := dig_iff.1 (hd _ (List.mem_of_getElem? (show (s.take j)[i]? = some _ from by rw [List.getElem?_take, if_pos (by omega)]; exact his)))
         have hnv := nval5 (d := s.take i) (fun c hc => hd c (by rw [← Nat.min_eq_left (show i ≤ j by omega), ← List.take_take] at hc; exact List.mem_of_mem_take hc)) (by rw [List.length_take]; omega)
         have hsn : nval (s.take (i + 1)) = 10 * nval (s.take i) + ((s[i]'(by omega)).toNat - 48) := by rw [List.take_add_one, his]; exact nval_snoc _ _
         refine SG.drawL 11 10 wide rfl rfl ?_
         refine RH.val 0 rfl krX krX krX krX (Wanted.free rfl) (V.fieldAddr rfl rfl fo23_0) rfl ?_
         refine RH.val 1 rfl krX krX krX krX (Wanted.free rfl) (V.load rfl on3 rfl pickX rfl) rfl ?_
         refine RH.val 2 rfl krX krX krX krX (Wanted.free rfl) (V.bin rfl rfl rfl (B.mulI (by omega) (by omega))) rfl ?_
         refine RH.val 3 rfl krX krX krX krX (Wanted.free rfl) (V.move rfl rfl) rfl ?_
         refine RH.val 4 rfl krX krX krX krX (Wanted.free rfl) (V.move rfl rfl) rfl ?_
         refine RH.val 5 rfl krX krX krX krX (Wanted.free rfl) (V.indexS (j := i) rfl us9 rfl rfl (by first | rfl | omega) (List.getElem?_eq_getElem (by omega))) rfl ?_
         refine RH.val 6 rfl krX krX krX krX (Wanted.free rfl) (V.bin rfl rfl rfl (B.sub8 (y := 48))) rfl ?_
         have hsub : (s[i]'(by omega) - 48 : UInt8).toNat = (s[i]'(by omega)).toNat - 48 := UInt8.toNat_sub_of_le _ _ (UInt8.le_iff_toNat_le.2 (by show 48 ≤ _; omega))
         refine RH.val 7 rfl krX krX krX krX (Wanted.free rfl) (V.toI rfl ⟨_, ui5⟩ ui3 rfl (by omega) (by omega)) rfl ?_
         refine RH.val 8 rfl krX krX krX krX (Wanted.free rfl) (V.bin rfl rfl rfl (B.addI (by omega) (by omega))) rfl ?_
         rw [show (10 * ((nval (s.take i) : Nat) : Int) + (((s[i]'(by omega) - 48 : UInt8).toNat : Nat) : Int)) = ((nval (s.take (i + 1)) : Nat) : Int) from by rw [hsn, hsub]; omega]
         refine RH.val 9 rfl krX krX krX krX (Wanted.free rfl) (V.fieldAddr rfl rfl fo23_0) rfl ?_
         refine RH.one (i := 10) krX ?_
         refine RHone.eff rfl (Wanted.free rfl) (E.store1 rfl rfl rfl rfl rfl sz3 pickX rfl) rfl ?_
         rintro _ _ rfl
         refine ⟨.inl krX, ?_⟩
         refine RH.done krX ?_
         refine SG.inBlock ?_
         refine SG.region ?_
         refine RL.val (Wanted.free rfl) (V.move rfl rfl) rfl ?_
         refine RL.val (Wanted.free rfl) (V.bin rfl rfl rfl (B.addI (by omega) (by omega))) rfl ?_
         refine RL.val (Wanted.free rfl) (V.assign rfl rfl) rfl ?_
         refine RL.nil ?_
         refine SG.weaken (ih1 _ _ _ ?_ ⟨i + 1, by omega, rfl, rfl, rfl⟩) ?_ ?_
         ·
          omega
         ·
          repeat (first | exact EnvLe.nil _ | refine EnvLe.cons rfl ?_)
         ·
          exact entX
        ·
         refine RL.nil ?_
         refine SG.cond_false rfl ?_
         refine SG.exit rfl ?_
         refine SG.seq ?_
         refine SG.seq ?_
         obtain rfl : j = i := by omega
         refine SG.region ?_
         refine RL.val (Wanted.free rfl) (V.move rfl rfl) rfl ?_
         refine RL.val (Wanted.free rfl) (V.assign rfl rfl) rfl ?_
         refine RL.nil ?_
         refine SG.block ?_
         refine SG.weaken (SG.loop2 (fun m0 al M => ∃ p : Nat, p ≤ s.length - j ∧ (∀ c ∈ (s.drop j).take p, Lb.ltr c = true) ∧ m0 = s.length + 1 - p ∧ al = [(0, vS s), (2, ptr b2 0), (4, ptr b4 0), (7, vI ((j + p : Nat) : Int))] ∧ M = Blk b4 23 [vI (nval (s.take j) : Nat), vI (lval ((s.drop j).take p) : Nat)] :: Blk b2 23 [vI 0, vI 0] :: L) (m0 := _) ⟨0, by omega, by simp, rfl, rfl, rfl⟩ ?_) ?_ ?_
         rotate_left
         ·
          repeat (first | exact EnvLe.nil _ | refine EnvLe.cons rfl ?_)
         ·
          exact entX
         rintro _ _ _ ⟨p, hp, hl, rfl, rfl, rfl⟩ ih2
         refine SG.seq ?_
         refine SG.seq ?_
         refine SG.region ?_
         refine RL.val (Wanted.free rfl) (V.move rfl rfl) rfl ?_
         refine RL.val (Wanted.free rfl) (V.move rfl rfl) rfl ?_
         refine RL.val (Wanted.free rfl) (V.lenS rfl rfl us9 rfl) rfl ?_
         refine RL.cmp (Wanted.free rfl) (V.bin rfl rfl rfl B.lss) rfl (fun h80 => ?_) (fun h80 => ?_)
         ·
          refine RL.nil ?_
          refine SG.cond_true rfl ?_
          refine SG.skip ?_
          refine SG.seq ?_
          refine SG.block ?_
          refine SG.seq ?_
          refine SG.seq ?_
          obtain ⟨c, hc⟩ : ∃ c, (s.drop j)[p]? = some c := ⟨_, List.getElem?_eq_getElem (by rw [List.length_drop]; omega)⟩
          have hc2 : s[j + p]? = some c := by rw [List.getElem?_drop] at hc; exact hc
          refine SG.region ?_
          refine RL.val (Wanted.free rfl) (V.move rfl rfl) rfl ?_
          refine RL.val (Wanted.free rfl) (V.move rfl rfl) rfl ?_
          refine RL.val (Wanted.free rfl) (V.indexS (j := j + p) rfl us9 rfl rfl (by first | rfl | omega) hc2) rfl ?_
          refine RL.cmp (Wanted.free rfl) (V.bin rfl rfl rfl B.lss) rfl (fun h84 => ?_) (fun h84 => ?_)
          ·
           refine RL.val (Wanted.free rfl) (V.move rfl rfl) rfl ?_
           refine RL.skip (Wanted.no rfl rfl rfl rfl rfl) rfl ?_
           refine RL.skip (Wanted.no rfl rfl rfl rfl rfl) rfl ?_
           refine RL.skip (Wanted.no rfl rfl rfl rfl rfl) rfl ?_
           refine RL.skip (Wanted.no rfl rfl rfl rfl rfl) rfl ?_
           refine RL.val (Wanted.free rfl) (V.pick_true rfl rfl rfl) rfl ?_
           refine RL.nil ?_
           refine SG.cond_true rfl ?_
           refine SG.seq ?_
           have hbad := bad_ltr e2 hc (by cases hx : Lb.ltr c with | false => rfl | true => (have := ltr_iff.1 hx; omega))
           refine SG.region ?_
           refine RL.val (Wanted.free rfl) (V.buildS [] rfl bs23 (by exact trivial) rfl) rfl ?_
           refine RL.eff (Wanted.free rfl) (E.storeWhole rfl rfl rfl (by rfl) sz23 pickX (by first | (simp [Value.oneCell']; done) | (simp [setAt, Value.oneCell']; done)) (by rfl)) rfl ?_
           rintro _ _ rfl
           refine RL.val (Wanted.free rfl) (V.assign rfl rfl) rfl ?_
           refine RL.nil ?_
           refine SG.retE (Ret.r2 Tryd.func21 rfl (.agg rfl ag23 pickX rfl rfl) (.tmp rfl)) ?_ ⟨by first | (rw [parseV, if_pos hbad]; rfl) | (rw [hgood, if_neg hno]; rfl) | (rw [hgood, if_pos hyes]; rfl), rfl⟩
           exact entX
          ·
           refine RL.val (Wanted.free rfl) (V.move rfl rfl) rfl ?_
           refine RL.val (Wanted.yes rfl rfl rfl rfl) (V.move rfl rfl) rfl ?_
           refine RL.val (Wanted.yes rfl rfl rfl rfl) (V.move rfl rfl) rfl ?_
           refine RL.val (Wanted.yes rfl rfl rfl rfl) (V.indexS (j := j + p) rfl us9 rfl rfl (by first | rfl | omega) hc2) rfl ?_
           refine RL.cmp (Wanted.yes rfl rfl rfl rfl) (V.bin rfl rfl rfl B.gtr) rfl (fun h93 => ?_) (fun h93 => ?_)
           ·
            refine RL.val (Wanted.free rfl) (V.pick_false rfl rfl rfl) rfl ?_
            refine RL.nil ?_
            refine SG.cond_true rfl ?_
            refine SG.seq ?_
            have hbad := bad_ltr e2 hc (by cases hx : Lb.ltr c with | false => rfl | true => (have := ltr_iff.1 hx; omega))
            refine SG.region ?_
            refine RL.val (Wanted.free rfl) (V.buildS [] rfl bs23 (by exact trivial) rfl) rfl ?_
            refine RL.eff (Wanted.free rfl) (E.storeWhole rfl rfl rfl (by rfl) sz23 pickX (by first | (simp [Value.oneCell']; done) | (simp [setAt, Value.oneCell']; done)) (by rfl)) rfl ?_
            rintro _ _ rfl
            refine RL.val (Wanted.free rfl) (V.assign rfl rfl) rfl ?_
            refine RL.nil ?_
            refine SG.retE (Ret.r2 Tryd.func21 rfl (.agg rfl ag23 pickX rfl rfl) (.tmp rfl)) ?_ ⟨by first | (rw [parseV, if_pos hbad]; rfl) | (rw [hgood, if_neg hno]; rfl) | (rw [hgood, if_pos hyes]; rfl), rfl⟩
            exact entX
           ·
            refine RL.val (Wanted.free rfl) (V.pick_false rfl rfl rfl) rfl ?_
            refine RL.nil ?_
            refine SG.cond_false rfl ?_
            refine SG.skip ?_
            have hlc := ltr_iff.2 (show 97 ≤ c.toNat ∧ c.toNat ≤ 122 by omega)
            have hl2 := take_step hl hc hlc
            have hlv := lval4 hl (by rw [List.length_take]; omega)
            have hsn : lval ((s.drop j).take (p + 1)) = 26 * lval ((s.drop j).take p) + (c.toNat - 97) + 1 := by rw [List.take_add_one, hc]; exact lval_snoc _ _
            refine SG.drawL 12 11 wide rfl rfl ?_
            refine RH.val 0 rfl krX krX krX krX (Wanted.free rfl) (V.fieldAddr rfl rfl fo23_1) rfl ?_
            refine RH.val 1 rfl krX krX krX krX (Wanted.free rfl) (V.load rfl on3 rfl pickX rfl) rfl ?_
            refine RH.val 2 rfl krX krX krX krX (Wanted.free rfl) (V.bin rfl rfl rfl (B.mulI (by omega) (by omega))) rfl ?_
            refine RH.val 3 rfl krX krX krX krX (Wanted.free rfl) (V.move rfl rfl) rfl ?_
            refine RH.val 4 rfl krX krX krX krX (Wanted.free rfl) (V.move rfl rfl) rfl ?_
            refine RH.val 5 rfl krX krX krX krX (Wanted.free rfl) (V.indexS (j := j + p) rfl us9 rfl rfl (by first | rfl | omega) hc2) rfl ?_
            refine RH.val 6 rfl krX krX krX krX (Wanted.free rfl) (V.bin rfl rfl rfl (B.sub8 (y := 97))) rfl ?_
            have hsub : (c - 97 : UInt8).toNat = c.toNat - 97 := UInt8.toNat_sub_of_le _ _ (UInt8.le_iff_toNat_le.2 (by show 97 ≤ _; omega))
            refine RH.val 7 rfl krX krX krX krX (Wanted.free rfl) (V.toI rfl ⟨_, ui5⟩ ui3 rfl (by omega) (by omega)) rfl ?_
            refine RH.val 8 rfl krX krX krX krX (Wanted.free rfl) (V.bin rfl rfl rfl (B.addI (by omega) (by omega))) rfl ?_
            refine RH.val 9 rfl krX krX krX krX (Wanted.free rfl) (V.bin rfl rfl rfl (B.addI (by omega) (by omega))) rfl ?_
            rw [show (26 * ((lval ((s.drop j).take p) : Nat) : Int) + (((c - 97 : UInt8).toNat : Nat) : Int) + 1) = ((lval ((s.drop j).take (p + 1)) : Nat) : Int) from by rw [hsn, hsub]; omega]
            refine RH.val 10 rfl krX krX krX krX (Wanted.free rfl) (V.fieldAddr rfl rfl fo23_1) rfl ?_
            refine RH.one (i := 11) krX ?_
            refine RHone.eff rfl (Wanted.free rfl) (E.store1 rfl rfl rfl rfl rfl sz3 pickX rfl) rfl ?_
            rintro _ _ rfl
            refine ⟨.inl krX, ?_⟩
            refine RH.done krX ?_
            refine SG.inBlock ?_
            refine SG.region ?_
            refine RL.val (Wanted.free rfl) (V.move rfl rfl) rfl ?_
            refine RL.val (Wanted.free rfl) (V.bin rfl rfl rfl (B.addI (by omega) (by omega))) rfl ?_
            refine RL.val (Wanted.free rfl) (V.assign rfl rfl) rfl ?_
            refine RL.nil ?_
            refine SG.weaken (ih2 _ _ _ ?_ ⟨p + 1, by omega, hl2, rfl, rfl, rfl⟩) ?_ ?_
            ·
             omega
            ·
             repeat (first | exact EnvLe.nil _ | refine EnvLe.cons rfl ?_)
            ·
             exact entX
         ·
          refine RL.nil ?_
          refine SG.cond_false rfl ?_
          refine SG.exit rfl ?_
          refine SG.seq ?_
          refine SG.seq ?_
          have hpe : (s.drop j).take p = s.drop j := List.take_of_length_le (by rw [List.length_drop]; omega)
          rw [hpe] at hl ⊢
          have hgood := good_ref (eF := 7) (eR := 5) (by omega) hj hd hl (by omega) (by omega) hh
          have hnv := nval5 hd (by rw [List.length_take]; omega)
          have hlv := lval4 hl (by rw [List.length_drop]; omega)
          refine SG.region ?_
          refine RL.val (Wanted.free rfl) (V.loadAgg (us := [vI (nval (s.take j) : Nat), vI (lval (s.drop j) : Nat)]) rfl ag23 rfl pickX rfl rfl) rfl ?_
          refine RL.eff (Wanted.free rfl) (E.call rfl go15 rfl (rCheck_ok (l := ⟨nval (s.take j), lval (s.drop j)⟩))) rfl ?_
          rintro _ _ ⟨rfl, rfl⟩
          refine RL.cmp (Wanted.free rfl) (V.bin rfl rfl rfl B.neq) rfl (fun h114 => ?_) (fun h114 => ?_)
          ·
           have hno := check_bad_of h114
           refine RL.nil ?_
           refine SG.cond_true rfl ?_
           refine SG.seq ?_
           refine SG.region ?_
           refine RL.val (Wanted.free rfl) (V.buildS [] rfl bs23 (by exact trivial) rfl) rfl ?_
           refine RL.eff (Wanted.free rfl) (E.storeWhole rfl rfl rfl (by rfl) sz23 pickX (by first | (simp [Value.oneCell']; done) | (simp [setAt, Value.oneCell']; done)) (by rfl)) rfl ?_
           rintro _ _ rfl
           refine RL.val (Wanted.free rfl) (V.assign rfl rfl) rfl ?_
           refine RL.nil ?_
           refine SG.retE (Ret.r2 Tryd.func21 rfl (.agg rfl ag23 pickX rfl rfl) (.tmp rfl)) ?_ ⟨by first | (rw [parseV, if_pos hbad]; rfl) | (rw [hgood, if_neg hno]; rfl) | (rw [hgood, if_pos hyes]; rfl), rfl⟩
           exact entX
          ·
           have hyes := check_ok_of (Decidable.byContradiction fun e => h114 e)
           refine RL.nil ?_
           refine SG.cond_false rfl ?_
           refine SG.skip ?_
           refine SG.seq ?_
           refine SG.region ?_
           refine RL.val (Wanted.free rfl) (V.loadAgg (us := [vI (nval (s.take j) : Nat), vI (lval (s.drop j) : Nat)]) rfl ag23 rfl pickX rfl rfl) rfl ?_
           refine RL.eff (Wanted.free rfl) (E.storeWhole rfl rfl rfl (by rfl) sz23 pickX (by first | (simp [Value.oneCell']; done) | (simp [setAt, Value.oneCell']; done)) (by rfl)) rfl ?_
           rintro _ _ rfl
           refine RL.val (Wanted.free rfl) (V.assign rfl rfl) rfl ?_
           refine RL.nil ?_
           refine SG.retE (Ret.r2 Tryd.func21 rfl (.agg rfl ag23 pickX rfl rfl) (.tmp rfl)) ?_ ⟨by first | (rw [parseV, if_pos hbad]; rfl) | (rw [hgood, if_neg hno]; rfl) | (rw [hgood, if_pos hyes]; rfl), rfl⟩
           exact entX
  ·
   refine RL.val (Wanted.free rfl) (V.pick_true rfl rfl rfl) rfl ?_
   refine RL.val (Wanted.free rfl) (V.move rfl rfl) rfl ?_
   refine RL.skip (Wanted.no rfl rfl rfl rfl rfl) rfl ?_
   refine RL.skip (Wanted.no rfl rfl rfl rfl rfl) rfl ?_
   refine RL.skip (Wanted.no rfl rfl rfl rfl rfl) rfl ?_
   refine RL.skip (Wanted.no rfl rfl rfl rfl rfl) rfl ?_
   refine RL.val (Wanted.free rfl) (V.pick_false rfl rfl rfl) rfl ?_
   refine RL.nil ?_
   refine SG.cond_false rfl ?_
   refine SG.exit rfl ?_
   refine SG.seq ?_
   refine SG.seq ?_
   have htw : ∀ c, s[j]? = some c → Lb.dig c = false := fun c hc => by
    obtain ⟨hlt, he⟩ := List.getElem?_eq_some_iff.1 hc
    cases hx : Lb.dig c with
    | false => rfl
    | true =>
     have := dig_iff.1 hx
     subst he
     omega
   obtain ⟨e1, e2⟩ := tw_at hd htw
   refine SG.region ?_
   refine RL.val (Wanted.free rfl) (V.move rfl rfl) rfl ?_
   refine RL.cmp (Wanted.free rfl) (V.bin rfl rfl rfl B.lss) rfl (fun h123 => ?_) (fun h123 => ?_)
   ·
    refine RL.val (Wanted.free rfl) (V.move rfl rfl) rfl ?_
    refine RL.skip (Wanted.no rfl rfl rfl rfl rfl) rfl ?_
    refine RL.skip (Wanted.no rfl rfl rfl rfl rfl) rfl ?_
    refine RL.val (Wanted.free rfl) (V.pick_true rfl rfl rfl) rfl ?_
    refine RL.val (Wanted.free rfl) (V.move rfl rfl) rfl ?_
    refine RL.skip (Wanted.no rfl rfl rfl rfl rfl) rfl ?_
    refine RL.skip (Wanted.no rfl rfl rfl rfl rfl) rfl ?_
    refine RL.skip (Wanted.no rfl rfl rfl rfl rfl) rfl ?_
    refine RL.val (Wanted.free rfl) (V.pick_true rfl rfl rfl) rfl ?_
    refine RL.val (Wanted.free rfl) (V.move rfl rfl) rfl ?_
    refine RL.skip (Wanted.no rfl rfl rfl rfl rfl) rfl ?_
    refine RL.skip (Wanted.no rfl rfl rfl rfl rfl) rfl ?_
    refine RL.skip (Wanted.no rfl rfl rfl rfl rfl) rfl ?_
    refine RL.skip (Wanted.no rfl rfl rfl rfl rfl) rfl ?_
    refine RL.skip (Wanted.no rfl rfl rfl rfl rfl) rfl ?_
    refine RL.val (Wanted.free rfl) (V.pick_true rfl rfl rfl) rfl ?_
    refine RL.nil ?_
    refine SG.cond_true rfl ?_
    refine SG.seq ?_
    have hbad := bad_ref hj e1 e2 (by first | exact .inr (.inr (.inl hh)) | omega)
    refine SG.region ?_
    refine RL.val (Wanted.free rfl) (V.buildS [] rfl bs23 (by exact trivial) rfl) rfl ?_
    refine RL.eff (Wanted.free rfl) (E.storeWhole rfl rfl rfl (by rfl) sz23 pickX (by first | (simp [Value.oneCell']; done) | (simp [setAt, Value.oneCell']; done)) (by rfl)) rfl ?_
    rintro _ _ rfl
    refine RL.val (Wanted.free rfl) (V.assign rfl rfl) rfl ?_
    refine RL.nil ?_
    refine SG.retE (Ret.r2 Tryd.func21 rfl (.agg rfl ag23 pickX rfl rfl) (.tmp rfl)) ?_ ⟨by first | (rw [parseV, if_pos hbad]; rfl) | (rw [hgood, if_neg hno]; rfl) | (rw [hgood, if_pos hyes]; rfl), rfl⟩
    exact entX
   ·
    refine RL.val (Wanted.free rfl) (V.move rfl rfl) rfl ?_
    refine RL.val (Wanted.yes rfl rfl rfl rfl) (V.move rfl rfl) rfl ?_
    refine RL.cmp (Wanted.yes rfl rfl rfl rfl) (V.bin rfl rfl rfl B.gtr) rfl (fun h132 => ?_) (fun h132 => ?_)
    ·
     refine RL.val (Wanted.free rfl) (V.pick_false rfl rfl rfl) rfl ?_
     refine RL.val (Wanted.free rfl) (V.move rfl rfl) rfl ?_
     refine RL.skip (Wanted.no rfl rfl rfl rfl rfl) rfl ?_
     refine RL.skip (Wanted.no rfl rfl rfl rfl rfl) rfl ?_
     refine RL.skip (Wanted.no rfl rfl rfl rfl rfl) rfl ?_
     refine RL.val (Wanted.free rfl) (V.pick_true rfl rfl rfl) rfl ?_
     refine RL.val (Wanted.free rfl) (V.move rfl rfl) rfl ?_
     refine RL.skip (Wanted.no rfl rfl rfl rfl rfl) rfl ?_
     refine RL.skip (Wanted.no rfl rfl rfl rfl rfl) rfl ?_
     refine RL.skip (Wanted.no rfl rfl rfl rfl rfl) rfl ?_
     refine RL.skip (Wanted.no rfl rfl rfl rfl rfl) rfl ?_
     refine RL.skip (Wanted.no rfl rfl rfl rfl rfl) rfl ?_
     refine RL.val (Wanted.free rfl) (V.pick_true rfl rfl rfl) rfl ?_
     refine RL.nil ?_
     refine SG.cond_true rfl ?_
     refine SG.seq ?_
     have hbad := bad_ref hj e1 e2 (by first | exact .inr (.inr (.inl hh)) | omega)
     refine SG.region ?_
     refine RL.val (Wanted.free rfl) (V.buildS [] rfl bs23 (by exact trivial) rfl) rfl ?_
     refine RL.eff (Wanted.free rfl) (E.storeWhole rfl rfl rfl (by rfl) sz23 pickX (by first | (simp [Value.oneCell']; done) | (simp [setAt, Value.oneCell']; done)) (by rfl)) rfl ?_
     rintro _ _ rfl
     refine RL.val (Wanted.free rfl) (V.assign rfl rfl) rfl ?_
     refine RL.nil ?_
     refine SG.retE (Ret.r2 Tryd.func21 rfl (.agg rfl ag23 pickX rfl rfl) (.tmp rfl)) ?_ ⟨by first | (rw [parseV, if_pos hbad]; rfl) | (rw [hgood, if_neg hno]; rfl) | (rw [hgood, if_pos hyes]; rfl), rfl⟩
     exact entX
    ·
     refine RL.val (Wanted.free rfl) (V.pick_false rfl rfl rfl) rfl ?_
     refine RL.val (Wanted.free rfl) (V.move rfl rfl) rfl ?_
     refine RL.val (Wanted.yes rfl rfl rfl rfl) (V.move rfl rfl) rfl ?_
     refine RL.val (Wanted.yes rfl rfl rfl rfl) (V.indexS (j := 0) rfl us9 rfl rfl (by first | rfl | omega) (List.getElem?_eq_getElem (by omega))) rfl ?_
     refine RL.cmp (Wanted.yes rfl rfl rfl rfl) (V.bin rfl rfl rfl B.eql) rfl (fun h141 => ?_) (fun h141 => ?_)
     ·
      have hh : s.head? = some 48 := by
       obtain ⟨x, r, rfl⟩ := List.exists_cons_of_length_pos (show 0 < s.length by omega)
       simp only [List.head?_cons, Option.some.injEq]
       apply eq_of_toNat
       have := h141
       simp only [List.getElem_cons_zero] at this
       show x.toNat = 48
       omega
      refine RL.val (Wanted.free rfl) (V.pick_false rfl rfl rfl) rfl ?_
      refine RL.val (Wanted.free rfl) (V.move rfl rfl) rfl ?_
      refine RL.skip (Wanted.no rfl rfl rfl rfl rfl) rfl ?_
      refine RL.skip (Wanted.no rfl rfl rfl rfl rfl) rfl ?_
      refine RL.skip (Wanted.no rfl rfl rfl rfl rfl) rfl ?_
      refine RL.skip (Wanted.no rfl rfl rfl rfl rfl) rfl ?_
      refine RL.skip (Wanted.no rfl rfl rfl rfl rfl) rfl ?_
      refine RL.val (Wanted.free rfl) (V.pick_true rfl rfl rfl) rfl ?_
      refine RL.nil ?_
      refine SG.cond_true rfl ?_
      refine SG.seq ?_
      have hbad := bad_ref hj e1 e2 (by first | exact .inr (.inr (.inl hh)) | omega)
      refine SG.region ?_
      refine RL.val (Wanted.free rfl) (V.buildS [] rfl bs23 (by exact trivial) rfl) rfl ?_
      refine RL.eff (Wanted.free rfl) (E.storeWhole rfl rfl rfl (by rfl) sz23 pickX (by first | (simp [Value.oneCell']; done) | (simp [setAt, Value.oneCell']; done)) (by rfl)) rfl ?_
      rintro _ _ rfl
      refine RL.val (Wanted.free rfl) (V.assign rfl rfl) rfl ?_
      refine RL.nil ?_
      refine SG.retE (Ret.r2 Tryd.func21 rfl (.agg rfl ag23 pickX rfl rfl) (.tmp rfl)) ?_ ⟨by first | (rw [parseV, if_pos hbad]; rfl) | (rw [hgood, if_neg hno]; rfl) | (rw [hgood, if_pos hyes]; rfl), rfl⟩
      exact entX
     ·
      have hh : s.head? ≠ some 48 := by
       obtain ⟨x, r, rfl⟩ := List.exists_cons_of_length_pos (show 0 < s.length by omega)
       simp only [List.head?_cons, ne_eq, Option.some.injEq]
       intro e
       subst e
       exact h141 rfl
      refine RL.val (Wanted.free rfl) (V.pick_false rfl rfl rfl) rfl ?_
      refine RL.val (Wanted.free rfl) (V.move rfl rfl) rfl ?_
      refine RL.val (Wanted.yes rfl rfl rfl rfl) (V.move rfl rfl) rfl ?_
      refine RL.val (Wanted.yes rfl rfl rfl rfl) (V.lenS rfl rfl us9 rfl) rfl ?_
      refine RL.val (Wanted.yes rfl rfl rfl rfl) (V.move rfl rfl) rfl ?_
      refine RL.val (Wanted.yes rfl rfl rfl rfl) (V.bin rfl rfl rfl (B.subI (by omega) (by omega))) rfl ?_
      refine RL.cmp (Wanted.yes rfl rfl rfl rfl) (V.bin rfl rfl rfl B.gtr) rfl (fun h151 => ?_) (fun h151 => ?_)
      ·
       refine RL.val (Wanted.free rfl) (V.pick_false rfl rfl rfl) rfl ?_
       refine RL.nil ?_
       refine SG.cond_true rfl ?_
       refine SG.seq ?_
       have hbad := bad_ref hj e1 e2 (by first | exact .inr (.inr (.inl hh)) | omega)
       refine SG.region ?_
       refine RL.val (Wanted.free rfl) (V.buildS [] rfl bs23 (by exact trivial) rfl) rfl ?_
       refine RL.eff (Wanted.free rfl) (E.storeWhole rfl rfl rfl (by rfl) sz23 pickX (by first | (simp [Value.oneCell']; done) | (simp [setAt, Value.oneCell']; done)) (by rfl)) rfl ?_
       rintro _ _ rfl
       refine RL.val (Wanted.free rfl) (V.assign rfl rfl) rfl ?_
       refine RL.nil ?_
       refine SG.retE (Ret.r2 Tryd.func21 rfl (.agg rfl ag23 pickX rfl rfl) (.tmp rfl)) ?_ ⟨by first | (rw [parseV, if_pos hbad]; rfl) | (rw [hgood, if_neg hno]; rfl) | (rw [hgood, if_pos hyes]; rfl), rfl⟩
       exact entX
      ·
       refine RL.val (Wanted.free rfl) (V.pick_false rfl rfl rfl) rfl ?_
       refine RL.nil ?_
       refine SG.cond_false rfl ?_
       refine SG.skip ?_
       refine SG.seq ?_
       refine SG.seq ?_
       refine SG.region ?_
       refine RL.val (Wanted.free rfl) (V.assign rfl rfl) rfl ?_
       refine RL.nil ?_
       refine SG.block ?_
       refine SG.weaken (SG.loop2 (fun m0 al M => ∃ i : Nat, i ≤ j ∧ m0 = j + 1 - i ∧ al = [(0, vS s), (2, ptr b2 0), (4, ptr b4 0), (5, vI j), (6, vI i)] ∧ M = Blk b4 23 [vI (nval (s.take i) : Nat), vI (0 : Nat)] :: Blk b2 23 [vI 0, vI 0] :: L) (m0 := _) ⟨0, by omega, rfl, rfl, rfl⟩ ?_) ?_ ?_
       rotate_left
       ·
        repeat (first | exact EnvLe.nil _ | refine EnvLe.cons rfl ?_)
       ·
        exact entX
       rintro _ _ _ ⟨i, hi, rfl, rfl, rfl⟩ ih1
       refine SG.seq ?_
       refine SG.seq ?_
       refine SG.region ?_
       refine RL.val (Wanted.free rfl) (V.move rfl rfl) rfl ?_
       refine RL.val (Wanted.free rfl) (V.move rfl rfl) rfl ?_
       refine RL.cmp (Wanted.free rfl) (V.bin rfl rfl rfl B.lss) rfl (fun h158 => ?_) (fun h158 => ?_)
       ·
        refine RL.nil ?_
        refine SG.cond_true rfl ?_
        refine SG.skip ?_
        refine SG.seq ?_
        refine SG.block ?_
        have his : s[i]? = some (s[i]'(by omega)) := List.getElem?_eq_getElem (by omega)
        have hdi := dig_iff.1 (hd _ (List.mem_of_getElem? (show (s.take j)[i]? = some _ from by rw [List.getElem?_take, if_pos (by omega)]; exact his)))
        have hnv := nval5 (d := s.take i) (fun c hc => hd c (by rw [← Nat.min_eq_left (show i ≤ j by omega), ← List.take_take] at hc; exact List.mem_of_mem_take hc)) (by rw [List.length_take]; omega)
        have hsn : nval (s.take (i + 1)) = 10 * nval (s.take i) + ((s[i]'(by omega)).toNat - 48) := by rw [List.take_add_one, his]; exact nval_snoc _ _
        refine SG.drawL 11 10 wide rfl rfl ?_
        refine RH.val 0 rfl krX krX krX krX (Wanted.free rfl) (V.fieldAddr rfl rfl fo23_0) rfl ?_
        refine RH.val 1 rfl krX krX krX krX (Wanted.free rfl) (V.load rfl on3 rfl pickX rfl) rfl ?_
        refine RH.val 2 rfl krX krX krX krX (Wanted.free rfl) (V.bin rfl rfl rfl (B.mulI (by omega) (by omega))) rfl ?_
        refine RH.val 3 rfl krX krX krX krX (Wanted.free rfl) (V.move rfl rfl) rfl ?_
        refine RH.val 4 rfl krX krX krX krX (Wanted.free rfl) (V.move rfl rfl) rfl ?_
        refine RH.val 5 rfl krX krX krX krX (Wanted.free rfl) (V.indexS (j := i) rfl us9 rfl rfl (by first | rfl | omega) (List.getElem?_eq_getElem (by omega))) rfl ?_
        refine RH.val 6 rfl krX krX krX krX (Wanted.free rfl) (V.bin rfl rfl rfl (B.sub8 (y := 48))) rfl ?_
        have hsub : (s[i]'(by omega) - 48 : UInt8).toNat = (s[i]'(by omega)).toNat - 48 := UInt8.toNat_sub_of_le _ _ (UInt8.le_iff_toNat_le.2 (by show 48 ≤ _; omega))
        refine RH.val 7 rfl krX krX krX krX (Wanted.free rfl) (V.toI rfl ⟨_, ui5⟩ ui3 rfl (by omega) (by omega)) rfl ?_
        refine RH.val 8 rfl krX krX krX krX (Wanted.free rfl) (V.bin rfl rfl rfl (B.addI (by omega) (by omega))) rfl ?_
        rw [show (10 * ((nval (s.take i) : Nat) : Int) + (((s[i]'(by omega) - 48 : UInt8).toNat : Nat) : Int)) = ((nval (s.take (i + 1)) : Nat) : Int) from by rw [hsn, hsub]; omega]
        refine RH.val 9 rfl krX krX krX krX (Wanted.free rfl) (V.fieldAddr rfl rfl fo23_0) rfl ?_
        refine RH.one (i := 10) krX ?_
        refine RHone.eff rfl (Wanted.free rfl) (E.store1 rfl rfl rfl rfl rfl sz3 pickX rfl) rfl ?_
        rintro _ _ rfl
        refine ⟨.inl krX, ?_⟩
        refine RH.done krX ?_
        refine SG.inBlock ?_
        refine SG.region ?_
        refine RL.val (Wanted.free rfl) (V.move rfl rfl) rfl ?_
        refine RL.val (Wanted.free rfl) (V.bin rfl rfl rfl (B.addI (by omega) (by omega))) rfl ?_
        refine RL.val (Wanted.free rfl) (V.assign rfl rfl) rfl ?_
        refine RL.nil ?_
        refine SG.weaken (ih1 _ _ _ ?_ ⟨i + 1, by omega, rfl, rfl, rfl⟩) ?_ ?_
        ·
         omega
        ·
         repeat (first | exact EnvLe.nil _ | refine EnvLe.cons rfl ?_)
        ·
         exact entX
       ·
        refine RL.nil ?_
        refine SG.cond_false rfl ?_
        refine SG.exit rfl ?_
        refine SG.seq ?_
        refine SG.seq ?_
        obtain rfl : j = i := by omega
        refine SG.region ?_
        refine RL.val (Wanted.free rfl) (V.move rfl rfl) rfl ?_
        refine RL.val (Wanted.free rfl) (V.assign rfl rfl) rfl ?_
        refine RL.nil ?_
        refine SG.block ?_
        refine SG.weaken (SG.loop2 (fun m0 al M => ∃ p : Nat, p ≤ s.length - j ∧ (∀ c ∈ (s.drop j).take p, Lb.ltr c = true) ∧ m0 = s.length + 1 - p ∧ al = [(0, vS s), (2, ptr b2 0), (4, ptr b4 0), (7, vI ((j + p : Nat) : Int))] ∧ M = Blk b4 23 [vI (nval (s.take j) : Nat), vI (lval ((s.drop j).take p) : Nat)] :: Blk b2 23 [vI 0, vI 0] :: L) (m0 := _) ⟨0, by omega, by simp, rfl, rfl, rfl⟩ ?_) ?_ ?_
        rotate_left
        ·
         repeat (first | exact EnvLe.nil _ | refine EnvLe.cons rfl ?_)
        ·
         exact entX
        rintro _ _ _ ⟨p, hp, hl, rfl, rfl, rfl⟩ ih2
        refine SG.seq ?_
        refine SG.seq ?_
        refine SG.region ?_
        refine RL.val (Wanted.free rfl) (V.move rfl rfl) rfl ?_
        refine RL.val (Wanted.free rfl) (V.move rfl rfl) rfl ?_
        refine RL.val (Wanted.free rfl) (V.lenS rfl rfl us9 rfl) rfl ?_
        refine RL.cmp (Wanted.free rfl) (V.bin rfl rfl rfl B.lss) rfl (fun h178 => ?_) (fun h178 => ?_)
        ·
         refine RL.nil ?_
         refine SG.cond_true rfl ?_
         refine SG.skip ?_
         refine SG.seq ?_
         refine SG.block ?_
         refine SG.seq ?_
         refine SG.seq ?_
         obtain ⟨c, hc⟩ : ∃ c, (s.drop j)[p]? = some c := ⟨_, List.getElem?_eq_getElem (by rw [List.length_drop]; omega)⟩
         have hc2 : s[j + p]? = some c := by rw [List.getElem?_drop] at hc; exact hc
         refine SG.region ?_
         refine RL.val (Wanted.free rfl) (V.move rfl rfl) rfl ?_
         refine RL.val (Wanted.free rfl) (V.move rfl rfl) rfl ?_
         refine RL.val (Wanted.free rfl) (V.indexS (j := j + p) rfl us9 rfl rfl (by first | rfl | omega) hc2) rfl ?_
         refine RL.cmp (Wanted.free rfl) (V.bin rfl rfl rfl B.lss) rfl (fun h182 => ?_) (fun h182 => ?_)
         ·
          refine RL.val (Wanted.free rfl) (V.move rfl rfl) rfl ?_
          refine RL.skip (Wanted.no rfl rfl rfl rfl rfl) rfl ?_
          refine RL.skip (Wanted.no rfl rfl rfl rfl rfl) rfl ?_
          refine RL.skip (Wanted.no rfl rfl rfl rfl rfl) rfl ?_
          refine RL.skip (Wanted.no rfl rfl rfl rfl rfl) rfl ?_
          refine RL.val (Wanted.free rfl) (V.pick_true rfl rfl rfl) rfl ?_
          refine RL.nil ?_
          refine SG.cond_true rfl ?_
          refine SG.seq ?_
          have hbad := bad_ltr e2 hc (by cases hx : Lb.ltr c with | false => rfl | true => (have := ltr_iff.1 hx; omega))
          refine SG.region ?_
          refine RL.val (Wanted.free rfl) (V.buildS [] rfl bs23 (by exact trivial) rfl) rfl ?_
          refine RL.eff (Wanted.free rfl) (E.storeWhole rfl rfl rfl (by rfl) sz23 pickX (by first | (simp [Value.oneCell']; done) | (simp [setAt, Value.oneCell']; done)) (by rfl)) rfl ?_
          rintro _ _ rfl
          refine RL.val (Wanted.free rfl) (V.assign rfl rfl) rfl ?_
          refine RL.nil ?_
          refine SG.retE (Ret.r2 Tryd.func21 rfl (.agg rfl ag23 pickX rfl rfl) (.tmp rfl)) ?_ ⟨by first | (rw [parseV, if_pos hbad]; rfl) | (rw [hgood, if_neg hno]; rfl) | (rw [hgood, if_pos hyes]; rfl), rfl⟩
          exact entX
         ·
          refine RL.val (Wanted.free rfl) (V.move rfl rfl) rfl ?_
          refine RL.val (Wanted.yes rfl rfl rfl rfl) (V.move rfl rfl) rfl ?_
          refine RL.val (Wanted.yes rfl rfl rfl rfl) (V.move rfl rfl) rfl ?_
          refine RL.val (Wanted.yes rfl rfl rfl rfl) (V.indexS (j := j + p) rfl us9 rfl rfl (by first | rfl | omega) hc2) rfl ?_
          refine RL.cmp (Wanted.yes rfl rfl rfl rfl) (V.bin rfl rfl rfl B.gtr) rfl (fun h191 => ?_) (fun h191 => ?_)
          ·
           refine RL.val (Wanted.free rfl) (V.pick_false rfl rfl rfl) rfl ?_
           refine RL.nil ?_
           refine SG.cond_true rfl ?_
           refine SG.seq ?_
           have hbad := bad_ltr e2 hc (by cases hx : Lb.ltr c with | false => rfl | true => (have := ltr_iff.1 hx; omega))
           refine SG.region ?_
           refine RL.val (Wanted.free rfl) (V.buildS [] rfl bs23 (by exact trivial) rfl) rfl ?_
           refine RL.eff (Wanted.free rfl) (E.storeWhole rfl rfl rfl (by rfl) sz23 pickX (by first | (simp [Value.oneCell']; done) | (simp [setAt, Value.oneCell']; done)) (by rfl)) rfl ?_
           rintro _ _ rfl
           refine RL.val (Wanted.free rfl) (V.assign rfl rfl) rfl ?_
           refine RL.nil ?_
           refine SG.retE (Ret.r2 Tryd.func21 rfl (.agg rfl ag23 pickX rfl rfl) (.tmp rfl)) ?_ ⟨by first | (rw [parseV, if_pos hbad]; rfl) | (rw [hgood, if_neg hno]; rfl) | (rw [hgood, if_pos hyes]; rfl), rfl⟩
           exact entX
          ·
           refine RL.val (Wanted.free rfl) (V.pick_false rfl rfl rfl) rfl ?_
           refine RL.nil ?_
           refine SG.cond_false rfl ?_
           refine SG.skip ?_
           have hlc := ltr_iff.2 (show 97 ≤ c.toNat ∧ c.toNat ≤ 122 by omega)
           have hl2 := take_step hl hc hlc
           have hlv := lval4 hl (by rw [List.length_take]; omega)
           have hsn : lval ((s.drop j).take (p + 1)) = 26 * lval ((s.drop j).take p) + (c.toNat - 97) + 1 := by rw [List.take_add_one, hc]; exact lval_snoc _ _
           refine SG.drawL 12 11 wide rfl rfl ?_
           refine RH.val 0 rfl krX krX krX krX (Wanted.free rfl) (V.fieldAddr rfl rfl fo23_1) rfl ?_
           refine RH.val 1 rfl krX krX krX krX (Wanted.free rfl) (V.load rfl on3 rfl pickX rfl) rfl ?_
           refine RH.val 2 rfl krX krX krX krX (Wanted.free rfl) (V.bin rfl rfl rfl (B.mulI (by omega) (by omega))) rfl ?_
           refine RH.val 3 rfl krX krX krX krX (Wanted.free rfl) (V.move rfl rfl) rfl ?_
           refine RH.val 4 rfl krX krX krX krX (Wanted.free rfl) (V.move rfl rfl) rfl ?_
           refine RH.val 5 rfl krX krX krX krX (Wanted.free rfl) (V.indexS (j := j + p) rfl us9 rfl rfl (by first | rfl | omega) hc2) rfl ?_
           refine RH.val 6 rfl krX krX krX krX (Wanted.free rfl) (V.bin rfl rfl rfl (B.sub8 (y := 97))) rfl ?_
           have hsub : (c - 97 : UInt8).toNat = c.toNat - 97 := UInt8.toNat_sub_of_le _ _ (UInt8.le_iff_toNat_le.2 (by show 97 ≤ _; omega))
           refine RH.val 7 rfl krX krX krX krX (Wanted.free rfl) (V.toI rfl ⟨_, ui5⟩ ui3 rfl (by omega) (by omega)) rfl ?_
           refine RH.val 8 rfl krX krX krX krX (Wanted.free rfl) (V.bin rfl rfl rfl (B.addI (by omega) (by omega))) rfl ?_
           refine RH.val 9 rfl krX krX krX krX (Wanted.free rfl) (V.bin rfl rfl rfl (B.addI (by omega) (by omega))) rfl ?_
           rw [show (26 * ((lval ((s.drop j).take p) : Nat) : Int) + (((c - 97 : UInt8).toNat : Nat) : Int) + 1) = ((lval ((s.drop j).take (p + 1)) : Nat) : Int) from by rw [hsn, hsub]; omega]
           refine RH.val 10 rfl krX krX krX krX (Wanted.free rfl) (V.fieldAddr rfl rfl fo23_1) rfl ?_
           refine RH.one (i := 11) krX ?_
           refine RHone.eff rfl (Wanted.free rfl) (E.store1 rfl rfl rfl rfl rfl sz3 pickX rfl) rfl ?_
           rintro _ _ rfl
           refine ⟨.inl krX, ?_⟩
           refine RH.done krX ?_
           refine SG.inBlock ?_
           refine SG.region ?_
           refine RL.val (Wanted.free rfl) (V.move rfl rfl) rfl ?_
           refine RL.val (Wanted.free rfl) (V.bin rfl rfl rfl (B.addI (by omega) (by omega))) rfl ?_
           refine RL.val (Wanted.free rfl) (V.assign rfl rfl) rfl ?_
           refine RL.nil ?_
           refine SG.weaken (ih2 _ _ _ ?_ ⟨p + 1, by omega, hl2, rfl, rfl, rfl⟩) ?_ ?_
           ·
            omega
           ·
            repeat (first | exact EnvLe.nil _ | refine EnvLe.cons rfl ?_)
           ·
            exact entX
        ·
         refine RL.nil ?_
         refine SG.cond_false rfl ?_
         refine SG.exit rfl ?_
         refine SG.seq ?_
         refine SG.seq ?_
         have hpe : (s.drop j).take p = s.drop j := List.take_of_length_le (by rw [List.length_drop]; omega)
         rw [hpe] at hl ⊢
         have hgood := good_ref (eF := 7) (eR := 5) (by omega) hj hd hl (by omega) (by omega) hh
         have hnv := nval5 hd (by rw [List.length_take]; omega)
         have hlv := lval4 hl (by rw [List.length_drop]; omega)
         refine SG.region ?_
         refine RL.val (Wanted.free rfl) (V.loadAgg (us := [vI (nval (s.take j) : Nat), vI (lval (s.drop j) : Nat)]) rfl ag23 rfl pickX rfl rfl) rfl ?_
         refine RL.eff (Wanted.free rfl) (E.call rfl go15 rfl (rCheck_ok (l := ⟨nval (s.take j), lval (s.drop j)⟩))) rfl ?_
         rintro _ _ ⟨rfl, rfl⟩
         refine RL.cmp (Wanted.free rfl) (V.bin rfl rfl rfl B.neq) rfl (fun h212 => ?_) (fun h212 => ?_)
         ·
          have hno := check_bad_of h212
          refine RL.nil ?_
          refine SG.cond_true rfl ?_
          refine SG.seq ?_
          refine SG.region ?_
          refine RL.val (Wanted.free rfl) (V.buildS [] rfl bs23 (by exact trivial) rfl) rfl ?_
          refine RL.eff (Wanted.free rfl) (E.storeWhole rfl rfl rfl (by rfl) sz23 pickX (by first | (simp [Value.oneCell']; done) | (simp [setAt, Value.oneCell']; done)) (by rfl)) rfl ?_
          rintro _ _ rfl
          refine RL.val (Wanted.free rfl) (V.assign rfl rfl) rfl ?_
          refine RL.nil ?_
          refine SG.retE (Ret.r2 Tryd.func21 rfl (.agg rfl ag23 pickX rfl rfl) (.tmp rfl)) ?_ ⟨by first | (rw [parseV, if_pos hbad]; rfl) | (rw [hgood, if_neg hno]; rfl) | (rw [hgood, if_pos hyes]; rfl), rfl⟩
          exact entX
         ·
          have hyes := check_ok_of (Decidable.byContradiction fun e => h212 e)
          refine RL.nil ?_
          refine SG.cond_false rfl ?_
          refine SG.skip ?_
          refine SG.seq ?_
          refine SG.region ?_
          refine RL.val (Wanted.free rfl) (V.loadAgg (us := [vI (nval (s.take j) : Nat), vI (lval (s.drop j) : Nat)]) rfl ag23 rfl pickX rfl rfl) rfl ?_
          refine RL.eff (Wanted.free rfl) (E.storeWhole rfl rfl rfl (by rfl) sz23 pickX (by first | (simp [Value.oneCell']; done) | (simp [setAt, Value.oneCell']; done)) (by rfl)) rfl ?_
          rintro _ _ rfl
          refine RL.val (Wanted.free rfl) (V.assign rfl rfl) rfl ?_
          refine RL.nil ?_
          refine SG.retE (Ret.r2 Tryd.func21 rfl (.agg rfl ag23 pickX rfl rfl) (.tmp rfl)) ?_ ⟨by first | (rw [parseV, if_pos hbad]; rfl) | (rw [hgood, if_neg hno]; rfl) | (rw [hgood, if_pos hyes]; rfl), rfl⟩
          exact entX
 ·
  refine RL.val (Wanted.free rfl) (V.move rfl rfl) rfl ?_
  refine RL.skip (Wanted.no rfl rfl rfl rfl rfl) rfl ?_
  refine RL.skip (Wanted.no rfl rfl rfl rfl rfl) rfl ?_
  refine RL.skip (Wanted.no rfl rfl rfl rfl rfl) rfl ?_
  refine RL.skip (Wanted.no rfl rfl rfl rfl rfl) rfl ?_
  refine RL.val (Wanted.free rfl) (V.pick_false rfl rfl rfl) rfl ?_
  refine RL.val (Wanted.free rfl) (V.move rfl rfl) rfl ?_
  refine RL.skip (Wanted.no rfl rfl rfl rfl rfl) rfl ?_
  refine RL.skip (Wanted.no rfl rfl rfl rfl rfl) rfl ?_
  refine RL.skip (Wanted.no rfl rfl rfl rfl rfl) rfl ?_
  refine RL.skip (Wanted.no rfl rfl rfl rfl rfl) rfl ?_
  refine RL.val (Wanted.free rfl) (V.pick_false rfl rfl rfl) rfl ?_
  refine RL.nil ?_
  refine SG.cond_false rfl ?_
  refine SG.exit rfl ?_
  refine SG.seq ?_
  refine SG.seq ?_
  have htw : ∀ c, s[j]? = some c → Lb.dig c = false := fun c hc => by
   obtain ⟨hlt, he⟩ := List.getElem?_eq_some_iff.1 hc
   cases hx : Lb.dig c with
   | false => rfl
   | true =>
    have := dig_iff.1 hx
    subst he
    omega
  obtain ⟨e1, e2⟩ := tw_at hd htw
  refine SG.region ?_
  refine RL.val (Wanted.free rfl) (V.move rfl rfl) rfl ?_
  refine RL.cmp (Wanted.free rfl) (V.bin rfl rfl rfl B.lss) rfl (fun h222 => ?_) (fun h222 => ?_)
  ·
   refine RL.val (Wanted.free rfl) (V.move rfl rfl) rfl ?_
   refine RL.skip (Wanted.no rfl rfl rfl rfl rfl) rfl ?_
   refine RL.skip (Wanted.no rfl rfl rfl rfl rfl) rfl ?_
   refine RL.val (Wanted.free rfl) (V.pick_true rfl rfl rfl) rfl ?_
   refine RL.val (Wanted.free rfl) (V.move rfl rfl) rfl ?_
   refine RL.skip (Wanted.no rfl rfl rfl rfl rfl) rfl ?_
   refine RL.skip (Wanted.no rfl rfl rfl rfl rfl) rfl ?_
   refine RL.skip (Wanted.no rfl rfl rfl rfl rfl) rfl ?_
   refine RL.val (Wanted.free rfl) (V.pick_true rfl rfl rfl) rfl ?_
   refine RL.val (Wanted.free rfl) (V.move rfl rfl) rfl ?_
   refine RL.skip (Wanted.no rfl rfl rfl rfl rfl) rfl ?_
   refine RL.skip (Wanted.no rfl rfl rfl rfl rfl) rfl ?_
   refine RL.skip (Wanted.no rfl rfl rfl rfl rfl) rfl ?_
   refine RL.skip (Wanted.no rfl rfl rfl rfl rfl) rfl ?_
   refine RL.skip (Wanted.no rfl rfl rfl rfl rfl) rfl ?_
   refine RL.val (Wanted.free rfl) (V.pick_true rfl rfl rfl) rfl ?_
   refine RL.nil ?_
   refine SG.cond_true rfl ?_
   refine SG.seq ?_
   have hbad := bad_ref hj e1 e2 (by first | exact .inr (.inr (.inl hh)) | omega)
   refine SG.region ?_
   refine RL.val (Wanted.free rfl) (V.buildS [] rfl bs23 (by exact trivial) rfl) rfl ?_
   refine RL.eff (Wanted.free rfl) (E.storeWhole rfl rfl rfl (by rfl) sz23 pickX (by first | (simp [Value.oneCell']; done) | (simp [setAt, Value.oneCell']; done)) (by rfl)) rfl ?_
   rintro _ _ rfl
   refine RL.val (Wanted.free rfl) (V.assign rfl rfl) rfl ?_
   refine RL.nil ?_
   refine SG.retE (Ret.r2 Tryd.func21 rfl (.agg rfl ag23 pickX rfl rfl) (.tmp rfl)) ?_ ⟨by first | (rw [parseV, if_pos hbad]; rfl) | (rw [hgood, if_neg hno]; rfl) | (rw [hgood, if_pos hyes]; rfl), rfl⟩
   exact entX
  ·
   refine RL.val (Wanted.free rfl) (V.move rfl rfl) rfl ?_
   refine RL.val (Wanted.yes rfl rfl rfl rfl) (V.move rfl rfl) rfl ?_
   refine RL.cmp (Wanted.yes rfl rfl rfl rfl) (V.bin rfl rfl rfl B.gtr) rfl (fun h231 => ?_) (fun h231 => ?_)
   ·
    refine RL.val (Wanted.free rfl) (V.pick_false rfl rfl rfl) rfl ?_
    refine RL.val (Wanted.free rfl) (V.move rfl rfl) rfl ?_
    refine RL.skip (Wanted.no rfl rfl rfl rfl rfl) rfl ?_
    refine RL.skip (Wanted.no rfl rfl rfl rfl rfl) rfl ?_
    refine RL.skip (Wanted.no rfl rfl rfl rfl rfl) rfl ?_
    refine RL.val (Wanted.free rfl) (V.pick_true rfl rfl rfl) rfl ?_
    refine RL.val (Wanted.free rfl) (V.move rfl rfl) rfl ?_
    refine RL.skip (Wanted.no rfl rfl rfl rfl rfl) rfl ?_
    refine RL.skip (Wanted.no rfl rfl rfl rfl rfl) rfl ?_
    refine RL.skip (Wanted.no rfl rfl rfl rfl rfl) rfl ?_
    refine RL.skip (Wanted.no rfl rfl rfl rfl rfl) rfl ?_
    refine RL.skip (Wanted.no rfl rfl rfl rfl rfl) rfl ?_
    refine RL.val (Wanted.free rfl) (V.pick_true rfl rfl rfl) rfl ?_
    refine RL.nil ?_
    refine SG.cond_true rfl ?_
    refine SG.seq ?_
    have hbad := bad_ref hj e1 e2 (by first | exact .inr (.inr (.inl hh)) | omega)
    refine SG.region ?_
    refine RL.val (Wanted.free rfl) (V.buildS [] rfl bs23 (by exact trivial) rfl) rfl ?_
    refine RL.eff (Wanted.free rfl) (E.storeWhole rfl rfl rfl (by rfl) sz23 pickX (by first | (simp [Value.oneCell']; done) | (simp [setAt, Value.oneCell']; done)) (by rfl)) rfl ?_
    rintro _ _ rfl
    refine RL.val (Wanted.free rfl) (V.assign rfl rfl) rfl ?_
    refine RL.nil ?_
    refine SG.retE (Ret.r2 Tryd.func21 rfl (.agg rfl ag23 pickX rfl rfl) (.tmp rfl)) ?_ ⟨by first | (rw [parseV, if_pos hbad]; rfl) | (rw [hgood, if_neg hno]; rfl) | (rw [hgood, if_pos hyes]; rfl), rfl⟩
    exact entX
   ·
    refine RL.val (Wanted.free rfl) (V.pick_false rfl rfl rfl) rfl ?_
    refine RL.val (Wanted.free rfl) (V.move rfl rfl) rfl ?_
    refine RL.val (Wanted.yes rfl rfl rfl rfl) (V.move rfl rfl) rfl ?_
    refine RL.val (Wanted.yes rfl rfl rfl rfl) (V.indexS (j := 0) rfl us9 rfl rfl (by first | rfl | omega) (List.getElem?_eq_getElem (by omega))) rfl ?_
    refine RL.cmp (Wanted.yes rfl rfl rfl rfl) (V.bin rfl rfl rfl B.eql) rfl (fun h240 => ?_) (fun h240 => ?_)
    ·
     have hh : s.head? = some 48 := by
      obtain ⟨x, r, rfl⟩ := List.exists_cons_of_length_pos (show 0 < s.length by omega)
      simp only [List.head?_cons, Option.some.injEq]
      apply eq_of_toNat
      have := h240
      simp only [List.getElem_cons_zero] at this
      show x.toNat = 48
      omega
     refine RL.val (Wanted.free rfl) (V.pick_false rfl rfl rfl) rfl ?_
     refine RL.val (Wanted.free rfl) (V.move rfl rfl) rfl ?_
     refine RL.skip (Wanted.no rfl rfl rfl rfl rfl) rfl ?_
     refine RL.skip (Wanted.no rfl rfl rfl rfl rfl) rfl ?_
     refine RL.skip (Wanted.no rfl rfl rfl rfl rfl) rfl ?_
     refine RL.skip (Wanted.no rfl rfl rfl rfl rfl) rfl ?_
     refine RL.skip (Wanted.no rfl rfl rfl rfl rfl) rfl ?_
     refine RL.val (Wanted.free rfl) (V.pick_true rfl rfl rfl) rfl ?_
     refine RL.nil ?_
     refine SG.cond_true rfl ?_
     refine SG.seq ?_
     have hbad := bad_ref hj e1 e2 (by first | exact .inr (.inr (.inl hh)) | omega)
     refine SG.region ?_
     refine RL.val (Wanted.free rfl) (V.buildS [] rfl bs23 (by exact trivial) rfl) rfl ?_
     refine RL.eff (Wanted.free rfl) (E.storeWhole rfl rfl rfl (by rfl) sz23 pickX (by first | (simp [Value.oneCell']; done) | (simp [setAt, Value.oneCell']; done)) (by rfl)) rfl ?_
     rintro _ _ rfl
     refine RL.val (Wanted.free rfl) (V.assign rfl rfl) rfl ?_
     refine RL.nil ?_
     refine SG.retE (Ret.r2 Tryd.func21 rfl (.agg rfl ag23 pickX rfl rfl) (.tmp rfl)) ?_ ⟨by first | (rw [parseV, if_pos hbad]; rfl) | (rw [hgood, if_neg hno]; rfl) | (rw [hgood, if_pos hyes]; rfl), rfl⟩
     exact entX
    ·
     have hh : s.head? ≠ some 48 := by
      obtain ⟨x, r, rfl⟩ := List.exists_cons_of_length_pos (show 0 < s.length by omega)
      simp only [List.head?_cons, ne_eq, Option.some.injEq]
      intro e
      subst e
      exact h240 rfl
     refine RL.val (Wanted.free rfl) (V.pick_false rfl rfl rfl) rfl ?_
     refine RL.val (Wanted.free rfl) (V.move rfl rfl) rfl ?_
     refine RL.val (Wanted.yes rfl rfl rfl rfl) (V.move rfl rfl) rfl ?_
     refine RL.val (Wanted.yes rfl rfl rfl rfl) (V.lenS rfl rfl us9 rfl) rfl ?_
     refine RL.val (Wanted.yes rfl rfl rfl rfl) (V.move rfl rfl) rfl ?_
     refine RL.val (Wanted.yes rfl rfl rfl rfl) (V.bin rfl rfl rfl (B.subI (by omega) (by omega))) rfl ?_
     refine RL.cmp (Wanted.yes rfl rfl rfl rfl) (V.bin rfl rfl rfl B.gtr) rfl (fun h250 => ?_) (fun h250 => ?_)
     ·
      refine RL.val (Wanted.free rfl) (V.pick_false rfl rfl rfl) rfl ?_
      refine RL.nil ?_
      refine SG.cond_true rfl ?_
      refine SG.seq ?_
      have hbad := bad_ref hj e1 e2 (by first | exact .inr (.inr (.inl hh)) | omega)
      refine SG.region ?_
      refine RL.val (Wanted.free rfl) (V.buildS [] rfl bs23 (by exact trivial) rfl) rfl ?_
      refine RL.eff (Wanted.free rfl) (E.storeWhole rfl rfl rfl (by rfl) sz23 pickX (by first | (simp [Value.oneCell']; done) | (simp [setAt, Value.oneCell']; done)) (by rfl)) rfl ?_
      rintro _ _ rfl
      refine RL.val (Wanted.free rfl) (V.assign rfl rfl) rfl ?_
      refine RL.nil ?_
      refine SG.retE (Ret.r2 Tryd.func21 rfl (.agg rfl ag23 pickX rfl rfl) (.tmp rfl)) ?_ ⟨by first | (rw [parseV, if_pos hbad]; rfl) | (rw [hgood, if_neg hno]; rfl) | (rw [hgood, if_pos hyes]; rfl), rfl⟩
      exact entX
     ·
      refine RL.val (Wanted.free rfl) (V.pick_false rfl rfl rfl) rfl ?_
      refine RL.nil ?_
      refine SG.cond_false rfl ?_
      refine SG.skip ?_
      refine SG.seq ?_
      refine SG.seq ?_
      refine SG.region ?_
      refine RL.val (Wanted.free rfl) (V.assign rfl rfl) rfl ?_
      refine RL.nil ?_
      refine SG.block ?_
      refine SG.weaken (SG.loop2 (fun m0 al M => ∃ i : Nat, i ≤ j ∧ m0 = j + 1 - i ∧ al = [(0, vS s), (2, ptr b2 0), (4, ptr b4 0), (5, vI j), (6, vI i)] ∧ M = Blk b4 23 [vI (nval (s.take i) : Nat), vI (0 : Nat)] :: Blk b2 23 [vI 0, vI 0] :: L) (m0 := _) ⟨0, by omega, rfl, rfl, rfl⟩ ?_) ?_ ?_
      rotate_left
      ·
       repeat (first | exact EnvLe.nil _ | refine EnvLe.cons rfl ?_)
      ·
       exact entX
      rintro _ _ _ ⟨i, hi, rfl, rfl, rfl⟩ ih1
      refine SG.seq ?_
      refine SG.seq ?_
      refine SG.region ?_
      refine RL.val (Wanted.free rfl) (V.move rfl rfl) rfl ?_
      refine RL.val (Wanted.free rfl) (V.move rfl rfl) rfl ?_
      refine RL.cmp (Wanted.free rfl) (V.bin rfl rfl rfl B.lss) rfl (fun h257 => ?_) (fun h257 => ?_)
      ·
       refine RL.nil ?_
       refine SG.cond_true rfl ?_
       refine SG.skip ?_
       refine SG.seq ?_
       refine SG.block ?_
       have his : s[i]? = some (s[i]'(by omega)) := List.getElem?_eq_getElem (by omega)
       have hdi := dig_iff.1 (hd _ (List.mem_of_getElem? (show (s.take j)[i]? = some _ from by rw [List.getElem?_take, if_pos (by omega)]; exact his)))
       have hnv := nval5 (d := s.take i) (fun c hc => hd c (by rw [← Nat.min_eq_left (show i ≤ j by omega), ← List.take_take] at hc; exact List.mem_of_mem_take hc)) (by rw [List.length_take]; omega)
       have hsn : nval (s.take (i + 1)) = 10 * nval (s.take i) + ((s[i]'(by omega)).toNat - 48) := by rw [List.take_add_one, his]; exact nval_snoc _ _
       refine SG.drawL 11 10 wide rfl rfl ?_
       refine RH.val 0 rfl krX krX krX krX (Wanted.free rfl) (V.fieldAddr rfl rfl fo23_0) rfl ?_
       refine RH.val 1 rfl krX krX krX krX (Wanted.free rfl) (V.load rfl on3 rfl pickX rfl) rfl ?_
       refine RH.val 2 rfl krX krX krX krX (Wanted.free rfl) (V.bin rfl rfl rfl (B.mulI (by omega) (by omega))) rfl ?_
       refine RH.val 3 rfl krX krX krX krX (Wanted.free rfl) (V.move rfl rfl) rfl ?_
       refine RH.val 4 rfl krX krX krX krX (Wanted.free rfl) (V.move rfl rfl) rfl ?_
       refine RH.val 5 rfl krX krX krX krX (Wanted.free rfl) (V.indexS (j := i) rfl us9 rfl rfl (by first | rfl | omega) (List.getElem?_eq_getElem (by omega))) rfl ?_
       refine RH.val 6 rfl krX krX krX krX (Wanted.free rfl) (V.bin rfl rfl rfl (B.sub8 (y := 48))) rfl ?_
       have hsub : (s[i]'(by omega) - 48 : UInt8).toNat = (s[i]'(by omega)).toNat - 48 := UInt8.toNat_sub_of_le _ _ (UInt8.le_iff_toNat_le.2 (by show 48 ≤ _; omega))
       refine RH.val 7 rfl krX krX krX krX (Wanted.free rfl) (V.toI rfl ⟨_, ui5⟩ ui3 rfl (by omega) (by omega)) rfl ?_
       refine RH.val 8 rfl krX krX krX krX (Wanted.free rfl) (V.bin rfl rfl rfl (B.addI (by omega) (by omega))) rfl ?_
       rw [show (10 * ((nval (s.take i) : Nat) : Int) + (((s[i]'(by omega) - 48 : UInt8).toNat : Nat) : Int)) = ((nval (s.take (i + 1)) : Nat) : Int) from by rw [hsn, hsub]; omega]
       refine RH.val 9 rfl krX krX krX krX (Wanted.free rfl) (V.fieldAddr rfl rfl fo23_0) rfl ?_
       refine RH.one (i := 10) krX ?_
       refine RHone.eff rfl (Wanted.free rfl) (E.store1 rfl rfl rfl rfl rfl sz3 pickX rfl) rfl ?_
       rintro _ _ rfl
       refine ⟨.inl krX, ?_⟩
       refine RH.done krX ?_
       refine SG.inBlock ?_
       refine SG.region ?_
       refine RL.val (Wanted.free rfl) (V.move rfl rfl) rfl ?_
       refine RL.val (Wanted.free rfl) (V.bin rfl rfl rfl (B.addI (by omega) (by omega))) rfl ?_
       refine RL.val (Wanted.free rfl) (V.assign rfl rfl) rfl ?_
       refine RL.nil ?_
       refine SG.weaken (ih1 _ _ _ ?_ ⟨i + 1, by omega, rfl, rfl, rfl⟩) ?_ ?_
       ·
        omega
       ·
        repeat (first | exact EnvLe.nil _ | refine EnvLe.cons rfl ?_)
       ·
        exact entX
      ·
       refine RL.nil ?_
       refine SG.cond_false rfl ?_
       refine SG.exit rfl ?_
       refine SG.seq ?_
       refine SG.seq ?_
       obtain rfl : j = i := by omega
       refine SG.region ?_
       refine RL.val (Wanted.free rfl) (V.move rfl rfl) rfl ?_
       refine RL.val (Wanted.free rfl) (V.assign rfl rfl) rfl ?_
       refine RL.nil ?_
       refine SG.block ?_
       refine SG.weaken (SG.loop2 (fun m0 al M => ∃ p : Nat, p ≤ s.length - j ∧ (∀ c ∈ (s.drop j).take p, Lb.ltr c = true) ∧ m0 = s.length + 1 - p ∧ al = [(0, vS s), (2, ptr b2 0), (4, ptr b4 0), (7, vI ((j + p : Nat) : Int))] ∧ M = Blk b4 23 [vI (nval (s.take j) : Nat), vI (lval ((s.drop j).take p) : Nat)] :: Blk b2 23 [vI 0, vI 0] :: L) (m0 := _) ⟨0, by omega, by simp, rfl, rfl, rfl⟩ ?_) ?_ ?_
       rotate_left
       ·
        repeat (first | exact EnvLe.nil _ | refine EnvLe.cons rfl ?_)
       ·
        exact entX
       rintro _ _ _ ⟨p, hp, hl, rfl, rfl, rfl⟩ ih2
       refine SG.seq ?_
       refine SG.seq ?_
       refine SG.region ?_
       refine RL.val (Wanted.free rfl) (V.move rfl rfl) rfl ?_
       refine RL.val (Wanted.free rfl) (V.move rfl rfl) rfl ?_
       refine RL.val (Wanted.free rfl) (V.lenS rfl rfl us9 rfl) rfl ?_
       refine RL.cmp (Wanted.free rfl) (V.bin rfl rfl rfl B.lss) rfl (fun h277 => ?_) (fun h277 => ?_)
       ·
        refine RL.nil ?_
        refine SG.cond_true rfl ?_
        refine SG.skip ?_
        refine SG.seq ?_
        refine SG.block ?_
        refine SG.seq ?_
        refine SG.seq ?_
        obtain ⟨c, hc⟩ : ∃ c, (s.drop j)[p]? = some c := ⟨_, List.getElem?_eq_getElem (by rw [List.length_drop]; omega)⟩
        have hc2 : s[j + p]? = some c := by rw [List.getElem?_drop] at hc; exact hc
        refine SG.region ?_
        refine RL.val (Wanted.free rfl) (V.move rfl rfl) rfl ?_
        refine RL.val (Wanted.free rfl) (V.move rfl rfl) rfl ?_
        refine RL.val (Wanted.free rfl) (V.indexS (j := j + p) rfl us9 rfl rfl (by first | rfl | omega) hc2) rfl ?_
        refine RL.cmp (Wanted.free rfl) (V.bin rfl rfl rfl B.lss) rfl (fun h281 => ?_) (fun h281 => ?_)
        ·
         refine RL.val (Wanted.free rfl) (V.move rfl rfl) rfl ?_
         refine RL.skip (Wanted.no rfl rfl rfl rfl rfl) rfl ?_
         refine RL.skip (Wanted.no rfl rfl rfl rfl rfl) rfl ?_
         refine RL.skip (Wanted.no rfl rfl rfl rfl rfl) rfl ?_
         refine RL.skip (Wanted.no rfl rfl rfl rfl rfl) rfl ?_
         refine RL.val (Wanted.free rfl) (V.pick_true rfl rfl rfl) rfl ?_
         refine RL.nil ?_
         refine SG.cond_true rfl ?_
         refine SG.seq ?_
         have hbad := bad_ltr e2 hc (by cases hx : Lb.ltr c with | false => rfl | true => (have := ltr_iff.1 hx; omega))
         refine SG.region ?_
         refine RL.val (Wanted.free rfl) (V.buildS [] rfl bs23 (by exact trivial) rfl) rfl ?_
         refine RL.eff (Wanted.free rfl) (E.storeWhole rfl rfl rfl (by rfl) sz23 pickX (by first | (simp [Value.oneCell']; done) | (simp [setAt, Value.oneCell']; done)) (by rfl)) rfl ?_
         rintro _ _ rfl
         refine RL.val (Wanted.free rfl) (V.assign rfl rfl) rfl ?_
         refine RL.nil ?_
         refine SG.retE (Ret.r2 Tryd.func21 rfl (.agg rfl ag23 pickX rfl rfl) (.tmp rfl)) ?_ ⟨by first | (rw [parseV, if_pos hbad]; rfl) | (rw [hgood, if_neg hno]; rfl) | (rw [hgood, if_pos hyes]; rfl), rfl⟩
         exact entX
        ·
         refine RL.val (Wanted.free rfl) (V.move rfl rfl) rfl ?_
         refine RL.val (Wanted.yes rfl rfl rfl rfl) (V.move rfl rfl) rfl ?_
         refine RL.val (Wanted.yes rfl rfl rfl rfl) (V.move rfl rfl) rfl ?_
         refine RL.val (Wanted.yes rfl rfl rfl rfl) (V.indexS (j := j + p) rfl us9 rfl rfl (by first | rfl | omega) hc2) rfl ?_
         refine RL.cmp (Wanted.yes rfl rfl rfl rfl) (V.bin rfl rfl rfl B.gtr) rfl (fun h290 => ?_) (fun h290 => ?_)
         ·
          refine RL.val (Wanted.free rfl) (V.pick_false rfl rfl rfl) rfl ?_
          refine RL.nil ?_
          refine SG.cond_true rfl ?_
          refine SG.seq ?_
          have hbad := bad_ltr e2 hc (by cases hx : Lb.ltr c with | false => rfl | true => (have := ltr_iff.1 hx; omega))
          refine SG.region ?_
          refine RL.val (Wanted.free rfl) (V.buildS [] rfl bs23 (by exact trivial) rfl) rfl ?_
          refine RL.eff (Wanted.free rfl) (E.storeWhole rfl rfl rfl (by rfl) sz23 pickX (by first | (simp [Value.oneCell']; done) | (simp [setAt, Value.oneCell']; done)) (by rfl)) rfl ?_
          rintro _ _ rfl
          refine RL.val (Wanted.free rfl) (V.assign rfl rfl) rfl ?_
          refine RL.nil ?_
          refine SG.retE (Ret.r2 Tryd.func21 rfl (.agg rfl ag23 pickX rfl rfl) (.tmp rfl)) ?_ ⟨by first | (rw [parseV, if_pos hbad]; rfl) | (rw [hgood, if_neg hno]; rfl) | (rw [hgood, if_pos hyes]; rfl), rfl⟩
          exact entX
         ·
          refine RL.val (Wanted.free rfl) (V.pick_false rfl rfl rfl) rfl ?_
          refine RL.nil ?_
          refine SG.cond_false rfl ?_
          refine SG.skip ?_
          have hlc := ltr_iff.2 (show 97 ≤ c.toNat ∧ c.toNat ≤ 122 by omega)
          have hl2 := take_step hl hc hlc
          have hlv := lval4 hl (by rw [List.length_take]; omega)
          have hsn : lval ((s.drop j).take (p + 1)) = 26 * lval ((s.drop j).take p) + (c.toNat - 97) + 1 := by rw [List.take_add_one, hc]; exact lval_snoc _ _
          refine SG.drawL 12 11 wide rfl rfl ?_
          refine RH.val 0 rfl krX krX krX krX (Wanted.free rfl) (V.fieldAddr rfl rfl fo23_1) rfl ?_
          refine RH.val 1 rfl krX krX krX krX (Wanted.free rfl) (V.load rfl on3 rfl pickX rfl) rfl ?_
          refine RH.val 2 rfl krX krX krX krX (Wanted.free rfl) (V.bin rfl rfl rfl (B.mulI (by omega) (by omega))) rfl ?_
          refine RH.val 3 rfl krX krX krX krX (Wanted.free rfl) (V.move rfl rfl) rfl ?_
          refine RH.val 4 rfl krX krX krX krX (Wanted.free rfl) (V.move rfl rfl) rfl ?_
          refine RH.val 5 rfl krX krX krX krX (Wanted.free rfl) (V.indexS (j := j + p) rfl us9 rfl rfl (by first | rfl | omega) hc2) rfl ?_
          refine RH.val 6 rfl krX krX krX krX (Wanted.free rfl) (V.bin rfl rfl rfl (B.sub8 (y := 97))) rfl ?_
          have hsub : (c - 97 : UInt8).toNat = c.toNat - 97 := UInt8.toNat_sub_of_le _ _ (UInt8.le_iff_toNat_le.2 (by show 97 ≤ _; omega))
          refine RH.val 7 rfl krX krX krX krX (Wanted.free rfl) (V.toI rfl ⟨_, ui5⟩ ui3 rfl (by omega) (by omega)) rfl ?_
          refine RH.val 8 rfl krX krX krX krX (Wanted.free rfl) (V.bin rfl rfl rfl (B.addI (by omega) (by omega))) rfl ?_
          refine RH.val 9 rfl krX krX krX krX (Wanted.free rfl) (V.bin rfl rfl rfl (B.addI (by omega) (by omega))) rfl ?_
          rw [show (26 * ((lval ((s.drop j).take p) : Nat) : Int) + (((c - 97 : UInt8).toNat : Nat) : Int) + 1) = ((lval ((s.drop j).take (p + 1)) : Nat) : Int) from by rw [hsn, hsub]; omega]
          refine RH.val 10 rfl krX krX krX krX (Wanted.free rfl) (V.fieldAddr rfl rfl fo23_1) rfl ?_
          refine RH.one (i := 11) krX ?_
          refine RHone.eff rfl (Wanted.free rfl) (E.store1 rfl rfl rfl rfl rfl sz3 pickX rfl) rfl ?_
          rintro _ _ rfl
          refine ⟨.inl krX, ?_⟩
          refine RH.done krX ?_
          refine SG.inBlock ?_
          refine SG.region ?_
          refine RL.val (Wanted.free rfl) (V.move rfl rfl) rfl ?_
          refine RL.val (Wanted.free rfl) (V.bin rfl rfl rfl (B.addI (by omega) (by omega))) rfl ?_
          refine RL.val (Wanted.free rfl) (V.assign rfl rfl) rfl ?_
          refine RL.nil ?_
          refine SG.weaken (ih2 _ _ _ ?_ ⟨p + 1, by omega, hl2, rfl, rfl, rfl⟩) ?_ ?_
          ·
           omega
          ·
           repeat (first | exact EnvLe.nil _ | refine EnvLe.cons rfl ?_)
          ·
           exact entX
       ·
        refine RL.nil ?_
        refine SG.cond_false rfl ?_
        refine SG.exit rfl ?_
        refine SG.seq ?_
        refine SG.seq ?_
        have hpe : (s.drop j).take p = s.drop j := List.take_of_length_le (by rw [List.length_drop]; omega)
        rw [hpe] at hl ⊢
        have hgood := good_ref (eF := 7) (eR := 5) (by omega) hj hd hl (by omega) (by omega) hh
        have hnv := nval5 hd (by rw [List.length_take]; omega)
        have hlv := lval4 hl (by rw [List.length_drop]; omega)
        refine SG.region ?_
        refine RL.val (Wanted.free rfl) (V.loadAgg (us := [vI (nval (s.take j) : Nat), vI (lval (s.drop j) : Nat)]) rfl ag23 rfl pickX rfl rfl) rfl ?_
        refine RL.eff (Wanted.free rfl) (E.call rfl go15 rfl (rCheck_ok (l := ⟨nval (s.take j), lval (s.drop j)⟩))) rfl ?_
        rintro _ _ ⟨rfl, rfl⟩
        refine RL.cmp (Wanted.free rfl) (V.bin rfl rfl rfl B.neq) rfl (fun h311 => ?_) (fun h311 => ?_)
        ·
         have hno := check_bad_of h311
         refine RL.nil ?_
         refine SG.cond_true rfl ?_
         refine SG.seq ?_
         refine SG.region ?_
         refine RL.val (Wanted.free rfl) (V.buildS [] rfl bs23 (by exact trivial) rfl) rfl ?_
         refine RL.eff (Wanted.free rfl) (E.storeWhole rfl rfl rfl (by rfl) sz23 pickX (by first | (simp [Value.oneCell']; done) | (simp [setAt, Value.oneCell']; done)) (by rfl)) rfl ?_
         rintro _ _ rfl
         refine RL.val (Wanted.free rfl) (V.assign rfl rfl) rfl ?_
         refine RL.nil ?_
         refine SG.retE (Ret.r2 Tryd.func21 rfl (.agg rfl ag23 pickX rfl rfl) (.tmp rfl)) ?_ ⟨by first | (rw [parseV, if_pos hbad]; rfl) | (rw [hgood, if_neg hno]; rfl) | (rw [hgood, if_pos hyes]; rfl), rfl⟩
         exact entX
        ·
         have hyes := check_ok_of (Decidable.byContradiction fun e => h311 e)
         refine RL.nil ?_
         refine SG.cond_false rfl ?_
         refine SG.skip ?_
         refine SG.seq ?_
         refine SG.region ?_
         refine RL.val (Wanted.free rfl) (V.loadAgg (us := [vI (nval (s.take j) : Nat), vI (lval (s.drop j) : Nat)]) rfl ag23 rfl pickX rfl rfl) rfl ?_
         refine RL.eff (Wanted.free rfl) (E.storeWhole rfl rfl rfl (by rfl) sz23 pickX (by first | (simp [Value.oneCell']; done) | (simp [setAt, Value.oneCell']; done)) (by rfl)) rfl ?_
         rintro _ _ rfl
         refine RL.val (Wanted.free rfl) (V.assign rfl rfl) rfl ?_
         refine RL.nil ?_
         refine SG.retE (Ret.r2 Tryd.func21 rfl (.agg rfl ag23 pickX rfl rfl) (.tmp rfl)) ?_ ⟨by first | (rw [parseV, if_pos hbad]; rfl) | (rw [hgood, if_neg hno]; rfl) | (rw [hgood, if_pos hyes]; rfl), rfl⟩
         exact entX

end Go.Proofs.YteopejoppdgncaaDoor
