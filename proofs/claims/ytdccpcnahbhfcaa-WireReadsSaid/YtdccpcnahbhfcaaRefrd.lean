/- The readers of the reference. -/
import Derived.Test.YtdccpcnahbhfcaaReaderb
namespace Go.Proofs.Ytdccpcnahbhfcaa
open Go.Wk Go.Wire

set_option maxRecDepth 100000 in
theorem xFail_ok {κ : World} {L : List Assn} {a : Option Addr} {m c : Nat} {e f : Int} :
    Ctr Try.prog 54 #[.agg #[.slice a m c, vI e], vI f] κ L (fun v M => v = .agg #[.slice a m c, vI (if e = 0 then f else e)] ∧ M = L) := by
  refine Ctr.enter (vs := [.agg #[.slice a m c, vI e], vI f]) (m := 11) Try.func54 rfl rfl rfl ?_
  refine SG.seq ?_
  refine SG.region ?_
  refine RL.eff (Wanted.free rfl) (E.box [.slice a m c, vI e] rfl rfl rfl) rfl ?_
  rintro _ _ ⟨b2, rfl, rfl⟩
  refine RL.eff (Wanted.free rfl) (E.alloc rfl ze57) rfl ?_
  rintro _ _ ⟨b2, rfl, rfl⟩
  refine RL.nil ?_
  refine SG.seq ?_
  refine SG.seq ?_
  refine SG.region ?_
  refine RL.val (Wanted.free rfl) (V.fieldAddr rfl rfl fo57_1) rfl ?_
  refine RL.val (Wanted.free rfl) (V.load rfl on46 rfl (by repeat (first | exact Pick.here | apply Pick.there)) rfl) rfl ?_
  refine RL.cmp (Wanted.free rfl) (V.bin rfl rfl rfl B.eql) rfl (fun h5 => ?_) (fun h5 => ?_)
  · skip
    refine RL.nil ?_
    refine SG.cond_true rfl ?_
    refine SG.region ?_
    refine RL.val (Wanted.free rfl) (V.move rfl rfl) rfl ?_
    refine RL.val (Wanted.free rfl) (V.fieldAddr rfl rfl fo57_1) rfl ?_
    refine RL.eff (Wanted.free rfl) (E.store1 rfl rfl rfl rfl rfl sz46 (by repeat (first | exact Pick.here | apply Pick.there)) rfl) rfl ?_
    rintro _ _ rfl
    refine RL.nil ?_
    refine SG.seq ?_
    refine SG.region ?_
    refine RL.val (Wanted.free rfl) (V.loadAgg (us := _) rfl ag57 rfl (by repeat (first | exact Pick.here | apply Pick.there)) rfl rfl) rfl ?_
    refine RL.eff (Wanted.free rfl) (E.storeAgg rfl rfl rfl rfl sz57 (by repeat (first | exact Pick.here | apply Pick.there)) (by first | (simp [Value.oneCell']; done) | (simp [setAt, Value.oneCell']; done)) (by first | (simp; done) | (simp [setAt]; done))) rfl ?_
    rintro _ _ rfl
    refine RL.nil ?_
    refine SG.retE (Ret.r1 Try.func54 rfl (.agg rfl ag57 (by repeat (first | exact Pick.here | apply Pick.there)) rfl rfl)) ?_ ⟨by rw [if_pos (by assumption)]; rfl, rfl⟩
    repeat (first | exact Ent.refl _ | (apply Ent.cons; (· repeat (first | exact Pick.here | (refine Pick.sl ?_; (· repeat (first | exact List.Mem.head _ | assumption | apply List.Mem.tail))) | apply Pick.there))) | (refine Ent.trans (Ent.drop _ _) ?_))
  · skip
    refine RL.nil ?_
    refine SG.cond_false rfl ?_
    refine SG.skip ?_
    refine SG.seq ?_
    refine SG.region ?_
    refine RL.val (Wanted.free rfl) (V.loadAgg (us := _) rfl ag57 rfl (by repeat (first | exact Pick.here | apply Pick.there)) rfl rfl) rfl ?_
    refine RL.eff (Wanted.free rfl) (E.storeAgg rfl rfl rfl rfl sz57 (by repeat (first | exact Pick.here | apply Pick.there)) (by first | (simp [Value.oneCell']; done) | (simp [setAt, Value.oneCell']; done)) (by first | (simp; done) | (simp [setAt]; done))) rfl ?_
    rintro _ _ rfl
    refine RL.nil ?_
    refine SG.retE (Ret.r1 Try.func54 rfl (.agg rfl ag57 (by repeat (first | exact Pick.here | apply Pick.there)) rfl rfl)) ?_ ⟨by rw [if_neg (by assumption)]; rfl, rfl⟩
    repeat (first | exact Ent.refl _ | (apply Ent.cons; (· repeat (first | exact Pick.here | (refine Pick.sl ?_; (· repeat (first | exact List.Mem.head _ | assumption | apply List.Mem.tail))) | apply Pick.there))) | (refine Ent.trans (Ent.drop _ _) ?_))

set_option maxRecDepth 100000 in
theorem xZag_ok {κ : World} {L : List Assn} (u : UInt64) :
    Ctr Try.prog 55 #[v64 u] κ L (fun v M => v = vI (zag u) ∧ M = L) := by
  refine Ctr.enter (vs := [v64 u]) (m := 14) Try.func55 rfl rfl rfl ?_
  have hu := u.toNat_lt
  have h2 : (u % 2).toNat = u.toNat % 2 := by rw [UInt64.toNat_mod]; rfl
  have h3 : (u / 2).toNat = u.toNat / 2 := by rw [UInt64.toNat_div]; rfl
  refine SG.seq ?_
  refine SG.region ?_
  refine RL.val (Wanted.free rfl) (V.assign rfl rfl) rfl ?_
  refine RL.nil ?_
  refine SG.seq ?_
  refine SG.seq ?_
  refine SG.region ?_
  refine RL.val (Wanted.free rfl) (V.move rfl rfl) rfl ?_
  refine RL.val (Wanted.free rfl) (V.bin rfl rfl rfl (B.rem64 (y := 2) (by decide))) rfl ?_
  refine RL.cmp (Wanted.free rfl) (V.bin rfl rfl rfl B.eql) rfl (fun h4 => ?_) (fun h4 => ?_)
  · skip
    refine RL.nil ?_
    refine SG.cond_true rfl ?_
    refine SG.seq ?_
    refine SG.region ?_
    refine RL.val (Wanted.free rfl) (V.move rfl rfl) rfl ?_
    refine RL.val (Wanted.free rfl) (V.bin rfl rfl rfl (B.quo64 (y := 2) (by decide))) rfl ?_
    refine RL.val (Wanted.free rfl) (V.toI rfl ⟨_, ui31⟩ ui3 rfl (by omega) (by omega)) rfl ?_
    refine RL.val (Wanted.free rfl) (V.negI rfl rfl (by omega) (by omega)) rfl ?_
    refine RL.val (Wanted.free rfl) (V.bin rfl rfl rfl (B.subI (by omega) (by omega))) rfl ?_
    refine RL.val (Wanted.free rfl) (V.assign rfl rfl) rfl ?_
    refine RL.nil ?_
    first
    | (exfalso; omega)
    | (refine SG.retE (Ret.r1 Try.func55 rfl (.tmp rfl)) ?_ ⟨by congr 1; unfold zag; rw [if_pos (by omega)]; omega, rfl⟩; (repeat (first | exact Ent.refl _ | (apply Ent.cons; (· repeat (first | exact Pick.here | (refine Pick.sl ?_; (· repeat (first | exact List.Mem.head _ | assumption | apply List.Mem.tail))) | apply Pick.there))) | (refine Ent.trans (Ent.drop _ _) ?_))))
    | (refine SG.retE (Ret.r1 Try.func55 rfl (.tmp rfl)) ?_ ⟨by congr 1; unfold zag; rw [if_neg (by omega)]; omega, rfl⟩; (repeat (first | exact Ent.refl _ | (apply Ent.cons; (· repeat (first | exact Pick.here | (refine Pick.sl ?_; (· repeat (first | exact List.Mem.head _ | assumption | apply List.Mem.tail))) | apply Pick.there))) | (refine Ent.trans (Ent.drop _ _) ?_))))
  · skip
    refine RL.nil ?_
    refine SG.cond_false rfl ?_
    refine SG.skip ?_
    refine SG.seq ?_
    refine SG.region ?_
    refine RL.val (Wanted.free rfl) (V.move rfl rfl) rfl ?_
    refine RL.val (Wanted.free rfl) (V.bin rfl rfl rfl (B.quo64 (y := 2) (by decide))) rfl ?_
    refine RL.val (Wanted.free rfl) (V.toI rfl ⟨_, ui31⟩ ui3 rfl (by omega) (by omega)) rfl ?_
    refine RL.val (Wanted.free rfl) (V.assign rfl rfl) rfl ?_
    refine RL.nil ?_
    first
    | (exfalso; omega)
    | (refine SG.retE (Ret.r1 Try.func55 rfl (.tmp rfl)) ?_ ⟨by congr 1; unfold zag; rw [if_pos (by omega)]; omega, rfl⟩; (repeat (first | exact Ent.refl _ | (apply Ent.cons; (· repeat (first | exact Pick.here | (refine Pick.sl ?_; (· repeat (first | exact List.Mem.head _ | assumption | apply List.Mem.tail))) | apply Pick.there))) | (refine Ent.trans (Ent.drop _ _) ?_))))
    | (refine SG.retE (Ret.r1 Try.func55 rfl (.tmp rfl)) ?_ ⟨by congr 1; unfold zag; rw [if_neg (by omega)]; omega, rfl⟩; (repeat (first | exact Ent.refl _ | (apply Ent.cons; (· repeat (first | exact Pick.here | (refine Pick.sl ?_; (· repeat (first | exact List.Mem.head _ | assumption | apply List.Mem.tail))) | apply Pick.there))) | (refine Ent.trans (Ent.drop _ _) ?_))))

theorem dot_step {w : List UInt8} {j : Nat} (h : j < w.length) : 128 * UInt64.ofNat (val (w.drop (j + 1))) + UInt64.ofNat (((w[j] % 128).toNat : Int) % 18446744073709551616).toNat = UInt64.ofNat (val (w.drop j)) := by
  have e : (w[j] % 128).toNat = w[j].toNat % 128 := by rw [UInt8.toNat_mod]; rfl
  have e2 : ((w[j].toNat % 128 : Nat) : Int) % 18446744073709551616 = ((w[j].toNat % 128 : Nat) : Int) := by omega
  rw [val_drop w j h, e, e2]
  apply UInt64.toNat_inj.1
  rw [UInt64.toNat_add, UInt64.toNat_mul]
  simp only [UInt64.toNat_ofNat', Int.toNat_natCast]
  have : (128 : UInt64).toNat = 128 := rfl
  rw [this]; omega
set_option maxRecDepth 100000 in
theorem xUint_ok {κ : World} {L : List Assn} {a : Option Addr} {m c : Nat} {l : List UInt8} {e : Int} (hm : Sl R8 a m c l ∈ L) :
    Ctr Try.prog 47 #[.agg #[.slice a m c, vI e]] κ L (fun v M => ∃ l' e' x a' m' c', rdU l e = (l', e', x) ∧ v = .tuple #[.agg #[.slice a' m' c', vI e'], v64 x] ∧ M = Sl R8 a' m' c' l' :: L) := by
  refine Ctr.enter (vs := [.agg #[.slice a m c, vI e]]) (m := 87) Try.func47 rfl rfl rfl ?_
  refine SG.sl hm fun hl _ _ => ?_
  subst hl
  refine SG.seq ?_
  refine SG.region ?_
  refine RL.eff (Wanted.free rfl) (E.box [.slice a l.length c, vI e] rfl rfl rfl) rfl ?_
  rintro _ _ ⟨b1, rfl, rfl⟩
  refine RL.eff (Wanted.free rfl) (E.alloc rfl ze57) rfl ?_
  rintro _ _ ⟨b2, rfl, rfl⟩
  refine RL.val (Wanted.free rfl) (V.assign rfl rfl) rfl ?_
  refine RL.nil ?_
  refine SG.seq ?_
  refine SG.seq ?_
  refine SG.region ?_
  refine RL.val (Wanted.free rfl) (V.fieldAddr rfl rfl fo57_1) rfl ?_
  refine RL.val (Wanted.free rfl) (V.load rfl on46 rfl (by repeat (first | exact Pick.here | apply Pick.there)) rfl) rfl ?_
  refine RL.cmp (Wanted.free rfl) (V.bin rfl rfl rfl B.neq) rfl (fun h6 => ?_) (fun h6 => ?_)
  · skip
    refine RL.nil ?_
    refine SG.cond_true rfl ?_
    refine SG.seq ?_
    refine SG.region ?_
    refine RL.val (Wanted.free rfl) (V.loadAgg (us := _) rfl ag57 rfl (by repeat (first | exact Pick.here | apply Pick.there)) rfl rfl) rfl ?_
    refine RL.eff (Wanted.free rfl) (E.storeAgg rfl rfl rfl rfl sz57 (by repeat (first | exact Pick.here | apply Pick.there)) (by first | (simp [Value.oneCell']; done) | (simp [setAt, Value.oneCell']; done)) (by first | (simp; done) | (simp [setAt]; done))) rfl ?_
    rintro _ _ rfl
    refine RL.val (Wanted.free rfl) (V.assign rfl rfl) rfl ?_
    refine RL.nil ?_
    first
    | (exfalso; omega)
    | (refine SG.retE (Ret.r2 Try.func47 rfl (.agg rfl ag57 (by repeat (first | exact Pick.here | apply Pick.there)) rfl rfl) (.tmp rfl)) ?_ ⟨_, _, _, _, _, _, rdU_err (by omega), rfl, rfl⟩; (repeat (first | exact Ent.refl _ | (apply Ent.cons; (· repeat (first | exact Pick.here | (refine Pick.sl ?_; (· repeat (first | exact List.Mem.head _ | assumption | apply List.Mem.tail))) | apply Pick.there))) | (refine Ent.trans (Ent.drop _ _) ?_))))
    | (refine SG.retE (Ret.r2 Try.func47 rfl (.agg rfl ag57 (by repeat (first | exact Pick.here | apply Pick.there)) rfl rfl) (.tmp rfl)) ?_ ⟨_, _, _, _, _, _, rdU_ten (lead_eq (by omega) (by omega) (fun j h hj => hall j h (by omega)) (.inl rfl)), rfl, rfl⟩; (repeat (first | exact Ent.refl _ | (apply Ent.cons; (· repeat (first | exact Pick.here | (refine Pick.sl ?_; (· repeat (first | exact List.Mem.head _ | assumption | apply List.Mem.tail))) | apply Pick.there))) | (refine Ent.trans (Ent.drop _ _) ?_))))
    | (refine SG.retE (Ret.r2 Try.func47 rfl (.agg rfl ag57 (by repeat (first | exact Pick.here | apply Pick.there)) rfl rfl) (.tmp rfl)) ?_ ⟨_, _, _, _, _, _, rdU_short (lead_eq (by omega) hil hall (.inr (.inl (by omega)))) (by omega) (by omega), rfl, rfl⟩; (repeat (first | exact Ent.refl _ | (apply Ent.cons; (· repeat (first | exact Pick.here | (refine Pick.sl ?_; (· repeat (first | exact List.Mem.head _ | assumption | apply List.Mem.tail))) | apply Pick.there))) | (refine Ent.trans (Ent.drop _ _) ?_))))
    | (refine SG.retE (Ret.r2 Try.func47 rfl (.agg rfl ag57 (by repeat (first | exact Pick.here | apply Pick.there)) rfl rfl) (.tmp rfl)) ?_ ⟨_, _, _, _, _, _, rdU_form (lead_eq (by omega) hil hall (.inr (.inr ⟨by omega, by omega⟩))) (by omega) (by omega) (by omega), rfl, rfl⟩; (repeat (first | exact Ent.refl _ | (apply Ent.cons; (· repeat (first | exact Pick.here | (refine Pick.sl ?_; (· repeat (first | exact List.Mem.head _ | assumption | apply List.Mem.tail))) | apply Pick.there))) | (refine Ent.trans (Ent.drop _ _) ?_))))
    | (refine SG.retE (Ret.r2 Try.func47 rfl (.agg rfl ag57 (by repeat (first | exact Pick.here | apply Pick.there)) rfl rfl) (.tmp rfl)) ?_ ⟨_, _, _, _, _, _, rdU_ok (lead_eq (by omega) hil hall (.inr (.inr ⟨by omega, by omega⟩))) (by omega) (by omega) (by omega), rfl, rfl⟩; (repeat (first | exact Ent.refl _ | (apply Ent.cons; (· repeat (first | exact Pick.here | (refine Pick.sl ?_; (· repeat (first | exact List.Mem.head _ | assumption | apply List.Mem.tail))) | apply Pick.there))) | (refine Ent.trans (Ent.drop _ _) ?_))))
  · skip
    refine RL.nil ?_
    refine SG.cond_false rfl ?_
    refine SG.skip ?_
    refine SG.seq ?_
    refine SG.region ?_
    refine RL.val (Wanted.free rfl) (V.assign rfl rfl) rfl ?_
    refine RL.nil ?_
    refine SG.seq ?_
    refine SG.block ?_
    try (have he0 : e = 0 := (by omega); subst he0)
    refine SG.weaken (SG.loop2 (fun m al M => ∃ i : Nat, i ≤ 10 ∧ i ≤ l.length ∧ (∀ j (h : j < l.length), j < i → 128 ≤ l[j].toNat) ∧ m = 10 - i ∧ al = [(1, ptr b1 0), (2, ptr b2 0), (4, vI i)] ∧ M = Blk b1 57 [.slice a l.length c, vI 0] :: Blk b2 57 [.slice none 0 0, vI 0] :: L) (m0 := _) ⟨0, by omega, by omega, fun j _ h => by omega, rfl, rfl, rfl⟩ ?_) ?_ ?_
    rotate_left
    · repeat (first | exact EnvLe.nil _ | refine EnvLe.cons rfl ?_)
    · repeat (first | exact Ent.refl _ | (apply Ent.cons; (· repeat (first | exact Pick.here | (refine Pick.sl ?_; (· repeat (first | exact List.Mem.head _ | assumption | apply List.Mem.tail))) | apply Pick.there))) | (refine Ent.trans (Ent.drop _ _) ?_))
    rintro _ _ _ ⟨i, hi10, hil, hall, rfl, rfl, rfl⟩ ih0
    refine SG.seq ?_
    refine SG.seq ?_
    refine SG.region ?_
    refine RL.val (Wanted.free rfl) (V.move rfl rfl) rfl ?_
    refine RL.val (Wanted.free rfl) (V.fieldAddr rfl rfl fo57_0) rfl ?_
    refine RL.val (Wanted.free rfl) (V.load rfl on23 rfl (by repeat (first | exact Pick.here | apply Pick.there)) rfl) rfl ?_
    refine RL.val (Wanted.free rfl) (V.len rfl rfl el23.under rfl) rfl ?_
    refine RL.cmp (Wanted.free rfl) (V.bin rfl rfl rfl B.lss) rfl (fun h15 => ?_) (fun h15 => ?_)
    · skip
      refine RL.val (Wanted.free rfl) (V.move rfl rfl) rfl ?_
      refine RL.val (Wanted.yes rfl rfl rfl rfl) (V.move rfl rfl) rfl ?_
      refine RL.cmp (Wanted.yes rfl rfl rfl rfl) (V.bin rfl rfl rfl B.lss) rfl (fun h18 => ?_) (fun h18 => ?_)
      · skip
        refine RL.val (Wanted.free rfl) (V.pick_true rfl rfl rfl) rfl ?_
        refine RL.val (Wanted.free rfl) (V.move rfl rfl) rfl ?_
        refine RL.val (Wanted.yes rfl rfl rfl rfl) (V.fieldAddr rfl rfl fo57_0) rfl ?_
        refine RL.val (Wanted.yes rfl rfl rfl rfl) (V.load rfl on23 rfl (by repeat (first | exact Pick.here | apply Pick.there)) rfl) rfl ?_
        refine RL.val (Wanted.yes rfl rfl rfl rfl) (V.move rfl rfl) rfl ?_
        refine RL.val (Wanted.yes rfl rfl rfl rfl) (V.indexSl rfl el23.slice rfl rfl (by repeat (first | exact List.Mem.head _ | assumption | apply List.Mem.tail)) (by first | rfl | omega) (by omega)) rfl ?_
        refine RL.val (Wanted.yes rfl rfl rfl rfl) (V.loadSc rfl on5 rfl (by repeat (first | exact List.Mem.head _ | assumption | apply List.Mem.tail)) (List.getElem?_eq_getElem (by omega))) rfl ?_
        refine RL.cmp (Wanted.yes rfl rfl rfl rfl) (V.bin rfl rfl rfl B.geq) rfl (fun h25 => ?_) (fun h25 => ?_)
        · skip
          refine RL.val (Wanted.free rfl) (V.pick_true rfl rfl rfl) rfl ?_
          refine RL.nil ?_
          refine SG.cond_true rfl ?_
          refine SG.skip ?_
          refine SG.block ?_
          refine SG.region ?_
          refine RL.val (Wanted.free rfl) (V.move rfl rfl) rfl ?_
          refine RL.val (Wanted.free rfl) (V.bin rfl rfl rfl (B.addI (by omega) (by omega))) rfl ?_
          refine RL.val (Wanted.free rfl) (V.assign rfl rfl) rfl ?_
          refine RL.nil ?_
          refine SG.inBlock ?_
          refine SG.weaken (ih0 _ _ _ ?_ ⟨i + 1, by omega, by omega, ?_, rfl, rfl, rfl⟩) ?_ ?_
          · omega
          · intro j h1 h2
            by_cases hj : j < i
            · exact hall j h1 hj
            · have : j = i := by omega
              subst this; omega
          · repeat (first | exact EnvLe.nil _ | refine EnvLe.cons rfl ?_)
          · repeat (first | exact Ent.refl _ | (apply Ent.cons; (· repeat (first | exact Pick.here | (refine Pick.sl ?_; (· repeat (first | exact List.Mem.head _ | assumption | apply List.Mem.tail))) | apply Pick.there))) | (refine Ent.trans (Ent.drop _ _) ?_))
        · skip
          refine RL.val (Wanted.free rfl) (V.pick_true rfl rfl rfl) rfl ?_
          refine RL.nil ?_
          refine SG.cond_false rfl ?_
          refine SG.exit rfl ?_
          refine SG.seq ?_
          refine SG.seq ?_
          refine SG.region ?_
          refine RL.val (Wanted.free rfl) (V.move rfl rfl) rfl ?_
          refine RL.cmp (Wanted.free rfl) (V.bin rfl rfl rfl B.eql) rfl (fun h30 => ?_) (fun h30 => ?_)
          · skip
            refine RL.nil ?_
            refine SG.cond_true rfl ?_
            refine SG.seq ?_
            refine SG.region ?_
            refine RL.val (Wanted.free rfl) (V.loadAgg (us := _) rfl ag57 rfl (by repeat (first | exact Pick.here | apply Pick.there)) rfl rfl) rfl ?_
            refine RL.eff (Wanted.free rfl) (E.call rfl go54 rfl (xFail_ok)) rfl ?_
            rintro _ _ ⟨rfl, rfl⟩
            rw [if_pos rfl]
            refine RL.eff (Wanted.free rfl) (E.storeAgg rfl rfl rfl rfl sz57 (by repeat (first | exact Pick.here | apply Pick.there)) (by first | (simp [Value.oneCell']; done) | (simp [setAt, Value.oneCell']; done)) (by first | (simp; done) | (simp [setAt]; done))) rfl ?_
            rintro _ _ rfl
            refine RL.val (Wanted.free rfl) (V.assign rfl rfl) rfl ?_
            refine RL.nil ?_
            first
            | (exfalso; omega)
            | (refine SG.retE (Ret.r2 Try.func47 rfl (.agg rfl ag57 (by repeat (first | exact Pick.here | apply Pick.there)) rfl rfl) (.tmp rfl)) ?_ ⟨_, _, _, _, _, _, rdU_err (by omega), rfl, rfl⟩; (repeat (first | exact Ent.refl _ | (apply Ent.cons; (· repeat (first | exact Pick.here | (refine Pick.sl ?_; (· repeat (first | exact List.Mem.head _ | assumption | apply List.Mem.tail))) | apply Pick.there))) | (refine Ent.trans (Ent.drop _ _) ?_))))
            | (refine SG.retE (Ret.r2 Try.func47 rfl (.agg rfl ag57 (by repeat (first | exact Pick.here | apply Pick.there)) rfl rfl) (.tmp rfl)) ?_ ⟨_, _, _, _, _, _, rdU_ten (lead_eq (by omega) (by omega) (fun j h hj => hall j h (by omega)) (.inl rfl)), rfl, rfl⟩; (repeat (first | exact Ent.refl _ | (apply Ent.cons; (· repeat (first | exact Pick.here | (refine Pick.sl ?_; (· repeat (first | exact List.Mem.head _ | assumption | apply List.Mem.tail))) | apply Pick.there))) | (refine Ent.trans (Ent.drop _ _) ?_))))
            | (refine SG.retE (Ret.r2 Try.func47 rfl (.agg rfl ag57 (by repeat (first | exact Pick.here | apply Pick.there)) rfl rfl) (.tmp rfl)) ?_ ⟨_, _, _, _, _, _, rdU_short (lead_eq (by omega) hil hall (.inr (.inl (by omega)))) (by omega) (by omega), rfl, rfl⟩; (repeat (first | exact Ent.refl _ | (apply Ent.cons; (· repeat (first | exact Pick.here | (refine Pick.sl ?_; (· repeat (first | exact List.Mem.head _ | assumption | apply List.Mem.tail))) | apply Pick.there))) | (refine Ent.trans (Ent.drop _ _) ?_))))
            | (refine SG.retE (Ret.r2 Try.func47 rfl (.agg rfl ag57 (by repeat (first | exact Pick.here | apply Pick.there)) rfl rfl) (.tmp rfl)) ?_ ⟨_, _, _, _, _, _, rdU_form (lead_eq (by omega) hil hall (.inr (.inr ⟨by omega, by omega⟩))) (by omega) (by omega) (by omega), rfl, rfl⟩; (repeat (first | exact Ent.refl _ | (apply Ent.cons; (· repeat (first | exact Pick.here | (refine Pick.sl ?_; (· repeat (first | exact List.Mem.head _ | assumption | apply List.Mem.tail))) | apply Pick.there))) | (refine Ent.trans (Ent.drop _ _) ?_))))
            | (refine SG.retE (Ret.r2 Try.func47 rfl (.agg rfl ag57 (by repeat (first | exact Pick.here | apply Pick.there)) rfl rfl) (.tmp rfl)) ?_ ⟨_, _, _, _, _, _, rdU_ok (lead_eq (by omega) hil hall (.inr (.inr ⟨by omega, by omega⟩))) (by omega) (by omega) (by omega), rfl, rfl⟩; (repeat (first | exact Ent.refl _ | (apply Ent.cons; (· repeat (first | exact Pick.here | (refine Pick.sl ?_; (· repeat (first | exact List.Mem.head _ | assumption | apply List.Mem.tail))) | apply Pick.there))) | (refine Ent.trans (Ent.drop _ _) ?_))))
          · skip
            refine RL.nil ?_
            refine SG.cond_false rfl ?_
            refine SG.skip ?_
            refine SG.seq ?_
            refine SG.seq ?_
            refine SG.region ?_
            refine RL.val (Wanted.free rfl) (V.move rfl rfl) rfl ?_
            refine RL.val (Wanted.free rfl) (V.fieldAddr rfl rfl fo57_0) rfl ?_
            refine RL.val (Wanted.free rfl) (V.load rfl on23 rfl (by repeat (first | exact Pick.here | apply Pick.there)) rfl) rfl ?_
            refine RL.val (Wanted.free rfl) (V.len rfl rfl el23.under rfl) rfl ?_
            refine RL.cmp (Wanted.free rfl) (V.bin rfl rfl rfl B.eql) rfl (fun h39 => ?_) (fun h39 => ?_)
            · skip
              refine RL.nil ?_
              refine SG.cond_true rfl ?_
              refine SG.seq ?_
              refine SG.region ?_
              refine RL.val (Wanted.free rfl) (V.loadAgg (us := _) rfl ag57 rfl (by repeat (first | exact Pick.here | apply Pick.there)) rfl rfl) rfl ?_
              refine RL.eff (Wanted.free rfl) (E.call rfl go54 rfl (xFail_ok)) rfl ?_
              rintro _ _ ⟨rfl, rfl⟩
              rw [if_pos rfl]
              refine RL.eff (Wanted.free rfl) (E.storeAgg rfl rfl rfl rfl sz57 (by repeat (first | exact Pick.here | apply Pick.there)) (by first | (simp [Value.oneCell']; done) | (simp [setAt, Value.oneCell']; done)) (by first | (simp; done) | (simp [setAt]; done))) rfl ?_
              rintro _ _ rfl
              refine RL.val (Wanted.free rfl) (V.assign rfl rfl) rfl ?_
              refine RL.nil ?_
              first
              | (exfalso; omega)
              | (refine SG.retE (Ret.r2 Try.func47 rfl (.agg rfl ag57 (by repeat (first | exact Pick.here | apply Pick.there)) rfl rfl) (.tmp rfl)) ?_ ⟨_, _, _, _, _, _, rdU_err (by omega), rfl, rfl⟩; (repeat (first | exact Ent.refl _ | (apply Ent.cons; (· repeat (first | exact Pick.here | (refine Pick.sl ?_; (· repeat (first | exact List.Mem.head _ | assumption | apply List.Mem.tail))) | apply Pick.there))) | (refine Ent.trans (Ent.drop _ _) ?_))))
              | (refine SG.retE (Ret.r2 Try.func47 rfl (.agg rfl ag57 (by repeat (first | exact Pick.here | apply Pick.there)) rfl rfl) (.tmp rfl)) ?_ ⟨_, _, _, _, _, _, rdU_ten (lead_eq (by omega) (by omega) (fun j h hj => hall j h (by omega)) (.inl rfl)), rfl, rfl⟩; (repeat (first | exact Ent.refl _ | (apply Ent.cons; (· repeat (first | exact Pick.here | (refine Pick.sl ?_; (· repeat (first | exact List.Mem.head _ | assumption | apply List.Mem.tail))) | apply Pick.there))) | (refine Ent.trans (Ent.drop _ _) ?_))))
              | (refine SG.retE (Ret.r2 Try.func47 rfl (.agg rfl ag57 (by repeat (first | exact Pick.here | apply Pick.there)) rfl rfl) (.tmp rfl)) ?_ ⟨_, _, _, _, _, _, rdU_short (lead_eq (by omega) hil hall (.inr (.inl (by omega)))) (by omega) (by omega), rfl, rfl⟩; (repeat (first | exact Ent.refl _ | (apply Ent.cons; (· repeat (first | exact Pick.here | (refine Pick.sl ?_; (· repeat (first | exact List.Mem.head _ | assumption | apply List.Mem.tail))) | apply Pick.there))) | (refine Ent.trans (Ent.drop _ _) ?_))))
              | (refine SG.retE (Ret.r2 Try.func47 rfl (.agg rfl ag57 (by repeat (first | exact Pick.here | apply Pick.there)) rfl rfl) (.tmp rfl)) ?_ ⟨_, _, _, _, _, _, rdU_form (lead_eq (by omega) hil hall (.inr (.inr ⟨by omega, by omega⟩))) (by omega) (by omega) (by omega), rfl, rfl⟩; (repeat (first | exact Ent.refl _ | (apply Ent.cons; (· repeat (first | exact Pick.here | (refine Pick.sl ?_; (· repeat (first | exact List.Mem.head _ | assumption | apply List.Mem.tail))) | apply Pick.there))) | (refine Ent.trans (Ent.drop _ _) ?_))))
              | (refine SG.retE (Ret.r2 Try.func47 rfl (.agg rfl ag57 (by repeat (first | exact Pick.here | apply Pick.there)) rfl rfl) (.tmp rfl)) ?_ ⟨_, _, _, _, _, _, rdU_ok (lead_eq (by omega) hil hall (.inr (.inr ⟨by omega, by omega⟩))) (by omega) (by omega) (by omega), rfl, rfl⟩; (repeat (first | exact Ent.refl _ | (apply Ent.cons; (· repeat (first | exact Pick.here | (refine Pick.sl ?_; (· repeat (first | exact List.Mem.head _ | assumption | apply List.Mem.tail))) | apply Pick.there))) | (refine Ent.trans (Ent.drop _ _) ?_))))
            · skip
              refine RL.nil ?_
              refine SG.cond_false rfl ?_
              refine SG.skip ?_
              refine SG.seq ?_
              refine SG.seq ?_
              refine SG.region ?_
              refine RL.val (Wanted.free rfl) (V.move rfl rfl) rfl ?_
              refine RL.cmp (Wanted.free rfl) (V.bin rfl rfl rfl B.eql) rfl (fun h45 => ?_) (fun h45 => ?_)
              · skip
                refine RL.val (Wanted.free rfl) (V.move rfl rfl) rfl ?_
                refine RL.val (Wanted.yes rfl rfl rfl rfl) (V.fieldAddr rfl rfl fo57_0) rfl ?_
                refine RL.val (Wanted.yes rfl rfl rfl rfl) (V.load rfl on23 rfl (by repeat (first | exact Pick.here | apply Pick.there)) rfl) rfl ?_
                refine RL.val (Wanted.yes rfl rfl rfl rfl) (V.move rfl rfl) rfl ?_
                refine RL.val (Wanted.yes rfl rfl rfl rfl) (V.indexSl rfl el23.slice rfl rfl (by repeat (first | exact List.Mem.head _ | assumption | apply List.Mem.tail)) (by first | rfl | omega) (by omega)) rfl ?_
                refine RL.val (Wanted.yes rfl rfl rfl rfl) (V.loadSc rfl on5 rfl (by repeat (first | exact List.Mem.head _ | assumption | apply List.Mem.tail)) (List.getElem?_eq_getElem (by omega))) rfl ?_
                refine RL.cmp (Wanted.yes rfl rfl rfl rfl) (V.bin rfl rfl rfl B.gtr) rfl (fun h52 => ?_) (fun h52 => ?_)
                · skip
                  refine RL.val (Wanted.free rfl) (V.pick_true rfl rfl rfl) rfl ?_
                  refine RL.val (Wanted.free rfl) (V.move rfl rfl) rfl ?_
                  refine RL.skip (Wanted.no rfl rfl rfl rfl rfl) rfl ?_
                  refine RL.skip (Wanted.no rfl rfl rfl rfl rfl) rfl ?_
                  refine RL.skip (Wanted.no rfl rfl rfl rfl rfl) rfl ?_
                  refine RL.skip (Wanted.un rfl rfl rfl) rfl ?_
                  refine RL.skip (Wanted.un rfl rfl rfl) rfl ?_
                  refine RL.skip (Wanted.un rfl rfl rfl) rfl ?_
                  refine RL.skip (Wanted.un rfl rfl rfl) rfl ?_
                  refine RL.skip (Wanted.un rfl rfl rfl) rfl ?_
                  refine RL.skip (Wanted.un rfl rfl rfl) rfl ?_
                  refine RL.skip (Wanted.no rfl rfl rfl rfl rfl) rfl ?_
                  refine RL.val (Wanted.free rfl) (V.pick_true rfl rfl rfl) rfl ?_
                  refine RL.nil ?_
                  refine SG.cond_true rfl ?_
                  refine SG.seq ?_
                  refine SG.region ?_
                  refine RL.val (Wanted.free rfl) (V.loadAgg (us := _) rfl ag57 rfl (by repeat (first | exact Pick.here | apply Pick.there)) rfl rfl) rfl ?_
                  refine RL.eff (Wanted.free rfl) (E.call rfl go54 rfl (xFail_ok)) rfl ?_
                  rintro _ _ ⟨rfl, rfl⟩
                  rw [if_pos rfl]
                  refine RL.eff (Wanted.free rfl) (E.storeAgg rfl rfl rfl rfl sz57 (by repeat (first | exact Pick.here | apply Pick.there)) (by first | (simp [Value.oneCell']; done) | (simp [setAt, Value.oneCell']; done)) (by first | (simp; done) | (simp [setAt]; done))) rfl ?_
                  rintro _ _ rfl
                  refine RL.val (Wanted.free rfl) (V.assign rfl rfl) rfl ?_
                  refine RL.nil ?_
                  first
                  | (exfalso; omega)
                  | (refine SG.retE (Ret.r2 Try.func47 rfl (.agg rfl ag57 (by repeat (first | exact Pick.here | apply Pick.there)) rfl rfl) (.tmp rfl)) ?_ ⟨_, _, _, _, _, _, rdU_err (by omega), rfl, rfl⟩; (repeat (first | exact Ent.refl _ | (apply Ent.cons; (· repeat (first | exact Pick.here | (refine Pick.sl ?_; (· repeat (first | exact List.Mem.head _ | assumption | apply List.Mem.tail))) | apply Pick.there))) | (refine Ent.trans (Ent.drop _ _) ?_))))
                  | (refine SG.retE (Ret.r2 Try.func47 rfl (.agg rfl ag57 (by repeat (first | exact Pick.here | apply Pick.there)) rfl rfl) (.tmp rfl)) ?_ ⟨_, _, _, _, _, _, rdU_ten (lead_eq (by omega) (by omega) (fun j h hj => hall j h (by omega)) (.inl rfl)), rfl, rfl⟩; (repeat (first | exact Ent.refl _ | (apply Ent.cons; (· repeat (first | exact Pick.here | (refine Pick.sl ?_; (· repeat (first | exact List.Mem.head _ | assumption | apply List.Mem.tail))) | apply Pick.there))) | (refine Ent.trans (Ent.drop _ _) ?_))))
                  | (refine SG.retE (Ret.r2 Try.func47 rfl (.agg rfl ag57 (by repeat (first | exact Pick.here | apply Pick.there)) rfl rfl) (.tmp rfl)) ?_ ⟨_, _, _, _, _, _, rdU_short (lead_eq (by omega) hil hall (.inr (.inl (by omega)))) (by omega) (by omega), rfl, rfl⟩; (repeat (first | exact Ent.refl _ | (apply Ent.cons; (· repeat (first | exact Pick.here | (refine Pick.sl ?_; (· repeat (first | exact List.Mem.head _ | assumption | apply List.Mem.tail))) | apply Pick.there))) | (refine Ent.trans (Ent.drop _ _) ?_))))
                  | (refine SG.retE (Ret.r2 Try.func47 rfl (.agg rfl ag57 (by repeat (first | exact Pick.here | apply Pick.there)) rfl rfl) (.tmp rfl)) ?_ ⟨_, _, _, _, _, _, rdU_form (lead_eq (by omega) hil hall (.inr (.inr ⟨by omega, by omega⟩))) (by omega) (by omega) (by omega), rfl, rfl⟩; (repeat (first | exact Ent.refl _ | (apply Ent.cons; (· repeat (first | exact Pick.here | (refine Pick.sl ?_; (· repeat (first | exact List.Mem.head _ | assumption | apply List.Mem.tail))) | apply Pick.there))) | (refine Ent.trans (Ent.drop _ _) ?_))))
                  | (refine SG.retE (Ret.r2 Try.func47 rfl (.agg rfl ag57 (by repeat (first | exact Pick.here | apply Pick.there)) rfl rfl) (.tmp rfl)) ?_ ⟨_, _, _, _, _, _, rdU_ok (lead_eq (by omega) hil hall (.inr (.inr ⟨by omega, by omega⟩))) (by omega) (by omega) (by omega), rfl, rfl⟩; (repeat (first | exact Ent.refl _ | (apply Ent.cons; (· repeat (first | exact Pick.here | (refine Pick.sl ?_; (· repeat (first | exact List.Mem.head _ | assumption | apply List.Mem.tail))) | apply Pick.there))) | (refine Ent.trans (Ent.drop _ _) ?_))))
                · skip
                  refine RL.val (Wanted.free rfl) (V.pick_true rfl rfl rfl) rfl ?_
                  refine RL.val (Wanted.free rfl) (V.move rfl rfl) rfl ?_
                  refine RL.val (Wanted.yes rfl rfl rfl rfl) (V.move rfl rfl) rfl ?_
                  refine RL.cmp (Wanted.yes rfl rfl rfl rfl) (V.bin rfl rfl rfl B.gtr) rfl (fun h60 => ?_) (fun h60 => ?_)
                  · skip
                    refine RL.val (Wanted.yes rfl rfl rfl rfl) (V.move rfl rfl) rfl ?_
                    refine RL.val (Wanted.yes rfl rfl rfl rfl) (V.fieldAddr rfl rfl fo57_0) rfl ?_
                    refine RL.val (Wanted.yes rfl rfl rfl rfl) (V.load rfl on23 rfl (by repeat (first | exact Pick.here | apply Pick.there)) rfl) rfl ?_
                    refine RL.val (Wanted.yes rfl rfl rfl rfl) (V.move rfl rfl) rfl ?_
                    refine RL.val (Wanted.yes rfl rfl rfl rfl) (V.indexSl rfl el23.slice rfl rfl (by repeat (first | exact List.Mem.head _ | assumption | apply List.Mem.tail)) (by first | rfl | omega) (by omega)) rfl ?_
                    refine RL.val (Wanted.yes rfl rfl rfl rfl) (V.loadSc rfl on5 rfl (by repeat (first | exact List.Mem.head _ | assumption | apply List.Mem.tail)) (List.getElem?_eq_getElem (by omega))) rfl ?_
                    refine RL.cmp (Wanted.yes rfl rfl rfl rfl) (V.bin rfl rfl rfl B.eql) rfl (fun h67 => ?_) (fun h67 => ?_)
                    · skip
                      refine RL.val (Wanted.yes rfl rfl rfl rfl) (V.pick_true rfl rfl rfl) rfl ?_
                      refine RL.val (Wanted.free rfl) (V.pick_false rfl rfl rfl) rfl ?_
                      refine RL.nil ?_
                      refine SG.cond_true rfl ?_
                      refine SG.seq ?_
                      refine SG.region ?_
                      refine RL.val (Wanted.free rfl) (V.loadAgg (us := _) rfl ag57 rfl (by repeat (first | exact Pick.here | apply Pick.there)) rfl rfl) rfl ?_
                      refine RL.eff (Wanted.free rfl) (E.call rfl go54 rfl (xFail_ok)) rfl ?_
                      rintro _ _ ⟨rfl, rfl⟩
                      rw [if_pos rfl]
                      refine RL.eff (Wanted.free rfl) (E.storeAgg rfl rfl rfl rfl sz57 (by repeat (first | exact Pick.here | apply Pick.there)) (by first | (simp [Value.oneCell']; done) | (simp [setAt, Value.oneCell']; done)) (by first | (simp; done) | (simp [setAt]; done))) rfl ?_
                      rintro _ _ rfl
                      refine RL.val (Wanted.free rfl) (V.assign rfl rfl) rfl ?_
                      refine RL.nil ?_
                      first
                      | (exfalso; omega)
                      | (refine SG.retE (Ret.r2 Try.func47 rfl (.agg rfl ag57 (by repeat (first | exact Pick.here | apply Pick.there)) rfl rfl) (.tmp rfl)) ?_ ⟨_, _, _, _, _, _, rdU_err (by omega), rfl, rfl⟩; (repeat (first | exact Ent.refl _ | (apply Ent.cons; (· repeat (first | exact Pick.here | (refine Pick.sl ?_; (· repeat (first | exact List.Mem.head _ | assumption | apply List.Mem.tail))) | apply Pick.there))) | (refine Ent.trans (Ent.drop _ _) ?_))))
                      | (refine SG.retE (Ret.r2 Try.func47 rfl (.agg rfl ag57 (by repeat (first | exact Pick.here | apply Pick.there)) rfl rfl) (.tmp rfl)) ?_ ⟨_, _, _, _, _, _, rdU_ten (lead_eq (by omega) (by omega) (fun j h hj => hall j h (by omega)) (.inl rfl)), rfl, rfl⟩; (repeat (first | exact Ent.refl _ | (apply Ent.cons; (· repeat (first | exact Pick.here | (refine Pick.sl ?_; (· repeat (first | exact List.Mem.head _ | assumption | apply List.Mem.tail))) | apply Pick.there))) | (refine Ent.trans (Ent.drop _ _) ?_))))
                      | (refine SG.retE (Ret.r2 Try.func47 rfl (.agg rfl ag57 (by repeat (first | exact Pick.here | apply Pick.there)) rfl rfl) (.tmp rfl)) ?_ ⟨_, _, _, _, _, _, rdU_short (lead_eq (by omega) hil hall (.inr (.inl (by omega)))) (by omega) (by omega), rfl, rfl⟩; (repeat (first | exact Ent.refl _ | (apply Ent.cons; (· repeat (first | exact Pick.here | (refine Pick.sl ?_; (· repeat (first | exact List.Mem.head _ | assumption | apply List.Mem.tail))) | apply Pick.there))) | (refine Ent.trans (Ent.drop _ _) ?_))))
                      | (refine SG.retE (Ret.r2 Try.func47 rfl (.agg rfl ag57 (by repeat (first | exact Pick.here | apply Pick.there)) rfl rfl) (.tmp rfl)) ?_ ⟨_, _, _, _, _, _, rdU_form (lead_eq (by omega) hil hall (.inr (.inr ⟨by omega, by omega⟩))) (by omega) (by omega) (by omega), rfl, rfl⟩; (repeat (first | exact Ent.refl _ | (apply Ent.cons; (· repeat (first | exact Pick.here | (refine Pick.sl ?_; (· repeat (first | exact List.Mem.head _ | assumption | apply List.Mem.tail))) | apply Pick.there))) | (refine Ent.trans (Ent.drop _ _) ?_))))
                      | (refine SG.retE (Ret.r2 Try.func47 rfl (.agg rfl ag57 (by repeat (first | exact Pick.here | apply Pick.there)) rfl rfl) (.tmp rfl)) ?_ ⟨_, _, _, _, _, _, rdU_ok (lead_eq (by omega) hil hall (.inr (.inr ⟨by omega, by omega⟩))) (by omega) (by omega) (by omega), rfl, rfl⟩; (repeat (first | exact Ent.refl _ | (apply Ent.cons; (· repeat (first | exact Pick.here | (refine Pick.sl ?_; (· repeat (first | exact List.Mem.head _ | assumption | apply List.Mem.tail))) | apply Pick.there))) | (refine Ent.trans (Ent.drop _ _) ?_))))
                    · skip
                      refine RL.val (Wanted.yes rfl rfl rfl rfl) (V.pick_true rfl rfl rfl) rfl ?_
                      refine RL.val (Wanted.free rfl) (V.pick_false rfl rfl rfl) rfl ?_
                      refine RL.nil ?_
                      refine SG.cond_false rfl ?_
                      refine SG.skip ?_
                      refine SG.seq ?_
                      refine SG.region ?_
                      refine RL.val (Wanted.free rfl) (V.assign rfl rfl) rfl ?_
                      refine RL.nil ?_
                      refine SG.seq ?_
                      refine SG.seq ?_
                      refine SG.region ?_
                      refine RL.val (Wanted.free rfl) (V.move rfl rfl) rfl ?_
                      refine RL.val (Wanted.free rfl) (V.assign rfl rfl) rfl ?_
                      refine RL.nil ?_
                      refine SG.block ?_
                      refine SG.let_ (d := 5) (u' := v64 (UInt64.ofNat (val ((l.take (i + 1)).drop (i + 1))))) rfl (by rw [List.drop_of_length_le (by rw [List.length_take]; omega)]; rfl) ?_
                      refine SG.let_ (d := 6) (u' := vI (((i + 1 : Nat) : Int) - 1)) rfl (by congr 1; omega) ?_
                      refine SG.weaken (SG.loop2 (fun m al M => ∃ j : Nat, j ≤ i + 1 ∧ j = m ∧ al = [(1, ptr b1 0), (2, ptr b2 0), (4, vI i), (5, v64 (UInt64.ofNat (val ((l.take (i + 1)).drop j)))), (6, vI ((j : Int) - 1))] ∧ M = Blk b1 57 [.slice a l.length c, vI 0] :: Blk b2 57 [.slice none 0 0, vI 0] :: L) (m0 := _) ⟨i + 1, by omega, rfl, rfl, rfl⟩ ?_) ?_ ?_
                      rotate_left
                      · repeat (first | exact EnvLe.nil _ | refine EnvLe.cons rfl ?_)
                      · repeat (first | exact Ent.refl _ | (apply Ent.cons; (· repeat (first | exact Pick.here | (refine Pick.sl ?_; (· repeat (first | exact List.Mem.head _ | assumption | apply List.Mem.tail))) | apply Pick.there))) | (refine Ent.trans (Ent.drop _ _) ?_))
                      rintro _ _ _ ⟨j, hj1, rfl, rfl, rfl⟩ ih1
                      refine SG.seq ?_
                      refine SG.seq ?_
                      refine SG.region ?_
                      refine RL.val (Wanted.free rfl) (V.move rfl rfl) rfl ?_
                      refine RL.cmp (Wanted.free rfl) (V.bin rfl rfl rfl B.geq) rfl (fun h76 => ?_) (fun h76 => ?_)
                      · skip
                        refine RL.nil ?_
                        refine SG.cond_true rfl ?_
                        refine SG.skip ?_
                        refine SG.seq ?_
                        refine SG.block ?_
                        refine SG.region ?_
                        obtain ⟨j', rfl⟩ : ∃ j', j = j' + 1 := ⟨j - 1, by omega⟩
                        refine RL.val (Wanted.free rfl) (V.move rfl rfl) rfl ?_
                        refine RL.val (Wanted.free rfl) (V.bin rfl rfl rfl (B.mul64 (x := 128))) rfl ?_
                        refine RL.val (Wanted.free rfl) (V.fieldAddr rfl rfl fo57_0) rfl ?_
                        refine RL.val (Wanted.free rfl) (V.load rfl on23 rfl (by repeat (first | exact Pick.here | apply Pick.there)) rfl) rfl ?_
                        refine RL.val (Wanted.free rfl) (V.move rfl rfl) rfl ?_
                        refine RL.val (Wanted.free rfl) (V.indexSl (j := j') rfl el23.slice rfl rfl (by repeat (first | exact List.Mem.head _ | assumption | apply List.Mem.tail)) (by first | rfl | omega) (by omega)) rfl ?_
                        refine RL.val (Wanted.free rfl) (V.loadSc rfl on5 rfl (by repeat (first | exact List.Mem.head _ | assumption | apply List.Mem.tail)) (List.getElem?_eq_getElem (by omega))) rfl ?_
                        refine RL.val (Wanted.free rfl) (V.bin rfl rfl rfl (B.rem8 (y := 128) (by decide))) rfl ?_
                        refine RL.val (Wanted.free rfl) (V.to64 rfl ⟨_, ui5⟩ ui31 rfl) rfl ?_
                        refine RL.val (Wanted.free rfl) (V.bin rfl rfl rfl (B.add64)) rfl ?_
                        have hw : (l.take (i + 1))[j']'(by rw [List.length_take]; omega) = l[j'] := List.getElem_take
                        have hst := dot_step (w := l.take (i + 1)) (j := j') (by rw [List.length_take]; omega)
                        rw [hw] at hst
                        rw [hst]
                        refine RL.val (Wanted.free rfl) (V.assign rfl rfl) rfl ?_
                        refine RL.nil ?_
                        refine SG.inBlock ?_
                        refine SG.region ?_
                        refine RL.val (Wanted.free rfl) (V.move rfl rfl) rfl ?_
                        refine RL.val (Wanted.free rfl) (V.bin rfl rfl rfl (B.subI (by omega) (by omega))) rfl ?_
                        rw [show ((j' + 1 : Nat) : Int) - 1 - 1 = (j' : Int) - 1 from by omega]
                        refine RL.val (Wanted.free rfl) (V.assign rfl rfl) rfl ?_
                        refine RL.nil ?_
                        refine SG.weaken (ih1 _ _ _ ?_ ⟨j', by omega, rfl, rfl, rfl⟩) ?_ ?_
                        · omega
                        · repeat (first | exact EnvLe.nil _ | refine EnvLe.cons rfl ?_)
                        · repeat (first | exact Ent.refl _ | (apply Ent.cons; (· repeat (first | exact Pick.here | (refine Pick.sl ?_; (· repeat (first | exact List.Mem.head _ | assumption | apply List.Mem.tail))) | apply Pick.there))) | (refine Ent.trans (Ent.drop _ _) ?_))
                      · skip
                        refine RL.nil ?_
                        refine SG.cond_false rfl ?_
                        refine SG.exit rfl ?_
                        refine SG.seq ?_
                        have hj0 : j = 0 := by omega
                        subst hj0
                        rw [List.drop_zero]
                        refine SG.region ?_
                        refine RL.val (Wanted.free rfl) (V.fieldAddr rfl rfl fo57_0) rfl ?_
                        refine RL.val (Wanted.free rfl) (V.load rfl on23 rfl (by repeat (first | exact Pick.here | apply Pick.there)) rfl) rfl ?_
                        refine RL.val (Wanted.free rfl) (V.move rfl rfl) rfl ?_
                        refine RL.val (Wanted.free rfl) (V.bin rfl rfl rfl (B.addI (by omega) (by omega))) rfl ?_
                        refine RL.eff (Wanted.free rfl) (E.slice (lo := i + 1) (hi := l.length) rfl el23.slice rfl (by repeat (first | exact List.Mem.head _ | assumption | apply List.Mem.tail)) ⟨_, _, rfl, (by first | rfl | omega)⟩ rfl (by omega) (by omega)) rfl ?_
                        intro _ _ hK95
                        try rw [List.drop_zero] at hK95
                        iterate 2 (try rw [Nat.sub_zero] at hK95)
                        rw [show (l.drop (i + 1)).take (l.length - (i + 1)) = l.drop (i + 1) from List.take_of_length_le (by simp)] at hK95
                        obtain ⟨a95, rfl, rfl⟩ := hK95
                        refine RL.val (Wanted.free rfl) (V.buildS [(0, _)] rfl bs57 (by exact ⟨rfl, ⟨_, rfl, rfl⟩, trivial⟩) rfl) rfl ?_
                        refine RL.val (Wanted.free rfl) (V.move rfl rfl) rfl ?_
                        refine RL.eff (Wanted.free rfl) (E.storeAgg rfl rfl rfl rfl sz57 (by repeat (first | exact Pick.here | apply Pick.there)) (by first | (simp [Value.oneCell']; done) | (simp [setAt, Value.oneCell']; done)) (by first | (simp; done) | (simp [setAt]; done))) rfl ?_
                        rintro _ _ rfl
                        refine RL.val (Wanted.free rfl) (V.assign rfl rfl) rfl ?_
                        refine RL.nil ?_
                        first
                        | (exfalso; omega)
                        | (refine SG.retE (Ret.r2 Try.func47 rfl (.agg rfl ag57 (by repeat (first | exact Pick.here | apply Pick.there)) rfl rfl) (.tmp rfl)) ?_ ⟨_, _, _, _, _, _, rdU_err (by omega), rfl, rfl⟩; (repeat (first | exact Ent.refl _ | (apply Ent.cons; (· repeat (first | exact Pick.here | (refine Pick.sl ?_; (· repeat (first | exact List.Mem.head _ | assumption | apply List.Mem.tail))) | apply Pick.there))) | (refine Ent.trans (Ent.drop _ _) ?_))))
                        | (refine SG.retE (Ret.r2 Try.func47 rfl (.agg rfl ag57 (by repeat (first | exact Pick.here | apply Pick.there)) rfl rfl) (.tmp rfl)) ?_ ⟨_, _, _, _, _, _, rdU_ten (lead_eq (by omega) (by omega) (fun j h hj => hall j h (by omega)) (.inl rfl)), rfl, rfl⟩; (repeat (first | exact Ent.refl _ | (apply Ent.cons; (· repeat (first | exact Pick.here | (refine Pick.sl ?_; (· repeat (first | exact List.Mem.head _ | assumption | apply List.Mem.tail))) | apply Pick.there))) | (refine Ent.trans (Ent.drop _ _) ?_))))
                        | (refine SG.retE (Ret.r2 Try.func47 rfl (.agg rfl ag57 (by repeat (first | exact Pick.here | apply Pick.there)) rfl rfl) (.tmp rfl)) ?_ ⟨_, _, _, _, _, _, rdU_short (lead_eq (by omega) hil hall (.inr (.inl (by omega)))) (by omega) (by omega), rfl, rfl⟩; (repeat (first | exact Ent.refl _ | (apply Ent.cons; (· repeat (first | exact Pick.here | (refine Pick.sl ?_; (· repeat (first | exact List.Mem.head _ | assumption | apply List.Mem.tail))) | apply Pick.there))) | (refine Ent.trans (Ent.drop _ _) ?_))))
                        | (refine SG.retE (Ret.r2 Try.func47 rfl (.agg rfl ag57 (by repeat (first | exact Pick.here | apply Pick.there)) rfl rfl) (.tmp rfl)) ?_ ⟨_, _, _, _, _, _, rdU_form (lead_eq (by omega) hil hall (.inr (.inr ⟨by omega, by omega⟩))) (by omega) (by omega) (by omega), rfl, rfl⟩; (repeat (first | exact Ent.refl _ | (apply Ent.cons; (· repeat (first | exact Pick.here | (refine Pick.sl ?_; (· repeat (first | exact List.Mem.head _ | assumption | apply List.Mem.tail))) | apply Pick.there))) | (refine Ent.trans (Ent.drop _ _) ?_))))
                        | (refine SG.retE (Ret.r2 Try.func47 rfl (.agg rfl ag57 (by repeat (first | exact Pick.here | apply Pick.there)) rfl rfl) (.tmp rfl)) ?_ ⟨_, _, _, _, _, _, rdU_ok (lead_eq (by omega) hil hall (.inr (.inr ⟨by omega, by omega⟩))) (by omega) (by omega) (by omega), rfl, rfl⟩; (repeat (first | exact Ent.refl _ | (apply Ent.cons; (· repeat (first | exact Pick.here | (refine Pick.sl ?_; (· repeat (first | exact List.Mem.head _ | assumption | apply List.Mem.tail))) | apply Pick.there))) | (refine Ent.trans (Ent.drop _ _) ?_))))
                  · skip
                    refine RL.val (Wanted.yes rfl rfl rfl rfl) (V.move rfl rfl) rfl ?_
                    refine RL.skip (Wanted.no rfl rfl rfl rfl rfl) rfl ?_
                    refine RL.skip (Wanted.no rfl rfl rfl rfl rfl) rfl ?_
                    refine RL.skip (Wanted.no rfl rfl rfl rfl rfl) rfl ?_
                    refine RL.skip (Wanted.no rfl rfl rfl rfl rfl) rfl ?_
                    refine RL.skip (Wanted.no rfl rfl rfl rfl rfl) rfl ?_
                    refine RL.skip (Wanted.no rfl rfl rfl rfl rfl) rfl ?_
                    refine RL.val (Wanted.yes rfl rfl rfl rfl) (V.pick_false rfl rfl rfl) rfl ?_
                    refine RL.val (Wanted.free rfl) (V.pick_false rfl rfl rfl) rfl ?_
                    refine RL.nil ?_
                    refine SG.cond_false rfl ?_
                    refine SG.skip ?_
                    refine SG.seq ?_
                    refine SG.region ?_
                    refine RL.val (Wanted.free rfl) (V.assign rfl rfl) rfl ?_
                    refine RL.nil ?_
                    refine SG.seq ?_
                    refine SG.seq ?_
                    refine SG.region ?_
                    refine RL.val (Wanted.free rfl) (V.move rfl rfl) rfl ?_
                    refine RL.val (Wanted.free rfl) (V.assign rfl rfl) rfl ?_
                    refine RL.nil ?_
                    refine SG.block ?_
                    refine SG.let_ (d := 5) (u' := v64 (UInt64.ofNat (val ((l.take (i + 1)).drop (i + 1))))) rfl (by rw [List.drop_of_length_le (by rw [List.length_take]; omega)]; rfl) ?_
                    refine SG.let_ (d := 6) (u' := vI (((i + 1 : Nat) : Int) - 1)) rfl (by congr 1; omega) ?_
                    refine SG.weaken (SG.loop2 (fun m al M => ∃ j : Nat, j ≤ i + 1 ∧ j = m ∧ al = [(1, ptr b1 0), (2, ptr b2 0), (4, vI i), (5, v64 (UInt64.ofNat (val ((l.take (i + 1)).drop j)))), (6, vI ((j : Int) - 1))] ∧ M = Blk b1 57 [.slice a l.length c, vI 0] :: Blk b2 57 [.slice none 0 0, vI 0] :: L) (m0 := _) ⟨i + 1, by omega, rfl, rfl, rfl⟩ ?_) ?_ ?_
                    rotate_left
                    · repeat (first | exact EnvLe.nil _ | refine EnvLe.cons rfl ?_)
                    · repeat (first | exact Ent.refl _ | (apply Ent.cons; (· repeat (first | exact Pick.here | (refine Pick.sl ?_; (· repeat (first | exact List.Mem.head _ | assumption | apply List.Mem.tail))) | apply Pick.there))) | (refine Ent.trans (Ent.drop _ _) ?_))
                    rintro _ _ _ ⟨j, hj1, rfl, rfl, rfl⟩ ih1
                    refine SG.seq ?_
                    refine SG.seq ?_
                    refine SG.region ?_
                    refine RL.val (Wanted.free rfl) (V.move rfl rfl) rfl ?_
                    refine RL.cmp (Wanted.free rfl) (V.bin rfl rfl rfl B.geq) rfl (fun h105 => ?_) (fun h105 => ?_)
                    · skip
                      refine RL.nil ?_
                      refine SG.cond_true rfl ?_
                      refine SG.skip ?_
                      refine SG.seq ?_
                      refine SG.block ?_
                      refine SG.region ?_
                      obtain ⟨j', rfl⟩ : ∃ j', j = j' + 1 := ⟨j - 1, by omega⟩
                      refine RL.val (Wanted.free rfl) (V.move rfl rfl) rfl ?_
                      refine RL.val (Wanted.free rfl) (V.bin rfl rfl rfl (B.mul64 (x := 128))) rfl ?_
                      refine RL.val (Wanted.free rfl) (V.fieldAddr rfl rfl fo57_0) rfl ?_
                      refine RL.val (Wanted.free rfl) (V.load rfl on23 rfl (by repeat (first | exact Pick.here | apply Pick.there)) rfl) rfl ?_
                      refine RL.val (Wanted.free rfl) (V.move rfl rfl) rfl ?_
                      refine RL.val (Wanted.free rfl) (V.indexSl (j := j') rfl el23.slice rfl rfl (by repeat (first | exact List.Mem.head _ | assumption | apply List.Mem.tail)) (by first | rfl | omega) (by omega)) rfl ?_
                      refine RL.val (Wanted.free rfl) (V.loadSc rfl on5 rfl (by repeat (first | exact List.Mem.head _ | assumption | apply List.Mem.tail)) (List.getElem?_eq_getElem (by omega))) rfl ?_
                      refine RL.val (Wanted.free rfl) (V.bin rfl rfl rfl (B.rem8 (y := 128) (by decide))) rfl ?_
                      refine RL.val (Wanted.free rfl) (V.to64 rfl ⟨_, ui5⟩ ui31 rfl) rfl ?_
                      refine RL.val (Wanted.free rfl) (V.bin rfl rfl rfl (B.add64)) rfl ?_
                      have hw : (l.take (i + 1))[j']'(by rw [List.length_take]; omega) = l[j'] := List.getElem_take
                      have hst := dot_step (w := l.take (i + 1)) (j := j') (by rw [List.length_take]; omega)
                      rw [hw] at hst
                      rw [hst]
                      refine RL.val (Wanted.free rfl) (V.assign rfl rfl) rfl ?_
                      refine RL.nil ?_
                      refine SG.inBlock ?_
                      refine SG.region ?_
                      refine RL.val (Wanted.free rfl) (V.move rfl rfl) rfl ?_
                      refine RL.val (Wanted.free rfl) (V.bin rfl rfl rfl (B.subI (by omega) (by omega))) rfl ?_
                      rw [show ((j' + 1 : Nat) : Int) - 1 - 1 = (j' : Int) - 1 from by omega]
                      refine RL.val (Wanted.free rfl) (V.assign rfl rfl) rfl ?_
                      refine RL.nil ?_
                      refine SG.weaken (ih1 _ _ _ ?_ ⟨j', by omega, rfl, rfl, rfl⟩) ?_ ?_
                      · omega
                      · repeat (first | exact EnvLe.nil _ | refine EnvLe.cons rfl ?_)
                      · repeat (first | exact Ent.refl _ | (apply Ent.cons; (· repeat (first | exact Pick.here | (refine Pick.sl ?_; (· repeat (first | exact List.Mem.head _ | assumption | apply List.Mem.tail))) | apply Pick.there))) | (refine Ent.trans (Ent.drop _ _) ?_))
                    · skip
                      refine RL.nil ?_
                      refine SG.cond_false rfl ?_
                      refine SG.exit rfl ?_
                      refine SG.seq ?_
                      have hj0 : j = 0 := by omega
                      subst hj0
                      rw [List.drop_zero]
                      refine SG.region ?_
                      refine RL.val (Wanted.free rfl) (V.fieldAddr rfl rfl fo57_0) rfl ?_
                      refine RL.val (Wanted.free rfl) (V.load rfl on23 rfl (by repeat (first | exact Pick.here | apply Pick.there)) rfl) rfl ?_
                      refine RL.val (Wanted.free rfl) (V.move rfl rfl) rfl ?_
                      refine RL.val (Wanted.free rfl) (V.bin rfl rfl rfl (B.addI (by omega) (by omega))) rfl ?_
                      refine RL.eff (Wanted.free rfl) (E.slice (lo := i + 1) (hi := l.length) rfl el23.slice rfl (by repeat (first | exact List.Mem.head _ | assumption | apply List.Mem.tail)) ⟨_, _, rfl, (by first | rfl | omega)⟩ rfl (by omega) (by omega)) rfl ?_
                      intro _ _ hK124
                      try rw [List.drop_zero] at hK124
                      iterate 2 (try rw [Nat.sub_zero] at hK124)
                      rw [show (l.drop (i + 1)).take (l.length - (i + 1)) = l.drop (i + 1) from List.take_of_length_le (by simp)] at hK124
                      obtain ⟨a124, rfl, rfl⟩ := hK124
                      refine RL.val (Wanted.free rfl) (V.buildS [(0, _)] rfl bs57 (by exact ⟨rfl, ⟨_, rfl, rfl⟩, trivial⟩) rfl) rfl ?_
                      refine RL.val (Wanted.free rfl) (V.move rfl rfl) rfl ?_
                      refine RL.eff (Wanted.free rfl) (E.storeAgg rfl rfl rfl rfl sz57 (by repeat (first | exact Pick.here | apply Pick.there)) (by first | (simp [Value.oneCell']; done) | (simp [setAt, Value.oneCell']; done)) (by first | (simp; done) | (simp [setAt]; done))) rfl ?_
                      rintro _ _ rfl
                      refine RL.val (Wanted.free rfl) (V.assign rfl rfl) rfl ?_
                      refine RL.nil ?_
                      first
                      | (exfalso; omega)
                      | (refine SG.retE (Ret.r2 Try.func47 rfl (.agg rfl ag57 (by repeat (first | exact Pick.here | apply Pick.there)) rfl rfl) (.tmp rfl)) ?_ ⟨_, _, _, _, _, _, rdU_err (by omega), rfl, rfl⟩; (repeat (first | exact Ent.refl _ | (apply Ent.cons; (· repeat (first | exact Pick.here | (refine Pick.sl ?_; (· repeat (first | exact List.Mem.head _ | assumption | apply List.Mem.tail))) | apply Pick.there))) | (refine Ent.trans (Ent.drop _ _) ?_))))
                      | (refine SG.retE (Ret.r2 Try.func47 rfl (.agg rfl ag57 (by repeat (first | exact Pick.here | apply Pick.there)) rfl rfl) (.tmp rfl)) ?_ ⟨_, _, _, _, _, _, rdU_ten (lead_eq (by omega) (by omega) (fun j h hj => hall j h (by omega)) (.inl rfl)), rfl, rfl⟩; (repeat (first | exact Ent.refl _ | (apply Ent.cons; (· repeat (first | exact Pick.here | (refine Pick.sl ?_; (· repeat (first | exact List.Mem.head _ | assumption | apply List.Mem.tail))) | apply Pick.there))) | (refine Ent.trans (Ent.drop _ _) ?_))))
                      | (refine SG.retE (Ret.r2 Try.func47 rfl (.agg rfl ag57 (by repeat (first | exact Pick.here | apply Pick.there)) rfl rfl) (.tmp rfl)) ?_ ⟨_, _, _, _, _, _, rdU_short (lead_eq (by omega) hil hall (.inr (.inl (by omega)))) (by omega) (by omega), rfl, rfl⟩; (repeat (first | exact Ent.refl _ | (apply Ent.cons; (· repeat (first | exact Pick.here | (refine Pick.sl ?_; (· repeat (first | exact List.Mem.head _ | assumption | apply List.Mem.tail))) | apply Pick.there))) | (refine Ent.trans (Ent.drop _ _) ?_))))
                      | (refine SG.retE (Ret.r2 Try.func47 rfl (.agg rfl ag57 (by repeat (first | exact Pick.here | apply Pick.there)) rfl rfl) (.tmp rfl)) ?_ ⟨_, _, _, _, _, _, rdU_form (lead_eq (by omega) hil hall (.inr (.inr ⟨by omega, by omega⟩))) (by omega) (by omega) (by omega), rfl, rfl⟩; (repeat (first | exact Ent.refl _ | (apply Ent.cons; (· repeat (first | exact Pick.here | (refine Pick.sl ?_; (· repeat (first | exact List.Mem.head _ | assumption | apply List.Mem.tail))) | apply Pick.there))) | (refine Ent.trans (Ent.drop _ _) ?_))))
                      | (refine SG.retE (Ret.r2 Try.func47 rfl (.agg rfl ag57 (by repeat (first | exact Pick.here | apply Pick.there)) rfl rfl) (.tmp rfl)) ?_ ⟨_, _, _, _, _, _, rdU_ok (lead_eq (by omega) hil hall (.inr (.inr ⟨by omega, by omega⟩))) (by omega) (by omega) (by omega), rfl, rfl⟩; (repeat (first | exact Ent.refl _ | (apply Ent.cons; (· repeat (first | exact Pick.here | (refine Pick.sl ?_; (· repeat (first | exact List.Mem.head _ | assumption | apply List.Mem.tail))) | apply Pick.there))) | (refine Ent.trans (Ent.drop _ _) ?_))))
              · skip
                refine RL.val (Wanted.free rfl) (V.move rfl rfl) rfl ?_
                refine RL.skip (Wanted.no rfl rfl rfl rfl rfl) rfl ?_
                refine RL.skip (Wanted.no rfl rfl rfl rfl rfl) rfl ?_
                refine RL.skip (Wanted.no rfl rfl rfl rfl rfl) rfl ?_
                refine RL.skip (Wanted.no rfl rfl rfl rfl rfl) rfl ?_
                refine RL.skip (Wanted.no rfl rfl rfl rfl rfl) rfl ?_
                refine RL.skip (Wanted.no rfl rfl rfl rfl rfl) rfl ?_
                refine RL.val (Wanted.free rfl) (V.pick_false rfl rfl rfl) rfl ?_
                refine RL.val (Wanted.free rfl) (V.move rfl rfl) rfl ?_
                refine RL.val (Wanted.yes rfl rfl rfl rfl) (V.move rfl rfl) rfl ?_
                refine RL.cmp (Wanted.yes rfl rfl rfl rfl) (V.bin rfl rfl rfl B.gtr) rfl (fun h132 => ?_) (fun h132 => ?_)
                · skip
                  refine RL.val (Wanted.yes rfl rfl rfl rfl) (V.move rfl rfl) rfl ?_
                  refine RL.val (Wanted.yes rfl rfl rfl rfl) (V.fieldAddr rfl rfl fo57_0) rfl ?_
                  refine RL.val (Wanted.yes rfl rfl rfl rfl) (V.load rfl on23 rfl (by repeat (first | exact Pick.here | apply Pick.there)) rfl) rfl ?_
                  refine RL.val (Wanted.yes rfl rfl rfl rfl) (V.move rfl rfl) rfl ?_
                  refine RL.val (Wanted.yes rfl rfl rfl rfl) (V.indexSl rfl el23.slice rfl rfl (by repeat (first | exact List.Mem.head _ | assumption | apply List.Mem.tail)) (by first | rfl | omega) (by omega)) rfl ?_
                  refine RL.val (Wanted.yes rfl rfl rfl rfl) (V.loadSc rfl on5 rfl (by repeat (first | exact List.Mem.head _ | assumption | apply List.Mem.tail)) (List.getElem?_eq_getElem (by omega))) rfl ?_
                  refine RL.cmp (Wanted.yes rfl rfl rfl rfl) (V.bin rfl rfl rfl B.eql) rfl (fun h139 => ?_) (fun h139 => ?_)
                  · skip
                    refine RL.val (Wanted.yes rfl rfl rfl rfl) (V.pick_true rfl rfl rfl) rfl ?_
                    refine RL.val (Wanted.free rfl) (V.pick_false rfl rfl rfl) rfl ?_
                    refine RL.nil ?_
                    refine SG.cond_true rfl ?_
                    refine SG.seq ?_
                    refine SG.region ?_
                    refine RL.val (Wanted.free rfl) (V.loadAgg (us := _) rfl ag57 rfl (by repeat (first | exact Pick.here | apply Pick.there)) rfl rfl) rfl ?_
                    refine RL.eff (Wanted.free rfl) (E.call rfl go54 rfl (xFail_ok)) rfl ?_
                    rintro _ _ ⟨rfl, rfl⟩
                    rw [if_pos rfl]
                    refine RL.eff (Wanted.free rfl) (E.storeAgg rfl rfl rfl rfl sz57 (by repeat (first | exact Pick.here | apply Pick.there)) (by first | (simp [Value.oneCell']; done) | (simp [setAt, Value.oneCell']; done)) (by first | (simp; done) | (simp [setAt]; done))) rfl ?_
                    rintro _ _ rfl
                    refine RL.val (Wanted.free rfl) (V.assign rfl rfl) rfl ?_
                    refine RL.nil ?_
                    first
                    | (exfalso; omega)
                    | (refine SG.retE (Ret.r2 Try.func47 rfl (.agg rfl ag57 (by repeat (first | exact Pick.here | apply Pick.there)) rfl rfl) (.tmp rfl)) ?_ ⟨_, _, _, _, _, _, rdU_err (by omega), rfl, rfl⟩; (repeat (first | exact Ent.refl _ | (apply Ent.cons; (· repeat (first | exact Pick.here | (refine Pick.sl ?_; (· repeat (first | exact List.Mem.head _ | assumption | apply List.Mem.tail))) | apply Pick.there))) | (refine Ent.trans (Ent.drop _ _) ?_))))
                    | (refine SG.retE (Ret.r2 Try.func47 rfl (.agg rfl ag57 (by repeat (first | exact Pick.here | apply Pick.there)) rfl rfl) (.tmp rfl)) ?_ ⟨_, _, _, _, _, _, rdU_ten (lead_eq (by omega) (by omega) (fun j h hj => hall j h (by omega)) (.inl rfl)), rfl, rfl⟩; (repeat (first | exact Ent.refl _ | (apply Ent.cons; (· repeat (first | exact Pick.here | (refine Pick.sl ?_; (· repeat (first | exact List.Mem.head _ | assumption | apply List.Mem.tail))) | apply Pick.there))) | (refine Ent.trans (Ent.drop _ _) ?_))))
                    | (refine SG.retE (Ret.r2 Try.func47 rfl (.agg rfl ag57 (by repeat (first | exact Pick.here | apply Pick.there)) rfl rfl) (.tmp rfl)) ?_ ⟨_, _, _, _, _, _, rdU_short (lead_eq (by omega) hil hall (.inr (.inl (by omega)))) (by omega) (by omega), rfl, rfl⟩; (repeat (first | exact Ent.refl _ | (apply Ent.cons; (· repeat (first | exact Pick.here | (refine Pick.sl ?_; (· repeat (first | exact List.Mem.head _ | assumption | apply List.Mem.tail))) | apply Pick.there))) | (refine Ent.trans (Ent.drop _ _) ?_))))
                    | (refine SG.retE (Ret.r2 Try.func47 rfl (.agg rfl ag57 (by repeat (first | exact Pick.here | apply Pick.there)) rfl rfl) (.tmp rfl)) ?_ ⟨_, _, _, _, _, _, rdU_form (lead_eq (by omega) hil hall (.inr (.inr ⟨by omega, by omega⟩))) (by omega) (by omega) (by omega), rfl, rfl⟩; (repeat (first | exact Ent.refl _ | (apply Ent.cons; (· repeat (first | exact Pick.here | (refine Pick.sl ?_; (· repeat (first | exact List.Mem.head _ | assumption | apply List.Mem.tail))) | apply Pick.there))) | (refine Ent.trans (Ent.drop _ _) ?_))))
                    | (refine SG.retE (Ret.r2 Try.func47 rfl (.agg rfl ag57 (by repeat (first | exact Pick.here | apply Pick.there)) rfl rfl) (.tmp rfl)) ?_ ⟨_, _, _, _, _, _, rdU_ok (lead_eq (by omega) hil hall (.inr (.inr ⟨by omega, by omega⟩))) (by omega) (by omega) (by omega), rfl, rfl⟩; (repeat (first | exact Ent.refl _ | (apply Ent.cons; (· repeat (first | exact Pick.here | (refine Pick.sl ?_; (· repeat (first | exact List.Mem.head _ | assumption | apply List.Mem.tail))) | apply Pick.there))) | (refine Ent.trans (Ent.drop _ _) ?_))))
                  · skip
                    refine RL.val (Wanted.yes rfl rfl rfl rfl) (V.pick_true rfl rfl rfl) rfl ?_
                    refine RL.val (Wanted.free rfl) (V.pick_false rfl rfl rfl) rfl ?_
                    refine RL.nil ?_
                    refine SG.cond_false rfl ?_
                    refine SG.skip ?_
                    refine SG.seq ?_
                    refine SG.region ?_
                    refine RL.val (Wanted.free rfl) (V.assign rfl rfl) rfl ?_
                    refine RL.nil ?_
                    refine SG.seq ?_
                    refine SG.seq ?_
                    refine SG.region ?_
                    refine RL.val (Wanted.free rfl) (V.move rfl rfl) rfl ?_
                    refine RL.val (Wanted.free rfl) (V.assign rfl rfl) rfl ?_
                    refine RL.nil ?_
                    refine SG.block ?_
                    refine SG.let_ (d := 5) (u' := v64 (UInt64.ofNat (val ((l.take (i + 1)).drop (i + 1))))) rfl (by rw [List.drop_of_length_le (by rw [List.length_take]; omega)]; rfl) ?_
                    refine SG.let_ (d := 6) (u' := vI (((i + 1 : Nat) : Int) - 1)) rfl (by congr 1; omega) ?_
                    refine SG.weaken (SG.loop2 (fun m al M => ∃ j : Nat, j ≤ i + 1 ∧ j = m ∧ al = [(1, ptr b1 0), (2, ptr b2 0), (4, vI i), (5, v64 (UInt64.ofNat (val ((l.take (i + 1)).drop j)))), (6, vI ((j : Int) - 1))] ∧ M = Blk b1 57 [.slice a l.length c, vI 0] :: Blk b2 57 [.slice none 0 0, vI 0] :: L) (m0 := _) ⟨i + 1, by omega, rfl, rfl, rfl⟩ ?_) ?_ ?_
                    rotate_left
                    · repeat (first | exact EnvLe.nil _ | refine EnvLe.cons rfl ?_)
                    · repeat (first | exact Ent.refl _ | (apply Ent.cons; (· repeat (first | exact Pick.here | (refine Pick.sl ?_; (· repeat (first | exact List.Mem.head _ | assumption | apply List.Mem.tail))) | apply Pick.there))) | (refine Ent.trans (Ent.drop _ _) ?_))
                    rintro _ _ _ ⟨j, hj1, rfl, rfl, rfl⟩ ih1
                    refine SG.seq ?_
                    refine SG.seq ?_
                    refine SG.region ?_
                    refine RL.val (Wanted.free rfl) (V.move rfl rfl) rfl ?_
                    refine RL.cmp (Wanted.free rfl) (V.bin rfl rfl rfl B.geq) rfl (fun h148 => ?_) (fun h148 => ?_)
                    · skip
                      refine RL.nil ?_
                      refine SG.cond_true rfl ?_
                      refine SG.skip ?_
                      refine SG.seq ?_
                      refine SG.block ?_
                      refine SG.region ?_
                      obtain ⟨j', rfl⟩ : ∃ j', j = j' + 1 := ⟨j - 1, by omega⟩
                      refine RL.val (Wanted.free rfl) (V.move rfl rfl) rfl ?_
                      refine RL.val (Wanted.free rfl) (V.bin rfl rfl rfl (B.mul64 (x := 128))) rfl ?_
                      refine RL.val (Wanted.free rfl) (V.fieldAddr rfl rfl fo57_0) rfl ?_
                      refine RL.val (Wanted.free rfl) (V.load rfl on23 rfl (by repeat (first | exact Pick.here | apply Pick.there)) rfl) rfl ?_
                      refine RL.val (Wanted.free rfl) (V.move rfl rfl) rfl ?_
                      refine RL.val (Wanted.free rfl) (V.indexSl (j := j') rfl el23.slice rfl rfl (by repeat (first | exact List.Mem.head _ | assumption | apply List.Mem.tail)) (by first | rfl | omega) (by omega)) rfl ?_
                      refine RL.val (Wanted.free rfl) (V.loadSc rfl on5 rfl (by repeat (first | exact List.Mem.head _ | assumption | apply List.Mem.tail)) (List.getElem?_eq_getElem (by omega))) rfl ?_
                      refine RL.val (Wanted.free rfl) (V.bin rfl rfl rfl (B.rem8 (y := 128) (by decide))) rfl ?_
                      refine RL.val (Wanted.free rfl) (V.to64 rfl ⟨_, ui5⟩ ui31 rfl) rfl ?_
                      refine RL.val (Wanted.free rfl) (V.bin rfl rfl rfl (B.add64)) rfl ?_
                      have hw : (l.take (i + 1))[j']'(by rw [List.length_take]; omega) = l[j'] := List.getElem_take
                      have hst := dot_step (w := l.take (i + 1)) (j := j') (by rw [List.length_take]; omega)
                      rw [hw] at hst
                      rw [hst]
                      refine RL.val (Wanted.free rfl) (V.assign rfl rfl) rfl ?_
                      refine RL.nil ?_
                      refine SG.inBlock ?_
                      refine SG.region ?_
                      refine RL.val (Wanted.free rfl) (V.move rfl rfl) rfl ?_
                      refine RL.val (Wanted.free rfl) (V.bin rfl rfl rfl (B.subI (by omega) (by omega))) rfl ?_
                      rw [show ((j' + 1 : Nat) : Int) - 1 - 1 = (j' : Int) - 1 from by omega]
                      refine RL.val (Wanted.free rfl) (V.assign rfl rfl) rfl ?_
                      refine RL.nil ?_
                      refine SG.weaken (ih1 _ _ _ ?_ ⟨j', by omega, rfl, rfl, rfl⟩) ?_ ?_
                      · omega
                      · repeat (first | exact EnvLe.nil _ | refine EnvLe.cons rfl ?_)
                      · repeat (first | exact Ent.refl _ | (apply Ent.cons; (· repeat (first | exact Pick.here | (refine Pick.sl ?_; (· repeat (first | exact List.Mem.head _ | assumption | apply List.Mem.tail))) | apply Pick.there))) | (refine Ent.trans (Ent.drop _ _) ?_))
                    · skip
                      refine RL.nil ?_
                      refine SG.cond_false rfl ?_
                      refine SG.exit rfl ?_
                      refine SG.seq ?_
                      have hj0 : j = 0 := by omega
                      subst hj0
                      rw [List.drop_zero]
                      refine SG.region ?_
                      refine RL.val (Wanted.free rfl) (V.fieldAddr rfl rfl fo57_0) rfl ?_
                      refine RL.val (Wanted.free rfl) (V.load rfl on23 rfl (by repeat (first | exact Pick.here | apply Pick.there)) rfl) rfl ?_
                      refine RL.val (Wanted.free rfl) (V.move rfl rfl) rfl ?_
                      refine RL.val (Wanted.free rfl) (V.bin rfl rfl rfl (B.addI (by omega) (by omega))) rfl ?_
                      refine RL.eff (Wanted.free rfl) (E.slice (lo := i + 1) (hi := l.length) rfl el23.slice rfl (by repeat (first | exact List.Mem.head _ | assumption | apply List.Mem.tail)) ⟨_, _, rfl, (by first | rfl | omega)⟩ rfl (by omega) (by omega)) rfl ?_
                      intro _ _ hK167
                      try rw [List.drop_zero] at hK167
                      iterate 2 (try rw [Nat.sub_zero] at hK167)
                      rw [show (l.drop (i + 1)).take (l.length - (i + 1)) = l.drop (i + 1) from List.take_of_length_le (by simp)] at hK167
                      obtain ⟨a167, rfl, rfl⟩ := hK167
                      refine RL.val (Wanted.free rfl) (V.buildS [(0, _)] rfl bs57 (by exact ⟨rfl, ⟨_, rfl, rfl⟩, trivial⟩) rfl) rfl ?_
                      refine RL.val (Wanted.free rfl) (V.move rfl rfl) rfl ?_
                      refine RL.eff (Wanted.free rfl) (E.storeAgg rfl rfl rfl rfl sz57 (by repeat (first | exact Pick.here | apply Pick.there)) (by first | (simp [Value.oneCell']; done) | (simp [setAt, Value.oneCell']; done)) (by first | (simp; done) | (simp [setAt]; done))) rfl ?_
                      rintro _ _ rfl
                      refine RL.val (Wanted.free rfl) (V.assign rfl rfl) rfl ?_
                      refine RL.nil ?_
                      first
                      | (exfalso; omega)
                      | (refine SG.retE (Ret.r2 Try.func47 rfl (.agg rfl ag57 (by repeat (first | exact Pick.here | apply Pick.there)) rfl rfl) (.tmp rfl)) ?_ ⟨_, _, _, _, _, _, rdU_err (by omega), rfl, rfl⟩; (repeat (first | exact Ent.refl _ | (apply Ent.cons; (· repeat (first | exact Pick.here | (refine Pick.sl ?_; (· repeat (first | exact List.Mem.head _ | assumption | apply List.Mem.tail))) | apply Pick.there))) | (refine Ent.trans (Ent.drop _ _) ?_))))
                      | (refine SG.retE (Ret.r2 Try.func47 rfl (.agg rfl ag57 (by repeat (first | exact Pick.here | apply Pick.there)) rfl rfl) (.tmp rfl)) ?_ ⟨_, _, _, _, _, _, rdU_ten (lead_eq (by omega) (by omega) (fun j h hj => hall j h (by omega)) (.inl rfl)), rfl, rfl⟩; (repeat (first | exact Ent.refl _ | (apply Ent.cons; (· repeat (first | exact Pick.here | (refine Pick.sl ?_; (· repeat (first | exact List.Mem.head _ | assumption | apply List.Mem.tail))) | apply Pick.there))) | (refine Ent.trans (Ent.drop _ _) ?_))))
                      | (refine SG.retE (Ret.r2 Try.func47 rfl (.agg rfl ag57 (by repeat (first | exact Pick.here | apply Pick.there)) rfl rfl) (.tmp rfl)) ?_ ⟨_, _, _, _, _, _, rdU_short (lead_eq (by omega) hil hall (.inr (.inl (by omega)))) (by omega) (by omega), rfl, rfl⟩; (repeat (first | exact Ent.refl _ | (apply Ent.cons; (· repeat (first | exact Pick.here | (refine Pick.sl ?_; (· repeat (first | exact List.Mem.head _ | assumption | apply List.Mem.tail))) | apply Pick.there))) | (refine Ent.trans (Ent.drop _ _) ?_))))
                      | (refine SG.retE (Ret.r2 Try.func47 rfl (.agg rfl ag57 (by repeat (first | exact Pick.here | apply Pick.there)) rfl rfl) (.tmp rfl)) ?_ ⟨_, _, _, _, _, _, rdU_form (lead_eq (by omega) hil hall (.inr (.inr ⟨by omega, by omega⟩))) (by omega) (by omega) (by omega), rfl, rfl⟩; (repeat (first | exact Ent.refl _ | (apply Ent.cons; (· repeat (first | exact Pick.here | (refine Pick.sl ?_; (· repeat (first | exact List.Mem.head _ | assumption | apply List.Mem.tail))) | apply Pick.there))) | (refine Ent.trans (Ent.drop _ _) ?_))))
                      | (refine SG.retE (Ret.r2 Try.func47 rfl (.agg rfl ag57 (by repeat (first | exact Pick.here | apply Pick.there)) rfl rfl) (.tmp rfl)) ?_ ⟨_, _, _, _, _, _, rdU_ok (lead_eq (by omega) hil hall (.inr (.inr ⟨by omega, by omega⟩))) (by omega) (by omega) (by omega), rfl, rfl⟩; (repeat (first | exact Ent.refl _ | (apply Ent.cons; (· repeat (first | exact Pick.here | (refine Pick.sl ?_; (· repeat (first | exact List.Mem.head _ | assumption | apply List.Mem.tail))) | apply Pick.there))) | (refine Ent.trans (Ent.drop _ _) ?_))))
                · skip
                  refine RL.val (Wanted.yes rfl rfl rfl rfl) (V.move rfl rfl) rfl ?_
                  refine RL.skip (Wanted.no rfl rfl rfl rfl rfl) rfl ?_
                  refine RL.skip (Wanted.no rfl rfl rfl rfl rfl) rfl ?_
                  refine RL.skip (Wanted.no rfl rfl rfl rfl rfl) rfl ?_
                  refine RL.skip (Wanted.no rfl rfl rfl rfl rfl) rfl ?_
                  refine RL.skip (Wanted.no rfl rfl rfl rfl rfl) rfl ?_
                  refine RL.skip (Wanted.no rfl rfl rfl rfl rfl) rfl ?_
                  refine RL.val (Wanted.yes rfl rfl rfl rfl) (V.pick_false rfl rfl rfl) rfl ?_
                  refine RL.val (Wanted.free rfl) (V.pick_false rfl rfl rfl) rfl ?_
                  refine RL.nil ?_
                  refine SG.cond_false rfl ?_
                  refine SG.skip ?_
                  refine SG.seq ?_
                  refine SG.region ?_
                  refine RL.val (Wanted.free rfl) (V.assign rfl rfl) rfl ?_
                  refine RL.nil ?_
                  refine SG.seq ?_
                  refine SG.seq ?_
                  refine SG.region ?_
                  refine RL.val (Wanted.free rfl) (V.move rfl rfl) rfl ?_
                  refine RL.val (Wanted.free rfl) (V.assign rfl rfl) rfl ?_
                  refine RL.nil ?_
                  refine SG.block ?_
                  refine SG.let_ (d := 5) (u' := v64 (UInt64.ofNat (val ((l.take (i + 1)).drop (i + 1))))) rfl (by rw [List.drop_of_length_le (by rw [List.length_take]; omega)]; rfl) ?_
                  refine SG.let_ (d := 6) (u' := vI (((i + 1 : Nat) : Int) - 1)) rfl (by congr 1; omega) ?_
                  refine SG.weaken (SG.loop2 (fun m al M => ∃ j : Nat, j ≤ i + 1 ∧ j = m ∧ al = [(1, ptr b1 0), (2, ptr b2 0), (4, vI i), (5, v64 (UInt64.ofNat (val ((l.take (i + 1)).drop j)))), (6, vI ((j : Int) - 1))] ∧ M = Blk b1 57 [.slice a l.length c, vI 0] :: Blk b2 57 [.slice none 0 0, vI 0] :: L) (m0 := _) ⟨i + 1, by omega, rfl, rfl, rfl⟩ ?_) ?_ ?_
                  rotate_left
                  · repeat (first | exact EnvLe.nil _ | refine EnvLe.cons rfl ?_)
                  · repeat (first | exact Ent.refl _ | (apply Ent.cons; (· repeat (first | exact Pick.here | (refine Pick.sl ?_; (· repeat (first | exact List.Mem.head _ | assumption | apply List.Mem.tail))) | apply Pick.there))) | (refine Ent.trans (Ent.drop _ _) ?_))
                  rintro _ _ _ ⟨j, hj1, rfl, rfl, rfl⟩ ih1
                  refine SG.seq ?_
                  refine SG.seq ?_
                  refine SG.region ?_
                  refine RL.val (Wanted.free rfl) (V.move rfl rfl) rfl ?_
                  refine RL.cmp (Wanted.free rfl) (V.bin rfl rfl rfl B.geq) rfl (fun h177 => ?_) (fun h177 => ?_)
                  · skip
                    refine RL.nil ?_
                    refine SG.cond_true rfl ?_
                    refine SG.skip ?_
                    refine SG.seq ?_
                    refine SG.block ?_
                    refine SG.region ?_
                    obtain ⟨j', rfl⟩ : ∃ j', j = j' + 1 := ⟨j - 1, by omega⟩
                    refine RL.val (Wanted.free rfl) (V.move rfl rfl) rfl ?_
                    refine RL.val (Wanted.free rfl) (V.bin rfl rfl rfl (B.mul64 (x := 128))) rfl ?_
                    refine RL.val (Wanted.free rfl) (V.fieldAddr rfl rfl fo57_0) rfl ?_
                    refine RL.val (Wanted.free rfl) (V.load rfl on23 rfl (by repeat (first | exact Pick.here | apply Pick.there)) rfl) rfl ?_
                    refine RL.val (Wanted.free rfl) (V.move rfl rfl) rfl ?_
                    refine RL.val (Wanted.free rfl) (V.indexSl (j := j') rfl el23.slice rfl rfl (by repeat (first | exact List.Mem.head _ | assumption | apply List.Mem.tail)) (by first | rfl | omega) (by omega)) rfl ?_
                    refine RL.val (Wanted.free rfl) (V.loadSc rfl on5 rfl (by repeat (first | exact List.Mem.head _ | assumption | apply List.Mem.tail)) (List.getElem?_eq_getElem (by omega))) rfl ?_
                    refine RL.val (Wanted.free rfl) (V.bin rfl rfl rfl (B.rem8 (y := 128) (by decide))) rfl ?_
                    refine RL.val (Wanted.free rfl) (V.to64 rfl ⟨_, ui5⟩ ui31 rfl) rfl ?_
                    refine RL.val (Wanted.free rfl) (V.bin rfl rfl rfl (B.add64)) rfl ?_
                    have hw : (l.take (i + 1))[j']'(by rw [List.length_take]; omega) = l[j'] := List.getElem_take
                    have hst := dot_step (w := l.take (i + 1)) (j := j') (by rw [List.length_take]; omega)
                    rw [hw] at hst
                    rw [hst]
                    refine RL.val (Wanted.free rfl) (V.assign rfl rfl) rfl ?_
                    refine RL.nil ?_
                    refine SG.inBlock ?_
                    refine SG.region ?_
                    refine RL.val (Wanted.free rfl) (V.move rfl rfl) rfl ?_
                    refine RL.val (Wanted.free rfl) (V.bin rfl rfl rfl (B.subI (by omega) (by omega))) rfl ?_
                    rw [show ((j' + 1 : Nat) : Int) - 1 - 1 = (j' : Int) - 1 from by omega]
                    refine RL.val (Wanted.free rfl) (V.assign rfl rfl) rfl ?_
                    refine RL.nil ?_
                    refine SG.weaken (ih1 _ _ _ ?_ ⟨j', by omega, rfl, rfl, rfl⟩) ?_ ?_
                    · omega
                    · repeat (first | exact EnvLe.nil _ | refine EnvLe.cons rfl ?_)
                    · repeat (first | exact Ent.refl _ | (apply Ent.cons; (· repeat (first | exact Pick.here | (refine Pick.sl ?_; (· repeat (first | exact List.Mem.head _ | assumption | apply List.Mem.tail))) | apply Pick.there))) | (refine Ent.trans (Ent.drop _ _) ?_))
                  · skip
                    refine RL.nil ?_
                    refine SG.cond_false rfl ?_
                    refine SG.exit rfl ?_
                    refine SG.seq ?_
                    have hj0 : j = 0 := by omega
                    subst hj0
                    rw [List.drop_zero]
                    refine SG.region ?_
                    refine RL.val (Wanted.free rfl) (V.fieldAddr rfl rfl fo57_0) rfl ?_
                    refine RL.val (Wanted.free rfl) (V.load rfl on23 rfl (by repeat (first | exact Pick.here | apply Pick.there)) rfl) rfl ?_
                    refine RL.val (Wanted.free rfl) (V.move rfl rfl) rfl ?_
                    refine RL.val (Wanted.free rfl) (V.bin rfl rfl rfl (B.addI (by omega) (by omega))) rfl ?_
                    refine RL.eff (Wanted.free rfl) (E.slice (lo := i + 1) (hi := l.length) rfl el23.slice rfl (by repeat (first | exact List.Mem.head _ | assumption | apply List.Mem.tail)) ⟨_, _, rfl, (by first | rfl | omega)⟩ rfl (by omega) (by omega)) rfl ?_
                    intro _ _ hK196
                    try rw [List.drop_zero] at hK196
                    iterate 2 (try rw [Nat.sub_zero] at hK196)
                    rw [show (l.drop (i + 1)).take (l.length - (i + 1)) = l.drop (i + 1) from List.take_of_length_le (by simp)] at hK196
                    obtain ⟨a196, rfl, rfl⟩ := hK196
                    refine RL.val (Wanted.free rfl) (V.buildS [(0, _)] rfl bs57 (by exact ⟨rfl, ⟨_, rfl, rfl⟩, trivial⟩) rfl) rfl ?_
                    refine RL.val (Wanted.free rfl) (V.move rfl rfl) rfl ?_
                    refine RL.eff (Wanted.free rfl) (E.storeAgg rfl rfl rfl rfl sz57 (by repeat (first | exact Pick.here | apply Pick.there)) (by first | (simp [Value.oneCell']; done) | (simp [setAt, Value.oneCell']; done)) (by first | (simp; done) | (simp [setAt]; done))) rfl ?_
                    rintro _ _ rfl
                    refine RL.val (Wanted.free rfl) (V.assign rfl rfl) rfl ?_
                    refine RL.nil ?_
                    first
                    | (exfalso; omega)
                    | (refine SG.retE (Ret.r2 Try.func47 rfl (.agg rfl ag57 (by repeat (first | exact Pick.here | apply Pick.there)) rfl rfl) (.tmp rfl)) ?_ ⟨_, _, _, _, _, _, rdU_err (by omega), rfl, rfl⟩; (repeat (first | exact Ent.refl _ | (apply Ent.cons; (· repeat (first | exact Pick.here | (refine Pick.sl ?_; (· repeat (first | exact List.Mem.head _ | assumption | apply List.Mem.tail))) | apply Pick.there))) | (refine Ent.trans (Ent.drop _ _) ?_))))
                    | (refine SG.retE (Ret.r2 Try.func47 rfl (.agg rfl ag57 (by repeat (first | exact Pick.here | apply Pick.there)) rfl rfl) (.tmp rfl)) ?_ ⟨_, _, _, _, _, _, rdU_ten (lead_eq (by omega) (by omega) (fun j h hj => hall j h (by omega)) (.inl rfl)), rfl, rfl⟩; (repeat (first | exact Ent.refl _ | (apply Ent.cons; (· repeat (first | exact Pick.here | (refine Pick.sl ?_; (· repeat (first | exact List.Mem.head _ | assumption | apply List.Mem.tail))) | apply Pick.there))) | (refine Ent.trans (Ent.drop _ _) ?_))))
                    | (refine SG.retE (Ret.r2 Try.func47 rfl (.agg rfl ag57 (by repeat (first | exact Pick.here | apply Pick.there)) rfl rfl) (.tmp rfl)) ?_ ⟨_, _, _, _, _, _, rdU_short (lead_eq (by omega) hil hall (.inr (.inl (by omega)))) (by omega) (by omega), rfl, rfl⟩; (repeat (first | exact Ent.refl _ | (apply Ent.cons; (· repeat (first | exact Pick.here | (refine Pick.sl ?_; (· repeat (first | exact List.Mem.head _ | assumption | apply List.Mem.tail))) | apply Pick.there))) | (refine Ent.trans (Ent.drop _ _) ?_))))
                    | (refine SG.retE (Ret.r2 Try.func47 rfl (.agg rfl ag57 (by repeat (first | exact Pick.here | apply Pick.there)) rfl rfl) (.tmp rfl)) ?_ ⟨_, _, _, _, _, _, rdU_form (lead_eq (by omega) hil hall (.inr (.inr ⟨by omega, by omega⟩))) (by omega) (by omega) (by omega), rfl, rfl⟩; (repeat (first | exact Ent.refl _ | (apply Ent.cons; (· repeat (first | exact Pick.here | (refine Pick.sl ?_; (· repeat (first | exact List.Mem.head _ | assumption | apply List.Mem.tail))) | apply Pick.there))) | (refine Ent.trans (Ent.drop _ _) ?_))))
                    | (refine SG.retE (Ret.r2 Try.func47 rfl (.agg rfl ag57 (by repeat (first | exact Pick.here | apply Pick.there)) rfl rfl) (.tmp rfl)) ?_ ⟨_, _, _, _, _, _, rdU_ok (lead_eq (by omega) hil hall (.inr (.inr ⟨by omega, by omega⟩))) (by omega) (by omega) (by omega), rfl, rfl⟩; (repeat (first | exact Ent.refl _ | (apply Ent.cons; (· repeat (first | exact Pick.here | (refine Pick.sl ?_; (· repeat (first | exact List.Mem.head _ | assumption | apply List.Mem.tail))) | apply Pick.there))) | (refine Ent.trans (Ent.drop _ _) ?_))))
      · skip
        refine RL.val (Wanted.free rfl) (V.pick_true rfl rfl rfl) rfl ?_
        refine RL.val (Wanted.free rfl) (V.move rfl rfl) rfl ?_
        refine RL.skip (Wanted.no rfl rfl rfl rfl rfl) rfl ?_
        refine RL.skip (Wanted.no rfl rfl rfl rfl rfl) rfl ?_
        refine RL.skip (Wanted.no rfl rfl rfl rfl rfl) rfl ?_
        refine RL.skip (Wanted.no rfl rfl rfl rfl rfl) rfl ?_
        refine RL.skip (Wanted.no rfl rfl rfl rfl rfl) rfl ?_
        refine RL.skip (Wanted.no rfl rfl rfl rfl rfl) rfl ?_
        refine RL.val (Wanted.free rfl) (V.pick_false rfl rfl rfl) rfl ?_
        refine RL.nil ?_
        refine SG.cond_false rfl ?_
        refine SG.exit rfl ?_
        refine SG.seq ?_
        refine SG.seq ?_
        refine SG.region ?_
        refine RL.val (Wanted.free rfl) (V.move rfl rfl) rfl ?_
        refine RL.cmp (Wanted.free rfl) (V.bin rfl rfl rfl B.eql) rfl (fun h203 => ?_) (fun h203 => ?_)
        · skip
          refine RL.nil ?_
          refine SG.cond_true rfl ?_
          refine SG.seq ?_
          refine SG.region ?_
          refine RL.val (Wanted.free rfl) (V.loadAgg (us := _) rfl ag57 rfl (by repeat (first | exact Pick.here | apply Pick.there)) rfl rfl) rfl ?_
          refine RL.eff (Wanted.free rfl) (E.call rfl go54 rfl (xFail_ok)) rfl ?_
          rintro _ _ ⟨rfl, rfl⟩
          rw [if_pos rfl]
          refine RL.eff (Wanted.free rfl) (E.storeAgg rfl rfl rfl rfl sz57 (by repeat (first | exact Pick.here | apply Pick.there)) (by first | (simp [Value.oneCell']; done) | (simp [setAt, Value.oneCell']; done)) (by first | (simp; done) | (simp [setAt]; done))) rfl ?_
          rintro _ _ rfl
          refine RL.val (Wanted.free rfl) (V.assign rfl rfl) rfl ?_
          refine RL.nil ?_
          first
          | (exfalso; omega)
          | (refine SG.retE (Ret.r2 Try.func47 rfl (.agg rfl ag57 (by repeat (first | exact Pick.here | apply Pick.there)) rfl rfl) (.tmp rfl)) ?_ ⟨_, _, _, _, _, _, rdU_err (by omega), rfl, rfl⟩; (repeat (first | exact Ent.refl _ | (apply Ent.cons; (· repeat (first | exact Pick.here | (refine Pick.sl ?_; (· repeat (first | exact List.Mem.head _ | assumption | apply List.Mem.tail))) | apply Pick.there))) | (refine Ent.trans (Ent.drop _ _) ?_))))
          | (refine SG.retE (Ret.r2 Try.func47 rfl (.agg rfl ag57 (by repeat (first | exact Pick.here | apply Pick.there)) rfl rfl) (.tmp rfl)) ?_ ⟨_, _, _, _, _, _, rdU_ten (lead_eq (by omega) (by omega) (fun j h hj => hall j h (by omega)) (.inl rfl)), rfl, rfl⟩; (repeat (first | exact Ent.refl _ | (apply Ent.cons; (· repeat (first | exact Pick.here | (refine Pick.sl ?_; (· repeat (first | exact List.Mem.head _ | assumption | apply List.Mem.tail))) | apply Pick.there))) | (refine Ent.trans (Ent.drop _ _) ?_))))
          | (refine SG.retE (Ret.r2 Try.func47 rfl (.agg rfl ag57 (by repeat (first | exact Pick.here | apply Pick.there)) rfl rfl) (.tmp rfl)) ?_ ⟨_, _, _, _, _, _, rdU_short (lead_eq (by omega) hil hall (.inr (.inl (by omega)))) (by omega) (by omega), rfl, rfl⟩; (repeat (first | exact Ent.refl _ | (apply Ent.cons; (· repeat (first | exact Pick.here | (refine Pick.sl ?_; (· repeat (first | exact List.Mem.head _ | assumption | apply List.Mem.tail))) | apply Pick.there))) | (refine Ent.trans (Ent.drop _ _) ?_))))
          | (refine SG.retE (Ret.r2 Try.func47 rfl (.agg rfl ag57 (by repeat (first | exact Pick.here | apply Pick.there)) rfl rfl) (.tmp rfl)) ?_ ⟨_, _, _, _, _, _, rdU_form (lead_eq (by omega) hil hall (.inr (.inr ⟨by omega, by omega⟩))) (by omega) (by omega) (by omega), rfl, rfl⟩; (repeat (first | exact Ent.refl _ | (apply Ent.cons; (· repeat (first | exact Pick.here | (refine Pick.sl ?_; (· repeat (first | exact List.Mem.head _ | assumption | apply List.Mem.tail))) | apply Pick.there))) | (refine Ent.trans (Ent.drop _ _) ?_))))
          | (refine SG.retE (Ret.r2 Try.func47 rfl (.agg rfl ag57 (by repeat (first | exact Pick.here | apply Pick.there)) rfl rfl) (.tmp rfl)) ?_ ⟨_, _, _, _, _, _, rdU_ok (lead_eq (by omega) hil hall (.inr (.inr ⟨by omega, by omega⟩))) (by omega) (by omega) (by omega), rfl, rfl⟩; (repeat (first | exact Ent.refl _ | (apply Ent.cons; (· repeat (first | exact Pick.here | (refine Pick.sl ?_; (· repeat (first | exact List.Mem.head _ | assumption | apply List.Mem.tail))) | apply Pick.there))) | (refine Ent.trans (Ent.drop _ _) ?_))))
        · skip
          refine RL.nil ?_
          refine SG.cond_false rfl ?_
          refine SG.skip ?_
          refine SG.seq ?_
          refine SG.seq ?_
          refine SG.region ?_
          refine RL.val (Wanted.free rfl) (V.move rfl rfl) rfl ?_
          refine RL.val (Wanted.free rfl) (V.fieldAddr rfl rfl fo57_0) rfl ?_
          refine RL.val (Wanted.free rfl) (V.load rfl on23 rfl (by repeat (first | exact Pick.here | apply Pick.there)) rfl) rfl ?_
          refine RL.val (Wanted.free rfl) (V.len rfl rfl el23.under rfl) rfl ?_
          refine RL.cmp (Wanted.free rfl) (V.bin rfl rfl rfl B.eql) rfl (fun h212 => ?_) (fun h212 => ?_)
          · skip
            refine RL.nil ?_
            refine SG.cond_true rfl ?_
            refine SG.seq ?_
            refine SG.region ?_
            refine RL.val (Wanted.free rfl) (V.loadAgg (us := _) rfl ag57 rfl (by repeat (first | exact Pick.here | apply Pick.there)) rfl rfl) rfl ?_
            refine RL.eff (Wanted.free rfl) (E.call rfl go54 rfl (xFail_ok)) rfl ?_
            rintro _ _ ⟨rfl, rfl⟩
            rw [if_pos rfl]
            refine RL.eff (Wanted.free rfl) (E.storeAgg rfl rfl rfl rfl sz57 (by repeat (first | exact Pick.here | apply Pick.there)) (by first | (simp [Value.oneCell']; done) | (simp [setAt, Value.oneCell']; done)) (by first | (simp; done) | (simp [setAt]; done))) rfl ?_
            rintro _ _ rfl
            refine RL.val (Wanted.free rfl) (V.assign rfl rfl) rfl ?_
            refine RL.nil ?_
            first
            | (exfalso; omega)
            | (refine SG.retE (Ret.r2 Try.func47 rfl (.agg rfl ag57 (by repeat (first | exact Pick.here | apply Pick.there)) rfl rfl) (.tmp rfl)) ?_ ⟨_, _, _, _, _, _, rdU_err (by omega), rfl, rfl⟩; (repeat (first | exact Ent.refl _ | (apply Ent.cons; (· repeat (first | exact Pick.here | (refine Pick.sl ?_; (· repeat (first | exact List.Mem.head _ | assumption | apply List.Mem.tail))) | apply Pick.there))) | (refine Ent.trans (Ent.drop _ _) ?_))))
            | (refine SG.retE (Ret.r2 Try.func47 rfl (.agg rfl ag57 (by repeat (first | exact Pick.here | apply Pick.there)) rfl rfl) (.tmp rfl)) ?_ ⟨_, _, _, _, _, _, rdU_ten (lead_eq (by omega) (by omega) (fun j h hj => hall j h (by omega)) (.inl rfl)), rfl, rfl⟩; (repeat (first | exact Ent.refl _ | (apply Ent.cons; (· repeat (first | exact Pick.here | (refine Pick.sl ?_; (· repeat (first | exact List.Mem.head _ | assumption | apply List.Mem.tail))) | apply Pick.there))) | (refine Ent.trans (Ent.drop _ _) ?_))))
            | (refine SG.retE (Ret.r2 Try.func47 rfl (.agg rfl ag57 (by repeat (first | exact Pick.here | apply Pick.there)) rfl rfl) (.tmp rfl)) ?_ ⟨_, _, _, _, _, _, rdU_short (lead_eq (by omega) hil hall (.inr (.inl (by omega)))) (by omega) (by omega), rfl, rfl⟩; (repeat (first | exact Ent.refl _ | (apply Ent.cons; (· repeat (first | exact Pick.here | (refine Pick.sl ?_; (· repeat (first | exact List.Mem.head _ | assumption | apply List.Mem.tail))) | apply Pick.there))) | (refine Ent.trans (Ent.drop _ _) ?_))))
            | (refine SG.retE (Ret.r2 Try.func47 rfl (.agg rfl ag57 (by repeat (first | exact Pick.here | apply Pick.there)) rfl rfl) (.tmp rfl)) ?_ ⟨_, _, _, _, _, _, rdU_form (lead_eq (by omega) hil hall (.inr (.inr ⟨by omega, by omega⟩))) (by omega) (by omega) (by omega), rfl, rfl⟩; (repeat (first | exact Ent.refl _ | (apply Ent.cons; (· repeat (first | exact Pick.here | (refine Pick.sl ?_; (· repeat (first | exact List.Mem.head _ | assumption | apply List.Mem.tail))) | apply Pick.there))) | (refine Ent.trans (Ent.drop _ _) ?_))))
            | (refine SG.retE (Ret.r2 Try.func47 rfl (.agg rfl ag57 (by repeat (first | exact Pick.here | apply Pick.there)) rfl rfl) (.tmp rfl)) ?_ ⟨_, _, _, _, _, _, rdU_ok (lead_eq (by omega) hil hall (.inr (.inr ⟨by omega, by omega⟩))) (by omega) (by omega) (by omega), rfl, rfl⟩; (repeat (first | exact Ent.refl _ | (apply Ent.cons; (· repeat (first | exact Pick.here | (refine Pick.sl ?_; (· repeat (first | exact List.Mem.head _ | assumption | apply List.Mem.tail))) | apply Pick.there))) | (refine Ent.trans (Ent.drop _ _) ?_))))
          · skip
            refine RL.nil ?_
            refine SG.cond_false rfl ?_
            refine SG.skip ?_
            refine SG.seq ?_
            refine SG.seq ?_
            refine SG.region ?_
            refine RL.val (Wanted.free rfl) (V.move rfl rfl) rfl ?_
            refine RL.cmp (Wanted.free rfl) (V.bin rfl rfl rfl B.eql) rfl (fun h218 => ?_) (fun h218 => ?_)
            · skip
              refine RL.val (Wanted.free rfl) (V.move rfl rfl) rfl ?_
              refine RL.val (Wanted.yes rfl rfl rfl rfl) (V.fieldAddr rfl rfl fo57_0) rfl ?_
              refine RL.val (Wanted.yes rfl rfl rfl rfl) (V.load rfl on23 rfl (by repeat (first | exact Pick.here | apply Pick.there)) rfl) rfl ?_
              refine RL.val (Wanted.yes rfl rfl rfl rfl) (V.move rfl rfl) rfl ?_
              refine RL.val (Wanted.yes rfl rfl rfl rfl) (V.indexSl rfl el23.slice rfl rfl (by repeat (first | exact List.Mem.head _ | assumption | apply List.Mem.tail)) (by first | rfl | omega) (by omega)) rfl ?_
              refine RL.val (Wanted.yes rfl rfl rfl rfl) (V.loadSc rfl on5 rfl (by repeat (first | exact List.Mem.head _ | assumption | apply List.Mem.tail)) (List.getElem?_eq_getElem (by omega))) rfl ?_
              refine RL.cmp (Wanted.yes rfl rfl rfl rfl) (V.bin rfl rfl rfl B.gtr) rfl (fun h225 => ?_) (fun h225 => ?_)
              · skip
                refine RL.val (Wanted.free rfl) (V.pick_true rfl rfl rfl) rfl ?_
                refine RL.val (Wanted.free rfl) (V.move rfl rfl) rfl ?_
                refine RL.skip (Wanted.no rfl rfl rfl rfl rfl) rfl ?_
                refine RL.skip (Wanted.no rfl rfl rfl rfl rfl) rfl ?_
                refine RL.skip (Wanted.no rfl rfl rfl rfl rfl) rfl ?_
                refine RL.skip (Wanted.un rfl rfl rfl) rfl ?_
                refine RL.skip (Wanted.un rfl rfl rfl) rfl ?_
                refine RL.skip (Wanted.un rfl rfl rfl) rfl ?_
                refine RL.skip (Wanted.un rfl rfl rfl) rfl ?_
                refine RL.skip (Wanted.un rfl rfl rfl) rfl ?_
                refine RL.skip (Wanted.un rfl rfl rfl) rfl ?_
                refine RL.skip (Wanted.no rfl rfl rfl rfl rfl) rfl ?_
                refine RL.val (Wanted.free rfl) (V.pick_true rfl rfl rfl) rfl ?_
                refine RL.nil ?_
                refine SG.cond_true rfl ?_
                refine SG.seq ?_
                refine SG.region ?_
                refine RL.val (Wanted.free rfl) (V.loadAgg (us := _) rfl ag57 rfl (by repeat (first | exact Pick.here | apply Pick.there)) rfl rfl) rfl ?_
                refine RL.eff (Wanted.free rfl) (E.call rfl go54 rfl (xFail_ok)) rfl ?_
                rintro _ _ ⟨rfl, rfl⟩
                rw [if_pos rfl]
                refine RL.eff (Wanted.free rfl) (E.storeAgg rfl rfl rfl rfl sz57 (by repeat (first | exact Pick.here | apply Pick.there)) (by first | (simp [Value.oneCell']; done) | (simp [setAt, Value.oneCell']; done)) (by first | (simp; done) | (simp [setAt]; done))) rfl ?_
                rintro _ _ rfl
                refine RL.val (Wanted.free rfl) (V.assign rfl rfl) rfl ?_
                refine RL.nil ?_
                first
                | (exfalso; omega)
                | (refine SG.retE (Ret.r2 Try.func47 rfl (.agg rfl ag57 (by repeat (first | exact Pick.here | apply Pick.there)) rfl rfl) (.tmp rfl)) ?_ ⟨_, _, _, _, _, _, rdU_err (by omega), rfl, rfl⟩; (repeat (first | exact Ent.refl _ | (apply Ent.cons; (· repeat (first | exact Pick.here | (refine Pick.sl ?_; (· repeat (first | exact List.Mem.head _ | assumption | apply List.Mem.tail))) | apply Pick.there))) | (refine Ent.trans (Ent.drop _ _) ?_))))
                | (refine SG.retE (Ret.r2 Try.func47 rfl (.agg rfl ag57 (by repeat (first | exact Pick.here | apply Pick.there)) rfl rfl) (.tmp rfl)) ?_ ⟨_, _, _, _, _, _, rdU_ten (lead_eq (by omega) (by omega) (fun j h hj => hall j h (by omega)) (.inl rfl)), rfl, rfl⟩; (repeat (first | exact Ent.refl _ | (apply Ent.cons; (· repeat (first | exact Pick.here | (refine Pick.sl ?_; (· repeat (first | exact List.Mem.head _ | assumption | apply List.Mem.tail))) | apply Pick.there))) | (refine Ent.trans (Ent.drop _ _) ?_))))
                | (refine SG.retE (Ret.r2 Try.func47 rfl (.agg rfl ag57 (by repeat (first | exact Pick.here | apply Pick.there)) rfl rfl) (.tmp rfl)) ?_ ⟨_, _, _, _, _, _, rdU_short (lead_eq (by omega) hil hall (.inr (.inl (by omega)))) (by omega) (by omega), rfl, rfl⟩; (repeat (first | exact Ent.refl _ | (apply Ent.cons; (· repeat (first | exact Pick.here | (refine Pick.sl ?_; (· repeat (first | exact List.Mem.head _ | assumption | apply List.Mem.tail))) | apply Pick.there))) | (refine Ent.trans (Ent.drop _ _) ?_))))
                | (refine SG.retE (Ret.r2 Try.func47 rfl (.agg rfl ag57 (by repeat (first | exact Pick.here | apply Pick.there)) rfl rfl) (.tmp rfl)) ?_ ⟨_, _, _, _, _, _, rdU_form (lead_eq (by omega) hil hall (.inr (.inr ⟨by omega, by omega⟩))) (by omega) (by omega) (by omega), rfl, rfl⟩; (repeat (first | exact Ent.refl _ | (apply Ent.cons; (· repeat (first | exact Pick.here | (refine Pick.sl ?_; (· repeat (first | exact List.Mem.head _ | assumption | apply List.Mem.tail))) | apply Pick.there))) | (refine Ent.trans (Ent.drop _ _) ?_))))
                | (refine SG.retE (Ret.r2 Try.func47 rfl (.agg rfl ag57 (by repeat (first | exact Pick.here | apply Pick.there)) rfl rfl) (.tmp rfl)) ?_ ⟨_, _, _, _, _, _, rdU_ok (lead_eq (by omega) hil hall (.inr (.inr ⟨by omega, by omega⟩))) (by omega) (by omega) (by omega), rfl, rfl⟩; (repeat (first | exact Ent.refl _ | (apply Ent.cons; (· repeat (first | exact Pick.here | (refine Pick.sl ?_; (· repeat (first | exact List.Mem.head _ | assumption | apply List.Mem.tail))) | apply Pick.there))) | (refine Ent.trans (Ent.drop _ _) ?_))))
              · skip
                refine RL.val (Wanted.free rfl) (V.pick_true rfl rfl rfl) rfl ?_
                refine RL.val (Wanted.free rfl) (V.move rfl rfl) rfl ?_
                refine RL.val (Wanted.yes rfl rfl rfl rfl) (V.move rfl rfl) rfl ?_
                refine RL.cmp (Wanted.yes rfl rfl rfl rfl) (V.bin rfl rfl rfl B.gtr) rfl (fun h233 => ?_) (fun h233 => ?_)
                · skip
                  refine RL.val (Wanted.yes rfl rfl rfl rfl) (V.move rfl rfl) rfl ?_
                  refine RL.val (Wanted.yes rfl rfl rfl rfl) (V.fieldAddr rfl rfl fo57_0) rfl ?_
                  refine RL.val (Wanted.yes rfl rfl rfl rfl) (V.load rfl on23 rfl (by repeat (first | exact Pick.here | apply Pick.there)) rfl) rfl ?_
                  refine RL.val (Wanted.yes rfl rfl rfl rfl) (V.move rfl rfl) rfl ?_
                  refine RL.val (Wanted.yes rfl rfl rfl rfl) (V.indexSl rfl el23.slice rfl rfl (by repeat (first | exact List.Mem.head _ | assumption | apply List.Mem.tail)) (by first | rfl | omega) (by omega)) rfl ?_
                  refine RL.val (Wanted.yes rfl rfl rfl rfl) (V.loadSc rfl on5 rfl (by repeat (first | exact List.Mem.head _ | assumption | apply List.Mem.tail)) (List.getElem?_eq_getElem (by omega))) rfl ?_
                  refine RL.cmp (Wanted.yes rfl rfl rfl rfl) (V.bin rfl rfl rfl B.eql) rfl (fun h240 => ?_) (fun h240 => ?_)
                  · skip
                    refine RL.val (Wanted.yes rfl rfl rfl rfl) (V.pick_true rfl rfl rfl) rfl ?_
                    refine RL.val (Wanted.free rfl) (V.pick_false rfl rfl rfl) rfl ?_
                    refine RL.nil ?_
                    refine SG.cond_true rfl ?_
                    refine SG.seq ?_
                    refine SG.region ?_
                    refine RL.val (Wanted.free rfl) (V.loadAgg (us := _) rfl ag57 rfl (by repeat (first | exact Pick.here | apply Pick.there)) rfl rfl) rfl ?_
                    refine RL.eff (Wanted.free rfl) (E.call rfl go54 rfl (xFail_ok)) rfl ?_
                    rintro _ _ ⟨rfl, rfl⟩
                    rw [if_pos rfl]
                    refine RL.eff (Wanted.free rfl) (E.storeAgg rfl rfl rfl rfl sz57 (by repeat (first | exact Pick.here | apply Pick.there)) (by first | (simp [Value.oneCell']; done) | (simp [setAt, Value.oneCell']; done)) (by first | (simp; done) | (simp [setAt]; done))) rfl ?_
                    rintro _ _ rfl
                    refine RL.val (Wanted.free rfl) (V.assign rfl rfl) rfl ?_
                    refine RL.nil ?_
                    first
                    | (exfalso; omega)
                    | (refine SG.retE (Ret.r2 Try.func47 rfl (.agg rfl ag57 (by repeat (first | exact Pick.here | apply Pick.there)) rfl rfl) (.tmp rfl)) ?_ ⟨_, _, _, _, _, _, rdU_err (by omega), rfl, rfl⟩; (repeat (first | exact Ent.refl _ | (apply Ent.cons; (· repeat (first | exact Pick.here | (refine Pick.sl ?_; (· repeat (first | exact List.Mem.head _ | assumption | apply List.Mem.tail))) | apply Pick.there))) | (refine Ent.trans (Ent.drop _ _) ?_))))
                    | (refine SG.retE (Ret.r2 Try.func47 rfl (.agg rfl ag57 (by repeat (first | exact Pick.here | apply Pick.there)) rfl rfl) (.tmp rfl)) ?_ ⟨_, _, _, _, _, _, rdU_ten (lead_eq (by omega) (by omega) (fun j h hj => hall j h (by omega)) (.inl rfl)), rfl, rfl⟩; (repeat (first | exact Ent.refl _ | (apply Ent.cons; (· repeat (first | exact Pick.here | (refine Pick.sl ?_; (· repeat (first | exact List.Mem.head _ | assumption | apply List.Mem.tail))) | apply Pick.there))) | (refine Ent.trans (Ent.drop _ _) ?_))))
                    | (refine SG.retE (Ret.r2 Try.func47 rfl (.agg rfl ag57 (by repeat (first | exact Pick.here | apply Pick.there)) rfl rfl) (.tmp rfl)) ?_ ⟨_, _, _, _, _, _, rdU_short (lead_eq (by omega) hil hall (.inr (.inl (by omega)))) (by omega) (by omega), rfl, rfl⟩; (repeat (first | exact Ent.refl _ | (apply Ent.cons; (· repeat (first | exact Pick.here | (refine Pick.sl ?_; (· repeat (first | exact List.Mem.head _ | assumption | apply List.Mem.tail))) | apply Pick.there))) | (refine Ent.trans (Ent.drop _ _) ?_))))
                    | (refine SG.retE (Ret.r2 Try.func47 rfl (.agg rfl ag57 (by repeat (first | exact Pick.here | apply Pick.there)) rfl rfl) (.tmp rfl)) ?_ ⟨_, _, _, _, _, _, rdU_form (lead_eq (by omega) hil hall (.inr (.inr ⟨by omega, by omega⟩))) (by omega) (by omega) (by omega), rfl, rfl⟩; (repeat (first | exact Ent.refl _ | (apply Ent.cons; (· repeat (first | exact Pick.here | (refine Pick.sl ?_; (· repeat (first | exact List.Mem.head _ | assumption | apply List.Mem.tail))) | apply Pick.there))) | (refine Ent.trans (Ent.drop _ _) ?_))))
                    | (refine SG.retE (Ret.r2 Try.func47 rfl (.agg rfl ag57 (by repeat (first | exact Pick.here | apply Pick.there)) rfl rfl) (.tmp rfl)) ?_ ⟨_, _, _, _, _, _, rdU_ok (lead_eq (by omega) hil hall (.inr (.inr ⟨by omega, by omega⟩))) (by omega) (by omega) (by omega), rfl, rfl⟩; (repeat (first | exact Ent.refl _ | (apply Ent.cons; (· repeat (first | exact Pick.here | (refine Pick.sl ?_; (· repeat (first | exact List.Mem.head _ | assumption | apply List.Mem.tail))) | apply Pick.there))) | (refine Ent.trans (Ent.drop _ _) ?_))))
                  · skip
                    refine RL.val (Wanted.yes rfl rfl rfl rfl) (V.pick_true rfl rfl rfl) rfl ?_
                    refine RL.val (Wanted.free rfl) (V.pick_false rfl rfl rfl) rfl ?_
                    refine RL.nil ?_
                    refine SG.cond_false rfl ?_
                    refine SG.skip ?_
                    refine SG.seq ?_
                    refine SG.region ?_
                    refine RL.val (Wanted.free rfl) (V.assign rfl rfl) rfl ?_
                    refine RL.nil ?_
                    refine SG.seq ?_
                    refine SG.seq ?_
                    refine SG.region ?_
                    refine RL.val (Wanted.free rfl) (V.move rfl rfl) rfl ?_
                    refine RL.val (Wanted.free rfl) (V.assign rfl rfl) rfl ?_
                    refine RL.nil ?_
                    refine SG.block ?_
                    refine SG.let_ (d := 5) (u' := v64 (UInt64.ofNat (val ((l.take (i + 1)).drop (i + 1))))) rfl (by rw [List.drop_of_length_le (by rw [List.length_take]; omega)]; rfl) ?_
                    refine SG.let_ (d := 6) (u' := vI (((i + 1 : Nat) : Int) - 1)) rfl (by congr 1; omega) ?_
                    refine SG.weaken (SG.loop2 (fun m al M => ∃ j : Nat, j ≤ i + 1 ∧ j = m ∧ al = [(1, ptr b1 0), (2, ptr b2 0), (4, vI i), (5, v64 (UInt64.ofNat (val ((l.take (i + 1)).drop j)))), (6, vI ((j : Int) - 1))] ∧ M = Blk b1 57 [.slice a l.length c, vI 0] :: Blk b2 57 [.slice none 0 0, vI 0] :: L) (m0 := _) ⟨i + 1, by omega, rfl, rfl, rfl⟩ ?_) ?_ ?_
                    rotate_left
                    · repeat (first | exact EnvLe.nil _ | refine EnvLe.cons rfl ?_)
                    · repeat (first | exact Ent.refl _ | (apply Ent.cons; (· repeat (first | exact Pick.here | (refine Pick.sl ?_; (· repeat (first | exact List.Mem.head _ | assumption | apply List.Mem.tail))) | apply Pick.there))) | (refine Ent.trans (Ent.drop _ _) ?_))
                    rintro _ _ _ ⟨j, hj1, rfl, rfl, rfl⟩ ih1
                    refine SG.seq ?_
                    refine SG.seq ?_
                    refine SG.region ?_
                    refine RL.val (Wanted.free rfl) (V.move rfl rfl) rfl ?_
                    refine RL.cmp (Wanted.free rfl) (V.bin rfl rfl rfl B.geq) rfl (fun h249 => ?_) (fun h249 => ?_)
                    · skip
                      refine RL.nil ?_
                      refine SG.cond_true rfl ?_
                      refine SG.skip ?_
                      refine SG.seq ?_
                      refine SG.block ?_
                      refine SG.region ?_
                      obtain ⟨j', rfl⟩ : ∃ j', j = j' + 1 := ⟨j - 1, by omega⟩
                      refine RL.val (Wanted.free rfl) (V.move rfl rfl) rfl ?_
                      refine RL.val (Wanted.free rfl) (V.bin rfl rfl rfl (B.mul64 (x := 128))) rfl ?_
                      refine RL.val (Wanted.free rfl) (V.fieldAddr rfl rfl fo57_0) rfl ?_
                      refine RL.val (Wanted.free rfl) (V.load rfl on23 rfl (by repeat (first | exact Pick.here | apply Pick.there)) rfl) rfl ?_
                      refine RL.val (Wanted.free rfl) (V.move rfl rfl) rfl ?_
                      refine RL.val (Wanted.free rfl) (V.indexSl (j := j') rfl el23.slice rfl rfl (by repeat (first | exact List.Mem.head _ | assumption | apply List.Mem.tail)) (by first | rfl | omega) (by omega)) rfl ?_
                      refine RL.val (Wanted.free rfl) (V.loadSc rfl on5 rfl (by repeat (first | exact List.Mem.head _ | assumption | apply List.Mem.tail)) (List.getElem?_eq_getElem (by omega))) rfl ?_
                      refine RL.val (Wanted.free rfl) (V.bin rfl rfl rfl (B.rem8 (y := 128) (by decide))) rfl ?_
                      refine RL.val (Wanted.free rfl) (V.to64 rfl ⟨_, ui5⟩ ui31 rfl) rfl ?_
                      refine RL.val (Wanted.free rfl) (V.bin rfl rfl rfl (B.add64)) rfl ?_
                      have hw : (l.take (i + 1))[j']'(by rw [List.length_take]; omega) = l[j'] := List.getElem_take
                      have hst := dot_step (w := l.take (i + 1)) (j := j') (by rw [List.length_take]; omega)
                      rw [hw] at hst
                      rw [hst]
                      refine RL.val (Wanted.free rfl) (V.assign rfl rfl) rfl ?_
                      refine RL.nil ?_
                      refine SG.inBlock ?_
                      refine SG.region ?_
                      refine RL.val (Wanted.free rfl) (V.move rfl rfl) rfl ?_
                      refine RL.val (Wanted.free rfl) (V.bin rfl rfl rfl (B.subI (by omega) (by omega))) rfl ?_
                      rw [show ((j' + 1 : Nat) : Int) - 1 - 1 = (j' : Int) - 1 from by omega]
                      refine RL.val (Wanted.free rfl) (V.assign rfl rfl) rfl ?_
                      refine RL.nil ?_
                      refine SG.weaken (ih1 _ _ _ ?_ ⟨j', by omega, rfl, rfl, rfl⟩) ?_ ?_
                      · omega
                      · repeat (first | exact EnvLe.nil _ | refine EnvLe.cons rfl ?_)
                      · repeat (first | exact Ent.refl _ | (apply Ent.cons; (· repeat (first | exact Pick.here | (refine Pick.sl ?_; (· repeat (first | exact List.Mem.head _ | assumption | apply List.Mem.tail))) | apply Pick.there))) | (refine Ent.trans (Ent.drop _ _) ?_))
                    · skip
                      refine RL.nil ?_
                      refine SG.cond_false rfl ?_
                      refine SG.exit rfl ?_
                      refine SG.seq ?_
                      have hj0 : j = 0 := by omega
                      subst hj0
                      rw [List.drop_zero]
                      refine SG.region ?_
                      refine RL.val (Wanted.free rfl) (V.fieldAddr rfl rfl fo57_0) rfl ?_
                      refine RL.val (Wanted.free rfl) (V.load rfl on23 rfl (by repeat (first | exact Pick.here | apply Pick.there)) rfl) rfl ?_
                      refine RL.val (Wanted.free rfl) (V.move rfl rfl) rfl ?_
                      refine RL.val (Wanted.free rfl) (V.bin rfl rfl rfl (B.addI (by omega) (by omega))) rfl ?_
                      refine RL.eff (Wanted.free rfl) (E.slice (lo := i + 1) (hi := l.length) rfl el23.slice rfl (by repeat (first | exact List.Mem.head _ | assumption | apply List.Mem.tail)) ⟨_, _, rfl, (by first | rfl | omega)⟩ rfl (by omega) (by omega)) rfl ?_
                      intro _ _ hK268
                      try rw [List.drop_zero] at hK268
                      iterate 2 (try rw [Nat.sub_zero] at hK268)
                      rw [show (l.drop (i + 1)).take (l.length - (i + 1)) = l.drop (i + 1) from List.take_of_length_le (by simp)] at hK268
                      obtain ⟨a268, rfl, rfl⟩ := hK268
                      refine RL.val (Wanted.free rfl) (V.buildS [(0, _)] rfl bs57 (by exact ⟨rfl, ⟨_, rfl, rfl⟩, trivial⟩) rfl) rfl ?_
                      refine RL.val (Wanted.free rfl) (V.move rfl rfl) rfl ?_
                      refine RL.eff (Wanted.free rfl) (E.storeAgg rfl rfl rfl rfl sz57 (by repeat (first | exact Pick.here | apply Pick.there)) (by first | (simp [Value.oneCell']; done) | (simp [setAt, Value.oneCell']; done)) (by first | (simp; done) | (simp [setAt]; done))) rfl ?_
                      rintro _ _ rfl
                      refine RL.val (Wanted.free rfl) (V.assign rfl rfl) rfl ?_
                      refine RL.nil ?_
                      first
                      | (exfalso; omega)
                      | (refine SG.retE (Ret.r2 Try.func47 rfl (.agg rfl ag57 (by repeat (first | exact Pick.here | apply Pick.there)) rfl rfl) (.tmp rfl)) ?_ ⟨_, _, _, _, _, _, rdU_err (by omega), rfl, rfl⟩; (repeat (first | exact Ent.refl _ | (apply Ent.cons; (· repeat (first | exact Pick.here | (refine Pick.sl ?_; (· repeat (first | exact List.Mem.head _ | assumption | apply List.Mem.tail))) | apply Pick.there))) | (refine Ent.trans (Ent.drop _ _) ?_))))
                      | (refine SG.retE (Ret.r2 Try.func47 rfl (.agg rfl ag57 (by repeat (first | exact Pick.here | apply Pick.there)) rfl rfl) (.tmp rfl)) ?_ ⟨_, _, _, _, _, _, rdU_ten (lead_eq (by omega) (by omega) (fun j h hj => hall j h (by omega)) (.inl rfl)), rfl, rfl⟩; (repeat (first | exact Ent.refl _ | (apply Ent.cons; (· repeat (first | exact Pick.here | (refine Pick.sl ?_; (· repeat (first | exact List.Mem.head _ | assumption | apply List.Mem.tail))) | apply Pick.there))) | (refine Ent.trans (Ent.drop _ _) ?_))))
                      | (refine SG.retE (Ret.r2 Try.func47 rfl (.agg rfl ag57 (by repeat (first | exact Pick.here | apply Pick.there)) rfl rfl) (.tmp rfl)) ?_ ⟨_, _, _, _, _, _, rdU_short (lead_eq (by omega) hil hall (.inr (.inl (by omega)))) (by omega) (by omega), rfl, rfl⟩; (repeat (first | exact Ent.refl _ | (apply Ent.cons; (· repeat (first | exact Pick.here | (refine Pick.sl ?_; (· repeat (first | exact List.Mem.head _ | assumption | apply List.Mem.tail))) | apply Pick.there))) | (refine Ent.trans (Ent.drop _ _) ?_))))
                      | (refine SG.retE (Ret.r2 Try.func47 rfl (.agg rfl ag57 (by repeat (first | exact Pick.here | apply Pick.there)) rfl rfl) (.tmp rfl)) ?_ ⟨_, _, _, _, _, _, rdU_form (lead_eq (by omega) hil hall (.inr (.inr ⟨by omega, by omega⟩))) (by omega) (by omega) (by omega), rfl, rfl⟩; (repeat (first | exact Ent.refl _ | (apply Ent.cons; (· repeat (first | exact Pick.here | (refine Pick.sl ?_; (· repeat (first | exact List.Mem.head _ | assumption | apply List.Mem.tail))) | apply Pick.there))) | (refine Ent.trans (Ent.drop _ _) ?_))))
                      | (refine SG.retE (Ret.r2 Try.func47 rfl (.agg rfl ag57 (by repeat (first | exact Pick.here | apply Pick.there)) rfl rfl) (.tmp rfl)) ?_ ⟨_, _, _, _, _, _, rdU_ok (lead_eq (by omega) hil hall (.inr (.inr ⟨by omega, by omega⟩))) (by omega) (by omega) (by omega), rfl, rfl⟩; (repeat (first | exact Ent.refl _ | (apply Ent.cons; (· repeat (first | exact Pick.here | (refine Pick.sl ?_; (· repeat (first | exact List.Mem.head _ | assumption | apply List.Mem.tail))) | apply Pick.there))) | (refine Ent.trans (Ent.drop _ _) ?_))))
                · skip
                  refine RL.val (Wanted.yes rfl rfl rfl rfl) (V.move rfl rfl) rfl ?_
                  refine RL.skip (Wanted.no rfl rfl rfl rfl rfl) rfl ?_
                  refine RL.skip (Wanted.no rfl rfl rfl rfl rfl) rfl ?_
                  refine RL.skip (Wanted.no rfl rfl rfl rfl rfl) rfl ?_
                  refine RL.skip (Wanted.no rfl rfl rfl rfl rfl) rfl ?_
                  refine RL.skip (Wanted.no rfl rfl rfl rfl rfl) rfl ?_
                  refine RL.skip (Wanted.no rfl rfl rfl rfl rfl) rfl ?_
                  refine RL.val (Wanted.yes rfl rfl rfl rfl) (V.pick_false rfl rfl rfl) rfl ?_
                  refine RL.val (Wanted.free rfl) (V.pick_false rfl rfl rfl) rfl ?_
                  refine RL.nil ?_
                  refine SG.cond_false rfl ?_
                  refine SG.skip ?_
                  refine SG.seq ?_
                  refine SG.region ?_
                  refine RL.val (Wanted.free rfl) (V.assign rfl rfl) rfl ?_
                  refine RL.nil ?_
                  refine SG.seq ?_
                  refine SG.seq ?_
                  refine SG.region ?_
                  refine RL.val (Wanted.free rfl) (V.move rfl rfl) rfl ?_
                  refine RL.val (Wanted.free rfl) (V.assign rfl rfl) rfl ?_
                  refine RL.nil ?_
                  refine SG.block ?_
                  refine SG.let_ (d := 5) (u' := v64 (UInt64.ofNat (val ((l.take (i + 1)).drop (i + 1))))) rfl (by rw [List.drop_of_length_le (by rw [List.length_take]; omega)]; rfl) ?_
                  refine SG.let_ (d := 6) (u' := vI (((i + 1 : Nat) : Int) - 1)) rfl (by congr 1; omega) ?_
                  refine SG.weaken (SG.loop2 (fun m al M => ∃ j : Nat, j ≤ i + 1 ∧ j = m ∧ al = [(1, ptr b1 0), (2, ptr b2 0), (4, vI i), (5, v64 (UInt64.ofNat (val ((l.take (i + 1)).drop j)))), (6, vI ((j : Int) - 1))] ∧ M = Blk b1 57 [.slice a l.length c, vI 0] :: Blk b2 57 [.slice none 0 0, vI 0] :: L) (m0 := _) ⟨i + 1, by omega, rfl, rfl, rfl⟩ ?_) ?_ ?_
                  rotate_left
                  · repeat (first | exact EnvLe.nil _ | refine EnvLe.cons rfl ?_)
                  · repeat (first | exact Ent.refl _ | (apply Ent.cons; (· repeat (first | exact Pick.here | (refine Pick.sl ?_; (· repeat (first | exact List.Mem.head _ | assumption | apply List.Mem.tail))) | apply Pick.there))) | (refine Ent.trans (Ent.drop _ _) ?_))
                  rintro _ _ _ ⟨j, hj1, rfl, rfl, rfl⟩ ih1
                  refine SG.seq ?_
                  refine SG.seq ?_
                  refine SG.region ?_
                  refine RL.val (Wanted.free rfl) (V.move rfl rfl) rfl ?_
                  refine RL.cmp (Wanted.free rfl) (V.bin rfl rfl rfl B.geq) rfl (fun h278 => ?_) (fun h278 => ?_)
                  · skip
                    refine RL.nil ?_
                    refine SG.cond_true rfl ?_
                    refine SG.skip ?_
                    refine SG.seq ?_
                    refine SG.block ?_
                    refine SG.region ?_
                    obtain ⟨j', rfl⟩ : ∃ j', j = j' + 1 := ⟨j - 1, by omega⟩
                    refine RL.val (Wanted.free rfl) (V.move rfl rfl) rfl ?_
                    refine RL.val (Wanted.free rfl) (V.bin rfl rfl rfl (B.mul64 (x := 128))) rfl ?_
                    refine RL.val (Wanted.free rfl) (V.fieldAddr rfl rfl fo57_0) rfl ?_
                    refine RL.val (Wanted.free rfl) (V.load rfl on23 rfl (by repeat (first | exact Pick.here | apply Pick.there)) rfl) rfl ?_
                    refine RL.val (Wanted.free rfl) (V.move rfl rfl) rfl ?_
                    refine RL.val (Wanted.free rfl) (V.indexSl (j := j') rfl el23.slice rfl rfl (by repeat (first | exact List.Mem.head _ | assumption | apply List.Mem.tail)) (by first | rfl | omega) (by omega)) rfl ?_
                    refine RL.val (Wanted.free rfl) (V.loadSc rfl on5 rfl (by repeat (first | exact List.Mem.head _ | assumption | apply List.Mem.tail)) (List.getElem?_eq_getElem (by omega))) rfl ?_
                    refine RL.val (Wanted.free rfl) (V.bin rfl rfl rfl (B.rem8 (y := 128) (by decide))) rfl ?_
                    refine RL.val (Wanted.free rfl) (V.to64 rfl ⟨_, ui5⟩ ui31 rfl) rfl ?_
                    refine RL.val (Wanted.free rfl) (V.bin rfl rfl rfl (B.add64)) rfl ?_
                    have hw : (l.take (i + 1))[j']'(by rw [List.length_take]; omega) = l[j'] := List.getElem_take
                    have hst := dot_step (w := l.take (i + 1)) (j := j') (by rw [List.length_take]; omega)
                    rw [hw] at hst
                    rw [hst]
                    refine RL.val (Wanted.free rfl) (V.assign rfl rfl) rfl ?_
                    refine RL.nil ?_
                    refine SG.inBlock ?_
                    refine SG.region ?_
                    refine RL.val (Wanted.free rfl) (V.move rfl rfl) rfl ?_
                    refine RL.val (Wanted.free rfl) (V.bin rfl rfl rfl (B.subI (by omega) (by omega))) rfl ?_
                    rw [show ((j' + 1 : Nat) : Int) - 1 - 1 = (j' : Int) - 1 from by omega]
                    refine RL.val (Wanted.free rfl) (V.assign rfl rfl) rfl ?_
                    refine RL.nil ?_
                    refine SG.weaken (ih1 _ _ _ ?_ ⟨j', by omega, rfl, rfl, rfl⟩) ?_ ?_
                    · omega
                    · repeat (first | exact EnvLe.nil _ | refine EnvLe.cons rfl ?_)
                    · repeat (first | exact Ent.refl _ | (apply Ent.cons; (· repeat (first | exact Pick.here | (refine Pick.sl ?_; (· repeat (first | exact List.Mem.head _ | assumption | apply List.Mem.tail))) | apply Pick.there))) | (refine Ent.trans (Ent.drop _ _) ?_))
                  · skip
                    refine RL.nil ?_
                    refine SG.cond_false rfl ?_
                    refine SG.exit rfl ?_
                    refine SG.seq ?_
                    have hj0 : j = 0 := by omega
                    subst hj0
                    rw [List.drop_zero]
                    refine SG.region ?_
                    refine RL.val (Wanted.free rfl) (V.fieldAddr rfl rfl fo57_0) rfl ?_
                    refine RL.val (Wanted.free rfl) (V.load rfl on23 rfl (by repeat (first | exact Pick.here | apply Pick.there)) rfl) rfl ?_
                    refine RL.val (Wanted.free rfl) (V.move rfl rfl) rfl ?_
                    refine RL.val (Wanted.free rfl) (V.bin rfl rfl rfl (B.addI (by omega) (by omega))) rfl ?_
                    refine RL.eff (Wanted.free rfl) (E.slice (lo := i + 1) (hi := l.length) rfl el23.slice rfl (by repeat (first | exact List.Mem.head _ | assumption | apply List.Mem.tail)) ⟨_, _, rfl, (by first | rfl | omega)⟩ rfl (by omega) (by omega)) rfl ?_
                    intro _ _ hK297
                    try rw [List.drop_zero] at hK297
                    iterate 2 (try rw [Nat.sub_zero] at hK297)
                    rw [show (l.drop (i + 1)).take (l.length - (i + 1)) = l.drop (i + 1) from List.take_of_length_le (by simp)] at hK297
                    obtain ⟨a297, rfl, rfl⟩ := hK297
                    refine RL.val (Wanted.free rfl) (V.buildS [(0, _)] rfl bs57 (by exact ⟨rfl, ⟨_, rfl, rfl⟩, trivial⟩) rfl) rfl ?_
                    refine RL.val (Wanted.free rfl) (V.move rfl rfl) rfl ?_
                    refine RL.eff (Wanted.free rfl) (E.storeAgg rfl rfl rfl rfl sz57 (by repeat (first | exact Pick.here | apply Pick.there)) (by first | (simp [Value.oneCell']; done) | (simp [setAt, Value.oneCell']; done)) (by first | (simp; done) | (simp [setAt]; done))) rfl ?_
                    rintro _ _ rfl
                    refine RL.val (Wanted.free rfl) (V.assign rfl rfl) rfl ?_
                    refine RL.nil ?_
                    first
                    | (exfalso; omega)
                    | (refine SG.retE (Ret.r2 Try.func47 rfl (.agg rfl ag57 (by repeat (first | exact Pick.here | apply Pick.there)) rfl rfl) (.tmp rfl)) ?_ ⟨_, _, _, _, _, _, rdU_err (by omega), rfl, rfl⟩; (repeat (first | exact Ent.refl _ | (apply Ent.cons; (· repeat (first | exact Pick.here | (refine Pick.sl ?_; (· repeat (first | exact List.Mem.head _ | assumption | apply List.Mem.tail))) | apply Pick.there))) | (refine Ent.trans (Ent.drop _ _) ?_))))
                    | (refine SG.retE (Ret.r2 Try.func47 rfl (.agg rfl ag57 (by repeat (first | exact Pick.here | apply Pick.there)) rfl rfl) (.tmp rfl)) ?_ ⟨_, _, _, _, _, _, rdU_ten (lead_eq (by omega) (by omega) (fun j h hj => hall j h (by omega)) (.inl rfl)), rfl, rfl⟩; (repeat (first | exact Ent.refl _ | (apply Ent.cons; (· repeat (first | exact Pick.here | (refine Pick.sl ?_; (· repeat (first | exact List.Mem.head _ | assumption | apply List.Mem.tail))) | apply Pick.there))) | (refine Ent.trans (Ent.drop _ _) ?_))))
                    | (refine SG.retE (Ret.r2 Try.func47 rfl (.agg rfl ag57 (by repeat (first | exact Pick.here | apply Pick.there)) rfl rfl) (.tmp rfl)) ?_ ⟨_, _, _, _, _, _, rdU_short (lead_eq (by omega) hil hall (.inr (.inl (by omega)))) (by omega) (by omega), rfl, rfl⟩; (repeat (first | exact Ent.refl _ | (apply Ent.cons; (· repeat (first | exact Pick.here | (refine Pick.sl ?_; (· repeat (first | exact List.Mem.head _ | assumption | apply List.Mem.tail))) | apply Pick.there))) | (refine Ent.trans (Ent.drop _ _) ?_))))
                    | (refine SG.retE (Ret.r2 Try.func47 rfl (.agg rfl ag57 (by repeat (first | exact Pick.here | apply Pick.there)) rfl rfl) (.tmp rfl)) ?_ ⟨_, _, _, _, _, _, rdU_form (lead_eq (by omega) hil hall (.inr (.inr ⟨by omega, by omega⟩))) (by omega) (by omega) (by omega), rfl, rfl⟩; (repeat (first | exact Ent.refl _ | (apply Ent.cons; (· repeat (first | exact Pick.here | (refine Pick.sl ?_; (· repeat (first | exact List.Mem.head _ | assumption | apply List.Mem.tail))) | apply Pick.there))) | (refine Ent.trans (Ent.drop _ _) ?_))))
                    | (refine SG.retE (Ret.r2 Try.func47 rfl (.agg rfl ag57 (by repeat (first | exact Pick.here | apply Pick.there)) rfl rfl) (.tmp rfl)) ?_ ⟨_, _, _, _, _, _, rdU_ok (lead_eq (by omega) hil hall (.inr (.inr ⟨by omega, by omega⟩))) (by omega) (by omega) (by omega), rfl, rfl⟩; (repeat (first | exact Ent.refl _ | (apply Ent.cons; (· repeat (first | exact Pick.here | (refine Pick.sl ?_; (· repeat (first | exact List.Mem.head _ | assumption | apply List.Mem.tail))) | apply Pick.there))) | (refine Ent.trans (Ent.drop _ _) ?_))))
            · skip
              refine RL.val (Wanted.free rfl) (V.move rfl rfl) rfl ?_
              refine RL.skip (Wanted.no rfl rfl rfl rfl rfl) rfl ?_
              refine RL.skip (Wanted.no rfl rfl rfl rfl rfl) rfl ?_
              refine RL.skip (Wanted.no rfl rfl rfl rfl rfl) rfl ?_
              refine RL.skip (Wanted.no rfl rfl rfl rfl rfl) rfl ?_
              refine RL.skip (Wanted.no rfl rfl rfl rfl rfl) rfl ?_
              refine RL.skip (Wanted.no rfl rfl rfl rfl rfl) rfl ?_
              refine RL.val (Wanted.free rfl) (V.pick_false rfl rfl rfl) rfl ?_
              refine RL.val (Wanted.free rfl) (V.move rfl rfl) rfl ?_
              refine RL.val (Wanted.yes rfl rfl rfl rfl) (V.move rfl rfl) rfl ?_
              refine RL.cmp (Wanted.yes rfl rfl rfl rfl) (V.bin rfl rfl rfl B.gtr) rfl (fun h305 => ?_) (fun h305 => ?_)
              · skip
                refine RL.val (Wanted.yes rfl rfl rfl rfl) (V.move rfl rfl) rfl ?_
                refine RL.val (Wanted.yes rfl rfl rfl rfl) (V.fieldAddr rfl rfl fo57_0) rfl ?_
                refine RL.val (Wanted.yes rfl rfl rfl rfl) (V.load rfl on23 rfl (by repeat (first | exact Pick.here | apply Pick.there)) rfl) rfl ?_
                refine RL.val (Wanted.yes rfl rfl rfl rfl) (V.move rfl rfl) rfl ?_
                refine RL.val (Wanted.yes rfl rfl rfl rfl) (V.indexSl rfl el23.slice rfl rfl (by repeat (first | exact List.Mem.head _ | assumption | apply List.Mem.tail)) (by first | rfl | omega) (by omega)) rfl ?_
                refine RL.val (Wanted.yes rfl rfl rfl rfl) (V.loadSc rfl on5 rfl (by repeat (first | exact List.Mem.head _ | assumption | apply List.Mem.tail)) (List.getElem?_eq_getElem (by omega))) rfl ?_
                refine RL.cmp (Wanted.yes rfl rfl rfl rfl) (V.bin rfl rfl rfl B.eql) rfl (fun h312 => ?_) (fun h312 => ?_)
                · skip
                  refine RL.val (Wanted.yes rfl rfl rfl rfl) (V.pick_true rfl rfl rfl) rfl ?_
                  refine RL.val (Wanted.free rfl) (V.pick_false rfl rfl rfl) rfl ?_
                  refine RL.nil ?_
                  refine SG.cond_true rfl ?_
                  refine SG.seq ?_
                  refine SG.region ?_
                  refine RL.val (Wanted.free rfl) (V.loadAgg (us := _) rfl ag57 rfl (by repeat (first | exact Pick.here | apply Pick.there)) rfl rfl) rfl ?_
                  refine RL.eff (Wanted.free rfl) (E.call rfl go54 rfl (xFail_ok)) rfl ?_
                  rintro _ _ ⟨rfl, rfl⟩
                  rw [if_pos rfl]
                  refine RL.eff (Wanted.free rfl) (E.storeAgg rfl rfl rfl rfl sz57 (by repeat (first | exact Pick.here | apply Pick.there)) (by first | (simp [Value.oneCell']; done) | (simp [setAt, Value.oneCell']; done)) (by first | (simp; done) | (simp [setAt]; done))) rfl ?_
                  rintro _ _ rfl
                  refine RL.val (Wanted.free rfl) (V.assign rfl rfl) rfl ?_
                  refine RL.nil ?_
                  first
                  | (exfalso; omega)
                  | (refine SG.retE (Ret.r2 Try.func47 rfl (.agg rfl ag57 (by repeat (first | exact Pick.here | apply Pick.there)) rfl rfl) (.tmp rfl)) ?_ ⟨_, _, _, _, _, _, rdU_err (by omega), rfl, rfl⟩; (repeat (first | exact Ent.refl _ | (apply Ent.cons; (· repeat (first | exact Pick.here | (refine Pick.sl ?_; (· repeat (first | exact List.Mem.head _ | assumption | apply List.Mem.tail))) | apply Pick.there))) | (refine Ent.trans (Ent.drop _ _) ?_))))
                  | (refine SG.retE (Ret.r2 Try.func47 rfl (.agg rfl ag57 (by repeat (first | exact Pick.here | apply Pick.there)) rfl rfl) (.tmp rfl)) ?_ ⟨_, _, _, _, _, _, rdU_ten (lead_eq (by omega) (by omega) (fun j h hj => hall j h (by omega)) (.inl rfl)), rfl, rfl⟩; (repeat (first | exact Ent.refl _ | (apply Ent.cons; (· repeat (first | exact Pick.here | (refine Pick.sl ?_; (· repeat (first | exact List.Mem.head _ | assumption | apply List.Mem.tail))) | apply Pick.there))) | (refine Ent.trans (Ent.drop _ _) ?_))))
                  | (refine SG.retE (Ret.r2 Try.func47 rfl (.agg rfl ag57 (by repeat (first | exact Pick.here | apply Pick.there)) rfl rfl) (.tmp rfl)) ?_ ⟨_, _, _, _, _, _, rdU_short (lead_eq (by omega) hil hall (.inr (.inl (by omega)))) (by omega) (by omega), rfl, rfl⟩; (repeat (first | exact Ent.refl _ | (apply Ent.cons; (· repeat (first | exact Pick.here | (refine Pick.sl ?_; (· repeat (first | exact List.Mem.head _ | assumption | apply List.Mem.tail))) | apply Pick.there))) | (refine Ent.trans (Ent.drop _ _) ?_))))
                  | (refine SG.retE (Ret.r2 Try.func47 rfl (.agg rfl ag57 (by repeat (first | exact Pick.here | apply Pick.there)) rfl rfl) (.tmp rfl)) ?_ ⟨_, _, _, _, _, _, rdU_form (lead_eq (by omega) hil hall (.inr (.inr ⟨by omega, by omega⟩))) (by omega) (by omega) (by omega), rfl, rfl⟩; (repeat (first | exact Ent.refl _ | (apply Ent.cons; (· repeat (first | exact Pick.here | (refine Pick.sl ?_; (· repeat (first | exact List.Mem.head _ | assumption | apply List.Mem.tail))) | apply Pick.there))) | (refine Ent.trans (Ent.drop _ _) ?_))))
                  | (refine SG.retE (Ret.r2 Try.func47 rfl (.agg rfl ag57 (by repeat (first | exact Pick.here | apply Pick.there)) rfl rfl) (.tmp rfl)) ?_ ⟨_, _, _, _, _, _, rdU_ok (lead_eq (by omega) hil hall (.inr (.inr ⟨by omega, by omega⟩))) (by omega) (by omega) (by omega), rfl, rfl⟩; (repeat (first | exact Ent.refl _ | (apply Ent.cons; (· repeat (first | exact Pick.here | (refine Pick.sl ?_; (· repeat (first | exact List.Mem.head _ | assumption | apply List.Mem.tail))) | apply Pick.there))) | (refine Ent.trans (Ent.drop _ _) ?_))))
                · skip
                  refine RL.val (Wanted.yes rfl rfl rfl rfl) (V.pick_true rfl rfl rfl) rfl ?_
                  refine RL.val (Wanted.free rfl) (V.pick_false rfl rfl rfl) rfl ?_
                  refine RL.nil ?_
                  refine SG.cond_false rfl ?_
                  refine SG.skip ?_
                  refine SG.seq ?_
                  refine SG.region ?_
                  refine RL.val (Wanted.free rfl) (V.assign rfl rfl) rfl ?_
                  refine RL.nil ?_
                  refine SG.seq ?_
                  refine SG.seq ?_
                  refine SG.region ?_
                  refine RL.val (Wanted.free rfl) (V.move rfl rfl) rfl ?_
                  refine RL.val (Wanted.free rfl) (V.assign rfl rfl) rfl ?_
                  refine RL.nil ?_
                  refine SG.block ?_
                  refine SG.let_ (d := 5) (u' := v64 (UInt64.ofNat (val ((l.take (i + 1)).drop (i + 1))))) rfl (by rw [List.drop_of_length_le (by rw [List.length_take]; omega)]; rfl) ?_
                  refine SG.let_ (d := 6) (u' := vI (((i + 1 : Nat) : Int) - 1)) rfl (by congr 1; omega) ?_
                  refine SG.weaken (SG.loop2 (fun m al M => ∃ j : Nat, j ≤ i + 1 ∧ j = m ∧ al = [(1, ptr b1 0), (2, ptr b2 0), (4, vI i), (5, v64 (UInt64.ofNat (val ((l.take (i + 1)).drop j)))), (6, vI ((j : Int) - 1))] ∧ M = Blk b1 57 [.slice a l.length c, vI 0] :: Blk b2 57 [.slice none 0 0, vI 0] :: L) (m0 := _) ⟨i + 1, by omega, rfl, rfl, rfl⟩ ?_) ?_ ?_
                  rotate_left
                  · repeat (first | exact EnvLe.nil _ | refine EnvLe.cons rfl ?_)
                  · repeat (first | exact Ent.refl _ | (apply Ent.cons; (· repeat (first | exact Pick.here | (refine Pick.sl ?_; (· repeat (first | exact List.Mem.head _ | assumption | apply List.Mem.tail))) | apply Pick.there))) | (refine Ent.trans (Ent.drop _ _) ?_))
                  rintro _ _ _ ⟨j, hj1, rfl, rfl, rfl⟩ ih1
                  refine SG.seq ?_
                  refine SG.seq ?_
                  refine SG.region ?_
                  refine RL.val (Wanted.free rfl) (V.move rfl rfl) rfl ?_
                  refine RL.cmp (Wanted.free rfl) (V.bin rfl rfl rfl B.geq) rfl (fun h321 => ?_) (fun h321 => ?_)
                  · skip
                    refine RL.nil ?_
                    refine SG.cond_true rfl ?_
                    refine SG.skip ?_
                    refine SG.seq ?_
                    refine SG.block ?_
                    refine SG.region ?_
                    obtain ⟨j', rfl⟩ : ∃ j', j = j' + 1 := ⟨j - 1, by omega⟩
                    refine RL.val (Wanted.free rfl) (V.move rfl rfl) rfl ?_
                    refine RL.val (Wanted.free rfl) (V.bin rfl rfl rfl (B.mul64 (x := 128))) rfl ?_
                    refine RL.val (Wanted.free rfl) (V.fieldAddr rfl rfl fo57_0) rfl ?_
                    refine RL.val (Wanted.free rfl) (V.load rfl on23 rfl (by repeat (first | exact Pick.here | apply Pick.there)) rfl) rfl ?_
                    refine RL.val (Wanted.free rfl) (V.move rfl rfl) rfl ?_
                    refine RL.val (Wanted.free rfl) (V.indexSl (j := j') rfl el23.slice rfl rfl (by repeat (first | exact List.Mem.head _ | assumption | apply List.Mem.tail)) (by first | rfl | omega) (by omega)) rfl ?_
                    refine RL.val (Wanted.free rfl) (V.loadSc rfl on5 rfl (by repeat (first | exact List.Mem.head _ | assumption | apply List.Mem.tail)) (List.getElem?_eq_getElem (by omega))) rfl ?_
                    refine RL.val (Wanted.free rfl) (V.bin rfl rfl rfl (B.rem8 (y := 128) (by decide))) rfl ?_
                    refine RL.val (Wanted.free rfl) (V.to64 rfl ⟨_, ui5⟩ ui31 rfl) rfl ?_
                    refine RL.val (Wanted.free rfl) (V.bin rfl rfl rfl (B.add64)) rfl ?_
                    have hw : (l.take (i + 1))[j']'(by rw [List.length_take]; omega) = l[j'] := List.getElem_take
                    have hst := dot_step (w := l.take (i + 1)) (j := j') (by rw [List.length_take]; omega)
                    rw [hw] at hst
                    rw [hst]
                    refine RL.val (Wanted.free rfl) (V.assign rfl rfl) rfl ?_
                    refine RL.nil ?_
                    refine SG.inBlock ?_
                    refine SG.region ?_
                    refine RL.val (Wanted.free rfl) (V.move rfl rfl) rfl ?_
                    refine RL.val (Wanted.free rfl) (V.bin rfl rfl rfl (B.subI (by omega) (by omega))) rfl ?_
                    rw [show ((j' + 1 : Nat) : Int) - 1 - 1 = (j' : Int) - 1 from by omega]
                    refine RL.val (Wanted.free rfl) (V.assign rfl rfl) rfl ?_
                    refine RL.nil ?_
                    refine SG.weaken (ih1 _ _ _ ?_ ⟨j', by omega, rfl, rfl, rfl⟩) ?_ ?_
                    · omega
                    · repeat (first | exact EnvLe.nil _ | refine EnvLe.cons rfl ?_)
                    · repeat (first | exact Ent.refl _ | (apply Ent.cons; (· repeat (first | exact Pick.here | (refine Pick.sl ?_; (· repeat (first | exact List.Mem.head _ | assumption | apply List.Mem.tail))) | apply Pick.there))) | (refine Ent.trans (Ent.drop _ _) ?_))
                  · skip
                    refine RL.nil ?_
                    refine SG.cond_false rfl ?_
                    refine SG.exit rfl ?_
                    refine SG.seq ?_
                    have hj0 : j = 0 := by omega
                    subst hj0
                    rw [List.drop_zero]
                    refine SG.region ?_
                    refine RL.val (Wanted.free rfl) (V.fieldAddr rfl rfl fo57_0) rfl ?_
                    refine RL.val (Wanted.free rfl) (V.load rfl on23 rfl (by repeat (first | exact Pick.here | apply Pick.there)) rfl) rfl ?_
                    refine RL.val (Wanted.free rfl) (V.move rfl rfl) rfl ?_
                    refine RL.val (Wanted.free rfl) (V.bin rfl rfl rfl (B.addI (by omega) (by omega))) rfl ?_
                    refine RL.eff (Wanted.free rfl) (E.slice (lo := i + 1) (hi := l.length) rfl el23.slice rfl (by repeat (first | exact List.Mem.head _ | assumption | apply List.Mem.tail)) ⟨_, _, rfl, (by first | rfl | omega)⟩ rfl (by omega) (by omega)) rfl ?_
                    intro _ _ hK340
                    try rw [List.drop_zero] at hK340
                    iterate 2 (try rw [Nat.sub_zero] at hK340)
                    rw [show (l.drop (i + 1)).take (l.length - (i + 1)) = l.drop (i + 1) from List.take_of_length_le (by simp)] at hK340
                    obtain ⟨a340, rfl, rfl⟩ := hK340
                    refine RL.val (Wanted.free rfl) (V.buildS [(0, _)] rfl bs57 (by exact ⟨rfl, ⟨_, rfl, rfl⟩, trivial⟩) rfl) rfl ?_
                    refine RL.val (Wanted.free rfl) (V.move rfl rfl) rfl ?_
                    refine RL.eff (Wanted.free rfl) (E.storeAgg rfl rfl rfl rfl sz57 (by repeat (first | exact Pick.here | apply Pick.there)) (by first | (simp [Value.oneCell']; done) | (simp [setAt, Value.oneCell']; done)) (by first | (simp; done) | (simp [setAt]; done))) rfl ?_
                    rintro _ _ rfl
                    refine RL.val (Wanted.free rfl) (V.assign rfl rfl) rfl ?_
                    refine RL.nil ?_
                    first
                    | (exfalso; omega)
                    | (refine SG.retE (Ret.r2 Try.func47 rfl (.agg rfl ag57 (by repeat (first | exact Pick.here | apply Pick.there)) rfl rfl) (.tmp rfl)) ?_ ⟨_, _, _, _, _, _, rdU_err (by omega), rfl, rfl⟩; (repeat (first | exact Ent.refl _ | (apply Ent.cons; (· repeat (first | exact Pick.here | (refine Pick.sl ?_; (· repeat (first | exact List.Mem.head _ | assumption | apply List.Mem.tail))) | apply Pick.there))) | (refine Ent.trans (Ent.drop _ _) ?_))))
                    | (refine SG.retE (Ret.r2 Try.func47 rfl (.agg rfl ag57 (by repeat (first | exact Pick.here | apply Pick.there)) rfl rfl) (.tmp rfl)) ?_ ⟨_, _, _, _, _, _, rdU_ten (lead_eq (by omega) (by omega) (fun j h hj => hall j h (by omega)) (.inl rfl)), rfl, rfl⟩; (repeat (first | exact Ent.refl _ | (apply Ent.cons; (· repeat (first | exact Pick.here | (refine Pick.sl ?_; (· repeat (first | exact List.Mem.head _ | assumption | apply List.Mem.tail))) | apply Pick.there))) | (refine Ent.trans (Ent.drop _ _) ?_))))
                    | (refine SG.retE (Ret.r2 Try.func47 rfl (.agg rfl ag57 (by repeat (first | exact Pick.here | apply Pick.there)) rfl rfl) (.tmp rfl)) ?_ ⟨_, _, _, _, _, _, rdU_short (lead_eq (by omega) hil hall (.inr (.inl (by omega)))) (by omega) (by omega), rfl, rfl⟩; (repeat (first | exact Ent.refl _ | (apply Ent.cons; (· repeat (first | exact Pick.here | (refine Pick.sl ?_; (· repeat (first | exact List.Mem.head _ | assumption | apply List.Mem.tail))) | apply Pick.there))) | (refine Ent.trans (Ent.drop _ _) ?_))))
                    | (refine SG.retE (Ret.r2 Try.func47 rfl (.agg rfl ag57 (by repeat (first | exact Pick.here | apply Pick.there)) rfl rfl) (.tmp rfl)) ?_ ⟨_, _, _, _, _, _, rdU_form (lead_eq (by omega) hil hall (.inr (.inr ⟨by omega, by omega⟩))) (by omega) (by omega) (by omega), rfl, rfl⟩; (repeat (first | exact Ent.refl _ | (apply Ent.cons; (· repeat (first | exact Pick.here | (refine Pick.sl ?_; (· repeat (first | exact List.Mem.head _ | assumption | apply List.Mem.tail))) | apply Pick.there))) | (refine Ent.trans (Ent.drop _ _) ?_))))
                    | (refine SG.retE (Ret.r2 Try.func47 rfl (.agg rfl ag57 (by repeat (first | exact Pick.here | apply Pick.there)) rfl rfl) (.tmp rfl)) ?_ ⟨_, _, _, _, _, _, rdU_ok (lead_eq (by omega) hil hall (.inr (.inr ⟨by omega, by omega⟩))) (by omega) (by omega) (by omega), rfl, rfl⟩; (repeat (first | exact Ent.refl _ | (apply Ent.cons; (· repeat (first | exact Pick.here | (refine Pick.sl ?_; (· repeat (first | exact List.Mem.head _ | assumption | apply List.Mem.tail))) | apply Pick.there))) | (refine Ent.trans (Ent.drop _ _) ?_))))
              · skip
                refine RL.val (Wanted.yes rfl rfl rfl rfl) (V.move rfl rfl) rfl ?_
                refine RL.skip (Wanted.no rfl rfl rfl rfl rfl) rfl ?_
                refine RL.skip (Wanted.no rfl rfl rfl rfl rfl) rfl ?_
                refine RL.skip (Wanted.no rfl rfl rfl rfl rfl) rfl ?_
                refine RL.skip (Wanted.no rfl rfl rfl rfl rfl) rfl ?_
                refine RL.skip (Wanted.no rfl rfl rfl rfl rfl) rfl ?_
                refine RL.skip (Wanted.no rfl rfl rfl rfl rfl) rfl ?_
                refine RL.val (Wanted.yes rfl rfl rfl rfl) (V.pick_false rfl rfl rfl) rfl ?_
                refine RL.val (Wanted.free rfl) (V.pick_false rfl rfl rfl) rfl ?_
                refine RL.nil ?_
                refine SG.cond_false rfl ?_
                refine SG.skip ?_
                refine SG.seq ?_
                refine SG.region ?_
                refine RL.val (Wanted.free rfl) (V.assign rfl rfl) rfl ?_
                refine RL.nil ?_
                refine SG.seq ?_
                refine SG.seq ?_
                refine SG.region ?_
                refine RL.val (Wanted.free rfl) (V.move rfl rfl) rfl ?_
                refine RL.val (Wanted.free rfl) (V.assign rfl rfl) rfl ?_
                refine RL.nil ?_
                refine SG.block ?_
                refine SG.let_ (d := 5) (u' := v64 (UInt64.ofNat (val ((l.take (i + 1)).drop (i + 1))))) rfl (by rw [List.drop_of_length_le (by rw [List.length_take]; omega)]; rfl) ?_
                refine SG.let_ (d := 6) (u' := vI (((i + 1 : Nat) : Int) - 1)) rfl (by congr 1; omega) ?_
                refine SG.weaken (SG.loop2 (fun m al M => ∃ j : Nat, j ≤ i + 1 ∧ j = m ∧ al = [(1, ptr b1 0), (2, ptr b2 0), (4, vI i), (5, v64 (UInt64.ofNat (val ((l.take (i + 1)).drop j)))), (6, vI ((j : Int) - 1))] ∧ M = Blk b1 57 [.slice a l.length c, vI 0] :: Blk b2 57 [.slice none 0 0, vI 0] :: L) (m0 := _) ⟨i + 1, by omega, rfl, rfl, rfl⟩ ?_) ?_ ?_
                rotate_left
                · repeat (first | exact EnvLe.nil _ | refine EnvLe.cons rfl ?_)
                · repeat (first | exact Ent.refl _ | (apply Ent.cons; (· repeat (first | exact Pick.here | (refine Pick.sl ?_; (· repeat (first | exact List.Mem.head _ | assumption | apply List.Mem.tail))) | apply Pick.there))) | (refine Ent.trans (Ent.drop _ _) ?_))
                rintro _ _ _ ⟨j, hj1, rfl, rfl, rfl⟩ ih1
                refine SG.seq ?_
                refine SG.seq ?_
                refine SG.region ?_
                refine RL.val (Wanted.free rfl) (V.move rfl rfl) rfl ?_
                refine RL.cmp (Wanted.free rfl) (V.bin rfl rfl rfl B.geq) rfl (fun h350 => ?_) (fun h350 => ?_)
                · skip
                  refine RL.nil ?_
                  refine SG.cond_true rfl ?_
                  refine SG.skip ?_
                  refine SG.seq ?_
                  refine SG.block ?_
                  refine SG.region ?_
                  obtain ⟨j', rfl⟩ : ∃ j', j = j' + 1 := ⟨j - 1, by omega⟩
                  refine RL.val (Wanted.free rfl) (V.move rfl rfl) rfl ?_
                  refine RL.val (Wanted.free rfl) (V.bin rfl rfl rfl (B.mul64 (x := 128))) rfl ?_
                  refine RL.val (Wanted.free rfl) (V.fieldAddr rfl rfl fo57_0) rfl ?_
                  refine RL.val (Wanted.free rfl) (V.load rfl on23 rfl (by repeat (first | exact Pick.here | apply Pick.there)) rfl) rfl ?_
                  refine RL.val (Wanted.free rfl) (V.move rfl rfl) rfl ?_
                  refine RL.val (Wanted.free rfl) (V.indexSl (j := j') rfl el23.slice rfl rfl (by repeat (first | exact List.Mem.head _ | assumption | apply List.Mem.tail)) (by first | rfl | omega) (by omega)) rfl ?_
                  refine RL.val (Wanted.free rfl) (V.loadSc rfl on5 rfl (by repeat (first | exact List.Mem.head _ | assumption | apply List.Mem.tail)) (List.getElem?_eq_getElem (by omega))) rfl ?_
                  refine RL.val (Wanted.free rfl) (V.bin rfl rfl rfl (B.rem8 (y := 128) (by decide))) rfl ?_
                  refine RL.val (Wanted.free rfl) (V.to64 rfl ⟨_, ui5⟩ ui31 rfl) rfl ?_
                  refine RL.val (Wanted.free rfl) (V.bin rfl rfl rfl (B.add64)) rfl ?_
                  have hw : (l.take (i + 1))[j']'(by rw [List.length_take]; omega) = l[j'] := List.getElem_take
                  have hst := dot_step (w := l.take (i + 1)) (j := j') (by rw [List.length_take]; omega)
                  rw [hw] at hst
                  rw [hst]
                  refine RL.val (Wanted.free rfl) (V.assign rfl rfl) rfl ?_
                  refine RL.nil ?_
                  refine SG.inBlock ?_
                  refine SG.region ?_
                  refine RL.val (Wanted.free rfl) (V.move rfl rfl) rfl ?_
                  refine RL.val (Wanted.free rfl) (V.bin rfl rfl rfl (B.subI (by omega) (by omega))) rfl ?_
                  rw [show ((j' + 1 : Nat) : Int) - 1 - 1 = (j' : Int) - 1 from by omega]
                  refine RL.val (Wanted.free rfl) (V.assign rfl rfl) rfl ?_
                  refine RL.nil ?_
                  refine SG.weaken (ih1 _ _ _ ?_ ⟨j', by omega, rfl, rfl, rfl⟩) ?_ ?_
                  · omega
                  · repeat (first | exact EnvLe.nil _ | refine EnvLe.cons rfl ?_)
                  · repeat (first | exact Ent.refl _ | (apply Ent.cons; (· repeat (first | exact Pick.here | (refine Pick.sl ?_; (· repeat (first | exact List.Mem.head _ | assumption | apply List.Mem.tail))) | apply Pick.there))) | (refine Ent.trans (Ent.drop _ _) ?_))
                · skip
                  refine RL.nil ?_
                  refine SG.cond_false rfl ?_
                  refine SG.exit rfl ?_
                  refine SG.seq ?_
                  have hj0 : j = 0 := by omega
                  subst hj0
                  rw [List.drop_zero]
                  refine SG.region ?_
                  refine RL.val (Wanted.free rfl) (V.fieldAddr rfl rfl fo57_0) rfl ?_
                  refine RL.val (Wanted.free rfl) (V.load rfl on23 rfl (by repeat (first | exact Pick.here | apply Pick.there)) rfl) rfl ?_
                  refine RL.val (Wanted.free rfl) (V.move rfl rfl) rfl ?_
                  refine RL.val (Wanted.free rfl) (V.bin rfl rfl rfl (B.addI (by omega) (by omega))) rfl ?_
                  refine RL.eff (Wanted.free rfl) (E.slice (lo := i + 1) (hi := l.length) rfl el23.slice rfl (by repeat (first | exact List.Mem.head _ | assumption | apply List.Mem.tail)) ⟨_, _, rfl, (by first | rfl | omega)⟩ rfl (by omega) (by omega)) rfl ?_
                  intro _ _ hK369
                  try rw [List.drop_zero] at hK369
                  iterate 2 (try rw [Nat.sub_zero] at hK369)
                  rw [show (l.drop (i + 1)).take (l.length - (i + 1)) = l.drop (i + 1) from List.take_of_length_le (by simp)] at hK369
                  obtain ⟨a369, rfl, rfl⟩ := hK369
                  refine RL.val (Wanted.free rfl) (V.buildS [(0, _)] rfl bs57 (by exact ⟨rfl, ⟨_, rfl, rfl⟩, trivial⟩) rfl) rfl ?_
                  refine RL.val (Wanted.free rfl) (V.move rfl rfl) rfl ?_
                  refine RL.eff (Wanted.free rfl) (E.storeAgg rfl rfl rfl rfl sz57 (by repeat (first | exact Pick.here | apply Pick.there)) (by first | (simp [Value.oneCell']; done) | (simp [setAt, Value.oneCell']; done)) (by first | (simp; done) | (simp [setAt]; done))) rfl ?_
                  rintro _ _ rfl
                  refine RL.val (Wanted.free rfl) (V.assign rfl rfl) rfl ?_
                  refine RL.nil ?_
                  first
                  | (exfalso; omega)
                  | (refine SG.retE (Ret.r2 Try.func47 rfl (.agg rfl ag57 (by repeat (first | exact Pick.here | apply Pick.there)) rfl rfl) (.tmp rfl)) ?_ ⟨_, _, _, _, _, _, rdU_err (by omega), rfl, rfl⟩; (repeat (first | exact Ent.refl _ | (apply Ent.cons; (· repeat (first | exact Pick.here | (refine Pick.sl ?_; (· repeat (first | exact List.Mem.head _ | assumption | apply List.Mem.tail))) | apply Pick.there))) | (refine Ent.trans (Ent.drop _ _) ?_))))
                  | (refine SG.retE (Ret.r2 Try.func47 rfl (.agg rfl ag57 (by repeat (first | exact Pick.here | apply Pick.there)) rfl rfl) (.tmp rfl)) ?_ ⟨_, _, _, _, _, _, rdU_ten (lead_eq (by omega) (by omega) (fun j h hj => hall j h (by omega)) (.inl rfl)), rfl, rfl⟩; (repeat (first | exact Ent.refl _ | (apply Ent.cons; (· repeat (first | exact Pick.here | (refine Pick.sl ?_; (· repeat (first | exact List.Mem.head _ | assumption | apply List.Mem.tail))) | apply Pick.there))) | (refine Ent.trans (Ent.drop _ _) ?_))))
                  | (refine SG.retE (Ret.r2 Try.func47 rfl (.agg rfl ag57 (by repeat (first | exact Pick.here | apply Pick.there)) rfl rfl) (.tmp rfl)) ?_ ⟨_, _, _, _, _, _, rdU_short (lead_eq (by omega) hil hall (.inr (.inl (by omega)))) (by omega) (by omega), rfl, rfl⟩; (repeat (first | exact Ent.refl _ | (apply Ent.cons; (· repeat (first | exact Pick.here | (refine Pick.sl ?_; (· repeat (first | exact List.Mem.head _ | assumption | apply List.Mem.tail))) | apply Pick.there))) | (refine Ent.trans (Ent.drop _ _) ?_))))
                  | (refine SG.retE (Ret.r2 Try.func47 rfl (.agg rfl ag57 (by repeat (first | exact Pick.here | apply Pick.there)) rfl rfl) (.tmp rfl)) ?_ ⟨_, _, _, _, _, _, rdU_form (lead_eq (by omega) hil hall (.inr (.inr ⟨by omega, by omega⟩))) (by omega) (by omega) (by omega), rfl, rfl⟩; (repeat (first | exact Ent.refl _ | (apply Ent.cons; (· repeat (first | exact Pick.here | (refine Pick.sl ?_; (· repeat (first | exact List.Mem.head _ | assumption | apply List.Mem.tail))) | apply Pick.there))) | (refine Ent.trans (Ent.drop _ _) ?_))))
                  | (refine SG.retE (Ret.r2 Try.func47 rfl (.agg rfl ag57 (by repeat (first | exact Pick.here | apply Pick.there)) rfl rfl) (.tmp rfl)) ?_ ⟨_, _, _, _, _, _, rdU_ok (lead_eq (by omega) hil hall (.inr (.inr ⟨by omega, by omega⟩))) (by omega) (by omega) (by omega), rfl, rfl⟩; (repeat (first | exact Ent.refl _ | (apply Ent.cons; (· repeat (first | exact Pick.here | (refine Pick.sl ?_; (· repeat (first | exact List.Mem.head _ | assumption | apply List.Mem.tail))) | apply Pick.there))) | (refine Ent.trans (Ent.drop _ _) ?_))))
    · skip
      refine RL.val (Wanted.free rfl) (V.move rfl rfl) rfl ?_
      refine RL.skip (Wanted.no rfl rfl rfl rfl rfl) rfl ?_
      refine RL.skip (Wanted.no rfl rfl rfl rfl rfl) rfl ?_
      refine RL.val (Wanted.free rfl) (V.pick_false rfl rfl rfl) rfl ?_
      refine RL.val (Wanted.free rfl) (V.move rfl rfl) rfl ?_
      refine RL.skip (Wanted.no rfl rfl rfl rfl rfl) rfl ?_
      refine RL.skip (Wanted.no rfl rfl rfl rfl rfl) rfl ?_
      refine RL.skip (Wanted.no rfl rfl rfl rfl rfl) rfl ?_
      refine RL.skip (Wanted.no rfl rfl rfl rfl rfl) rfl ?_
      refine RL.skip (Wanted.no rfl rfl rfl rfl rfl) rfl ?_
      refine RL.skip (Wanted.no rfl rfl rfl rfl rfl) rfl ?_
      refine RL.val (Wanted.free rfl) (V.pick_false rfl rfl rfl) rfl ?_
      refine RL.nil ?_
      refine SG.cond_false rfl ?_
      refine SG.exit rfl ?_
      refine SG.seq ?_
      refine SG.seq ?_
      refine SG.region ?_
      refine RL.val (Wanted.free rfl) (V.move rfl rfl) rfl ?_
      refine RL.cmp (Wanted.free rfl) (V.bin rfl rfl rfl B.eql) rfl (fun h377 => ?_) (fun h377 => ?_)
      · skip
        refine RL.nil ?_
        refine SG.cond_true rfl ?_
        refine SG.seq ?_
        refine SG.region ?_
        refine RL.val (Wanted.free rfl) (V.loadAgg (us := _) rfl ag57 rfl (by repeat (first | exact Pick.here | apply Pick.there)) rfl rfl) rfl ?_
        refine RL.eff (Wanted.free rfl) (E.call rfl go54 rfl (xFail_ok)) rfl ?_
        rintro _ _ ⟨rfl, rfl⟩
        rw [if_pos rfl]
        refine RL.eff (Wanted.free rfl) (E.storeAgg rfl rfl rfl rfl sz57 (by repeat (first | exact Pick.here | apply Pick.there)) (by first | (simp [Value.oneCell']; done) | (simp [setAt, Value.oneCell']; done)) (by first | (simp; done) | (simp [setAt]; done))) rfl ?_
        rintro _ _ rfl
        refine RL.val (Wanted.free rfl) (V.assign rfl rfl) rfl ?_
        refine RL.nil ?_
        first
        | (exfalso; omega)
        | (refine SG.retE (Ret.r2 Try.func47 rfl (.agg rfl ag57 (by repeat (first | exact Pick.here | apply Pick.there)) rfl rfl) (.tmp rfl)) ?_ ⟨_, _, _, _, _, _, rdU_err (by omega), rfl, rfl⟩; (repeat (first | exact Ent.refl _ | (apply Ent.cons; (· repeat (first | exact Pick.here | (refine Pick.sl ?_; (· repeat (first | exact List.Mem.head _ | assumption | apply List.Mem.tail))) | apply Pick.there))) | (refine Ent.trans (Ent.drop _ _) ?_))))
        | (refine SG.retE (Ret.r2 Try.func47 rfl (.agg rfl ag57 (by repeat (first | exact Pick.here | apply Pick.there)) rfl rfl) (.tmp rfl)) ?_ ⟨_, _, _, _, _, _, rdU_ten (lead_eq (by omega) (by omega) (fun j h hj => hall j h (by omega)) (.inl rfl)), rfl, rfl⟩; (repeat (first | exact Ent.refl _ | (apply Ent.cons; (· repeat (first | exact Pick.here | (refine Pick.sl ?_; (· repeat (first | exact List.Mem.head _ | assumption | apply List.Mem.tail))) | apply Pick.there))) | (refine Ent.trans (Ent.drop _ _) ?_))))
        | (refine SG.retE (Ret.r2 Try.func47 rfl (.agg rfl ag57 (by repeat (first | exact Pick.here | apply Pick.there)) rfl rfl) (.tmp rfl)) ?_ ⟨_, _, _, _, _, _, rdU_short (lead_eq (by omega) hil hall (.inr (.inl (by omega)))) (by omega) (by omega), rfl, rfl⟩; (repeat (first | exact Ent.refl _ | (apply Ent.cons; (· repeat (first | exact Pick.here | (refine Pick.sl ?_; (· repeat (first | exact List.Mem.head _ | assumption | apply List.Mem.tail))) | apply Pick.there))) | (refine Ent.trans (Ent.drop _ _) ?_))))
        | (refine SG.retE (Ret.r2 Try.func47 rfl (.agg rfl ag57 (by repeat (first | exact Pick.here | apply Pick.there)) rfl rfl) (.tmp rfl)) ?_ ⟨_, _, _, _, _, _, rdU_form (lead_eq (by omega) hil hall (.inr (.inr ⟨by omega, by omega⟩))) (by omega) (by omega) (by omega), rfl, rfl⟩; (repeat (first | exact Ent.refl _ | (apply Ent.cons; (· repeat (first | exact Pick.here | (refine Pick.sl ?_; (· repeat (first | exact List.Mem.head _ | assumption | apply List.Mem.tail))) | apply Pick.there))) | (refine Ent.trans (Ent.drop _ _) ?_))))
        | (refine SG.retE (Ret.r2 Try.func47 rfl (.agg rfl ag57 (by repeat (first | exact Pick.here | apply Pick.there)) rfl rfl) (.tmp rfl)) ?_ ⟨_, _, _, _, _, _, rdU_ok (lead_eq (by omega) hil hall (.inr (.inr ⟨by omega, by omega⟩))) (by omega) (by omega) (by omega), rfl, rfl⟩; (repeat (first | exact Ent.refl _ | (apply Ent.cons; (· repeat (first | exact Pick.here | (refine Pick.sl ?_; (· repeat (first | exact List.Mem.head _ | assumption | apply List.Mem.tail))) | apply Pick.there))) | (refine Ent.trans (Ent.drop _ _) ?_))))
      · skip
        refine RL.nil ?_
        refine SG.cond_false rfl ?_
        refine SG.skip ?_
        refine SG.seq ?_
        refine SG.seq ?_
        refine SG.region ?_
        refine RL.val (Wanted.free rfl) (V.move rfl rfl) rfl ?_
        refine RL.val (Wanted.free rfl) (V.fieldAddr rfl rfl fo57_0) rfl ?_
        refine RL.val (Wanted.free rfl) (V.load rfl on23 rfl (by repeat (first | exact Pick.here | apply Pick.there)) rfl) rfl ?_
        refine RL.val (Wanted.free rfl) (V.len rfl rfl el23.under rfl) rfl ?_
        refine RL.cmp (Wanted.free rfl) (V.bin rfl rfl rfl B.eql) rfl (fun h386 => ?_) (fun h386 => ?_)
        · skip
          refine RL.nil ?_
          refine SG.cond_true rfl ?_
          refine SG.seq ?_
          refine SG.region ?_
          refine RL.val (Wanted.free rfl) (V.loadAgg (us := _) rfl ag57 rfl (by repeat (first | exact Pick.here | apply Pick.there)) rfl rfl) rfl ?_
          refine RL.eff (Wanted.free rfl) (E.call rfl go54 rfl (xFail_ok)) rfl ?_
          rintro _ _ ⟨rfl, rfl⟩
          rw [if_pos rfl]
          refine RL.eff (Wanted.free rfl) (E.storeAgg rfl rfl rfl rfl sz57 (by repeat (first | exact Pick.here | apply Pick.there)) (by first | (simp [Value.oneCell']; done) | (simp [setAt, Value.oneCell']; done)) (by first | (simp; done) | (simp [setAt]; done))) rfl ?_
          rintro _ _ rfl
          refine RL.val (Wanted.free rfl) (V.assign rfl rfl) rfl ?_
          refine RL.nil ?_
          first
          | (exfalso; omega)
          | (refine SG.retE (Ret.r2 Try.func47 rfl (.agg rfl ag57 (by repeat (first | exact Pick.here | apply Pick.there)) rfl rfl) (.tmp rfl)) ?_ ⟨_, _, _, _, _, _, rdU_err (by omega), rfl, rfl⟩; (repeat (first | exact Ent.refl _ | (apply Ent.cons; (· repeat (first | exact Pick.here | (refine Pick.sl ?_; (· repeat (first | exact List.Mem.head _ | assumption | apply List.Mem.tail))) | apply Pick.there))) | (refine Ent.trans (Ent.drop _ _) ?_))))
          | (refine SG.retE (Ret.r2 Try.func47 rfl (.agg rfl ag57 (by repeat (first | exact Pick.here | apply Pick.there)) rfl rfl) (.tmp rfl)) ?_ ⟨_, _, _, _, _, _, rdU_ten (lead_eq (by omega) (by omega) (fun j h hj => hall j h (by omega)) (.inl rfl)), rfl, rfl⟩; (repeat (first | exact Ent.refl _ | (apply Ent.cons; (· repeat (first | exact Pick.here | (refine Pick.sl ?_; (· repeat (first | exact List.Mem.head _ | assumption | apply List.Mem.tail))) | apply Pick.there))) | (refine Ent.trans (Ent.drop _ _) ?_))))
          | (refine SG.retE (Ret.r2 Try.func47 rfl (.agg rfl ag57 (by repeat (first | exact Pick.here | apply Pick.there)) rfl rfl) (.tmp rfl)) ?_ ⟨_, _, _, _, _, _, rdU_short (lead_eq (by omega) hil hall (.inr (.inl (by omega)))) (by omega) (by omega), rfl, rfl⟩; (repeat (first | exact Ent.refl _ | (apply Ent.cons; (· repeat (first | exact Pick.here | (refine Pick.sl ?_; (· repeat (first | exact List.Mem.head _ | assumption | apply List.Mem.tail))) | apply Pick.there))) | (refine Ent.trans (Ent.drop _ _) ?_))))
          | (refine SG.retE (Ret.r2 Try.func47 rfl (.agg rfl ag57 (by repeat (first | exact Pick.here | apply Pick.there)) rfl rfl) (.tmp rfl)) ?_ ⟨_, _, _, _, _, _, rdU_form (lead_eq (by omega) hil hall (.inr (.inr ⟨by omega, by omega⟩))) (by omega) (by omega) (by omega), rfl, rfl⟩; (repeat (first | exact Ent.refl _ | (apply Ent.cons; (· repeat (first | exact Pick.here | (refine Pick.sl ?_; (· repeat (first | exact List.Mem.head _ | assumption | apply List.Mem.tail))) | apply Pick.there))) | (refine Ent.trans (Ent.drop _ _) ?_))))
          | (refine SG.retE (Ret.r2 Try.func47 rfl (.agg rfl ag57 (by repeat (first | exact Pick.here | apply Pick.there)) rfl rfl) (.tmp rfl)) ?_ ⟨_, _, _, _, _, _, rdU_ok (lead_eq (by omega) hil hall (.inr (.inr ⟨by omega, by omega⟩))) (by omega) (by omega) (by omega), rfl, rfl⟩; (repeat (first | exact Ent.refl _ | (apply Ent.cons; (· repeat (first | exact Pick.here | (refine Pick.sl ?_; (· repeat (first | exact List.Mem.head _ | assumption | apply List.Mem.tail))) | apply Pick.there))) | (refine Ent.trans (Ent.drop _ _) ?_))))
        · skip
          refine RL.nil ?_
          refine SG.cond_false rfl ?_
          refine SG.skip ?_
          refine SG.seq ?_
          refine SG.seq ?_
          refine SG.region ?_
          refine RL.val (Wanted.free rfl) (V.move rfl rfl) rfl ?_
          refine RL.cmp (Wanted.free rfl) (V.bin rfl rfl rfl B.eql) rfl (fun h392 => ?_) (fun h392 => ?_)
          · skip
            refine RL.val (Wanted.free rfl) (V.move rfl rfl) rfl ?_
            refine RL.val (Wanted.yes rfl rfl rfl rfl) (V.fieldAddr rfl rfl fo57_0) rfl ?_
            refine RL.val (Wanted.yes rfl rfl rfl rfl) (V.load rfl on23 rfl (by repeat (first | exact Pick.here | apply Pick.there)) rfl) rfl ?_
            refine RL.val (Wanted.yes rfl rfl rfl rfl) (V.move rfl rfl) rfl ?_
            refine RL.val (Wanted.yes rfl rfl rfl rfl) (V.indexSl rfl el23.slice rfl rfl (by repeat (first | exact List.Mem.head _ | assumption | apply List.Mem.tail)) (by first | rfl | omega) (by omega)) rfl ?_
            refine RL.val (Wanted.yes rfl rfl rfl rfl) (V.loadSc rfl on5 rfl (by repeat (first | exact List.Mem.head _ | assumption | apply List.Mem.tail)) (List.getElem?_eq_getElem (by omega))) rfl ?_
            refine RL.cmp (Wanted.yes rfl rfl rfl rfl) (V.bin rfl rfl rfl B.gtr) rfl (fun h399 => ?_) (fun h399 => ?_)
            · skip
              refine RL.val (Wanted.free rfl) (V.pick_true rfl rfl rfl) rfl ?_
              refine RL.val (Wanted.free rfl) (V.move rfl rfl) rfl ?_
              refine RL.skip (Wanted.no rfl rfl rfl rfl rfl) rfl ?_
              refine RL.skip (Wanted.no rfl rfl rfl rfl rfl) rfl ?_
              refine RL.skip (Wanted.no rfl rfl rfl rfl rfl) rfl ?_
              refine RL.skip (Wanted.un rfl rfl rfl) rfl ?_
              refine RL.skip (Wanted.un rfl rfl rfl) rfl ?_
              refine RL.skip (Wanted.un rfl rfl rfl) rfl ?_
              refine RL.skip (Wanted.un rfl rfl rfl) rfl ?_
              refine RL.skip (Wanted.un rfl rfl rfl) rfl ?_
              refine RL.skip (Wanted.un rfl rfl rfl) rfl ?_
              refine RL.skip (Wanted.no rfl rfl rfl rfl rfl) rfl ?_
              refine RL.val (Wanted.free rfl) (V.pick_true rfl rfl rfl) rfl ?_
              refine RL.nil ?_
              refine SG.cond_true rfl ?_
              refine SG.seq ?_
              refine SG.region ?_
              refine RL.val (Wanted.free rfl) (V.loadAgg (us := _) rfl ag57 rfl (by repeat (first | exact Pick.here | apply Pick.there)) rfl rfl) rfl ?_
              refine RL.eff (Wanted.free rfl) (E.call rfl go54 rfl (xFail_ok)) rfl ?_
              rintro _ _ ⟨rfl, rfl⟩
              rw [if_pos rfl]
              refine RL.eff (Wanted.free rfl) (E.storeAgg rfl rfl rfl rfl sz57 (by repeat (first | exact Pick.here | apply Pick.there)) (by first | (simp [Value.oneCell']; done) | (simp [setAt, Value.oneCell']; done)) (by first | (simp; done) | (simp [setAt]; done))) rfl ?_
              rintro _ _ rfl
              refine RL.val (Wanted.free rfl) (V.assign rfl rfl) rfl ?_
              refine RL.nil ?_
              first
              | (exfalso; omega)
              | (refine SG.retE (Ret.r2 Try.func47 rfl (.agg rfl ag57 (by repeat (first | exact Pick.here | apply Pick.there)) rfl rfl) (.tmp rfl)) ?_ ⟨_, _, _, _, _, _, rdU_err (by omega), rfl, rfl⟩; (repeat (first | exact Ent.refl _ | (apply Ent.cons; (· repeat (first | exact Pick.here | (refine Pick.sl ?_; (· repeat (first | exact List.Mem.head _ | assumption | apply List.Mem.tail))) | apply Pick.there))) | (refine Ent.trans (Ent.drop _ _) ?_))))
              | (refine SG.retE (Ret.r2 Try.func47 rfl (.agg rfl ag57 (by repeat (first | exact Pick.here | apply Pick.there)) rfl rfl) (.tmp rfl)) ?_ ⟨_, _, _, _, _, _, rdU_ten (lead_eq (by omega) (by omega) (fun j h hj => hall j h (by omega)) (.inl rfl)), rfl, rfl⟩; (repeat (first | exact Ent.refl _ | (apply Ent.cons; (· repeat (first | exact Pick.here | (refine Pick.sl ?_; (· repeat (first | exact List.Mem.head _ | assumption | apply List.Mem.tail))) | apply Pick.there))) | (refine Ent.trans (Ent.drop _ _) ?_))))
              | (refine SG.retE (Ret.r2 Try.func47 rfl (.agg rfl ag57 (by repeat (first | exact Pick.here | apply Pick.there)) rfl rfl) (.tmp rfl)) ?_ ⟨_, _, _, _, _, _, rdU_short (lead_eq (by omega) hil hall (.inr (.inl (by omega)))) (by omega) (by omega), rfl, rfl⟩; (repeat (first | exact Ent.refl _ | (apply Ent.cons; (· repeat (first | exact Pick.here | (refine Pick.sl ?_; (· repeat (first | exact List.Mem.head _ | assumption | apply List.Mem.tail))) | apply Pick.there))) | (refine Ent.trans (Ent.drop _ _) ?_))))
              | (refine SG.retE (Ret.r2 Try.func47 rfl (.agg rfl ag57 (by repeat (first | exact Pick.here | apply Pick.there)) rfl rfl) (.tmp rfl)) ?_ ⟨_, _, _, _, _, _, rdU_form (lead_eq (by omega) hil hall (.inr (.inr ⟨by omega, by omega⟩))) (by omega) (by omega) (by omega), rfl, rfl⟩; (repeat (first | exact Ent.refl _ | (apply Ent.cons; (· repeat (first | exact Pick.here | (refine Pick.sl ?_; (· repeat (first | exact List.Mem.head _ | assumption | apply List.Mem.tail))) | apply Pick.there))) | (refine Ent.trans (Ent.drop _ _) ?_))))
              | (refine SG.retE (Ret.r2 Try.func47 rfl (.agg rfl ag57 (by repeat (first | exact Pick.here | apply Pick.there)) rfl rfl) (.tmp rfl)) ?_ ⟨_, _, _, _, _, _, rdU_ok (lead_eq (by omega) hil hall (.inr (.inr ⟨by omega, by omega⟩))) (by omega) (by omega) (by omega), rfl, rfl⟩; (repeat (first | exact Ent.refl _ | (apply Ent.cons; (· repeat (first | exact Pick.here | (refine Pick.sl ?_; (· repeat (first | exact List.Mem.head _ | assumption | apply List.Mem.tail))) | apply Pick.there))) | (refine Ent.trans (Ent.drop _ _) ?_))))
            · skip
              refine RL.val (Wanted.free rfl) (V.pick_true rfl rfl rfl) rfl ?_
              refine RL.val (Wanted.free rfl) (V.move rfl rfl) rfl ?_
              refine RL.val (Wanted.yes rfl rfl rfl rfl) (V.move rfl rfl) rfl ?_
              refine RL.cmp (Wanted.yes rfl rfl rfl rfl) (V.bin rfl rfl rfl B.gtr) rfl (fun h407 => ?_) (fun h407 => ?_)
              · skip
                refine RL.val (Wanted.yes rfl rfl rfl rfl) (V.move rfl rfl) rfl ?_
                refine RL.val (Wanted.yes rfl rfl rfl rfl) (V.fieldAddr rfl rfl fo57_0) rfl ?_
                refine RL.val (Wanted.yes rfl rfl rfl rfl) (V.load rfl on23 rfl (by repeat (first | exact Pick.here | apply Pick.there)) rfl) rfl ?_
                refine RL.val (Wanted.yes rfl rfl rfl rfl) (V.move rfl rfl) rfl ?_
                refine RL.val (Wanted.yes rfl rfl rfl rfl) (V.indexSl rfl el23.slice rfl rfl (by repeat (first | exact List.Mem.head _ | assumption | apply List.Mem.tail)) (by first | rfl | omega) (by omega)) rfl ?_
                refine RL.val (Wanted.yes rfl rfl rfl rfl) (V.loadSc rfl on5 rfl (by repeat (first | exact List.Mem.head _ | assumption | apply List.Mem.tail)) (List.getElem?_eq_getElem (by omega))) rfl ?_
                refine RL.cmp (Wanted.yes rfl rfl rfl rfl) (V.bin rfl rfl rfl B.eql) rfl (fun h414 => ?_) (fun h414 => ?_)
                · skip
                  refine RL.val (Wanted.yes rfl rfl rfl rfl) (V.pick_true rfl rfl rfl) rfl ?_
                  refine RL.val (Wanted.free rfl) (V.pick_false rfl rfl rfl) rfl ?_
                  refine RL.nil ?_
                  refine SG.cond_true rfl ?_
                  refine SG.seq ?_
                  refine SG.region ?_
                  refine RL.val (Wanted.free rfl) (V.loadAgg (us := _) rfl ag57 rfl (by repeat (first | exact Pick.here | apply Pick.there)) rfl rfl) rfl ?_
                  refine RL.eff (Wanted.free rfl) (E.call rfl go54 rfl (xFail_ok)) rfl ?_
                  rintro _ _ ⟨rfl, rfl⟩
                  rw [if_pos rfl]
                  refine RL.eff (Wanted.free rfl) (E.storeAgg rfl rfl rfl rfl sz57 (by repeat (first | exact Pick.here | apply Pick.there)) (by first | (simp [Value.oneCell']; done) | (simp [setAt, Value.oneCell']; done)) (by first | (simp; done) | (simp [setAt]; done))) rfl ?_
                  rintro _ _ rfl
                  refine RL.val (Wanted.free rfl) (V.assign rfl rfl) rfl ?_
                  refine RL.nil ?_
                  first
                  | (exfalso; omega)
                  | (refine SG.retE (Ret.r2 Try.func47 rfl (.agg rfl ag57 (by repeat (first | exact Pick.here | apply Pick.there)) rfl rfl) (.tmp rfl)) ?_ ⟨_, _, _, _, _, _, rdU_err (by omega), rfl, rfl⟩; (repeat (first | exact Ent.refl _ | (apply Ent.cons; (· repeat (first | exact Pick.here | (refine Pick.sl ?_; (· repeat (first | exact List.Mem.head _ | assumption | apply List.Mem.tail))) | apply Pick.there))) | (refine Ent.trans (Ent.drop _ _) ?_))))
                  | (refine SG.retE (Ret.r2 Try.func47 rfl (.agg rfl ag57 (by repeat (first | exact Pick.here | apply Pick.there)) rfl rfl) (.tmp rfl)) ?_ ⟨_, _, _, _, _, _, rdU_ten (lead_eq (by omega) (by omega) (fun j h hj => hall j h (by omega)) (.inl rfl)), rfl, rfl⟩; (repeat (first | exact Ent.refl _ | (apply Ent.cons; (· repeat (first | exact Pick.here | (refine Pick.sl ?_; (· repeat (first | exact List.Mem.head _ | assumption | apply List.Mem.tail))) | apply Pick.there))) | (refine Ent.trans (Ent.drop _ _) ?_))))
                  | (refine SG.retE (Ret.r2 Try.func47 rfl (.agg rfl ag57 (by repeat (first | exact Pick.here | apply Pick.there)) rfl rfl) (.tmp rfl)) ?_ ⟨_, _, _, _, _, _, rdU_short (lead_eq (by omega) hil hall (.inr (.inl (by omega)))) (by omega) (by omega), rfl, rfl⟩; (repeat (first | exact Ent.refl _ | (apply Ent.cons; (· repeat (first | exact Pick.here | (refine Pick.sl ?_; (· repeat (first | exact List.Mem.head _ | assumption | apply List.Mem.tail))) | apply Pick.there))) | (refine Ent.trans (Ent.drop _ _) ?_))))
                  | (refine SG.retE (Ret.r2 Try.func47 rfl (.agg rfl ag57 (by repeat (first | exact Pick.here | apply Pick.there)) rfl rfl) (.tmp rfl)) ?_ ⟨_, _, _, _, _, _, rdU_form (lead_eq (by omega) hil hall (.inr (.inr ⟨by omega, by omega⟩))) (by omega) (by omega) (by omega), rfl, rfl⟩; (repeat (first | exact Ent.refl _ | (apply Ent.cons; (· repeat (first | exact Pick.here | (refine Pick.sl ?_; (· repeat (first | exact List.Mem.head _ | assumption | apply List.Mem.tail))) | apply Pick.there))) | (refine Ent.trans (Ent.drop _ _) ?_))))
                  | (refine SG.retE (Ret.r2 Try.func47 rfl (.agg rfl ag57 (by repeat (first | exact Pick.here | apply Pick.there)) rfl rfl) (.tmp rfl)) ?_ ⟨_, _, _, _, _, _, rdU_ok (lead_eq (by omega) hil hall (.inr (.inr ⟨by omega, by omega⟩))) (by omega) (by omega) (by omega), rfl, rfl⟩; (repeat (first | exact Ent.refl _ | (apply Ent.cons; (· repeat (first | exact Pick.here | (refine Pick.sl ?_; (· repeat (first | exact List.Mem.head _ | assumption | apply List.Mem.tail))) | apply Pick.there))) | (refine Ent.trans (Ent.drop _ _) ?_))))
                · skip
                  refine RL.val (Wanted.yes rfl rfl rfl rfl) (V.pick_true rfl rfl rfl) rfl ?_
                  refine RL.val (Wanted.free rfl) (V.pick_false rfl rfl rfl) rfl ?_
                  refine RL.nil ?_
                  refine SG.cond_false rfl ?_
                  refine SG.skip ?_
                  refine SG.seq ?_
                  refine SG.region ?_
                  refine RL.val (Wanted.free rfl) (V.assign rfl rfl) rfl ?_
                  refine RL.nil ?_
                  refine SG.seq ?_
                  refine SG.seq ?_
                  refine SG.region ?_
                  refine RL.val (Wanted.free rfl) (V.move rfl rfl) rfl ?_
                  refine RL.val (Wanted.free rfl) (V.assign rfl rfl) rfl ?_
                  refine RL.nil ?_
                  refine SG.block ?_
                  refine SG.let_ (d := 5) (u' := v64 (UInt64.ofNat (val ((l.take (i + 1)).drop (i + 1))))) rfl (by rw [List.drop_of_length_le (by rw [List.length_take]; omega)]; rfl) ?_
                  refine SG.let_ (d := 6) (u' := vI (((i + 1 : Nat) : Int) - 1)) rfl (by congr 1; omega) ?_
                  refine SG.weaken (SG.loop2 (fun m al M => ∃ j : Nat, j ≤ i + 1 ∧ j = m ∧ al = [(1, ptr b1 0), (2, ptr b2 0), (4, vI i), (5, v64 (UInt64.ofNat (val ((l.take (i + 1)).drop j)))), (6, vI ((j : Int) - 1))] ∧ M = Blk b1 57 [.slice a l.length c, vI 0] :: Blk b2 57 [.slice none 0 0, vI 0] :: L) (m0 := _) ⟨i + 1, by omega, rfl, rfl, rfl⟩ ?_) ?_ ?_
                  rotate_left
                  · repeat (first | exact EnvLe.nil _ | refine EnvLe.cons rfl ?_)
                  · repeat (first | exact Ent.refl _ | (apply Ent.cons; (· repeat (first | exact Pick.here | (refine Pick.sl ?_; (· repeat (first | exact List.Mem.head _ | assumption | apply List.Mem.tail))) | apply Pick.there))) | (refine Ent.trans (Ent.drop _ _) ?_))
                  rintro _ _ _ ⟨j, hj1, rfl, rfl, rfl⟩ ih1
                  refine SG.seq ?_
                  refine SG.seq ?_
                  refine SG.region ?_
                  refine RL.val (Wanted.free rfl) (V.move rfl rfl) rfl ?_
                  refine RL.cmp (Wanted.free rfl) (V.bin rfl rfl rfl B.geq) rfl (fun h423 => ?_) (fun h423 => ?_)
                  · skip
                    refine RL.nil ?_
                    refine SG.cond_true rfl ?_
                    refine SG.skip ?_
                    refine SG.seq ?_
                    refine SG.block ?_
                    refine SG.region ?_
                    obtain ⟨j', rfl⟩ : ∃ j', j = j' + 1 := ⟨j - 1, by omega⟩
                    refine RL.val (Wanted.free rfl) (V.move rfl rfl) rfl ?_
                    refine RL.val (Wanted.free rfl) (V.bin rfl rfl rfl (B.mul64 (x := 128))) rfl ?_
                    refine RL.val (Wanted.free rfl) (V.fieldAddr rfl rfl fo57_0) rfl ?_
                    refine RL.val (Wanted.free rfl) (V.load rfl on23 rfl (by repeat (first | exact Pick.here | apply Pick.there)) rfl) rfl ?_
                    refine RL.val (Wanted.free rfl) (V.move rfl rfl) rfl ?_
                    refine RL.val (Wanted.free rfl) (V.indexSl (j := j') rfl el23.slice rfl rfl (by repeat (first | exact List.Mem.head _ | assumption | apply List.Mem.tail)) (by first | rfl | omega) (by omega)) rfl ?_
                    refine RL.val (Wanted.free rfl) (V.loadSc rfl on5 rfl (by repeat (first | exact List.Mem.head _ | assumption | apply List.Mem.tail)) (List.getElem?_eq_getElem (by omega))) rfl ?_
                    refine RL.val (Wanted.free rfl) (V.bin rfl rfl rfl (B.rem8 (y := 128) (by decide))) rfl ?_
                    refine RL.val (Wanted.free rfl) (V.to64 rfl ⟨_, ui5⟩ ui31 rfl) rfl ?_
                    refine RL.val (Wanted.free rfl) (V.bin rfl rfl rfl (B.add64)) rfl ?_
                    have hw : (l.take (i + 1))[j']'(by rw [List.length_take]; omega) = l[j'] := List.getElem_take
                    have hst := dot_step (w := l.take (i + 1)) (j := j') (by rw [List.length_take]; omega)
                    rw [hw] at hst
                    rw [hst]
                    refine RL.val (Wanted.free rfl) (V.assign rfl rfl) rfl ?_
                    refine RL.nil ?_
                    refine SG.inBlock ?_
                    refine SG.region ?_
                    refine RL.val (Wanted.free rfl) (V.move rfl rfl) rfl ?_
                    refine RL.val (Wanted.free rfl) (V.bin rfl rfl rfl (B.subI (by omega) (by omega))) rfl ?_
                    rw [show ((j' + 1 : Nat) : Int) - 1 - 1 = (j' : Int) - 1 from by omega]
                    refine RL.val (Wanted.free rfl) (V.assign rfl rfl) rfl ?_
                    refine RL.nil ?_
                    refine SG.weaken (ih1 _ _ _ ?_ ⟨j', by omega, rfl, rfl, rfl⟩) ?_ ?_
                    · omega
                    · repeat (first | exact EnvLe.nil _ | refine EnvLe.cons rfl ?_)
                    · repeat (first | exact Ent.refl _ | (apply Ent.cons; (· repeat (first | exact Pick.here | (refine Pick.sl ?_; (· repeat (first | exact List.Mem.head _ | assumption | apply List.Mem.tail))) | apply Pick.there))) | (refine Ent.trans (Ent.drop _ _) ?_))
                  · skip
                    refine RL.nil ?_
                    refine SG.cond_false rfl ?_
                    refine SG.exit rfl ?_
                    refine SG.seq ?_
                    have hj0 : j = 0 := by omega
                    subst hj0
                    rw [List.drop_zero]
                    refine SG.region ?_
                    refine RL.val (Wanted.free rfl) (V.fieldAddr rfl rfl fo57_0) rfl ?_
                    refine RL.val (Wanted.free rfl) (V.load rfl on23 rfl (by repeat (first | exact Pick.here | apply Pick.there)) rfl) rfl ?_
                    refine RL.val (Wanted.free rfl) (V.move rfl rfl) rfl ?_
                    refine RL.val (Wanted.free rfl) (V.bin rfl rfl rfl (B.addI (by omega) (by omega))) rfl ?_
                    refine RL.eff (Wanted.free rfl) (E.slice (lo := i + 1) (hi := l.length) rfl el23.slice rfl (by repeat (first | exact List.Mem.head _ | assumption | apply List.Mem.tail)) ⟨_, _, rfl, (by first | rfl | omega)⟩ rfl (by omega) (by omega)) rfl ?_
                    intro _ _ hK442
                    try rw [List.drop_zero] at hK442
                    iterate 2 (try rw [Nat.sub_zero] at hK442)
                    rw [show (l.drop (i + 1)).take (l.length - (i + 1)) = l.drop (i + 1) from List.take_of_length_le (by simp)] at hK442
                    obtain ⟨a442, rfl, rfl⟩ := hK442
                    refine RL.val (Wanted.free rfl) (V.buildS [(0, _)] rfl bs57 (by exact ⟨rfl, ⟨_, rfl, rfl⟩, trivial⟩) rfl) rfl ?_
                    refine RL.val (Wanted.free rfl) (V.move rfl rfl) rfl ?_
                    refine RL.eff (Wanted.free rfl) (E.storeAgg rfl rfl rfl rfl sz57 (by repeat (first | exact Pick.here | apply Pick.there)) (by first | (simp [Value.oneCell']; done) | (simp [setAt, Value.oneCell']; done)) (by first | (simp; done) | (simp [setAt]; done))) rfl ?_
                    rintro _ _ rfl
                    refine RL.val (Wanted.free rfl) (V.assign rfl rfl) rfl ?_
                    refine RL.nil ?_
                    first
                    | (exfalso; omega)
                    | (refine SG.retE (Ret.r2 Try.func47 rfl (.agg rfl ag57 (by repeat (first | exact Pick.here | apply Pick.there)) rfl rfl) (.tmp rfl)) ?_ ⟨_, _, _, _, _, _, rdU_err (by omega), rfl, rfl⟩; (repeat (first | exact Ent.refl _ | (apply Ent.cons; (· repeat (first | exact Pick.here | (refine Pick.sl ?_; (· repeat (first | exact List.Mem.head _ | assumption | apply List.Mem.tail))) | apply Pick.there))) | (refine Ent.trans (Ent.drop _ _) ?_))))
                    | (refine SG.retE (Ret.r2 Try.func47 rfl (.agg rfl ag57 (by repeat (first | exact Pick.here | apply Pick.there)) rfl rfl) (.tmp rfl)) ?_ ⟨_, _, _, _, _, _, rdU_ten (lead_eq (by omega) (by omega) (fun j h hj => hall j h (by omega)) (.inl rfl)), rfl, rfl⟩; (repeat (first | exact Ent.refl _ | (apply Ent.cons; (· repeat (first | exact Pick.here | (refine Pick.sl ?_; (· repeat (first | exact List.Mem.head _ | assumption | apply List.Mem.tail))) | apply Pick.there))) | (refine Ent.trans (Ent.drop _ _) ?_))))
                    | (refine SG.retE (Ret.r2 Try.func47 rfl (.agg rfl ag57 (by repeat (first | exact Pick.here | apply Pick.there)) rfl rfl) (.tmp rfl)) ?_ ⟨_, _, _, _, _, _, rdU_short (lead_eq (by omega) hil hall (.inr (.inl (by omega)))) (by omega) (by omega), rfl, rfl⟩; (repeat (first | exact Ent.refl _ | (apply Ent.cons; (· repeat (first | exact Pick.here | (refine Pick.sl ?_; (· repeat (first | exact List.Mem.head _ | assumption | apply List.Mem.tail))) | apply Pick.there))) | (refine Ent.trans (Ent.drop _ _) ?_))))
                    | (refine SG.retE (Ret.r2 Try.func47 rfl (.agg rfl ag57 (by repeat (first | exact Pick.here | apply Pick.there)) rfl rfl) (.tmp rfl)) ?_ ⟨_, _, _, _, _, _, rdU_form (lead_eq (by omega) hil hall (.inr (.inr ⟨by omega, by omega⟩))) (by omega) (by omega) (by omega), rfl, rfl⟩; (repeat (first | exact Ent.refl _ | (apply Ent.cons; (· repeat (first | exact Pick.here | (refine Pick.sl ?_; (· repeat (first | exact List.Mem.head _ | assumption | apply List.Mem.tail))) | apply Pick.there))) | (refine Ent.trans (Ent.drop _ _) ?_))))
                    | (refine SG.retE (Ret.r2 Try.func47 rfl (.agg rfl ag57 (by repeat (first | exact Pick.here | apply Pick.there)) rfl rfl) (.tmp rfl)) ?_ ⟨_, _, _, _, _, _, rdU_ok (lead_eq (by omega) hil hall (.inr (.inr ⟨by omega, by omega⟩))) (by omega) (by omega) (by omega), rfl, rfl⟩; (repeat (first | exact Ent.refl _ | (apply Ent.cons; (· repeat (first | exact Pick.here | (refine Pick.sl ?_; (· repeat (first | exact List.Mem.head _ | assumption | apply List.Mem.tail))) | apply Pick.there))) | (refine Ent.trans (Ent.drop _ _) ?_))))
              · skip
                refine RL.val (Wanted.yes rfl rfl rfl rfl) (V.move rfl rfl) rfl ?_
                refine RL.skip (Wanted.no rfl rfl rfl rfl rfl) rfl ?_
                refine RL.skip (Wanted.no rfl rfl rfl rfl rfl) rfl ?_
                refine RL.skip (Wanted.no rfl rfl rfl rfl rfl) rfl ?_
                refine RL.skip (Wanted.no rfl rfl rfl rfl rfl) rfl ?_
                refine RL.skip (Wanted.no rfl rfl rfl rfl rfl) rfl ?_
                refine RL.skip (Wanted.no rfl rfl rfl rfl rfl) rfl ?_
                refine RL.val (Wanted.yes rfl rfl rfl rfl) (V.pick_false rfl rfl rfl) rfl ?_
                refine RL.val (Wanted.free rfl) (V.pick_false rfl rfl rfl) rfl ?_
                refine RL.nil ?_
                refine SG.cond_false rfl ?_
                refine SG.skip ?_
                refine SG.seq ?_
                refine SG.region ?_
                refine RL.val (Wanted.free rfl) (V.assign rfl rfl) rfl ?_
                refine RL.nil ?_
                refine SG.seq ?_
                refine SG.seq ?_
                refine SG.region ?_
                refine RL.val (Wanted.free rfl) (V.move rfl rfl) rfl ?_
                refine RL.val (Wanted.free rfl) (V.assign rfl rfl) rfl ?_
                refine RL.nil ?_
                refine SG.block ?_
                refine SG.let_ (d := 5) (u' := v64 (UInt64.ofNat (val ((l.take (i + 1)).drop (i + 1))))) rfl (by rw [List.drop_of_length_le (by rw [List.length_take]; omega)]; rfl) ?_
                refine SG.let_ (d := 6) (u' := vI (((i + 1 : Nat) : Int) - 1)) rfl (by congr 1; omega) ?_
                refine SG.weaken (SG.loop2 (fun m al M => ∃ j : Nat, j ≤ i + 1 ∧ j = m ∧ al = [(1, ptr b1 0), (2, ptr b2 0), (4, vI i), (5, v64 (UInt64.ofNat (val ((l.take (i + 1)).drop j)))), (6, vI ((j : Int) - 1))] ∧ M = Blk b1 57 [.slice a l.length c, vI 0] :: Blk b2 57 [.slice none 0 0, vI 0] :: L) (m0 := _) ⟨i + 1, by omega, rfl, rfl, rfl⟩ ?_) ?_ ?_
                rotate_left
                · repeat (first | exact EnvLe.nil _ | refine EnvLe.cons rfl ?_)
                · repeat (first | exact Ent.refl _ | (apply Ent.cons; (· repeat (first | exact Pick.here | (refine Pick.sl ?_; (· repeat (first | exact List.Mem.head _ | assumption | apply List.Mem.tail))) | apply Pick.there))) | (refine Ent.trans (Ent.drop _ _) ?_))
                rintro _ _ _ ⟨j, hj1, rfl, rfl, rfl⟩ ih1
                refine SG.seq ?_
                refine SG.seq ?_
                refine SG.region ?_
                refine RL.val (Wanted.free rfl) (V.move rfl rfl) rfl ?_
                refine RL.cmp (Wanted.free rfl) (V.bin rfl rfl rfl B.geq) rfl (fun h452 => ?_) (fun h452 => ?_)
                · skip
                  refine RL.nil ?_
                  refine SG.cond_true rfl ?_
                  refine SG.skip ?_
                  refine SG.seq ?_
                  refine SG.block ?_
                  refine SG.region ?_
                  obtain ⟨j', rfl⟩ : ∃ j', j = j' + 1 := ⟨j - 1, by omega⟩
                  refine RL.val (Wanted.free rfl) (V.move rfl rfl) rfl ?_
                  refine RL.val (Wanted.free rfl) (V.bin rfl rfl rfl (B.mul64 (x := 128))) rfl ?_
                  refine RL.val (Wanted.free rfl) (V.fieldAddr rfl rfl fo57_0) rfl ?_
                  refine RL.val (Wanted.free rfl) (V.load rfl on23 rfl (by repeat (first | exact Pick.here | apply Pick.there)) rfl) rfl ?_
                  refine RL.val (Wanted.free rfl) (V.move rfl rfl) rfl ?_
                  refine RL.val (Wanted.free rfl) (V.indexSl (j := j') rfl el23.slice rfl rfl (by repeat (first | exact List.Mem.head _ | assumption | apply List.Mem.tail)) (by first | rfl | omega) (by omega)) rfl ?_
                  refine RL.val (Wanted.free rfl) (V.loadSc rfl on5 rfl (by repeat (first | exact List.Mem.head _ | assumption | apply List.Mem.tail)) (List.getElem?_eq_getElem (by omega))) rfl ?_
                  refine RL.val (Wanted.free rfl) (V.bin rfl rfl rfl (B.rem8 (y := 128) (by decide))) rfl ?_
                  refine RL.val (Wanted.free rfl) (V.to64 rfl ⟨_, ui5⟩ ui31 rfl) rfl ?_
                  refine RL.val (Wanted.free rfl) (V.bin rfl rfl rfl (B.add64)) rfl ?_
                  have hw : (l.take (i + 1))[j']'(by rw [List.length_take]; omega) = l[j'] := List.getElem_take
                  have hst := dot_step (w := l.take (i + 1)) (j := j') (by rw [List.length_take]; omega)
                  rw [hw] at hst
                  rw [hst]
                  refine RL.val (Wanted.free rfl) (V.assign rfl rfl) rfl ?_
                  refine RL.nil ?_
                  refine SG.inBlock ?_
                  refine SG.region ?_
                  refine RL.val (Wanted.free rfl) (V.move rfl rfl) rfl ?_
                  refine RL.val (Wanted.free rfl) (V.bin rfl rfl rfl (B.subI (by omega) (by omega))) rfl ?_
                  rw [show ((j' + 1 : Nat) : Int) - 1 - 1 = (j' : Int) - 1 from by omega]
                  refine RL.val (Wanted.free rfl) (V.assign rfl rfl) rfl ?_
                  refine RL.nil ?_
                  refine SG.weaken (ih1 _ _ _ ?_ ⟨j', by omega, rfl, rfl, rfl⟩) ?_ ?_
                  · omega
                  · repeat (first | exact EnvLe.nil _ | refine EnvLe.cons rfl ?_)
                  · repeat (first | exact Ent.refl _ | (apply Ent.cons; (· repeat (first | exact Pick.here | (refine Pick.sl ?_; (· repeat (first | exact List.Mem.head _ | assumption | apply List.Mem.tail))) | apply Pick.there))) | (refine Ent.trans (Ent.drop _ _) ?_))
                · skip
                  refine RL.nil ?_
                  refine SG.cond_false rfl ?_
                  refine SG.exit rfl ?_
                  refine SG.seq ?_
                  have hj0 : j = 0 := by omega
                  subst hj0
                  rw [List.drop_zero]
                  refine SG.region ?_
                  refine RL.val (Wanted.free rfl) (V.fieldAddr rfl rfl fo57_0) rfl ?_
                  refine RL.val (Wanted.free rfl) (V.load rfl on23 rfl (by repeat (first | exact Pick.here | apply Pick.there)) rfl) rfl ?_
                  refine RL.val (Wanted.free rfl) (V.move rfl rfl) rfl ?_
                  refine RL.val (Wanted.free rfl) (V.bin rfl rfl rfl (B.addI (by omega) (by omega))) rfl ?_
                  refine RL.eff (Wanted.free rfl) (E.slice (lo := i + 1) (hi := l.length) rfl el23.slice rfl (by repeat (first | exact List.Mem.head _ | assumption | apply List.Mem.tail)) ⟨_, _, rfl, (by first | rfl | omega)⟩ rfl (by omega) (by omega)) rfl ?_
                  intro _ _ hK471
                  try rw [List.drop_zero] at hK471
                  iterate 2 (try rw [Nat.sub_zero] at hK471)
                  rw [show (l.drop (i + 1)).take (l.length - (i + 1)) = l.drop (i + 1) from List.take_of_length_le (by simp)] at hK471
                  obtain ⟨a471, rfl, rfl⟩ := hK471
                  refine RL.val (Wanted.free rfl) (V.buildS [(0, _)] rfl bs57 (by exact ⟨rfl, ⟨_, rfl, rfl⟩, trivial⟩) rfl) rfl ?_
                  refine RL.val (Wanted.free rfl) (V.move rfl rfl) rfl ?_
                  refine RL.eff (Wanted.free rfl) (E.storeAgg rfl rfl rfl rfl sz57 (by repeat (first | exact Pick.here | apply Pick.there)) (by first | (simp [Value.oneCell']; done) | (simp [setAt, Value.oneCell']; done)) (by first | (simp; done) | (simp [setAt]; done))) rfl ?_
                  rintro _ _ rfl
                  refine RL.val (Wanted.free rfl) (V.assign rfl rfl) rfl ?_
                  refine RL.nil ?_
                  first
                  | (exfalso; omega)
                  | (refine SG.retE (Ret.r2 Try.func47 rfl (.agg rfl ag57 (by repeat (first | exact Pick.here | apply Pick.there)) rfl rfl) (.tmp rfl)) ?_ ⟨_, _, _, _, _, _, rdU_err (by omega), rfl, rfl⟩; (repeat (first | exact Ent.refl _ | (apply Ent.cons; (· repeat (first | exact Pick.here | (refine Pick.sl ?_; (· repeat (first | exact List.Mem.head _ | assumption | apply List.Mem.tail))) | apply Pick.there))) | (refine Ent.trans (Ent.drop _ _) ?_))))
                  | (refine SG.retE (Ret.r2 Try.func47 rfl (.agg rfl ag57 (by repeat (first | exact Pick.here | apply Pick.there)) rfl rfl) (.tmp rfl)) ?_ ⟨_, _, _, _, _, _, rdU_ten (lead_eq (by omega) (by omega) (fun j h hj => hall j h (by omega)) (.inl rfl)), rfl, rfl⟩; (repeat (first | exact Ent.refl _ | (apply Ent.cons; (· repeat (first | exact Pick.here | (refine Pick.sl ?_; (· repeat (first | exact List.Mem.head _ | assumption | apply List.Mem.tail))) | apply Pick.there))) | (refine Ent.trans (Ent.drop _ _) ?_))))
                  | (refine SG.retE (Ret.r2 Try.func47 rfl (.agg rfl ag57 (by repeat (first | exact Pick.here | apply Pick.there)) rfl rfl) (.tmp rfl)) ?_ ⟨_, _, _, _, _, _, rdU_short (lead_eq (by omega) hil hall (.inr (.inl (by omega)))) (by omega) (by omega), rfl, rfl⟩; (repeat (first | exact Ent.refl _ | (apply Ent.cons; (· repeat (first | exact Pick.here | (refine Pick.sl ?_; (· repeat (first | exact List.Mem.head _ | assumption | apply List.Mem.tail))) | apply Pick.there))) | (refine Ent.trans (Ent.drop _ _) ?_))))
                  | (refine SG.retE (Ret.r2 Try.func47 rfl (.agg rfl ag57 (by repeat (first | exact Pick.here | apply Pick.there)) rfl rfl) (.tmp rfl)) ?_ ⟨_, _, _, _, _, _, rdU_form (lead_eq (by omega) hil hall (.inr (.inr ⟨by omega, by omega⟩))) (by omega) (by omega) (by omega), rfl, rfl⟩; (repeat (first | exact Ent.refl _ | (apply Ent.cons; (· repeat (first | exact Pick.here | (refine Pick.sl ?_; (· repeat (first | exact List.Mem.head _ | assumption | apply List.Mem.tail))) | apply Pick.there))) | (refine Ent.trans (Ent.drop _ _) ?_))))
                  | (refine SG.retE (Ret.r2 Try.func47 rfl (.agg rfl ag57 (by repeat (first | exact Pick.here | apply Pick.there)) rfl rfl) (.tmp rfl)) ?_ ⟨_, _, _, _, _, _, rdU_ok (lead_eq (by omega) hil hall (.inr (.inr ⟨by omega, by omega⟩))) (by omega) (by omega) (by omega), rfl, rfl⟩; (repeat (first | exact Ent.refl _ | (apply Ent.cons; (· repeat (first | exact Pick.here | (refine Pick.sl ?_; (· repeat (first | exact List.Mem.head _ | assumption | apply List.Mem.tail))) | apply Pick.there))) | (refine Ent.trans (Ent.drop _ _) ?_))))
          · skip
            refine RL.val (Wanted.free rfl) (V.move rfl rfl) rfl ?_
            refine RL.skip (Wanted.no rfl rfl rfl rfl rfl) rfl ?_
            refine RL.skip (Wanted.no rfl rfl rfl rfl rfl) rfl ?_
            refine RL.skip (Wanted.no rfl rfl rfl rfl rfl) rfl ?_
            refine RL.skip (Wanted.no rfl rfl rfl rfl rfl) rfl ?_
            refine RL.skip (Wanted.no rfl rfl rfl rfl rfl) rfl ?_
            refine RL.skip (Wanted.no rfl rfl rfl rfl rfl) rfl ?_
            refine RL.val (Wanted.free rfl) (V.pick_false rfl rfl rfl) rfl ?_
            refine RL.val (Wanted.free rfl) (V.move rfl rfl) rfl ?_
            refine RL.val (Wanted.yes rfl rfl rfl rfl) (V.move rfl rfl) rfl ?_
            refine RL.cmp (Wanted.yes rfl rfl rfl rfl) (V.bin rfl rfl rfl B.gtr) rfl (fun h479 => ?_) (fun h479 => ?_)
            · skip
              refine RL.val (Wanted.yes rfl rfl rfl rfl) (V.move rfl rfl) rfl ?_
              refine RL.val (Wanted.yes rfl rfl rfl rfl) (V.fieldAddr rfl rfl fo57_0) rfl ?_
              refine RL.val (Wanted.yes rfl rfl rfl rfl) (V.load rfl on23 rfl (by repeat (first | exact Pick.here | apply Pick.there)) rfl) rfl ?_
              refine RL.val (Wanted.yes rfl rfl rfl rfl) (V.move rfl rfl) rfl ?_
              refine RL.val (Wanted.yes rfl rfl rfl rfl) (V.indexSl rfl el23.slice rfl rfl (by repeat (first | exact List.Mem.head _ | assumption | apply List.Mem.tail)) (by first | rfl | omega) (by omega)) rfl ?_
              refine RL.val (Wanted.yes rfl rfl rfl rfl) (V.loadSc rfl on5 rfl (by repeat (first | exact List.Mem.head _ | assumption | apply List.Mem.tail)) (List.getElem?_eq_getElem (by omega))) rfl ?_
              refine RL.cmp (Wanted.yes rfl rfl rfl rfl) (V.bin rfl rfl rfl B.eql) rfl (fun h486 => ?_) (fun h486 => ?_)
              · skip
                refine RL.val (Wanted.yes rfl rfl rfl rfl) (V.pick_true rfl rfl rfl) rfl ?_
                refine RL.val (Wanted.free rfl) (V.pick_false rfl rfl rfl) rfl ?_
                refine RL.nil ?_
                refine SG.cond_true rfl ?_
                refine SG.seq ?_
                refine SG.region ?_
                refine RL.val (Wanted.free rfl) (V.loadAgg (us := _) rfl ag57 rfl (by repeat (first | exact Pick.here | apply Pick.there)) rfl rfl) rfl ?_
                refine RL.eff (Wanted.free rfl) (E.call rfl go54 rfl (xFail_ok)) rfl ?_
                rintro _ _ ⟨rfl, rfl⟩
                rw [if_pos rfl]
                refine RL.eff (Wanted.free rfl) (E.storeAgg rfl rfl rfl rfl sz57 (by repeat (first | exact Pick.here | apply Pick.there)) (by first | (simp [Value.oneCell']; done) | (simp [setAt, Value.oneCell']; done)) (by first | (simp; done) | (simp [setAt]; done))) rfl ?_
                rintro _ _ rfl
                refine RL.val (Wanted.free rfl) (V.assign rfl rfl) rfl ?_
                refine RL.nil ?_
                first
                | (exfalso; omega)
                | (refine SG.retE (Ret.r2 Try.func47 rfl (.agg rfl ag57 (by repeat (first | exact Pick.here | apply Pick.there)) rfl rfl) (.tmp rfl)) ?_ ⟨_, _, _, _, _, _, rdU_err (by omega), rfl, rfl⟩; (repeat (first | exact Ent.refl _ | (apply Ent.cons; (· repeat (first | exact Pick.here | (refine Pick.sl ?_; (· repeat (first | exact List.Mem.head _ | assumption | apply List.Mem.tail))) | apply Pick.there))) | (refine Ent.trans (Ent.drop _ _) ?_))))
                | (refine SG.retE (Ret.r2 Try.func47 rfl (.agg rfl ag57 (by repeat (first | exact Pick.here | apply Pick.there)) rfl rfl) (.tmp rfl)) ?_ ⟨_, _, _, _, _, _, rdU_ten (lead_eq (by omega) (by omega) (fun j h hj => hall j h (by omega)) (.inl rfl)), rfl, rfl⟩; (repeat (first | exact Ent.refl _ | (apply Ent.cons; (· repeat (first | exact Pick.here | (refine Pick.sl ?_; (· repeat (first | exact List.Mem.head _ | assumption | apply List.Mem.tail))) | apply Pick.there))) | (refine Ent.trans (Ent.drop _ _) ?_))))
                | (refine SG.retE (Ret.r2 Try.func47 rfl (.agg rfl ag57 (by repeat (first | exact Pick.here | apply Pick.there)) rfl rfl) (.tmp rfl)) ?_ ⟨_, _, _, _, _, _, rdU_short (lead_eq (by omega) hil hall (.inr (.inl (by omega)))) (by omega) (by omega), rfl, rfl⟩; (repeat (first | exact Ent.refl _ | (apply Ent.cons; (· repeat (first | exact Pick.here | (refine Pick.sl ?_; (· repeat (first | exact List.Mem.head _ | assumption | apply List.Mem.tail))) | apply Pick.there))) | (refine Ent.trans (Ent.drop _ _) ?_))))
                | (refine SG.retE (Ret.r2 Try.func47 rfl (.agg rfl ag57 (by repeat (first | exact Pick.here | apply Pick.there)) rfl rfl) (.tmp rfl)) ?_ ⟨_, _, _, _, _, _, rdU_form (lead_eq (by omega) hil hall (.inr (.inr ⟨by omega, by omega⟩))) (by omega) (by omega) (by omega), rfl, rfl⟩; (repeat (first | exact Ent.refl _ | (apply Ent.cons; (· repeat (first | exact Pick.here | (refine Pick.sl ?_; (· repeat (first | exact List.Mem.head _ | assumption | apply List.Mem.tail))) | apply Pick.there))) | (refine Ent.trans (Ent.drop _ _) ?_))))
                | (refine SG.retE (Ret.r2 Try.func47 rfl (.agg rfl ag57 (by repeat (first | exact Pick.here | apply Pick.there)) rfl rfl) (.tmp rfl)) ?_ ⟨_, _, _, _, _, _, rdU_ok (lead_eq (by omega) hil hall (.inr (.inr ⟨by omega, by omega⟩))) (by omega) (by omega) (by omega), rfl, rfl⟩; (repeat (first | exact Ent.refl _ | (apply Ent.cons; (· repeat (first | exact Pick.here | (refine Pick.sl ?_; (· repeat (first | exact List.Mem.head _ | assumption | apply List.Mem.tail))) | apply Pick.there))) | (refine Ent.trans (Ent.drop _ _) ?_))))
              · skip
                refine RL.val (Wanted.yes rfl rfl rfl rfl) (V.pick_true rfl rfl rfl) rfl ?_
                refine RL.val (Wanted.free rfl) (V.pick_false rfl rfl rfl) rfl ?_
                refine RL.nil ?_
                refine SG.cond_false rfl ?_
                refine SG.skip ?_
                refine SG.seq ?_
                refine SG.region ?_
                refine RL.val (Wanted.free rfl) (V.assign rfl rfl) rfl ?_
                refine RL.nil ?_
                refine SG.seq ?_
                refine SG.seq ?_
                refine SG.region ?_
                refine RL.val (Wanted.free rfl) (V.move rfl rfl) rfl ?_
                refine RL.val (Wanted.free rfl) (V.assign rfl rfl) rfl ?_
                refine RL.nil ?_
                refine SG.block ?_
                refine SG.let_ (d := 5) (u' := v64 (UInt64.ofNat (val ((l.take (i + 1)).drop (i + 1))))) rfl (by rw [List.drop_of_length_le (by rw [List.length_take]; omega)]; rfl) ?_
                refine SG.let_ (d := 6) (u' := vI (((i + 1 : Nat) : Int) - 1)) rfl (by congr 1; omega) ?_
                refine SG.weaken (SG.loop2 (fun m al M => ∃ j : Nat, j ≤ i + 1 ∧ j = m ∧ al = [(1, ptr b1 0), (2, ptr b2 0), (4, vI i), (5, v64 (UInt64.ofNat (val ((l.take (i + 1)).drop j)))), (6, vI ((j : Int) - 1))] ∧ M = Blk b1 57 [.slice a l.length c, vI 0] :: Blk b2 57 [.slice none 0 0, vI 0] :: L) (m0 := _) ⟨i + 1, by omega, rfl, rfl, rfl⟩ ?_) ?_ ?_
                rotate_left
                · repeat (first | exact EnvLe.nil _ | refine EnvLe.cons rfl ?_)
                · repeat (first | exact Ent.refl _ | (apply Ent.cons; (· repeat (first | exact Pick.here | (refine Pick.sl ?_; (· repeat (first | exact List.Mem.head _ | assumption | apply List.Mem.tail))) | apply Pick.there))) | (refine Ent.trans (Ent.drop _ _) ?_))
                rintro _ _ _ ⟨j, hj1, rfl, rfl, rfl⟩ ih1
                refine SG.seq ?_
                refine SG.seq ?_
                refine SG.region ?_
                refine RL.val (Wanted.free rfl) (V.move rfl rfl) rfl ?_
                refine RL.cmp (Wanted.free rfl) (V.bin rfl rfl rfl B.geq) rfl (fun h495 => ?_) (fun h495 => ?_)
                · skip
                  refine RL.nil ?_
                  refine SG.cond_true rfl ?_
                  refine SG.skip ?_
                  refine SG.seq ?_
                  refine SG.block ?_
                  refine SG.region ?_
                  obtain ⟨j', rfl⟩ : ∃ j', j = j' + 1 := ⟨j - 1, by omega⟩
                  refine RL.val (Wanted.free rfl) (V.move rfl rfl) rfl ?_
                  refine RL.val (Wanted.free rfl) (V.bin rfl rfl rfl (B.mul64 (x := 128))) rfl ?_
                  refine RL.val (Wanted.free rfl) (V.fieldAddr rfl rfl fo57_0) rfl ?_
                  refine RL.val (Wanted.free rfl) (V.load rfl on23 rfl (by repeat (first | exact Pick.here | apply Pick.there)) rfl) rfl ?_
                  refine RL.val (Wanted.free rfl) (V.move rfl rfl) rfl ?_
                  refine RL.val (Wanted.free rfl) (V.indexSl (j := j') rfl el23.slice rfl rfl (by repeat (first | exact List.Mem.head _ | assumption | apply List.Mem.tail)) (by first | rfl | omega) (by omega)) rfl ?_
                  refine RL.val (Wanted.free rfl) (V.loadSc rfl on5 rfl (by repeat (first | exact List.Mem.head _ | assumption | apply List.Mem.tail)) (List.getElem?_eq_getElem (by omega))) rfl ?_
                  refine RL.val (Wanted.free rfl) (V.bin rfl rfl rfl (B.rem8 (y := 128) (by decide))) rfl ?_
                  refine RL.val (Wanted.free rfl) (V.to64 rfl ⟨_, ui5⟩ ui31 rfl) rfl ?_
                  refine RL.val (Wanted.free rfl) (V.bin rfl rfl rfl (B.add64)) rfl ?_
                  have hw : (l.take (i + 1))[j']'(by rw [List.length_take]; omega) = l[j'] := List.getElem_take
                  have hst := dot_step (w := l.take (i + 1)) (j := j') (by rw [List.length_take]; omega)
                  rw [hw] at hst
                  rw [hst]
                  refine RL.val (Wanted.free rfl) (V.assign rfl rfl) rfl ?_
                  refine RL.nil ?_
                  refine SG.inBlock ?_
                  refine SG.region ?_
                  refine RL.val (Wanted.free rfl) (V.move rfl rfl) rfl ?_
                  refine RL.val (Wanted.free rfl) (V.bin rfl rfl rfl (B.subI (by omega) (by omega))) rfl ?_
                  rw [show ((j' + 1 : Nat) : Int) - 1 - 1 = (j' : Int) - 1 from by omega]
                  refine RL.val (Wanted.free rfl) (V.assign rfl rfl) rfl ?_
                  refine RL.nil ?_
                  refine SG.weaken (ih1 _ _ _ ?_ ⟨j', by omega, rfl, rfl, rfl⟩) ?_ ?_
                  · omega
                  · repeat (first | exact EnvLe.nil _ | refine EnvLe.cons rfl ?_)
                  · repeat (first | exact Ent.refl _ | (apply Ent.cons; (· repeat (first | exact Pick.here | (refine Pick.sl ?_; (· repeat (first | exact List.Mem.head _ | assumption | apply List.Mem.tail))) | apply Pick.there))) | (refine Ent.trans (Ent.drop _ _) ?_))
                · skip
                  refine RL.nil ?_
                  refine SG.cond_false rfl ?_
                  refine SG.exit rfl ?_
                  refine SG.seq ?_
                  have hj0 : j = 0 := by omega
                  subst hj0
                  rw [List.drop_zero]
                  refine SG.region ?_
                  refine RL.val (Wanted.free rfl) (V.fieldAddr rfl rfl fo57_0) rfl ?_
                  refine RL.val (Wanted.free rfl) (V.load rfl on23 rfl (by repeat (first | exact Pick.here | apply Pick.there)) rfl) rfl ?_
                  refine RL.val (Wanted.free rfl) (V.move rfl rfl) rfl ?_
                  refine RL.val (Wanted.free rfl) (V.bin rfl rfl rfl (B.addI (by omega) (by omega))) rfl ?_
                  refine RL.eff (Wanted.free rfl) (E.slice (lo := i + 1) (hi := l.length) rfl el23.slice rfl (by repeat (first | exact List.Mem.head _ | assumption | apply List.Mem.tail)) ⟨_, _, rfl, (by first | rfl | omega)⟩ rfl (by omega) (by omega)) rfl ?_
                  intro _ _ hK514
                  try rw [List.drop_zero] at hK514
                  iterate 2 (try rw [Nat.sub_zero] at hK514)
                  rw [show (l.drop (i + 1)).take (l.length - (i + 1)) = l.drop (i + 1) from List.take_of_length_le (by simp)] at hK514
                  obtain ⟨a514, rfl, rfl⟩ := hK514
                  refine RL.val (Wanted.free rfl) (V.buildS [(0, _)] rfl bs57 (by exact ⟨rfl, ⟨_, rfl, rfl⟩, trivial⟩) rfl) rfl ?_
                  refine RL.val (Wanted.free rfl) (V.move rfl rfl) rfl ?_
                  refine RL.eff (Wanted.free rfl) (E.storeAgg rfl rfl rfl rfl sz57 (by repeat (first | exact Pick.here | apply Pick.there)) (by first | (simp [Value.oneCell']; done) | (simp [setAt, Value.oneCell']; done)) (by first | (simp; done) | (simp [setAt]; done))) rfl ?_
                  rintro _ _ rfl
                  refine RL.val (Wanted.free rfl) (V.assign rfl rfl) rfl ?_
                  refine RL.nil ?_
                  first
                  | (exfalso; omega)
                  | (refine SG.retE (Ret.r2 Try.func47 rfl (.agg rfl ag57 (by repeat (first | exact Pick.here | apply Pick.there)) rfl rfl) (.tmp rfl)) ?_ ⟨_, _, _, _, _, _, rdU_err (by omega), rfl, rfl⟩; (repeat (first | exact Ent.refl _ | (apply Ent.cons; (· repeat (first | exact Pick.here | (refine Pick.sl ?_; (· repeat (first | exact List.Mem.head _ | assumption | apply List.Mem.tail))) | apply Pick.there))) | (refine Ent.trans (Ent.drop _ _) ?_))))
                  | (refine SG.retE (Ret.r2 Try.func47 rfl (.agg rfl ag57 (by repeat (first | exact Pick.here | apply Pick.there)) rfl rfl) (.tmp rfl)) ?_ ⟨_, _, _, _, _, _, rdU_ten (lead_eq (by omega) (by omega) (fun j h hj => hall j h (by omega)) (.inl rfl)), rfl, rfl⟩; (repeat (first | exact Ent.refl _ | (apply Ent.cons; (· repeat (first | exact Pick.here | (refine Pick.sl ?_; (· repeat (first | exact List.Mem.head _ | assumption | apply List.Mem.tail))) | apply Pick.there))) | (refine Ent.trans (Ent.drop _ _) ?_))))
                  | (refine SG.retE (Ret.r2 Try.func47 rfl (.agg rfl ag57 (by repeat (first | exact Pick.here | apply Pick.there)) rfl rfl) (.tmp rfl)) ?_ ⟨_, _, _, _, _, _, rdU_short (lead_eq (by omega) hil hall (.inr (.inl (by omega)))) (by omega) (by omega), rfl, rfl⟩; (repeat (first | exact Ent.refl _ | (apply Ent.cons; (· repeat (first | exact Pick.here | (refine Pick.sl ?_; (· repeat (first | exact List.Mem.head _ | assumption | apply List.Mem.tail))) | apply Pick.there))) | (refine Ent.trans (Ent.drop _ _) ?_))))
                  | (refine SG.retE (Ret.r2 Try.func47 rfl (.agg rfl ag57 (by repeat (first | exact Pick.here | apply Pick.there)) rfl rfl) (.tmp rfl)) ?_ ⟨_, _, _, _, _, _, rdU_form (lead_eq (by omega) hil hall (.inr (.inr ⟨by omega, by omega⟩))) (by omega) (by omega) (by omega), rfl, rfl⟩; (repeat (first | exact Ent.refl _ | (apply Ent.cons; (· repeat (first | exact Pick.here | (refine Pick.sl ?_; (· repeat (first | exact List.Mem.head _ | assumption | apply List.Mem.tail))) | apply Pick.there))) | (refine Ent.trans (Ent.drop _ _) ?_))))
                  | (refine SG.retE (Ret.r2 Try.func47 rfl (.agg rfl ag57 (by repeat (first | exact Pick.here | apply Pick.there)) rfl rfl) (.tmp rfl)) ?_ ⟨_, _, _, _, _, _, rdU_ok (lead_eq (by omega) hil hall (.inr (.inr ⟨by omega, by omega⟩))) (by omega) (by omega) (by omega), rfl, rfl⟩; (repeat (first | exact Ent.refl _ | (apply Ent.cons; (· repeat (first | exact Pick.here | (refine Pick.sl ?_; (· repeat (first | exact List.Mem.head _ | assumption | apply List.Mem.tail))) | apply Pick.there))) | (refine Ent.trans (Ent.drop _ _) ?_))))
            · skip
              refine RL.val (Wanted.yes rfl rfl rfl rfl) (V.move rfl rfl) rfl ?_
              refine RL.skip (Wanted.no rfl rfl rfl rfl rfl) rfl ?_
              refine RL.skip (Wanted.no rfl rfl rfl rfl rfl) rfl ?_
              refine RL.skip (Wanted.no rfl rfl rfl rfl rfl) rfl ?_
              refine RL.skip (Wanted.no rfl rfl rfl rfl rfl) rfl ?_
              refine RL.skip (Wanted.no rfl rfl rfl rfl rfl) rfl ?_
              refine RL.skip (Wanted.no rfl rfl rfl rfl rfl) rfl ?_
              refine RL.val (Wanted.yes rfl rfl rfl rfl) (V.pick_false rfl rfl rfl) rfl ?_
              refine RL.val (Wanted.free rfl) (V.pick_false rfl rfl rfl) rfl ?_
              refine RL.nil ?_
              refine SG.cond_false rfl ?_
              refine SG.skip ?_
              refine SG.seq ?_
              refine SG.region ?_
              refine RL.val (Wanted.free rfl) (V.assign rfl rfl) rfl ?_
              refine RL.nil ?_
              refine SG.seq ?_
              refine SG.seq ?_
              refine SG.region ?_
              refine RL.val (Wanted.free rfl) (V.move rfl rfl) rfl ?_
              refine RL.val (Wanted.free rfl) (V.assign rfl rfl) rfl ?_
              refine RL.nil ?_
              refine SG.block ?_
              refine SG.let_ (d := 5) (u' := v64 (UInt64.ofNat (val ((l.take (i + 1)).drop (i + 1))))) rfl (by rw [List.drop_of_length_le (by rw [List.length_take]; omega)]; rfl) ?_
              refine SG.let_ (d := 6) (u' := vI (((i + 1 : Nat) : Int) - 1)) rfl (by congr 1; omega) ?_
              refine SG.weaken (SG.loop2 (fun m al M => ∃ j : Nat, j ≤ i + 1 ∧ j = m ∧ al = [(1, ptr b1 0), (2, ptr b2 0), (4, vI i), (5, v64 (UInt64.ofNat (val ((l.take (i + 1)).drop j)))), (6, vI ((j : Int) - 1))] ∧ M = Blk b1 57 [.slice a l.length c, vI 0] :: Blk b2 57 [.slice none 0 0, vI 0] :: L) (m0 := _) ⟨i + 1, by omega, rfl, rfl, rfl⟩ ?_) ?_ ?_
              rotate_left
              · repeat (first | exact EnvLe.nil _ | refine EnvLe.cons rfl ?_)
              · repeat (first | exact Ent.refl _ | (apply Ent.cons; (· repeat (first | exact Pick.here | (refine Pick.sl ?_; (· repeat (first | exact List.Mem.head _ | assumption | apply List.Mem.tail))) | apply Pick.there))) | (refine Ent.trans (Ent.drop _ _) ?_))
              rintro _ _ _ ⟨j, hj1, rfl, rfl, rfl⟩ ih1
              refine SG.seq ?_
              refine SG.seq ?_
              refine SG.region ?_
              refine RL.val (Wanted.free rfl) (V.move rfl rfl) rfl ?_
              refine RL.cmp (Wanted.free rfl) (V.bin rfl rfl rfl B.geq) rfl (fun h524 => ?_) (fun h524 => ?_)
              · skip
                refine RL.nil ?_
                refine SG.cond_true rfl ?_
                refine SG.skip ?_
                refine SG.seq ?_
                refine SG.block ?_
                refine SG.region ?_
                obtain ⟨j', rfl⟩ : ∃ j', j = j' + 1 := ⟨j - 1, by omega⟩
                refine RL.val (Wanted.free rfl) (V.move rfl rfl) rfl ?_
                refine RL.val (Wanted.free rfl) (V.bin rfl rfl rfl (B.mul64 (x := 128))) rfl ?_
                refine RL.val (Wanted.free rfl) (V.fieldAddr rfl rfl fo57_0) rfl ?_
                refine RL.val (Wanted.free rfl) (V.load rfl on23 rfl (by repeat (first | exact Pick.here | apply Pick.there)) rfl) rfl ?_
                refine RL.val (Wanted.free rfl) (V.move rfl rfl) rfl ?_
                refine RL.val (Wanted.free rfl) (V.indexSl (j := j') rfl el23.slice rfl rfl (by repeat (first | exact List.Mem.head _ | assumption | apply List.Mem.tail)) (by first | rfl | omega) (by omega)) rfl ?_
                refine RL.val (Wanted.free rfl) (V.loadSc rfl on5 rfl (by repeat (first | exact List.Mem.head _ | assumption | apply List.Mem.tail)) (List.getElem?_eq_getElem (by omega))) rfl ?_
                refine RL.val (Wanted.free rfl) (V.bin rfl rfl rfl (B.rem8 (y := 128) (by decide))) rfl ?_
                refine RL.val (Wanted.free rfl) (V.to64 rfl ⟨_, ui5⟩ ui31 rfl) rfl ?_
                refine RL.val (Wanted.free rfl) (V.bin rfl rfl rfl (B.add64)) rfl ?_
                have hw : (l.take (i + 1))[j']'(by rw [List.length_take]; omega) = l[j'] := List.getElem_take
                have hst := dot_step (w := l.take (i + 1)) (j := j') (by rw [List.length_take]; omega)
                rw [hw] at hst
                rw [hst]
                refine RL.val (Wanted.free rfl) (V.assign rfl rfl) rfl ?_
                refine RL.nil ?_
                refine SG.inBlock ?_
                refine SG.region ?_
                refine RL.val (Wanted.free rfl) (V.move rfl rfl) rfl ?_
                refine RL.val (Wanted.free rfl) (V.bin rfl rfl rfl (B.subI (by omega) (by omega))) rfl ?_
                rw [show ((j' + 1 : Nat) : Int) - 1 - 1 = (j' : Int) - 1 from by omega]
                refine RL.val (Wanted.free rfl) (V.assign rfl rfl) rfl ?_
                refine RL.nil ?_
                refine SG.weaken (ih1 _ _ _ ?_ ⟨j', by omega, rfl, rfl, rfl⟩) ?_ ?_
                · omega
                · repeat (first | exact EnvLe.nil _ | refine EnvLe.cons rfl ?_)
                · repeat (first | exact Ent.refl _ | (apply Ent.cons; (· repeat (first | exact Pick.here | (refine Pick.sl ?_; (· repeat (first | exact List.Mem.head _ | assumption | apply List.Mem.tail))) | apply Pick.there))) | (refine Ent.trans (Ent.drop _ _) ?_))
              · skip
                refine RL.nil ?_
                refine SG.cond_false rfl ?_
                refine SG.exit rfl ?_
                refine SG.seq ?_
                have hj0 : j = 0 := by omega
                subst hj0
                rw [List.drop_zero]
                refine SG.region ?_
                refine RL.val (Wanted.free rfl) (V.fieldAddr rfl rfl fo57_0) rfl ?_
                refine RL.val (Wanted.free rfl) (V.load rfl on23 rfl (by repeat (first | exact Pick.here | apply Pick.there)) rfl) rfl ?_
                refine RL.val (Wanted.free rfl) (V.move rfl rfl) rfl ?_
                refine RL.val (Wanted.free rfl) (V.bin rfl rfl rfl (B.addI (by omega) (by omega))) rfl ?_
                refine RL.eff (Wanted.free rfl) (E.slice (lo := i + 1) (hi := l.length) rfl el23.slice rfl (by repeat (first | exact List.Mem.head _ | assumption | apply List.Mem.tail)) ⟨_, _, rfl, (by first | rfl | omega)⟩ rfl (by omega) (by omega)) rfl ?_
                intro _ _ hK543
                try rw [List.drop_zero] at hK543
                iterate 2 (try rw [Nat.sub_zero] at hK543)
                rw [show (l.drop (i + 1)).take (l.length - (i + 1)) = l.drop (i + 1) from List.take_of_length_le (by simp)] at hK543
                obtain ⟨a543, rfl, rfl⟩ := hK543
                refine RL.val (Wanted.free rfl) (V.buildS [(0, _)] rfl bs57 (by exact ⟨rfl, ⟨_, rfl, rfl⟩, trivial⟩) rfl) rfl ?_
                refine RL.val (Wanted.free rfl) (V.move rfl rfl) rfl ?_
                refine RL.eff (Wanted.free rfl) (E.storeAgg rfl rfl rfl rfl sz57 (by repeat (first | exact Pick.here | apply Pick.there)) (by first | (simp [Value.oneCell']; done) | (simp [setAt, Value.oneCell']; done)) (by first | (simp; done) | (simp [setAt]; done))) rfl ?_
                rintro _ _ rfl
                refine RL.val (Wanted.free rfl) (V.assign rfl rfl) rfl ?_
                refine RL.nil ?_
                first
                | (exfalso; omega)
                | (refine SG.retE (Ret.r2 Try.func47 rfl (.agg rfl ag57 (by repeat (first | exact Pick.here | apply Pick.there)) rfl rfl) (.tmp rfl)) ?_ ⟨_, _, _, _, _, _, rdU_err (by omega), rfl, rfl⟩; (repeat (first | exact Ent.refl _ | (apply Ent.cons; (· repeat (first | exact Pick.here | (refine Pick.sl ?_; (· repeat (first | exact List.Mem.head _ | assumption | apply List.Mem.tail))) | apply Pick.there))) | (refine Ent.trans (Ent.drop _ _) ?_))))
                | (refine SG.retE (Ret.r2 Try.func47 rfl (.agg rfl ag57 (by repeat (first | exact Pick.here | apply Pick.there)) rfl rfl) (.tmp rfl)) ?_ ⟨_, _, _, _, _, _, rdU_ten (lead_eq (by omega) (by omega) (fun j h hj => hall j h (by omega)) (.inl rfl)), rfl, rfl⟩; (repeat (first | exact Ent.refl _ | (apply Ent.cons; (· repeat (first | exact Pick.here | (refine Pick.sl ?_; (· repeat (first | exact List.Mem.head _ | assumption | apply List.Mem.tail))) | apply Pick.there))) | (refine Ent.trans (Ent.drop _ _) ?_))))
                | (refine SG.retE (Ret.r2 Try.func47 rfl (.agg rfl ag57 (by repeat (first | exact Pick.here | apply Pick.there)) rfl rfl) (.tmp rfl)) ?_ ⟨_, _, _, _, _, _, rdU_short (lead_eq (by omega) hil hall (.inr (.inl (by omega)))) (by omega) (by omega), rfl, rfl⟩; (repeat (first | exact Ent.refl _ | (apply Ent.cons; (· repeat (first | exact Pick.here | (refine Pick.sl ?_; (· repeat (first | exact List.Mem.head _ | assumption | apply List.Mem.tail))) | apply Pick.there))) | (refine Ent.trans (Ent.drop _ _) ?_))))
                | (refine SG.retE (Ret.r2 Try.func47 rfl (.agg rfl ag57 (by repeat (first | exact Pick.here | apply Pick.there)) rfl rfl) (.tmp rfl)) ?_ ⟨_, _, _, _, _, _, rdU_form (lead_eq (by omega) hil hall (.inr (.inr ⟨by omega, by omega⟩))) (by omega) (by omega) (by omega), rfl, rfl⟩; (repeat (first | exact Ent.refl _ | (apply Ent.cons; (· repeat (first | exact Pick.here | (refine Pick.sl ?_; (· repeat (first | exact List.Mem.head _ | assumption | apply List.Mem.tail))) | apply Pick.there))) | (refine Ent.trans (Ent.drop _ _) ?_))))
                | (refine SG.retE (Ret.r2 Try.func47 rfl (.agg rfl ag57 (by repeat (first | exact Pick.here | apply Pick.there)) rfl rfl) (.tmp rfl)) ?_ ⟨_, _, _, _, _, _, rdU_ok (lead_eq (by omega) hil hall (.inr (.inr ⟨by omega, by omega⟩))) (by omega) (by omega) (by omega), rfl, rfl⟩; (repeat (first | exact Ent.refl _ | (apply Ent.cons; (· repeat (first | exact Pick.here | (refine Pick.sl ?_; (· repeat (first | exact List.Mem.head _ | assumption | apply List.Mem.tail))) | apply Pick.there))) | (refine Ent.trans (Ent.drop _ _) ?_))))

set_option maxRecDepth 100000 in
theorem xInt_ok {κ : World} {L : List Assn} {a : Option Addr} {m c : Nat} {l : List UInt8} {e : Int} (hm : Sl R8 a m c l ∈ L) :
    Ctr Try.prog 48 #[.agg #[.slice a m c, vI e]] κ L (fun v M => ∃ l' e' x a' m' c', rdI l e = (l', e', x) ∧ v = .tuple #[.agg #[.slice a' m' c', vI e'], vI x] ∧ M = Sl R8 a' m' c' l' :: L) := by
  refine Ctr.enter (vs := [.agg #[.slice a m c, vI e]]) (m := 13) Try.func48 rfl rfl rfl ?_
  refine SG.seq ?_
  refine SG.region ?_
  refine RL.eff (Wanted.free rfl) (E.box [.slice a m c, vI e] rfl rfl rfl) rfl ?_
  rintro _ _ ⟨b1, rfl, rfl⟩
  refine RL.eff (Wanted.free rfl) (E.alloc rfl ze57) rfl ?_
  rintro _ _ ⟨b2, rfl, rfl⟩
  refine RL.val (Wanted.free rfl) (V.assign rfl rfl) rfl ?_
  refine RL.nil ?_
  refine SG.seq ?_
  refine SG.region ?_
  refine RL.val (Wanted.free rfl) (V.loadAgg (us := _) rfl ag57 rfl (by repeat (first | exact Pick.here | apply Pick.there)) rfl rfl) rfl ?_
  refine RL.eff (Wanted.free rfl) (E.call rfl go47 rfl (xUint_ok (by repeat (first | exact List.Mem.head _ | assumption | apply List.Mem.tail)))) rfl ?_
  rintro _ _ ⟨l5, e5, x5, a5, m5, c5, r5, rfl, rfl⟩
  refine RL.val (Wanted.free rfl) (V.move rfl rfl) rfl ?_
  refine RL.val (Wanted.free rfl) (V.extract rfl rfl rfl) rfl ?_
  refine RL.val (Wanted.free rfl) (V.extract rfl rfl rfl) rfl ?_
  refine RL.eff (Wanted.free rfl) (E.storeAgg rfl rfl rfl rfl sz57 (by repeat (first | exact Pick.here | apply Pick.there)) (by first | (simp [Value.oneCell']; done) | (simp [setAt, Value.oneCell']; done)) (by first | (simp; done) | (simp [setAt]; done))) rfl ?_
  rintro _ _ rfl
  refine RL.val (Wanted.free rfl) (V.assign rfl rfl) rfl ?_
  refine RL.nil ?_
  refine SG.seq ?_
  refine SG.drawP1 5 2 wide rfl rfl rfl (by repeat (first | exact Pick.here | apply Pick.there)) ?_
  refine RH.val 0 rfl (by kernel_rfl) (by kernel_rfl) (by kernel_rfl) (Wanted.free rfl) (V.loadAgg (us := _) rfl ag57 rfl (by repeat (first | exact Pick.here | apply Pick.there)) rfl rfl) (by repeat (first | exact Ent.refl _ | (apply Ent.cons; (· repeat (first | exact Pick.here | (refine Pick.sl ?_; (· repeat (first | exact List.Mem.head _ | assumption | apply List.Mem.tail))) | apply Pick.there))) | (refine Ent.trans (Ent.drop _ _) ?_))) rfl ?_
  refine RH.val 1 rfl (by kernel_rfl) (by kernel_rfl) (by kernel_rfl) (Wanted.free rfl) (V.move rfl rfl) (by repeat (first | exact Ent.refl _ | (apply Ent.cons; (· repeat (first | exact Pick.here | (refine Pick.sl ?_; (· repeat (first | exact List.Mem.head _ | assumption | apply List.Mem.tail))) | apply Pick.there))) | (refine Ent.trans (Ent.drop _ _) ?_))) rfl ?_
  refine RH.one (i := 2) (by kernel_rfl) ?_
  refine RHone.eff rfl (Wanted.free rfl) (E.call rfl go55 rfl (xZag_ok _)) rfl ?_
  rintro _ _ ⟨rfl, rfl⟩
  refine ⟨(by repeat (first | exact Ent.refl _ | (apply Ent.cons; (· repeat (first | exact Pick.here | (refine Pick.sl ?_; (· repeat (first | exact List.Mem.head _ | assumption | apply List.Mem.tail))) | apply Pick.there))) | (refine Ent.trans (Ent.drop _ _) ?_))), ?_⟩
  refine RH.one (i := 3) (by kernel_rfl) ?_
  refine RHone.eff rfl (Wanted.free rfl) (E.storeAgg rfl rfl rfl rfl sz57 (by repeat (first | exact Pick.here | apply Pick.there)) (by first | (simp [Value.oneCell']; done) | (simp [setAt, Value.oneCell']; done)) (by first | (simp; done) | (simp [setAt]; done))) rfl ?_
  rintro _ _ rfl
  refine ⟨(by repeat (first | exact Ent.refl _ | (apply Ent.cons; (· repeat (first | exact Pick.here | (refine Pick.sl ?_; (· repeat (first | exact List.Mem.head _ | assumption | apply List.Mem.tail))) | apply Pick.there))) | (refine Ent.trans (Ent.drop _ _) ?_))), ?_⟩
  refine RH.val 4 rfl (by kernel_rfl) (by kernel_rfl) (by kernel_rfl) (Wanted.free rfl) (V.assign rfl rfl) (by repeat (first | exact Ent.refl _ | (apply Ent.cons; (· repeat (first | exact Pick.here | (refine Pick.sl ?_; (· repeat (first | exact List.Mem.head _ | assumption | apply List.Mem.tail))) | apply Pick.there))) | (refine Ent.trans (Ent.drop _ _) ?_))) rfl ?_
  refine RH.done (by kernel_rfl) ?_
  refine SG.retE (Ret.r2 Try.func48 rfl (.agg rfl ag57 (by repeat (first | exact Pick.here | apply Pick.there)) rfl rfl) (.tmp rfl)) ?_ ⟨_, _, _, _, _, _, rdI_eq (by assumption), rfl, rfl⟩
  repeat (first | exact Ent.refl _ | (apply Ent.cons; (· repeat (first | exact Pick.here | (refine Pick.sl ?_; (· repeat (first | exact List.Mem.head _ | assumption | apply List.Mem.tail))) | apply Pick.there))) | (refine Ent.trans (Ent.drop _ _) ?_))

set_option maxRecDepth 100000 in
theorem xBool_ok {κ : World} {L : List Assn} {a : Option Addr} {m c : Nat} {l : List UInt8} {e : Int} (hm : Sl R8 a m c l ∈ L) :
    Ctr Try.prog 49 #[.agg #[.slice a m c, vI e]] κ L (fun v M => ∃ l' e' x a' m' c', rdB l e = (l', e', x) ∧ v = .tuple #[.agg #[.slice a' m' c', vI e'], vB x] ∧ M = Sl R8 a' m' c' l' :: L) := by
  refine Ctr.enter (vs := [.agg #[.slice a m c, vI e]]) (m := 30) Try.func49 rfl rfl rfl ?_
  refine SG.sl hm fun hl _ _ => ?_
  subst hl
  refine SG.seq ?_
  refine SG.region ?_
  refine RL.eff (Wanted.free rfl) (E.box [.slice a l.length c, vI e] rfl rfl rfl) rfl ?_
  rintro _ _ ⟨b1, rfl, rfl⟩
  refine RL.eff (Wanted.free rfl) (E.alloc rfl ze57) rfl ?_
  rintro _ _ ⟨b2, rfl, rfl⟩
  refine RL.val (Wanted.free rfl) (V.assign rfl rfl) rfl ?_
  refine RL.nil ?_
  refine SG.seq ?_
  refine SG.seq ?_
  refine SG.region ?_
  refine RL.val (Wanted.free rfl) (V.fieldAddr rfl rfl fo57_1) rfl ?_
  refine RL.val (Wanted.free rfl) (V.load rfl on46 rfl (by repeat (first | exact Pick.here | apply Pick.there)) rfl) rfl ?_
  refine RL.cmp (Wanted.free rfl) (V.bin rfl rfl rfl B.neq) rfl (fun h6 => ?_) (fun h6 => ?_)
  · skip
    refine RL.nil ?_
    refine SG.cond_true rfl ?_
    refine SG.seq ?_
    refine SG.region ?_
    refine RL.val (Wanted.free rfl) (V.loadAgg (us := _) rfl ag57 rfl (by repeat (first | exact Pick.here | apply Pick.there)) rfl rfl) rfl ?_
    refine RL.eff (Wanted.free rfl) (E.storeAgg rfl rfl rfl rfl sz57 (by repeat (first | exact Pick.here | apply Pick.there)) (by first | (simp [Value.oneCell']; done) | (simp [setAt, Value.oneCell']; done)) (by first | (simp; done) | (simp [setAt]; done))) rfl ?_
    rintro _ _ rfl
    refine RL.val (Wanted.free rfl) (V.assign rfl rfl) rfl ?_
    refine RL.nil ?_
    first
    | (exfalso; omega)
    | (refine SG.retE (Ret.r2 Try.func49 rfl (.agg rfl ag57 (by repeat (first | exact Pick.here | apply Pick.there)) rfl rfl) (.tmp rfl)) ?_ ⟨_, _, _, _, _, _, rdB_err (by omega), rfl, rfl⟩; (repeat (first | exact Ent.refl _ | (apply Ent.cons; (· repeat (first | exact Pick.here | (refine Pick.sl ?_; (· repeat (first | exact List.Mem.head _ | assumption | apply List.Mem.tail))) | apply Pick.there))) | (refine Ent.trans (Ent.drop _ _) ?_))))
    | (refine SG.retE (Ret.r2 Try.func49 rfl (.agg rfl ag57 (by repeat (first | exact Pick.here | apply Pick.there)) rfl rfl) (.tmp rfl)) ?_ ⟨_, _, _, _, _, _, rdB_nil (by omega), rfl, rfl⟩; (repeat (first | exact Ent.refl _ | (apply Ent.cons; (· repeat (first | exact Pick.here | (refine Pick.sl ?_; (· repeat (first | exact List.Mem.head _ | assumption | apply List.Mem.tail))) | apply Pick.there))) | (refine Ent.trans (Ent.drop _ _) ?_))))
    | (refine SG.retE (Ret.r2 Try.func49 rfl (.agg rfl ag57 (by repeat (first | exact Pick.here | apply Pick.there)) rfl rfl) (.tmp rfl)) ?_ ⟨_, _, _, _, _, _, rdB_form (by omega) (by omega), rfl, rfl⟩; (repeat (first | exact Ent.refl _ | (apply Ent.cons; (· repeat (first | exact Pick.here | (refine Pick.sl ?_; (· repeat (first | exact List.Mem.head _ | assumption | apply List.Mem.tail))) | apply Pick.there))) | (refine Ent.trans (Ent.drop _ _) ?_))))
    | (refine SG.retE (Ret.r2 Try.func49 rfl (.agg rfl ag57 (by repeat (first | exact Pick.here | apply Pick.there)) rfl rfl) (.tmp rfl)) ?_ ⟨_, _, _, _, _, _, rdB_ok (by omega) (by omega), rfl, rfl⟩; (repeat (first | exact Ent.refl _ | (apply Ent.cons; (· repeat (first | exact Pick.here | (refine Pick.sl ?_; (· repeat (first | exact List.Mem.head _ | assumption | apply List.Mem.tail))) | apply Pick.there))) | (refine Ent.trans (Ent.drop _ _) ?_))))
  · skip
    refine RL.nil ?_
    refine SG.cond_false rfl ?_
    refine SG.skip ?_
    refine SG.seq ?_
    refine SG.seq ?_
    try (have he0 : e = 0 := (by omega); subst he0)
    refine SG.region ?_
    refine RL.val (Wanted.free rfl) (V.fieldAddr rfl rfl fo57_0) rfl ?_
    refine RL.val (Wanted.free rfl) (V.load rfl on23 rfl (by repeat (first | exact Pick.here | apply Pick.there)) rfl) rfl ?_
    refine RL.val (Wanted.free rfl) (V.len rfl rfl el23.under rfl) rfl ?_
    refine RL.cmp (Wanted.free rfl) (V.bin rfl rfl rfl B.eql) rfl (fun h13 => ?_) (fun h13 => ?_)
    · skip
      refine RL.nil ?_
      refine SG.cond_true rfl ?_
      refine SG.seq ?_
      refine SG.region ?_
      refine RL.val (Wanted.free rfl) (V.loadAgg (us := _) rfl ag57 rfl (by repeat (first | exact Pick.here | apply Pick.there)) rfl rfl) rfl ?_
      refine RL.eff (Wanted.free rfl) (E.call rfl go54 rfl (xFail_ok)) rfl ?_
      rintro _ _ ⟨rfl, rfl⟩
      rw [if_pos rfl]
      refine RL.eff (Wanted.free rfl) (E.storeAgg rfl rfl rfl rfl sz57 (by repeat (first | exact Pick.here | apply Pick.there)) (by first | (simp [Value.oneCell']; done) | (simp [setAt, Value.oneCell']; done)) (by first | (simp; done) | (simp [setAt]; done))) rfl ?_
      rintro _ _ rfl
      refine RL.val (Wanted.free rfl) (V.assign rfl rfl) rfl ?_
      refine RL.nil ?_
      first
      | (exfalso; omega)
      | (refine SG.retE (Ret.r2 Try.func49 rfl (.agg rfl ag57 (by repeat (first | exact Pick.here | apply Pick.there)) rfl rfl) (.tmp rfl)) ?_ ⟨_, _, _, _, _, _, rdB_err (by omega), rfl, rfl⟩; (repeat (first | exact Ent.refl _ | (apply Ent.cons; (· repeat (first | exact Pick.here | (refine Pick.sl ?_; (· repeat (first | exact List.Mem.head _ | assumption | apply List.Mem.tail))) | apply Pick.there))) | (refine Ent.trans (Ent.drop _ _) ?_))))
      | (refine SG.retE (Ret.r2 Try.func49 rfl (.agg rfl ag57 (by repeat (first | exact Pick.here | apply Pick.there)) rfl rfl) (.tmp rfl)) ?_ ⟨_, _, _, _, _, _, rdB_nil (by omega), rfl, rfl⟩; (repeat (first | exact Ent.refl _ | (apply Ent.cons; (· repeat (first | exact Pick.here | (refine Pick.sl ?_; (· repeat (first | exact List.Mem.head _ | assumption | apply List.Mem.tail))) | apply Pick.there))) | (refine Ent.trans (Ent.drop _ _) ?_))))
      | (refine SG.retE (Ret.r2 Try.func49 rfl (.agg rfl ag57 (by repeat (first | exact Pick.here | apply Pick.there)) rfl rfl) (.tmp rfl)) ?_ ⟨_, _, _, _, _, _, rdB_form (by omega) (by omega), rfl, rfl⟩; (repeat (first | exact Ent.refl _ | (apply Ent.cons; (· repeat (first | exact Pick.here | (refine Pick.sl ?_; (· repeat (first | exact List.Mem.head _ | assumption | apply List.Mem.tail))) | apply Pick.there))) | (refine Ent.trans (Ent.drop _ _) ?_))))
      | (refine SG.retE (Ret.r2 Try.func49 rfl (.agg rfl ag57 (by repeat (first | exact Pick.here | apply Pick.there)) rfl rfl) (.tmp rfl)) ?_ ⟨_, _, _, _, _, _, rdB_ok (by omega) (by omega), rfl, rfl⟩; (repeat (first | exact Ent.refl _ | (apply Ent.cons; (· repeat (first | exact Pick.here | (refine Pick.sl ?_; (· repeat (first | exact List.Mem.head _ | assumption | apply List.Mem.tail))) | apply Pick.there))) | (refine Ent.trans (Ent.drop _ _) ?_))))
    · skip
      refine RL.nil ?_
      refine SG.cond_false rfl ?_
      refine SG.skip ?_
      refine SG.seq ?_
      refine SG.seq ?_
      refine SG.region ?_
      refine RL.val (Wanted.free rfl) (V.fieldAddr rfl rfl fo57_0) rfl ?_
      refine RL.val (Wanted.free rfl) (V.load rfl on23 rfl (by repeat (first | exact Pick.here | apply Pick.there)) rfl) rfl ?_
      refine RL.val (Wanted.free rfl) (V.indexSl (j := 0) rfl el23.slice rfl rfl (by repeat (first | exact List.Mem.head _ | assumption | apply List.Mem.tail)) (by first | rfl | omega) (by omega)) rfl ?_
      refine RL.val (Wanted.free rfl) (V.loadSc rfl on5 rfl (by repeat (first | exact List.Mem.head _ | assumption | apply List.Mem.tail)) (List.getElem?_eq_getElem (by omega))) rfl ?_
      refine RL.cmp (Wanted.free rfl) (V.bin rfl rfl rfl B.gtr) rfl (fun h22 => ?_) (fun h22 => ?_)
      · skip
        refine RL.nil ?_
        refine SG.cond_true rfl ?_
        refine SG.seq ?_
        refine SG.region ?_
        refine RL.val (Wanted.free rfl) (V.loadAgg (us := _) rfl ag57 rfl (by repeat (first | exact Pick.here | apply Pick.there)) rfl rfl) rfl ?_
        refine RL.eff (Wanted.free rfl) (E.call rfl go54 rfl (xFail_ok)) rfl ?_
        rintro _ _ ⟨rfl, rfl⟩
        rw [if_pos rfl]
        refine RL.eff (Wanted.free rfl) (E.storeAgg rfl rfl rfl rfl sz57 (by repeat (first | exact Pick.here | apply Pick.there)) (by first | (simp [Value.oneCell']; done) | (simp [setAt, Value.oneCell']; done)) (by first | (simp; done) | (simp [setAt]; done))) rfl ?_
        rintro _ _ rfl
        refine RL.val (Wanted.free rfl) (V.assign rfl rfl) rfl ?_
        refine RL.nil ?_
        first
        | (exfalso; omega)
        | (refine SG.retE (Ret.r2 Try.func49 rfl (.agg rfl ag57 (by repeat (first | exact Pick.here | apply Pick.there)) rfl rfl) (.tmp rfl)) ?_ ⟨_, _, _, _, _, _, rdB_err (by omega), rfl, rfl⟩; (repeat (first | exact Ent.refl _ | (apply Ent.cons; (· repeat (first | exact Pick.here | (refine Pick.sl ?_; (· repeat (first | exact List.Mem.head _ | assumption | apply List.Mem.tail))) | apply Pick.there))) | (refine Ent.trans (Ent.drop _ _) ?_))))
        | (refine SG.retE (Ret.r2 Try.func49 rfl (.agg rfl ag57 (by repeat (first | exact Pick.here | apply Pick.there)) rfl rfl) (.tmp rfl)) ?_ ⟨_, _, _, _, _, _, rdB_nil (by omega), rfl, rfl⟩; (repeat (first | exact Ent.refl _ | (apply Ent.cons; (· repeat (first | exact Pick.here | (refine Pick.sl ?_; (· repeat (first | exact List.Mem.head _ | assumption | apply List.Mem.tail))) | apply Pick.there))) | (refine Ent.trans (Ent.drop _ _) ?_))))
        | (refine SG.retE (Ret.r2 Try.func49 rfl (.agg rfl ag57 (by repeat (first | exact Pick.here | apply Pick.there)) rfl rfl) (.tmp rfl)) ?_ ⟨_, _, _, _, _, _, rdB_form (by omega) (by omega), rfl, rfl⟩; (repeat (first | exact Ent.refl _ | (apply Ent.cons; (· repeat (first | exact Pick.here | (refine Pick.sl ?_; (· repeat (first | exact List.Mem.head _ | assumption | apply List.Mem.tail))) | apply Pick.there))) | (refine Ent.trans (Ent.drop _ _) ?_))))
        | (refine SG.retE (Ret.r2 Try.func49 rfl (.agg rfl ag57 (by repeat (first | exact Pick.here | apply Pick.there)) rfl rfl) (.tmp rfl)) ?_ ⟨_, _, _, _, _, _, rdB_ok (by omega) (by omega), rfl, rfl⟩; (repeat (first | exact Ent.refl _ | (apply Ent.cons; (· repeat (first | exact Pick.here | (refine Pick.sl ?_; (· repeat (first | exact List.Mem.head _ | assumption | apply List.Mem.tail))) | apply Pick.there))) | (refine Ent.trans (Ent.drop _ _) ?_))))
      · skip
        refine RL.nil ?_
        refine SG.cond_false rfl ?_
        refine SG.skip ?_
        refine SG.seq ?_
        refine SG.cut (T := R8) (a := a) (lo := 1) (hi := l.length) (by repeat (first | exact List.Mem.head _ | assumption | apply List.Mem.tail)) (by omega) (by omega) (List.take_of_length_le (by simp)) ?_
        refine SG.drawP1 11 2 wide rfl rfl rfl (by repeat (first | exact Pick.here | apply Pick.there)) ?_
        refine RH.val 0 rfl (by kernel_rfl) (by kernel_rfl) (by kernel_rfl) (Wanted.free rfl) (V.fieldAddr rfl rfl fo57_0) (by repeat (first | exact Ent.refl _ | (apply Ent.cons; (· repeat (first | exact Pick.here | (refine Pick.sl ?_; (· repeat (first | exact List.Mem.head _ | assumption | apply List.Mem.tail))) | apply Pick.there))) | (refine Ent.trans (Ent.drop _ _) ?_))) rfl ?_
        refine RH.val 1 rfl (by kernel_rfl) (by kernel_rfl) (by kernel_rfl) (Wanted.free rfl) (V.load rfl on23 rfl (by repeat (first | exact Pick.here | apply Pick.there)) rfl) (by repeat (first | exact Ent.refl _ | (apply Ent.cons; (· repeat (first | exact Pick.here | (refine Pick.sl ?_; (· repeat (first | exact List.Mem.head _ | assumption | apply List.Mem.tail))) | apply Pick.there))) | (refine Ent.trans (Ent.drop _ _) ?_))) rfl ?_
        refine RH.val 2 rfl (by kernel_rfl) (by kernel_rfl) (by kernel_rfl) (Wanted.free rfl) (V.slice (T := R8) (lo := 1) (hi := l.length) rfl el23.slice rfl ⟨_, _, rfl, (by first | rfl | omega)⟩ rfl (by omega) (by omega)) (by repeat (first | exact Ent.refl _ | (apply Ent.cons; (· repeat (first | exact Pick.here | (refine Pick.sl ?_; (· repeat (first | exact List.Mem.head _ | assumption | apply List.Mem.tail))) | apply Pick.there))) | (refine Ent.trans (Ent.drop _ _) ?_))) rfl ?_
        refine RH.val 3 rfl (by kernel_rfl) (by kernel_rfl) (by kernel_rfl) (Wanted.free rfl) (V.buildS [(0, _)] rfl bs57 (by exact ⟨rfl, ⟨_, rfl, rfl⟩, trivial⟩) rfl) (by repeat (first | exact Ent.refl _ | (apply Ent.cons; (· repeat (first | exact Pick.here | (refine Pick.sl ?_; (· repeat (first | exact List.Mem.head _ | assumption | apply List.Mem.tail))) | apply Pick.there))) | (refine Ent.trans (Ent.drop _ _) ?_))) rfl ?_
        refine RH.val 4 rfl (by kernel_rfl) (by kernel_rfl) (by kernel_rfl) (Wanted.free rfl) (V.fieldAddr rfl rfl fo57_0) (by repeat (first | exact Ent.refl _ | (apply Ent.cons; (· repeat (first | exact Pick.here | (refine Pick.sl ?_; (· repeat (first | exact List.Mem.head _ | assumption | apply List.Mem.tail))) | apply Pick.there))) | (refine Ent.trans (Ent.drop _ _) ?_))) rfl ?_
        refine RH.val 5 rfl (by kernel_rfl) (by kernel_rfl) (by kernel_rfl) (Wanted.free rfl) (V.load rfl on23 rfl (by repeat (first | exact Pick.here | apply Pick.there)) rfl) (by repeat (first | exact Ent.refl _ | (apply Ent.cons; (· repeat (first | exact Pick.here | (refine Pick.sl ?_; (· repeat (first | exact List.Mem.head _ | assumption | apply List.Mem.tail))) | apply Pick.there))) | (refine Ent.trans (Ent.drop _ _) ?_))) rfl ?_
        refine RH.val 6 rfl (by kernel_rfl) (by kernel_rfl) (by kernel_rfl) (Wanted.free rfl) (V.indexSl (j := 0) rfl el23.slice rfl rfl (by repeat (first | exact List.Mem.head _ | assumption | apply List.Mem.tail)) (by first | rfl | omega) (by omega)) (by repeat (first | exact Ent.refl _ | (apply Ent.cons; (· repeat (first | exact Pick.here | (refine Pick.sl ?_; (· repeat (first | exact List.Mem.head _ | assumption | apply List.Mem.tail))) | apply Pick.there))) | (refine Ent.trans (Ent.drop _ _) ?_))) rfl ?_
        refine RH.val 7 rfl (by kernel_rfl) (by kernel_rfl) (by kernel_rfl) (Wanted.free rfl) (V.loadSc rfl on5 rfl (by repeat (first | exact List.Mem.head _ | assumption | apply List.Mem.tail)) (List.getElem?_eq_getElem (by omega))) (by repeat (first | exact Ent.refl _ | (apply Ent.cons; (· repeat (first | exact Pick.here | (refine Pick.sl ?_; (· repeat (first | exact List.Mem.head _ | assumption | apply List.Mem.tail))) | apply Pick.there))) | (refine Ent.trans (Ent.drop _ _) ?_))) rfl ?_
        refine RH.val 8 rfl (by kernel_rfl) (by kernel_rfl) (by kernel_rfl) (Wanted.free rfl) (V.bin rfl rfl rfl B.eql) (by repeat (first | exact Ent.refl _ | (apply Ent.cons; (· repeat (first | exact Pick.here | (refine Pick.sl ?_; (· repeat (first | exact List.Mem.head _ | assumption | apply List.Mem.tail))) | apply Pick.there))) | (refine Ent.trans (Ent.drop _ _) ?_))) rfl ?_
        rw [show decide (((l[0]).toNat : Int) = 1) = decide ((l[0]).toNat = 1) from decide_eq_decide.2 (by omega)]
        refine RH.one (i := 9) (by kernel_rfl) ?_
        refine RHone.eff rfl (Wanted.free rfl) (E.storeAgg rfl rfl rfl rfl sz57 (by repeat (first | exact Pick.here | apply Pick.there)) (by first | (simp [Value.oneCell']; done) | (simp [setAt, Value.oneCell']; done)) (by first | (simp; done) | (simp [setAt]; done))) rfl ?_
        rintro _ _ rfl
        refine ⟨(by repeat (first | exact Ent.refl _ | (apply Ent.cons; (· repeat (first | exact Pick.here | (refine Pick.sl ?_; (· repeat (first | exact List.Mem.head _ | assumption | apply List.Mem.tail))) | apply Pick.there))) | (refine Ent.trans (Ent.drop _ _) ?_))), ?_⟩
        refine RH.val 10 rfl (by kernel_rfl) (by kernel_rfl) (by kernel_rfl) (Wanted.free rfl) (V.assign rfl rfl) (by repeat (first | exact Ent.refl _ | (apply Ent.cons; (· repeat (first | exact Pick.here | (refine Pick.sl ?_; (· repeat (first | exact List.Mem.head _ | assumption | apply List.Mem.tail))) | apply Pick.there))) | (refine Ent.trans (Ent.drop _ _) ?_))) rfl ?_
        refine RH.done (by kernel_rfl) ?_
        first
        | (exfalso; omega)
        | (refine SG.retE (Ret.r2 Try.func49 rfl (.agg rfl ag57 (by repeat (first | exact Pick.here | apply Pick.there)) rfl rfl) (.tmp rfl)) ?_ ⟨_, _, _, _, _, _, rdB_err (by omega), rfl, rfl⟩; (repeat (first | exact Ent.refl _ | (apply Ent.cons; (· repeat (first | exact Pick.here | (refine Pick.sl ?_; (· repeat (first | exact List.Mem.head _ | assumption | apply List.Mem.tail))) | apply Pick.there))) | (refine Ent.trans (Ent.drop _ _) ?_))))
        | (refine SG.retE (Ret.r2 Try.func49 rfl (.agg rfl ag57 (by repeat (first | exact Pick.here | apply Pick.there)) rfl rfl) (.tmp rfl)) ?_ ⟨_, _, _, _, _, _, rdB_nil (by omega), rfl, rfl⟩; (repeat (first | exact Ent.refl _ | (apply Ent.cons; (· repeat (first | exact Pick.here | (refine Pick.sl ?_; (· repeat (first | exact List.Mem.head _ | assumption | apply List.Mem.tail))) | apply Pick.there))) | (refine Ent.trans (Ent.drop _ _) ?_))))
        | (refine SG.retE (Ret.r2 Try.func49 rfl (.agg rfl ag57 (by repeat (first | exact Pick.here | apply Pick.there)) rfl rfl) (.tmp rfl)) ?_ ⟨_, _, _, _, _, _, rdB_form (by omega) (by omega), rfl, rfl⟩; (repeat (first | exact Ent.refl _ | (apply Ent.cons; (· repeat (first | exact Pick.here | (refine Pick.sl ?_; (· repeat (first | exact List.Mem.head _ | assumption | apply List.Mem.tail))) | apply Pick.there))) | (refine Ent.trans (Ent.drop _ _) ?_))))
        | (refine SG.retE (Ret.r2 Try.func49 rfl (.agg rfl ag57 (by repeat (first | exact Pick.here | apply Pick.there)) rfl rfl) (.tmp rfl)) ?_ ⟨_, _, _, _, _, _, rdB_ok (by omega) (by omega), rfl, rfl⟩; (repeat (first | exact Ent.refl _ | (apply Ent.cons; (· repeat (first | exact Pick.here | (refine Pick.sl ?_; (· repeat (first | exact List.Mem.head _ | assumption | apply List.Mem.tail))) | apply Pick.there))) | (refine Ent.trans (Ent.drop _ _) ?_))))

set_option maxRecDepth 100000 in
theorem xText_ok {κ : World} {L : List Assn} {a : Option Addr} {m c : Nat} {l : List UInt8} {e : Int} (most : Int) (hm : Sl R8 a m c l ∈ L) (hm1 : -9223372036854775808 ≤ most) (hm2 : most ≤ 9223372036854775807) :
    Ctr Try.prog 50 #[.agg #[.slice a m c, vI e], vI most] κ L (fun v M => ∃ l' e' x a' m' c', rdS l e most = (l', e', x) ∧ v = .tuple #[.agg #[.slice a' m' c', vI e'], vS x] ∧ M = Sl R8 a' m' c' l' :: L ∧ x.length ≤ most.toNat) := by
  refine Ctr.enter (vs := [.agg #[.slice a m c, vI e], vI most]) (m := 45) Try.func50 rfl rfl rfl ?_
  have hcv : 0 ≤ most → ((UInt64.ofNat (most % 18446744073709551616).toNat).toNat : Int) = most := by intro h; rw [UInt64.toNat_ofNat']; omega
  have hcm : ((UInt64.ofNat ((if most < 0 then 0 else most) % 18446744073709551616).toNat).toNat : Int) = if most < 0 then 0 else most := by rw [UInt64.toNat_ofNat']; split <;> omega
  refine SG.seq ?_
  refine SG.region ?_
  refine RL.eff (Wanted.free rfl) (E.box [.slice a m c, vI e] rfl rfl rfl) rfl ?_
  rintro _ _ ⟨b2, rfl, rfl⟩
  refine RL.eff (Wanted.free rfl) (E.alloc rfl ze57) rfl ?_
  rintro _ _ ⟨b2, rfl, rfl⟩
  refine RL.val (Wanted.free rfl) (V.assign rfl rfl) rfl ?_
  refine RL.nil ?_
  refine SG.seq ?_
  refine SG.region ?_
  refine RL.val (Wanted.free rfl) (V.loadAgg (us := _) rfl ag57 rfl (by repeat (first | exact Pick.here | apply Pick.there)) rfl rfl) rfl ?_
  refine RL.eff (Wanted.free rfl) (E.call rfl go47 rfl (xUint_ok (by repeat (first | exact List.Mem.head _ | assumption | apply List.Mem.tail)))) rfl ?_
  rintro _ _ ⟨l1, e1, u1, a1, m1, c1, hr, rfl, rfl⟩
  refine RL.sl (a := a1) (by repeat (first | exact List.Mem.head _ | assumption | apply List.Mem.tail)) fun hl1 _ _ => ?_
  subst hl1
  have hu := u1.toNat_lt
  refine RL.val (Wanted.free rfl) (V.move rfl rfl) rfl ?_
  refine RL.val (Wanted.free rfl) (V.extract rfl rfl rfl) rfl ?_
  refine RL.val (Wanted.free rfl) (V.extract rfl rfl rfl) rfl ?_
  refine RL.eff (Wanted.free rfl) (E.storeAgg rfl rfl rfl rfl sz57 (by repeat (first | exact Pick.here | apply Pick.there)) (by first | (simp [Value.oneCell']; done) | (simp [setAt, Value.oneCell']; done)) (by first | (simp; done) | (simp [setAt]; done))) rfl ?_
  rintro _ _ rfl
  refine RL.val (Wanted.free rfl) (V.assign rfl rfl) rfl ?_
  refine RL.nil ?_
  refine SG.seq ?_
  refine SG.seq ?_
  refine SG.region ?_
  refine RL.val (Wanted.free rfl) (V.fieldAddr rfl rfl fo57_1) rfl ?_
  refine RL.val (Wanted.free rfl) (V.load rfl on46 rfl (by repeat (first | exact Pick.here | apply Pick.there)) rfl) rfl ?_
  refine RL.cmp (Wanted.free rfl) (V.bin rfl rfl rfl B.neq) rfl (fun h13 => ?_) (fun h13 => ?_)
  · skip
    refine RL.nil ?_
    refine SG.cond_true rfl ?_
    refine SG.seq ?_
    refine SG.region ?_
    refine RL.val (Wanted.free rfl) (V.loadAgg (us := _) rfl ag57 rfl (by repeat (first | exact Pick.here | apply Pick.there)) rfl rfl) rfl ?_
    refine RL.eff (Wanted.free rfl) (E.storeAgg rfl rfl rfl rfl sz57 (by repeat (first | exact Pick.here | apply Pick.there)) (by first | (simp [Value.oneCell']; done) | (simp [setAt, Value.oneCell']; done)) (by first | (simp; done) | (simp [setAt]; done))) rfl ?_
    rintro _ _ rfl
    refine RL.val (Wanted.free rfl) (V.assign rfl rfl) rfl ?_
    refine RL.nil ?_
    first
    | (exfalso; omega)
    | (refine SG.retE (Ret.r2 Try.func50 rfl (.agg rfl ag57 (by repeat (first | exact Pick.here | apply Pick.there)) rfl rfl) (.tmp rfl)) ?_ ⟨_, _, _, _, _, _, rdS_err (rdL_err hr (by omega)) (by omega), rfl, rfl, by simp⟩; (repeat (first | exact Ent.refl _ | (apply Ent.cons; (· repeat (first | exact Pick.here | (refine Pick.sl ?_; (· repeat (first | exact List.Mem.head _ | assumption | apply List.Mem.tail))) | apply Pick.there))) | (refine Ent.trans (Ent.drop _ _) ?_))))
    | (refine SG.retE (Ret.r2 Try.func50 rfl (.agg rfl ag57 (by repeat (first | exact Pick.here | apply Pick.there)) rfl rfl) (.tmp rfl)) ?_ ⟨_, _, _, _, _, _, rdS_err (rdL_bad hr (by omega)) (by decide), rfl, rfl, by simp⟩; (repeat (first | exact Ent.refl _ | (apply Ent.cons; (· repeat (first | exact Pick.here | (refine Pick.sl ?_; (· repeat (first | exact List.Mem.head _ | assumption | apply List.Mem.tail))) | apply Pick.there))) | (refine Ent.trans (Ent.drop _ _) ?_))))
    | (refine SG.retE (Ret.r2 Try.func50 rfl (.agg rfl ag57 (by repeat (first | exact Pick.here | apply Pick.there)) rfl rfl) (.tmp rfl)) ?_ ⟨_, _, _, _, _, _, rdS_short (rdL_ok hr (by omega)) (by omega), rfl, rfl, by simp⟩; (repeat (first | exact Ent.refl _ | (apply Ent.cons; (· repeat (first | exact Pick.here | (refine Pick.sl ?_; (· repeat (first | exact List.Mem.head _ | assumption | apply List.Mem.tail))) | apply Pick.there))) | (refine Ent.trans (Ent.drop _ _) ?_))))
    | (refine SG.retE (Ret.r2 Try.func50 rfl (.agg rfl ag57 (by repeat (first | exact Pick.here | apply Pick.there)) rfl rfl) (.tmp rfl)) ?_ ⟨_, _, _, _, _, _, rdS_ok (rdL_ok hr (by omega)) (by omega), rfl, rfl, by simp; omega⟩; (repeat (first | exact Ent.refl _ | (apply Ent.cons; (· repeat (first | exact Pick.here | (refine Pick.sl ?_; (· repeat (first | exact List.Mem.head _ | assumption | apply List.Mem.tail))) | apply Pick.there))) | (refine Ent.trans (Ent.drop _ _) ?_))))
  · skip
    refine RL.nil ?_
    refine SG.cond_false rfl ?_
    refine SG.skip ?_
    refine SG.seq ?_
    refine SG.seq ?_
    have he1 : e1 = 0 := by omega
    subst he1
    refine SG.region ?_
    refine RL.val (Wanted.free rfl) (V.move rfl rfl) rfl ?_
    refine RL.cmp (Wanted.free rfl) (V.bin rfl rfl rfl B.lss) rfl (fun h18 => ?_) (fun h18 => ?_)
    · skip
      refine RL.val (Wanted.free rfl) (V.move rfl rfl) rfl ?_
      refine RL.skip (Wanted.no rfl rfl rfl rfl rfl) rfl ?_
      refine RL.skip (Wanted.no rfl rfl rfl rfl rfl) rfl ?_
      refine RL.skip (Wanted.no rfl rfl rfl rfl rfl) rfl ?_
      refine RL.skip (Wanted.no rfl rfl rfl rfl rfl) rfl ?_
      refine RL.skip (Wanted.no rfl rfl rfl rfl rfl) rfl ?_
      refine RL.val (Wanted.free rfl) (V.pick_true rfl rfl rfl) rfl ?_
      refine RL.nil ?_
      refine SG.cond_true rfl ?_
      refine SG.seq ?_
      refine SG.region ?_
      refine RL.val (Wanted.free rfl) (V.loadAgg (us := _) rfl ag57 rfl (by repeat (first | exact Pick.here | apply Pick.there)) rfl rfl) rfl ?_
      refine RL.eff (Wanted.free rfl) (E.call rfl go54 rfl (xFail_ok)) rfl ?_
      rintro _ _ ⟨rfl, rfl⟩
      rw [if_pos rfl]
      refine RL.eff (Wanted.free rfl) (E.storeAgg rfl rfl rfl rfl sz57 (by repeat (first | exact Pick.here | apply Pick.there)) (by first | (simp [Value.oneCell']; done) | (simp [setAt, Value.oneCell']; done)) (by first | (simp; done) | (simp [setAt]; done))) rfl ?_
      rintro _ _ rfl
      refine RL.val (Wanted.free rfl) (V.assign rfl rfl) rfl ?_
      refine RL.nil ?_
      first
      | (exfalso; omega)
      | (refine SG.retE (Ret.r2 Try.func50 rfl (.agg rfl ag57 (by repeat (first | exact Pick.here | apply Pick.there)) rfl rfl) (.tmp rfl)) ?_ ⟨_, _, _, _, _, _, rdS_err (rdL_err hr (by omega)) (by omega), rfl, rfl, by simp⟩; (repeat (first | exact Ent.refl _ | (apply Ent.cons; (· repeat (first | exact Pick.here | (refine Pick.sl ?_; (· repeat (first | exact List.Mem.head _ | assumption | apply List.Mem.tail))) | apply Pick.there))) | (refine Ent.trans (Ent.drop _ _) ?_))))
      | (refine SG.retE (Ret.r2 Try.func50 rfl (.agg rfl ag57 (by repeat (first | exact Pick.here | apply Pick.there)) rfl rfl) (.tmp rfl)) ?_ ⟨_, _, _, _, _, _, rdS_err (rdL_bad hr (by omega)) (by decide), rfl, rfl, by simp⟩; (repeat (first | exact Ent.refl _ | (apply Ent.cons; (· repeat (first | exact Pick.here | (refine Pick.sl ?_; (· repeat (first | exact List.Mem.head _ | assumption | apply List.Mem.tail))) | apply Pick.there))) | (refine Ent.trans (Ent.drop _ _) ?_))))
      | (refine SG.retE (Ret.r2 Try.func50 rfl (.agg rfl ag57 (by repeat (first | exact Pick.here | apply Pick.there)) rfl rfl) (.tmp rfl)) ?_ ⟨_, _, _, _, _, _, rdS_short (rdL_ok hr (by omega)) (by omega), rfl, rfl, by simp⟩; (repeat (first | exact Ent.refl _ | (apply Ent.cons; (· repeat (first | exact Pick.here | (refine Pick.sl ?_; (· repeat (first | exact List.Mem.head _ | assumption | apply List.Mem.tail))) | apply Pick.there))) | (refine Ent.trans (Ent.drop _ _) ?_))))
      | (refine SG.retE (Ret.r2 Try.func50 rfl (.agg rfl ag57 (by repeat (first | exact Pick.here | apply Pick.there)) rfl rfl) (.tmp rfl)) ?_ ⟨_, _, _, _, _, _, rdS_ok (rdL_ok hr (by omega)) (by omega), rfl, rfl, by simp; omega⟩; (repeat (first | exact Ent.refl _ | (apply Ent.cons; (· repeat (first | exact Pick.here | (refine Pick.sl ?_; (· repeat (first | exact List.Mem.head _ | assumption | apply List.Mem.tail))) | apply Pick.there))) | (refine Ent.trans (Ent.drop _ _) ?_))))
    · skip
      refine RL.val (Wanted.free rfl) (V.move rfl rfl) rfl ?_
      refine RL.val (Wanted.yes rfl rfl rfl rfl) (V.move rfl rfl) rfl ?_
      refine RL.val (Wanted.yes rfl rfl rfl rfl) (V.move rfl rfl) rfl ?_
      refine RL.val (Wanted.yes rfl rfl rfl rfl) (V.max rfl rfl rfl rfl) rfl ?_
      refine RL.val (Wanted.yes rfl rfl rfl rfl) (V.to64 rfl ⟨_, ui3⟩ ui31 rfl) rfl ?_
      refine RL.cmp (Wanted.yes rfl rfl rfl rfl) (V.bin rfl rfl rfl B.gtr) rfl (fun h29 => ?_) (fun h29 => ?_)
      · skip
        refine RL.val (Wanted.free rfl) (V.pick_false rfl rfl rfl) rfl ?_
        refine RL.nil ?_
        refine SG.cond_true rfl ?_
        refine SG.seq ?_
        refine SG.region ?_
        refine RL.val (Wanted.free rfl) (V.loadAgg (us := _) rfl ag57 rfl (by repeat (first | exact Pick.here | apply Pick.there)) rfl rfl) rfl ?_
        refine RL.eff (Wanted.free rfl) (E.call rfl go54 rfl (xFail_ok)) rfl ?_
        rintro _ _ ⟨rfl, rfl⟩
        rw [if_pos rfl]
        refine RL.eff (Wanted.free rfl) (E.storeAgg rfl rfl rfl rfl sz57 (by repeat (first | exact Pick.here | apply Pick.there)) (by first | (simp [Value.oneCell']; done) | (simp [setAt, Value.oneCell']; done)) (by first | (simp; done) | (simp [setAt]; done))) rfl ?_
        rintro _ _ rfl
        refine RL.val (Wanted.free rfl) (V.assign rfl rfl) rfl ?_
        refine RL.nil ?_
        first
        | (exfalso; omega)
        | (refine SG.retE (Ret.r2 Try.func50 rfl (.agg rfl ag57 (by repeat (first | exact Pick.here | apply Pick.there)) rfl rfl) (.tmp rfl)) ?_ ⟨_, _, _, _, _, _, rdS_err (rdL_err hr (by omega)) (by omega), rfl, rfl, by simp⟩; (repeat (first | exact Ent.refl _ | (apply Ent.cons; (· repeat (first | exact Pick.here | (refine Pick.sl ?_; (· repeat (first | exact List.Mem.head _ | assumption | apply List.Mem.tail))) | apply Pick.there))) | (refine Ent.trans (Ent.drop _ _) ?_))))
        | (refine SG.retE (Ret.r2 Try.func50 rfl (.agg rfl ag57 (by repeat (first | exact Pick.here | apply Pick.there)) rfl rfl) (.tmp rfl)) ?_ ⟨_, _, _, _, _, _, rdS_err (rdL_bad hr (by omega)) (by decide), rfl, rfl, by simp⟩; (repeat (first | exact Ent.refl _ | (apply Ent.cons; (· repeat (first | exact Pick.here | (refine Pick.sl ?_; (· repeat (first | exact List.Mem.head _ | assumption | apply List.Mem.tail))) | apply Pick.there))) | (refine Ent.trans (Ent.drop _ _) ?_))))
        | (refine SG.retE (Ret.r2 Try.func50 rfl (.agg rfl ag57 (by repeat (first | exact Pick.here | apply Pick.there)) rfl rfl) (.tmp rfl)) ?_ ⟨_, _, _, _, _, _, rdS_short (rdL_ok hr (by omega)) (by omega), rfl, rfl, by simp⟩; (repeat (first | exact Ent.refl _ | (apply Ent.cons; (· repeat (first | exact Pick.here | (refine Pick.sl ?_; (· repeat (first | exact List.Mem.head _ | assumption | apply List.Mem.tail))) | apply Pick.there))) | (refine Ent.trans (Ent.drop _ _) ?_))))
        | (refine SG.retE (Ret.r2 Try.func50 rfl (.agg rfl ag57 (by repeat (first | exact Pick.here | apply Pick.there)) rfl rfl) (.tmp rfl)) ?_ ⟨_, _, _, _, _, _, rdS_ok (rdL_ok hr (by omega)) (by omega), rfl, rfl, by simp; omega⟩; (repeat (first | exact Ent.refl _ | (apply Ent.cons; (· repeat (first | exact Pick.here | (refine Pick.sl ?_; (· repeat (first | exact List.Mem.head _ | assumption | apply List.Mem.tail))) | apply Pick.there))) | (refine Ent.trans (Ent.drop _ _) ?_))))
      · skip
        refine RL.val (Wanted.free rfl) (V.pick_false rfl rfl rfl) rfl ?_
        refine RL.nil ?_
        refine SG.cond_false rfl ?_
        refine SG.skip ?_
        refine SG.seq ?_
        refine SG.seq ?_
        have hlen : ((UInt64.ofNat ((l1.length : Int) % 18446744073709551616).toNat).toNat : Int) = l1.length := by rw [UInt64.toNat_ofNat']; omega
        refine SG.region ?_
        refine RL.val (Wanted.free rfl) (V.move rfl rfl) rfl ?_
        refine RL.val (Wanted.free rfl) (V.fieldAddr rfl rfl fo57_0) rfl ?_
        refine RL.val (Wanted.free rfl) (V.load rfl on23 rfl (by repeat (first | exact Pick.here | apply Pick.there)) rfl) rfl ?_
        refine RL.val (Wanted.free rfl) (V.len rfl rfl el23.under rfl) rfl ?_
        refine RL.val (Wanted.free rfl) (V.to64 rfl ⟨_, ui3⟩ ui31 rfl) rfl ?_
        refine RL.cmp (Wanted.free rfl) (V.bin rfl rfl rfl B.gtr) rfl (fun h39 => ?_) (fun h39 => ?_)
        · skip
          refine RL.nil ?_
          refine SG.cond_true rfl ?_
          refine SG.seq ?_
          refine SG.region ?_
          refine RL.val (Wanted.free rfl) (V.loadAgg (us := _) rfl ag57 rfl (by repeat (first | exact Pick.here | apply Pick.there)) rfl rfl) rfl ?_
          refine RL.eff (Wanted.free rfl) (E.call rfl go54 rfl (xFail_ok)) rfl ?_
          rintro _ _ ⟨rfl, rfl⟩
          rw [if_pos rfl]
          refine RL.eff (Wanted.free rfl) (E.storeAgg rfl rfl rfl rfl sz57 (by repeat (first | exact Pick.here | apply Pick.there)) (by first | (simp [Value.oneCell']; done) | (simp [setAt, Value.oneCell']; done)) (by first | (simp; done) | (simp [setAt]; done))) rfl ?_
          rintro _ _ rfl
          refine RL.val (Wanted.free rfl) (V.assign rfl rfl) rfl ?_
          refine RL.nil ?_
          first
          | (exfalso; omega)
          | (refine SG.retE (Ret.r2 Try.func50 rfl (.agg rfl ag57 (by repeat (first | exact Pick.here | apply Pick.there)) rfl rfl) (.tmp rfl)) ?_ ⟨_, _, _, _, _, _, rdS_err (rdL_err hr (by omega)) (by omega), rfl, rfl, by simp⟩; (repeat (first | exact Ent.refl _ | (apply Ent.cons; (· repeat (first | exact Pick.here | (refine Pick.sl ?_; (· repeat (first | exact List.Mem.head _ | assumption | apply List.Mem.tail))) | apply Pick.there))) | (refine Ent.trans (Ent.drop _ _) ?_))))
          | (refine SG.retE (Ret.r2 Try.func50 rfl (.agg rfl ag57 (by repeat (first | exact Pick.here | apply Pick.there)) rfl rfl) (.tmp rfl)) ?_ ⟨_, _, _, _, _, _, rdS_err (rdL_bad hr (by omega)) (by decide), rfl, rfl, by simp⟩; (repeat (first | exact Ent.refl _ | (apply Ent.cons; (· repeat (first | exact Pick.here | (refine Pick.sl ?_; (· repeat (first | exact List.Mem.head _ | assumption | apply List.Mem.tail))) | apply Pick.there))) | (refine Ent.trans (Ent.drop _ _) ?_))))
          | (refine SG.retE (Ret.r2 Try.func50 rfl (.agg rfl ag57 (by repeat (first | exact Pick.here | apply Pick.there)) rfl rfl) (.tmp rfl)) ?_ ⟨_, _, _, _, _, _, rdS_short (rdL_ok hr (by omega)) (by omega), rfl, rfl, by simp⟩; (repeat (first | exact Ent.refl _ | (apply Ent.cons; (· repeat (first | exact Pick.here | (refine Pick.sl ?_; (· repeat (first | exact List.Mem.head _ | assumption | apply List.Mem.tail))) | apply Pick.there))) | (refine Ent.trans (Ent.drop _ _) ?_))))
          | (refine SG.retE (Ret.r2 Try.func50 rfl (.agg rfl ag57 (by repeat (first | exact Pick.here | apply Pick.there)) rfl rfl) (.tmp rfl)) ?_ ⟨_, _, _, _, _, _, rdS_ok (rdL_ok hr (by omega)) (by omega), rfl, rfl, by simp; omega⟩; (repeat (first | exact Ent.refl _ | (apply Ent.cons; (· repeat (first | exact Pick.here | (refine Pick.sl ?_; (· repeat (first | exact List.Mem.head _ | assumption | apply List.Mem.tail))) | apply Pick.there))) | (refine Ent.trans (Ent.drop _ _) ?_))))
        · skip
          refine RL.nil ?_
          refine SG.cond_false rfl ?_
          refine SG.skip ?_
          refine SG.seq ?_
          refine SG.cut (T := R8) (a := a1) (lo := u1.toNat) (hi := l1.length) (by repeat (first | exact List.Mem.head _ | assumption | apply List.Mem.tail)) (by omega) (by omega) (List.take_of_length_le (by simp)) ?_
          refine SG.cut (T := R8) (a := a1) (lo := 0) (hi := u1.toNat) (by repeat (first | exact List.Mem.head _ | assumption | apply List.Mem.tail)) (by omega) (by omega) (by rw [List.drop_zero, Nat.sub_zero]) ?_
          refine SG.drawP1 12 4 wide rfl rfl rfl (by repeat (first | exact Pick.here | apply Pick.there)) ?_
          refine RH.val 0 rfl (by kernel_rfl) (by kernel_rfl) (by kernel_rfl) (Wanted.free rfl) (V.fieldAddr rfl rfl fo57_0) (by repeat (first | exact Ent.refl _ | (apply Ent.cons; (· repeat (first | exact Pick.here | (refine Pick.sl ?_; (· repeat (first | exact List.Mem.head _ | assumption | apply List.Mem.tail))) | apply Pick.there))) | (refine Ent.trans (Ent.drop _ _) ?_))) rfl ?_
          refine RH.val 1 rfl (by kernel_rfl) (by kernel_rfl) (by kernel_rfl) (Wanted.free rfl) (V.load rfl on23 rfl (by repeat (first | exact Pick.here | apply Pick.there)) rfl) (by repeat (first | exact Ent.refl _ | (apply Ent.cons; (· repeat (first | exact Pick.here | (refine Pick.sl ?_; (· repeat (first | exact List.Mem.head _ | assumption | apply List.Mem.tail))) | apply Pick.there))) | (refine Ent.trans (Ent.drop _ _) ?_))) rfl ?_
          refine RH.val 2 rfl (by kernel_rfl) (by kernel_rfl) (by kernel_rfl) (Wanted.free rfl) (V.move rfl rfl) (by repeat (first | exact Ent.refl _ | (apply Ent.cons; (· repeat (first | exact Pick.here | (refine Pick.sl ?_; (· repeat (first | exact List.Mem.head _ | assumption | apply List.Mem.tail))) | apply Pick.there))) | (refine Ent.trans (Ent.drop _ _) ?_))) rfl ?_
          refine RH.val 3 rfl (by kernel_rfl) (by kernel_rfl) (by kernel_rfl) (Wanted.free rfl) (V.slice (T := R8) (lo := u1.toNat) (hi := l1.length) rfl el23.slice rfl ⟨_, _, rfl, (by first | rfl | omega)⟩ rfl (by omega) (by omega)) (by repeat (first | exact Ent.refl _ | (apply Ent.cons; (· repeat (first | exact Pick.here | (refine Pick.sl ?_; (· repeat (first | exact List.Mem.head _ | assumption | apply List.Mem.tail))) | apply Pick.there))) | (refine Ent.trans (Ent.drop _ _) ?_))) rfl ?_
          refine RH.val 4 rfl (by kernel_rfl) (by kernel_rfl) (by kernel_rfl) (Wanted.free rfl) (V.buildS [(0, _)] rfl bs57 (by exact ⟨rfl, ⟨_, rfl, rfl⟩, trivial⟩) rfl) (by repeat (first | exact Ent.refl _ | (apply Ent.cons; (· repeat (first | exact Pick.here | (refine Pick.sl ?_; (· repeat (first | exact List.Mem.head _ | assumption | apply List.Mem.tail))) | apply Pick.there))) | (refine Ent.trans (Ent.drop _ _) ?_))) rfl ?_
          refine RH.val 5 rfl (by kernel_rfl) (by kernel_rfl) (by kernel_rfl) (Wanted.free rfl) (V.fieldAddr rfl rfl fo57_0) (by repeat (first | exact Ent.refl _ | (apply Ent.cons; (· repeat (first | exact Pick.here | (refine Pick.sl ?_; (· repeat (first | exact List.Mem.head _ | assumption | apply List.Mem.tail))) | apply Pick.there))) | (refine Ent.trans (Ent.drop _ _) ?_))) rfl ?_
          refine RH.val 6 rfl (by kernel_rfl) (by kernel_rfl) (by kernel_rfl) (Wanted.free rfl) (V.load rfl on23 rfl (by repeat (first | exact Pick.here | apply Pick.there)) rfl) (by repeat (first | exact Ent.refl _ | (apply Ent.cons; (· repeat (first | exact Pick.here | (refine Pick.sl ?_; (· repeat (first | exact List.Mem.head _ | assumption | apply List.Mem.tail))) | apply Pick.there))) | (refine Ent.trans (Ent.drop _ _) ?_))) rfl ?_
          refine RH.val 7 rfl (by kernel_rfl) (by kernel_rfl) (by kernel_rfl) (Wanted.free rfl) (V.move rfl rfl) (by repeat (first | exact Ent.refl _ | (apply Ent.cons; (· repeat (first | exact Pick.here | (refine Pick.sl ?_; (· repeat (first | exact List.Mem.head _ | assumption | apply List.Mem.tail))) | apply Pick.there))) | (refine Ent.trans (Ent.drop _ _) ?_))) rfl ?_
          refine RH.val 8 rfl (by kernel_rfl) (by kernel_rfl) (by kernel_rfl) (Wanted.free rfl) (V.slice (T := R8) (lo := 0) (hi := u1.toNat) rfl el23.slice rfl rfl ⟨_, _, rfl, (by first | rfl | omega)⟩ (by omega) (by omega)) (by repeat (first | exact Ent.refl _ | (apply Ent.cons; (· repeat (first | exact Pick.here | (refine Pick.sl ?_; (· repeat (first | exact List.Mem.head _ | assumption | apply List.Mem.tail))) | apply Pick.there))) | (refine Ent.trans (Ent.drop _ _) ?_))) rfl ?_
          refine RH.val 9 rfl (by kernel_rfl) (by kernel_rfl) (by kernel_rfl) (Wanted.free rfl) (V.bytesToS rfl el23.under ui5 us9 rfl (by repeat (first | exact List.Mem.head _ | assumption | apply List.Mem.tail))) (by repeat (first | exact Ent.refl _ | (apply Ent.cons; (· repeat (first | exact Pick.here | (refine Pick.sl ?_; (· repeat (first | exact List.Mem.head _ | assumption | apply List.Mem.tail))) | apply Pick.there))) | (refine Ent.trans (Ent.drop _ _) ?_))) rfl ?_
          refine RH.one (i := 10) (by kernel_rfl) ?_
          refine RHone.eff rfl (Wanted.free rfl) (E.storeAgg rfl rfl rfl rfl sz57 (by repeat (first | exact Pick.here | apply Pick.there)) (by first | (simp [Value.oneCell']; done) | (simp [setAt, Value.oneCell']; done)) (by first | (simp; done) | (simp [setAt]; done))) rfl ?_
          rintro _ _ rfl
          refine ⟨(by repeat (first | exact Ent.refl _ | (apply Ent.cons; (· repeat (first | exact Pick.here | (refine Pick.sl ?_; (· repeat (first | exact List.Mem.head _ | assumption | apply List.Mem.tail))) | apply Pick.there))) | (refine Ent.trans (Ent.drop _ _) ?_))), ?_⟩
          refine RH.val 11 rfl (by kernel_rfl) (by kernel_rfl) (by kernel_rfl) (Wanted.free rfl) (V.assign rfl rfl) (by repeat (first | exact Ent.refl _ | (apply Ent.cons; (· repeat (first | exact Pick.here | (refine Pick.sl ?_; (· repeat (first | exact List.Mem.head _ | assumption | apply List.Mem.tail))) | apply Pick.there))) | (refine Ent.trans (Ent.drop _ _) ?_))) rfl ?_
          refine RH.done (by kernel_rfl) ?_
          first
          | (exfalso; omega)
          | (refine SG.retE (Ret.r2 Try.func50 rfl (.agg rfl ag57 (by repeat (first | exact Pick.here | apply Pick.there)) rfl rfl) (.tmp rfl)) ?_ ⟨_, _, _, _, _, _, rdS_err (rdL_err hr (by omega)) (by omega), rfl, rfl, by simp⟩; (repeat (first | exact Ent.refl _ | (apply Ent.cons; (· repeat (first | exact Pick.here | (refine Pick.sl ?_; (· repeat (first | exact List.Mem.head _ | assumption | apply List.Mem.tail))) | apply Pick.there))) | (refine Ent.trans (Ent.drop _ _) ?_))))
          | (refine SG.retE (Ret.r2 Try.func50 rfl (.agg rfl ag57 (by repeat (first | exact Pick.here | apply Pick.there)) rfl rfl) (.tmp rfl)) ?_ ⟨_, _, _, _, _, _, rdS_err (rdL_bad hr (by omega)) (by decide), rfl, rfl, by simp⟩; (repeat (first | exact Ent.refl _ | (apply Ent.cons; (· repeat (first | exact Pick.here | (refine Pick.sl ?_; (· repeat (first | exact List.Mem.head _ | assumption | apply List.Mem.tail))) | apply Pick.there))) | (refine Ent.trans (Ent.drop _ _) ?_))))
          | (refine SG.retE (Ret.r2 Try.func50 rfl (.agg rfl ag57 (by repeat (first | exact Pick.here | apply Pick.there)) rfl rfl) (.tmp rfl)) ?_ ⟨_, _, _, _, _, _, rdS_short (rdL_ok hr (by omega)) (by omega), rfl, rfl, by simp⟩; (repeat (first | exact Ent.refl _ | (apply Ent.cons; (· repeat (first | exact Pick.here | (refine Pick.sl ?_; (· repeat (first | exact List.Mem.head _ | assumption | apply List.Mem.tail))) | apply Pick.there))) | (refine Ent.trans (Ent.drop _ _) ?_))))
          | (refine SG.retE (Ret.r2 Try.func50 rfl (.agg rfl ag57 (by repeat (first | exact Pick.here | apply Pick.there)) rfl rfl) (.tmp rfl)) ?_ ⟨_, _, _, _, _, _, rdS_ok (rdL_ok hr (by omega)) (by omega), rfl, rfl, by simp; omega⟩; (repeat (first | exact Ent.refl _ | (apply Ent.cons; (· repeat (first | exact Pick.here | (refine Pick.sl ?_; (· repeat (first | exact List.Mem.head _ | assumption | apply List.Mem.tail))) | apply Pick.there))) | (refine Ent.trans (Ent.drop _ _) ?_))))

set_option maxRecDepth 100000 in
theorem xInts_ok {κ : World} {L : List Assn} {a : Option Addr} {m c : Nat} {l : List UInt8} {e : Int} (most : Int) (hm : Sl R8 a m c l ∈ L) (hm1 : -9223372036854775808 ≤ most) (hm2 : most ≤ 9223372036854775807) (hb : l.length ≤ 1000000) :
    Ctr Try.prog 51 #[.agg #[.slice a m c, vI e], vI most] κ L (fun v M => ∃ l' e' xs a' m' c' ax kx cx, rdIs l e most = (l', e', xs) ∧ v = .tuple #[.agg #[.slice a' m' c', vI e'], .slice ax kx cx] ∧ M = Sl R8 a' m' c' l' :: Buf RI 3 ax kx cx xs :: L) := by
  refine Ctr.enter (vs := [.agg #[.slice a m c, vI e], vI most]) (m := 57) Try.func51 rfl rfl rfl ?_
  have hcv : 0 ≤ most → ((UInt64.ofNat (most % 18446744073709551616).toNat).toNat : Int) = most := by intro h; rw [UInt64.toNat_ofNat']; omega
  have hcm : ((UInt64.ofNat ((if most < 0 then 0 else most) % 18446744073709551616).toNat).toNat : Int) = if most < 0 then 0 else most := by rw [UInt64.toNat_ofNat']; split <;> omega
  refine SG.seq ?_
  refine SG.region ?_
  refine RL.eff (Wanted.free rfl) (E.box [.slice a m c, vI e] rfl rfl rfl) rfl ?_
  rintro _ _ ⟨b2, rfl, rfl⟩
  refine RL.eff (Wanted.free rfl) (E.alloc rfl ze57) rfl ?_
  rintro _ _ ⟨b4, rfl, rfl⟩
  refine RL.val (Wanted.free rfl) (V.assign rfl rfl) rfl ?_
  refine RL.nil ?_
  refine SG.seq ?_
  refine SG.region ?_
  refine RL.val (Wanted.free rfl) (V.loadAgg (us := _) rfl ag57 rfl (by repeat (first | exact Pick.here | apply Pick.there)) rfl rfl) rfl ?_
  refine RL.eff (Wanted.free rfl) (E.call rfl go47 rfl (xUint_ok (by repeat (first | exact List.Mem.head _ | assumption | apply List.Mem.tail)))) rfl ?_
  rintro _ _ ⟨l1, e1, u1, a1, m1, c1, hr, rfl, rfl⟩
  have hu := u1.toNat_lt
  have hlen := rdU_len hr
  refine RL.val (Wanted.free rfl) (V.move rfl rfl) rfl ?_
  refine RL.val (Wanted.free rfl) (V.extract rfl rfl rfl) rfl ?_
  refine RL.val (Wanted.free rfl) (V.extract rfl rfl rfl) rfl ?_
  refine RL.eff (Wanted.free rfl) (E.storeAgg rfl rfl rfl rfl sz57 (by repeat (first | exact Pick.here | apply Pick.there)) (by first | (simp [Value.oneCell']; done) | (simp [setAt, Value.oneCell']; done)) (by first | (simp; done) | (simp [setAt]; done))) rfl ?_
  rintro _ _ rfl
  refine RL.val (Wanted.free rfl) (V.assign rfl rfl) rfl ?_
  refine RL.nil ?_
  refine SG.seq ?_
  refine SG.seq ?_
  refine SG.region ?_
  refine RL.val (Wanted.free rfl) (V.fieldAddr rfl rfl fo57_1) rfl ?_
  refine RL.val (Wanted.free rfl) (V.load rfl on46 rfl (by repeat (first | exact Pick.here | apply Pick.there)) rfl) rfl ?_
  refine RL.cmp (Wanted.free rfl) (V.bin rfl rfl rfl B.neq) rfl (fun h13 => ?_) (fun h13 => ?_)
  · skip
    refine RL.nil ?_
    refine SG.cond_true rfl ?_
    refine SG.seq ?_
    refine SG.region ?_
    refine RL.val (Wanted.free rfl) (V.loadAgg (us := _) rfl ag57 rfl (by repeat (first | exact Pick.here | apply Pick.there)) rfl rfl) rfl ?_
    refine RL.eff (Wanted.free rfl) (E.storeAgg rfl rfl rfl rfl sz57 (by repeat (first | exact Pick.here | apply Pick.there)) (by first | (simp [Value.oneCell']; done) | (simp [setAt, Value.oneCell']; done)) (by first | (simp; done) | (simp [setAt]; done))) rfl ?_
    rintro _ _ rfl
    refine RL.val (Wanted.free rfl) (V.assign rfl rfl) rfl ?_
    refine RL.nil ?_
    first
    | (exfalso; omega)
    | (refine SG.retE (Ret.r2 Try.func51 rfl (.agg rfl ag57 (by repeat (first | exact Pick.here | apply Pick.there)) rfl rfl) (.tmp rfl)) ?_ ⟨_, _, _, _, _, _, _, _, _, rdIs_err (rdL_err hr (by omega)) (by omega), rfl, rfl⟩; (refine Ent.trans (Buf.nil (T := RI) (e := 3)) ?_; repeat (first | exact Ent.refl _ | (apply Ent.cons; (· repeat (first | exact Pick.here | (refine Pick.sl ?_; (· repeat (first | exact List.Mem.head _ | assumption | apply List.Mem.tail))) | apply Pick.there))) | (refine Ent.trans (Ent.drop _ _) ?_))))
    | (refine SG.retE (Ret.r2 Try.func51 rfl (.agg rfl ag57 (by repeat (first | exact Pick.here | apply Pick.there)) rfl rfl) (.tmp rfl)) ?_ ⟨_, _, _, _, _, _, _, _, _, rdIs_err (rdL_bad hr (by omega)) (by decide), rfl, rfl⟩; (refine Ent.trans (Buf.nil (T := RI) (e := 3)) ?_; repeat (first | exact Ent.refl _ | (apply Ent.cons; (· repeat (first | exact Pick.here | (refine Pick.sl ?_; (· repeat (first | exact List.Mem.head _ | assumption | apply List.Mem.tail))) | apply Pick.there))) | (refine Ent.trans (Ent.drop _ _) ?_))))
    | (refine SG.retE (Ret.r2 Try.func51 rfl (.agg rfl ag57 (by repeat (first | exact Pick.here | apply Pick.there)) rfl rfl) (.tmp rfl)) ?_ ⟨_, _, _, _, _, _, _, _, _, rdIs_stopE (rdL_ok hr (by omega)) hi (by omega) (by omega), rfl, rfl⟩; (refine Ent.trans (Buf.nil (T := RI) (e := 3)) ?_; repeat (first | exact Ent.refl _ | (apply Ent.cons; (· repeat (first | exact Pick.here | (refine Pick.sl ?_; (· repeat (first | exact List.Mem.head _ | assumption | apply List.Mem.tail))) | apply Pick.there))) | (refine Ent.trans (Ent.drop _ _) ?_))))
    | (refine SG.retE (Ret.r2 Try.func51 rfl (.agg rfl ag57 (by repeat (first | exact Pick.here | apply Pick.there)) rfl rfl) (.tmp rfl)) ?_ ⟨_, _, _, _, _, _, _, _, _, rdIs_stopO (rdL_ok hr (by omega)) hi (by omega) (by omega), rfl, rfl⟩; (repeat (first | exact Ent.refl _ | (apply Ent.cons; (· repeat (first | exact Pick.here | (refine Pick.sl ?_; (· repeat (first | exact List.Mem.head _ | assumption | apply List.Mem.tail))) | apply Pick.there))) | (refine Ent.trans (Ent.drop _ _) ?_))))
  · skip
    refine RL.nil ?_
    refine SG.cond_false rfl ?_
    refine SG.skip ?_
    refine SG.seq ?_
    refine SG.seq ?_
    have he1 : e1 = 0 := by omega
    subst he1
    refine SG.region ?_
    refine RL.val (Wanted.free rfl) (V.move rfl rfl) rfl ?_
    refine RL.cmp (Wanted.free rfl) (V.bin rfl rfl rfl B.lss) rfl (fun h18 => ?_) (fun h18 => ?_)
    · skip
      refine RL.val (Wanted.free rfl) (V.move rfl rfl) rfl ?_
      refine RL.skip (Wanted.no rfl rfl rfl rfl rfl) rfl ?_
      refine RL.skip (Wanted.no rfl rfl rfl rfl rfl) rfl ?_
      refine RL.skip (Wanted.no rfl rfl rfl rfl rfl) rfl ?_
      refine RL.skip (Wanted.no rfl rfl rfl rfl rfl) rfl ?_
      refine RL.skip (Wanted.no rfl rfl rfl rfl rfl) rfl ?_
      refine RL.val (Wanted.free rfl) (V.pick_true rfl rfl rfl) rfl ?_
      refine RL.nil ?_
      refine SG.cond_true rfl ?_
      refine SG.seq ?_
      refine SG.region ?_
      refine RL.val (Wanted.free rfl) (V.loadAgg (us := _) rfl ag57 rfl (by repeat (first | exact Pick.here | apply Pick.there)) rfl rfl) rfl ?_
      refine RL.eff (Wanted.free rfl) (E.call rfl go54 rfl (xFail_ok)) rfl ?_
      rintro _ _ ⟨rfl, rfl⟩
      rw [if_pos rfl]
      refine RL.eff (Wanted.free rfl) (E.storeAgg rfl rfl rfl rfl sz57 (by repeat (first | exact Pick.here | apply Pick.there)) (by first | (simp [Value.oneCell']; done) | (simp [setAt, Value.oneCell']; done)) (by first | (simp; done) | (simp [setAt]; done))) rfl ?_
      rintro _ _ rfl
      refine RL.val (Wanted.free rfl) (V.assign rfl rfl) rfl ?_
      refine RL.nil ?_
      first
      | (exfalso; omega)
      | (refine SG.retE (Ret.r2 Try.func51 rfl (.agg rfl ag57 (by repeat (first | exact Pick.here | apply Pick.there)) rfl rfl) (.tmp rfl)) ?_ ⟨_, _, _, _, _, _, _, _, _, rdIs_err (rdL_err hr (by omega)) (by omega), rfl, rfl⟩; (refine Ent.trans (Buf.nil (T := RI) (e := 3)) ?_; repeat (first | exact Ent.refl _ | (apply Ent.cons; (· repeat (first | exact Pick.here | (refine Pick.sl ?_; (· repeat (first | exact List.Mem.head _ | assumption | apply List.Mem.tail))) | apply Pick.there))) | (refine Ent.trans (Ent.drop _ _) ?_))))
      | (refine SG.retE (Ret.r2 Try.func51 rfl (.agg rfl ag57 (by repeat (first | exact Pick.here | apply Pick.there)) rfl rfl) (.tmp rfl)) ?_ ⟨_, _, _, _, _, _, _, _, _, rdIs_err (rdL_bad hr (by omega)) (by decide), rfl, rfl⟩; (refine Ent.trans (Buf.nil (T := RI) (e := 3)) ?_; repeat (first | exact Ent.refl _ | (apply Ent.cons; (· repeat (first | exact Pick.here | (refine Pick.sl ?_; (· repeat (first | exact List.Mem.head _ | assumption | apply List.Mem.tail))) | apply Pick.there))) | (refine Ent.trans (Ent.drop _ _) ?_))))
      | (refine SG.retE (Ret.r2 Try.func51 rfl (.agg rfl ag57 (by repeat (first | exact Pick.here | apply Pick.there)) rfl rfl) (.tmp rfl)) ?_ ⟨_, _, _, _, _, _, _, _, _, rdIs_stopE (rdL_ok hr (by omega)) hi (by omega) (by omega), rfl, rfl⟩; (refine Ent.trans (Buf.nil (T := RI) (e := 3)) ?_; repeat (first | exact Ent.refl _ | (apply Ent.cons; (· repeat (first | exact Pick.here | (refine Pick.sl ?_; (· repeat (first | exact List.Mem.head _ | assumption | apply List.Mem.tail))) | apply Pick.there))) | (refine Ent.trans (Ent.drop _ _) ?_))))
      | (refine SG.retE (Ret.r2 Try.func51 rfl (.agg rfl ag57 (by repeat (first | exact Pick.here | apply Pick.there)) rfl rfl) (.tmp rfl)) ?_ ⟨_, _, _, _, _, _, _, _, _, rdIs_stopO (rdL_ok hr (by omega)) hi (by omega) (by omega), rfl, rfl⟩; (repeat (first | exact Ent.refl _ | (apply Ent.cons; (· repeat (first | exact Pick.here | (refine Pick.sl ?_; (· repeat (first | exact List.Mem.head _ | assumption | apply List.Mem.tail))) | apply Pick.there))) | (refine Ent.trans (Ent.drop _ _) ?_))))
    · skip
      refine RL.val (Wanted.free rfl) (V.move rfl rfl) rfl ?_
      refine RL.val (Wanted.yes rfl rfl rfl rfl) (V.move rfl rfl) rfl ?_
      refine RL.val (Wanted.yes rfl rfl rfl rfl) (V.move rfl rfl) rfl ?_
      refine RL.val (Wanted.yes rfl rfl rfl rfl) (V.max rfl rfl rfl rfl) rfl ?_
      refine RL.val (Wanted.yes rfl rfl rfl rfl) (V.to64 rfl ⟨_, ui3⟩ ui31 rfl) rfl ?_
      refine RL.cmp (Wanted.yes rfl rfl rfl rfl) (V.bin rfl rfl rfl B.gtr) rfl (fun h29 => ?_) (fun h29 => ?_)
      · skip
        refine RL.val (Wanted.free rfl) (V.pick_false rfl rfl rfl) rfl ?_
        refine RL.nil ?_
        refine SG.cond_true rfl ?_
        refine SG.seq ?_
        refine SG.region ?_
        refine RL.val (Wanted.free rfl) (V.loadAgg (us := _) rfl ag57 rfl (by repeat (first | exact Pick.here | apply Pick.there)) rfl rfl) rfl ?_
        refine RL.eff (Wanted.free rfl) (E.call rfl go54 rfl (xFail_ok)) rfl ?_
        rintro _ _ ⟨rfl, rfl⟩
        rw [if_pos rfl]
        refine RL.eff (Wanted.free rfl) (E.storeAgg rfl rfl rfl rfl sz57 (by repeat (first | exact Pick.here | apply Pick.there)) (by first | (simp [Value.oneCell']; done) | (simp [setAt, Value.oneCell']; done)) (by first | (simp; done) | (simp [setAt]; done))) rfl ?_
        rintro _ _ rfl
        refine RL.val (Wanted.free rfl) (V.assign rfl rfl) rfl ?_
        refine RL.nil ?_
        first
        | (exfalso; omega)
        | (refine SG.retE (Ret.r2 Try.func51 rfl (.agg rfl ag57 (by repeat (first | exact Pick.here | apply Pick.there)) rfl rfl) (.tmp rfl)) ?_ ⟨_, _, _, _, _, _, _, _, _, rdIs_err (rdL_err hr (by omega)) (by omega), rfl, rfl⟩; (refine Ent.trans (Buf.nil (T := RI) (e := 3)) ?_; repeat (first | exact Ent.refl _ | (apply Ent.cons; (· repeat (first | exact Pick.here | (refine Pick.sl ?_; (· repeat (first | exact List.Mem.head _ | assumption | apply List.Mem.tail))) | apply Pick.there))) | (refine Ent.trans (Ent.drop _ _) ?_))))
        | (refine SG.retE (Ret.r2 Try.func51 rfl (.agg rfl ag57 (by repeat (first | exact Pick.here | apply Pick.there)) rfl rfl) (.tmp rfl)) ?_ ⟨_, _, _, _, _, _, _, _, _, rdIs_err (rdL_bad hr (by omega)) (by decide), rfl, rfl⟩; (refine Ent.trans (Buf.nil (T := RI) (e := 3)) ?_; repeat (first | exact Ent.refl _ | (apply Ent.cons; (· repeat (first | exact Pick.here | (refine Pick.sl ?_; (· repeat (first | exact List.Mem.head _ | assumption | apply List.Mem.tail))) | apply Pick.there))) | (refine Ent.trans (Ent.drop _ _) ?_))))
        | (refine SG.retE (Ret.r2 Try.func51 rfl (.agg rfl ag57 (by repeat (first | exact Pick.here | apply Pick.there)) rfl rfl) (.tmp rfl)) ?_ ⟨_, _, _, _, _, _, _, _, _, rdIs_stopE (rdL_ok hr (by omega)) hi (by omega) (by omega), rfl, rfl⟩; (refine Ent.trans (Buf.nil (T := RI) (e := 3)) ?_; repeat (first | exact Ent.refl _ | (apply Ent.cons; (· repeat (first | exact Pick.here | (refine Pick.sl ?_; (· repeat (first | exact List.Mem.head _ | assumption | apply List.Mem.tail))) | apply Pick.there))) | (refine Ent.trans (Ent.drop _ _) ?_))))
        | (refine SG.retE (Ret.r2 Try.func51 rfl (.agg rfl ag57 (by repeat (first | exact Pick.here | apply Pick.there)) rfl rfl) (.tmp rfl)) ?_ ⟨_, _, _, _, _, _, _, _, _, rdIs_stopO (rdL_ok hr (by omega)) hi (by omega) (by omega), rfl, rfl⟩; (repeat (first | exact Ent.refl _ | (apply Ent.cons; (· repeat (first | exact Pick.here | (refine Pick.sl ?_; (· repeat (first | exact List.Mem.head _ | assumption | apply List.Mem.tail))) | apply Pick.there))) | (refine Ent.trans (Ent.drop _ _) ?_))))
      · skip
        refine RL.val (Wanted.free rfl) (V.pick_false rfl rfl rfl) rfl ?_
        refine RL.nil ?_
        refine SG.cond_false rfl ?_
        refine SG.skip ?_
        refine SG.seq ?_
        refine SG.region ?_
        refine RL.val (Wanted.free rfl) (V.assign rfl rfl) rfl ?_
        refine RL.nil ?_
        refine SG.seq ?_
        refine SG.seq ?_
        refine SG.region ?_
        refine RL.val (Wanted.free rfl) (V.assign rfl rfl) rfl ?_
        refine RL.nil ?_
        refine SG.block ?_
        refine SG.ent (Buf.nil (T := RI) (e := 3)) ?_
        refine SG.weaken (SG.loop2 (fun m al M => ∃ (j : Nat) (y : UInt64) (acc : List Int) (l2 : List UInt8) (e2 : Int) (a2 : Option Addr) (m2 c2 : Nat) (a7 : Option Addr) (m7 c7 : Nat), rdN u1.toNat l1 0 = ((rdN j l2 e2).1, (rdN j l2 e2).2.1, acc ++ (rdN j l2 e2).2.2) ∧ (e2 = 0 → acc.length + l2.length ≤ l1.length) ∧ y.toNat + j = u1.toNat ∧ j = m ∧ al = [(2, ptr b2 0), (4, ptr b4 0), (6, v64 u1), (7, .slice a7 m7 c7), (8, v64 y)] ∧ M = Sl R8 a2 m2 c2 l2 :: Blk b2 57 [.slice a2 m2 c2, vI e2] :: Buf RI 3 a7 m7 c7 acc :: Blk b4 57 [.slice none 0 0, vI 0] :: L) (m0 := _) ⟨u1.toNat, 0, [], l1, 0, a1, m1, c1, none, 0, 0, by simp, by simp, by simp, rfl, rfl, rfl⟩ ?_) ?_ ?_
        rotate_left
        · repeat (first | exact EnvLe.nil _ | refine EnvLe.cons rfl ?_)
        · repeat (first | exact Ent.refl _ | (apply Ent.cons; (· repeat (first | exact Pick.here | (refine Pick.sl ?_; (· repeat (first | exact List.Mem.head _ | assumption | apply List.Mem.tail))) | apply Pick.there))) | (refine Ent.trans (Ent.drop _ _) ?_))
        rintro _ _ _ ⟨j, y, acc, l2, e2, a2, m2, c2, a7, m7, c7, hi, hbd, hjy, rfl, rfl, rfl⟩ ih0
        refine SG.seq ?_
        refine SG.seq ?_
        refine SG.region ?_
        refine RL.val (Wanted.free rfl) (V.move rfl rfl) rfl ?_
        refine RL.val (Wanted.free rfl) (V.move rfl rfl) rfl ?_
        refine RL.cmp (Wanted.free rfl) (V.bin rfl rfl rfl B.lss) rfl (fun h38 => ?_) (fun h38 => ?_)
        · skip
          refine RL.val (Wanted.free rfl) (V.move rfl rfl) rfl ?_
          refine RL.val (Wanted.yes rfl rfl rfl rfl) (V.fieldAddr rfl rfl fo57_1) rfl ?_
          refine RL.val (Wanted.yes rfl rfl rfl rfl) (V.load rfl on46 rfl (by repeat (first | exact Pick.here | apply Pick.there)) rfl) rfl ?_
          refine RL.cmp (Wanted.yes rfl rfl rfl rfl) (V.bin rfl rfl rfl B.eql) rfl (fun h42 => ?_) (fun h42 => ?_)
          · skip
            refine RL.val (Wanted.free rfl) (V.pick_true rfl rfl rfl) rfl ?_
            refine RL.nil ?_
            refine SG.cond_true rfl ?_
            refine SG.skip ?_
            refine SG.seq ?_
            refine SG.block ?_
            refine SG.seq ?_
            refine SG.region ?_
            have he0 : e2 = 0 := by omega
            subst he0
            obtain ⟨j', rfl⟩ : ∃ j', j = j' + 1 := ⟨j - 1, by omega⟩
            refine RL.buf (a := a7) (m := m7) (c := c7) (by repeat (first | exact Pick.here | apply Pick.there)) fun hbl _ _ => ?_
            have hacc := hbd rfl
            refine RL.val (Wanted.free rfl) (V.loadAgg (us := _) rfl ag57 rfl (by repeat (first | exact Pick.here | apply Pick.there)) rfl rfl) rfl ?_
            refine RL.eff (Wanted.free rfl) (E.call rfl go48 rfl (xInt_ok (by repeat (first | exact List.Mem.head _ | assumption | apply List.Mem.tail)))) rfl ?_
            rintro _ _ ⟨l3, e3, x3, a3, m3, c3, hr3, rfl, rfl⟩
            have hin := rdI_in hr3
            refine RL.val (Wanted.free rfl) (V.move rfl rfl) rfl ?_
            refine RL.val (Wanted.free rfl) (V.extract rfl rfl rfl) rfl ?_
            refine RL.val (Wanted.free rfl) (V.extract rfl rfl rfl) rfl ?_
            refine RL.eff (Wanted.free rfl) (E.alloc rfl ze57) rfl ?_
            rintro _ _ ⟨b48, rfl, rfl⟩
            refine RL.eff (Wanted.free rfl) (E.storeAgg rfl rfl rfl rfl sz57 (by repeat (first | exact Pick.here | apply Pick.there)) (by first | (simp [Value.oneCell']; done) | (simp [setAt, Value.oneCell']; done)) (by first | (simp; done) | (simp [setAt]; done))) rfl ?_
            rintro _ _ rfl
            refine RL.val (Wanted.free rfl) (V.assign rfl rfl) rfl ?_
            refine RL.nil ?_
            refine SG.seq ?_
            refine SG.region ?_
            refine RL.val (Wanted.free rfl) (V.loadAgg (us := _) rfl ag57 rfl (by repeat (first | exact Pick.here | apply Pick.there)) rfl rfl) rfl ?_
            refine RL.eff (Wanted.free rfl) (E.storeAgg rfl rfl rfl rfl sz57 (by repeat (first | exact Pick.here | apply Pick.there)) (by first | (simp [Value.oneCell']; done) | (simp [setAt, Value.oneCell']; done)) (by first | (simp; done) | (simp [setAt]; done))) rfl ?_
            rintro _ _ rfl
            refine RL.nil ?_
            refine SG.region ?_
            refine RL.val (Wanted.free rfl) (V.move rfl rfl) rfl ?_
            refine RL.val (Wanted.free rfl) (V.move rfl rfl) rfl ?_
            refine RL.eff (Wanted.free rfl) (E.lit1 _ rfl el32.slice ze3 rfl (by decide) (by decide) rfl rfl rfl) rfl ?_
            rintro _ _ ⟨b55, rfl, rfl⟩
            refine RL.eff (Wanted.free rfl) (E.append (T := RI) rfl rfl rfl el32 el32.noInt rfl rfl (by repeat (first | exact Pick.here | apply Pick.there)) (Src.lit (x := x3) (by repeat (first | exact Pick.here | apply Pick.there)) hin) (by first | omega | (simp; omega)) (by first | omega | (simp; omega))) rfl ?_
            intro _ _ hK56
            try rw [List.nil_append] at hK56
            try rw [Nat.zero_add] at hK56
            obtain ⟨aW, cW, rfl, rfl⟩ := hK56
            refine RL.val (Wanted.free rfl) (V.assign rfl rfl) rfl ?_
            refine RL.nil ?_
            refine SG.inBlock ?_
            refine SG.region ?_
            refine RL.val (Wanted.free rfl) (V.move rfl rfl) rfl ?_
            refine RL.val (Wanted.free rfl) (V.bin rfl rfl rfl (B.add64 (y := 1))) rfl ?_
            have hy : (y + 1).toNat = y.toNat + 1 := by rw [UInt64.toNat_add]; have : (1 : UInt64).toNat = 1 := rfl; omega
            refine RL.val (Wanted.free rfl) (V.assign rfl rfl) rfl ?_
            refine RL.nil ?_
            refine SG.weaken (ih0 _ _ _ ?_ ⟨j', y + 1, acc ++ [x3], l3, e3, a3, m3, c3, aW, m7 + 1, cW, rdN_step hi hr3, ?_, by omega, rfl, rfl, rfl⟩) ?_ ?_
            · omega
            · intro h3; subst h3; have := rdI_less hr3; simp; omega
            · repeat (first | exact EnvLe.nil _ | refine EnvLe.cons rfl ?_)
            · repeat (first | exact Ent.refl _ | (apply Ent.cons; (· repeat (first | exact Pick.here | (refine Pick.sl ?_; (· repeat (first | exact List.Mem.head _ | assumption | apply List.Mem.tail))) | apply Pick.there))) | (refine Ent.trans (Ent.drop _ _) ?_))
          · skip
            refine RL.val (Wanted.free rfl) (V.pick_true rfl rfl rfl) rfl ?_
            refine RL.nil ?_
            refine SG.cond_false rfl ?_
            refine SG.exit rfl ?_
            refine SG.seq ?_
            refine SG.seq ?_
            refine SG.region ?_
            refine RL.val (Wanted.free rfl) (V.fieldAddr rfl rfl fo57_1) rfl ?_
            refine RL.val (Wanted.free rfl) (V.load rfl on46 rfl (by repeat (first | exact Pick.here | apply Pick.there)) rfl) rfl ?_
            refine RL.cmp (Wanted.free rfl) (V.bin rfl rfl rfl B.neq) rfl (fun h63 => ?_) (fun h63 => ?_)
            · skip
              refine RL.nil ?_
              refine SG.cond_true rfl ?_
              refine SG.seq ?_
              refine SG.region ?_
              refine RL.val (Wanted.free rfl) (V.loadAgg (us := _) rfl ag57 rfl (by repeat (first | exact Pick.here | apply Pick.there)) rfl rfl) rfl ?_
              refine RL.eff (Wanted.free rfl) (E.storeAgg rfl rfl rfl rfl sz57 (by repeat (first | exact Pick.here | apply Pick.there)) (by first | (simp [Value.oneCell']; done) | (simp [setAt, Value.oneCell']; done)) (by first | (simp; done) | (simp [setAt]; done))) rfl ?_
              rintro _ _ rfl
              refine RL.val (Wanted.free rfl) (V.assign rfl rfl) rfl ?_
              refine RL.nil ?_
              first
              | (exfalso; omega)
              | (refine SG.retE (Ret.r2 Try.func51 rfl (.agg rfl ag57 (by repeat (first | exact Pick.here | apply Pick.there)) rfl rfl) (.tmp rfl)) ?_ ⟨_, _, _, _, _, _, _, _, _, rdIs_err (rdL_err hr (by omega)) (by omega), rfl, rfl⟩; (refine Ent.trans (Buf.nil (T := RI) (e := 3)) ?_; repeat (first | exact Ent.refl _ | (apply Ent.cons; (· repeat (first | exact Pick.here | (refine Pick.sl ?_; (· repeat (first | exact List.Mem.head _ | assumption | apply List.Mem.tail))) | apply Pick.there))) | (refine Ent.trans (Ent.drop _ _) ?_))))
              | (refine SG.retE (Ret.r2 Try.func51 rfl (.agg rfl ag57 (by repeat (first | exact Pick.here | apply Pick.there)) rfl rfl) (.tmp rfl)) ?_ ⟨_, _, _, _, _, _, _, _, _, rdIs_err (rdL_bad hr (by omega)) (by decide), rfl, rfl⟩; (refine Ent.trans (Buf.nil (T := RI) (e := 3)) ?_; repeat (first | exact Ent.refl _ | (apply Ent.cons; (· repeat (first | exact Pick.here | (refine Pick.sl ?_; (· repeat (first | exact List.Mem.head _ | assumption | apply List.Mem.tail))) | apply Pick.there))) | (refine Ent.trans (Ent.drop _ _) ?_))))
              | (refine SG.retE (Ret.r2 Try.func51 rfl (.agg rfl ag57 (by repeat (first | exact Pick.here | apply Pick.there)) rfl rfl) (.tmp rfl)) ?_ ⟨_, _, _, _, _, _, _, _, _, rdIs_stopE (rdL_ok hr (by omega)) hi (by omega) (by omega), rfl, rfl⟩; (refine Ent.trans (Buf.nil (T := RI) (e := 3)) ?_; repeat (first | exact Ent.refl _ | (apply Ent.cons; (· repeat (first | exact Pick.here | (refine Pick.sl ?_; (· repeat (first | exact List.Mem.head _ | assumption | apply List.Mem.tail))) | apply Pick.there))) | (refine Ent.trans (Ent.drop _ _) ?_))))
              | (refine SG.retE (Ret.r2 Try.func51 rfl (.agg rfl ag57 (by repeat (first | exact Pick.here | apply Pick.there)) rfl rfl) (.tmp rfl)) ?_ ⟨_, _, _, _, _, _, _, _, _, rdIs_stopO (rdL_ok hr (by omega)) hi (by omega) (by omega), rfl, rfl⟩; (repeat (first | exact Ent.refl _ | (apply Ent.cons; (· repeat (first | exact Pick.here | (refine Pick.sl ?_; (· repeat (first | exact List.Mem.head _ | assumption | apply List.Mem.tail))) | apply Pick.there))) | (refine Ent.trans (Ent.drop _ _) ?_))))
            · skip
              refine RL.nil ?_
              refine SG.cond_false rfl ?_
              refine SG.skip ?_
              refine SG.seq ?_
              refine SG.region ?_
              refine RL.val (Wanted.free rfl) (V.loadAgg (us := _) rfl ag57 rfl (by repeat (first | exact Pick.here | apply Pick.there)) rfl rfl) rfl ?_
              refine RL.val (Wanted.free rfl) (V.move rfl rfl) rfl ?_
              refine RL.eff (Wanted.free rfl) (E.storeAgg rfl rfl rfl rfl sz57 (by repeat (first | exact Pick.here | apply Pick.there)) (by first | (simp [Value.oneCell']; done) | (simp [setAt, Value.oneCell']; done)) (by first | (simp; done) | (simp [setAt]; done))) rfl ?_
              rintro _ _ rfl
              refine RL.val (Wanted.free rfl) (V.assign rfl rfl) rfl ?_
              refine RL.nil ?_
              first
              | (exfalso; omega)
              | (refine SG.retE (Ret.r2 Try.func51 rfl (.agg rfl ag57 (by repeat (first | exact Pick.here | apply Pick.there)) rfl rfl) (.tmp rfl)) ?_ ⟨_, _, _, _, _, _, _, _, _, rdIs_err (rdL_err hr (by omega)) (by omega), rfl, rfl⟩; (refine Ent.trans (Buf.nil (T := RI) (e := 3)) ?_; repeat (first | exact Ent.refl _ | (apply Ent.cons; (· repeat (first | exact Pick.here | (refine Pick.sl ?_; (· repeat (first | exact List.Mem.head _ | assumption | apply List.Mem.tail))) | apply Pick.there))) | (refine Ent.trans (Ent.drop _ _) ?_))))
              | (refine SG.retE (Ret.r2 Try.func51 rfl (.agg rfl ag57 (by repeat (first | exact Pick.here | apply Pick.there)) rfl rfl) (.tmp rfl)) ?_ ⟨_, _, _, _, _, _, _, _, _, rdIs_err (rdL_bad hr (by omega)) (by decide), rfl, rfl⟩; (refine Ent.trans (Buf.nil (T := RI) (e := 3)) ?_; repeat (first | exact Ent.refl _ | (apply Ent.cons; (· repeat (first | exact Pick.here | (refine Pick.sl ?_; (· repeat (first | exact List.Mem.head _ | assumption | apply List.Mem.tail))) | apply Pick.there))) | (refine Ent.trans (Ent.drop _ _) ?_))))
              | (refine SG.retE (Ret.r2 Try.func51 rfl (.agg rfl ag57 (by repeat (first | exact Pick.here | apply Pick.there)) rfl rfl) (.tmp rfl)) ?_ ⟨_, _, _, _, _, _, _, _, _, rdIs_stopE (rdL_ok hr (by omega)) hi (by omega) (by omega), rfl, rfl⟩; (refine Ent.trans (Buf.nil (T := RI) (e := 3)) ?_; repeat (first | exact Ent.refl _ | (apply Ent.cons; (· repeat (first | exact Pick.here | (refine Pick.sl ?_; (· repeat (first | exact List.Mem.head _ | assumption | apply List.Mem.tail))) | apply Pick.there))) | (refine Ent.trans (Ent.drop _ _) ?_))))
              | (refine SG.retE (Ret.r2 Try.func51 rfl (.agg rfl ag57 (by repeat (first | exact Pick.here | apply Pick.there)) rfl rfl) (.tmp rfl)) ?_ ⟨_, _, _, _, _, _, _, _, _, rdIs_stopO (rdL_ok hr (by omega)) hi (by omega) (by omega), rfl, rfl⟩; (repeat (first | exact Ent.refl _ | (apply Ent.cons; (· repeat (first | exact Pick.here | (refine Pick.sl ?_; (· repeat (first | exact List.Mem.head _ | assumption | apply List.Mem.tail))) | apply Pick.there))) | (refine Ent.trans (Ent.drop _ _) ?_))))
        · skip
          refine RL.val (Wanted.free rfl) (V.move rfl rfl) rfl ?_
          refine RL.skip (Wanted.no rfl rfl rfl rfl rfl) rfl ?_
          refine RL.skip (Wanted.no rfl rfl rfl rfl rfl) rfl ?_
          refine RL.skip (Wanted.no rfl rfl rfl rfl rfl) rfl ?_
          refine RL.val (Wanted.free rfl) (V.pick_false rfl rfl rfl) rfl ?_
          refine RL.nil ?_
          refine SG.cond_false rfl ?_
          refine SG.exit rfl ?_
          refine SG.seq ?_
          refine SG.seq ?_
          refine SG.region ?_
          refine RL.val (Wanted.free rfl) (V.fieldAddr rfl rfl fo57_1) rfl ?_
          refine RL.val (Wanted.free rfl) (V.load rfl on46 rfl (by repeat (first | exact Pick.here | apply Pick.there)) rfl) rfl ?_
          refine RL.cmp (Wanted.free rfl) (V.bin rfl rfl rfl B.neq) rfl (fun h74 => ?_) (fun h74 => ?_)
          · skip
            refine RL.nil ?_
            refine SG.cond_true rfl ?_
            refine SG.seq ?_
            refine SG.region ?_
            refine RL.val (Wanted.free rfl) (V.loadAgg (us := _) rfl ag57 rfl (by repeat (first | exact Pick.here | apply Pick.there)) rfl rfl) rfl ?_
            refine RL.eff (Wanted.free rfl) (E.storeAgg rfl rfl rfl rfl sz57 (by repeat (first | exact Pick.here | apply Pick.there)) (by first | (simp [Value.oneCell']; done) | (simp [setAt, Value.oneCell']; done)) (by first | (simp; done) | (simp [setAt]; done))) rfl ?_
            rintro _ _ rfl
            refine RL.val (Wanted.free rfl) (V.assign rfl rfl) rfl ?_
            refine RL.nil ?_
            first
            | (exfalso; omega)
            | (refine SG.retE (Ret.r2 Try.func51 rfl (.agg rfl ag57 (by repeat (first | exact Pick.here | apply Pick.there)) rfl rfl) (.tmp rfl)) ?_ ⟨_, _, _, _, _, _, _, _, _, rdIs_err (rdL_err hr (by omega)) (by omega), rfl, rfl⟩; (refine Ent.trans (Buf.nil (T := RI) (e := 3)) ?_; repeat (first | exact Ent.refl _ | (apply Ent.cons; (· repeat (first | exact Pick.here | (refine Pick.sl ?_; (· repeat (first | exact List.Mem.head _ | assumption | apply List.Mem.tail))) | apply Pick.there))) | (refine Ent.trans (Ent.drop _ _) ?_))))
            | (refine SG.retE (Ret.r2 Try.func51 rfl (.agg rfl ag57 (by repeat (first | exact Pick.here | apply Pick.there)) rfl rfl) (.tmp rfl)) ?_ ⟨_, _, _, _, _, _, _, _, _, rdIs_err (rdL_bad hr (by omega)) (by decide), rfl, rfl⟩; (refine Ent.trans (Buf.nil (T := RI) (e := 3)) ?_; repeat (first | exact Ent.refl _ | (apply Ent.cons; (· repeat (first | exact Pick.here | (refine Pick.sl ?_; (· repeat (first | exact List.Mem.head _ | assumption | apply List.Mem.tail))) | apply Pick.there))) | (refine Ent.trans (Ent.drop _ _) ?_))))
            | (refine SG.retE (Ret.r2 Try.func51 rfl (.agg rfl ag57 (by repeat (first | exact Pick.here | apply Pick.there)) rfl rfl) (.tmp rfl)) ?_ ⟨_, _, _, _, _, _, _, _, _, rdIs_stopE (rdL_ok hr (by omega)) hi (by omega) (by omega), rfl, rfl⟩; (refine Ent.trans (Buf.nil (T := RI) (e := 3)) ?_; repeat (first | exact Ent.refl _ | (apply Ent.cons; (· repeat (first | exact Pick.here | (refine Pick.sl ?_; (· repeat (first | exact List.Mem.head _ | assumption | apply List.Mem.tail))) | apply Pick.there))) | (refine Ent.trans (Ent.drop _ _) ?_))))
            | (refine SG.retE (Ret.r2 Try.func51 rfl (.agg rfl ag57 (by repeat (first | exact Pick.here | apply Pick.there)) rfl rfl) (.tmp rfl)) ?_ ⟨_, _, _, _, _, _, _, _, _, rdIs_stopO (rdL_ok hr (by omega)) hi (by omega) (by omega), rfl, rfl⟩; (repeat (first | exact Ent.refl _ | (apply Ent.cons; (· repeat (first | exact Pick.here | (refine Pick.sl ?_; (· repeat (first | exact List.Mem.head _ | assumption | apply List.Mem.tail))) | apply Pick.there))) | (refine Ent.trans (Ent.drop _ _) ?_))))
          · skip
            refine RL.nil ?_
            refine SG.cond_false rfl ?_
            refine SG.skip ?_
            refine SG.seq ?_
            refine SG.region ?_
            refine RL.val (Wanted.free rfl) (V.loadAgg (us := _) rfl ag57 rfl (by repeat (first | exact Pick.here | apply Pick.there)) rfl rfl) rfl ?_
            refine RL.val (Wanted.free rfl) (V.move rfl rfl) rfl ?_
            refine RL.eff (Wanted.free rfl) (E.storeAgg rfl rfl rfl rfl sz57 (by repeat (first | exact Pick.here | apply Pick.there)) (by first | (simp [Value.oneCell']; done) | (simp [setAt, Value.oneCell']; done)) (by first | (simp; done) | (simp [setAt]; done))) rfl ?_
            rintro _ _ rfl
            refine RL.val (Wanted.free rfl) (V.assign rfl rfl) rfl ?_
            refine RL.nil ?_
            first
            | (exfalso; omega)
            | (refine SG.retE (Ret.r2 Try.func51 rfl (.agg rfl ag57 (by repeat (first | exact Pick.here | apply Pick.there)) rfl rfl) (.tmp rfl)) ?_ ⟨_, _, _, _, _, _, _, _, _, rdIs_err (rdL_err hr (by omega)) (by omega), rfl, rfl⟩; (refine Ent.trans (Buf.nil (T := RI) (e := 3)) ?_; repeat (first | exact Ent.refl _ | (apply Ent.cons; (· repeat (first | exact Pick.here | (refine Pick.sl ?_; (· repeat (first | exact List.Mem.head _ | assumption | apply List.Mem.tail))) | apply Pick.there))) | (refine Ent.trans (Ent.drop _ _) ?_))))
            | (refine SG.retE (Ret.r2 Try.func51 rfl (.agg rfl ag57 (by repeat (first | exact Pick.here | apply Pick.there)) rfl rfl) (.tmp rfl)) ?_ ⟨_, _, _, _, _, _, _, _, _, rdIs_err (rdL_bad hr (by omega)) (by decide), rfl, rfl⟩; (refine Ent.trans (Buf.nil (T := RI) (e := 3)) ?_; repeat (first | exact Ent.refl _ | (apply Ent.cons; (· repeat (first | exact Pick.here | (refine Pick.sl ?_; (· repeat (first | exact List.Mem.head _ | assumption | apply List.Mem.tail))) | apply Pick.there))) | (refine Ent.trans (Ent.drop _ _) ?_))))
            | (refine SG.retE (Ret.r2 Try.func51 rfl (.agg rfl ag57 (by repeat (first | exact Pick.here | apply Pick.there)) rfl rfl) (.tmp rfl)) ?_ ⟨_, _, _, _, _, _, _, _, _, rdIs_stopE (rdL_ok hr (by omega)) hi (by omega) (by omega), rfl, rfl⟩; (refine Ent.trans (Buf.nil (T := RI) (e := 3)) ?_; repeat (first | exact Ent.refl _ | (apply Ent.cons; (· repeat (first | exact Pick.here | (refine Pick.sl ?_; (· repeat (first | exact List.Mem.head _ | assumption | apply List.Mem.tail))) | apply Pick.there))) | (refine Ent.trans (Ent.drop _ _) ?_))))
            | (refine SG.retE (Ret.r2 Try.func51 rfl (.agg rfl ag57 (by repeat (first | exact Pick.here | apply Pick.there)) rfl rfl) (.tmp rfl)) ?_ ⟨_, _, _, _, _, _, _, _, _, rdIs_stopO (rdL_ok hr (by omega)) hi (by omega) (by omega), rfl, rfl⟩; (repeat (first | exact Ent.refl _ | (apply Ent.cons; (· repeat (first | exact Pick.here | (refine Pick.sl ?_; (· repeat (first | exact List.Mem.head _ | assumption | apply List.Mem.tail))) | apply Pick.there))) | (refine Ent.trans (Ent.drop _ _) ?_))))

set_option maxRecDepth 100000 in
theorem xEnd_ok {κ : World} {L : List Assn} {a : Option Addr} {m c : Nat} {l : List UInt8} {e : Int} (hm : Sl R8 a m c l ∈ L) :
    Ctr Try.prog 27 #[.agg #[.slice a m c, vI e]] κ L (fun v M => v = vI (if e = 0 ∧ 0 < l.length then 7 else e) ∧ M = L) := by
  refine Ctr.enter (vs := [.agg #[.slice a m c, vI e]]) (m := 14) Try.func27 rfl rfl rfl ?_
  refine SG.sl hm fun hl _ _ => ?_
  subst hl
  refine SG.seq ?_
  refine SG.region ?_
  refine RL.eff (Wanted.free rfl) (E.box [.slice a l.length c, vI e] rfl rfl rfl) rfl ?_
  rintro _ _ ⟨b1, rfl, rfl⟩
  refine RL.val (Wanted.free rfl) (V.assign rfl rfl) rfl ?_
  refine RL.nil ?_
  refine SG.seq ?_
  refine SG.seq ?_
  refine SG.region ?_
  refine RL.val (Wanted.free rfl) (V.fieldAddr rfl rfl fo57_1) rfl ?_
  refine RL.val (Wanted.free rfl) (V.load rfl on46 rfl (by repeat (first | exact Pick.here | apply Pick.there)) rfl) rfl ?_
  refine RL.cmp (Wanted.free rfl) (V.bin rfl rfl rfl B.eql) rfl (fun h5 => ?_) (fun h5 => ?_)
  · skip
    refine RL.val (Wanted.free rfl) (V.move rfl rfl) rfl ?_
    refine RL.val (Wanted.yes rfl rfl rfl rfl) (V.fieldAddr rfl rfl fo57_0) rfl ?_
    refine RL.val (Wanted.yes rfl rfl rfl rfl) (V.load rfl on23 rfl (by repeat (first | exact Pick.here | apply Pick.there)) rfl) rfl ?_
    refine RL.val (Wanted.yes rfl rfl rfl rfl) (V.len rfl rfl el23.under rfl) rfl ?_
    refine RL.cmp (Wanted.yes rfl rfl rfl rfl) (V.bin rfl rfl rfl B.gtr) rfl (fun h10 => ?_) (fun h10 => ?_)
    · skip
      refine RL.val (Wanted.free rfl) (V.pick_true rfl rfl rfl) rfl ?_
      refine RL.nil ?_
      refine SG.cond_true rfl ?_
      refine SG.seq ?_
      refine SG.region ?_
      refine RL.val (Wanted.free rfl) (V.assign rfl rfl) rfl ?_
      refine RL.nil ?_
      first
      | (exfalso; omega)
      | (refine SG.retE (Ret.r1 Try.func27 rfl (.tmp rfl)) ?_ ⟨by rw [if_pos (by omega)], rfl⟩; (repeat (first | exact Ent.refl _ | (apply Ent.cons; (· repeat (first | exact Pick.here | (refine Pick.sl ?_; (· repeat (first | exact List.Mem.head _ | assumption | apply List.Mem.tail))) | apply Pick.there))) | (refine Ent.trans (Ent.drop _ _) ?_))))
      | (refine SG.retE (Ret.r1 Try.func27 rfl (.tmp rfl)) ?_ ⟨by rw [if_neg (by omega)], rfl⟩; (repeat (first | exact Ent.refl _ | (apply Ent.cons; (· repeat (first | exact Pick.here | (refine Pick.sl ?_; (· repeat (first | exact List.Mem.head _ | assumption | apply List.Mem.tail))) | apply Pick.there))) | (refine Ent.trans (Ent.drop _ _) ?_))))
    · skip
      refine RL.val (Wanted.free rfl) (V.pick_true rfl rfl rfl) rfl ?_
      refine RL.nil ?_
      refine SG.cond_false rfl ?_
      refine SG.skip ?_
      refine SG.seq ?_
      refine SG.region ?_
      refine RL.val (Wanted.free rfl) (V.fieldAddr rfl rfl fo57_1) rfl ?_
      refine RL.val (Wanted.free rfl) (V.load rfl on46 rfl (by repeat (first | exact Pick.here | apply Pick.there)) rfl) rfl ?_
      refine RL.val (Wanted.free rfl) (V.assign rfl rfl) rfl ?_
      refine RL.nil ?_
      first
      | (exfalso; omega)
      | (refine SG.retE (Ret.r1 Try.func27 rfl (.tmp rfl)) ?_ ⟨by rw [if_pos (by omega)], rfl⟩; (repeat (first | exact Ent.refl _ | (apply Ent.cons; (· repeat (first | exact Pick.here | (refine Pick.sl ?_; (· repeat (first | exact List.Mem.head _ | assumption | apply List.Mem.tail))) | apply Pick.there))) | (refine Ent.trans (Ent.drop _ _) ?_))))
      | (refine SG.retE (Ret.r1 Try.func27 rfl (.tmp rfl)) ?_ ⟨by rw [if_neg (by omega)], rfl⟩; (repeat (first | exact Ent.refl _ | (apply Ent.cons; (· repeat (first | exact Pick.here | (refine Pick.sl ?_; (· repeat (first | exact List.Mem.head _ | assumption | apply List.Mem.tail))) | apply Pick.there))) | (refine Ent.trans (Ent.drop _ _) ?_))))
  · skip
    refine RL.val (Wanted.free rfl) (V.move rfl rfl) rfl ?_
    refine RL.skip (Wanted.no rfl rfl rfl rfl rfl) rfl ?_
    refine RL.skip (Wanted.no rfl rfl rfl rfl rfl) rfl ?_
    refine RL.skip (Wanted.no rfl rfl rfl rfl rfl) rfl ?_
    refine RL.skip (Wanted.no rfl rfl rfl rfl rfl) rfl ?_
    refine RL.val (Wanted.free rfl) (V.pick_false rfl rfl rfl) rfl ?_
    refine RL.nil ?_
    refine SG.cond_false rfl ?_
    refine SG.skip ?_
    refine SG.seq ?_
    refine SG.region ?_
    refine RL.val (Wanted.free rfl) (V.fieldAddr rfl rfl fo57_1) rfl ?_
    refine RL.val (Wanted.free rfl) (V.load rfl on46 rfl (by repeat (first | exact Pick.here | apply Pick.there)) rfl) rfl ?_
    refine RL.val (Wanted.free rfl) (V.assign rfl rfl) rfl ?_
    refine RL.nil ?_
    first
    | (exfalso; omega)
    | (refine SG.retE (Ret.r1 Try.func27 rfl (.tmp rfl)) ?_ ⟨by rw [if_pos (by omega)], rfl⟩; (repeat (first | exact Ent.refl _ | (apply Ent.cons; (· repeat (first | exact Pick.here | (refine Pick.sl ?_; (· repeat (first | exact List.Mem.head _ | assumption | apply List.Mem.tail))) | apply Pick.there))) | (refine Ent.trans (Ent.drop _ _) ?_))))
    | (refine SG.retE (Ret.r1 Try.func27 rfl (.tmp rfl)) ?_ ⟨by rw [if_neg (by omega)], rfl⟩; (repeat (first | exact Ent.refl _ | (apply Ent.cons; (· repeat (first | exact Pick.here | (refine Pick.sl ?_; (· repeat (first | exact List.Mem.head _ | assumption | apply List.Mem.tail))) | apply Pick.there))) | (refine Ent.trans (Ent.drop _ _) ?_))))

end Go.Proofs.Ytdccpcnahbhfcaa
