/- Parse. -/
import Derived.Test.YtbljfilkdhgcnaaDoorHexs
namespace Go.Proofs.YtbljfilkdhgcnaaDoor
open Go.Wk Go.Sha

theorem getD_s {s : List UInt8} {j : Nat} (h : j < s.length) : s[j]? = some (s.getD j 0) := by
  rw [List.getElem?_eq_getElem h, List.getD_eq_getElem?_getD, List.getElem?_eq_getElem h]; rfl
set_option maxRecDepth 100000 in
theorem parse_ok {κ : World} {L : List Assn} {s : List UInt8} :
    Ctr Tryd.prog 30 #[vS s] κ L (fun v M => v = .tuple #[.agg ((parseV s).1.map v8).toArray, vI (parseV s).2] ∧ M = L) := by
  refine Ctr.enter (vs := [vS s]) (m := 41) Tryd.func30 rfl rfl rfl ?_
  refine SG.seq ?_
  refine SG.region ?_
  refine RL.eff (Wanted.free rfl) (E.alloc rfl ze24) rfl ?_
  rintro _ _ ⟨b2, rfl, rfl⟩
  refine RL.val (Wanted.free rfl) (V.assign rfl rfl) rfl ?_
  refine RL.nil ?_
  refine SG.seq ?_
  refine SG.region ?_
  refine RL.eff (Wanted.free rfl) (E.alloc rfl ze24) rfl ?_
  rintro _ _ ⟨b4, rfl, rfl⟩
  refine RL.ent (Blk.eqc (pz_zero s)) ?_
  refine RL.nil ?_
  refine SG.seq ?_
  refine SG.seq ?_
  refine SG.region ?_
  refine RL.val (Wanted.free rfl) (V.move rfl rfl) rfl ?_
  refine RL.val (Wanted.free rfl) (V.lenS rfl rfl us9 rfl) rfl ?_
  refine RL.cmp (Wanted.free rfl) (V.bin rfl rfl rfl B.neq) rfl (fun h6 => ?_) (fun h6 => ?_)
  · skip
    refine RL.nil ?_
    refine SG.cond_true rfl ?_
    refine SG.seq ?_
    refine SG.region ?_
    refine RL.val (Wanted.free rfl) (V.buildA (cs := (List.replicate 32 (0 : UInt8)).map v8) [] rfl ba24 (by exact trivial) (by rw [← z32]; rfl)) rfl ?_
    refine RL.eff (Wanted.free rfl) (E.storeWhole rfl rfl rfl (by rw [List.length_map, List.length_replicate]) sz24 (by repeat (first | exact Pick.here | assumption | apply Pick.there)) (one8 _) (by rw [List.length_replicate])) rfl ?_
    rintro _ _ rfl
    refine RL.val (Wanted.free rfl) (V.assign rfl rfl) rfl ?_
    refine RL.nil ?_
    refine SG.retE (Ret.r2 Tryd.func30 rfl (.agg rfl ag24 (by repeat (first | exact Pick.here | assumption | apply Pick.there)) (take8 List.length_replicate) (by rw [List.length_map, List.length_replicate])) (.tmp rfl)) ?_ ⟨by rw [parse_len (by omega)], rfl⟩
    repeat (first | exact Ent.refl _ | (apply Ent.cons; (· repeat (first | exact Pick.here | (refine Pick.sl ?_; (· repeat (first | exact List.Mem.head _ | assumption | apply List.Mem.tail))) | apply Pick.there))) | (refine Ent.trans (Ent.drop _ _) ?_))
  · skip
    refine RL.nil ?_
    refine SG.cond_false rfl ?_
    refine SG.skip ?_
    refine SG.seq ?_
    refine SG.seq ?_
    refine SG.region ?_
    refine RL.val (Wanted.free rfl) (V.move rfl rfl) rfl ?_
    refine RL.nil ?_
    refine SG.block ?_
    refine SG.weaken (SG.loop2 (fun m al M => ∃ i : Nat, i ≤ 32 ∧ (∀ k, k < i → pg s k = true) ∧ m = 32 - i ∧ al = [(0, vS s), (2, ptr b2 0), (4, ptr b4 0), (12, vI i)] ∧ M = Blk b4 24 ((pz s i).map v8) :: Blk b2 24 (List.replicate 32 (.int .u8 0)) :: L) (m0 := _) ⟨0, by omega, fun k h => by omega, rfl, rfl, rfl⟩ ?_) ?_ ?_
    rotate_left
    · repeat (first | exact EnvLe.nil _ | refine EnvLe.cons rfl ?_)
    · repeat (first | exact Ent.refl _ | (apply Ent.cons; (· repeat (first | exact Pick.here | (refine Pick.sl ?_; (· repeat (first | exact List.Mem.head _ | assumption | apply List.Mem.tail))) | apply Pick.there))) | (refine Ent.trans (Ent.drop _ _) ?_))
    rintro _ _ _ ⟨i, hi, hg, rfl, rfl, rfl⟩ ih0
    refine SG.seq ?_
    refine SG.region ?_
    refine RL.cmp (Wanted.free rfl) (V.bin rfl rfl rfl B.lss) rfl (fun h11 => ?_) (fun h11 => ?_)
    · skip
      refine RL.nil ?_
      refine SG.seq ?_
      refine SG.cond_true rfl ?_
      refine SG.skip ?_
      refine SG.seq ?_
      refine SG.block ?_
      refine SG.seq ?_
      refine SG.region ?_
      refine RL.val (Wanted.free rfl) (V.move rfl rfl) rfl ?_
      refine RL.val (Wanted.free rfl) (V.assign rfl rfl) rfl ?_
      refine RL.nil ?_
      refine SG.seq ?_
      refine SG.drawL 13 13 wide rfl rfl ?_
      refine RH.val 0 rfl (by kernel_rfl) (by kernel_rfl) (by kernel_rfl) (by kernel_rfl) (Wanted.free rfl) (V.move rfl rfl) rfl ?_
      refine RH.val 1 rfl (by kernel_rfl) (by kernel_rfl) (by kernel_rfl) (by kernel_rfl) (Wanted.free rfl) (V.move rfl rfl) rfl ?_
      refine RH.val 2 rfl (by kernel_rfl) (by kernel_rfl) (by kernel_rfl) (by kernel_rfl) (Wanted.free rfl) (V.bin rfl rfl rfl (B.mulI (by omega) (by omega))) rfl ?_
      refine RH.val 3 rfl (by kernel_rfl) (by kernel_rfl) (by kernel_rfl) (by kernel_rfl) (Wanted.free rfl) (V.indexS (j := 2 * i) rfl us9 rfl rfl (by omega) (getD_s (by omega))) rfl ?_
      refine RH.val 5 rfl (by kernel_rfl) (by kernel_rfl) (by kernel_rfl) (by kernel_rfl) (Wanted.free rfl) (V.move rfl rfl) rfl ?_
      refine RH.val 6 rfl (by kernel_rfl) (by kernel_rfl) (by kernel_rfl) (by kernel_rfl) (Wanted.free rfl) (V.move rfl rfl) rfl ?_
      refine RH.val 7 rfl (by kernel_rfl) (by kernel_rfl) (by kernel_rfl) (by kernel_rfl) (Wanted.free rfl) (V.bin rfl rfl rfl (B.mulI (by omega) (by omega))) rfl ?_
      refine RH.val 8 rfl (by kernel_rfl) (by kernel_rfl) (by kernel_rfl) (by kernel_rfl) (Wanted.free rfl) (V.bin rfl rfl rfl (B.addI (by omega) (by omega))) rfl ?_
      refine RH.val 9 rfl (by kernel_rfl) (by kernel_rfl) (by kernel_rfl) (by kernel_rfl) (Wanted.free rfl) (V.indexS (j := 2 * i + 1) rfl us9 rfl rfl (by omega) (getD_s (by omega))) rfl ?_
      refine RH.one (i := 4) (by kernel_rfl) ?_
      refine RHone.eff rfl (Wanted.free rfl) (E.call rfl go37 rfl (digit_ok)) rfl ?_
      rintro _ _ ⟨rfl, rfl⟩
      refine ⟨.inr (by repeat (first | exact Ent.refl _ | (apply Ent.cons; (· repeat (first | exact Pick.here | (refine Pick.sl ?_; (· repeat (first | exact List.Mem.head _ | assumption | apply List.Mem.tail))) | apply Pick.there))) | (refine Ent.trans (Ent.drop _ _) ?_))), ?_⟩
      refine RH.one (i := 10) (by kernel_rfl) ?_
      refine RHone.eff rfl (Wanted.free rfl) (E.call rfl go37 rfl (digit_ok)) rfl ?_
      rintro _ _ ⟨rfl, rfl⟩
      refine ⟨.inr (by repeat (first | exact Ent.refl _ | (apply Ent.cons; (· repeat (first | exact Pick.here | (refine Pick.sl ?_; (· repeat (first | exact List.Mem.head _ | assumption | apply List.Mem.tail))) | apply Pick.there))) | (refine Ent.trans (Ent.drop _ _) ?_))), ?_⟩
      refine RH.val 11 rfl (by kernel_rfl) (by kernel_rfl) (by kernel_rfl) (by kernel_rfl) (Wanted.free rfl) (V.assign rfl rfl) rfl ?_
      refine RH.val 12 rfl (by kernel_rfl) (by kernel_rfl) (by kernel_rfl) (by kernel_rfl) (Wanted.free rfl) (V.assign rfl rfl) rfl ?_
      refine RH.done (by kernel_rfl) ?_
      refine SG.seq ?_
      refine SG.seq ?_
      have g1 := (pg_iff (s := s) (k := i))
      refine SG.region ?_
      refine RL.val (Wanted.free rfl) (V.move rfl rfl) rfl ?_
      refine RL.cmp (Wanted.free rfl) (V.bin rfl rfl rfl B.gtr) rfl (fun h28 => ?_) (fun h28 => ?_)
      · skip
        refine RL.val (Wanted.free rfl) (V.move rfl rfl) rfl ?_
        refine RL.skip (Wanted.no rfl rfl rfl rfl rfl) rfl ?_
        refine RL.skip (Wanted.no rfl rfl rfl rfl rfl) rfl ?_
        refine RL.val (Wanted.free rfl) (V.pick_true rfl rfl rfl) rfl ?_
        refine RL.nil ?_
        refine SG.cond_true rfl ?_
        refine SG.seq ?_
        refine SG.region ?_
        refine RL.val (Wanted.free rfl) (V.buildA (cs := (List.replicate 32 (0 : UInt8)).map v8) [] rfl ba24 (by exact trivial) (by rw [← z32]; rfl)) rfl ?_
        refine RL.eff (Wanted.free rfl) (E.storeWhole rfl rfl rfl (by rw [List.length_map, List.length_replicate]) sz24 (by repeat (first | exact Pick.here | assumption | apply Pick.there)) (one8 _) (by rw [List.length_replicate])) rfl ?_
        rintro _ _ rfl
        refine RL.val (Wanted.free rfl) (V.assign rfl rfl) rfl ?_
        refine RL.nil ?_
        refine SG.retE (Ret.r2 Tryd.func30 rfl (.agg rfl ag24 (by repeat (first | exact Pick.here | assumption | apply Pick.there)) (take8 List.length_replicate) (by rw [List.length_map, List.length_replicate])) (.tmp rfl)) ?_ ⟨by rw [parse_bad (k := i) (by omega) (fun e => by have := g1.1 e; omega)], rfl⟩
        repeat (first | exact Ent.refl _ | (apply Ent.cons; (· repeat (first | exact Pick.here | (refine Pick.sl ?_; (· repeat (first | exact List.Mem.head _ | assumption | apply List.Mem.tail))) | apply Pick.there))) | (refine Ent.trans (Ent.drop _ _) ?_))
      · skip
        refine RL.val (Wanted.free rfl) (V.move rfl rfl) rfl ?_
        refine RL.val (Wanted.yes rfl rfl rfl rfl) (V.move rfl rfl) rfl ?_
        refine RL.cmp (Wanted.yes rfl rfl rfl rfl) (V.bin rfl rfl rfl B.gtr) rfl (fun h35 => ?_) (fun h35 => ?_)
        · skip
          refine RL.val (Wanted.free rfl) (V.pick_false rfl rfl rfl) rfl ?_
          refine RL.nil ?_
          refine SG.cond_true rfl ?_
          refine SG.seq ?_
          refine SG.region ?_
          refine RL.val (Wanted.free rfl) (V.buildA (cs := (List.replicate 32 (0 : UInt8)).map v8) [] rfl ba24 (by exact trivial) (by rw [← z32]; rfl)) rfl ?_
          refine RL.eff (Wanted.free rfl) (E.storeWhole rfl rfl rfl (by rw [List.length_map, List.length_replicate]) sz24 (by repeat (first | exact Pick.here | assumption | apply Pick.there)) (one8 _) (by rw [List.length_replicate])) rfl ?_
          rintro _ _ rfl
          refine RL.val (Wanted.free rfl) (V.assign rfl rfl) rfl ?_
          refine RL.nil ?_
          refine SG.retE (Ret.r2 Tryd.func30 rfl (.agg rfl ag24 (by repeat (first | exact Pick.here | assumption | apply Pick.there)) (take8 List.length_replicate) (by rw [List.length_map, List.length_replicate])) (.tmp rfl)) ?_ ⟨by rw [parse_bad (k := i) (by omega) (fun e => by have := g1.1 e; omega)], rfl⟩
          repeat (first | exact Ent.refl _ | (apply Ent.cons; (· repeat (first | exact Pick.here | (refine Pick.sl ?_; (· repeat (first | exact List.Mem.head _ | assumption | apply List.Mem.tail))) | apply Pick.there))) | (refine Ent.trans (Ent.drop _ _) ?_))
        · skip
          refine RL.val (Wanted.free rfl) (V.pick_false rfl rfl rfl) rfl ?_
          refine RL.nil ?_
          refine SG.cond_false rfl ?_
          refine SG.skip ?_
          refine SG.region ?_
          refine RL.val (Wanted.free rfl) (V.move rfl rfl) rfl ?_
          refine RL.val (Wanted.free rfl) (V.move rfl rfl) rfl ?_
          refine RL.val (Wanted.free rfl) (V.bin rfl rfl rfl (B.mul8 (x := 16))) rfl ?_
          refine RL.val (Wanted.free rfl) (V.move rfl rfl) rfl ?_
          refine RL.val (Wanted.free rfl) (V.bin rfl rfl rfl (B.add8)) rfl ?_
          refine RL.val (Wanted.free rfl) (V.indexW (j := i) rfl ar24 rfl rfl (by first | rfl | omega) (by omega)) rfl ?_
          refine RL.eff (Wanted.free rfl) (E.storeB (u := pv s i) rfl rfl rfl sz5 (by repeat (first | exact Pick.here | assumption | apply Pick.there)) (by rw [pz_length (by omega)]; omega)) rfl ?_
          rintro _ _ rfl
          rw [pz_step (by omega)]
          refine RL.nil ?_
          refine SG.inBlock ?_
          refine SG.region ?_
          refine RL.val (Wanted.free rfl) (V.bin rfl rfl rfl (B.addI (by omega) (by omega))) rfl ?_
          refine RL.val (Wanted.free rfl) (V.move rfl rfl) rfl ?_
          refine RL.nil ?_
          refine SG.weaken (ih0 _ _ _ ?_ ⟨i + 1, by omega, ?_, rfl, rfl, rfl⟩) ?_ ?_
          · omega
          · intro k hk
            by_cases e : k = i
            · subst e; exact g1.2 ⟨by omega, by omega⟩
            · exact hg k (by omega)
          · repeat (first | exact EnvLe.nil _ | refine EnvLe.cons rfl ?_)
          · repeat (first | exact Ent.refl _ | (apply Ent.cons; (· repeat (first | exact Pick.here | (refine Pick.sl ?_; (· repeat (first | exact List.Mem.head _ | assumption | apply List.Mem.tail))) | apply Pick.there))) | (refine Ent.trans (Ent.drop _ _) ?_))
    · skip
      refine RL.nil ?_
      refine SG.seq ?_
      refine SG.cond_false rfl ?_
      refine SG.exit rfl ?_
      refine SG.seq ?_
      obtain rfl : i = 32 := by omega
      rw [pz_all]
      refine SG.region ?_
      refine RL.val (Wanted.free rfl) (V.loadAgg (us := (pl s 32).map v8) rfl ag24 rfl (by repeat (first | exact Pick.here | assumption | apply Pick.there)) (take8 (pl_length s 32)) (by rw [List.length_map]; exact pl_length s 32)) rfl ?_
      refine RL.eff (Wanted.free rfl) (E.storeWhole rfl rfl rfl (by rw [List.length_map]; exact pl_length s 32) sz24 (by repeat (first | exact Pick.here | assumption | apply Pick.there)) (one8 _) (by rw [List.length_replicate])) rfl ?_
      rintro _ _ rfl
      refine RL.val (Wanted.free rfl) (V.assign rfl rfl) rfl ?_
      refine RL.nil ?_
      refine SG.retE (Ret.r2 Tryd.func30 rfl (.agg rfl ag24 (by repeat (first | exact Pick.here | assumption | apply Pick.there)) (take8 (pl_length s 32)) (by rw [List.length_map]; exact pl_length s 32)) (.tmp rfl)) ?_ ⟨by rw [parse_good (by omega) hg], rfl⟩
      repeat (first | exact Ent.refl _ | (apply Ent.cons; (· repeat (first | exact Pick.here | (refine Pick.sl ?_; (· repeat (first | exact List.Mem.head _ | assumption | apply List.Mem.tail))) | apply Pick.there))) | (refine Ent.trans (Ent.drop _ _) ?_))

end Go.Proofs.YtbljfilkdhgcnaaDoor
