/- The walks of the statements on what is written and read again. -/
import Derived.Test.YtdccpcnahbhfcaaLaws
import Derived.Test.YtdccpcnahbhfcaaVals2
import Derived.Test.YtdccpcnahbhfcaaPlain3
namespace Go.Proofs.Ytdccpcnahbhfcaa
open Go.Wk Go.Wire


/-- A value's field by its kind, and nothing else. -/
def onlyV (v : Val) : Val := byKind v.kind { zeroV v.kind with u := v.u } { zeroV v.kind with n := v.n } { zeroV v.kind with b := v.b } { zeroV v.kind with s := v.s } { zeroV v.kind with l := v.l }
theorem kinds (k : UInt8) : ((k % 5).toNat : Int) = 0 ∨ ((k % 5).toNat : Int) = 1 ∨ ((k % 5).toNat : Int) = 2 ∨ ((k % 5).toNat : Int) = 3 ∨ (¬ ((k % 5).toNat : Int) = 0 ∧ ¬ ((k % 5).toNat : Int) = 1 ∧ ¬ ((k % 5).toNat : Int) = 2 ∧ ¬ ((k % 5).toNat : Int) = 3) := by omega
theorem zeroV_kind (k : UInt8) : (zeroV k).kind = k := rfl
theorem rdV_enc {v : Val} (h : v.small) (r : List UInt8) : rdV v.kind 20 (encV v ++ r) 0 = (r, 0, onlyV v) := by
  obtain ⟨⟨hn1, hn2⟩, hs, hl⟩ := h
  unfold encV onlyV
  rcases kinds v.kind with hk | hk | hk | hk | ⟨h0, h1, h2, h3⟩
  · rw [bk0 hk, bk0 hk]; exact rdV0 hk (rdU_enc _ _)
  · rw [bk1 hk, bk1 hk]; exact rdV1 hk (rdI_enc hn1.1 hn1.2 _)
  · rw [bk2 hk, bk2 hk]; exact rdV2 hk (rdB_enc _ _)
  · rw [bk3 hk, bk3 hk]; exact rdV3 hk (rdS_enc (by omega) (by decide) _)
  · rw [bk4 h0 h1 h2 h3, bk4 h0 h1 h2 h3]; exact rdV4 h0 h1 h2 h3 (rdIs_enc (by omega) (by decide) hn2.2 _)
theorem onlyV_kind (v : Val) : (onlyV v).kind = v.kind := by unfold onlyV; exact bk_ind (p := fun w : Val => w.kind = v.kind) rfl rfl rfl rfl rfl
theorem sameV_only (v : Val) : sameV v (onlyV v) = true := by
  unfold sameV onlyV
  rcases kinds v.kind with hk | hk | hk | hk | ⟨h0, h1, h2, h3⟩
  · rw [bk0 hk, bk0 hk]; simp
  · rw [bk1 hk, bk1 hk]; simp
  · rw [bk2 hk, bk2 hk]; simp
  · rw [bk3 hk, bk3 hk]; simp
  · rw [bk4 h0 h1 h2 h3, bk4 h0 h1 h2 h3]; simp
theorem sameV_refl (v : Val) : sameV v v = true := by
  unfold sameV
  rcases kinds v.kind with hk | hk | hk | hk | ⟨h0, h1, h2, h3⟩
  · rw [bk0 hk]; simp
  · rw [bk1 hk]; simp
  · rw [bk2 hk]; simp
  · rw [bk3 hk]; simp
  · rw [bk4 h0 h1 h2 h3]; simp
theorem encVs_cons (v : Val) (l : List Val) : encVs (v :: l) = encV v ++ encVs l := rfl
theorem encVs_drop {l : List Val} {i : Nat} (h : i < l.length) : encVs (l.drop i) = encV l[i] ++ encVs (l.drop (i + 1)) := by rw [List.drop_eq_getElem_cons h, encVs_cons]

set_option maxRecDepth 100000 in
theorem round_law {κ : World} {L : List Assn} {a : Option Addr} {n0 c : Nat} {l : List Val} (hm : Sl RVal a n0 c l ∈ L) :
    Ctr Try.prog 7 #[.slice a n0 c] κ L (fun v M => v = vB true ∧ M = L) := by
  refine Ctr.enter (vs := [.slice a n0 c]) (m := 44) Try.func7 rfl rfl rfl ?_
  refine SG.fact (fun w hs => Sl.vok hs hm) fun hvok => ?_
  have hsm := fewV_small hvok
  have h12 : (fewV l).length ≤ 12 := fewV_length
  refine SG.seq ?_
  refine SG.region ?_
  refine RL.val (Wanted.free rfl) (V.assign rfl rfl) rfl ?_
  refine RL.nil ?_
  refine SG.seq ?_
  refine SG.region ?_
  refine RL.val (Wanted.free rfl) (V.move rfl rfl) rfl ?_
  refine RL.eff (Wanted.free rfl) (E.call rfl go11 rfl (few2_ok (by repeat (first | exact List.Mem.head _ | assumption | apply List.Mem.tail)))) rfl ?_
  rintro _ _ ⟨a3, k3, c3, rfl, rfl⟩
  refine RL.publish (a := a3) (by repeat (first | exact Pick.here | apply Pick.there)) ?_
  refine RL.val (Wanted.free rfl) (V.assign rfl rfl) rfl ?_
  refine RL.nil ?_
  refine SG.seq ?_
  refine SG.region ?_
  refine RL.val (Wanted.free rfl) (V.move rfl rfl) rfl ?_
  refine RL.eff (Wanted.free rfl) (E.call rfl go16 rfl (written_ok (by repeat (first | exact List.Mem.head _ | assumption | apply List.Mem.tail)) hsm (by omega))) rfl ?_
  rintro _ _ ⟨a9, k9, c9, rfl, rfl⟩
  have hlen := encVs_length hsm
  refine RL.eff (Wanted.free rfl) (E.call rfl go19 rfl (newReader_buf (a := a9) (by repeat (first | exact Pick.here | apply Pick.there)) (by omega))) rfl ?_
  rintro _ _ ⟨br, rfl, rfl⟩
  refine RL.val (Wanted.free rfl) (V.assign rfl rfl) rfl ?_
  refine RL.nil ?_
  refine SG.seq ?_
  refine SG.seq ?_
  refine SG.region ?_
  refine RL.val (Wanted.free rfl) (V.move rfl rfl) rfl ?_
  refine RL.cmpF (Wanted.free rfl) (V.eqlPtrNil rfl up42 rfl rfl) rfl (by simp) ?_
  refine RL.nil ?_
  refine SG.cond_false rfl ?_
  refine SG.skip ?_
  refine SG.seq ?_
  refine SG.seq ?_
  refine SG.region ?_
  refine RL.val (Wanted.free rfl) (V.assign rfl rfl) rfl ?_
  refine RL.nil ?_
  refine SG.block ?_
  generalize fewV l = fv at *
  refine SG.sl (T := RVal) (l := fv) (a := a3) (by repeat (first | exact List.Mem.head _ | assumption | apply List.Mem.tail)) fun hfl _ _ => ?_
  subst hfl
  refine SG.weaken (SG.loop2 (fun m al M => ∃ i : Nat, i ≤ fv.length ∧ m = fv.length - i ∧ al = [(3, .slice a3 fv.length c3), (4, ptr br 0), (5, vI i)] ∧ M = Rdr br (encVs (fv.drop i)) 0 :: Sl RVal a3 fv.length c3 fv :: L) (m0 := _) ⟨0, by omega, rfl, rfl, rfl⟩ ?_) ?_ ?_
  rotate_left
  · repeat (first | exact EnvLe.nil _ | refine EnvLe.cons rfl ?_)
  · repeat (first | exact Ent.refl _ | (apply Ent.cons; (· repeat (first | exact Pick.here | (refine Pick.sl ?_; (· repeat (first | exact List.Mem.head _ | assumption | apply List.Mem.tail))) | apply Pick.there))) | (refine Ent.trans (Ent.drop _ _) ?_))
  rintro _ _ _ ⟨i, hi, rfl, rfl, rfl⟩ ih0
  refine SG.seq ?_
  refine SG.seq ?_
  refine SG.region ?_
  refine RL.val (Wanted.free rfl) (V.move rfl rfl) rfl ?_
  refine RL.val (Wanted.free rfl) (V.move rfl rfl) rfl ?_
  refine RL.val (Wanted.free rfl) (V.len rfl rfl el22.under rfl) rfl ?_
  refine RL.cmp (Wanted.free rfl) (V.bin rfl rfl rfl B.lss) rfl (fun h14 => ?_) (fun h14 => ?_)
  · skip
    refine RL.nil ?_
    refine SG.cond_true rfl ?_
    refine SG.skip ?_
    refine SG.seq ?_
    refine SG.block ?_
    refine SG.seq ?_
    refine SG.elem (T := RVal) (j := i) (l := fv) (by repeat (first | exact List.Mem.head _ | assumption | apply List.Mem.tail)) (List.getElem?_eq_getElem (by omega)) fun us hus => ?_
    refine SG.openVal (by repeat (first | exact Pick.here | apply Pick.there)) fun a1 m1 c1 hus2 hok => ?_
    subst hus2
    have hs1 := hsm fv[i] (List.getElem_mem _)
    have hlen := encVs_length (l := fv.drop i) (fun v h => hsm v (List.mem_of_mem_drop h))
    rw [List.length_drop] at hlen
    refine SG.drawN 19 (At a3 (i * 6) (fv[i].cells a1 m1 c1) :: Sl RI a1 m1 c1 fv[i].l :: Sl RVal a3 fv.length c3 fv :: L) wide rfl rfl ?_
    refine RH.val 0 rfl (by kernel_rfl) (by kernel_rfl) (by kernel_rfl) (Wanted.free rfl) (V.move rfl rfl) (by repeat (first | exact Ent.refl _ | (apply Ent.cons; (· repeat (first | exact Pick.here | (refine Pick.sl ?_; (· repeat (first | exact List.Mem.head _ | assumption | apply List.Mem.tail))) | apply Pick.there))) | (refine Ent.trans (Ent.drop _ _) ?_))) rfl ?_
    refine RH.val 1 rfl (by kernel_rfl) (by kernel_rfl) (by kernel_rfl) (Wanted.free rfl) (V.move rfl rfl) (by repeat (first | exact Ent.refl _ | (apply Ent.cons; (· repeat (first | exact Pick.here | (refine Pick.sl ?_; (· repeat (first | exact List.Mem.head _ | assumption | apply List.Mem.tail))) | apply Pick.there))) | (refine Ent.trans (Ent.drop _ _) ?_))) rfl ?_
    refine RH.val 2 rfl (by kernel_rfl) (by kernel_rfl) (by kernel_rfl) (Wanted.free rfl) (V.indexSl rfl el22.slice rfl rfl (by repeat (first | exact List.Mem.head _ | assumption | apply List.Mem.tail)) (by first | rfl | omega) (by omega)) (by repeat (first | exact Ent.refl _ | (apply Ent.cons; (· repeat (first | exact Pick.here | (refine Pick.sl ?_; (· repeat (first | exact List.Mem.head _ | assumption | apply List.Mem.tail))) | apply Pick.there))) | (refine Ent.trans (Ent.drop _ _) ?_))) rfl ?_
    refine RH.val 3 rfl (by kernel_rfl) (by kernel_rfl) (by kernel_rfl) (Wanted.free rfl) (V.loadAt rfl ag34 rfl (by repeat (first | exact List.Mem.head _ | assumption | apply List.Mem.tail)) rfl) (by repeat (first | exact Ent.refl _ | (apply Ent.cons; (· repeat (first | exact Pick.here | (refine Pick.sl ?_; (· repeat (first | exact List.Mem.head _ | assumption | apply List.Mem.tail))) | apply Pick.there))) | (refine Ent.trans (Ent.drop _ _) ?_))) rfl ?_
    refine RH.val 4 rfl (by kernel_rfl) (by kernel_rfl) (by kernel_rfl) (Wanted.free rfl) (V.move rfl rfl) (by repeat (first | exact Ent.refl _ | (apply Ent.cons; (· repeat (first | exact Pick.here | (refine Pick.sl ?_; (· repeat (first | exact List.Mem.head _ | assumption | apply List.Mem.tail))) | apply Pick.there))) | (refine Ent.trans (Ent.drop _ _) ?_))) rfl ?_
    refine RH.val 5 rfl (by kernel_rfl) (by kernel_rfl) (by kernel_rfl) (Wanted.free rfl) (V.move rfl rfl) (by repeat (first | exact Ent.refl _ | (apply Ent.cons; (· repeat (first | exact Pick.here | (refine Pick.sl ?_; (· repeat (first | exact List.Mem.head _ | assumption | apply List.Mem.tail))) | apply Pick.there))) | (refine Ent.trans (Ent.drop _ _) ?_))) rfl ?_
    refine RH.val 6 rfl (by kernel_rfl) (by kernel_rfl) (by kernel_rfl) (Wanted.free rfl) (V.move rfl rfl) (by repeat (first | exact Ent.refl _ | (apply Ent.cons; (· repeat (first | exact Pick.here | (refine Pick.sl ?_; (· repeat (first | exact List.Mem.head _ | assumption | apply List.Mem.tail))) | apply Pick.there))) | (refine Ent.trans (Ent.drop _ _) ?_))) rfl ?_
    refine RH.val 7 rfl (by kernel_rfl) (by kernel_rfl) (by kernel_rfl) (Wanted.free rfl) (V.indexSl rfl el22.slice rfl rfl (by repeat (first | exact List.Mem.head _ | assumption | apply List.Mem.tail)) (by first | rfl | omega) (by omega)) (by repeat (first | exact Ent.refl _ | (apply Ent.cons; (· repeat (first | exact Pick.here | (refine Pick.sl ?_; (· repeat (first | exact List.Mem.head _ | assumption | apply List.Mem.tail))) | apply Pick.there))) | (refine Ent.trans (Ent.drop _ _) ?_))) rfl ?_
    refine RH.val 8 rfl (by kernel_rfl) (by kernel_rfl) (by kernel_rfl) (Wanted.free rfl) (V.loadAt rfl ag34 rfl (by repeat (first | exact List.Mem.head _ | assumption | apply List.Mem.tail)) rfl) (by repeat (first | exact Ent.refl _ | (apply Ent.cons; (· repeat (first | exact Pick.here | (refine Pick.sl ?_; (· repeat (first | exact List.Mem.head _ | assumption | apply List.Mem.tail))) | apply Pick.there))) | (refine Ent.trans (Ent.drop _ _) ?_))) rfl ?_
    refine RH.one (i := 9) (by kernel_rfl) ?_
    refine RHone.eff rfl (Wanted.free rfl) (E.call rfl go24 rfl (read_ok _ 20 (by repeat (first | exact Pick.here | apply Pick.there)) (by decide) (by decide) (by omega))) rfl ?_
    rintro _ _ ⟨l2, e2, w, a2, m2, c2, hr, rfl, rfl⟩
    rw [encVs_drop (by omega), rdV_enc hs1] at hr
    cases hr
    refine ⟨(by repeat (first | exact Ent.refl _ | (apply Ent.cons; (· repeat (first | exact Pick.here | (refine Pick.sl ?_; (· repeat (first | exact List.Mem.head _ | assumption | apply List.Mem.tail))) | apply Pick.there))) | (refine Ent.trans (Ent.drop _ _) ?_))), ?_⟩
    refine RH.one (i := 10) (by kernel_rfl) ?_
    refine RHone.eff rfl (Wanted.free rfl) (E.call rfl go18 rfl (same_true _ _ (by repeat (first | exact List.Mem.head _ | assumption | apply List.Mem.tail)) (by repeat (first | exact List.Mem.head _ | assumption | apply List.Mem.tail)) (sameV_only _))) rfl ?_
    rintro _ _ ⟨rfl, rfl⟩
    refine ⟨(by repeat (first | exact Ent.refl _ | (apply Ent.cons; (· repeat (first | exact Pick.here | (refine Pick.sl ?_; (· repeat (first | exact List.Mem.head _ | assumption | apply List.Mem.tail))) | apply Pick.there))) | (refine Ent.trans (Ent.drop _ _) ?_))), ?_⟩
    refine RH.val 11 rfl (by kernel_rfl) (by kernel_rfl) (by kernel_rfl) (Wanted.free rfl) (V.not rfl rfl) (by repeat (first | exact Ent.refl _ | (apply Ent.cons; (· repeat (first | exact Pick.here | (refine Pick.sl ?_; (· repeat (first | exact List.Mem.head _ | assumption | apply List.Mem.tail))) | apply Pick.there))) | (refine Ent.trans (Ent.drop _ _) ?_))) rfl ?_
    refine RH.val 12 rfl (by kernel_rfl) (by kernel_rfl) (by kernel_rfl) (Wanted.free rfl) (V.move rfl rfl) (by repeat (first | exact Ent.refl _ | (apply Ent.cons; (· repeat (first | exact Pick.here | (refine Pick.sl ?_; (· repeat (first | exact List.Mem.head _ | assumption | apply List.Mem.tail))) | apply Pick.there))) | (refine Ent.trans (Ent.drop _ _) ?_))) rfl ?_
    refine RH.val 13 rfl (by kernel_rfl) (by kernel_rfl) (by kernel_rfl) (Wanted.yes rfl rfl rfl rfl) (V.move rfl rfl) (by repeat (first | exact Ent.refl _ | (apply Ent.cons; (· repeat (first | exact Pick.here | (refine Pick.sl ?_; (· repeat (first | exact List.Mem.head _ | assumption | apply List.Mem.tail))) | apply Pick.there))) | (refine Ent.trans (Ent.drop _ _) ?_))) rfl ?_
    refine RH.val 14 rfl (by kernel_rfl) (by kernel_rfl) (by kernel_rfl) (Wanted.yes rfl rfl rfl rfl) (V.nilCheck rfl rfl) (by repeat (first | exact Ent.refl _ | (apply Ent.cons; (· repeat (first | exact Pick.here | (refine Pick.sl ?_; (· repeat (first | exact List.Mem.head _ | assumption | apply List.Mem.tail))) | apply Pick.there))) | (refine Ent.trans (Ent.drop _ _) ?_))) rfl ?_
    refine RH.val 15 rfl (by kernel_rfl) (by kernel_rfl) (by kernel_rfl) (Wanted.yes rfl rfl rfl rfl) (V.fieldAddr rfl rfl fo50_0) (by repeat (first | exact Ent.refl _ | (apply Ent.cons; (· repeat (first | exact Pick.here | (refine Pick.sl ?_; (· repeat (first | exact List.Mem.head _ | assumption | apply List.Mem.tail))) | apply Pick.there))) | (refine Ent.trans (Ent.drop _ _) ?_))) rfl ?_
    refine RH.one (i := 16) (by kernel_rfl) ?_
    refine RHone.eff rfl (Wanted.yes rfl rfl rfl rfl) (E.call rfl go22 rfl (rErr_ok (by repeat (first | exact Pick.here | apply Pick.there)))) rfl ?_
    rintro _ _ ⟨rfl, rfl⟩
    refine ⟨(by repeat (first | exact Ent.refl _ | (apply Ent.cons; (· repeat (first | exact Pick.here | (refine Pick.sl ?_; (· repeat (first | exact List.Mem.head _ | assumption | apply List.Mem.tail))) | apply Pick.there))) | (refine Ent.trans (Ent.drop _ _) ?_))), ?_⟩
    refine RH.cmpF 17 rfl (by kernel_rfl) (by kernel_rfl) (by kernel_rfl) (Wanted.yes rfl rfl rfl rfl) (V.bin rfl rfl rfl B.neq) (by repeat (first | exact Ent.refl _ | (apply Ent.cons; (· repeat (first | exact Pick.here | (refine Pick.sl ?_; (· repeat (first | exact List.Mem.head _ | assumption | apply List.Mem.tail))) | apply Pick.there))) | (refine Ent.trans (Ent.drop _ _) ?_))) rfl (by omega) ?_
    refine RH.val 18 rfl (by kernel_rfl) (by kernel_rfl) (by kernel_rfl) (Wanted.free rfl) (V.pick_false rfl rfl rfl) (by repeat (first | exact Ent.refl _ | (apply Ent.cons; (· repeat (first | exact Pick.here | (refine Pick.sl ?_; (· repeat (first | exact List.Mem.head _ | assumption | apply List.Mem.tail))) | apply Pick.there))) | (refine Ent.trans (Ent.drop _ _) ?_))) rfl ?_
    refine RH.done (by kernel_rfl) ?_
    refine SG.cond_false rfl ?_
    refine SG.skip ?_
    refine SG.inBlock ?_
    refine SG.region ?_
    refine RL.val (Wanted.free rfl) (V.move rfl rfl) rfl ?_
    refine RL.val (Wanted.free rfl) (V.bin rfl rfl rfl (B.addI (by omega) (by omega))) rfl ?_
    refine RL.val (Wanted.free rfl) (V.assign rfl rfl) rfl ?_
    refine RL.nil ?_
    refine SG.weaken (ih0 _ _ _ ?_ ⟨i + 1, by omega, rfl, rfl, rfl⟩) ?_ ?_
    · omega
    · repeat (first | exact EnvLe.nil _ | refine EnvLe.cons rfl ?_)
    · repeat (first | exact Ent.refl _ | (apply Ent.cons; (· repeat (first | exact Pick.here | (refine Pick.sl ?_; (· repeat (first | exact List.Mem.head _ | assumption | apply List.Mem.tail))) | apply Pick.there))) | (refine Ent.trans (Ent.drop _ _) ?_))
  · skip
    refine RL.nil ?_
    refine SG.cond_false rfl ?_
    refine SG.exit rfl ?_
    refine SG.seq ?_
    obtain rfl : i = fv.length := by omega
    rw [List.drop_length]
    refine SG.region ?_
    refine RL.val (Wanted.free rfl) (V.move rfl rfl) rfl ?_
    refine RL.eff (Wanted.free rfl) (E.call rfl go25 rfl (rEnd_ok (by repeat (first | exact Pick.here | apply Pick.there)))) rfl ?_
    rintro _ _ ⟨rfl, rfl⟩
    refine RL.cmpT (Wanted.free rfl) (V.bin rfl rfl rfl B.eql) rfl (by simp [encVs]) ?_
    refine RL.val (Wanted.free rfl) (V.move rfl rfl) rfl ?_
    refine RL.eff (Wanted.yes rfl rfl rfl rfl) (E.call rfl go17 rfl (lives_ok)) rfl ?_
    rintro _ _ ⟨rfl, rfl⟩
    refine RL.val (Wanted.free rfl) (V.pick_true rfl rfl rfl) rfl ?_
    refine RL.val (Wanted.free rfl) (V.assign rfl rfl) rfl ?_
    refine RL.nil ?_
    refine SG.retE (Ret.r1 Try.func7 rfl (.tmp rfl)) ?_ ⟨rfl, rfl⟩
    repeat (first | exact Ent.refl _ | (apply Ent.cons; (· repeat (first | exact Pick.here | (refine Pick.sl ?_; (· repeat (first | exact List.Mem.head _ | assumption | apply List.Mem.tail))) | apply Pick.there))) | (refine Ent.trans (Ent.drop _ _) ?_))

end Go.Proofs.Ytdccpcnahbhfcaa
