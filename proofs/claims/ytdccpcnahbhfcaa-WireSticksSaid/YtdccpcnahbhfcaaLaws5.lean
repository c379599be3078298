/- The walk of the statement that the first error stays. -/
import Derived.Test.YtdccpcnahbhfcaaLaws3
import Derived.Test.YtdccpcnahbhfcaaMore2
namespace Go.Proofs.Ytdccpcnahbhfcaa
open Go.Wk Go.Wire

set_option maxRecDepth 100000 in
theorem sticks_law {κ : World} {L : List Assn} {a a1 : Option Addr} {n0 c n1 c1 : Nat} {raw : List UInt8} {l : List Val} (hr : Sl R8 a n0 c raw ∈ L) (hm : Sl RVal a1 n1 c1 l ∈ L) (e f : Int) (he1 : -9223372036854775808 ≤ e) (he2 : e ≤ 9223372036854775807) (hf1 : -9223372036854775808 ≤ f) (hf2 : f ≤ 9223372036854775807) :
    Ctr Try.prog 5 #[.slice a n0 c, .slice a1 n1 c1, vI e, vI f] κ L (fun v M => v = vB true ∧ M = L) := by
  refine Ctr.enter (vs := [.slice a n0 c, .slice a1 n1 c1, vI e, vI f]) (m := 78) Try.func5 rfl rfl rfl ?_
  refine SG.sl hm fun hl1 _ _ => ?_
  subst hl1
  obtain ⟨hb1, hb2⟩ := aroundV_bd (n := e) (most := 50) (by decide)
  refine SG.seq ?_
  refine SG.region ?_
  refine RL.val (Wanted.free rfl) (V.assign rfl rfl) rfl ?_
  refine RL.nil ?_
  refine SG.seq ?_
  refine SG.region ?_
  refine RL.val (Wanted.free rfl) (V.move rfl rfl) rfl ?_
  refine RL.eff (Wanted.free rfl) (E.call rfl go20 rfl (few_ok (by repeat (first | exact List.Mem.head _ | assumption | apply List.Mem.tail)) (by omega) (by omega))) rfl ?_
  rintro _ _ ⟨a4, k4, c4, rfl, rfl⟩
  refine RL.eff (Wanted.free rfl) (E.call rfl go19 rfl (newReader_buf (a := a4) (by repeat (first | exact Pick.here | apply Pick.there)) (by rw [List.length_take]; omega))) rfl ?_
  rintro _ _ ⟨br, rfl, rfl⟩
  refine RL.val (Wanted.free rfl) (V.assign rfl rfl) rfl ?_
  refine RL.nil ?_
  refine SG.seq ?_
  refine SG.seq ?_
  refine SG.region ?_
  refine RL.val (Wanted.free rfl) (V.move rfl rfl) rfl ?_
  refine RL.cmpF (Wanted.free rfl) (V.eqlPtrNil rfl up42 rfl rfl) rfl (by simp) ?_
  refine RL.nil ?_
  refine SG.cond_false rfl ?_
  refine SG.skip ?_
  refine SG.seq ?_
  refine SG.region ?_
  refine RL.val (Wanted.free rfl) (V.move rfl rfl) rfl ?_
  refine RL.val (Wanted.free rfl) (V.nilCheck rfl rfl) rfl ?_
  refine RL.val (Wanted.free rfl) (V.fieldAddr rfl rfl fo50_0) rfl ?_
  refine RL.eff (Wanted.free rfl) (E.call rfl go21 rfl (rFail_ok _ (by repeat (first | exact Pick.here | apply Pick.there)))) rfl ?_
  rintro _ _ ⟨rfl, rfl⟩
  rw [if_pos rfl]
  refine RL.nil ?_
  refine SG.seq ?_
  refine SG.seq ?_
  refine SG.region ?_
  refine RL.val (Wanted.free rfl) (V.move rfl rfl) rfl ?_
  refine RL.val (Wanted.free rfl) (V.nilCheck rfl rfl) rfl ?_
  refine RL.val (Wanted.free rfl) (V.fieldAddr rfl rfl fo50_0) rfl ?_
  refine RL.eff (Wanted.free rfl) (E.call rfl go22 rfl (rErr_ok (by repeat (first | exact Pick.here | apply Pick.there)))) rfl ?_
  rintro _ _ ⟨rfl, rfl⟩
  refine RL.cmpF (Wanted.free rfl) (V.bin rfl rfl rfl B.neq) rfl (by omega) ?_
  refine RL.nil ?_
  refine SG.cond_false rfl ?_
  refine SG.skip ?_
  refine SG.seq ?_
  refine SG.region ?_
  refine RL.val (Wanted.free rfl) (V.move rfl rfl) rfl ?_
  refine RL.eff (Wanted.free rfl) (E.call rfl go23 rfl (around_ok _ _ he1 he2 (by decide))) rfl ?_
  rintro _ _ ⟨rfl, rfl⟩
  refine RL.val (Wanted.free rfl) (V.bin rfl rfl rfl (B.addI (by omega) (by omega))) rfl ?_
  refine RL.val (Wanted.free rfl) (V.assign rfl rfl) rfl ?_
  refine RL.nil ?_
  refine SG.seq ?_
  refine SG.region ?_
  refine RL.val (Wanted.free rfl) (V.move rfl rfl) rfl ?_
  refine RL.val (Wanted.free rfl) (V.nilCheck rfl rfl) rfl ?_
  refine RL.val (Wanted.free rfl) (V.fieldAddr rfl rfl fo50_0) rfl ?_
  refine RL.val (Wanted.free rfl) (V.move rfl rfl) rfl ?_
  refine RL.eff (Wanted.free rfl) (E.call rfl go21 rfl (rFail_ok _ (by repeat (first | exact Pick.here | apply Pick.there)))) rfl ?_
  rintro _ _ ⟨rfl, rfl⟩
  rw [if_pos rfl]
  refine RL.nil ?_
  refine SG.seq ?_
  refine SG.drawN 6 (L) wide rfl rfl ?_
  refine RH.val 0 rfl (by kernel_rfl) (by kernel_rfl) (by kernel_rfl) (Wanted.free rfl) (V.move rfl rfl) (by repeat (first | exact Ent.refl _ | (apply Ent.cons; (· repeat (first | exact Pick.here | (refine Pick.sl ?_; (· repeat (first | exact List.Mem.head _ | assumption | apply List.Mem.tail))) | apply Pick.there))) | (refine Ent.trans (Ent.drop _ _) ?_))) rfl ?_
  refine RH.val 1 rfl (by kernel_rfl) (by kernel_rfl) (by kernel_rfl) (Wanted.free rfl) (V.nilCheck rfl rfl) (by repeat (first | exact Ent.refl _ | (apply Ent.cons; (· repeat (first | exact Pick.here | (refine Pick.sl ?_; (· repeat (first | exact List.Mem.head _ | assumption | apply List.Mem.tail))) | apply Pick.there))) | (refine Ent.trans (Ent.drop _ _) ?_))) rfl ?_
  refine RH.val 2 rfl (by kernel_rfl) (by kernel_rfl) (by kernel_rfl) (Wanted.free rfl) (V.fieldAddr rfl rfl fo50_0) (by repeat (first | exact Ent.refl _ | (apply Ent.cons; (· repeat (first | exact Pick.here | (refine Pick.sl ?_; (· repeat (first | exact List.Mem.head _ | assumption | apply List.Mem.tail))) | apply Pick.there))) | (refine Ent.trans (Ent.drop _ _) ?_))) rfl ?_
  refine RH.val 3 rfl (by kernel_rfl) (by kernel_rfl) (by kernel_rfl) (Wanted.free rfl) (V.move rfl rfl) (by repeat (first | exact Ent.refl _ | (apply Ent.cons; (· repeat (first | exact Pick.here | (refine Pick.sl ?_; (· repeat (first | exact List.Mem.head _ | assumption | apply List.Mem.tail))) | apply Pick.there))) | (refine Ent.trans (Ent.drop _ _) ?_))) rfl ?_
  refine RH.one (i := 4) (by kernel_rfl) ?_
  refine RHone.eff rfl (Wanted.free rfl) (E.call rfl go23 rfl (around_ok _ _ hf1 hf2 (by decide))) rfl ?_
  rintro _ _ ⟨rfl, rfl⟩
  refine ⟨(by repeat (first | exact Ent.refl _ | (apply Ent.cons; (· repeat (first | exact Pick.here | (refine Pick.sl ?_; (· repeat (first | exact List.Mem.head _ | assumption | apply List.Mem.tail))) | apply Pick.there))) | (refine Ent.trans (Ent.drop _ _) ?_))), ?_⟩
  refine RH.one (i := 5) (by kernel_rfl) ?_
  refine RHone.eff rfl (Wanted.free rfl) (E.call rfl go21 rfl (rFail_ok _ (by repeat (first | exact Pick.here | apply Pick.there)))) rfl ?_
  rintro _ _ ⟨rfl, rfl⟩
  refine ⟨(by repeat (first | exact Ent.refl _ | (apply Ent.cons; (· repeat (first | exact Pick.here | (refine Pick.sl ?_; (· repeat (first | exact List.Mem.head _ | assumption | apply List.Mem.tail))) | apply Pick.there))) | (refine Ent.trans (Ent.drop _ _) ?_))), ?_⟩
  rw [if_neg (by omega)]
  refine RH.done (by kernel_rfl) ?_
  refine SG.seq ?_
  refine SG.seq ?_
  refine SG.region ?_
  refine RL.val (Wanted.free rfl) (V.assign rfl rfl) rfl ?_
  refine RL.nil ?_
  refine SG.block ?_
  generalize hfst : 1 + aroundV e 50 = fst at *
  have hne : fst ≠ 0 := by omega
  have hlen40 : (raw.take (Int.toNat 40)).length ≤ 1000000 := by rw [List.length_take]; have : Int.toNat 40 = 40 := rfl; omega
  generalize raw.take (Int.toNat 40) = r40 at *
  refine SG.weaken (SG.loop2 (fun m al M => ∃ i : Nat, i ≤ l.length ∧ m = l.length - i ∧ al = [(1, .slice a1 l.length c1), (9, ptr br 0), (10, vI fst), (11, vI i)] ∧ M = Rdr br r40 fst :: L) (m0 := _) ⟨0, by omega, rfl, rfl, rfl⟩ ?_) ?_ ?_
  rotate_left
  · repeat (first | exact EnvLe.nil _ | refine EnvLe.cons rfl ?_)
  · repeat (first | exact Ent.refl _ | (apply Ent.cons; (· repeat (first | exact Pick.here | (refine Pick.sl ?_; (· repeat (first | exact List.Mem.head _ | assumption | apply List.Mem.tail))) | apply Pick.there))) | (refine Ent.trans (Ent.drop _ _) ?_))
  rintro _ _ _ ⟨i, hi, rfl, rfl, rfl⟩ ih0
  refine SG.seq ?_
  refine SG.seq ?_
  refine SG.region ?_
  refine RL.val (Wanted.free rfl) (V.move rfl rfl) rfl ?_
  refine RL.val (Wanted.free rfl) (V.move rfl rfl) rfl ?_
  refine RL.val (Wanted.free rfl) (V.len rfl rfl el22.under rfl) rfl ?_
  refine RL.cmp (Wanted.free rfl) (V.bin rfl rfl rfl B.lss) rfl (fun h34 => ?_) (fun h34 => ?_)
  · skip
    refine RL.val (Wanted.free rfl) (V.move rfl rfl) rfl ?_
    refine RL.val (Wanted.yes rfl rfl rfl rfl) (V.move rfl rfl) rfl ?_
    refine RL.cmp (Wanted.yes rfl rfl rfl rfl) (V.bin rfl rfl rfl B.lss) rfl (fun h37 => ?_) (fun h37 => ?_)
    · skip
      refine RL.val (Wanted.free rfl) (V.pick_true rfl rfl rfl) rfl ?_
      refine RL.nil ?_
      refine SG.cond_true rfl ?_
      refine SG.skip ?_
      refine SG.seq ?_
      refine SG.block ?_
      refine SG.seq ?_
      refine SG.elem (T := RVal) (j := i) (l := l) (by repeat (first | exact List.Mem.head _ | assumption | apply List.Mem.tail)) (List.getElem?_eq_getElem (by omega)) fun us hus => ?_
      refine SG.openVal (by repeat (first | exact Pick.here | apply Pick.there)) fun a2 m2 c2 hus2 hok => ?_
      subst hus2
      refine SG.region ?_
      refine RL.val (Wanted.free rfl) (V.move rfl rfl) rfl ?_
      refine RL.val (Wanted.free rfl) (V.move rfl rfl) rfl ?_
      refine RL.val (Wanted.free rfl) (V.move rfl rfl) rfl ?_
      refine RL.val (Wanted.free rfl) (V.indexSl rfl el22.slice rfl rfl (by repeat (first | exact List.Mem.head _ | assumption | apply List.Mem.tail)) (by first | rfl | omega) (by omega)) rfl ?_
      refine RL.val (Wanted.free rfl) (V.loadAt rfl ag34 rfl (by repeat (first | exact List.Mem.head _ | assumption | apply List.Mem.tail)) rfl) rfl ?_
      refine RL.eff (Wanted.free rfl) (E.call rfl go24 rfl (read_ok _ 20 (by repeat (first | exact Pick.here | apply Pick.there)) (by decide) (by decide) hlen40)) rfl ?_
      rintro _ _ ⟨l3, e3, w, a3, m3, c3, hr3, rfl, rfl⟩
      rw [rdV_err hne] at hr3
      cases hr3
      refine RL.eff (Wanted.free rfl) (E.alloc rfl ze34) rfl ?_
      rintro _ _ ⟨b44, rfl, rfl⟩
      refine RL.eff (Wanted.free rfl) (E.storeAgg rfl rfl rfl rfl sz34 (by repeat (first | exact Pick.here | apply Pick.there)) (by first | (simp [Value.oneCell']; done) | (simp [setAt, Value.oneCell']; done)) (by first | (simp; done) | (simp [setAt]; done))) rfl ?_
      rintro _ _ rfl
      refine RL.nil ?_
      refine SG.seq ?_
      refine SG.region ?_
      refine RL.val (Wanted.free rfl) (V.loadAgg (us := [v8 (zeroV (l[i]).kind).kind, v64 0, vI 0, vB false, vS [], .slice a3 m3 c3]) rfl ag34 rfl (by repeat (first | exact Pick.here | apply Pick.there)) rfl rfl) rfl ?_
      refine RL.val (Wanted.free rfl) (V.fieldAddr rfl rfl fo34_0) rfl ?_
      refine RL.val (Wanted.free rfl) (V.load rfl on5 rfl (by repeat (first | exact Pick.here | apply Pick.there)) rfl) rfl ?_
      refine RL.val (Wanted.free rfl) (V.buildS [(0, _)] rfl bs34 (by exact ⟨rfl, ⟨_, rfl, rfl⟩, trivial⟩) rfl) rfl ?_
      refine RL.ent (Sl.none (T := RI)) ?_
      refine RL.eff (Wanted.free rfl) (E.call rfl go18 rfl (same_true (zeroV (l[i]).kind) (zeroV (l[i]).kind) (by repeat (first | exact List.Mem.head _ | assumption | apply List.Mem.tail)) (a' := none) (m' := 0) (c' := 0) (by repeat (first | exact List.Mem.head _ | assumption | apply List.Mem.tail)) (sameV_refl _))) rfl ?_
      rintro _ _ ⟨rfl, rfl⟩
      refine RL.val (Wanted.free rfl) (V.not rfl rfl) rfl ?_
      refine RL.val (Wanted.free rfl) (V.move rfl rfl) rfl ?_
      refine RL.val (Wanted.yes rfl rfl rfl rfl) (V.move rfl rfl) rfl ?_
      refine RL.val (Wanted.yes rfl rfl rfl rfl) (V.nilCheck rfl rfl) rfl ?_
      refine RL.val (Wanted.yes rfl rfl rfl rfl) (V.fieldAddr rfl rfl fo50_0) rfl ?_
      refine RL.eff (Wanted.yes rfl rfl rfl rfl) (E.call rfl go22 rfl (rErr_ok (by repeat (first | exact Pick.here | apply Pick.there)))) rfl ?_
      rintro _ _ ⟨rfl, rfl⟩
      refine RL.val (Wanted.yes rfl rfl rfl rfl) (V.move rfl rfl) rfl ?_
      refine RL.cmpF (Wanted.yes rfl rfl rfl rfl) (V.bin rfl rfl rfl B.neq) rfl (by omega) ?_
      refine RL.val (Wanted.free rfl) (V.pick_false rfl rfl rfl) rfl ?_
      refine RL.nil ?_
      refine SG.cond_false rfl ?_
      refine SG.skip ?_
      refine SG.inBlock ?_
      refine SG.region ?_
      refine RL.val (Wanted.free rfl) (V.move rfl rfl) rfl ?_
      refine RL.val (Wanted.free rfl) (V.bin rfl rfl rfl (B.addI (by omega) (by omega))) rfl ?_
      refine RL.val (Wanted.free rfl) (V.assign rfl rfl) rfl ?_
      refine RL.nil ?_
      refine SG.weaken (ih0 _ _ _ ?_ ⟨i + 1, by omega, rfl, rfl, rfl⟩) ?_ ?_
      · omega
      · repeat (first | exact EnvLe.nil _ | refine EnvLe.cons rfl ?_)
      · repeat (first | exact Ent.refl _ | (apply Ent.cons; (· repeat (first | exact Pick.here | (refine Pick.sl ?_; (· repeat (first | exact List.Mem.head _ | assumption | apply List.Mem.tail))) | apply Pick.there))) | (refine Ent.trans (Ent.drop _ _) ?_))
    · skip
      refine RL.val (Wanted.free rfl) (V.pick_true rfl rfl rfl) rfl ?_
      refine RL.nil ?_
      refine SG.cond_false rfl ?_
      refine SG.exit rfl ?_
      refine SG.seq ?_
      refine SG.region ?_
      refine RL.val (Wanted.free rfl) (V.move rfl rfl) rfl ?_
      refine RL.eff (Wanted.free rfl) (E.call rfl go25 rfl (rEnd_ok (by repeat (first | exact Pick.here | apply Pick.there)))) rfl ?_
      rintro _ _ ⟨rfl, rfl⟩
      rw [if_neg (by omega)]
      refine RL.val (Wanted.free rfl) (V.move rfl rfl) rfl ?_
      refine RL.cmpT (Wanted.free rfl) (V.bin rfl rfl rfl B.eql) rfl (by omega) ?_
      refine RL.val (Wanted.free rfl) (V.move rfl rfl) rfl ?_
      refine RL.eff (Wanted.yes rfl rfl rfl rfl) (E.call rfl go17 rfl (lives_ok)) rfl ?_
      rintro _ _ ⟨rfl, rfl⟩
      refine RL.val (Wanted.free rfl) (V.pick_true rfl rfl rfl) rfl ?_
      refine RL.val (Wanted.free rfl) (V.assign rfl rfl) rfl ?_
      refine RL.nil ?_
      refine SG.retE (Ret.r1 Try.func5 rfl (.tmp rfl)) ?_ ⟨rfl, rfl⟩
      repeat (first | exact Ent.refl _ | (apply Ent.cons; (· repeat (first | exact Pick.here | (refine Pick.sl ?_; (· repeat (first | exact List.Mem.head _ | assumption | apply List.Mem.tail))) | apply Pick.there))) | (refine Ent.trans (Ent.drop _ _) ?_))
  · skip
    refine RL.val (Wanted.free rfl) (V.move rfl rfl) rfl ?_
    refine RL.skip (Wanted.no rfl rfl rfl rfl rfl) rfl ?_
    refine RL.skip (Wanted.no rfl rfl rfl rfl rfl) rfl ?_
    refine RL.val (Wanted.free rfl) (V.pick_false rfl rfl rfl) rfl ?_
    refine RL.nil ?_
    refine SG.cond_false rfl ?_
    refine SG.exit rfl ?_
    refine SG.seq ?_
    refine SG.region ?_
    refine RL.val (Wanted.free rfl) (V.move rfl rfl) rfl ?_
    refine RL.eff (Wanted.free rfl) (E.call rfl go25 rfl (rEnd_ok (by repeat (first | exact Pick.here | apply Pick.there)))) rfl ?_
    rintro _ _ ⟨rfl, rfl⟩
    rw [if_neg (by omega)]
    refine RL.val (Wanted.free rfl) (V.move rfl rfl) rfl ?_
    refine RL.cmpT (Wanted.free rfl) (V.bin rfl rfl rfl B.eql) rfl (by omega) ?_
    refine RL.val (Wanted.free rfl) (V.move rfl rfl) rfl ?_
    refine RL.eff (Wanted.yes rfl rfl rfl rfl) (E.call rfl go17 rfl (lives_ok)) rfl ?_
    rintro _ _ ⟨rfl, rfl⟩
    refine RL.val (Wanted.free rfl) (V.pick_true rfl rfl rfl) rfl ?_
    refine RL.val (Wanted.free rfl) (V.assign rfl rfl) rfl ?_
    refine RL.nil ?_
    refine SG.retE (Ret.r1 Try.func5 rfl (.tmp rfl)) ?_ ⟨rfl, rfl⟩
    repeat (first | exact Ent.refl _ | (apply Ent.cons; (· repeat (first | exact Pick.here | (refine Pick.sl ?_; (· repeat (first | exact List.Mem.head _ | assumption | apply List.Mem.tail))) | apply Pick.there))) | (refine Ent.trans (Ent.drop _ _) ?_))

end Go.Proofs.Ytdccpcnahbhfcaa
