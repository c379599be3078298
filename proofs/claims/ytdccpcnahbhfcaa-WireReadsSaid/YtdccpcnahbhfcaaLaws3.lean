/- What a cut leaves; that no encoding begins another. -/
import Derived.Test.YtdccpcnahbhfcaaLaws2
import Derived.Test.YtdccpcnahbhfcaaPlain4
namespace Go.Proofs.Ytdccpcnahbhfcaa
open Go.Wk Go.Wire


theorem sameV_of_only {a b : Val} (hk : a.kind = b.kind) (h : onlyV a = onlyV b) : sameV a b = true := by
  unfold onlyV at h
  rw [← hk] at h
  unfold sameV
  rcases kinds a.kind with hk | hk | hk | hk | ⟨h0, h1, h2, h3⟩
  · rw [bk0 hk, bk0 hk] at h; rw [bk0 hk]; simpa [zeroV] using h
  · rw [bk1 hk, bk1 hk] at h; rw [bk1 hk]; simpa [zeroV] using h
  · rw [bk2 hk, bk2 hk] at h; rw [bk2 hk]; simpa [zeroV] using h
  · rw [bk3 hk, bk3 hk] at h; rw [bk3 hk]; simpa [zeroV] using h
  · rw [bk4 h0 h1 h2 h3, bk4 h0 h1 h2 h3] at h; rw [bk4 h0 h1 h2 h3]; simpa [zeroV] using h
theorem enc_of_same {a b : Val} (hk : a.kind = b.kind) (h : sameV a b = true) : encV a = encV b := by
  unfold sameV at h
  unfold encV
  rw [← hk]
  rcases kinds a.kind with hk | hk | hk | hk | ⟨h0, h1, h2, h3⟩
  · rw [bk0 hk] at h; rw [bk0 hk, bk0 hk]; rw [of_decide_eq_true h]
  · rw [bk1 hk] at h; rw [bk1 hk, bk1 hk]; rw [of_decide_eq_true h]
  · rw [bk2 hk] at h; rw [bk2 hk, bk2 hk]; rw [of_decide_eq_true h]
  · rw [bk3 hk] at h; rw [bk3 hk, bk3 hk]; rw [of_decide_eq_true h]
  · rw [bk4 h0 h1 h2 h3] at h; rw [bk4 h0 h1 h2 h3, bk4 h0 h1 h2 h3]; rw [of_decide_eq_true h]
theorem same_of_prefix {a b : Val} {r : List UInt8} (ha : a.small) (hb : b.small) (hk : a.kind = b.kind) (h : encV b = encV a ++ r) : sameV a b = true := by
  have h1 := rdV_enc ha r
  have h2 := rdV_enc hb []
  rw [List.append_nil, h, ← hk, h1] at h2
  simp only [Prod.mk.injEq] at h2
  exact sameV_of_only hk h2.2.2
theorem sameV_symm {a b : Val} (hk : a.kind = b.kind) (h : sameV a b = true) : sameV b a = true := by
  unfold sameV at *
  rw [← hk]
  rcases kinds a.kind with hk | hk | hk | hk | ⟨h0, h1, h2, h3⟩
  · rw [bk0 hk] at *; rw [of_decide_eq_true h]; simp
  · rw [bk1 hk] at *; rw [of_decide_eq_true h]; simp
  · rw [bk2 hk] at *; rw [of_decide_eq_true h]; simp
  · rw [bk3 hk] at *; rw [of_decide_eq_true h]; simp
  · rw [bk4 h0 h1 h2 h3] at *; rw [of_decide_eq_true h]; simp
theorem prefix_free {a b : Val} {n : Nat} (ha : a.small) (hb : b.small) (hk : a.kind = b.kind) (h : ¬ sameV a b = true) (hn : n = min (encV a).length (encV b).length) : ¬ (encV a).take n = (encV b).take n := fun e => by
  apply h
  by_cases hl : (encV a).length ≤ (encV b).length
  · rw [hn, Nat.min_eq_left hl, List.take_length] at e
    exact same_of_prefix ha hb hk (r := (encV b).drop (encV a).length) (by rw [e, List.length_take, Nat.min_eq_left hl]; exact (List.take_append_drop _ _).symm)
  · rw [hn, Nat.min_eq_right (by omega), List.take_length] at e
    exact sameV_symm hk.symm (same_of_prefix hb ha hk.symm (r := (encV a).drop (encV b).length) (by rw [← e, List.length_take, Nat.min_eq_left (by omega)]; exact (List.take_append_drop _ _).symm))
theorem rdV_err {k : UInt8} {most e : Int} {l : List UInt8} (h : e ≠ 0) : rdV k most l e = (l, e, zeroV k) := by
  rcases kinds k with hk | hk | hk | hk | ⟨h0, h1, h2, h3⟩
  · exact rdV0 hk (rdU_err h)
  · exact rdV1 hk (rdI_err h)
  · exact rdV2 hk (rdB_err h)
  · exact rdV3 hk (rdS_errE h)
  · exact rdV4 h0 h1 h2 h3 (rdIs_errE h)
theorem rdV_len {k : UInt8} {most e e' : Int} {l l' : List UInt8} {w : Val} (h : rdV k most l e = (l', e', w)) : l'.length ≤ l.length := by
  rcases kinds k with hk | hk | hk | hk | ⟨h0, h1, h2, h3⟩
  · rw [rdV0 hk rfl] at h; cases h; exact rdU_len rfl
  · rw [rdV1 hk rfl] at h; cases h; exact rdI_len rfl
  · rw [rdV2 hk rfl] at h; cases h; exact rdB_len rfl
  · rw [rdV3 hk rfl] at h; cases h; exact rdS_len rfl
  · rw [rdV4 h0 h1 h2 h3 rfl] at h; cases h; exact rdIs_len rfl
theorem rdV_kind {k : UInt8} {most e e' : Int} {l l' : List UInt8} {w : Val} (h : rdV k most l e = (l', e', w)) : w.kind = k := by
  rcases kinds k with hk | hk | hk | hk | ⟨h0, h1, h2, h3⟩
  · rw [rdV0 hk rfl] at h; cases h; rfl
  · rw [rdV1 hk rfl] at h; cases h; rfl
  · rw [rdV2 hk rfl] at h; cases h; rfl
  · rw [rdV3 hk rfl] at h; cases h; rfl
  · rw [rdV4 h0 h1 h2 h3 rfl] at h; cases h; rfl
theorem rdV_cut {v : Val} {k : Nat} (h : v.small) (hk : k < (encV v).length) : ∃ l' w, rdV v.kind 20 ((encV v).take k) 0 = (l', 6, w) := by
  obtain ⟨⟨hn1, hn2⟩, hs, hl⟩ := h
  unfold encV at *
  rcases kinds v.kind with hv | hv | hv | hv | ⟨h0, h1, h2, h3⟩
  · rw [bk0 hv] at *; exact ⟨_, _, rdV0 hv (rdU_cut hk)⟩
  · rw [bk1 hv] at *; exact ⟨_, _, rdV1 hv (rdI_cut hk)⟩
  · rw [bk2 hv] at *; exact ⟨_, _, rdV2 hv (rdB_cut hk)⟩
  · rw [bk3 hv] at *; obtain ⟨l', hr⟩ := rdS_cut (most := 20) (by omega) (by decide) hk; exact ⟨_, _, rdV3 hv hr⟩
  · rw [bk4 h0 h1 h2 h3] at *; obtain ⟨l', hr⟩ := rdIs_cut (most := 20) (by omega) (by decide) hn2.2 hk; exact ⟨_, _, rdV4 h0 h1 h2 h3 hr⟩
/-- What is left of values that were cut: a proper part of them, or the error. -/
def CutInv (fv : List Val) (i : Nat) (l : List UInt8) (e : Int) : Prop := l.length ≤ 1000000 ∧ ((e = 0 ∧ ∃ k, k < (encVs (fv.drop i)).length ∧ l = (encVs (fv.drop i)).take k) ∨ e = 6)
theorem cut_step {fv : List Val} {i : Nat} {l l' : List UInt8} {e e' : Int} {w : Val} (hi : i < fv.length) (hs : fv[i].small) (h : CutInv fv i l e) (hr : rdV fv[i].kind 20 l e = (l', e', w)) : CutInv fv (i + 1) l' e' ∧ (e ≠ 0 → w = zeroV fv[i].kind) := by
  have hl := rdV_len hr
  obtain ⟨hb, ⟨rfl, k, hk, rfl⟩ | rfl⟩ := h
  · refine ⟨⟨by omega, ?_⟩, fun h => absurd rfl h⟩
    rw [encVs_drop hi] at hk hr
    rw [List.length_append] at hk
    rcases take_app (encV fv[i]) (encVs (fv.drop (i + 1))) k with ⟨h1, e⟩ | ⟨h1, e⟩
    · rw [e] at hr
      obtain ⟨l2, w2, hr2⟩ := rdV_cut hs h1
      rw [hr2] at hr; cases hr
      exact .inr rfl
    · rw [e, rdV_enc hs] at hr
      cases hr
      exact .inl ⟨rfl, k - (encV fv[i]).length, by omega, rfl⟩
  · rw [rdV_err (by decide)] at hr
    cases hr
    exact ⟨⟨hb, .inr rfl⟩, fun _ => rfl⟩
theorem cut_end {fv : List Val} {l : List UInt8} {e : Int} (h : CutInv fv fv.length l e) : e = 6 := by
  obtain ⟨_, ⟨_, k, hk, _⟩ | h⟩ := h
  · simp [encVs] at hk
  · exact h

set_option maxRecDepth 100000 in
theorem cut_law {κ : World} {L : List Assn} {a : Option Addr} {n0 c : Nat} {l : List Val} (hm : Sl RVal a n0 c l ∈ L) (n : Int) (hn1 : -9223372036854775808 ≤ n) (hn2 : n ≤ 9223372036854775807) :
    Ctr Try.prog 8 #[.slice a n0 c, vI n] κ L (fun v M => v = vB true ∧ M = L) := by
  refine Ctr.enter (vs := [.slice a n0 c, vI n]) (m := 67) Try.func8 rfl rfl rfl ?_
  refine SG.fact (fun w hs => Sl.vok hs hm) fun hvok => ?_
  have hsm := fewV_small hvok
  have h12 : (fewV l).length ≤ 12 := fewV_length
  refine SG.seq ?_
  refine SG.region ?_
  refine RL.val (Wanted.free rfl) (V.assign rfl rfl) rfl ?_
  refine RL.nil ?_
  refine SG.seq ?_
  refine SG.region ?_
  refine RL.val (Wanted.free rfl) (V.move rfl rfl) rfl ?_
  refine RL.eff (Wanted.free rfl) (E.call rfl go11 rfl (few2_ok (by repeat (first | exact List.Mem.head _ | assumption | apply List.Mem.tail)))) rfl ?_
  rintro _ _ ⟨a5, k5, c5, rfl, rfl⟩
  refine RL.publish (a := a5) (by repeat (first | exact Pick.here | apply Pick.there)) ?_
  refine RL.val (Wanted.free rfl) (V.assign rfl rfl) rfl ?_
  refine RL.nil ?_
  refine SG.seq ?_
  refine SG.region ?_
  refine RL.val (Wanted.free rfl) (V.move rfl rfl) rfl ?_
  refine RL.eff (Wanted.free rfl) (E.call rfl go16 rfl (written_ok (by repeat (first | exact List.Mem.head _ | assumption | apply List.Mem.tail)) hsm (by omega))) rfl ?_
  rintro _ _ ⟨a6, k6, c6, rfl, rfl⟩
  have hlen := encVs_length hsm
  refine RL.publish (a := a6) (by repeat (first | exact Pick.here | apply Pick.there)) ?_
  refine RL.sl (a := a6) (l := encVs (fewV l)) (by repeat (first | exact List.Mem.head _ | assumption | apply List.Mem.tail)) fun h6 _ _ => ?_
  subst h6
  refine RL.val (Wanted.free rfl) (V.assign rfl rfl) rfl ?_
  refine RL.nil ?_
  refine SG.seq ?_
  refine SG.seq ?_
  refine SG.region ?_
  refine RL.val (Wanted.free rfl) (V.move rfl rfl) rfl ?_
  refine RL.val (Wanted.free rfl) (V.len rfl rfl el23.under rfl) rfl ?_
  refine RL.cmp (Wanted.free rfl) (V.bin rfl rfl rfl B.eql) rfl (fun h10 => ?_) (fun h10 => ?_)
  · skip
    refine RL.nil ?_
    refine SG.cond_true rfl ?_
    refine SG.seq ?_
    refine SG.region ?_
    refine RL.eff (Wanted.free rfl) (E.call rfl go17 rfl (lives_ok)) rfl ?_
    rintro _ _ ⟨rfl, rfl⟩
    refine RL.val (Wanted.free rfl) (V.assign rfl rfl) rfl ?_
    refine RL.nil ?_
    refine SG.retE (Ret.r1 Try.func8 rfl (.tmp rfl)) ?_ ⟨rfl, rfl⟩
    repeat (first | exact Ent.refl _ | (apply Ent.cons; (· repeat (first | exact Pick.here | (refine Pick.sl ?_; (· repeat (first | exact List.Mem.head _ | assumption | apply List.Mem.tail))) | apply Pick.there))) | (refine Ent.trans (Ent.drop _ _) ?_))
  · skip
    refine RL.nil ?_
    refine SG.cond_false rfl ?_
    refine SG.skip ?_
    refine SG.seq ?_
    have hpos : 0 < (encVs (fewV l)).length := by omega
    obtain ⟨hb1, hb2⟩ := aroundV_bd (n := n) (most := ((encVs (fewV l)).length : Int)) (by omega)
    obtain ⟨kk, hk0⟩ : ∃ kk : Nat, aroundV n ((encVs (fewV l)).length : Int) = (kk : Int) := ⟨_, (Int.toNat_of_nonneg hb1).symm⟩
    have hkk : kk < (encVs (fewV l)).length := by omega
    refine SG.region ?_
    refine RL.val (Wanted.free rfl) (V.move rfl rfl) rfl ?_
    refine RL.val (Wanted.free rfl) (V.move rfl rfl) rfl ?_
    refine RL.val (Wanted.free rfl) (V.move rfl rfl) rfl ?_
    refine RL.val (Wanted.free rfl) (V.len rfl rfl el23.under rfl) rfl ?_
    refine RL.eff (Wanted.free rfl) (E.call rfl go23 rfl (around_ok _ _ hn1 hn2 (by omega))) rfl ?_
    rintro _ _ ⟨rfl, rfl⟩
    rw [hk0]
    refine RL.eff (Wanted.free rfl) (E.slice (lo := 0) (hi := kk) rfl el23.slice rfl (by repeat (first | exact List.Mem.head _ | assumption | apply List.Mem.tail)) rfl ⟨_, _, rfl, (by first | rfl | omega)⟩ (by omega) (by omega)) rfl ?_
    intro _ _ hK18
    try rw [List.drop_zero] at hK18
    iterate 2 (try rw [Nat.sub_zero] at hK18)
    obtain ⟨a18, rfl, rfl⟩ := hK18
    refine RL.eff (Wanted.free rfl) (E.call rfl go19 rfl (newReader_sl (by repeat (first | exact List.Mem.head _ | assumption | apply List.Mem.tail)) (by simp; omega))) rfl ?_
    rintro _ _ ⟨br, rfl, rfl⟩
    refine RL.val (Wanted.free rfl) (V.assign rfl rfl) rfl ?_
    refine RL.nil ?_
    refine SG.seq ?_
    refine SG.seq ?_
    refine SG.region ?_
    refine RL.val (Wanted.free rfl) (V.move rfl rfl) rfl ?_
    refine RL.cmpF (Wanted.free rfl) (V.eqlPtrNil rfl up42 rfl rfl) rfl (by simp) ?_
    refine RL.nil ?_
    refine SG.cond_false rfl ?_
    refine SG.skip ?_
    refine SG.seq ?_
    refine SG.seq ?_
    refine SG.region ?_
    refine RL.val (Wanted.free rfl) (V.assign rfl rfl) rfl ?_
    refine RL.nil ?_
    refine SG.block ?_
    have hci : CutInv (fewV l) 0 ((encVs (fewV l)).take kk) 0 := ⟨by rw [List.length_take]; omega, .inl ⟨rfl, kk, hkk, rfl⟩⟩
    generalize (encVs (fewV l)).take kk = l0 at *
    generalize fewV l = fv at *
    refine SG.sl (T := RVal) (l := fv) (a := a5) (by repeat (first | exact List.Mem.head _ | assumption | apply List.Mem.tail)) fun hfl _ _ => ?_
    subst hfl
    refine SG.weaken (SG.loop2 (fun m al M => ∃ (i : Nat) (l2 : List UInt8) (e2 : Int), CutInv fv i l2 e2 ∧ i ≤ fv.length ∧ m = fv.length - i ∧ al = [(5, .slice a5 fv.length c5), (7, ptr br 0), (8, vI i)] ∧ M = Rdr br l2 e2 :: Sl RVal a5 fv.length c5 fv :: L) (m0 := _) ⟨0, l0, 0, hci, by omega, rfl, rfl, rfl⟩ ?_) ?_ ?_
    rotate_left
    · repeat (first | exact EnvLe.nil _ | refine EnvLe.cons rfl ?_)
    · repeat (first | exact Ent.refl _ | (apply Ent.cons; (· repeat (first | exact Pick.here | (refine Pick.sl ?_; (· repeat (first | exact List.Mem.head _ | assumption | apply List.Mem.tail))) | apply Pick.there))) | (refine Ent.trans (Ent.drop _ _) ?_))
    rintro _ _ _ ⟨i, l2, e2, hinv, hi, rfl, rfl, rfl⟩ ih0
    refine SG.seq ?_
    refine SG.seq ?_
    refine SG.region ?_
    refine RL.val (Wanted.free rfl) (V.move rfl rfl) rfl ?_
    refine RL.val (Wanted.free rfl) (V.move rfl rfl) rfl ?_
    refine RL.val (Wanted.free rfl) (V.len rfl rfl el22.under rfl) rfl ?_
    refine RL.cmp (Wanted.free rfl) (V.bin rfl rfl rfl B.lss) rfl (fun h26 => ?_) (fun h26 => ?_)
    · skip
      refine RL.nil ?_
      refine SG.cond_true rfl ?_
      refine SG.skip ?_
      refine SG.seq ?_
      refine SG.block ?_
      refine SG.seq ?_
      refine SG.region ?_
      refine RL.val (Wanted.free rfl) (V.move rfl rfl) rfl ?_
      refine RL.val (Wanted.free rfl) (V.nilCheck rfl rfl) rfl ?_
      refine RL.val (Wanted.free rfl) (V.fieldAddr rfl rfl fo50_0) rfl ?_
      refine RL.eff (Wanted.free rfl) (E.call rfl go22 rfl (rErr_ok (by repeat (first | exact Pick.here | apply Pick.there)))) rfl ?_
      rintro _ _ ⟨rfl, rfl⟩
      refine RL.val (Wanted.free rfl) (V.assign rfl rfl) rfl ?_
      refine RL.nil ?_
      refine SG.seq ?_
      refine SG.elem (T := RVal) (j := i) (l := fv) (by repeat (first | exact List.Mem.head _ | assumption | apply List.Mem.tail)) (List.getElem?_eq_getElem (by omega)) fun us hus => ?_
      refine SG.openVal (by repeat (first | exact Pick.here | apply Pick.there)) fun a1 m1 c1 hus2 hok => ?_
      subst hus2
      have hs1 := hsm fv[i] (List.getElem_mem _)
      refine SG.region ?_
      refine RL.val (Wanted.free rfl) (V.move rfl rfl) rfl ?_
      refine RL.val (Wanted.free rfl) (V.move rfl rfl) rfl ?_
      refine RL.val (Wanted.free rfl) (V.move rfl rfl) rfl ?_
      refine RL.val (Wanted.free rfl) (V.indexSl rfl el22.slice rfl rfl (by repeat (first | exact List.Mem.head _ | assumption | apply List.Mem.tail)) (by first | rfl | omega) (by omega)) rfl ?_
      refine RL.val (Wanted.free rfl) (V.loadAt rfl ag34 rfl (by repeat (first | exact List.Mem.head _ | assumption | apply List.Mem.tail)) rfl) rfl ?_
      refine RL.eff (Wanted.free rfl) (E.call rfl go24 rfl (read_ok _ 20 (by repeat (first | exact Pick.here | apply Pick.there)) (by decide) (by decide) hinv.1)) rfl ?_
      rintro _ _ ⟨l3, e3, w, a2, m2, c2, hr, rfl, rfl⟩
      have hst := cut_step (by omega) hs1 hinv hr
      have hwk := rdV_kind hr
      refine RL.eff (Wanted.free rfl) (E.alloc rfl ze34) rfl ?_
      rintro _ _ ⟨b38, rfl, rfl⟩
      refine RL.eff (Wanted.free rfl) (E.storeAgg rfl rfl rfl rfl sz34 (by repeat (first | exact Pick.here | apply Pick.there)) (by first | (simp [Value.oneCell']; done) | (simp [setAt, Value.oneCell']; done)) (by first | (simp; done) | (simp [setAt]; done))) rfl ?_
      rintro _ _ rfl
      refine RL.nil ?_
      refine SG.seq ?_
      refine SG.region ?_
      refine RL.val (Wanted.free rfl) (V.move rfl rfl) rfl ?_
      refine RL.cmp (Wanted.free rfl) (V.bin rfl rfl rfl B.neq) rfl (fun h41 => ?_) (fun h41 => ?_)
      · skip
        refine RL.val (Wanted.free rfl) (V.move rfl rfl) rfl ?_
        refine RL.val (Wanted.yes rfl rfl rfl rfl) (V.loadAgg (us := [v8 w.kind, v64 w.u, vI w.n, vB w.b, vS w.s, .slice a2 m2 c2]) rfl ag34 rfl (by repeat (first | exact Pick.here | apply Pick.there)) rfl rfl) rfl ?_
        refine RL.val (Wanted.yes rfl rfl rfl rfl) (V.fieldAddr rfl rfl fo34_0) rfl ?_
        refine RL.val (Wanted.yes rfl rfl rfl rfl) (V.load rfl on5 rfl (by repeat (first | exact Pick.here | apply Pick.there)) rfl) rfl ?_
        refine RL.val (Wanted.yes rfl rfl rfl rfl) (V.buildS [(0, _)] rfl bs34 (by exact ⟨rfl, ⟨_, rfl, rfl⟩, trivial⟩) rfl) rfl ?_
        refine RL.ent (Sl.none (T := RI)) ?_
        refine RL.eff (Wanted.yes rfl rfl rfl rfl) (E.call rfl go18 rfl (same_true w (zeroV w.kind) (by repeat (first | exact List.Mem.head _ | assumption | apply List.Mem.tail)) (a' := none) (m' := 0) (c' := 0) (by repeat (first | exact List.Mem.head _ | assumption | apply List.Mem.tail)) (by rw [hst.2 (by omega)]; exact sameV_refl _))) rfl ?_
        rintro _ _ ⟨rfl, rfl⟩
        refine RL.val (Wanted.yes rfl rfl rfl rfl) (V.not rfl rfl) rfl ?_
        refine RL.val (Wanted.free rfl) (V.pick_true rfl rfl rfl) rfl ?_
        refine RL.nil ?_
        refine SG.cond_false rfl ?_
        refine SG.skip ?_
        refine SG.inBlock ?_
        refine SG.region ?_
        refine RL.val (Wanted.free rfl) (V.move rfl rfl) rfl ?_
        refine RL.val (Wanted.free rfl) (V.bin rfl rfl rfl (B.addI (by omega) (by omega))) rfl ?_
        refine RL.val (Wanted.free rfl) (V.assign rfl rfl) rfl ?_
        refine RL.nil ?_
        refine SG.weaken (ih0 _ _ _ ?_ ⟨i + 1, l3, e3, hst.1, by omega, rfl, rfl, rfl⟩) ?_ ?_
        · omega
        · repeat (first | exact EnvLe.nil _ | refine EnvLe.cons rfl ?_)
        · repeat (first | exact Ent.refl _ | (apply Ent.cons; (· repeat (first | exact Pick.here | (refine Pick.sl ?_; (· repeat (first | exact List.Mem.head _ | assumption | apply List.Mem.tail))) | apply Pick.there))) | (refine Ent.trans (Ent.drop _ _) ?_))
      · skip
        refine RL.val (Wanted.free rfl) (V.move rfl rfl) rfl ?_
        refine RL.skip (Wanted.no rfl rfl rfl rfl rfl) rfl ?_
        refine RL.skip (Wanted.no rfl rfl rfl rfl rfl) rfl ?_
        refine RL.skip (Wanted.no rfl rfl rfl rfl rfl) rfl ?_
        refine RL.skip (Wanted.no rfl rfl rfl rfl rfl) rfl ?_
        refine RL.ent (Sl.none (T := RI)) ?_
        refine RL.skip (Wanted.no rfl rfl rfl rfl rfl) rfl ?_
        refine RL.skip (Wanted.no rfl rfl rfl rfl rfl) rfl ?_
        refine RL.val (Wanted.free rfl) (V.pick_false rfl rfl rfl) rfl ?_
        refine RL.nil ?_
        refine SG.cond_false rfl ?_
        refine SG.skip ?_
        refine SG.inBlock ?_
        refine SG.region ?_
        refine RL.val (Wanted.free rfl) (V.move rfl rfl) rfl ?_
        refine RL.val (Wanted.free rfl) (V.bin rfl rfl rfl (B.addI (by omega) (by omega))) rfl ?_
        refine RL.val (Wanted.free rfl) (V.assign rfl rfl) rfl ?_
        refine RL.nil ?_
        refine SG.weaken (ih0 _ _ _ ?_ ⟨i + 1, l3, e3, hst.1, by omega, rfl, rfl, rfl⟩) ?_ ?_
        · omega
        · repeat (first | exact EnvLe.nil _ | refine EnvLe.cons rfl ?_)
        · repeat (first | exact Ent.refl _ | (apply Ent.cons; (· repeat (first | exact Pick.here | (refine Pick.sl ?_; (· repeat (first | exact List.Mem.head _ | assumption | apply List.Mem.tail))) | apply Pick.there))) | (refine Ent.trans (Ent.drop _ _) ?_))
    · skip
      refine RL.nil ?_
      refine SG.cond_false rfl ?_
      refine SG.exit rfl ?_
      refine SG.seq ?_
      obtain rfl : i = fv.length := by omega
      have he6 := cut_end hinv
      subst he6
      refine SG.region ?_
      refine RL.val (Wanted.free rfl) (V.move rfl rfl) rfl ?_
      refine RL.val (Wanted.free rfl) (V.nilCheck rfl rfl) rfl ?_
      refine RL.val (Wanted.free rfl) (V.fieldAddr rfl rfl fo50_0) rfl ?_
      refine RL.eff (Wanted.free rfl) (E.call rfl go22 rfl (rErr_ok (by repeat (first | exact Pick.here | apply Pick.there)))) rfl ?_
      rintro _ _ ⟨rfl, rfl⟩
      refine RL.cmpT (Wanted.free rfl) (V.bin rfl rfl rfl B.eql) rfl (by omega) ?_
      refine RL.val (Wanted.free rfl) (V.move rfl rfl) rfl ?_
      refine RL.val (Wanted.yes rfl rfl rfl rfl) (V.move rfl rfl) rfl ?_
      refine RL.eff (Wanted.yes rfl rfl rfl rfl) (E.call rfl go25 rfl (rEnd_ok (by repeat (first | exact Pick.here | apply Pick.there)))) rfl ?_
      rintro _ _ ⟨rfl, rfl⟩
      refine RL.cmpT (Wanted.yes rfl rfl rfl rfl) (V.bin rfl rfl rfl B.eql) rfl (by rw [if_neg (by simp)]) ?_
      refine RL.val (Wanted.free rfl) (V.pick_true rfl rfl rfl) rfl ?_
      refine RL.val (Wanted.free rfl) (V.move rfl rfl) rfl ?_
      refine RL.eff (Wanted.yes rfl rfl rfl rfl) (E.call rfl go17 rfl (lives_ok)) rfl ?_
      rintro _ _ ⟨rfl, rfl⟩
      refine RL.val (Wanted.free rfl) (V.pick_true rfl rfl rfl) rfl ?_
      refine RL.val (Wanted.free rfl) (V.assign rfl rfl) rfl ?_
      refine RL.nil ?_
      refine SG.retE (Ret.r1 Try.func8 rfl (.tmp rfl)) ?_ ⟨rfl, rfl⟩
      repeat (first | exact Ent.refl _ | (apply Ent.cons; (· repeat (first | exact Pick.here | (refine Pick.sl ?_; (· repeat (first | exact List.Mem.head _ | assumption | apply List.Mem.tail))) | apply Pick.there))) | (refine Ent.trans (Ent.drop _ _) ?_))

end Go.Proofs.Ytdccpcnahbhfcaa
