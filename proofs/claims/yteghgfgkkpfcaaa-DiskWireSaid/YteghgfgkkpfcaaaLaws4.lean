/- The statements on restarts and clones. -/
import Derived.Test.YteghgfgkkpfcaaaLaws3
import Derived.Test.YteghgfgkkpfcaaaMore2
namespace Go.Proofs.Yteghgfgkkpfcaaa
open Go.Wk Go.Dsk

theorem has_rd {κ : World} {L : List Assn} {a : Option Addr} {m c : Nat} {l : List Int} (x : Int) (h : Seen (SlP RI a m c l) L) : Ctr Try.prog 36 #[.slice a m c, vI x] κ L (fun v M => v = vB (decide (x ∈ l)) ∧ M = L) :=
  Ctr.read0 (Rs := [SlP RI a m c l]) (by simp [h]) fun _ hL => has_ok x (hL _ (by simp))

set_option maxRecDepth 100000 in
theorem order_law {κ : World} {L : List Assn} {a at_ : Option Addr} {n0 c nt ct : Nat} {l : List OpD} {ts : List Torn} (n : Int) (h1 : -9223372036854775808 ≤ n) (h2 : n ≤ 9223372036854775807) (hm : Sl ROp a n0 c l ∈ L) (hmt : Sl RTorn at_ nt ct ts ∈ L) :
    Ctr Try.prog 7 #[vI n, .slice a n0 c, .slice at_ nt ct] κ L (fun v M => v = vB true ∧ M = L) := by
  refine Ctr.enter (vs := [vI n, .slice a n0 c, .slice at_ nt ct]) (m := 108) Try.func7 rfl rfl rfl ?_
  refine SG.sl hmt fun htl htlc htc => ?_
  subst htl
  refine SG.fact (fun w hs => Sep.slOk hs hmt) fun hok => ?_
  refine SG.seq ?_
  refine SG.region ?_
  refine RL.val (Wanted.free rfl) (V.assign rfl rfl) rfl ?_
  refine RL.nil ?_
  refine SG.seq ?_
  refine SG.region ?_
  refine RL.val (Wanted.free rfl) (V.move rfl rfl) rfl ?_
  refine RL.val (Wanted.free rfl) (V.move rfl rfl) rfl ?_
  refine RL.eff (Wanted.free rfl) (E.call rfl go35 rfl (written_ok n h1 h2 hm)) rfl ?_
  rintro _ _ ⟨b, D, rfl, hD, hC, h16, rfl⟩
  refine RL.val (Wanted.free rfl) (V.assign rfl rfl) rfl ?_
  refine RL.nil ?_
  refine SG.seq ?_
  refine SG.seq ?_
  refine SG.region ?_
  refine RL.val (Wanted.free rfl) (V.move rfl rfl) rfl ?_
  refine RL.cmpF (Wanted.free rfl) (V.eqlPtrNil rfl up23 rfl rfl) rfl (by simp) ?_
  refine RL.nil ?_
  refine SG.cond_false rfl ?_
  refine SG.skip ?_
  refine SG.seq ?_
  refine SG.region ?_
  refine RL.val (Wanted.free rfl) (V.assign rfl rfl) rfl ?_
  refine RL.nil ?_
  refine SG.seq ?_
  refine SG.region ?_
  refine RL.val (Wanted.free rfl) (V.assign rfl rfl) rfl ?_
  refine RL.nil ?_
  refine SG.seq ?_
  refine SG.seq ?_
  refine SG.region ?_
  refine RL.val (Wanted.free rfl) (V.assign rfl rfl) rfl ?_
  refine RL.nil ?_
  refine SG.block ?_
  refine SG.ent (Buf.nil (T := RI) (e := 3)) ?_
  refine SG.ent (Buf.nil (T := RTorn) (e := 67)) ?_
  refine SG.weaken (SG.loop2 (fun m al M => ∃ (i : Nat) (a8 a9 : Option Addr) (m8 m9 c8 c9 : Nat), i ≤ ts.length ∧ i ≤ 40 ∧ m = 40 - i ∧ al = [(2, .slice at_ ts.length ct), (7, ptr b 0), (8, .slice a8 m8 c8), (9, .slice a9 m9 c9), (10, vI i)] ∧ M = Buf RTorn 67 a8 m8 c8 (dd (ts.take i)) :: Buf RI 3 a9 m9 c9 ((dd (ts.take i)).map (·.s)) :: Dsk b D :: L) (m0 := _) ⟨0, none, none, 0, 0, 0, 0, by omega, by omega, rfl, rfl, rfl⟩ ?_) ?_ ?_
  rotate_left
  · repeat (first | exact EnvLe.nil _ | refine EnvLe.cons rfl ?_)
  · repeat (first | exact Ent.refl _ | (apply Ent.cons; (· repeat (first | exact Pick.here | (refine Pick.sl ?_; (· repeat (first | exact List.Mem.head _ | assumption | apply List.Mem.tail))) | apply Pick.there))) | (refine Ent.trans (Ent.drop _ _) ?_))
  rintro _ _ _ ⟨i, a8, a9, m8, m9, c8, c9, hi, hi40, rfl, rfl, rfl⟩ ih0
  have hlen := hD.len
  refine SG.buf (T := RTorn) (a := a8) (by repeat (first | exact Pick.here | assumption | apply Pick.there)) fun hm8 _ _ => ?_
  refine SG.buf (T := RI) (a := a9) (by repeat (first | exact Pick.here | assumption | apply Pick.there)) fun hm9 _ _ => ?_
  have hdl : (dd (ts.take i)).length ≤ 40 := Nat.le_trans (dd_length _) (by rw [List.length_take]; omega)
  rw [List.length_map] at hm9
  refine SG.seq ?_
  refine SG.seq ?_
  refine SG.region ?_
  refine RL.val (Wanted.free rfl) (V.move rfl rfl) rfl ?_
  refine RL.val (Wanted.free rfl) (V.move rfl rfl) rfl ?_
  refine RL.val (Wanted.free rfl) (V.len rfl rfl el33.under rfl) rfl ?_
  refine RL.cmp (Wanted.free rfl) (V.bin rfl rfl rfl B.lss) rfl (fun h13 => ?_) (fun h13 => ?_)
  · skip
    refine RL.val (Wanted.free rfl) (V.move rfl rfl) rfl ?_
    refine RL.val (Wanted.yes rfl rfl rfl rfl) (V.move rfl rfl) rfl ?_
    refine RL.cmp (Wanted.yes rfl rfl rfl rfl) (V.bin rfl rfl rfl B.lss) rfl (fun h16 => ?_) (fun h16 => ?_)
    · skip
      refine RL.val (Wanted.free rfl) (V.pick_true rfl rfl rfl) rfl ?_
      refine RL.nil ?_
      refine SG.cond_true rfl ?_
      refine SG.skip ?_
      refine SG.seq ?_
      refine SG.block ?_
      refine SG.seq ?_
      refine SG.elemDt (a := at_) (by repeat (first | exact List.Mem.head _ | assumption | apply List.Mem.tail)) (show ts[i]? = some ts[i] from List.getElem?_eq_getElem (by omega)) fun htok => ?_
      obtain ⟨to1, to2, to3⟩ := htok
      have htk : ts.take (i + 1) = ts.take i ++ [ts[i]] := by rw [List.take_add_one, List.getElem?_eq_getElem (by omega)]; rfl
      refine SG.region ?_
      refine RL.val (Wanted.free rfl) (V.move rfl rfl) rfl ?_
      refine RL.val (Wanted.free rfl) (V.move rfl rfl) rfl ?_
      refine RL.val (Wanted.free rfl) (V.move rfl rfl) rfl ?_
      refine RL.val (Wanted.free rfl) (V.indexSl (j := i) rfl el33.slice rfl rfl (by repeat (first | exact List.Mem.head _ | assumption | apply List.Mem.tail)) (by first | rfl | omega) (by omega)) rfl ?_
      refine RL.val (Wanted.free rfl) (V.fieldAt rfl rfl fo67_0 (by repeat (first | exact List.Mem.head _ | assumption | apply List.Mem.tail))) rfl ?_
      refine RL.val (Wanted.free rfl) (V.loadAtF rfl on3 rfl (by repeat (first | exact List.Mem.head _ | assumption | apply List.Mem.tail)) rfl) rfl ?_
      refine RL.eff (Wanted.free rfl) (E.call rfl go36 rfl (has_rd _ (by first | (apply Seen.sl; (· repeat (first | exact List.Mem.head _ | assumption | apply List.Mem.tail))) | (apply Seen.buf; (· repeat (first | exact Pick.here | apply Pick.there)))))) rfl ?_
      rintro _ _ ⟨rfl, rfl⟩
      refine RL.val (Wanted.free rfl) (V.not rfl rfl) rfl ?_
      refine RL.nil ?_
      refine SG.cond rfl (fun h24 => ?_) (fun h24 => ?_)
      · skip
        have hno : ¬ ts[i].s ∈ (dd (ts.take i)).map (·.s) := by simpa using h24
        refine SG.seq ?_
        refine SG.region ?_
        refine RL.val (Wanted.free rfl) (V.move rfl rfl) rfl ?_
        refine RL.val (Wanted.free rfl) (V.move rfl rfl) rfl ?_
        refine RL.val (Wanted.free rfl) (V.move rfl rfl) rfl ?_
        refine RL.val (Wanted.free rfl) (V.indexSl (j := i) rfl el33.slice rfl rfl (by repeat (first | exact List.Mem.head _ | assumption | apply List.Mem.tail)) (by first | rfl | omega) (by omega)) rfl ?_
        refine RL.val (Wanted.free rfl) (V.loadSlDt rfl ag67 rfl (by repeat (first | exact List.Mem.head _ | assumption | apply List.Mem.tail)) (List.getElem?_eq_getElem (by omega))) rfl ?_
        refine RL.eff (Wanted.free rfl) (E.lit1 [vI ts[i].s, vI ts[i].w, vI ts[i].b] rfl el33.slice ze67 rfl (by decide) (by decide) rfl rfl rfl) rfl ?_
        rintro _ _ ⟨b43, rfl, rfl⟩
        refine RL.eff (Wanted.free rfl) (E.append (T := RTorn) rfl rfl rfl el33 el33.noInt rfl rfl (by repeat (first | exact Pick.here | assumption | apply Pick.there)) (Src.litDt (y := ts[i]) (by repeat (first | exact Pick.here | assumption | apply Pick.there)) rfl ⟨to1, to2, to3⟩) (by first | omega | (simp; omega)) (by first | omega | (simp; omega))) rfl ?_
        intro _ _ hK31
        try rw [List.nil_append] at hK31
        try rw [Nat.zero_add] at hK31
        obtain ⟨a44, c44, rfl, rfl⟩ := hK31
        refine RL.val (Wanted.free rfl) (V.assign rfl rfl) rfl ?_
        refine RL.nil ?_
        refine SG.region ?_
        refine RL.val (Wanted.free rfl) (V.move rfl rfl) rfl ?_
        refine RL.val (Wanted.free rfl) (V.move rfl rfl) rfl ?_
        refine RL.val (Wanted.free rfl) (V.move rfl rfl) rfl ?_
        refine RL.val (Wanted.free rfl) (V.indexSl (j := i) rfl el33.slice rfl rfl (by repeat (first | exact List.Mem.head _ | assumption | apply List.Mem.tail)) (by first | rfl | omega) (by omega)) rfl ?_
        refine RL.val (Wanted.free rfl) (V.fieldAt rfl rfl fo67_0 (by repeat (first | exact List.Mem.head _ | assumption | apply List.Mem.tail))) rfl ?_
        refine RL.val (Wanted.free rfl) (V.loadAtF rfl on3 rfl (by repeat (first | exact List.Mem.head _ | assumption | apply List.Mem.tail)) rfl) rfl ?_
        refine RL.eff (Wanted.free rfl) (E.lit1 _ rfl el64.slice ze3 rfl (by decide) (by decide) rfl rfl rfl) rfl ?_
        rintro _ _ ⟨b39, rfl, rfl⟩
        refine RL.eff (Wanted.free rfl) (E.append (T := RI) rfl rfl rfl el64 el64.noInt rfl rfl (by repeat (first | exact Pick.here | assumption | apply Pick.there)) (Src.lit (x := ts[i].s) (by repeat (first | exact Pick.here | assumption | apply Pick.there)) (by first | trivial | assumption | omega)) (by first | omega | (simp; omega)) (by first | omega | (simp; omega))) rfl ?_
        intro _ _ hK40
        try rw [List.nil_append] at hK40
        try rw [Nat.zero_add] at hK40
        obtain ⟨a52, c52, rfl, rfl⟩ := hK40
        refine RL.val (Wanted.free rfl) (V.assign rfl rfl) rfl ?_
        refine RL.nil ?_
        refine SG.inBlock ?_
        refine SG.region ?_
        refine RL.val (Wanted.free rfl) (V.move rfl rfl) rfl ?_
        refine RL.val (Wanted.free rfl) (V.bin rfl rfl rfl (B.addI (by omega) (by omega))) rfl ?_
        refine RL.val (Wanted.free rfl) (V.assign rfl rfl) rfl ?_
        refine RL.nil ?_
        refine SG.weaken (ih0 _ _ _ ?_ ⟨i + 1, a44, a52, m8 + 1, m9 + 1, c44, c52, by omega, by omega, rfl, rfl, rfl⟩) ?_ ?_
        · omega
        · repeat (first | exact EnvLe.nil _ | refine EnvLe.cons rfl ?_)
        · rw [htk, dd_snoc, if_neg hno, List.map_append]
          repeat (first | exact Ent.refl _ | (apply Ent.cons; (· repeat (first | exact Pick.here | (refine Pick.sl ?_; (· repeat (first | exact List.Mem.head _ | assumption | apply List.Mem.tail))) | apply Pick.there))) | (refine Ent.trans (Ent.drop _ _) ?_))
      · skip
        have hyes : ts[i].s ∈ (dd (ts.take i)).map (·.s) := by simpa using h24
        refine SG.skip ?_
        refine SG.inBlock ?_
        refine SG.region ?_
        refine RL.val (Wanted.free rfl) (V.move rfl rfl) rfl ?_
        refine RL.val (Wanted.free rfl) (V.bin rfl rfl rfl (B.addI (by omega) (by omega))) rfl ?_
        refine RL.val (Wanted.free rfl) (V.assign rfl rfl) rfl ?_
        refine RL.nil ?_
        refine SG.weaken (ih0 _ _ _ ?_ ⟨i + 1, a8, a9, m8, m9, c8, c9, by omega, by omega, rfl, rfl, rfl⟩) ?_ ?_
        · omega
        · repeat (first | exact EnvLe.nil _ | refine EnvLe.cons rfl ?_)
        · rw [htk, dd_snoc, if_pos hyes]
          repeat (first | exact Ent.refl _ | (apply Ent.cons; (· repeat (first | exact Pick.here | (refine Pick.sl ?_; (· repeat (first | exact List.Mem.head _ | assumption | apply List.Mem.tail))) | apply Pick.there))) | (refine Ent.trans (Ent.drop _ _) ?_))
    · skip
      refine RL.val (Wanted.free rfl) (V.pick_true rfl rfl rfl) rfl ?_
      refine RL.nil ?_
      refine SG.cond_false rfl ?_
      refine SG.exit rfl ?_
      refine SG.seq ?_
      have hts : ts.take i = ts.take 40 := by rw [List.take_eq_take_iff]; omega
      rw [hts] at hm8 hdl
      rw [hts]
      have hdf := dd_first (ts.take 40)
      have hbf : ∀ k, k < D.S.length → firstOf ((dd (ts.take 40)).reverse ++ [⟨-1, 9, 0⟩, ⟨(D.S.length : Int), 0, 9⟩]) k = firstOf (ts.take 40) k := fun k hk => back_first hk
      generalize hfs : dd (ts.take 40) = fs at *
      refine SG.publish (T := RTorn) (a := a8) (by repeat (first | exact Pick.here | assumption | apply Pick.there)) ?_
      refine SG.fact (fun w hs => Sep.slOk hs (show Sl RTorn a8 m8 c8 fs ∈ _ from List.Mem.head _)) fun hfok => ?_
      have hfl := hm8
      refine SG.region ?_
      refine RL.val (Wanted.free rfl) (V.assign rfl rfl) rfl ?_
      refine RL.nil ?_
      refine SG.seq ?_
      refine SG.seq ?_
      refine SG.region ?_
      refine RL.val (Wanted.free rfl) (V.move rfl rfl) rfl ?_
      refine RL.val (Wanted.free rfl) (V.len rfl rfl el33.under rfl) rfl ?_
      refine RL.val (Wanted.free rfl) (V.bin rfl rfl rfl (B.subI (by omega) (by omega))) rfl ?_
      refine RL.val (Wanted.free rfl) (V.assign rfl rfl) rfl ?_
      refine RL.nil ?_
      refine SG.block ?_
      refine SG.ent (Buf.nil (T := RTorn) (e := 67)) ?_
      refine SG.weaken (SG.loop2 (fun m al M => ∃ (j : Nat) (a11 : Option Addr) (m11 c11 : Nat), j ≤ fs.length ∧ j = m ∧ al = [(2, .slice at_ ts.length ct), (7, ptr b 0), (8, .slice a8 m8 c8), (11, .slice a11 m11 c11), (12, vI ((j : Int) - 1))] ∧ M = Buf RTorn 67 a11 m11 c11 ((fs.drop j).reverse) :: Sl RTorn a8 m8 c8 fs :: Dsk b D :: L) (m0 := _) ⟨m8, none, 0, 0, by omega, rfl, rfl, rfl⟩ ?_) ?_ ?_
      rotate_left
      · repeat (first | exact EnvLe.nil _ | refine EnvLe.cons rfl ?_)
      · rw [← hfl, List.drop_length]
        repeat (first | exact Ent.refl _ | (apply Ent.cons; (· repeat (first | exact Pick.here | (refine Pick.sl ?_; (· repeat (first | exact List.Mem.head _ | assumption | apply List.Mem.tail))) | apply Pick.there))) | (refine Ent.trans (Ent.drop _ _) ?_))
      rintro _ _ _ ⟨j, a11, m11, c11, hj, rfl, rfl, rfl⟩ ih1
      refine SG.buf (T := RTorn) (a := a11) (by repeat (first | exact Pick.here | assumption | apply Pick.there)) fun hm11 _ _ => ?_
      rw [List.length_reverse, List.length_drop] at hm11
      refine SG.seq ?_
      refine SG.seq ?_
      refine SG.region ?_
      refine RL.val (Wanted.free rfl) (V.move rfl rfl) rfl ?_
      refine RL.cmp (Wanted.free rfl) (V.bin rfl rfl rfl B.geq) rfl (fun h54 => ?_) (fun h54 => ?_)
      · skip
        refine RL.nil ?_
        refine SG.cond_true rfl ?_
        refine SG.skip ?_
        refine SG.seq ?_
        refine SG.block ?_
        have hjl : j - 1 < fs.length := by omega
        obtain ⟨fo1, fo2, fo3⟩ := hfok fs[j - 1] (List.getElem_mem _)
        have hrev : (fs.drop (j - 1)).reverse = (fs.drop j).reverse ++ [fs[j - 1]] := by
          rw [List.drop_eq_getElem_cons (i := j - 1) (by omega), List.reverse_cons, show j - 1 + 1 = j from by omega]
        refine SG.region ?_
        refine RL.val (Wanted.free rfl) (V.move rfl rfl) rfl ?_
        refine RL.val (Wanted.free rfl) (V.move rfl rfl) rfl ?_
        refine RL.val (Wanted.free rfl) (V.move rfl rfl) rfl ?_
        refine RL.val (Wanted.free rfl) (V.indexSl (j := j - 1) rfl el33.slice rfl rfl (by repeat (first | exact List.Mem.head _ | assumption | apply List.Mem.tail)) (by first | rfl | omega) (by omega)) rfl ?_
        refine RL.val (Wanted.free rfl) (V.loadSlDt rfl ag67 rfl (by repeat (first | exact List.Mem.head _ | assumption | apply List.Mem.tail)) (List.getElem?_eq_getElem (by omega))) rfl ?_
        refine RL.eff (Wanted.free rfl) (E.lit1 [vI fs[j - 1].s, vI fs[j - 1].w, vI fs[j - 1].b] rfl el33.slice ze67 rfl (by decide) (by decide) rfl rfl rfl) rfl ?_
        rintro _ _ ⟨b65, rfl, rfl⟩
        refine RL.eff (Wanted.free rfl) (E.append (T := RTorn) rfl rfl rfl el33 el33.noInt rfl rfl (by repeat (first | exact Pick.here | assumption | apply Pick.there)) (Src.litDt (y := fs[j - 1]) (by repeat (first | exact Pick.here | assumption | apply Pick.there)) rfl ⟨fo1, fo2, fo3⟩) (by first | omega | (simp; omega)) (by first | omega | (simp; omega))) rfl ?_
        intro _ _ hK61
        try rw [List.nil_append] at hK61
        try rw [Nat.zero_add] at hK61
        obtain ⟨a66, c66, rfl, rfl⟩ := hK61
        refine RL.val (Wanted.free rfl) (V.assign rfl rfl) rfl ?_
        refine RL.nil ?_
        refine SG.inBlock ?_
        refine SG.region ?_
        refine RL.val (Wanted.free rfl) (V.move rfl rfl) rfl ?_
        refine RL.val (Wanted.free rfl) (V.bin rfl rfl rfl (B.subI (by omega) (by omega))) rfl ?_
        rw [show (j : Int) - 1 - 1 = ((j - 1 : Nat) : Int) - 1 from by omega]
        refine RL.val (Wanted.free rfl) (V.assign rfl rfl) rfl ?_
        refine RL.nil ?_
        refine SG.weaken (ih1 _ _ _ ?_ ⟨j - 1, a66, m11 + 1, c66, by omega, rfl, rfl, rfl⟩) ?_ ?_
        · omega
        · repeat (first | exact EnvLe.nil _ | refine EnvLe.cons rfl ?_)
        · rw [hrev]
          repeat (first | exact Ent.refl _ | (apply Ent.cons; (· repeat (first | exact Pick.here | (refine Pick.sl ?_; (· repeat (first | exact List.Mem.head _ | assumption | apply List.Mem.tail))) | apply Pick.there))) | (refine Ent.trans (Ent.drop _ _) ?_))
      · skip
        refine RL.nil ?_
        refine SG.cond_false rfl ?_
        refine SG.exit rfl ?_
        refine SG.seq ?_
        have hlen := hD.len
        obtain rfl : j = 0 := by omega
        rw [List.drop_zero]
        have hkm1 : inInt (-1) := by unfold inInt; decide
        have hk9 : inInt 9 := by unfold inInt; decide
        have hk0 : inInt 0 := by unfold inInt; decide
        have hkn : inInt (D.S.length : Int) := by unfold inInt; omega
        refine SG.region ?_
        refine RL.val (Wanted.free rfl) (V.move rfl rfl) rfl ?_
        refine RL.val (Wanted.free rfl) (V.buildS [(0, _), (1, _)] rfl bs67 (by exact ⟨rfl, ⟨_, rfl, rfl⟩, ⟨rfl, ⟨_, rfl, rfl⟩, trivial⟩⟩) rfl) rfl ?_
        refine RL.val (Wanted.free rfl) (V.move rfl rfl) rfl ?_
        refine RL.eff (Wanted.free rfl) (E.call rfl go20 rfl (dLen_ok hD (by repeat (first | exact Pick.here | assumption | apply Pick.there)))) rfl ?_
        rintro _ _ ⟨rfl, rfl⟩
        refine RL.val (Wanted.free rfl) (V.buildS [(0, _), (2, _)] rfl bs67 (by exact ⟨rfl, ⟨_, rfl, rfl⟩, ⟨rfl, ⟨_, rfl, rfl⟩, trivial⟩⟩) rfl) rfl ?_
        refine RL.eff (Wanted.free rfl) (E.lit2 [vI (-1), vI 9, vI 0] [vI D.S.length, vI 0, vI 9] rfl el33.slice ze67 rfl (by decide) (by decide) rfl rfl rfl rfl rfl rfl) rfl ?_
        rintro _ _ ⟨b72, rfl, rfl⟩
        refine RL.eff (Wanted.free rfl) (E.append (T := RTorn) rfl rfl rfl el33 el33.noInt rfl rfl (by repeat (first | exact Pick.here | assumption | apply Pick.there)) (Src.blk (l := [⟨-1, 9, 0⟩, ⟨D.S.length, 0, 9⟩]) (by repeat (first | exact Pick.here | assumption | apply Pick.there)) (by simp [Value.oneCell']) (fun z h _ => Rep.rows.append (l := [_]) (l' := [_]) (Rep.rows.single ⟨rfl, hkm1, hk9, hk0⟩) (Rep.rows.single ⟨rfl, hkn, hk0, hk9⟩))) (by first | omega | (simp; omega)) (by first | omega | (simp; omega))) rfl ?_
        intro _ _ hK72
        try rw [List.nil_append] at hK72
        try rw [Nat.zero_add] at hK72
        obtain ⟨a73, c73, rfl, rfl⟩ := hK72
        refine RL.publish (T := RTorn) (a := a73) Pick.here ?_
        refine RL.val (Wanted.free rfl) (V.assign rfl rfl) rfl ?_
        refine RL.nil ?_
        refine SG.seq ?_
        refine SG.region ?_
        refine RL.val (Wanted.free rfl) (V.move rfl rfl) rfl ?_
        refine RL.eff (Wanted.free rfl) (E.call rfl go37 rfl (dClone_ok hD (by repeat (first | exact Pick.here | assumption | apply Pick.there)) (by omega))) rfl ?_
        rintro _ _ ⟨b75, rfl, rfl⟩
        refine RL.val (Wanted.free rfl) (V.assign rfl rfl) rfl ?_
        refine RL.nil ?_
        refine SG.seq ?_
        refine SG.region ?_
        refine RL.val (Wanted.free rfl) (V.move rfl rfl) rfl ?_
        refine RL.eff (Wanted.free rfl) (E.call rfl go37 rfl (dClone_ok hD (by repeat (first | exact Pick.here | assumption | apply Pick.there)) (by omega))) rfl ?_
        rintro _ _ ⟨b77, rfl, rfl⟩
        refine RL.val (Wanted.free rfl) (V.assign rfl rfl) rfl ?_
        refine RL.nil ?_
        refine SG.seq ?_
        refine SG.seq ?_
        refine SG.region ?_
        refine RL.val (Wanted.free rfl) (V.move rfl rfl) rfl ?_
        refine RL.cmpF (Wanted.free rfl) (V.eqlPtrNil rfl up23 rfl rfl) rfl (by simp) ?_
        refine RL.val (Wanted.free rfl) (V.move rfl rfl) rfl ?_
        refine RL.val (Wanted.yes rfl rfl rfl rfl) (V.move rfl rfl) rfl ?_
        refine RL.cmpF (Wanted.yes rfl rfl rfl rfl) (V.eqlPtrNil rfl up23 rfl rfl) rfl (by simp) ?_
        refine RL.val (Wanted.free rfl) (V.pick_false rfl rfl rfl) rfl ?_
        refine RL.nil ?_
        refine SG.cond_false rfl ?_
        refine SG.skip ?_
        refine SG.seq ?_
        refine SG.region ?_
        refine RL.val (Wanted.free rfl) (V.move rfl rfl) rfl ?_
        refine RL.val (Wanted.free rfl) (V.move rfl rfl) rfl ?_
        refine RL.val (Wanted.free rfl) (V.move rfl rfl) rfl ?_
        refine RL.val (Wanted.free rfl) (V.len rfl rfl el33.under rfl) rfl ?_
        refine RL.val (Wanted.free rfl) (V.min rfl rfl rfl rfl) rfl ?_
        refine RL.eff (Wanted.free rfl) (E.slice (lo := 0) (hi := min ts.length 40) rfl el33.slice rfl (by repeat (first | exact List.Mem.head _ | assumption | apply List.Mem.tail)) rfl ⟨_, _, rfl, (by first | rfl | omega)⟩ (by omega) (by omega)) rfl ?_
        intro _ _ hK88
        try rw [List.drop_zero] at hK88
        iterate 2 (try rw [Nat.sub_zero] at hK88)
        rw [show ts.take (min ts.length 40) = ts.take 40 from by rw [List.take_eq_take_iff]; omega] at hK88
        obtain ⟨a89, rfl, rfl⟩ := hK88
        refine RL.eff (Wanted.free rfl) (E.call rfl go27 rfl (dRestart_ok hD (by repeat (first | exact Pick.here | assumption | apply Pick.there)) (ts := ts.take 40) (by repeat (first | exact List.Mem.head _ | assumption | apply List.Mem.tail)) (by omega) (by omega))) rfl ?_
        rintro _ _ ⟨rfl, rfl⟩
        refine RL.nil ?_
        refine SG.seq ?_
        refine SG.region ?_
        refine RL.val (Wanted.free rfl) (V.move rfl rfl) rfl ?_
        refine RL.val (Wanted.free rfl) (V.move rfl rfl) rfl ?_
        refine RL.eff (Wanted.free rfl) (E.call rfl go27 rfl (dRestart_ok hD (by repeat (first | exact Pick.here | assumption | apply Pick.there)) (ts := fs) (by repeat (first | exact List.Mem.head _ | assumption | apply List.Mem.tail)) (by omega) (by omega))) rfl ?_
        rintro _ _ ⟨rfl, rfl⟩
        refine RL.nil ?_
        refine SG.seq ?_
        refine SG.region ?_
        refine RL.val (Wanted.free rfl) (V.move rfl rfl) rfl ?_
        refine RL.val (Wanted.free rfl) (V.move rfl rfl) rfl ?_
        refine RL.eff (Wanted.free rfl) (E.call rfl go27 rfl (dRestart_ok hD (by repeat (first | exact Pick.here | assumption | apply Pick.there)) (ts := fs.reverse ++ [⟨-1, 9, 0⟩, ⟨D.S.length, 0, 9⟩]) (by repeat (first | exact List.Mem.head _ | assumption | apply List.Mem.tail)) (by omega) (by omega))) rfl ?_
        rintro _ _ ⟨rfl, rfl⟩
        refine RL.nil ?_
        refine SG.seq ?_
        have e1 : D.restart fs = D.restart (ts.take 40) := restart_same fun k _ => hdf k
        have e2 : D.restart (fs.reverse ++ [⟨-1, 9, 0⟩, ⟨D.S.length, 0, 9⟩]) = D.restart (ts.take 40) := restart_same fun k hk => hbf k hk
        rw [e1, e2]
        have hR := hD.restart (by omega) (ts.take 40)
        refine SG.region ?_
        refine RL.val (Wanted.free rfl) (V.move rfl rfl) rfl ?_
        refine RL.val (Wanted.free rfl) (V.move rfl rfl) rfl ?_
        refine RL.eff (Wanted.free rfl) (E.call rfl go38 rfl (equal_ok hR hR (by repeat (first | exact Ent.refl _ | (apply Ent.cons; (· repeat (first | exact Pick.here | (refine Pick.sl ?_; (· repeat (first | exact List.Mem.head _ | assumption | apply List.Mem.tail))) | apply Pick.there))) | (refine Ent.trans (Ent.drop _ _) ?_))) (by omega) rfl rfl (fun _ _ => rfl))) rfl ?_
        rintro _ _ ⟨rfl, rfl⟩
        refine RL.val (Wanted.free rfl) (V.move rfl rfl) rfl ?_
        refine RL.val (Wanted.yes rfl rfl rfl rfl) (V.move rfl rfl) rfl ?_
        refine RL.val (Wanted.yes rfl rfl rfl rfl) (V.move rfl rfl) rfl ?_
        refine RL.eff (Wanted.yes rfl rfl rfl rfl) (E.call rfl go38 rfl (equal_ok hR hR (by repeat (first | exact Ent.refl _ | (apply Ent.cons; (· repeat (first | exact Pick.here | (refine Pick.sl ?_; (· repeat (first | exact List.Mem.head _ | assumption | apply List.Mem.tail))) | apply Pick.there))) | (refine Ent.trans (Ent.drop _ _) ?_))) (by omega) rfl rfl (fun _ _ => rfl))) rfl ?_
        rintro _ _ ⟨rfl, rfl⟩
        refine RL.val (Wanted.free rfl) (V.pick_true rfl rfl rfl) rfl ?_
        refine RL.val (Wanted.free rfl) (V.move rfl rfl) rfl ?_
        refine RL.eff (Wanted.yes rfl rfl rfl rfl) (E.call rfl go17 rfl (lives_ok)) rfl ?_
        rintro _ _ ⟨rfl, rfl⟩
        refine RL.val (Wanted.free rfl) (V.pick_true rfl rfl rfl) rfl ?_
        refine RL.val (Wanted.free rfl) (V.assign rfl rfl) rfl ?_
        refine RL.nil ?_
        refine SG.retE (Ret.r1 Try.func7 rfl (.tmp rfl)) ?_ ⟨rfl, rfl⟩
        repeat (first | exact Ent.refl _ | (apply Ent.cons; (· repeat (first | exact Pick.here | (refine Pick.sl ?_; (· repeat (first | exact List.Mem.head _ | assumption | apply List.Mem.tail))) | apply Pick.there))) | (refine Ent.trans (Ent.drop _ _) ?_))
  · skip
    refine RL.val (Wanted.free rfl) (V.move rfl rfl) rfl ?_
    refine RL.skip (Wanted.no rfl rfl rfl rfl rfl) rfl ?_
    refine RL.skip (Wanted.no rfl rfl rfl rfl rfl) rfl ?_
    refine RL.val (Wanted.free rfl) (V.pick_false rfl rfl rfl) rfl ?_
    refine RL.nil ?_
    refine SG.cond_false rfl ?_
    refine SG.exit rfl ?_
    refine SG.seq ?_
    have hts : ts.take i = ts.take 40 := by rw [List.take_eq_take_iff]; omega
    rw [hts] at hm8 hdl
    rw [hts]
    have hdf := dd_first (ts.take 40)
    have hbf : ∀ k, k < D.S.length → firstOf ((dd (ts.take 40)).reverse ++ [⟨-1, 9, 0⟩, ⟨(D.S.length : Int), 0, 9⟩]) k = firstOf (ts.take 40) k := fun k hk => back_first hk
    generalize hfs : dd (ts.take 40) = fs at *
    refine SG.publish (T := RTorn) (a := a8) (by repeat (first | exact Pick.here | assumption | apply Pick.there)) ?_
    refine SG.fact (fun w hs => Sep.slOk hs (show Sl RTorn a8 m8 c8 fs ∈ _ from List.Mem.head _)) fun hfok => ?_
    have hfl := hm8
    refine SG.region ?_
    refine RL.val (Wanted.free rfl) (V.assign rfl rfl) rfl ?_
    refine RL.nil ?_
    refine SG.seq ?_
    refine SG.seq ?_
    refine SG.region ?_
    refine RL.val (Wanted.free rfl) (V.move rfl rfl) rfl ?_
    refine RL.val (Wanted.free rfl) (V.len rfl rfl el33.under rfl) rfl ?_
    refine RL.val (Wanted.free rfl) (V.bin rfl rfl rfl (B.subI (by omega) (by omega))) rfl ?_
    refine RL.val (Wanted.free rfl) (V.assign rfl rfl) rfl ?_
    refine RL.nil ?_
    refine SG.block ?_
    refine SG.ent (Buf.nil (T := RTorn) (e := 67)) ?_
    refine SG.weaken (SG.loop2 (fun m al M => ∃ (j : Nat) (a11 : Option Addr) (m11 c11 : Nat), j ≤ fs.length ∧ j = m ∧ al = [(2, .slice at_ ts.length ct), (7, ptr b 0), (8, .slice a8 m8 c8), (11, .slice a11 m11 c11), (12, vI ((j : Int) - 1))] ∧ M = Buf RTorn 67 a11 m11 c11 ((fs.drop j).reverse) :: Sl RTorn a8 m8 c8 fs :: Dsk b D :: L) (m0 := _) ⟨m8, none, 0, 0, by omega, rfl, rfl, rfl⟩ ?_) ?_ ?_
    rotate_left
    · repeat (first | exact EnvLe.nil _ | refine EnvLe.cons rfl ?_)
    · rw [← hfl, List.drop_length]
      repeat (first | exact Ent.refl _ | (apply Ent.cons; (· repeat (first | exact Pick.here | (refine Pick.sl ?_; (· repeat (first | exact List.Mem.head _ | assumption | apply List.Mem.tail))) | apply Pick.there))) | (refine Ent.trans (Ent.drop _ _) ?_))
    rintro _ _ _ ⟨j, a11, m11, c11, hj, rfl, rfl, rfl⟩ ih1
    refine SG.buf (T := RTorn) (a := a11) (by repeat (first | exact Pick.here | assumption | apply Pick.there)) fun hm11 _ _ => ?_
    rw [List.length_reverse, List.length_drop] at hm11
    refine SG.seq ?_
    refine SG.seq ?_
    refine SG.region ?_
    refine RL.val (Wanted.free rfl) (V.move rfl rfl) rfl ?_
    refine RL.cmp (Wanted.free rfl) (V.bin rfl rfl rfl B.geq) rfl (fun h113 => ?_) (fun h113 => ?_)
    · skip
      refine RL.nil ?_
      refine SG.cond_true rfl ?_
      refine SG.skip ?_
      refine SG.seq ?_
      refine SG.block ?_
      have hjl : j - 1 < fs.length := by omega
      obtain ⟨fo1, fo2, fo3⟩ := hfok fs[j - 1] (List.getElem_mem _)
      have hrev : (fs.drop (j - 1)).reverse = (fs.drop j).reverse ++ [fs[j - 1]] := by
        rw [List.drop_eq_getElem_cons (i := j - 1) (by omega), List.reverse_cons, show j - 1 + 1 = j from by omega]
      refine SG.region ?_
      refine RL.val (Wanted.free rfl) (V.move rfl rfl) rfl ?_
      refine RL.val (Wanted.free rfl) (V.move rfl rfl) rfl ?_
      refine RL.val (Wanted.free rfl) (V.move rfl rfl) rfl ?_
      refine RL.val (Wanted.free rfl) (V.indexSl (j := j - 1) rfl el33.slice rfl rfl (by repeat (first | exact List.Mem.head _ | assumption | apply List.Mem.tail)) (by first | rfl | omega) (by omega)) rfl ?_
      refine RL.val (Wanted.free rfl) (V.loadSlDt rfl ag67 rfl (by repeat (first | exact List.Mem.head _ | assumption | apply List.Mem.tail)) (List.getElem?_eq_getElem (by omega))) rfl ?_
      refine RL.eff (Wanted.free rfl) (E.lit1 [vI fs[j - 1].s, vI fs[j - 1].w, vI fs[j - 1].b] rfl el33.slice ze67 rfl (by decide) (by decide) rfl rfl rfl) rfl ?_
      rintro _ _ ⟨b65, rfl, rfl⟩
      refine RL.eff (Wanted.free rfl) (E.append (T := RTorn) rfl rfl rfl el33 el33.noInt rfl rfl (by repeat (first | exact Pick.here | assumption | apply Pick.there)) (Src.litDt (y := fs[j - 1]) (by repeat (first | exact Pick.here | assumption | apply Pick.there)) rfl ⟨fo1, fo2, fo3⟩) (by first | omega | (simp; omega)) (by first | omega | (simp; omega))) rfl ?_
      intro _ _ hK120
      try rw [List.nil_append] at hK120
      try rw [Nat.zero_add] at hK120
      obtain ⟨a66, c66, rfl, rfl⟩ := hK120
      refine RL.val (Wanted.free rfl) (V.assign rfl rfl) rfl ?_
      refine RL.nil ?_
      refine SG.inBlock ?_
      refine SG.region ?_
      refine RL.val (Wanted.free rfl) (V.move rfl rfl) rfl ?_
      refine RL.val (Wanted.free rfl) (V.bin rfl rfl rfl (B.subI (by omega) (by omega))) rfl ?_
      rw [show (j : Int) - 1 - 1 = ((j - 1 : Nat) : Int) - 1 from by omega]
      refine RL.val (Wanted.free rfl) (V.assign rfl rfl) rfl ?_
      refine RL.nil ?_
      refine SG.weaken (ih1 _ _ _ ?_ ⟨j - 1, a66, m11 + 1, c66, by omega, rfl, rfl, rfl⟩) ?_ ?_
      · omega
      · repeat (first | exact EnvLe.nil _ | refine EnvLe.cons rfl ?_)
      · rw [hrev]
        repeat (first | exact Ent.refl _ | (apply Ent.cons; (· repeat (first | exact Pick.here | (refine Pick.sl ?_; (· repeat (first | exact List.Mem.head _ | assumption | apply List.Mem.tail))) | apply Pick.there))) | (refine Ent.trans (Ent.drop _ _) ?_))
    · skip
      refine RL.nil ?_
      refine SG.cond_false rfl ?_
      refine SG.exit rfl ?_
      refine SG.seq ?_
      have hlen := hD.len
      obtain rfl : j = 0 := by omega
      rw [List.drop_zero]
      have hkm1 : inInt (-1) := by unfold inInt; decide
      have hk9 : inInt 9 := by unfold inInt; decide
      have hk0 : inInt 0 := by unfold inInt; decide
      have hkn : inInt (D.S.length : Int) := by unfold inInt; omega
      refine SG.region ?_
      refine RL.val (Wanted.free rfl) (V.move rfl rfl) rfl ?_
      refine RL.val (Wanted.free rfl) (V.buildS [(0, _), (1, _)] rfl bs67 (by exact ⟨rfl, ⟨_, rfl, rfl⟩, ⟨rfl, ⟨_, rfl, rfl⟩, trivial⟩⟩) rfl) rfl ?_
      refine RL.val (Wanted.free rfl) (V.move rfl rfl) rfl ?_
      refine RL.eff (Wanted.free rfl) (E.call rfl go20 rfl (dLen_ok hD (by repeat (first | exact Pick.here | assumption | apply Pick.there)))) rfl ?_
      rintro _ _ ⟨rfl, rfl⟩
      refine RL.val (Wanted.free rfl) (V.buildS [(0, _), (2, _)] rfl bs67 (by exact ⟨rfl, ⟨_, rfl, rfl⟩, ⟨rfl, ⟨_, rfl, rfl⟩, trivial⟩⟩) rfl) rfl ?_
      refine RL.eff (Wanted.free rfl) (E.lit2 [vI (-1), vI 9, vI 0] [vI D.S.length, vI 0, vI 9] rfl el33.slice ze67 rfl (by decide) (by decide) rfl rfl rfl rfl rfl rfl) rfl ?_
      rintro _ _ ⟨b72, rfl, rfl⟩
      refine RL.eff (Wanted.free rfl) (E.append (T := RTorn) rfl rfl rfl el33 el33.noInt rfl rfl (by repeat (first | exact Pick.here | assumption | apply Pick.there)) (Src.blk (l := [⟨-1, 9, 0⟩, ⟨D.S.length, 0, 9⟩]) (by repeat (first | exact Pick.here | assumption | apply Pick.there)) (by simp [Value.oneCell']) (fun z h _ => Rep.rows.append (l := [_]) (l' := [_]) (Rep.rows.single ⟨rfl, hkm1, hk9, hk0⟩) (Rep.rows.single ⟨rfl, hkn, hk0, hk9⟩))) (by first | omega | (simp; omega)) (by first | omega | (simp; omega))) rfl ?_
      intro _ _ hK131
      try rw [List.nil_append] at hK131
      try rw [Nat.zero_add] at hK131
      obtain ⟨a73, c73, rfl, rfl⟩ := hK131
      refine RL.publish (T := RTorn) (a := a73) Pick.here ?_
      refine RL.val (Wanted.free rfl) (V.assign rfl rfl) rfl ?_
      refine RL.nil ?_
      refine SG.seq ?_
      refine SG.region ?_
      refine RL.val (Wanted.free rfl) (V.move rfl rfl) rfl ?_
      refine RL.eff (Wanted.free rfl) (E.call rfl go37 rfl (dClone_ok hD (by repeat (first | exact Pick.here | assumption | apply Pick.there)) (by omega))) rfl ?_
      rintro _ _ ⟨b75, rfl, rfl⟩
      refine RL.val (Wanted.free rfl) (V.assign rfl rfl) rfl ?_
      refine RL.nil ?_
      refine SG.seq ?_
      refine SG.region ?_
      refine RL.val (Wanted.free rfl) (V.move rfl rfl) rfl ?_
      refine RL.eff (Wanted.free rfl) (E.call rfl go37 rfl (dClone_ok hD (by repeat (first | exact Pick.here | assumption | apply Pick.there)) (by omega))) rfl ?_
      rintro _ _ ⟨b77, rfl, rfl⟩
      refine RL.val (Wanted.free rfl) (V.assign rfl rfl) rfl ?_
      refine RL.nil ?_
      refine SG.seq ?_
      refine SG.seq ?_
      refine SG.region ?_
      refine RL.val (Wanted.free rfl) (V.move rfl rfl) rfl ?_
      refine RL.cmpF (Wanted.free rfl) (V.eqlPtrNil rfl up23 rfl rfl) rfl (by simp) ?_
      refine RL.val (Wanted.free rfl) (V.move rfl rfl) rfl ?_
      refine RL.val (Wanted.yes rfl rfl rfl rfl) (V.move rfl rfl) rfl ?_
      refine RL.cmpF (Wanted.yes rfl rfl rfl rfl) (V.eqlPtrNil rfl up23 rfl rfl) rfl (by simp) ?_
      refine RL.val (Wanted.free rfl) (V.pick_false rfl rfl rfl) rfl ?_
      refine RL.nil ?_
      refine SG.cond_false rfl ?_
      refine SG.skip ?_
      refine SG.seq ?_
      refine SG.region ?_
      refine RL.val (Wanted.free rfl) (V.move rfl rfl) rfl ?_
      refine RL.val (Wanted.free rfl) (V.move rfl rfl) rfl ?_
      refine RL.val (Wanted.free rfl) (V.move rfl rfl) rfl ?_
      refine RL.val (Wanted.free rfl) (V.len rfl rfl el33.under rfl) rfl ?_
      refine RL.val (Wanted.free rfl) (V.min rfl rfl rfl rfl) rfl ?_
      refine RL.eff (Wanted.free rfl) (E.slice (lo := 0) (hi := min ts.length 40) rfl el33.slice rfl (by repeat (first | exact List.Mem.head _ | assumption | apply List.Mem.tail)) rfl ⟨_, _, rfl, (by first | rfl | omega)⟩ (by omega) (by omega)) rfl ?_
      intro _ _ hK147
      try rw [List.drop_zero] at hK147
      iterate 2 (try rw [Nat.sub_zero] at hK147)
      rw [show ts.take (min ts.length 40) = ts.take 40 from by rw [List.take_eq_take_iff]; omega] at hK147
      obtain ⟨a89, rfl, rfl⟩ := hK147
      refine RL.eff (Wanted.free rfl) (E.call rfl go27 rfl (dRestart_ok hD (by repeat (first | exact Pick.here | assumption | apply Pick.there)) (ts := ts.take 40) (by repeat (first | exact List.Mem.head _ | assumption | apply List.Mem.tail)) (by omega) (by omega))) rfl ?_
      rintro _ _ ⟨rfl, rfl⟩
      refine RL.nil ?_
      refine SG.seq ?_
      refine SG.region ?_
      refine RL.val (Wanted.free rfl) (V.move rfl rfl) rfl ?_
      refine RL.val (Wanted.free rfl) (V.move rfl rfl) rfl ?_
      refine RL.eff (Wanted.free rfl) (E.call rfl go27 rfl (dRestart_ok hD (by repeat (first | exact Pick.here | assumption | apply Pick.there)) (ts := fs) (by repeat (first | exact List.Mem.head _ | assumption | apply List.Mem.tail)) (by omega) (by omega))) rfl ?_
      rintro _ _ ⟨rfl, rfl⟩
      refine RL.nil ?_
      refine SG.seq ?_
      refine SG.region ?_
      refine RL.val (Wanted.free rfl) (V.move rfl rfl) rfl ?_
      refine RL.val (Wanted.free rfl) (V.move rfl rfl) rfl ?_
      refine RL.eff (Wanted.free rfl) (E.call rfl go27 rfl (dRestart_ok hD (by repeat (first | exact Pick.here | assumption | apply Pick.there)) (ts := fs.reverse ++ [⟨-1, 9, 0⟩, ⟨D.S.length, 0, 9⟩]) (by repeat (first | exact List.Mem.head _ | assumption | apply List.Mem.tail)) (by omega) (by omega))) rfl ?_
      rintro _ _ ⟨rfl, rfl⟩
      refine RL.nil ?_
      refine SG.seq ?_
      have e1 : D.restart fs = D.restart (ts.take 40) := restart_same fun k _ => hdf k
      have e2 : D.restart (fs.reverse ++ [⟨-1, 9, 0⟩, ⟨D.S.length, 0, 9⟩]) = D.restart (ts.take 40) := restart_same fun k hk => hbf k hk
      rw [e1, e2]
      have hR := hD.restart (by omega) (ts.take 40)
      refine SG.region ?_
      refine RL.val (Wanted.free rfl) (V.move rfl rfl) rfl ?_
      refine RL.val (Wanted.free rfl) (V.move rfl rfl) rfl ?_
      refine RL.eff (Wanted.free rfl) (E.call rfl go38 rfl (equal_ok hR hR (by repeat (first | exact Ent.refl _ | (apply Ent.cons; (· repeat (first | exact Pick.here | (refine Pick.sl ?_; (· repeat (first | exact List.Mem.head _ | assumption | apply List.Mem.tail))) | apply Pick.there))) | (refine Ent.trans (Ent.drop _ _) ?_))) (by omega) rfl rfl (fun _ _ => rfl))) rfl ?_
      rintro _ _ ⟨rfl, rfl⟩
      refine RL.val (Wanted.free rfl) (V.move rfl rfl) rfl ?_
      refine RL.val (Wanted.yes rfl rfl rfl rfl) (V.move rfl rfl) rfl ?_
      refine RL.val (Wanted.yes rfl rfl rfl rfl) (V.move rfl rfl) rfl ?_
      refine RL.eff (Wanted.yes rfl rfl rfl rfl) (E.call rfl go38 rfl (equal_ok hR hR (by repeat (first | exact Ent.refl _ | (apply Ent.cons; (· repeat (first | exact Pick.here | (refine Pick.sl ?_; (· repeat (first | exact List.Mem.head _ | assumption | apply List.Mem.tail))) | apply Pick.there))) | (refine Ent.trans (Ent.drop _ _) ?_))) (by omega) rfl rfl (fun _ _ => rfl))) rfl ?_
      rintro _ _ ⟨rfl, rfl⟩
      refine RL.val (Wanted.free rfl) (V.pick_true rfl rfl rfl) rfl ?_
      refine RL.val (Wanted.free rfl) (V.move rfl rfl) rfl ?_
      refine RL.eff (Wanted.yes rfl rfl rfl rfl) (E.call rfl go17 rfl (lives_ok)) rfl ?_
      rintro _ _ ⟨rfl, rfl⟩
      refine RL.val (Wanted.free rfl) (V.pick_true rfl rfl rfl) rfl ?_
      refine RL.val (Wanted.free rfl) (V.assign rfl rfl) rfl ?_
      refine RL.nil ?_
      refine SG.retE (Ret.r1 Try.func7 rfl (.tmp rfl)) ?_ ⟨rfl, rfl⟩
      repeat (first | exact Ent.refl _ | (apply Ent.cons; (· repeat (first | exact Pick.here | (refine Pick.sl ?_; (· repeat (first | exact List.Mem.head _ | assumption | apply List.Mem.tail))) | apply Pick.there))) | (refine Ent.trans (Ent.drop _ _) ?_))

set_option maxRecDepth 100000 in
theorem apart_law {κ : World} {L : List Assn} {a at_ : Option Addr} {n0 c nt ct : Nat} {l : List OpD} {ts : List Torn} (n : Int) (h1 : -9223372036854775808 ≤ n) (h2 : n ≤ 9223372036854775807) (hm : Sl ROp a n0 c l ∈ L) (hmt : Sl RTorn at_ nt ct ts ∈ L) (se : Int) (h3 : -9223372036854775808 ≤ se) (h4 : se ≤ 9223372036854775807) :
    Ctr Try.prog 8 #[vI n, .slice a n0 c, .slice at_ nt ct, vI se] κ L (fun v M => v = vB true ∧ M = L) := by
  refine Ctr.enter (vs := [vI n, .slice a n0 c, .slice at_ nt ct, vI se]) (m := 96) Try.func8 rfl rfl rfl ?_
  refine SG.sl hmt fun htl htlc htc => ?_
  subst htl
  refine SG.fact (fun w hs => Sep.slOk hs hmt) fun hok => ?_
  refine SG.seq ?_
  refine SG.region ?_
  refine RL.val (Wanted.free rfl) (V.assign rfl rfl) rfl ?_
  refine RL.nil ?_
  refine SG.seq ?_
  refine SG.region ?_
  refine RL.val (Wanted.free rfl) (V.move rfl rfl) rfl ?_
  refine RL.val (Wanted.free rfl) (V.move rfl rfl) rfl ?_
  refine RL.eff (Wanted.free rfl) (E.call rfl go35 rfl (written_ok n h1 h2 hm)) rfl ?_
  rintro _ _ ⟨b, D, rfl, hD, hC, h16, rfl⟩
  refine RL.val (Wanted.free rfl) (V.assign rfl rfl) rfl ?_
  refine RL.nil ?_
  refine SG.seq ?_
  refine SG.seq ?_
  refine SG.region ?_
  refine RL.val (Wanted.free rfl) (V.move rfl rfl) rfl ?_
  refine RL.cmpF (Wanted.free rfl) (V.eqlPtrNil rfl up23 rfl rfl) rfl (by simp) ?_
  refine RL.val (Wanted.free rfl) (V.move rfl rfl) rfl ?_
  have hlen := hD.len
  refine RL.val (Wanted.yes rfl rfl rfl rfl) (V.move rfl rfl) rfl ?_
  refine RL.eff (Wanted.yes rfl rfl rfl rfl) (E.call rfl go20 rfl (dLen_ok hD (by repeat (first | exact Pick.here | assumption | apply Pick.there)))) rfl ?_
  rintro _ _ ⟨rfl, rfl⟩
  refine RL.cmpF (Wanted.yes rfl rfl rfl rfl) (V.bin rfl rfl rfl B.eql) rfl (by omega) ?_
  refine RL.val (Wanted.free rfl) (V.pick_false rfl rfl rfl) rfl ?_
  refine RL.nil ?_
  refine SG.cond_false rfl ?_
  refine SG.skip ?_
  refine SG.seq ?_
  obtain ⟨kk, hkk, hkk2⟩ := aroundV_nat (n := se) (most := (D.S.length : Int)) (by omega)
  refine SG.region ?_
  refine RL.val (Wanted.free rfl) (V.move rfl rfl) rfl ?_
  refine RL.val (Wanted.free rfl) (V.move rfl rfl) rfl ?_
  refine RL.eff (Wanted.free rfl) (E.call rfl go20 rfl (dLen_ok hD (by repeat (first | exact Pick.here | assumption | apply Pick.there)))) rfl ?_
  rintro _ _ ⟨rfl, rfl⟩
  refine RL.eff (Wanted.free rfl) (E.call rfl go14 rfl (around_ok _ _ (by omega) (by omega) (by omega))) rfl ?_
  rintro _ _ ⟨rfl, rfl⟩
  rw [hkk]
  refine RL.val (Wanted.free rfl) (V.assign rfl rfl) rfl ?_
  refine RL.nil ?_
  refine SG.seq ?_
  refine SG.region ?_
  refine RL.val (Wanted.free rfl) (V.assign rfl rfl) rfl ?_
  refine RL.nil ?_
  refine SG.seq ?_
  refine SG.seq ?_
  refine SG.region ?_
  refine RL.val (Wanted.free rfl) (V.assign rfl rfl) rfl ?_
  refine RL.nil ?_
  refine SG.block ?_
  refine SG.ent (Buf.nil (T := RTorn) (e := 67)) ?_
  refine SG.weaken (SG.loop2 (fun m al M => ∃ (i : Nat) (a11 : Option Addr) (m11 c11 : Nat), i ≤ ts.length ∧ i ≤ 40 ∧ m = 40 - i ∧ al = [(2, .slice at_ ts.length ct), (9, ptr b 0), (10, vI kk), (11, .slice a11 m11 c11), (12, vI i)] ∧ M = Buf RTorn 67 a11 m11 c11 ((ts.take i).filter fun t => t.s = (kk : Int)) :: Dsk b D :: L) (m0 := _) ⟨0, none, 0, 0, by omega, by omega, rfl, rfl, rfl⟩ ?_) ?_ ?_
  rotate_left
  · repeat (first | exact EnvLe.nil _ | refine EnvLe.cons rfl ?_)
  · repeat (first | exact Ent.refl _ | (apply Ent.cons; (· repeat (first | exact Pick.here | (refine Pick.sl ?_; (· repeat (first | exact List.Mem.head _ | assumption | apply List.Mem.tail))) | apply Pick.there))) | (refine Ent.trans (Ent.drop _ _) ?_))
  rintro _ _ _ ⟨i, a11, m11, c11, hi, hi40, rfl, rfl, rfl⟩ ih0
  refine SG.buf (T := RTorn) (a := a11) (by repeat (first | exact Pick.here | assumption | apply Pick.there)) fun hm11 _ _ => ?_
  have hfl : ((ts.take i).filter fun t => t.s = (kk : Int)).length ≤ 40 := Nat.le_trans (List.length_filter_le _ _) (by rw [List.length_take]; omega)
  refine SG.seq ?_
  refine SG.seq ?_
  refine SG.region ?_
  refine RL.val (Wanted.free rfl) (V.move rfl rfl) rfl ?_
  refine RL.val (Wanted.free rfl) (V.move rfl rfl) rfl ?_
  refine RL.val (Wanted.free rfl) (V.len rfl rfl el33.under rfl) rfl ?_
  refine RL.cmp (Wanted.free rfl) (V.bin rfl rfl rfl B.lss) rfl (fun h20 => ?_) (fun h20 => ?_)
  · skip
    refine RL.val (Wanted.free rfl) (V.move rfl rfl) rfl ?_
    refine RL.val (Wanted.yes rfl rfl rfl rfl) (V.move rfl rfl) rfl ?_
    refine RL.cmp (Wanted.yes rfl rfl rfl rfl) (V.bin rfl rfl rfl B.lss) rfl (fun h23 => ?_) (fun h23 => ?_)
    · skip
      refine RL.val (Wanted.free rfl) (V.pick_true rfl rfl rfl) rfl ?_
      refine RL.nil ?_
      refine SG.cond_true rfl ?_
      refine SG.skip ?_
      refine SG.seq ?_
      refine SG.block ?_
      refine SG.seq ?_
      refine SG.elemDt (a := at_) (by repeat (first | exact List.Mem.head _ | assumption | apply List.Mem.tail)) (show ts[i]? = some ts[i] from List.getElem?_eq_getElem (by omega)) fun htok => ?_
      obtain ⟨to1, to2, to3⟩ := htok
      have htk : ts.take (i + 1) = ts.take i ++ [ts[i]] := by rw [List.take_add_one, List.getElem?_eq_getElem (by omega)]; rfl
      refine SG.region ?_
      refine RL.val (Wanted.free rfl) (V.move rfl rfl) rfl ?_
      refine RL.val (Wanted.free rfl) (V.move rfl rfl) rfl ?_
      refine RL.val (Wanted.free rfl) (V.indexSl (j := i) rfl el33.slice rfl rfl (by repeat (first | exact List.Mem.head _ | assumption | apply List.Mem.tail)) (by first | rfl | omega) (by omega)) rfl ?_
      refine RL.val (Wanted.free rfl) (V.fieldAt rfl rfl fo67_0 (by repeat (first | exact List.Mem.head _ | assumption | apply List.Mem.tail))) rfl ?_
      refine RL.val (Wanted.free rfl) (V.loadAtF rfl on3 rfl (by repeat (first | exact List.Mem.head _ | assumption | apply List.Mem.tail)) rfl) rfl ?_
      refine RL.val (Wanted.free rfl) (V.move rfl rfl) rfl ?_
      refine RL.cmp (Wanted.free rfl) (V.bin rfl rfl rfl B.eql) rfl (fun h30 => ?_) (fun h30 => ?_)
      · skip
        have hyes := h30
        refine RL.nil ?_
        refine SG.cond_true rfl ?_
        refine SG.region ?_
        refine RL.val (Wanted.free rfl) (V.move rfl rfl) rfl ?_
        refine RL.val (Wanted.free rfl) (V.move rfl rfl) rfl ?_
        refine RL.val (Wanted.free rfl) (V.move rfl rfl) rfl ?_
        refine RL.val (Wanted.free rfl) (V.indexSl (j := i) rfl el33.slice rfl rfl (by repeat (first | exact List.Mem.head _ | assumption | apply List.Mem.tail)) (by first | rfl | omega) (by omega)) rfl ?_
        refine RL.val (Wanted.free rfl) (V.loadSlDt rfl ag67 rfl (by repeat (first | exact List.Mem.head _ | assumption | apply List.Mem.tail)) (List.getElem?_eq_getElem (by omega))) rfl ?_
        refine RL.eff (Wanted.free rfl) (E.lit1 [vI ts[i].s, vI ts[i].w, vI ts[i].b] rfl el33.slice ze67 rfl (by decide) (by decide) rfl rfl rfl) rfl ?_
        rintro _ _ ⟨b54, rfl, rfl⟩
        refine RL.eff (Wanted.free rfl) (E.append (T := RTorn) rfl rfl rfl el33 el33.noInt rfl rfl (by repeat (first | exact Pick.here | assumption | apply Pick.there)) (Src.litDt (y := ts[i]) (by repeat (first | exact Pick.here | assumption | apply Pick.there)) rfl ⟨to1, to2, to3⟩) (by first | omega | (simp; omega)) (by first | omega | (simp; omega))) rfl ?_
        intro _ _ hK37
        try rw [List.nil_append] at hK37
        try rw [Nat.zero_add] at hK37
        obtain ⟨a55, c55, rfl, rfl⟩ := hK37
        refine RL.val (Wanted.free rfl) (V.assign rfl rfl) rfl ?_
        refine RL.nil ?_
        refine SG.inBlock ?_
        refine SG.region ?_
        refine RL.val (Wanted.free rfl) (V.move rfl rfl) rfl ?_
        refine RL.val (Wanted.free rfl) (V.bin rfl rfl rfl (B.addI (by omega) (by omega))) rfl ?_
        refine RL.val (Wanted.free rfl) (V.assign rfl rfl) rfl ?_
        refine RL.nil ?_
        refine SG.weaken (ih0 _ _ _ ?_ ⟨i + 1, a55, m11 + 1, c55, by omega, by omega, rfl, rfl, rfl⟩) ?_ ?_
        · omega
        · repeat (first | exact EnvLe.nil _ | refine EnvLe.cons rfl ?_)
        · rw [htk, List.filter_append, List.filter_cons_of_pos (by simpa using hyes), List.filter_nil]
          repeat (first | exact Ent.refl _ | (apply Ent.cons; (· repeat (first | exact Pick.here | (refine Pick.sl ?_; (· repeat (first | exact List.Mem.head _ | assumption | apply List.Mem.tail))) | apply Pick.there))) | (refine Ent.trans (Ent.drop _ _) ?_))
      · skip
        have hno := h30
        refine RL.nil ?_
        refine SG.cond_false rfl ?_
        refine SG.skip ?_
        refine SG.inBlock ?_
        refine SG.region ?_
        refine RL.val (Wanted.free rfl) (V.move rfl rfl) rfl ?_
        refine RL.val (Wanted.free rfl) (V.bin rfl rfl rfl (B.addI (by omega) (by omega))) rfl ?_
        refine RL.val (Wanted.free rfl) (V.assign rfl rfl) rfl ?_
        refine RL.nil ?_
        refine SG.weaken (ih0 _ _ _ ?_ ⟨i + 1, a11, m11, c11, by omega, by omega, rfl, rfl, rfl⟩) ?_ ?_
        · omega
        · repeat (first | exact EnvLe.nil _ | refine EnvLe.cons rfl ?_)
        · rw [htk, List.filter_append, List.filter_cons_of_neg (by simpa using hno), List.filter_nil, List.append_nil]
          repeat (first | exact Ent.refl _ | (apply Ent.cons; (· repeat (first | exact Pick.here | (refine Pick.sl ?_; (· repeat (first | exact List.Mem.head _ | assumption | apply List.Mem.tail))) | apply Pick.there))) | (refine Ent.trans (Ent.drop _ _) ?_))
    · skip
      refine RL.val (Wanted.free rfl) (V.pick_true rfl rfl rfl) rfl ?_
      refine RL.nil ?_
      refine SG.cond_false rfl ?_
      refine SG.exit rfl ?_
      refine SG.seq ?_
      have hts : ts.take i = ts.take 40 := by rw [List.take_eq_take_iff]; omega
      rw [hts]
      refine SG.publish (T := RTorn) (a := a11) (by repeat (first | exact Pick.here | assumption | apply Pick.there)) ?_
      refine SG.region ?_
      refine RL.val (Wanted.free rfl) (V.move rfl rfl) rfl ?_
      refine RL.eff (Wanted.free rfl) (E.call rfl go37 rfl (dClone_ok hD (by repeat (first | exact Pick.here | assumption | apply Pick.there)) (by omega))) rfl ?_
      rintro _ _ ⟨b57, rfl, rfl⟩
      refine RL.val (Wanted.free rfl) (V.assign rfl rfl) rfl ?_
      refine RL.nil ?_
      refine SG.seq ?_
      refine SG.seq ?_
      refine SG.region ?_
      refine RL.val (Wanted.free rfl) (V.move rfl rfl) rfl ?_
      refine RL.cmpF (Wanted.free rfl) (V.eqlPtrNil rfl up23 rfl rfl) rfl (by simp) ?_
      refine RL.nil ?_
      refine SG.cond_false rfl ?_
      refine SG.skip ?_
      refine SG.seq ?_
      refine SG.region ?_
      refine RL.val (Wanted.free rfl) (V.move rfl rfl) rfl ?_
      refine RL.val (Wanted.free rfl) (V.move rfl rfl) rfl ?_
      refine RL.val (Wanted.free rfl) (V.move rfl rfl) rfl ?_
      refine RL.val (Wanted.free rfl) (V.len rfl rfl el33.under rfl) rfl ?_
      refine RL.val (Wanted.free rfl) (V.min rfl rfl rfl rfl) rfl ?_
      refine RL.eff (Wanted.free rfl) (E.slice (lo := 0) (hi := min ts.length 40) rfl el33.slice rfl (by repeat (first | exact List.Mem.head _ | assumption | apply List.Mem.tail)) rfl ⟨_, _, rfl, (by first | rfl | omega)⟩ (by omega) (by omega)) rfl ?_
      intro _ _ hK54
      try rw [List.drop_zero] at hK54
      iterate 2 (try rw [Nat.sub_zero] at hK54)
      rw [show ts.take (min ts.length 40) = ts.take 40 from by rw [List.take_eq_take_iff]; omega] at hK54
      obtain ⟨a65, rfl, rfl⟩ := hK54
      refine RL.eff (Wanted.free rfl) (E.call rfl go27 rfl (dRestart_ok hD (by repeat (first | exact Pick.here | assumption | apply Pick.there)) (ts := ts.take 40) (by repeat (first | exact List.Mem.head _ | assumption | apply List.Mem.tail)) (by omega) (by omega))) rfl ?_
      rintro _ _ ⟨rfl, rfl⟩
      refine RL.nil ?_
      refine SG.seq ?_
      refine SG.region ?_
      refine RL.val (Wanted.free rfl) (V.move rfl rfl) rfl ?_
      refine RL.val (Wanted.free rfl) (V.move rfl rfl) rfl ?_
      refine RL.eff (Wanted.free rfl) (E.call rfl go27 rfl (dRestart_ok hD (by repeat (first | exact Pick.here | assumption | apply Pick.there)) (ts := ((ts.take 40).filter fun t => t.s = (kk : Int))) (by repeat (first | exact List.Mem.head _ | assumption | apply List.Mem.tail)) (by omega) (by omega))) rfl ?_
      rintro _ _ ⟨rfl, rfl⟩
      have hR1 := hD.restart (by omega) (ts.take 40)
      have hR2 := hD.restart (by omega) ((ts.take 40).filter fun t => t.s = (kk : Int))
      obtain ⟨hra, hrb⟩ := restart_at (D := D) (ts := ts.take 40) (us := ((ts.take 40).filter fun t => t.s = (kk : Int))) (own_first _ _).symm (by omega)
      refine RL.nil ?_
      refine SG.seq ?_
      refine SG.region ?_
      refine RL.val (Wanted.free rfl) (V.move rfl rfl) rfl ?_
      refine RL.val (Wanted.free rfl) (V.move rfl rfl) rfl ?_
      refine RL.eff (Wanted.free rfl) (E.call rfl go21 rfl (dRead_ok hR1 (by repeat (first | exact Pick.here | assumption | apply Pick.there)) _ (by omega))) rfl ?_
      rintro _ _ ⟨a73, m73, c73, rfl, rfl⟩
      refine RL.val (Wanted.free rfl) (V.move rfl rfl) rfl ?_
      refine RL.val (Wanted.free rfl) (V.extract rfl rfl rfl) rfl ?_
      refine RL.val (Wanted.free rfl) (V.extract rfl rfl rfl) rfl ?_
      refine RL.val (Wanted.free rfl) (V.assign rfl rfl) rfl ?_
      refine RL.val (Wanted.free rfl) (V.assign rfl rfl) rfl ?_
      refine RL.nil ?_
      refine SG.seq ?_
      refine SG.region ?_
      refine RL.val (Wanted.free rfl) (V.move rfl rfl) rfl ?_
      refine RL.val (Wanted.free rfl) (V.move rfl rfl) rfl ?_
      refine RL.eff (Wanted.free rfl) (E.call rfl go21 rfl (dRead_ok hR2 (by repeat (first | exact Pick.here | assumption | apply Pick.there)) _ (by omega))) rfl ?_
      rintro _ _ ⟨a79, m79, c79, rfl, rfl⟩
      rw [← hra]
      refine RL.val (Wanted.free rfl) (V.move rfl rfl) rfl ?_
      refine RL.val (Wanted.free rfl) (V.extract rfl rfl rfl) rfl ?_
      refine RL.val (Wanted.free rfl) (V.extract rfl rfl rfl) rfl ?_
      refine RL.val (Wanted.free rfl) (V.assign rfl rfl) rfl ?_
      refine RL.val (Wanted.free rfl) (V.assign rfl rfl) rfl ?_
      refine RL.nil ?_
      refine SG.seq ?_
      refine SG.region ?_
      refine RL.val (Wanted.free rfl) (V.move rfl rfl) rfl ?_
      refine RL.cmpT (Wanted.free rfl) (V.bin rfl rfl rfl B.eql) rfl hrb ?_
      refine RL.val (Wanted.free rfl) (V.move rfl rfl) rfl ?_
      refine RL.val (Wanted.yes rfl rfl rfl rfl) (V.move rfl rfl) rfl ?_
      refine RL.cmpT (Wanted.yes rfl rfl rfl rfl) (V.bin rfl rfl rfl B.eql) rfl hrb ?_
      refine RL.val (Wanted.free rfl) (V.pick_true rfl rfl rfl) rfl ?_
      refine RL.val (Wanted.free rfl) (V.move rfl rfl) rfl ?_
      refine RL.val (Wanted.yes rfl rfl rfl rfl) (V.move rfl rfl) rfl ?_
      refine RL.val (Wanted.yes rfl rfl rfl rfl) (V.move rfl rfl) rfl ?_
      refine RL.eff (Wanted.yes rfl rfl rfl rfl) (E.call rfl go22 rfl (sameBytes_true (m := m73) (m' := m79) (by first | (apply Seen.sl; (· repeat (first | exact List.Mem.head _ | assumption | apply List.Mem.tail))) | (apply Seen.buf; (· repeat (first | exact Pick.here | apply Pick.there)))) (by first | (apply Seen.sl; (· repeat (first | exact List.Mem.head _ | assumption | apply List.Mem.tail))) | (apply Seen.buf; (· repeat (first | exact Pick.here | apply Pick.there)))) rfl)) rfl ?_
      rintro _ _ ⟨rfl, rfl⟩
      refine RL.val (Wanted.free rfl) (V.pick_true rfl rfl rfl) rfl ?_
      refine RL.val (Wanted.free rfl) (V.move rfl rfl) rfl ?_
      refine RL.eff (Wanted.yes rfl rfl rfl rfl) (E.call rfl go17 rfl (lives_ok)) rfl ?_
      rintro _ _ ⟨rfl, rfl⟩
      refine RL.val (Wanted.free rfl) (V.pick_true rfl rfl rfl) rfl ?_
      refine RL.val (Wanted.free rfl) (V.assign rfl rfl) rfl ?_
      refine RL.nil ?_
      refine SG.retE (Ret.r1 Try.func8 rfl (.tmp rfl)) ?_ ⟨rfl, rfl⟩
      repeat (first | exact Ent.refl _ | (apply Ent.cons; (· repeat (first | exact Pick.here | (refine Pick.sl ?_; (· repeat (first | exact List.Mem.head _ | assumption | apply List.Mem.tail))) | apply Pick.there))) | (refine Ent.trans (Ent.drop _ _) ?_))
  · skip
    refine RL.val (Wanted.free rfl) (V.move rfl rfl) rfl ?_
    refine RL.skip (Wanted.no rfl rfl rfl rfl rfl) rfl ?_
    refine RL.skip (Wanted.no rfl rfl rfl rfl rfl) rfl ?_
    refine RL.val (Wanted.free rfl) (V.pick_false rfl rfl rfl) rfl ?_
    refine RL.nil ?_
    refine SG.cond_false rfl ?_
    refine SG.exit rfl ?_
    refine SG.seq ?_
    have hts : ts.take i = ts.take 40 := by rw [List.take_eq_take_iff]; omega
    rw [hts]
    refine SG.publish (T := RTorn) (a := a11) (by repeat (first | exact Pick.here | assumption | apply Pick.there)) ?_
    refine SG.region ?_
    refine RL.val (Wanted.free rfl) (V.move rfl rfl) rfl ?_
    refine RL.eff (Wanted.free rfl) (E.call rfl go37 rfl (dClone_ok hD (by repeat (first | exact Pick.here | assumption | apply Pick.there)) (by omega))) rfl ?_
    rintro _ _ ⟨b57, rfl, rfl⟩
    refine RL.val (Wanted.free rfl) (V.assign rfl rfl) rfl ?_
    refine RL.nil ?_
    refine SG.seq ?_
    refine SG.seq ?_
    refine SG.region ?_
    refine RL.val (Wanted.free rfl) (V.move rfl rfl) rfl ?_
    refine RL.cmpF (Wanted.free rfl) (V.eqlPtrNil rfl up23 rfl rfl) rfl (by simp) ?_
    refine RL.nil ?_
    refine SG.cond_false rfl ?_
    refine SG.skip ?_
    refine SG.seq ?_
    refine SG.region ?_
    refine RL.val (Wanted.free rfl) (V.move rfl rfl) rfl ?_
    refine RL.val (Wanted.free rfl) (V.move rfl rfl) rfl ?_
    refine RL.val (Wanted.free rfl) (V.move rfl rfl) rfl ?_
    refine RL.val (Wanted.free rfl) (V.len rfl rfl el33.under rfl) rfl ?_
    refine RL.val (Wanted.free rfl) (V.min rfl rfl rfl rfl) rfl ?_
    refine RL.eff (Wanted.free rfl) (E.slice (lo := 0) (hi := min ts.length 40) rfl el33.slice rfl (by repeat (first | exact List.Mem.head _ | assumption | apply List.Mem.tail)) rfl ⟨_, _, rfl, (by first | rfl | omega)⟩ (by omega) (by omega)) rfl ?_
    intro _ _ hK95
    try rw [List.drop_zero] at hK95
    iterate 2 (try rw [Nat.sub_zero] at hK95)
    rw [show ts.take (min ts.length 40) = ts.take 40 from by rw [List.take_eq_take_iff]; omega] at hK95
    obtain ⟨a65, rfl, rfl⟩ := hK95
    refine RL.eff (Wanted.free rfl) (E.call rfl go27 rfl (dRestart_ok hD (by repeat (first | exact Pick.here | assumption | apply Pick.there)) (ts := ts.take 40) (by repeat (first | exact List.Mem.head _ | assumption | apply List.Mem.tail)) (by omega) (by omega))) rfl ?_
    rintro _ _ ⟨rfl, rfl⟩
    refine RL.nil ?_
    refine SG.seq ?_
    refine SG.region ?_
    refine RL.val (Wanted.free rfl) (V.move rfl rfl) rfl ?_
    refine RL.val (Wanted.free rfl) (V.move rfl rfl) rfl ?_
    refine RL.eff (Wanted.free rfl) (E.call rfl go27 rfl (dRestart_ok hD (by repeat (first | exact Pick.here | assumption | apply Pick.there)) (ts := ((ts.take 40).filter fun t => t.s = (kk : Int))) (by repeat (first | exact List.Mem.head _ | assumption | apply List.Mem.tail)) (by omega) (by omega))) rfl ?_
    rintro _ _ ⟨rfl, rfl⟩
    have hR1 := hD.restart (by omega) (ts.take 40)
    have hR2 := hD.restart (by omega) ((ts.take 40).filter fun t => t.s = (kk : Int))
    obtain ⟨hra, hrb⟩ := restart_at (D := D) (ts := ts.take 40) (us := ((ts.take 40).filter fun t => t.s = (kk : Int))) (own_first _ _).symm (by omega)
    refine RL.nil ?_
    refine SG.seq ?_
    refine SG.region ?_
    refine RL.val (Wanted.free rfl) (V.move rfl rfl) rfl ?_
    refine RL.val (Wanted.free rfl) (V.move rfl rfl) rfl ?_
    refine RL.eff (Wanted.free rfl) (E.call rfl go21 rfl (dRead_ok hR1 (by repeat (first | exact Pick.here | assumption | apply Pick.there)) _ (by omega))) rfl ?_
    rintro _ _ ⟨a73, m73, c73, rfl, rfl⟩
    refine RL.val (Wanted.free rfl) (V.move rfl rfl) rfl ?_
    refine RL.val (Wanted.free rfl) (V.extract rfl rfl rfl) rfl ?_
    refine RL.val (Wanted.free rfl) (V.extract rfl rfl rfl) rfl ?_
    refine RL.val (Wanted.free rfl) (V.assign rfl rfl) rfl ?_
    refine RL.val (Wanted.free rfl) (V.assign rfl rfl) rfl ?_
    refine RL.nil ?_
    refine SG.seq ?_
    refine SG.region ?_
    refine RL.val (Wanted.free rfl) (V.move rfl rfl) rfl ?_
    refine RL.val (Wanted.free rfl) (V.move rfl rfl) rfl ?_
    refine RL.eff (Wanted.free rfl) (E.call rfl go21 rfl (dRead_ok hR2 (by repeat (first | exact Pick.here | assumption | apply Pick.there)) _ (by omega))) rfl ?_
    rintro _ _ ⟨a79, m79, c79, rfl, rfl⟩
    rw [← hra]
    refine RL.val (Wanted.free rfl) (V.move rfl rfl) rfl ?_
    refine RL.val (Wanted.free rfl) (V.extract rfl rfl rfl) rfl ?_
    refine RL.val (Wanted.free rfl) (V.extract rfl rfl rfl) rfl ?_
    refine RL.val (Wanted.free rfl) (V.assign rfl rfl) rfl ?_
    refine RL.val (Wanted.free rfl) (V.assign rfl rfl) rfl ?_
    refine RL.nil ?_
    refine SG.seq ?_
    refine SG.region ?_
    refine RL.val (Wanted.free rfl) (V.move rfl rfl) rfl ?_
    refine RL.cmpT (Wanted.free rfl) (V.bin rfl rfl rfl B.eql) rfl hrb ?_
    refine RL.val (Wanted.free rfl) (V.move rfl rfl) rfl ?_
    refine RL.val (Wanted.yes rfl rfl rfl rfl) (V.move rfl rfl) rfl ?_
    refine RL.cmpT (Wanted.yes rfl rfl rfl rfl) (V.bin rfl rfl rfl B.eql) rfl hrb ?_
    refine RL.val (Wanted.free rfl) (V.pick_true rfl rfl rfl) rfl ?_
    refine RL.val (Wanted.free rfl) (V.move rfl rfl) rfl ?_
    refine RL.val (Wanted.yes rfl rfl rfl rfl) (V.move rfl rfl) rfl ?_
    refine RL.val (Wanted.yes rfl rfl rfl rfl) (V.move rfl rfl) rfl ?_
    refine RL.eff (Wanted.yes rfl rfl rfl rfl) (E.call rfl go22 rfl (sameBytes_true (m := m73) (m' := m79) (by first | (apply Seen.sl; (· repeat (first | exact List.Mem.head _ | assumption | apply List.Mem.tail))) | (apply Seen.buf; (· repeat (first | exact Pick.here | apply Pick.there)))) (by first | (apply Seen.sl; (· repeat (first | exact List.Mem.head _ | assumption | apply List.Mem.tail))) | (apply Seen.buf; (· repeat (first | exact Pick.here | apply Pick.there)))) rfl)) rfl ?_
    rintro _ _ ⟨rfl, rfl⟩
    refine RL.val (Wanted.free rfl) (V.pick_true rfl rfl rfl) rfl ?_
    refine RL.val (Wanted.free rfl) (V.move rfl rfl) rfl ?_
    refine RL.eff (Wanted.yes rfl rfl rfl rfl) (E.call rfl go17 rfl (lives_ok)) rfl ?_
    rintro _ _ ⟨rfl, rfl⟩
    refine RL.val (Wanted.free rfl) (V.pick_true rfl rfl rfl) rfl ?_
    refine RL.val (Wanted.free rfl) (V.assign rfl rfl) rfl ?_
    refine RL.nil ?_
    refine SG.retE (Ret.r1 Try.func8 rfl (.tmp rfl)) ?_ ⟨rfl, rfl⟩
    repeat (first | exact Ent.refl _ | (apply Ent.cons; (· repeat (first | exact Pick.here | (refine Pick.sl ?_; (· repeat (first | exact List.Mem.head _ | assumption | apply List.Mem.tail))) | apply Pick.there))) | (refine Ent.trans (Ent.drop _ _) ?_))

set_option maxRecDepth 100000 in
theorem again_law {κ : World} {L : List Assn} {a at_ : Option Addr} {n0 c nt ct : Nat} {l : List OpD} {ts : List Torn} (n : Int) (h1 : -9223372036854775808 ≤ n) (h2 : n ≤ 9223372036854775807) (hm : Sl ROp a n0 c l ∈ L) (hmt : Sl RTorn at_ nt ct ts ∈ L) {am : Option Addr} {nm cm : Nat} {ms : List Torn} (hmm : Sl RTorn am nm cm ms ∈ L) :
    Ctr Try.prog 9 #[vI n, .slice a n0 c, .slice at_ nt ct, .slice am nm cm] κ L (fun v M => v = vB true ∧ M = L) := by
  refine Ctr.enter (vs := [vI n, .slice a n0 c, .slice at_ nt ct, .slice am nm cm]) (m := 86) Try.func9 rfl rfl rfl ?_
  refine SG.sl hmt fun htl htlc htc => ?_
  subst htl
  refine SG.fact (fun w hs => Sep.slOk hs hmt) fun hok => ?_
  refine SG.sl hmm fun hml hmlc hmc => ?_
  subst hml
  refine SG.seq ?_
  refine SG.region ?_
  refine RL.val (Wanted.free rfl) (V.assign rfl rfl) rfl ?_
  refine RL.nil ?_
  refine SG.seq ?_
  refine SG.region ?_
  refine RL.val (Wanted.free rfl) (V.move rfl rfl) rfl ?_
  refine RL.val (Wanted.free rfl) (V.move rfl rfl) rfl ?_
  refine RL.eff (Wanted.free rfl) (E.call rfl go35 rfl (written_ok n h1 h2 hm)) rfl ?_
  rintro _ _ ⟨b, D, rfl, hD, hC, h16, rfl⟩
  refine RL.val (Wanted.free rfl) (V.assign rfl rfl) rfl ?_
  refine RL.nil ?_
  refine SG.seq ?_
  refine SG.seq ?_
  refine SG.region ?_
  refine RL.val (Wanted.free rfl) (V.move rfl rfl) rfl ?_
  refine RL.cmpF (Wanted.free rfl) (V.eqlPtrNil rfl up23 rfl rfl) rfl (by simp) ?_
  refine RL.nil ?_
  refine SG.cond_false rfl ?_
  refine SG.skip ?_
  refine SG.seq ?_
  refine SG.region ?_
  refine RL.val (Wanted.free rfl) (V.move rfl rfl) rfl ?_
  refine RL.eff (Wanted.free rfl) (E.call rfl go37 rfl (dClone_ok hD (by repeat (first | exact Pick.here | assumption | apply Pick.there)) (by omega))) rfl ?_
  rintro _ _ ⟨b22, rfl, rfl⟩
  refine RL.val (Wanted.free rfl) (V.assign rfl rfl) rfl ?_
  refine RL.nil ?_
  refine SG.seq ?_
  refine SG.region ?_
  refine RL.val (Wanted.free rfl) (V.move rfl rfl) rfl ?_
  refine RL.eff (Wanted.free rfl) (E.call rfl go37 rfl (dClone_ok hD (by repeat (first | exact Pick.here | assumption | apply Pick.there)) (by omega))) rfl ?_
  rintro _ _ ⟨b24, rfl, rfl⟩
  refine RL.val (Wanted.free rfl) (V.assign rfl rfl) rfl ?_
  refine RL.nil ?_
  refine SG.seq ?_
  refine SG.seq ?_
  refine SG.region ?_
  refine RL.val (Wanted.free rfl) (V.move rfl rfl) rfl ?_
  refine RL.cmpF (Wanted.free rfl) (V.eqlPtrNil rfl up23 rfl rfl) rfl (by simp) ?_
  refine RL.val (Wanted.free rfl) (V.move rfl rfl) rfl ?_
  refine RL.val (Wanted.yes rfl rfl rfl rfl) (V.move rfl rfl) rfl ?_
  refine RL.cmpF (Wanted.yes rfl rfl rfl rfl) (V.eqlPtrNil rfl up23 rfl rfl) rfl (by simp) ?_
  refine RL.val (Wanted.free rfl) (V.pick_false rfl rfl rfl) rfl ?_
  refine RL.nil ?_
  refine SG.cond_false rfl ?_
  refine SG.skip ?_
  refine SG.seq ?_
  refine SG.region ?_
  refine RL.val (Wanted.free rfl) (V.assign rfl rfl) rfl ?_
  refine RL.nil ?_
  refine SG.seq ?_
  refine SG.seq ?_
  refine SG.region ?_
  refine RL.val (Wanted.free rfl) (V.assign rfl rfl) rfl ?_
  refine RL.nil ?_
  refine SG.block ?_
  refine SG.ent (Buf.nil (T := RTorn) (e := 67)) ?_
  have hlen := hD.len
  refine SG.weaken (SG.loop2 (fun m al M => ∃ (i : Nat) (a12 : Option Addr) (m12 c12 : Nat), i ≤ D.S.length ∧ m = D.S.length - i ∧ al = [(2, .slice at_ ts.length ct), (3, .slice am ms.length cm), (9, ptr b 0), (10, ptr b22 0), (11, ptr b24 0), (12, .slice a12 m12 c12), (13, vI i)] ∧ M = Buf RTorn 67 a12 m12 c12 (allT i) :: Dsk b24 D :: Dsk b22 D :: Dsk b D :: L) (m0 := _) ⟨0, none, 0, 0, by omega, rfl, rfl, rfl⟩ ?_) ?_ ?_
  rotate_left
  · repeat (first | exact EnvLe.nil _ | refine EnvLe.cons rfl ?_)
  · repeat (first | exact Ent.refl _ | (apply Ent.cons; (· repeat (first | exact Pick.here | (refine Pick.sl ?_; (· repeat (first | exact List.Mem.head _ | assumption | apply List.Mem.tail))) | apply Pick.there))) | (refine Ent.trans (Ent.drop _ _) ?_))
  rintro _ _ _ ⟨i, a12, m12, c12, hi, rfl, rfl, rfl⟩ ih0
  refine SG.buf (T := RTorn) (a := a12) (by repeat (first | exact Pick.here | assumption | apply Pick.there)) fun hm12 _ _ => ?_
  rw [show (allT i).length = i from by simp [allT]] at hm12
  refine SG.seq ?_
  refine SG.seq ?_
  refine SG.region ?_
  refine RL.val (Wanted.free rfl) (V.move rfl rfl) rfl ?_
  refine RL.val (Wanted.free rfl) (V.move rfl rfl) rfl ?_
  refine RL.eff (Wanted.free rfl) (E.call rfl go20 rfl (dLen_ok hD (b := b) (L1 := Buf RTorn 67 a12 m12 c12 (allT i) :: Dsk b24 D :: Dsk b22 D :: L) (by repeat (first | exact Pick.here | assumption | apply Pick.there)))) rfl ?_
  rintro _ _ ⟨rfl, rfl⟩
  refine RL.cmp (Wanted.free rfl) (V.bin rfl rfl rfl B.lss) rfl (fun h21 => ?_) (fun h21 => ?_)
  · skip
    refine RL.nil ?_
    refine SG.cond_true rfl ?_
    refine SG.skip ?_
    refine SG.seq ?_
    refine SG.block ?_
    have hk1000 : inInt 1000 := by unfold inInt; decide
    have hk0 : inInt 0 := by unfold inInt; decide
    have hki : inInt (i : Int) := by unfold inInt; omega
    refine SG.region ?_
    refine RL.val (Wanted.free rfl) (V.move rfl rfl) rfl ?_
    refine RL.val (Wanted.free rfl) (V.move rfl rfl) rfl ?_
    refine RL.val (Wanted.free rfl) (V.buildS [(0, _), (1, _)] rfl bs67 (by exact ⟨rfl, ⟨_, rfl, rfl⟩, ⟨rfl, ⟨_, rfl, rfl⟩, trivial⟩⟩) rfl) rfl ?_
    refine RL.eff (Wanted.free rfl) (E.lit1 [vI i, vI 1000, vI 0] rfl el33.slice ze67 rfl (by decide) (by decide) rfl rfl rfl) rfl ?_
    rintro _ _ ⟨b40, rfl, rfl⟩
    refine RL.eff (Wanted.free rfl) (E.append (T := RTorn) rfl rfl rfl el33 el33.noInt rfl rfl (by repeat (first | exact Pick.here | assumption | apply Pick.there)) (Src.litDt (y := ⟨i, 1000, 0⟩) (by repeat (first | exact Pick.here | assumption | apply Pick.there)) rfl ⟨hki, hk1000, hk0⟩) (by first | omega | (simp; omega)) (by first | omega | (simp; omega))) rfl ?_
    intro _ _ hK26
    try rw [List.nil_append] at hK26
    try rw [Nat.zero_add] at hK26
    obtain ⟨a41, c41, rfl, rfl⟩ := hK26
    refine RL.val (Wanted.free rfl) (V.assign rfl rfl) rfl ?_
    refine RL.nil ?_
    refine SG.inBlock ?_
    refine SG.region ?_
    refine RL.val (Wanted.free rfl) (V.move rfl rfl) rfl ?_
    refine RL.val (Wanted.free rfl) (V.bin rfl rfl rfl (B.addI (by omega) (by omega))) rfl ?_
    refine RL.val (Wanted.free rfl) (V.assign rfl rfl) rfl ?_
    refine RL.nil ?_
    refine SG.weaken (ih0 _ _ _ ?_ ⟨i + 1, a41, m12 + 1, c41, by omega, rfl, rfl, rfl⟩) ?_ ?_
    · omega
    · repeat (first | exact EnvLe.nil _ | refine EnvLe.cons rfl ?_)
    · rw [allT_succ]
      repeat (first | exact Ent.refl _ | (apply Ent.cons; (· repeat (first | exact Pick.here | (refine Pick.sl ?_; (· repeat (first | exact List.Mem.head _ | assumption | apply List.Mem.tail))) | apply Pick.there))) | (refine Ent.trans (Ent.drop _ _) ?_))
  · skip
    refine RL.nil ?_
    refine SG.cond_false rfl ?_
    refine SG.exit rfl ?_
    refine SG.seq ?_
    obtain rfl : i = D.S.length := by omega
    refine SG.publish (T := RTorn) (a := a12) (by repeat (first | exact Pick.here | assumption | apply Pick.there)) ?_
    have hall := restart_all hD (by omega) hC
    have hR := hD.restart (by omega) (allT D.S.length)
    have hF := hD.flush (by omega)
    refine SG.region ?_
    refine RL.val (Wanted.free rfl) (V.move rfl rfl) rfl ?_
    refine RL.val (Wanted.free rfl) (V.move rfl rfl) rfl ?_
    refine RL.eff (Wanted.free rfl) (E.call rfl go27 rfl (dRestart_ok hD (b := b22) (L1 := Sl RTorn a12 m12 c12 (allT D.S.length) :: Dsk b24 D :: Dsk b D :: L) (by repeat (first | exact Ent.refl _ | (apply Ent.cons; (· repeat (first | exact Pick.here | (refine Pick.sl ?_; (· repeat (first | exact List.Mem.head _ | assumption | apply List.Mem.tail))) | apply Pick.there))) | (refine Ent.trans (Ent.drop _ _) ?_))) (ts := allT D.S.length) (by repeat (first | exact List.Mem.head _ | assumption | apply List.Mem.tail)) (by omega) (by omega))) rfl ?_
    rintro _ _ ⟨rfl, rfl⟩
    rw [hall]
    refine RL.nil ?_
    refine SG.seq ?_
    refine SG.region ?_
    refine RL.val (Wanted.free rfl) (V.move rfl rfl) rfl ?_
    refine RL.eff (Wanted.free rfl) (E.call rfl go30 rfl (dFlush_ok hD (b := b24) (L1 := Dsk b22 D.flush :: Sl RTorn a12 m12 c12 (allT D.S.length) :: Dsk b D :: L) (by repeat (first | exact Ent.refl _ | (apply Ent.cons; (· repeat (first | exact Pick.here | (refine Pick.sl ?_; (· repeat (first | exact List.Mem.head _ | assumption | apply List.Mem.tail))) | apply Pick.there))) | (refine Ent.trans (Ent.drop _ _) ?_))) (by omega))) rfl ?_
    rintro _ _ ⟨rfl, rfl⟩
    rw [hC.flushE]
    refine RL.val (Wanted.free rfl) (V.assign rfl rfl) rfl ?_
    refine RL.nil ?_
    refine SG.seq ?_
    refine SG.seq ?_
    refine SG.region ?_
    refine RL.val (Wanted.free rfl) (V.move rfl rfl) rfl ?_
    refine RL.cmpF (Wanted.free rfl) (V.bin rfl rfl rfl B.neq) rfl (by simp) ?_
    refine RL.val (Wanted.free rfl) (V.move rfl rfl) rfl ?_
    refine RL.val (Wanted.yes rfl rfl rfl rfl) (V.move rfl rfl) rfl ?_
    refine RL.val (Wanted.yes rfl rfl rfl rfl) (V.move rfl rfl) rfl ?_
    refine RL.eff (Wanted.yes rfl rfl rfl rfl) (E.call rfl go38 rfl (equal_ok hF hF (by repeat (first | exact Ent.refl _ | (apply Ent.cons; (· repeat (first | exact Pick.here | (refine Pick.sl ?_; (· repeat (first | exact List.Mem.head _ | assumption | apply List.Mem.tail))) | apply Pick.there))) | (refine Ent.trans (Ent.drop _ _) ?_))) (by omega) rfl rfl (fun _ _ => rfl))) rfl ?_
    rintro _ _ ⟨rfl, rfl⟩
    refine RL.val (Wanted.yes rfl rfl rfl rfl) (V.not rfl rfl) rfl ?_
    refine RL.val (Wanted.free rfl) (V.pick_false rfl rfl rfl) rfl ?_
    refine RL.nil ?_
    refine SG.cond_false rfl ?_
    refine SG.skip ?_
    refine SG.seq ?_
    refine SG.ent (Sl.nil (T := RTorn)) ?_
    refine SG.region ?_
    refine RL.val (Wanted.free rfl) (V.move rfl rfl) rfl ?_
    refine RL.eff (Wanted.free rfl) (E.call rfl go27 rfl (dRestart_ok hF (b := b24) (L1 := Sl RTorn none 0 0 [] :: Dsk b22 D.flush :: Sl RTorn a12 m12 c12 (allT D.S.length) :: Dsk b D :: L) (by repeat (first | exact Ent.refl _ | (apply Ent.cons; (· repeat (first | exact Pick.here | (refine Pick.sl ?_; (· repeat (first | exact List.Mem.head _ | assumption | apply List.Mem.tail))) | apply Pick.there))) | (refine Ent.trans (Ent.drop _ _) ?_))) (ts := []) (by repeat (first | exact List.Mem.head _ | assumption | apply List.Mem.tail)) (by omega) (by omega))) rfl ?_
    rintro _ _ ⟨rfl, rfl⟩
    rw [flush_restart hC]
    refine RL.nil ?_
    refine SG.seq ?_
    refine SG.region ?_
    refine RL.val (Wanted.free rfl) (V.move rfl rfl) rfl ?_
    refine RL.val (Wanted.free rfl) (V.move rfl rfl) rfl ?_
    refine RL.val (Wanted.free rfl) (V.move rfl rfl) rfl ?_
    refine RL.val (Wanted.free rfl) (V.len rfl rfl el33.under rfl) rfl ?_
    refine RL.val (Wanted.free rfl) (V.min rfl rfl rfl rfl) rfl ?_
    refine RL.eff (Wanted.free rfl) (E.slice (lo := 0) (hi := min ts.length 40) rfl el33.slice rfl (by repeat (first | exact List.Mem.head _ | assumption | apply List.Mem.tail)) rfl ⟨_, _, rfl, (by first | rfl | omega)⟩ (by omega) (by omega)) rfl ?_
    intro _ _ hK49
    try rw [List.drop_zero] at hK49
    iterate 2 (try rw [Nat.sub_zero] at hK49)
    rw [show ts.take (min ts.length 40) = ts.take 40 from by rw [List.take_eq_take_iff]; omega] at hK49
    obtain ⟨a62, rfl, rfl⟩ := hK49
    refine RL.eff (Wanted.free rfl) (E.call rfl go27 rfl (dRestart_ok hD (by repeat (first | exact Pick.here | assumption | apply Pick.there)) (ts := ts.take 40) (by repeat (first | exact List.Mem.head _ | assumption | apply List.Mem.tail)) (by omega) (by omega))) rfl ?_
    rintro _ _ ⟨rfl, rfl⟩
    have hR2 := hD.restart (by omega) (ts.take 40)
    refine RL.nil ?_
    refine SG.seq ?_
    refine SG.region ?_
    refine RL.val (Wanted.free rfl) (V.move rfl rfl) rfl ?_
    refine RL.eff (Wanted.free rfl) (E.call rfl go37 rfl (dClone_ok hR2 (by repeat (first | exact Pick.here | assumption | apply Pick.there)) (by omega))) rfl ?_
    rintro _ _ ⟨b65, rfl, rfl⟩
    refine RL.val (Wanted.free rfl) (V.assign rfl rfl) rfl ?_
    refine RL.nil ?_
    refine SG.seq ?_
    refine SG.seq ?_
    refine SG.region ?_
    refine RL.val (Wanted.free rfl) (V.move rfl rfl) rfl ?_
    refine RL.cmpF (Wanted.free rfl) (V.eqlPtrNil rfl up23 rfl rfl) rfl (by simp) ?_
    refine RL.nil ?_
    refine SG.cond_false rfl ?_
    refine SG.skip ?_
    refine SG.seq ?_
    refine SG.region ?_
    refine RL.val (Wanted.free rfl) (V.move rfl rfl) rfl ?_
    refine RL.val (Wanted.free rfl) (V.move rfl rfl) rfl ?_
    refine RL.val (Wanted.free rfl) (V.move rfl rfl) rfl ?_
    refine RL.val (Wanted.free rfl) (V.len rfl rfl el33.under rfl) rfl ?_
    refine RL.val (Wanted.free rfl) (V.min rfl rfl rfl rfl) rfl ?_
    refine RL.eff (Wanted.free rfl) (E.slice (lo := 0) (hi := min ms.length 40) rfl el33.slice rfl (by repeat (first | exact List.Mem.head _ | assumption | apply List.Mem.tail)) rfl ⟨_, _, rfl, (by first | rfl | omega)⟩ (by omega) (by omega)) rfl ?_
    intro _ _ hK60
    try rw [List.drop_zero] at hK60
    iterate 2 (try rw [Nat.sub_zero] at hK60)
    rw [show ms.take (min ms.length 40) = ms.take 40 from by rw [List.take_eq_take_iff]; omega] at hK60
    obtain ⟨a73, rfl, rfl⟩ := hK60
    refine RL.eff (Wanted.free rfl) (E.call rfl go27 rfl (dRestart_ok hR2 (by repeat (first | exact Pick.here | assumption | apply Pick.there)) (ts := ms.take 40) (by repeat (first | exact List.Mem.head _ | assumption | apply List.Mem.tail)) (by omega) (by omega))) rfl ?_
    rintro _ _ ⟨rfl, rfl⟩
    rw [restart_twice]
    refine RL.nil ?_
    refine SG.seq ?_
    refine SG.region ?_
    refine RL.val (Wanted.free rfl) (V.move rfl rfl) rfl ?_
    refine RL.val (Wanted.free rfl) (V.move rfl rfl) rfl ?_
    refine RL.eff (Wanted.free rfl) (E.call rfl go38 rfl (equal_ok hF hF (by repeat (first | exact Ent.refl _ | (apply Ent.cons; (· repeat (first | exact Pick.here | (refine Pick.sl ?_; (· repeat (first | exact List.Mem.head _ | assumption | apply List.Mem.tail))) | apply Pick.there))) | (refine Ent.trans (Ent.drop _ _) ?_))) (by omega) rfl rfl (fun _ _ => rfl))) rfl ?_
    rintro _ _ ⟨rfl, rfl⟩
    refine RL.val (Wanted.free rfl) (V.move rfl rfl) rfl ?_
    refine RL.val (Wanted.yes rfl rfl rfl rfl) (V.move rfl rfl) rfl ?_
    refine RL.val (Wanted.yes rfl rfl rfl rfl) (V.move rfl rfl) rfl ?_
    refine RL.eff (Wanted.yes rfl rfl rfl rfl) (E.call rfl go38 rfl (equal_ok hR2 hR2 (by repeat (first | exact Ent.refl _ | (apply Ent.cons; (· repeat (first | exact Pick.here | (refine Pick.sl ?_; (· repeat (first | exact List.Mem.head _ | assumption | apply List.Mem.tail))) | apply Pick.there))) | (refine Ent.trans (Ent.drop _ _) ?_))) (by omega) rfl rfl (fun _ _ => rfl))) rfl ?_
    rintro _ _ ⟨rfl, rfl⟩
    refine RL.val (Wanted.free rfl) (V.pick_true rfl rfl rfl) rfl ?_
    refine RL.val (Wanted.free rfl) (V.move rfl rfl) rfl ?_
    refine RL.eff (Wanted.yes rfl rfl rfl rfl) (E.call rfl go17 rfl (lives_ok)) rfl ?_
    rintro _ _ ⟨rfl, rfl⟩
    refine RL.val (Wanted.free rfl) (V.pick_true rfl rfl rfl) rfl ?_
    refine RL.val (Wanted.free rfl) (V.assign rfl rfl) rfl ?_
    refine RL.nil ?_
    refine SG.retE (Ret.r1 Try.func9 rfl (.tmp rfl)) ?_ ⟨rfl, rfl⟩
    repeat (first | exact Ent.refl _ | (apply Ent.cons; (· repeat (first | exact Pick.here | (refine Pick.sl ?_; (· repeat (first | exact List.Mem.head _ | assumption | apply List.Mem.tail))) | apply Pick.there))) | (refine Ent.trans (Ent.drop _ _) ?_))

set_option maxRecDepth 100000 in
theorem clones_law {κ : World} {L : List Assn} {a am : Option Addr} {n0 c nm cm : Nat} {l ms : List OpD} (n : Int) (h1 : -9223372036854775808 ≤ n) (h2 : n ≤ 9223372036854775807) (hm : Sl ROp a n0 c l ∈ L) (hmm : Sl ROp am nm cm ms ∈ L) :
    Ctr Try.prog 10 #[vI n, .slice a n0 c, .slice am nm cm] κ L (fun v M => v = vB true ∧ M = L) := by
  refine Ctr.enter (vs := [vI n, .slice a n0 c, .slice am nm cm]) (m := 75) Try.func10 rfl rfl rfl ?_
  refine SG.sl hmm fun hml hmlc hmc => ?_
  subst hml
  refine SG.seq ?_
  refine SG.region ?_
  refine RL.val (Wanted.free rfl) (V.assign rfl rfl) rfl ?_
  refine RL.nil ?_
  refine SG.seq ?_
  refine SG.region ?_
  refine RL.val (Wanted.free rfl) (V.move rfl rfl) rfl ?_
  refine RL.val (Wanted.free rfl) (V.move rfl rfl) rfl ?_
  refine RL.eff (Wanted.free rfl) (E.call rfl go35 rfl (written_ok n h1 h2 hm)) rfl ?_
  rintro _ _ ⟨b, D, rfl, hD, hC, h16, rfl⟩
  refine RL.val (Wanted.free rfl) (V.assign rfl rfl) rfl ?_
  refine RL.nil ?_
  refine SG.seq ?_
  refine SG.seq ?_
  refine SG.region ?_
  refine RL.val (Wanted.free rfl) (V.move rfl rfl) rfl ?_
  refine RL.cmpF (Wanted.free rfl) (V.eqlPtrNil rfl up23 rfl rfl) rfl (by simp) ?_
  refine RL.val (Wanted.free rfl) (V.move rfl rfl) rfl ?_
  have hlen := hD.len
  refine RL.val (Wanted.yes rfl rfl rfl rfl) (V.move rfl rfl) rfl ?_
  refine RL.eff (Wanted.yes rfl rfl rfl rfl) (E.call rfl go20 rfl (dLen_ok hD (by repeat (first | exact Pick.here | assumption | apply Pick.there)))) rfl ?_
  rintro _ _ ⟨rfl, rfl⟩
  refine RL.cmpF (Wanted.yes rfl rfl rfl rfl) (V.bin rfl rfl rfl B.eql) rfl (by omega) ?_
  refine RL.val (Wanted.free rfl) (V.pick_false rfl rfl rfl) rfl ?_
  refine RL.nil ?_
  refine SG.cond_false rfl ?_
  refine SG.skip ?_
  refine SG.seq ?_
  refine SG.region ?_
  refine RL.val (Wanted.free rfl) (V.move rfl rfl) rfl ?_
  refine RL.eff (Wanted.free rfl) (E.call rfl go37 rfl (dClone_ok hD (by repeat (first | exact Pick.here | assumption | apply Pick.there)) (by omega))) rfl ?_
  rintro _ _ ⟨b22, rfl, rfl⟩
  refine RL.val (Wanted.free rfl) (V.assign rfl rfl) rfl ?_
  refine RL.nil ?_
  refine SG.seq ?_
  refine SG.seq ?_
  refine SG.region ?_
  refine RL.val (Wanted.free rfl) (V.move rfl rfl) rfl ?_
  refine RL.cmpF (Wanted.free rfl) (V.eqlPtrNil rfl up23 rfl rfl) rfl (by simp) ?_
  refine RL.val (Wanted.free rfl) (V.move rfl rfl) rfl ?_
  refine RL.val (Wanted.yes rfl rfl rfl rfl) (V.move rfl rfl) rfl ?_
  refine RL.val (Wanted.yes rfl rfl rfl rfl) (V.move rfl rfl) rfl ?_
  refine RL.eff (Wanted.yes rfl rfl rfl rfl) (E.call rfl go38 rfl (equal_ok hD hD (by repeat (first | exact Ent.refl _ | (apply Ent.cons; (· repeat (first | exact Pick.here | (refine Pick.sl ?_; (· repeat (first | exact List.Mem.head _ | assumption | apply List.Mem.tail))) | apply Pick.there))) | (refine Ent.trans (Ent.drop _ _) ?_))) (by omega) rfl rfl (fun _ _ => rfl))) rfl ?_
  rintro _ _ ⟨rfl, rfl⟩
  refine RL.val (Wanted.yes rfl rfl rfl rfl) (V.not rfl rfl) rfl ?_
  refine RL.val (Wanted.free rfl) (V.pick_false rfl rfl rfl) rfl ?_
  refine RL.nil ?_
  refine SG.cond_false rfl ?_
  refine SG.skip ?_
  refine SG.seq ?_
  refine SG.region ?_
  refine RL.val (Wanted.free rfl) (V.move rfl rfl) rfl ?_
  refine RL.eff (Wanted.free rfl) (E.call rfl go37 rfl (dClone_ok hD (b := b) (L1 := Dsk b22 D :: L) (by repeat (first | exact Ent.refl _ | (apply Ent.cons; (· repeat (first | exact Pick.here | (refine Pick.sl ?_; (· repeat (first | exact List.Mem.head _ | assumption | apply List.Mem.tail))) | apply Pick.there))) | (refine Ent.trans (Ent.drop _ _) ?_))) (by omega))) rfl ?_
  rintro _ _ ⟨b32, rfl, rfl⟩
  refine RL.val (Wanted.free rfl) (V.assign rfl rfl) rfl ?_
  refine RL.nil ?_
  refine SG.seq ?_
  refine SG.seq ?_
  refine SG.region ?_
  refine RL.val (Wanted.free rfl) (V.move rfl rfl) rfl ?_
  refine RL.cmpF (Wanted.free rfl) (V.eqlPtrNil rfl up23 rfl rfl) rfl (by simp) ?_
  refine RL.nil ?_
  refine SG.cond_false rfl ?_
  refine SG.skip ?_
  refine SG.seq ?_
  refine SG.seq ?_
  refine SG.region ?_
  refine RL.val (Wanted.free rfl) (V.assign rfl rfl) rfl ?_
  refine RL.nil ?_
  refine SG.block ?_
  refine SG.weaken (SG.loop2 (fun m al M => ∃ (i : Nat) (E1 : Dk), i ≤ ms.length ∧ i ≤ 20 ∧ m = 20 - i ∧ E1.ok (41 + i) ∧ al = [(2, .slice am ms.length cm), (7, ptr b 0), (8, ptr b22 0), (9, ptr b32 0), (10, vI i)] ∧ M = Dsk b22 E1 :: Dsk b32 D :: Dsk b D :: L) (m0 := _) ⟨0, D, by omega, by omega, rfl, hD, rfl, rfl⟩ ?_) ?_ ?_
  rotate_left
  · repeat (first | exact EnvLe.nil _ | refine EnvLe.cons rfl ?_)
  · repeat (first | exact Ent.refl _ | (apply Ent.cons; (· repeat (first | exact Pick.here | (refine Pick.sl ?_; (· repeat (first | exact List.Mem.head _ | assumption | apply List.Mem.tail))) | apply Pick.there))) | (refine Ent.trans (Ent.drop _ _) ?_))
  rintro _ _ _ ⟨i, E1, hi, hi20, rfl, hE, rfl, rfl⟩ ih0
  have hlenE := hE.len
  refine SG.seq ?_
  refine SG.seq ?_
  refine SG.region ?_
  refine RL.val (Wanted.free rfl) (V.move rfl rfl) rfl ?_
  refine RL.val (Wanted.free rfl) (V.move rfl rfl) rfl ?_
  refine RL.val (Wanted.free rfl) (V.len rfl rfl el22.under rfl) rfl ?_
  refine RL.cmp (Wanted.free rfl) (V.bin rfl rfl rfl B.lss) rfl (fun h26 => ?_) (fun h26 => ?_)
  · skip
    refine RL.val (Wanted.free rfl) (V.move rfl rfl) rfl ?_
    refine RL.val (Wanted.yes rfl rfl rfl rfl) (V.move rfl rfl) rfl ?_
    refine RL.cmp (Wanted.yes rfl rfl rfl rfl) (V.bin rfl rfl rfl B.lss) rfl (fun h29 => ?_) (fun h29 => ?_)
    · skip
      refine RL.val (Wanted.free rfl) (V.pick_true rfl rfl rfl) rfl ?_
      refine RL.nil ?_
      refine SG.cond_true rfl ?_
      refine SG.skip ?_
      refine SG.seq ?_
      refine SG.block ?_
      refine SG.elemOp (a := am) (by repeat (first | exact List.Mem.head _ | assumption | apply List.Mem.tail)) (show ms[i]? = some ms[i] from List.getElem?_eq_getElem (by omega)) fun ab mb cb al0 ml cl hok => ?_
      obtain ⟨ho1, ho2, ho3⟩ := hok
      unfold inInt at ho1 ho2 ho3
      obtain ⟨kk, hkk, hkk2⟩ := aroundV_nat (n := ms[i].k) (most := (E1.S.length : Int)) (by omega)
      refine SG.ent (Sl.nil (T := R8)) ?_
      refine SG.drawN 16 16 (Sl R8 none 0 0 [] :: At am (i * 5) [vI ms[i].kind, vI ms[i].k, vI ms[i].n, .slice ab mb cb, .slice al0 ml cl] :: L) wide rfl rfl (by repeat (first | exact Ent.refl _ | (apply Ent.cons; (· repeat (first | exact Pick.here | (refine Pick.sl ?_; (· repeat (first | exact List.Mem.head _ | assumption | apply List.Mem.tail))) | apply Pick.there))) | (refine Ent.trans (Ent.drop _ _) ?_))) ?_
      refine RH.val 0 rfl (by kernel_rfl) (by kernel_rfl) (by kernel_rfl) (by kernel_rfl) (Wanted.free rfl) (V.move rfl rfl) rfl ?_
      refine RH.val 1 rfl (by kernel_rfl) (by kernel_rfl) (by kernel_rfl) (by kernel_rfl) (Wanted.free rfl) (V.move rfl rfl) rfl ?_
      refine RH.val 2 rfl (by kernel_rfl) (by kernel_rfl) (by kernel_rfl) (by kernel_rfl) (Wanted.free rfl) (V.move rfl rfl) rfl ?_
      refine RH.val 3 rfl (by kernel_rfl) (by kernel_rfl) (by kernel_rfl) (by kernel_rfl) (Wanted.free rfl) (V.indexSl (j := i) rfl el22.slice rfl rfl (by repeat (first | exact List.Mem.head _ | assumption | apply List.Mem.tail)) (by first | rfl | omega) (by omega)) rfl ?_
      refine RH.val 4 rfl (by kernel_rfl) (by kernel_rfl) (by kernel_rfl) (by kernel_rfl) (Wanted.free rfl) (V.fieldAt rfl rfl fo35_1 (by repeat (first | exact List.Mem.head _ | assumption | apply List.Mem.tail))) rfl ?_
      refine RH.val 5 rfl (by kernel_rfl) (by kernel_rfl) (by kernel_rfl) (by kernel_rfl) (Wanted.free rfl) (V.loadAtF rfl on3 rfl (by repeat (first | exact List.Mem.head _ | assumption | apply List.Mem.tail)) rfl) rfl ?_
      refine RH.val 6 rfl (by kernel_rfl) (by kernel_rfl) (by kernel_rfl) (by kernel_rfl) (Wanted.free rfl) (V.move rfl rfl) rfl ?_
      refine RH.val 9 rfl (by kernel_rfl) (by kernel_rfl) (by kernel_rfl) (by kernel_rfl) (Wanted.free rfl) (V.move rfl rfl) rfl ?_
      refine RH.val 10 rfl (by kernel_rfl) (by kernel_rfl) (by kernel_rfl) (by kernel_rfl) (Wanted.free rfl) (V.move rfl rfl) rfl ?_
      refine RH.val 11 rfl (by kernel_rfl) (by kernel_rfl) (by kernel_rfl) (by kernel_rfl) (Wanted.free rfl) (V.indexSl (j := i) rfl el22.slice rfl rfl (by repeat (first | exact List.Mem.head _ | assumption | apply List.Mem.tail)) (by first | rfl | omega) (by omega)) rfl ?_
      refine RH.val 12 rfl (by kernel_rfl) (by kernel_rfl) (by kernel_rfl) (by kernel_rfl) (Wanted.free rfl) (V.fieldAt rfl rfl fo35_2 (by repeat (first | exact List.Mem.head _ | assumption | apply List.Mem.tail))) rfl ?_
      refine RH.val 13 rfl (by kernel_rfl) (by kernel_rfl) (by kernel_rfl) (by kernel_rfl) (Wanted.free rfl) (V.loadAtF rfl on3 rfl (by repeat (first | exact List.Mem.head _ | assumption | apply List.Mem.tail)) rfl) rfl ?_
      refine RH.one (i := 7) (by kernel_rfl) ?_
      refine RHone.eff rfl (Wanted.free rfl) (E.call rfl go20 rfl (dLen_ok hE (b := b22) (by repeat (first | exact Pick.here | assumption | apply Pick.there)))) rfl ?_
      rintro _ _ ⟨rfl, rfl⟩
      refine ⟨.inr (by repeat (first | exact Ent.refl _ | (apply Ent.cons; (· repeat (first | exact Pick.here | (refine Pick.sl ?_; (· repeat (first | exact List.Mem.head _ | assumption | apply List.Mem.tail))) | apply Pick.there))) | (refine Ent.trans (Ent.drop _ _) ?_))), ?_⟩
      refine RH.one (i := 8) (by kernel_rfl) ?_
      refine RHone.eff rfl (Wanted.free rfl) (E.call rfl go14 rfl (around_ok _ _ (by omega) (by omega) (by omega))) rfl ?_
      rintro _ _ ⟨rfl, rfl⟩
      refine ⟨.inr (by repeat (first | exact Ent.refl _ | (apply Ent.cons; (· repeat (first | exact Pick.here | (refine Pick.sl ?_; (· repeat (first | exact List.Mem.head _ | assumption | apply List.Mem.tail))) | apply Pick.there))) | (refine Ent.trans (Ent.drop _ _) ?_))), ?_⟩
      rw [hkk]
      refine RH.one (i := 14) (by kernel_rfl) ?_
      refine RHone.eff rfl (Wanted.free rfl) (E.call rfl go32 rfl (fill_ok (a := none) (l := []) _ (by repeat (first | exact List.Mem.head _ | assumption | apply List.Mem.tail)) (by omega) (by omega))) rfl ?_
      rintro _ _ ⟨a59, c59, s59, hs59, rfl, rfl⟩
      refine ⟨.inr (by repeat (first | exact Ent.refl _ | (apply Ent.cons; (· repeat (first | exact Pick.here | (refine Pick.sl ?_; (· repeat (first | exact List.Mem.head _ | assumption | apply List.Mem.tail))) | apply Pick.there))) | (refine Ent.trans (Ent.drop _ _) ?_))), ?_⟩
      refine RH.publish (T := R8) (a := a59) Pick.here ?_
      refine RH.one (i := 15) (by kernel_rfl) ?_
      refine RHone.eff rfl (Wanted.free rfl) (E.call rfl go31 rfl (dWrite_ok hE (b := b22) (by repeat (first | exact Pick.here | assumption | apply Pick.there)) _ (s := s59) (by repeat (first | exact List.Mem.head _ | assumption | apply List.Mem.tail)) (by omega))) rfl ?_
      rintro _ _ ⟨rfl, rfl⟩
      refine ⟨.inr (by repeat (first | exact Ent.refl _ | (apply Ent.cons; (· repeat (first | exact Pick.here | (refine Pick.sl ?_; (· repeat (first | exact List.Mem.head _ | assumption | apply List.Mem.tail))) | apply Pick.there))) | (refine Ent.trans (Ent.drop _ _) ?_))), ?_⟩
      refine RH.done (by kernel_rfl) ?_
      refine SG.inBlock ?_
      refine SG.region ?_
      refine RL.val (Wanted.free rfl) (V.move rfl rfl) rfl ?_
      refine RL.val (Wanted.free rfl) (V.bin rfl rfl rfl (B.addI (by omega) (by omega))) rfl ?_
      refine RL.val (Wanted.free rfl) (V.assign rfl rfl) rfl ?_
      refine RL.nil ?_
      refine SG.weaken (ih0 _ _ _ ?_ ⟨i + 1, E1.write kk s59, by omega, by omega, rfl, (hE.write _ _), rfl, rfl⟩) ?_ ?_
      · omega
      · repeat (first | exact EnvLe.nil _ | refine EnvLe.cons rfl ?_)
      · repeat (first | exact Ent.refl _ | (apply Ent.cons; (· repeat (first | exact Pick.here | (refine Pick.sl ?_; (· repeat (first | exact List.Mem.head _ | assumption | apply List.Mem.tail))) | apply Pick.there))) | (refine Ent.trans (Ent.drop _ _) ?_))
    · skip
      refine RL.val (Wanted.free rfl) (V.pick_true rfl rfl rfl) rfl ?_
      refine RL.nil ?_
      refine SG.cond_false rfl ?_
      refine SG.exit rfl ?_
      refine SG.seq ?_
      refine SG.region ?_
      refine RL.val (Wanted.free rfl) (V.move rfl rfl) rfl ?_
      refine RL.eff (Wanted.free rfl) (E.call rfl go29 rfl (dFuse_ok hE (b := b22) (by repeat (first | exact Pick.here | assumption | apply Pick.there)) _ (by omega) (by omega))) rfl ?_
      rintro _ _ ⟨rfl, rfl⟩
      have hE2 := hE.blow (n := 0) (by omega)
      refine RL.nil ?_
      refine SG.seq ?_
      refine SG.seq ?_
      refine SG.region ?_
      refine RL.val (Wanted.free rfl) (V.move rfl rfl) rfl ?_
      refine RL.val (Wanted.free rfl) (V.move rfl rfl) rfl ?_
      refine RL.eff (Wanted.free rfl) (E.call rfl go38 rfl (equal_ok (b := b32) (r := b) hD hD (by repeat (first | exact Ent.refl _ | (apply Ent.cons; (· repeat (first | exact Pick.here | (refine Pick.sl ?_; (· repeat (first | exact List.Mem.head _ | assumption | apply List.Mem.tail))) | apply Pick.there))) | (refine Ent.trans (Ent.drop _ _) ?_))) (by omega) rfl rfl (fun _ _ => rfl))) rfl ?_
      rintro _ _ ⟨rfl, rfl⟩
      refine RL.val (Wanted.free rfl) (V.not rfl rfl) rfl ?_
      refine RL.nil ?_
      refine SG.cond_false rfl ?_
      refine SG.skip ?_
      refine SG.seq ?_
      refine SG.ent (Sl.nil (T := RTorn)) ?_
      refine SG.region ?_
      refine RL.val (Wanted.free rfl) (V.move rfl rfl) rfl ?_
      refine RL.eff (Wanted.free rfl) (E.call rfl go27 rfl (dRestart_ok hE2 (b := b22) (by repeat (first | exact Pick.here | assumption | apply Pick.there)) (ts := []) (by repeat (first | exact List.Mem.head _ | assumption | apply List.Mem.tail)) (by omega) (by omega))) rfl ?_
      rintro _ _ ⟨rfl, rfl⟩
      refine RL.nil ?_
      refine SG.seq ?_
      refine SG.region ?_
      refine RL.val (Wanted.free rfl) (V.move rfl rfl) rfl ?_
      refine RL.val (Wanted.free rfl) (V.move rfl rfl) rfl ?_
      refine RL.eff (Wanted.free rfl) (E.call rfl go38 rfl (equal_ok (b := b32) (r := b) hD hD (by repeat (first | exact Ent.refl _ | (apply Ent.cons; (· repeat (first | exact Pick.here | (refine Pick.sl ?_; (· repeat (first | exact List.Mem.head _ | assumption | apply List.Mem.tail))) | apply Pick.there))) | (refine Ent.trans (Ent.drop _ _) ?_))) (by omega) rfl rfl (fun _ _ => rfl))) rfl ?_
      rintro _ _ ⟨rfl, rfl⟩
      refine RL.val (Wanted.free rfl) (V.move rfl rfl) rfl ?_
      refine RL.eff (Wanted.yes rfl rfl rfl rfl) (E.call rfl go17 rfl (lives_ok)) rfl ?_
      rintro _ _ ⟨rfl, rfl⟩
      refine RL.val (Wanted.free rfl) (V.pick_true rfl rfl rfl) rfl ?_
      refine RL.val (Wanted.free rfl) (V.assign rfl rfl) rfl ?_
      refine RL.nil ?_
      refine SG.retE (Ret.r1 Try.func10 rfl (.tmp rfl)) ?_ ⟨rfl, rfl⟩
      repeat (first | exact Ent.refl _ | (apply Ent.cons; (· repeat (first | exact Pick.here | (refine Pick.sl ?_; (· repeat (first | exact List.Mem.head _ | assumption | apply List.Mem.tail))) | apply Pick.there))) | (refine Ent.trans (Ent.drop _ _) ?_))
  · skip
    refine RL.val (Wanted.free rfl) (V.move rfl rfl) rfl ?_
    refine RL.skip (Wanted.no rfl rfl rfl rfl rfl) rfl ?_
    refine RL.skip (Wanted.no rfl rfl rfl rfl rfl) rfl ?_
    refine RL.val (Wanted.free rfl) (V.pick_false rfl rfl rfl) rfl ?_
    refine RL.nil ?_
    refine SG.cond_false rfl ?_
    refine SG.exit rfl ?_
    refine SG.seq ?_
    refine SG.region ?_
    refine RL.val (Wanted.free rfl) (V.move rfl rfl) rfl ?_
    refine RL.eff (Wanted.free rfl) (E.call rfl go29 rfl (dFuse_ok hE (b := b22) (by repeat (first | exact Pick.here | assumption | apply Pick.there)) _ (by omega) (by omega))) rfl ?_
    rintro _ _ ⟨rfl, rfl⟩
    have hE2 := hE.blow (n := 0) (by omega)
    refine RL.nil ?_
    refine SG.seq ?_
    refine SG.seq ?_
    refine SG.region ?_
    refine RL.val (Wanted.free rfl) (V.move rfl rfl) rfl ?_
    refine RL.val (Wanted.free rfl) (V.move rfl rfl) rfl ?_
    refine RL.eff (Wanted.free rfl) (E.call rfl go38 rfl (equal_ok (b := b32) (r := b) hD hD (by repeat (first | exact Ent.refl _ | (apply Ent.cons; (· repeat (first | exact Pick.here | (refine Pick.sl ?_; (· repeat (first | exact List.Mem.head _ | assumption | apply List.Mem.tail))) | apply Pick.there))) | (refine Ent.trans (Ent.drop _ _) ?_))) (by omega) rfl rfl (fun _ _ => rfl))) rfl ?_
    rintro _ _ ⟨rfl, rfl⟩
    refine RL.val (Wanted.free rfl) (V.not rfl rfl) rfl ?_
    refine RL.nil ?_
    refine SG.cond_false rfl ?_
    refine SG.skip ?_
    refine SG.seq ?_
    refine SG.ent (Sl.nil (T := RTorn)) ?_
    refine SG.region ?_
    refine RL.val (Wanted.free rfl) (V.move rfl rfl) rfl ?_
    refine RL.eff (Wanted.free rfl) (E.call rfl go27 rfl (dRestart_ok hE2 (b := b22) (by repeat (first | exact Pick.here | assumption | apply Pick.there)) (ts := []) (by repeat (first | exact List.Mem.head _ | assumption | apply List.Mem.tail)) (by omega) (by omega))) rfl ?_
    rintro _ _ ⟨rfl, rfl⟩
    refine RL.nil ?_
    refine SG.seq ?_
    refine SG.region ?_
    refine RL.val (Wanted.free rfl) (V.move rfl rfl) rfl ?_
    refine RL.val (Wanted.free rfl) (V.move rfl rfl) rfl ?_
    refine RL.eff (Wanted.free rfl) (E.call rfl go38 rfl (equal_ok (b := b32) (r := b) hD hD (by repeat (first | exact Ent.refl _ | (apply Ent.cons; (· repeat (first | exact Pick.here | (refine Pick.sl ?_; (· repeat (first | exact List.Mem.head _ | assumption | apply List.Mem.tail))) | apply Pick.there))) | (refine Ent.trans (Ent.drop _ _) ?_))) (by omega) rfl rfl (fun _ _ => rfl))) rfl ?_
    rintro _ _ ⟨rfl, rfl⟩
    refine RL.val (Wanted.free rfl) (V.move rfl rfl) rfl ?_
    refine RL.eff (Wanted.yes rfl rfl rfl rfl) (E.call rfl go17 rfl (lives_ok)) rfl ?_
    rintro _ _ ⟨rfl, rfl⟩
    refine RL.val (Wanted.free rfl) (V.pick_true rfl rfl rfl) rfl ?_
    refine RL.val (Wanted.free rfl) (V.assign rfl rfl) rfl ?_
    refine RL.nil ?_
    refine SG.retE (Ret.r1 Try.func10 rfl (.tmp rfl)) ?_ ⟨rfl, rfl⟩
    repeat (first | exact Ent.refl _ | (apply Ent.cons; (· repeat (first | exact Pick.here | (refine Pick.sl ?_; (· repeat (first | exact List.Mem.head _ | assumption | apply List.Mem.tail))) | apply Pick.there))) | (refine Ent.trans (Ent.drop _ _) ?_))

end Go.Proofs.Yteghgfgkkpfcaaa
