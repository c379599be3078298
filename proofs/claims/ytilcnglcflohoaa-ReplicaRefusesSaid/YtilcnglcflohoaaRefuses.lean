/- The walk of ReplicaRefuses. -/
import Derived.Test.YtilcnglcflohoaaRefa
namespace Go.Proofs.Ytilcnglcflohoaa
open Go.Wk Go.Rp

theorem others_eq {p : Peer} (f : Int → Msg) (h0 : 0 ≤ p.id) (h1 : p.id < p.nodes) : (others p f).length = p.nodes.toNat - 1 := by
  obtain ⟨d, hd⟩ := Int.eq_ofNat_of_zero_le h0
  unfold others
  rw [List.length_map, hd]
  have key : ∀ (m : Nat), ((List.range m).filter fun i : Nat => decide ((i : Int) ≠ (d : Int))).length = if d < m then m - 1 else m := by
    intro m
    induction m with
    | zero => simp
    | succ m ih =>
      rw [List.range_succ, List.filter_append, List.length_append, ih, List.filter_cons, List.filter_nil]
      by_cases e : m = d
      · subst e
        have hz : (if decide ((m : Int) ≠ (m : Int)) = true then [m] else []) = ([] : List Nat) := if_neg (by simp)
        rw [hz, if_neg (by omega), if_pos (by omega)]; simp
      · have hz : (if decide ((m : Int) ≠ (d : Int)) = true then [m] else []) = [m] := if_pos (by simp; omega)
        rw [hz]
        by_cases h : d < m
        · rw [if_pos h, if_pos (by omega)]; simp; omega
        · rw [if_neg h, if_neg (by omega)]; rfl
  have := key p.nodes.toNat
  rw [if_pos (by omega)] at this
  exact this
theorem Sep.iokT {κ w : World} {L : List Assn} (_ : Sep κ w L) : True := trivial
set_option maxRecDepth 100000 in
set_option maxHeartbeats 1000000 in
theorem refuses_law {κ : World} {L : List Assn} {n : Int} (hn : inInt n) {a : Option Addr} {k cc : Nat} {l : List Int} (hm : Sl RI a k cc l ∈ L) {data : List UInt8} (hdl : data.length ≤ 9223372036854775807) {more : Int} (hmo : inInt more) :
    Ctr Try.prog 5 #[vI n, .slice a k cc, vS data, vI more] κ L (fun v M => v = vB true ∧ M = L) := by
  refine Ctr.enter (vs := [vI n, .slice a k cc, vS data, vI more]) (m := 118) Try.func5 rfl rfl rfl ?_
  refine SG.sl hm fun hkl hkc _ => ?_
  refine SG.seq ?_
  refine SG.region ?_
  refine RL.val (Wanted.free rfl) (V.assign rfl rfl) rfl ?_
  refine RL.nil ?_
  refine SG.seq ?_
  refine SG.region ?_
  refine RL.val (Wanted.free rfl) (V.move rfl rfl) rfl ?_
  refine RL.val (Wanted.free rfl) (V.move rfl rfl) rfl ?_
  refine RL.val (Wanted.free rfl) (V.move rfl rfl) rfl ?_
  refine RL.val (Wanted.free rfl) (V.len rfl rfl el22.under rfl) rfl ?_
  refine RL.val (Wanted.free rfl) (V.min rfl rfl rfl rfl) rfl ?_
  rw [show (if (30 : Int) < (k : Int) then (30 : Int) else (k : Int)) = ((min k 30 : Nat) : Int) from by split <;> omega]
  refine RL.eff (Wanted.free rfl) (E.slice (hi := min k 30) rfl el22.slice rfl (by repeat (first | exact List.Mem.head _ | assumption | apply List.Mem.tail)) rfl ⟨_, _, rfl, (by first | rfl | omega)⟩ (by omega) (by omega)) rfl ?_
  intro _ _ hK7
  try rw [List.drop_zero] at hK7
  iterate 2 (try rw [Nat.sub_zero] at hK7)
  obtain ⟨a26, rfl, rfl⟩ := hK7
  refine RL.eff (Wanted.free rfl) (E.call rfl go15 rfl (run_ok hn (by repeat (first | exact List.Mem.head _ | assumption | apply List.Mem.tail)))) rfl ?_
  rintro _ _ ⟨a5, c5, rfl, rfl⟩
  obtain ⟨N, G, h1, h5, hG, hHl, hH⟩ := runV_facts n (l.take (min k 30))
  have hH1 : 0 < (runV n (l.take (min k 30))).length := by unfold runV; rw [hist_len]; omega
  generalize runV n (l.take (min k 30)) = H at hHl hH hH1 ⊢
  refine RL.val (Wanted.free rfl) (V.move rfl rfl) rfl ?_
  refine RL.val (Wanted.free rfl) (V.extract rfl rfl rfl) rfl ?_
  refine RL.val (Wanted.free rfl) (V.extract rfl rfl rfl) rfl ?_
  refine RL.val (Wanted.free rfl) (V.assign rfl rfl) rfl ?_
  refine RL.val (Wanted.free rfl) (V.assign rfl rfl) rfl ?_
  refine RL.nil ?_
  refine SG.seq ?_
  refine SG.seq ?_
  refine SG.region ?_
  refine RL.val (Wanted.free rfl) (V.move rfl rfl) rfl ?_
  refine RL.val (Wanted.free rfl) (V.not rfl rfl) rfl ?_
  refine RL.nil ?_
  refine SG.cond_false rfl ?_
  refine SG.skip ?_
  refine SG.seq ?_
  obtain ⟨c, hc⟩ : ∃ c, H[H.length - 1]? = some c := ⟨_, List.getElem?_eq_getElem (by omega)⟩
  have hHc := hH _ _ hc
  refine SG.region ?_
  refine RL.val (Wanted.free rfl) (V.move rfl rfl) rfl ?_
  refine RL.val (Wanted.free rfl) (V.move rfl rfl) rfl ?_
  refine RL.val (Wanted.free rfl) (V.len rfl rfl el31.under rfl) rfl ?_
  refine RL.val (Wanted.free rfl) (V.bin rfl rfl rfl (B.subI (by omega) (by omega))) rfl ?_
  refine RL.val (Wanted.free rfl) (V.indexSl (T := RClu) (l := H) (a := a5) (j := H.length - 1) rfl el31.slice rfl rfl (by repeat (first | exact List.Mem.head _ | assumption | apply List.Mem.tail)) (by omega) (by omega)) rfl ?_
  refine RL.eff (Wanted.free rfl) (E.loadElem (T := RClu) (l := H) (a := a5) (j := H.length - 1) rfl ag37 rfl (by repeat (first | exact List.Mem.head _ | assumption | apply List.Mem.tail)) hc) rfl ?_
  rintro _ _ ⟨u37, rfl, rfl⟩
  refine RL.eff (Wanted.free rfl) (E.alloc rfl ze37) rfl ?_
  rintro _ _ ⟨b11, rfl, rfl⟩
  refine RL.openClu (cs := u37) (Pick.rd (T := RClu) (by repeat (first | exact List.Mem.head _ | assumption | apply List.Mem.tail))) fun na nn nc sa sn sc hcs => ?_
  subst hcs
  refine RL.sl (T := RPeer) (a := na) (l := c.nodes) (by repeat (first | exact List.Mem.head _ | assumption | apply List.Mem.tail)) fun hnn _ _ => ?_
  rw [hHc.len] at hnn
  subst hnn
  refine RL.eff (Wanted.free rfl) (E.storeWhole rfl rfl rfl (by rfl) sz37 (by repeat (first | exact Pick.here | assumption | apply Pick.there)) (by first | (simp [Value.oneCell']; done) | (simp [setAt, Value.oneCell']; done)) (by rfl)) rfl ?_
  rintro _ _ rfl
  refine RL.nil ?_
  refine SG.seq ?_
  obtain ⟨q, hq, hq2⟩ := aroundV_nat (n := more) (most := 20) (by omega)
  refine SG.region ?_
  refine RL.val (Wanted.free rfl) (V.move rfl rfl) rfl ?_
  refine RL.val (Wanted.free rfl) (V.assign rfl rfl) rfl ?_
  refine RL.nil ?_
  refine SG.seq ?_
  refine SG.block ?_
  refine SG.weaken (SG.loop2 (fun m al M => ∃ s : List UInt8, s.length ≤ max data.length 4100 ∧ m = 5000 - s.length ∧ al = [(0, vI n), (1, .slice a k cc), (2, vS data), (3, vI more), (8, vB false), (10, vB true), (11, ptr b11 0), (12, vS s)] ∧ M = Blk b11 37 [.slice na N nc, .slice sa sn sc] :: Sl RPeer na N nc c.nodes :: L) (m0 := _) ⟨data, by omega, rfl, rfl, rfl⟩ ?_) ?_ ?_
  rotate_left
  · repeat (first | exact EnvLe.nil _ | refine EnvLe.cons rfl ?_)
  · repeat (first | exact Ent.refl _ | (apply Ent.cons; (· repeat (first | exact Pick.here | (refine Pick.sl ?_; (· repeat (first | exact List.Mem.head _ | assumption | apply List.Mem.tail))) | apply Pick.there))) | (refine Ent.trans (Ent.drop _ _) ?_))
  rintro _ _ _ ⟨s, hs, rfl, rfl, rfl⟩ ih0
  refine SG.seq ?_
  refine SG.seq ?_
  refine SG.region ?_
  refine RL.val (Wanted.free rfl) (V.move rfl rfl) rfl ?_
  refine RL.val (Wanted.free rfl) (V.lenS rfl rfl us9 rfl) rfl ?_
  refine RL.val (Wanted.free rfl) (V.move rfl rfl) rfl ?_
  refine RL.eff (Wanted.free rfl) (E.call rfl go29 rfl (around_ok _ _ hmo.1 hmo.2 (by omega))) rfl ?_
  rintro _ _ ⟨rfl, rfl⟩
  rw [hq]
  refine RL.val (Wanted.free rfl) (V.bin rfl rfl rfl (B.addI (by omega) (by omega))) rfl ?_
  refine RL.cmp (Wanted.free rfl) (V.bin rfl rfl rfl B.leq) rfl (fun h30 => ?_) (fun h30 => ?_)
  · skip
    refine RL.nil ?_
    refine SG.cond_true rfl ?_
    refine SG.skip ?_
    refine SG.block ?_
    refine SG.region ?_
    refine RL.val (Wanted.free rfl) (V.move rfl rfl) rfl ?_
    refine RL.val (Wanted.free rfl) (V.bin rfl rfl rfl (B.addS (by simp; omega))) rfl ?_
    refine RL.val (Wanted.free rfl) (V.assign rfl rfl) rfl ?_
    refine RL.nil ?_
    refine SG.inBlock ?_
    refine SG.weaken (ih0 _ _ _ ?_ ⟨s ++ [48, 49, 50, 51, 52, 53, 54, 55, 56, 57], (by simp; omega), rfl, rfl, rfl⟩) ?_ ?_
    · simp; omega
    · repeat (first | exact EnvLe.nil _ | refine EnvLe.cons rfl ?_)
    · repeat (first | exact Ent.refl _ | (apply Ent.cons; (· repeat (first | exact Pick.here | (refine Pick.sl ?_; (· repeat (first | exact List.Mem.head _ | assumption | apply List.Mem.tail))) | apply Pick.there))) | (refine Ent.trans (Ent.drop _ _) ?_))
  · skip
    refine RL.nil ?_
    refine SG.cond_false rfl ?_
    refine SG.exit rfl ?_
    refine SG.seq ?_
    refine SG.seq ?_
    refine SG.region ?_
    refine RL.val (Wanted.free rfl) (V.assign rfl rfl) rfl ?_
    refine RL.nil ?_
    refine SG.block ?_
    refine SG.weaken (SG.loop2 (fun m al M => ∃ j : Nat, j ≤ N ∧ m = N - j ∧ al = [(0, vI n), (1, .slice a k cc), (2, vS data), (3, vI more), (8, vB false), (10, vB true), (11, ptr b11 0), (12, vS s), (13, vI j)] ∧ M = Blk b11 37 [.slice na N nc, .slice sa sn sc] :: Sl RPeer na N nc c.nodes :: L) (m0 := _) ⟨0, by omega, rfl, rfl, rfl⟩ ?_) ?_ ?_
    rotate_left
    · repeat (first | exact EnvLe.nil _ | refine EnvLe.cons rfl ?_)
    · repeat (first | exact Ent.refl _ | (apply Ent.cons; (· repeat (first | exact Pick.here | (refine Pick.sl ?_; (· repeat (first | exact List.Mem.head _ | assumption | apply List.Mem.tail))) | apply Pick.there))) | (refine Ent.trans (Ent.drop _ _) ?_))
    rintro _ _ _ ⟨j, hj, rfl, rfl, rfl⟩ ih1
    refine SG.seq ?_
    refine SG.seq ?_
    refine SG.region ?_
    refine RL.val (Wanted.free rfl) (V.move rfl rfl) rfl ?_
    refine RL.val (Wanted.free rfl) (V.fieldAddr rfl rfl fo37_0) rfl ?_
    refine RL.val (Wanted.free rfl) (V.load rfl on34 rfl (by repeat (first | exact Pick.here | assumption | apply Pick.there)) rfl) rfl ?_
    refine RL.val (Wanted.free rfl) (V.len rfl rfl el34.under rfl) rfl ?_
    refine RL.cmp (Wanted.free rfl) (V.bin rfl rfl rfl B.lss) rfl (fun h39 => ?_) (fun h39 => ?_)
    · skip
      refine RL.nil ?_
      refine SG.cond_true rfl ?_
      refine SG.skip ?_
      refine SG.seq ?_
      refine SG.block ?_
      refine SG.seq ?_
      obtain ⟨hpj, hpk, hpo⟩ := hHc.get (i := j) (by omega)
      obtain ⟨n1, n5, i0, i1, t0, t1, ll, lv, lm, vn, mn, c0, c1, mm, dd⟩ := hpo
      refine SG.region ?_
      refine RL.val (Wanted.free rfl) (V.fieldAddr rfl rfl fo37_0) rfl ?_
      refine RL.val (Wanted.free rfl) (V.load rfl on34 rfl (by repeat (first | exact Pick.here | assumption | apply Pick.there)) rfl) rfl ?_
      refine RL.val (Wanted.free rfl) (V.move rfl rfl) rfl ?_
      refine RL.val (Wanted.free rfl) (V.indexSl (T := RPeer) (l := c.nodes) (a := na) (j := j) rfl el34.slice rfl rfl (by repeat (first | exact List.Mem.head _ | assumption | apply List.Mem.tail)) rfl (by rw [hHc.len]; omega)) rfl ?_
      refine RL.eff (Wanted.free rfl) (E.loadElem (T := RPeer) (l := c.nodes) (a := na) (j := j) rfl ag26 rfl (by repeat (first | exact List.Mem.head _ | assumption | apply List.Mem.tail)) hpj) rfl ?_
      rintro _ _ ⟨u58, rfl, rfl⟩
      refine RL.eff (Wanted.free rfl) (E.alloc rfl ze26) rfl ?_
      rintro _ _ ⟨b14, rfl, rfl⟩
      refine RL.openPeer (us := u58) (p := (c.p j)) (Pick.rd (T := RPeer) (by repeat (first | exact List.Mem.head _ | assumption | apply List.Mem.tail))) fun pa pn pc va vn vc xa xn xc hus => ?_
      subst hus
      refine RL.eff (Wanted.free rfl) (E.storeWhole rfl rfl rfl (by rfl) sz26 (by repeat (first | exact Pick.here | assumption | apply Pick.there)) pv_one (by rfl)) rfl ?_
      rintro _ _ rfl
      refine RL.nil ?_
      refine SG.seq ?_
      refine SG.region ?_
      refine RL.val (Wanted.free rfl) (V.loadAgg (us := pv (c.p j) (.slice pa pn pc) (.slice va vn vc) (.slice xa xn xc)) rfl ag26 rfl (by repeat (first | exact Pick.here | assumption | apply Pick.there)) rfl rfl) rfl ?_
      refine RL.val (Wanted.free rfl) (V.move rfl rfl) rfl ?_
      refine RL.eff (Wanted.free rfl) (E.call rfl go18 rfl (pProp_ok (us := pv (c.p j) (.slice pa pn pc) (.slice va vn vc) (.slice xa xn xc)) (p := c.p j) (data := data) (by repeat (first | exact List.Mem.head _ | assumption | apply List.Mem.tail)) (by omega) (by omega) (by omega) (by omega) (by omega) (by omega) (by omega) (by omega) (by omega) mn c0)) rfl ?_
      rintro _ _ ⟨u62, rfl, rfl⟩
      refine RL.openPeer (us := u62) (p := (propV (c.p j) data).1) (Pick.rd (T := RPeer) (by repeat (first | exact List.Mem.head _ | assumption | apply List.Mem.tail))) fun ea en ed fa fn fd ga gn gd hus => ?_
      subst hus
      refine RL.val (Wanted.free rfl) (V.move rfl rfl) rfl ?_
      refine RL.val (Wanted.free rfl) (V.extract rfl rfl rfl) rfl ?_
      refine RL.val (Wanted.free rfl) (V.extract rfl rfl rfl) rfl ?_
      refine RL.eff (Wanted.free rfl) (E.alloc rfl ze26) rfl ?_
      rintro _ _ ⟨b15, rfl, rfl⟩
      refine RL.eff (Wanted.free rfl) (E.storeWhole rfl rfl rfl (by rfl) sz26 (by repeat (first | exact Pick.here | assumption | apply Pick.there)) pv_one (by rfl)) rfl ?_
      rintro _ _ rfl
      refine RL.val (Wanted.free rfl) (V.assign rfl rfl) rfl ?_
      refine RL.nil ?_
      refine SG.seq ?_
      refine SG.region ?_
      refine RL.val (Wanted.free rfl) (V.loadAgg (us := pv (c.p j) (.slice pa pn pc) (.slice va vn vc) (.slice xa xn xc)) rfl ag26 rfl (by repeat (first | exact Pick.here | assumption | apply Pick.there)) rfl rfl) rfl ?_
      refine RL.val (Wanted.free rfl) (V.move rfl rfl) rfl ?_
      refine RL.eff (Wanted.free rfl) (E.call rfl go18 rfl (pProp_ok (us := pv (c.p j) (.slice pa pn pc) (.slice va vn vc) (.slice xa xn xc)) (p := c.p j) (data := s) (by repeat (first | exact List.Mem.head _ | assumption | apply List.Mem.tail)) (by omega) (by omega) (by omega) (by omega) (by omega) (by omega) (by omega) (by omega) (by omega) mn c0)) rfl ?_
      rintro _ _ ⟨u68, rfl, rfl⟩
      refine RL.openPeer (us := u68) (p := (propV (c.p j) s).1) (Pick.rd (T := RPeer) (by repeat (first | exact List.Mem.head _ | assumption | apply List.Mem.tail))) fun ha hn1 hd ia im id1 ja jn jd hus => ?_
      subst hus
      refine RL.val (Wanted.free rfl) (V.move rfl rfl) rfl ?_
      refine RL.val (Wanted.free rfl) (V.extract rfl rfl rfl) rfl ?_
      refine RL.val (Wanted.free rfl) (V.extract rfl rfl rfl) rfl ?_
      refine RL.eff (Wanted.free rfl) (E.alloc rfl ze26) rfl ?_
      rintro _ _ ⟨b17, rfl, rfl⟩
      refine RL.eff (Wanted.free rfl) (E.storeWhole rfl rfl rfl (by rfl) sz26 (by repeat (first | exact Pick.here | assumption | apply Pick.there)) pv_one (by rfl)) rfl ?_
      rintro _ _ rfl
      refine RL.val (Wanted.free rfl) (V.assign rfl rfl) rfl ?_
      refine RL.nil ?_
      refine SG.seq ?_
      refine SG.region ?_
      refine RL.val (Wanted.free rfl) (V.assign rfl rfl) rfl ?_
      refine RL.nil ?_
      refine SG.seq ?_
      refine SG.seq ?_
      refine SG.region ?_
      refine RL.val (Wanted.free rfl) (V.move rfl rfl) rfl ?_
      refine RL.val (Wanted.free rfl) (V.lenS rfl rfl us9 rfl) rfl ?_
      refine RL.cmp (Wanted.free rfl) (V.bin rfl rfl rfl B.gtr) rfl (fun h68 => ?_) (fun h68 => ?_)
      · skip
        refine RL.nil ?_
        refine SG.cond_true rfl ?_
        refine SG.region ?_
        refine RL.val (Wanted.free rfl) (V.assign rfl rfl) rfl ?_
        refine RL.nil ?_
        refine SG.seq ?_
        refine SG.seq ?_
        refine SG.region ?_
        refine RL.val (Wanted.free rfl) (V.fieldAddr rfl rfl fo26_4) rfl ?_
        refine RL.val (Wanted.free rfl) (V.load rfl on3 rfl (by repeat (first | exact Pick.here | assumption | apply Pick.there)) rfl) rfl ?_
        refine RL.cmp (Wanted.free rfl) (V.bin rfl rfl rfl B.neq) rfl (fun h72 => ?_) (fun h72 => ?_)
        · skip
          have e1 : (propV (c.p j) data).2 = 11 := by rw [propV, if_pos (by omega)]
          have e2 : (propV (c.p j) s).2 = 11 := by rw [propV, if_pos (by omega)]
          have e3 : (beat (c.p j)).length = 0 := by rw [beat, if_neg (by omega)]; rfl
          refine RL.val (Wanted.free rfl) (V.move rfl rfl) rfl ?_
          refine RL.val (Wanted.yes rfl rfl rfl rfl) (V.move rfl rfl) rfl ?_
          refine RL.cmpF (Wanted.yes rfl rfl rfl rfl) (V.bin rfl rfl rfl B.neq) rfl (by omega) ?_
          refine RL.val (Wanted.yes rfl rfl rfl rfl) (V.move rfl rfl) rfl ?_
          refine RL.val (Wanted.yes rfl rfl rfl rfl) (V.move rfl rfl) rfl ?_
          refine RL.cmpF (Wanted.yes rfl rfl rfl rfl) (V.bin rfl rfl rfl B.neq) rfl (by omega) ?_
          refine RL.val (Wanted.yes rfl rfl rfl rfl) (V.pick_false rfl rfl rfl) rfl ?_
          refine RL.val (Wanted.yes rfl rfl rfl rfl) (V.move rfl rfl) rfl ?_
          refine RL.val (Wanted.yes rfl rfl rfl rfl) (V.loadAgg (us := pv (c.p j) (.slice pa pn pc) (.slice va vn vc) (.slice xa xn xc)) rfl ag26 rfl (by repeat (first | exact Pick.here | assumption | apply Pick.there)) rfl rfl) rfl ?_
          refine RL.eff (Wanted.yes rfl rfl rfl rfl) (E.call rfl go21 rfl (pBeat_ok (us := pv (c.p j) (.slice pa pn pc) (.slice va vn vc) (.slice xa xn xc)) (p := c.p j) (by repeat (first | exact List.Mem.head _ | assumption | apply List.Mem.tail)) (by omega) (by omega) (by omega) (by omega) (by omega) (by omega) (by omega) (by omega) (by omega) mn mm)) rfl ?_
          rintro _ _ ⟨a86, c86, rfl, rfl⟩
          refine RL.val (Wanted.yes rfl rfl rfl rfl) (V.len rfl rfl el35.under rfl) rfl ?_
          refine RL.cmpF (Wanted.yes rfl rfl rfl rfl) (V.bin rfl rfl rfl B.neq) rfl (by omega) ?_
          refine RL.val (Wanted.yes rfl rfl rfl rfl) (V.pick_false rfl rfl rfl) rfl ?_
          refine RL.val (Wanted.free rfl) (V.pick_true rfl rfl rfl) rfl ?_
          refine RL.nil ?_
          refine SG.cond_false rfl ?_
          refine SG.skip ?_
          refine SG.seq ?_
          refine SG.drawL 26 26 wide rfl rfl ?_
          refine RH.val 0 rfl (by kernel_rfl) (by kernel_rfl) (by kernel_rfl) (by kernel_rfl) (Wanted.free rfl) (V.fieldAddr rfl rfl fo26_4) rfl ?_
          refine RH.val 1 rfl (by kernel_rfl) (by kernel_rfl) (by kernel_rfl) (by kernel_rfl) (Wanted.free rfl) (V.load rfl on3 rfl (by repeat (first | exact Pick.here | assumption | apply Pick.there)) rfl) rfl ?_
          refine RH.cmpF 2 rfl (by kernel_rfl) (by kernel_rfl) (by kernel_rfl) (by kernel_rfl) (Wanted.free rfl) (V.bin rfl rfl rfl B.eql) rfl (by omega) ?_
          refine RH.val 3 rfl (by kernel_rfl) (by kernel_rfl) (by kernel_rfl) (by kernel_rfl) (Wanted.free rfl) (V.move rfl rfl) rfl ?_
          refine RH.skip 4 rfl (by kernel_rfl) (by kernel_rfl) (by kernel_rfl) (by kernel_rfl) (Wanted.no rfl rfl rfl rfl rfl) rfl ?_
          refine RH.skip 5 rfl (by kernel_rfl) (by kernel_rfl) (by kernel_rfl) (by kernel_rfl) (Wanted.no rfl rfl rfl rfl rfl) rfl ?_
          refine RH.skip 6 rfl (by kernel_rfl) (by kernel_rfl) (by kernel_rfl) (by kernel_rfl) (Wanted.no rfl rfl rfl rfl rfl) rfl ?_
          refine RH.skip 7 rfl (by kernel_rfl) (by kernel_rfl) (by kernel_rfl) (by kernel_rfl) (Wanted.no rfl rfl rfl rfl rfl) rfl ?_
          refine RH.skip 8 rfl (by kernel_rfl) (by kernel_rfl) (by kernel_rfl) (by kernel_rfl) (Wanted.un rfl rfl rfl) rfl ?_
          refine RH.skip 9 rfl (by kernel_rfl) (by kernel_rfl) (by kernel_rfl) (by kernel_rfl) (Wanted.un rfl rfl rfl) rfl ?_
          refine RH.skip 10 rfl (by kernel_rfl) (by kernel_rfl) (by kernel_rfl) (by kernel_rfl) (Wanted.no rfl rfl rfl rfl rfl) rfl ?_
          refine RH.skip 11 rfl (by kernel_rfl) (by kernel_rfl) (by kernel_rfl) (by kernel_rfl) (Wanted.no rfl rfl rfl rfl rfl) rfl ?_
          refine RH.skip 12 rfl (by kernel_rfl) (by kernel_rfl) (by kernel_rfl) (by kernel_rfl) (Wanted.un rfl rfl rfl) rfl ?_
          refine RH.skip 13 rfl (by kernel_rfl) (by kernel_rfl) (by kernel_rfl) (by kernel_rfl) (Wanted.un rfl rfl rfl) rfl ?_
          refine RH.skip 14 rfl (by kernel_rfl) (by kernel_rfl) (by kernel_rfl) (by kernel_rfl) (Wanted.un rfl rfl rfl) rfl ?_
          refine RH.skip 15 rfl (by kernel_rfl) (by kernel_rfl) (by kernel_rfl) (by kernel_rfl) (Wanted.no rfl rfl rfl rfl rfl) rfl ?_
          refine RH.skip 16 rfl (by kernel_rfl) (by kernel_rfl) (by kernel_rfl) (by kernel_rfl) (Wanted.no rfl rfl rfl rfl rfl) rfl ?_
          refine RH.skip 17 rfl (by kernel_rfl) (by kernel_rfl) (by kernel_rfl) (by kernel_rfl) (Wanted.un rfl rfl rfl) rfl ?_
          refine RH.skip 18 rfl (by kernel_rfl) (by kernel_rfl) (by kernel_rfl) (by kernel_rfl) (Wanted.un rfl rfl rfl) rfl ?_
          refine RH.skip 19 rfl (by kernel_rfl) (by kernel_rfl) (by kernel_rfl) (by kernel_rfl) (Wanted.un rfl rfl rfl) rfl ?_
          refine RH.skip 20 rfl (by kernel_rfl) (by kernel_rfl) (by kernel_rfl) (by kernel_rfl) (Wanted.un rfl rfl rfl) rfl ?_
          refine RH.skip 21 rfl (by kernel_rfl) (by kernel_rfl) (by kernel_rfl) (by kernel_rfl) (Wanted.un rfl rfl rfl) rfl ?_
          refine RH.skip 22 rfl (by kernel_rfl) (by kernel_rfl) (by kernel_rfl) (by kernel_rfl) (Wanted.un rfl rfl rfl) rfl ?_
          refine RH.skip 23 rfl (by kernel_rfl) (by kernel_rfl) (by kernel_rfl) (by kernel_rfl) (Wanted.un rfl rfl rfl) rfl ?_
          refine RH.skip 24 rfl (by kernel_rfl) (by kernel_rfl) (by kernel_rfl) (by kernel_rfl) (Wanted.no rfl rfl rfl rfl rfl) rfl ?_
          refine RH.pure 25 rfl (by kernel_rfl) (by kernel_rfl) (by kernel_rfl) (by kernel_rfl) (Wanted.free rfl) (V.pick_false rfl rfl rfl) rfl ?_
          refine RH.done (by kernel_rfl) ?_
          refine SG.cond_false rfl ?_
          refine SG.skip ?_
          refine SG.inBlock ?_
          refine SG.region ?_
          refine RL.val (Wanted.free rfl) (V.move rfl rfl) rfl ?_
          refine RL.val (Wanted.free rfl) (V.bin rfl rfl rfl (B.addI (by omega) (by omega))) rfl ?_
          refine RL.val (Wanted.free rfl) (V.assign rfl rfl) rfl ?_
          refine RL.nil ?_
          refine SG.weaken (ih1 _ _ _ ?_ ⟨j + 1, by omega, rfl, rfl, rfl⟩) ?_ ?_
          · omega
          · repeat (first | exact EnvLe.nil _ | refine EnvLe.cons rfl ?_)
          · repeat (first | exact Ent.refl _ | (apply Ent.cons; (· repeat (first | exact Pick.here | (refine Pick.sl ?_; (· repeat (first | exact List.Mem.head _ | assumption | apply List.Mem.tail))) | apply Pick.there))) | (refine Ent.trans (Ent.drop _ _) ?_))
        · skip
          have e1 : data.length ≤ 4000 → (propV (c.p j) data).2 = 0 := fun h => by rw [propV, if_neg (by omega), if_neg (by omega)]
          have e2 : (propV (c.p j) s).2 = if 4000 < s.length then 2 else 0 := by rw [propV, if_neg (by omega)]; split <;> rfl
          have e3 : (beat (c.p j)).length = (c.p j).nodes.toNat - 1 := by rw [beat, if_pos (by omega)]; exact others_eq _ i0 i1
          refine RL.val (Wanted.free rfl) (V.move rfl rfl) rfl ?_
          refine RL.skip (Wanted.no rfl rfl rfl rfl rfl) rfl ?_
          refine RL.skip (Wanted.no rfl rfl rfl rfl rfl) rfl ?_
          refine RL.skip (Wanted.no rfl rfl rfl rfl rfl) rfl ?_
          refine RL.skip (Wanted.un rfl rfl rfl) rfl ?_
          refine RL.skip (Wanted.un rfl rfl rfl) rfl ?_
          refine RL.skip (Wanted.no rfl rfl rfl rfl rfl) rfl ?_
          refine RL.skip (Wanted.no rfl rfl rfl rfl rfl) rfl ?_
          refine RL.skip (Wanted.un rfl rfl rfl) rfl ?_
          refine RL.skip (Wanted.un rfl rfl rfl) rfl ?_
          refine RL.skip (Wanted.un rfl rfl rfl) rfl ?_
          refine RL.skip (Wanted.un rfl rfl rfl) rfl ?_
          refine RL.skip (Wanted.no rfl rfl rfl rfl rfl) rfl ?_
          refine RL.val (Wanted.free rfl) (V.pick_false rfl rfl rfl) rfl ?_
          refine RL.nil ?_
          refine SG.cond_false rfl ?_
          refine SG.skip ?_
          refine SG.seq ?_
          refine SG.drawL 26 26 wide rfl rfl ?_
          refine RH.val 0 rfl (by kernel_rfl) (by kernel_rfl) (by kernel_rfl) (by kernel_rfl) (Wanted.free rfl) (V.fieldAddr rfl rfl fo26_4) rfl ?_
          refine RH.val 1 rfl (by kernel_rfl) (by kernel_rfl) (by kernel_rfl) (by kernel_rfl) (Wanted.free rfl) (V.load rfl on3 rfl (by repeat (first | exact Pick.here | assumption | apply Pick.there)) rfl) rfl ?_
          refine RH.cmpT 2 rfl (by kernel_rfl) (by kernel_rfl) (by kernel_rfl) (by kernel_rfl) (Wanted.free rfl) (V.bin rfl rfl rfl B.eql) rfl (by omega) ?_
          refine RH.val 3 rfl (by kernel_rfl) (by kernel_rfl) (by kernel_rfl) (by kernel_rfl) (Wanted.free rfl) (V.move rfl rfl) rfl ?_
          refine RH.val 4 rfl (by kernel_rfl) (by kernel_rfl) (by kernel_rfl) (by kernel_rfl) (Wanted.yes rfl rfl rfl rfl) (V.move rfl rfl) rfl ?_
          refine RH.val 5 rfl (by kernel_rfl) (by kernel_rfl) (by kernel_rfl) (by kernel_rfl) (Wanted.yes rfl rfl rfl rfl) (V.lenS rfl rfl us9 rfl) rfl ?_
          refine RH.cmp 6 rfl (by kernel_rfl) (by kernel_rfl) (by kernel_rfl) (by kernel_rfl) (Wanted.yes rfl rfl rfl rfl) (V.bin rfl rfl rfl B.leq) rfl (fun h93 => ?_) (fun h93 => ?_)
          · skip
            refine RH.val 7 rfl (by kernel_rfl) (by kernel_rfl) (by kernel_rfl) (by kernel_rfl) (Wanted.yes rfl rfl rfl rfl) (V.move rfl rfl) rfl ?_
            refine RH.val 8 rfl (by kernel_rfl) (by kernel_rfl) (by kernel_rfl) (by kernel_rfl) (Wanted.yes rfl rfl rfl rfl) (V.move rfl rfl) rfl ?_
            refine RH.cmpF 9 rfl (by kernel_rfl) (by kernel_rfl) (by kernel_rfl) (by kernel_rfl) (Wanted.yes rfl rfl rfl rfl) (V.bin rfl rfl rfl B.neq) rfl (by have := e1 (by omega); omega) ?_
            refine RH.pure 10 rfl (by kernel_rfl) (by kernel_rfl) (by kernel_rfl) (by kernel_rfl) (Wanted.yes rfl rfl rfl rfl) (V.pick_true rfl rfl rfl) rfl ?_
            refine RH.val 11 rfl (by kernel_rfl) (by kernel_rfl) (by kernel_rfl) (by kernel_rfl) (Wanted.yes rfl rfl rfl rfl) (V.move rfl rfl) rfl ?_
            refine RH.val 12 rfl (by kernel_rfl) (by kernel_rfl) (by kernel_rfl) (by kernel_rfl) (Wanted.yes rfl rfl rfl rfl) (V.move rfl rfl) rfl ?_
            refine RH.val 13 rfl (by kernel_rfl) (by kernel_rfl) (by kernel_rfl) (by kernel_rfl) (Wanted.yes rfl rfl rfl rfl) (V.move rfl rfl) rfl ?_
            refine RH.cmpF 14 rfl (by kernel_rfl) (by kernel_rfl) (by kernel_rfl) (by kernel_rfl) (Wanted.yes rfl rfl rfl rfl) (V.bin rfl rfl rfl B.neq) rfl (by have := e2; split at this <;> omega) ?_
            refine RH.pure 15 rfl (by kernel_rfl) (by kernel_rfl) (by kernel_rfl) (by kernel_rfl) (Wanted.yes rfl rfl rfl rfl) (V.pick_false rfl rfl rfl) rfl ?_
            refine RH.val 16 rfl (by kernel_rfl) (by kernel_rfl) (by kernel_rfl) (by kernel_rfl) (Wanted.yes rfl rfl rfl rfl) (V.move rfl rfl) rfl ?_
            refine RH.val 17 rfl (by kernel_rfl) (by kernel_rfl) (by kernel_rfl) (by kernel_rfl) (Wanted.yes rfl rfl rfl rfl) (V.loadAgg (us := pv (c.p j) (.slice pa pn pc) (.slice va vn vc) (.slice xa xn xc)) rfl ag26 rfl (by repeat (first | exact Pick.here | assumption | apply Pick.there)) rfl rfl) rfl ?_
            refine RH.val 20 rfl (by kernel_rfl) (by kernel_rfl) (by kernel_rfl) (by kernel_rfl) (Wanted.yes rfl rfl rfl rfl) (V.fieldAddr rfl rfl fo26_1) rfl ?_
            refine RH.val 21 rfl (by kernel_rfl) (by kernel_rfl) (by kernel_rfl) (by kernel_rfl) (Wanted.yes rfl rfl rfl rfl) (V.load rfl on3 rfl (by repeat (first | exact Pick.here | assumption | apply Pick.there)) rfl) rfl ?_
            refine RH.val 22 rfl (by kernel_rfl) (by kernel_rfl) (by kernel_rfl) (by kernel_rfl) (Wanted.yes rfl rfl rfl rfl) (V.bin rfl rfl rfl (B.subI (by omega) (by omega))) rfl ?_
            refine RH.one (i := 18) (by kernel_rfl) ?_
            refine RHone.eff rfl (Wanted.yes rfl rfl rfl rfl) (E.call rfl go21 rfl (pBeat_ok (us := pv (c.p j) (.slice pa pn pc) (.slice va vn vc) (.slice xa xn xc)) (p := c.p j) (by repeat (first | exact List.Mem.head _ | assumption | apply List.Mem.tail)) (by omega) (by omega) (by omega) (by omega) (by omega) (by omega) (by omega) (by omega) (by omega) mn mm)) rfl ?_
            rintro _ _ ⟨a109, c109, rfl, rfl⟩
            refine ⟨.inr (by repeat (first | exact Ent.refl _ | (apply Ent.cons; (· repeat (first | exact Pick.here | (refine Pick.sl ?_; (· repeat (first | exact List.Mem.head _ | assumption | apply List.Mem.tail))) | apply Pick.there))) | (refine Ent.trans (Ent.drop _ _) ?_))), ?_⟩
            refine RH.val 19 rfl (by kernel_rfl) (by kernel_rfl) (by kernel_rfl) (by kernel_rfl) (Wanted.yes rfl rfl rfl rfl) (V.len rfl rfl el35.under rfl) rfl ?_
            refine RH.cmpF 23 rfl (by kernel_rfl) (by kernel_rfl) (by kernel_rfl) (by kernel_rfl) (Wanted.yes rfl rfl rfl rfl) (V.bin rfl rfl rfl B.neq) rfl (by omega) ?_
            refine RH.pure 24 rfl (by kernel_rfl) (by kernel_rfl) (by kernel_rfl) (by kernel_rfl) (Wanted.yes rfl rfl rfl rfl) (V.pick_false rfl rfl rfl) rfl ?_
            refine RH.pure 25 rfl (by kernel_rfl) (by kernel_rfl) (by kernel_rfl) (by kernel_rfl) (Wanted.free rfl) (V.pick_true rfl rfl rfl) rfl ?_
            refine RH.done (by kernel_rfl) ?_
            refine SG.cond_false rfl ?_
            refine SG.skip ?_
            refine SG.inBlock ?_
            refine SG.region ?_
            refine RL.val (Wanted.free rfl) (V.move rfl rfl) rfl ?_
            refine RL.val (Wanted.free rfl) (V.bin rfl rfl rfl (B.addI (by omega) (by omega))) rfl ?_
            refine RL.val (Wanted.free rfl) (V.assign rfl rfl) rfl ?_
            refine RL.nil ?_
            refine SG.weaken (ih1 _ _ _ ?_ ⟨j + 1, by omega, rfl, rfl, rfl⟩) ?_ ?_
            · omega
            · repeat (first | exact EnvLe.nil _ | refine EnvLe.cons rfl ?_)
            · repeat (first | exact Ent.refl _ | (apply Ent.cons; (· repeat (first | exact Pick.here | (refine Pick.sl ?_; (· repeat (first | exact List.Mem.head _ | assumption | apply List.Mem.tail))) | apply Pick.there))) | (refine Ent.trans (Ent.drop _ _) ?_))
          · skip
            refine RH.val 7 rfl (by kernel_rfl) (by kernel_rfl) (by kernel_rfl) (by kernel_rfl) (Wanted.yes rfl rfl rfl rfl) (V.move rfl rfl) rfl ?_
            refine RH.skip 8 rfl (by kernel_rfl) (by kernel_rfl) (by kernel_rfl) (by kernel_rfl) (Wanted.no rfl rfl rfl rfl rfl) rfl ?_
            refine RH.skip 9 rfl (by kernel_rfl) (by kernel_rfl) (by kernel_rfl) (by kernel_rfl) (Wanted.no rfl rfl rfl rfl rfl) rfl ?_
            refine RH.pure 10 rfl (by kernel_rfl) (by kernel_rfl) (by kernel_rfl) (by kernel_rfl) (Wanted.yes rfl rfl rfl rfl) (V.pick_false rfl rfl rfl) rfl ?_
            refine RH.val 11 rfl (by kernel_rfl) (by kernel_rfl) (by kernel_rfl) (by kernel_rfl) (Wanted.yes rfl rfl rfl rfl) (V.move rfl rfl) rfl ?_
            refine RH.val 12 rfl (by kernel_rfl) (by kernel_rfl) (by kernel_rfl) (by kernel_rfl) (Wanted.yes rfl rfl rfl rfl) (V.move rfl rfl) rfl ?_
            refine RH.val 13 rfl (by kernel_rfl) (by kernel_rfl) (by kernel_rfl) (by kernel_rfl) (Wanted.yes rfl rfl rfl rfl) (V.move rfl rfl) rfl ?_
            refine RH.cmpF 14 rfl (by kernel_rfl) (by kernel_rfl) (by kernel_rfl) (by kernel_rfl) (Wanted.yes rfl rfl rfl rfl) (V.bin rfl rfl rfl B.neq) rfl (by have := e2; split at this <;> omega) ?_
            refine RH.pure 15 rfl (by kernel_rfl) (by kernel_rfl) (by kernel_rfl) (by kernel_rfl) (Wanted.yes rfl rfl rfl rfl) (V.pick_false rfl rfl rfl) rfl ?_
            refine RH.val 16 rfl (by kernel_rfl) (by kernel_rfl) (by kernel_rfl) (by kernel_rfl) (Wanted.yes rfl rfl rfl rfl) (V.move rfl rfl) rfl ?_
            refine RH.val 17 rfl (by kernel_rfl) (by kernel_rfl) (by kernel_rfl) (by kernel_rfl) (Wanted.yes rfl rfl rfl rfl) (V.loadAgg (us := pv (c.p j) (.slice pa pn pc) (.slice va vn vc) (.slice xa xn xc)) rfl ag26 rfl (by repeat (first | exact Pick.here | assumption | apply Pick.there)) rfl rfl) rfl ?_
            refine RH.val 20 rfl (by kernel_rfl) (by kernel_rfl) (by kernel_rfl) (by kernel_rfl) (Wanted.yes rfl rfl rfl rfl) (V.fieldAddr rfl rfl fo26_1) rfl ?_
            refine RH.val 21 rfl (by kernel_rfl) (by kernel_rfl) (by kernel_rfl) (by kernel_rfl) (Wanted.yes rfl rfl rfl rfl) (V.load rfl on3 rfl (by repeat (first | exact Pick.here | assumption | apply Pick.there)) rfl) rfl ?_
            refine RH.val 22 rfl (by kernel_rfl) (by kernel_rfl) (by kernel_rfl) (by kernel_rfl) (Wanted.yes rfl rfl rfl rfl) (V.bin rfl rfl rfl (B.subI (by omega) (by omega))) rfl ?_
            refine RH.one (i := 18) (by kernel_rfl) ?_
            refine RHone.eff rfl (Wanted.yes rfl rfl rfl rfl) (E.call rfl go21 rfl (pBeat_ok (us := pv (c.p j) (.slice pa pn pc) (.slice va vn vc) (.slice xa xn xc)) (p := c.p j) (by repeat (first | exact List.Mem.head _ | assumption | apply List.Mem.tail)) (by omega) (by omega) (by omega) (by omega) (by omega) (by omega) (by omega) (by omega) (by omega) mn mm)) rfl ?_
            rintro _ _ ⟨a109, c109, rfl, rfl⟩
            refine ⟨.inr (by repeat (first | exact Ent.refl _ | (apply Ent.cons; (· repeat (first | exact Pick.here | (refine Pick.sl ?_; (· repeat (first | exact List.Mem.head _ | assumption | apply List.Mem.tail))) | apply Pick.there))) | (refine Ent.trans (Ent.drop _ _) ?_))), ?_⟩
            refine RH.val 19 rfl (by kernel_rfl) (by kernel_rfl) (by kernel_rfl) (by kernel_rfl) (Wanted.yes rfl rfl rfl rfl) (V.len rfl rfl el35.under rfl) rfl ?_
            refine RH.cmpF 23 rfl (by kernel_rfl) (by kernel_rfl) (by kernel_rfl) (by kernel_rfl) (Wanted.yes rfl rfl rfl rfl) (V.bin rfl rfl rfl B.neq) rfl (by omega) ?_
            refine RH.pure 24 rfl (by kernel_rfl) (by kernel_rfl) (by kernel_rfl) (by kernel_rfl) (Wanted.yes rfl rfl rfl rfl) (V.pick_false rfl rfl rfl) rfl ?_
            refine RH.pure 25 rfl (by kernel_rfl) (by kernel_rfl) (by kernel_rfl) (by kernel_rfl) (Wanted.free rfl) (V.pick_true rfl rfl rfl) rfl ?_
            refine RH.done (by kernel_rfl) ?_
            refine SG.cond_false rfl ?_
            refine SG.skip ?_
            refine SG.inBlock ?_
            refine SG.region ?_
            refine RL.val (Wanted.free rfl) (V.move rfl rfl) rfl ?_
            refine RL.val (Wanted.free rfl) (V.bin rfl rfl rfl (B.addI (by omega) (by omega))) rfl ?_
            refine RL.val (Wanted.free rfl) (V.assign rfl rfl) rfl ?_
            refine RL.nil ?_
            refine SG.weaken (ih1 _ _ _ ?_ ⟨j + 1, by omega, rfl, rfl, rfl⟩) ?_ ?_
            · omega
            · repeat (first | exact EnvLe.nil _ | refine EnvLe.cons rfl ?_)
            · repeat (first | exact Ent.refl _ | (apply Ent.cons; (· repeat (first | exact Pick.here | (refine Pick.sl ?_; (· repeat (first | exact List.Mem.head _ | assumption | apply List.Mem.tail))) | apply Pick.there))) | (refine Ent.trans (Ent.drop _ _) ?_))
      · skip
        refine RL.nil ?_
        refine SG.cond_false rfl ?_
        refine SG.skip ?_
        refine SG.seq ?_
        refine SG.seq ?_
        refine SG.region ?_
        refine RL.val (Wanted.free rfl) (V.fieldAddr rfl rfl fo26_4) rfl ?_
        refine RL.val (Wanted.free rfl) (V.load rfl on3 rfl (by repeat (first | exact Pick.here | assumption | apply Pick.there)) rfl) rfl ?_
        refine RL.cmp (Wanted.free rfl) (V.bin rfl rfl rfl B.neq) rfl (fun h125 => ?_) (fun h125 => ?_)
        · skip
          have e1 : (propV (c.p j) data).2 = 11 := by rw [propV, if_pos (by omega)]
          have e2 : (propV (c.p j) s).2 = 11 := by rw [propV, if_pos (by omega)]
          have e3 : (beat (c.p j)).length = 0 := by rw [beat, if_neg (by omega)]; rfl
          refine RL.val (Wanted.free rfl) (V.move rfl rfl) rfl ?_
          refine RL.val (Wanted.yes rfl rfl rfl rfl) (V.move rfl rfl) rfl ?_
          refine RL.cmpF (Wanted.yes rfl rfl rfl rfl) (V.bin rfl rfl rfl B.neq) rfl (by omega) ?_
          refine RL.val (Wanted.yes rfl rfl rfl rfl) (V.move rfl rfl) rfl ?_
          refine RL.val (Wanted.yes rfl rfl rfl rfl) (V.move rfl rfl) rfl ?_
          refine RL.cmpF (Wanted.yes rfl rfl rfl rfl) (V.bin rfl rfl rfl B.neq) rfl (by omega) ?_
          refine RL.val (Wanted.yes rfl rfl rfl rfl) (V.pick_false rfl rfl rfl) rfl ?_
          refine RL.val (Wanted.yes rfl rfl rfl rfl) (V.move rfl rfl) rfl ?_
          refine RL.val (Wanted.yes rfl rfl rfl rfl) (V.loadAgg (us := pv (c.p j) (.slice pa pn pc) (.slice va vn vc) (.slice xa xn xc)) rfl ag26 rfl (by repeat (first | exact Pick.here | assumption | apply Pick.there)) rfl rfl) rfl ?_
          refine RL.eff (Wanted.yes rfl rfl rfl rfl) (E.call rfl go21 rfl (pBeat_ok (us := pv (c.p j) (.slice pa pn pc) (.slice va vn vc) (.slice xa xn xc)) (p := c.p j) (by repeat (first | exact List.Mem.head _ | assumption | apply List.Mem.tail)) (by omega) (by omega) (by omega) (by omega) (by omega) (by omega) (by omega) (by omega) (by omega) mn mm)) rfl ?_
          rintro _ _ ⟨a86, c86, rfl, rfl⟩
          refine RL.val (Wanted.yes rfl rfl rfl rfl) (V.len rfl rfl el35.under rfl) rfl ?_
          refine RL.cmpF (Wanted.yes rfl rfl rfl rfl) (V.bin rfl rfl rfl B.neq) rfl (by omega) ?_
          refine RL.val (Wanted.yes rfl rfl rfl rfl) (V.pick_false rfl rfl rfl) rfl ?_
          refine RL.val (Wanted.free rfl) (V.pick_true rfl rfl rfl) rfl ?_
          refine RL.nil ?_
          refine SG.cond_false rfl ?_
          refine SG.skip ?_
          refine SG.seq ?_
          refine SG.drawL 26 26 wide rfl rfl ?_
          refine RH.val 0 rfl (by kernel_rfl) (by kernel_rfl) (by kernel_rfl) (by kernel_rfl) (Wanted.free rfl) (V.fieldAddr rfl rfl fo26_4) rfl ?_
          refine RH.val 1 rfl (by kernel_rfl) (by kernel_rfl) (by kernel_rfl) (by kernel_rfl) (Wanted.free rfl) (V.load rfl on3 rfl (by repeat (first | exact Pick.here | assumption | apply Pick.there)) rfl) rfl ?_
          refine RH.cmpF 2 rfl (by kernel_rfl) (by kernel_rfl) (by kernel_rfl) (by kernel_rfl) (Wanted.free rfl) (V.bin rfl rfl rfl B.eql) rfl (by omega) ?_
          refine RH.val 3 rfl (by kernel_rfl) (by kernel_rfl) (by kernel_rfl) (by kernel_rfl) (Wanted.free rfl) (V.move rfl rfl) rfl ?_
          refine RH.skip 4 rfl (by kernel_rfl) (by kernel_rfl) (by kernel_rfl) (by kernel_rfl) (Wanted.no rfl rfl rfl rfl rfl) rfl ?_
          refine RH.skip 5 rfl (by kernel_rfl) (by kernel_rfl) (by kernel_rfl) (by kernel_rfl) (Wanted.no rfl rfl rfl rfl rfl) rfl ?_
          refine RH.skip 6 rfl (by kernel_rfl) (by kernel_rfl) (by kernel_rfl) (by kernel_rfl) (Wanted.no rfl rfl rfl rfl rfl) rfl ?_
          refine RH.skip 7 rfl (by kernel_rfl) (by kernel_rfl) (by kernel_rfl) (by kernel_rfl) (Wanted.no rfl rfl rfl rfl rfl) rfl ?_
          refine RH.skip 8 rfl (by kernel_rfl) (by kernel_rfl) (by kernel_rfl) (by kernel_rfl) (Wanted.un rfl rfl rfl) rfl ?_
          refine RH.skip 9 rfl (by kernel_rfl) (by kernel_rfl) (by kernel_rfl) (by kernel_rfl) (Wanted.un rfl rfl rfl) rfl ?_
          refine RH.skip 10 rfl (by kernel_rfl) (by kernel_rfl) (by kernel_rfl) (by kernel_rfl) (Wanted.no rfl rfl rfl rfl rfl) rfl ?_
          refine RH.skip 11 rfl (by kernel_rfl) (by kernel_rfl) (by kernel_rfl) (by kernel_rfl) (Wanted.no rfl rfl rfl rfl rfl) rfl ?_
          refine RH.skip 12 rfl (by kernel_rfl) (by kernel_rfl) (by kernel_rfl) (by kernel_rfl) (Wanted.un rfl rfl rfl) rfl ?_
          refine RH.skip 13 rfl (by kernel_rfl) (by kernel_rfl) (by kernel_rfl) (by kernel_rfl) (Wanted.un rfl rfl rfl) rfl ?_
          refine RH.skip 14 rfl (by kernel_rfl) (by kernel_rfl) (by kernel_rfl) (by kernel_rfl) (Wanted.un rfl rfl rfl) rfl ?_
          refine RH.skip 15 rfl (by kernel_rfl) (by kernel_rfl) (by kernel_rfl) (by kernel_rfl) (Wanted.no rfl rfl rfl rfl rfl) rfl ?_
          refine RH.skip 16 rfl (by kernel_rfl) (by kernel_rfl) (by kernel_rfl) (by kernel_rfl) (Wanted.no rfl rfl rfl rfl rfl) rfl ?_
          refine RH.skip 17 rfl (by kernel_rfl) (by kernel_rfl) (by kernel_rfl) (by kernel_rfl) (Wanted.un rfl rfl rfl) rfl ?_
          refine RH.skip 18 rfl (by kernel_rfl) (by kernel_rfl) (by kernel_rfl) (by kernel_rfl) (Wanted.un rfl rfl rfl) rfl ?_
          refine RH.skip 19 rfl (by kernel_rfl) (by kernel_rfl) (by kernel_rfl) (by kernel_rfl) (Wanted.un rfl rfl rfl) rfl ?_
          refine RH.skip 20 rfl (by kernel_rfl) (by kernel_rfl) (by kernel_rfl) (by kernel_rfl) (Wanted.un rfl rfl rfl) rfl ?_
          refine RH.skip 21 rfl (by kernel_rfl) (by kernel_rfl) (by kernel_rfl) (by kernel_rfl) (Wanted.un rfl rfl rfl) rfl ?_
          refine RH.skip 22 rfl (by kernel_rfl) (by kernel_rfl) (by kernel_rfl) (by kernel_rfl) (Wanted.un rfl rfl rfl) rfl ?_
          refine RH.skip 23 rfl (by kernel_rfl) (by kernel_rfl) (by kernel_rfl) (by kernel_rfl) (Wanted.un rfl rfl rfl) rfl ?_
          refine RH.skip 24 rfl (by kernel_rfl) (by kernel_rfl) (by kernel_rfl) (by kernel_rfl) (Wanted.no rfl rfl rfl rfl rfl) rfl ?_
          refine RH.pure 25 rfl (by kernel_rfl) (by kernel_rfl) (by kernel_rfl) (by kernel_rfl) (Wanted.free rfl) (V.pick_false rfl rfl rfl) rfl ?_
          refine RH.done (by kernel_rfl) ?_
          refine SG.cond_false rfl ?_
          refine SG.skip ?_
          refine SG.inBlock ?_
          refine SG.region ?_
          refine RL.val (Wanted.free rfl) (V.move rfl rfl) rfl ?_
          refine RL.val (Wanted.free rfl) (V.bin rfl rfl rfl (B.addI (by omega) (by omega))) rfl ?_
          refine RL.val (Wanted.free rfl) (V.assign rfl rfl) rfl ?_
          refine RL.nil ?_
          refine SG.weaken (ih1 _ _ _ ?_ ⟨j + 1, by omega, rfl, rfl, rfl⟩) ?_ ?_
          · omega
          · repeat (first | exact EnvLe.nil _ | refine EnvLe.cons rfl ?_)
          · repeat (first | exact Ent.refl _ | (apply Ent.cons; (· repeat (first | exact Pick.here | (refine Pick.sl ?_; (· repeat (first | exact List.Mem.head _ | assumption | apply List.Mem.tail))) | apply Pick.there))) | (refine Ent.trans (Ent.drop _ _) ?_))
        · skip
          have e1 : data.length ≤ 4000 → (propV (c.p j) data).2 = 0 := fun h => by rw [propV, if_neg (by omega), if_neg (by omega)]
          have e2 : (propV (c.p j) s).2 = if 4000 < s.length then 2 else 0 := by rw [propV, if_neg (by omega)]; split <;> rfl
          have e3 : (beat (c.p j)).length = (c.p j).nodes.toNat - 1 := by rw [beat, if_pos (by omega)]; exact others_eq _ i0 i1
          refine RL.val (Wanted.free rfl) (V.move rfl rfl) rfl ?_
          refine RL.skip (Wanted.no rfl rfl rfl rfl rfl) rfl ?_
          refine RL.skip (Wanted.no rfl rfl rfl rfl rfl) rfl ?_
          refine RL.skip (Wanted.no rfl rfl rfl rfl rfl) rfl ?_
          refine RL.skip (Wanted.un rfl rfl rfl) rfl ?_
          refine RL.skip (Wanted.un rfl rfl rfl) rfl ?_
          refine RL.skip (Wanted.no rfl rfl rfl rfl rfl) rfl ?_
          refine RL.skip (Wanted.no rfl rfl rfl rfl rfl) rfl ?_
          refine RL.skip (Wanted.un rfl rfl rfl) rfl ?_
          refine RL.skip (Wanted.un rfl rfl rfl) rfl ?_
          refine RL.skip (Wanted.un rfl rfl rfl) rfl ?_
          refine RL.skip (Wanted.un rfl rfl rfl) rfl ?_
          refine RL.skip (Wanted.no rfl rfl rfl rfl rfl) rfl ?_
          refine RL.val (Wanted.free rfl) (V.pick_false rfl rfl rfl) rfl ?_
          refine RL.nil ?_
          refine SG.cond_false rfl ?_
          refine SG.skip ?_
          refine SG.seq ?_
          refine SG.drawL 26 26 wide rfl rfl ?_
          refine RH.val 0 rfl (by kernel_rfl) (by kernel_rfl) (by kernel_rfl) (by kernel_rfl) (Wanted.free rfl) (V.fieldAddr rfl rfl fo26_4) rfl ?_
          refine RH.val 1 rfl (by kernel_rfl) (by kernel_rfl) (by kernel_rfl) (by kernel_rfl) (Wanted.free rfl) (V.load rfl on3 rfl (by repeat (first | exact Pick.here | assumption | apply Pick.there)) rfl) rfl ?_
          refine RH.cmpT 2 rfl (by kernel_rfl) (by kernel_rfl) (by kernel_rfl) (by kernel_rfl) (Wanted.free rfl) (V.bin rfl rfl rfl B.eql) rfl (by omega) ?_
          refine RH.val 3 rfl (by kernel_rfl) (by kernel_rfl) (by kernel_rfl) (by kernel_rfl) (Wanted.free rfl) (V.move rfl rfl) rfl ?_
          refine RH.val 4 rfl (by kernel_rfl) (by kernel_rfl) (by kernel_rfl) (by kernel_rfl) (Wanted.yes rfl rfl rfl rfl) (V.move rfl rfl) rfl ?_
          refine RH.val 5 rfl (by kernel_rfl) (by kernel_rfl) (by kernel_rfl) (by kernel_rfl) (Wanted.yes rfl rfl rfl rfl) (V.lenS rfl rfl us9 rfl) rfl ?_
          refine RH.cmp 6 rfl (by kernel_rfl) (by kernel_rfl) (by kernel_rfl) (by kernel_rfl) (Wanted.yes rfl rfl rfl rfl) (V.bin rfl rfl rfl B.leq) rfl (fun h146 => ?_) (fun h146 => ?_)
          · skip
            refine RH.val 7 rfl (by kernel_rfl) (by kernel_rfl) (by kernel_rfl) (by kernel_rfl) (Wanted.yes rfl rfl rfl rfl) (V.move rfl rfl) rfl ?_
            refine RH.val 8 rfl (by kernel_rfl) (by kernel_rfl) (by kernel_rfl) (by kernel_rfl) (Wanted.yes rfl rfl rfl rfl) (V.move rfl rfl) rfl ?_
            refine RH.cmpF 9 rfl (by kernel_rfl) (by kernel_rfl) (by kernel_rfl) (by kernel_rfl) (Wanted.yes rfl rfl rfl rfl) (V.bin rfl rfl rfl B.neq) rfl (by have := e1 (by omega); omega) ?_
            refine RH.pure 10 rfl (by kernel_rfl) (by kernel_rfl) (by kernel_rfl) (by kernel_rfl) (Wanted.yes rfl rfl rfl rfl) (V.pick_true rfl rfl rfl) rfl ?_
            refine RH.val 11 rfl (by kernel_rfl) (by kernel_rfl) (by kernel_rfl) (by kernel_rfl) (Wanted.yes rfl rfl rfl rfl) (V.move rfl rfl) rfl ?_
            refine RH.val 12 rfl (by kernel_rfl) (by kernel_rfl) (by kernel_rfl) (by kernel_rfl) (Wanted.yes rfl rfl rfl rfl) (V.move rfl rfl) rfl ?_
            refine RH.val 13 rfl (by kernel_rfl) (by kernel_rfl) (by kernel_rfl) (by kernel_rfl) (Wanted.yes rfl rfl rfl rfl) (V.move rfl rfl) rfl ?_
            refine RH.cmpF 14 rfl (by kernel_rfl) (by kernel_rfl) (by kernel_rfl) (by kernel_rfl) (Wanted.yes rfl rfl rfl rfl) (V.bin rfl rfl rfl B.neq) rfl (by have := e2; split at this <;> omega) ?_
            refine RH.pure 15 rfl (by kernel_rfl) (by kernel_rfl) (by kernel_rfl) (by kernel_rfl) (Wanted.yes rfl rfl rfl rfl) (V.pick_false rfl rfl rfl) rfl ?_
            refine RH.val 16 rfl (by kernel_rfl) (by kernel_rfl) (by kernel_rfl) (by kernel_rfl) (Wanted.yes rfl rfl rfl rfl) (V.move rfl rfl) rfl ?_
            refine RH.val 17 rfl (by kernel_rfl) (by kernel_rfl) (by kernel_rfl) (by kernel_rfl) (Wanted.yes rfl rfl rfl rfl) (V.loadAgg (us := pv (c.p j) (.slice pa pn pc) (.slice va vn vc) (.slice xa xn xc)) rfl ag26 rfl (by repeat (first | exact Pick.here | assumption | apply Pick.there)) rfl rfl) rfl ?_
            refine RH.val 20 rfl (by kernel_rfl) (by kernel_rfl) (by kernel_rfl) (by kernel_rfl) (Wanted.yes rfl rfl rfl rfl) (V.fieldAddr rfl rfl fo26_1) rfl ?_
            refine RH.val 21 rfl (by kernel_rfl) (by kernel_rfl) (by kernel_rfl) (by kernel_rfl) (Wanted.yes rfl rfl rfl rfl) (V.load rfl on3 rfl (by repeat (first | exact Pick.here | assumption | apply Pick.there)) rfl) rfl ?_
            refine RH.val 22 rfl (by kernel_rfl) (by kernel_rfl) (by kernel_rfl) (by kernel_rfl) (Wanted.yes rfl rfl rfl rfl) (V.bin rfl rfl rfl (B.subI (by omega) (by omega))) rfl ?_
            refine RH.one (i := 18) (by kernel_rfl) ?_
            refine RHone.eff rfl (Wanted.yes rfl rfl rfl rfl) (E.call rfl go21 rfl (pBeat_ok (us := pv (c.p j) (.slice pa pn pc) (.slice va vn vc) (.slice xa xn xc)) (p := c.p j) (by repeat (first | exact List.Mem.head _ | assumption | apply List.Mem.tail)) (by omega) (by omega) (by omega) (by omega) (by omega) (by omega) (by omega) (by omega) (by omega) mn mm)) rfl ?_
            rintro _ _ ⟨a109, c109, rfl, rfl⟩
            refine ⟨.inr (by repeat (first | exact Ent.refl _ | (apply Ent.cons; (· repeat (first | exact Pick.here | (refine Pick.sl ?_; (· repeat (first | exact List.Mem.head _ | assumption | apply List.Mem.tail))) | apply Pick.there))) | (refine Ent.trans (Ent.drop _ _) ?_))), ?_⟩
            refine RH.val 19 rfl (by kernel_rfl) (by kernel_rfl) (by kernel_rfl) (by kernel_rfl) (Wanted.yes rfl rfl rfl rfl) (V.len rfl rfl el35.under rfl) rfl ?_
            refine RH.cmpF 23 rfl (by kernel_rfl) (by kernel_rfl) (by kernel_rfl) (by kernel_rfl) (Wanted.yes rfl rfl rfl rfl) (V.bin rfl rfl rfl B.neq) rfl (by omega) ?_
            refine RH.pure 24 rfl (by kernel_rfl) (by kernel_rfl) (by kernel_rfl) (by kernel_rfl) (Wanted.yes rfl rfl rfl rfl) (V.pick_false rfl rfl rfl) rfl ?_
            refine RH.pure 25 rfl (by kernel_rfl) (by kernel_rfl) (by kernel_rfl) (by kernel_rfl) (Wanted.free rfl) (V.pick_true rfl rfl rfl) rfl ?_
            refine RH.done (by kernel_rfl) ?_
            refine SG.cond_false rfl ?_
            refine SG.skip ?_
            refine SG.inBlock ?_
            refine SG.region ?_
            refine RL.val (Wanted.free rfl) (V.move rfl rfl) rfl ?_
            refine RL.val (Wanted.free rfl) (V.bin rfl rfl rfl (B.addI (by omega) (by omega))) rfl ?_
            refine RL.val (Wanted.free rfl) (V.assign rfl rfl) rfl ?_
            refine RL.nil ?_
            refine SG.weaken (ih1 _ _ _ ?_ ⟨j + 1, by omega, rfl, rfl, rfl⟩) ?_ ?_
            · omega
            · repeat (first | exact EnvLe.nil _ | refine EnvLe.cons rfl ?_)
            · repeat (first | exact Ent.refl _ | (apply Ent.cons; (· repeat (first | exact Pick.here | (refine Pick.sl ?_; (· repeat (first | exact List.Mem.head _ | assumption | apply List.Mem.tail))) | apply Pick.there))) | (refine Ent.trans (Ent.drop _ _) ?_))
          · skip
            refine RH.val 7 rfl (by kernel_rfl) (by kernel_rfl) (by kernel_rfl) (by kernel_rfl) (Wanted.yes rfl rfl rfl rfl) (V.move rfl rfl) rfl ?_
            refine RH.skip 8 rfl (by kernel_rfl) (by kernel_rfl) (by kernel_rfl) (by kernel_rfl) (Wanted.no rfl rfl rfl rfl rfl) rfl ?_
            refine RH.skip 9 rfl (by kernel_rfl) (by kernel_rfl) (by kernel_rfl) (by kernel_rfl) (Wanted.no rfl rfl rfl rfl rfl) rfl ?_
            refine RH.pure 10 rfl (by kernel_rfl) (by kernel_rfl) (by kernel_rfl) (by kernel_rfl) (Wanted.yes rfl rfl rfl rfl) (V.pick_false rfl rfl rfl) rfl ?_
            refine RH.val 11 rfl (by kernel_rfl) (by kernel_rfl) (by kernel_rfl) (by kernel_rfl) (Wanted.yes rfl rfl rfl rfl) (V.move rfl rfl) rfl ?_
            refine RH.val 12 rfl (by kernel_rfl) (by kernel_rfl) (by kernel_rfl) (by kernel_rfl) (Wanted.yes rfl rfl rfl rfl) (V.move rfl rfl) rfl ?_
            refine RH.val 13 rfl (by kernel_rfl) (by kernel_rfl) (by kernel_rfl) (by kernel_rfl) (Wanted.yes rfl rfl rfl rfl) (V.move rfl rfl) rfl ?_
            refine RH.cmpF 14 rfl (by kernel_rfl) (by kernel_rfl) (by kernel_rfl) (by kernel_rfl) (Wanted.yes rfl rfl rfl rfl) (V.bin rfl rfl rfl B.neq) rfl (by have := e2; split at this <;> omega) ?_
            refine RH.pure 15 rfl (by kernel_rfl) (by kernel_rfl) (by kernel_rfl) (by kernel_rfl) (Wanted.yes rfl rfl rfl rfl) (V.pick_false rfl rfl rfl) rfl ?_
            refine RH.val 16 rfl (by kernel_rfl) (by kernel_rfl) (by kernel_rfl) (by kernel_rfl) (Wanted.yes rfl rfl rfl rfl) (V.move rfl rfl) rfl ?_
            refine RH.val 17 rfl (by kernel_rfl) (by kernel_rfl) (by kernel_rfl) (by kernel_rfl) (Wanted.yes rfl rfl rfl rfl) (V.loadAgg (us := pv (c.p j) (.slice pa pn pc) (.slice va vn vc) (.slice xa xn xc)) rfl ag26 rfl (by repeat (first | exact Pick.here | assumption | apply Pick.there)) rfl rfl) rfl ?_
            refine RH.val 20 rfl (by kernel_rfl) (by kernel_rfl) (by kernel_rfl) (by kernel_rfl) (Wanted.yes rfl rfl rfl rfl) (V.fieldAddr rfl rfl fo26_1) rfl ?_
            refine RH.val 21 rfl (by kernel_rfl) (by kernel_rfl) (by kernel_rfl) (by kernel_rfl) (Wanted.yes rfl rfl rfl rfl) (V.load rfl on3 rfl (by repeat (first | exact Pick.here | assumption | apply Pick.there)) rfl) rfl ?_
            refine RH.val 22 rfl (by kernel_rfl) (by kernel_rfl) (by kernel_rfl) (by kernel_rfl) (Wanted.yes rfl rfl rfl rfl) (V.bin rfl rfl rfl (B.subI (by omega) (by omega))) rfl ?_
            refine RH.one (i := 18) (by kernel_rfl) ?_
            refine RHone.eff rfl (Wanted.yes rfl rfl rfl rfl) (E.call rfl go21 rfl (pBeat_ok (us := pv (c.p j) (.slice pa pn pc) (.slice va vn vc) (.slice xa xn xc)) (p := c.p j) (by repeat (first | exact List.Mem.head _ | assumption | apply List.Mem.tail)) (by omega) (by omega) (by omega) (by omega) (by omega) (by omega) (by omega) (by omega) (by omega) mn mm)) rfl ?_
            rintro _ _ ⟨a109, c109, rfl, rfl⟩
            refine ⟨.inr (by repeat (first | exact Ent.refl _ | (apply Ent.cons; (· repeat (first | exact Pick.here | (refine Pick.sl ?_; (· repeat (first | exact List.Mem.head _ | assumption | apply List.Mem.tail))) | apply Pick.there))) | (refine Ent.trans (Ent.drop _ _) ?_))), ?_⟩
            refine RH.val 19 rfl (by kernel_rfl) (by kernel_rfl) (by kernel_rfl) (by kernel_rfl) (Wanted.yes rfl rfl rfl rfl) (V.len rfl rfl el35.under rfl) rfl ?_
            refine RH.cmpF 23 rfl (by kernel_rfl) (by kernel_rfl) (by kernel_rfl) (by kernel_rfl) (Wanted.yes rfl rfl rfl rfl) (V.bin rfl rfl rfl B.neq) rfl (by omega) ?_
            refine RH.pure 24 rfl (by kernel_rfl) (by kernel_rfl) (by kernel_rfl) (by kernel_rfl) (Wanted.yes rfl rfl rfl rfl) (V.pick_false rfl rfl rfl) rfl ?_
            refine RH.pure 25 rfl (by kernel_rfl) (by kernel_rfl) (by kernel_rfl) (by kernel_rfl) (Wanted.free rfl) (V.pick_true rfl rfl rfl) rfl ?_
            refine RH.done (by kernel_rfl) ?_
            refine SG.cond_false rfl ?_
            refine SG.skip ?_
            refine SG.inBlock ?_
            refine SG.region ?_
            refine RL.val (Wanted.free rfl) (V.move rfl rfl) rfl ?_
            refine RL.val (Wanted.free rfl) (V.bin rfl rfl rfl (B.addI (by omega) (by omega))) rfl ?_
            refine RL.val (Wanted.free rfl) (V.assign rfl rfl) rfl ?_
            refine RL.nil ?_
            refine SG.weaken (ih1 _ _ _ ?_ ⟨j + 1, by omega, rfl, rfl, rfl⟩) ?_ ?_
            · omega
            · repeat (first | exact EnvLe.nil _ | refine EnvLe.cons rfl ?_)
            · repeat (first | exact Ent.refl _ | (apply Ent.cons; (· repeat (first | exact Pick.here | (refine Pick.sl ?_; (· repeat (first | exact List.Mem.head _ | assumption | apply List.Mem.tail))) | apply Pick.there))) | (refine Ent.trans (Ent.drop _ _) ?_))
    · skip
      refine RL.nil ?_
      refine SG.cond_false rfl ?_
      refine SG.exit rfl ?_
      refine SG.seq ?_
      refine SG.region ?_
      refine RL.eff (Wanted.free rfl) (E.call rfl go28 rfl (lives_ok)) rfl ?_
      rintro _ _ ⟨rfl, rfl⟩
      refine RL.val (Wanted.free rfl) (V.assign rfl rfl) rfl ?_
      refine RL.nil ?_
      refine SG.retE (Ret.r1 Try.func5 rfl (.tmp rfl)) ?_ ⟨rfl, rfl⟩
      repeat (first | exact Ent.refl _ | (apply Ent.cons; (· repeat (first | exact Pick.here | (refine Pick.sl ?_; (· repeat (first | exact List.Mem.head _ | assumption | apply List.Mem.tail))) | apply Pick.there))) | (refine Ent.trans (Ent.drop _ _) ?_))

end Go.Proofs.Ytilcnglcflohoaa
