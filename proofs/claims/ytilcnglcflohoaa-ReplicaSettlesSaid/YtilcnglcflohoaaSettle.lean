/- The walk of ReplicaSettles. -/
import Derived.Test.YtilcnglcflohoaaKeeps
import Derived.Test.YtilcnglcflohoaaRaft6
namespace Go.Proofs.Ytilcnglcflohoaa
open Go.Wk Go.Rp

set_option maxRecDepth 100000 in
set_option maxHeartbeats 1000000 in
theorem deliver_ok {κ : World} {L : List Assn} {cs : List Value} {c : Clu} (hm : Rd RClu cs c ∈ L) {N : Nat} {G : Gh} {s : Nat} (hr : Rp.Reach N G s c) (h1 : 1 ≤ N) (h5 : N ≤ 5) (hs : s ≤ 790) {k : Nat} (hk : k ≤ 100000) :
    Ctr Try.prog 36 #[.agg cs.toArray, vI k] κ L (fun v M => ∃ cs', v = .agg cs'.toArray ∧ M = Rd RClu cs' (deliverV c k 200) :: L) := by
  refine Ctr.enter (vs := [.agg cs.toArray, vI k]) (m := 24) Try.func36 rfl rfl rfl ?_
  refine SG.openClu (Pick.rd hm) fun na nn nc sa sn sc hcs => ?_
  subst hcs
  refine SG.ent (Pick.rd (T := RClu) (cs := [.slice na nn nc, .slice sa sn sc]) (y := c) (by repeat (first | exact List.Mem.head _ | assumption | apply List.Mem.tail))) ?_
  refine SG.seq ?_
  refine SG.region ?_
  refine RL.eff (Wanted.free rfl) (E.box _ rfl rfl rfl) rfl ?_
  rintro _ _ ⟨b2, rfl, rfl⟩
  refine RL.eff (Wanted.free rfl) (E.alloc rfl ze37) rfl ?_
  rintro _ _ ⟨b4, rfl, rfl⟩
  refine RL.nil ?_
  refine SG.seq ?_
  refine SG.seq ?_
  refine SG.region ?_
  refine RL.val (Wanted.free rfl) (V.move rfl rfl) rfl ?_
  refine RL.val (Wanted.free rfl) (V.assign rfl rfl) rfl ?_
  refine RL.nil ?_
  refine SG.block ?_
  refine SG.weaken (SG.loop2 (fun m al M => ∃ (j : Nat) (c2 : Clu) (G2 : Gh) (na : Option Addr) (nn nc : Nat) (sa : Option Addr) (sn sc : Nat), j ≤ 200 ∧ Rp.Reach N G2 (s + j) c2 ∧ deliverV c2 (k + j) (200 - j) = deliverV c k 200 ∧ m = 200 - j ∧ al = [(1, vI k), (2, ptr b2 0), (4, ptr b4 0), (5, vI ((k + j : Nat) : Int))] ∧ M = Blk b2 37 [.slice na nn nc, .slice sa sn sc] :: Rd RClu [.slice na nn nc, .slice sa sn sc] c2 :: Sl RPeer na nn nc c2.nodes :: Sl RMsg sa sn sc c2.sent :: Blk b4 37 [.slice none 0 0, .slice none 0 0] :: L) (m0 := _) ⟨0, c, G, na, nn, nc, sa, sn, sc, by omega, hr, rfl, rfl, rfl, rfl⟩ ?_) ?_ ?_
  rotate_left
  · repeat (first | exact EnvLe.nil _ | refine EnvLe.cons rfl ?_)
  · repeat (first | exact Ent.refl _ | (apply Ent.cons; (· repeat (first | exact Pick.here | (refine Pick.sl ?_; (· repeat (first | exact List.Mem.head _ | assumption | apply List.Mem.tail))) | apply Pick.there))) | (refine Ent.trans (Ent.drop _ _) ?_))
  rintro _ _ _ ⟨j, c2, G2, na, nn, nc, sa, sn, sc, hj, hr2, hd, rfl, rfl, rfl⟩ ih0
  refine SG.seq ?_
  refine SG.seq ?_
  refine SG.sl (T := RMsg) (a := sa) (l := c2.sent) (by repeat (first | exact List.Mem.head _ | assumption | apply List.Mem.tail)) fun hsl _ _ => ?_
  refine SG.region ?_
  refine RL.val (Wanted.free rfl) (V.move rfl rfl) rfl ?_
  refine RL.val (Wanted.free rfl) (V.fieldAddr rfl rfl fo37_1) rfl ?_
  refine RL.val (Wanted.free rfl) (V.load rfl on35 rfl (by repeat (first | exact Pick.here | assumption | apply Pick.there)) rfl) rfl ?_
  refine RL.val (Wanted.free rfl) (V.len rfl rfl el35.under rfl) rfl ?_
  refine RL.cmp (Wanted.free rfl) (V.bin rfl rfl rfl B.lss) rfl (fun h9 => ?_) (fun h9 => ?_)
  · skip
    refine RL.val (Wanted.free rfl) (V.move rfl rfl) rfl ?_
    refine RL.val (Wanted.yes rfl rfl rfl rfl) (V.move rfl rfl) rfl ?_
    refine RL.val (Wanted.yes rfl rfl rfl rfl) (V.move rfl rfl) rfl ?_
    refine RL.val (Wanted.yes rfl rfl rfl rfl) (V.bin rfl rfl rfl (B.addI (by omega) (by omega))) rfl ?_
    refine RL.cmp (Wanted.yes rfl rfl rfl rfl) (V.bin rfl rfl rfl B.lss) rfl (fun h14 => ?_) (fun h14 => ?_)
    · skip
      refine RL.val (Wanted.free rfl) (V.pick_true rfl rfl rfl) rfl ?_
      refine RL.nil ?_
      refine SG.cond_true rfl ?_
      refine SG.skip ?_
      refine SG.seq ?_
      refine SG.block ?_
      have hok := Rch.ok hr2 h1 h5 (by omega)
      have hlt : k + j < c2.sent.length := by omega
      obtain ⟨G3, _, hr3⟩ := hr2.arr hlt
      have hdv : deliverV (cArr c2 (k + j)) (k + (j + 1)) (200 - (j + 1)) = deliverV c k 200 := by
        rw [← hd, show 200 - j = (200 - (j + 1)) + 1 from by omega, deliverV, if_pos hlt]; rfl
      refine SG.region ?_
      refine RL.val (Wanted.free rfl) (V.loadAgg (us := [.slice na nn nc, .slice sa sn sc]) rfl ag37 rfl (by repeat (first | exact Pick.here | assumption | apply Pick.there)) rfl rfl) rfl ?_
      refine RL.val (Wanted.free rfl) (V.move rfl rfl) rfl ?_
      refine RL.eff (Wanted.free rfl) (E.call rfl go69 rfl (cArr_ok (c := c2) (k := k + j) (by repeat (first | exact List.Mem.head _ | assumption | apply List.Mem.tail)) hok hlt)) rfl ?_
      rintro _ _ ⟨u22, rfl, rfl⟩
      refine RL.openClu (cs := u22) (Pick.rd (T := RClu) (by repeat (first | exact List.Mem.head _ | assumption | apply List.Mem.tail))) fun ea en ec fa fn fc hcs => ?_
      subst hcs
      refine RL.eff (Wanted.free rfl) (E.storeWhole rfl rfl rfl (by rfl) sz37 (by repeat (first | exact Pick.here | assumption | apply Pick.there)) (by first | (simp [Value.oneCell']; done) | (simp [setAt, Value.oneCell']; done)) (by rfl)) rfl ?_
      rintro _ _ rfl
      refine RL.nil ?_
      refine SG.inBlock ?_
      refine SG.region ?_
      refine RL.val (Wanted.free rfl) (V.move rfl rfl) rfl ?_
      refine RL.val (Wanted.free rfl) (V.bin rfl rfl rfl (B.addI (by omega) (by omega))) rfl ?_
      refine RL.val (Wanted.free rfl) (V.assign rfl rfl) rfl ?_
      refine RL.nil ?_
      refine SG.weaken (ih0 _ _ _ ?_ ⟨j + 1, cArr c2 (k + j), G3, ea, en, ec, fa, fn, fc, by omega, hr3, hdv, rfl, rfl, rfl⟩) ?_ ?_
      · omega
      · repeat (first | exact EnvLe.nil _ | refine EnvLe.cons rfl ?_)
      · repeat (first | exact Ent.refl _ | (apply Ent.cons; (· repeat (first | exact Pick.here | (refine Pick.sl ?_; (· repeat (first | exact List.Mem.head _ | assumption | apply List.Mem.tail))) | apply Pick.there))) | (refine Ent.trans (Ent.drop _ _) ?_))
    · skip
      refine RL.val (Wanted.free rfl) (V.pick_true rfl rfl rfl) rfl ?_
      refine RL.nil ?_
      refine SG.cond_false rfl ?_
      refine SG.exit rfl ?_
      refine SG.seq ?_
      have hfin : deliverV c k 200 = c2 := by
        rw [← hd]
        first | exact deliver_end (by omega) _ | (rw [show 200 - j = 0 from by omega]; rfl)
      rw [hfin]
      refine SG.region ?_
      refine RL.val (Wanted.free rfl) (V.loadAgg (us := [.slice na nn nc, .slice sa sn sc]) rfl ag37 rfl (by repeat (first | exact Pick.here | assumption | apply Pick.there)) rfl rfl) rfl ?_
      refine RL.eff (Wanted.free rfl) (E.storeWhole rfl rfl rfl (by rfl) sz37 (by repeat (first | exact Pick.here | assumption | apply Pick.there)) (by first | (simp [Value.oneCell']; done) | (simp [setAt, Value.oneCell']; done)) (by rfl)) rfl ?_
      rintro _ _ rfl
      refine RL.nil ?_
      refine SG.retE (Ret.r1 Try.func36 rfl (.agg rfl ag37 (by repeat (first | exact Pick.here | assumption | apply Pick.there)) rfl rfl)) ?_ ⟨_, rfl, rfl⟩
      repeat (first | exact Ent.refl _ | (apply Ent.cons; (· repeat (first | exact Pick.here | (refine Pick.sl ?_; (· repeat (first | exact List.Mem.head _ | assumption | apply List.Mem.tail))) | apply Pick.there))) | (refine Ent.trans (Ent.drop _ _) ?_))
  · skip
    refine RL.val (Wanted.free rfl) (V.move rfl rfl) rfl ?_
    refine RL.skip (Wanted.no rfl rfl rfl rfl rfl) rfl ?_
    refine RL.skip (Wanted.no rfl rfl rfl rfl rfl) rfl ?_
    refine RL.skip (Wanted.no rfl rfl rfl rfl rfl) rfl ?_
    refine RL.skip (Wanted.no rfl rfl rfl rfl rfl) rfl ?_
    refine RL.val (Wanted.free rfl) (V.pick_false rfl rfl rfl) rfl ?_
    refine RL.nil ?_
    refine SG.cond_false rfl ?_
    refine SG.exit rfl ?_
    refine SG.seq ?_
    have hfin : deliverV c k 200 = c2 := by
      rw [← hd]
      first | exact deliver_end (by omega) _ | (rw [show 200 - j = 0 from by omega]; rfl)
    rw [hfin]
    refine SG.region ?_
    refine RL.val (Wanted.free rfl) (V.loadAgg (us := [.slice na nn nc, .slice sa sn sc]) rfl ag37 rfl (by repeat (first | exact Pick.here | assumption | apply Pick.there)) rfl rfl) rfl ?_
    refine RL.eff (Wanted.free rfl) (E.storeWhole rfl rfl rfl (by rfl) sz37 (by repeat (first | exact Pick.here | assumption | apply Pick.there)) (by first | (simp [Value.oneCell']; done) | (simp [setAt, Value.oneCell']; done)) (by rfl)) rfl ?_
    rintro _ _ rfl
    refine RL.nil ?_
    refine SG.retE (Ret.r1 Try.func36 rfl (.agg rfl ag37 (by repeat (first | exact Pick.here | assumption | apply Pick.there)) rfl rfl)) ?_ ⟨_, rfl, rfl⟩
    repeat (first | exact Ent.refl _ | (apply Ent.cons; (· repeat (first | exact Pick.here | (refine Pick.sl ?_; (· repeat (first | exact List.Mem.head _ | assumption | apply List.Mem.tail))) | apply Pick.there))) | (refine Ent.trans (Ent.drop _ _) ?_))

set_option maxRecDepth 100000 in
theorem short_ok {κ : World} {L : List Assn} {s : List UInt8} {k : Int} (hk : 0 ≤ k) :
    Ctr Try.prog 38 #[vS s, vI k] κ L (fun v M => v = vS (s.take k.toNat) ∧ M = L) := by
  refine Ctr.enter (vs := [vS s, vI k]) (m := 11) Try.func38 rfl rfl rfl ?_
  obtain ⟨k, rfl⟩ := Int.eq_ofNat_of_zero_le hk
  have e : (s.drop 0).take (min s.length k - 0) = s.take k := by rw [List.drop_zero, Nat.sub_zero, List.take_eq_take_iff]; omega
  refine SG.seq ?_
  refine SG.region ?_
  refine RL.val (Wanted.free rfl) (V.assign rfl rfl) rfl ?_
  refine RL.nil ?_
  refine SG.seq ?_
  refine SG.region ?_
  refine RL.val (Wanted.free rfl) (V.move rfl rfl) rfl ?_
  refine RL.val (Wanted.free rfl) (V.move rfl rfl) rfl ?_
  refine RL.val (Wanted.free rfl) (V.lenS rfl rfl us9 rfl) rfl ?_
  refine RL.val (Wanted.free rfl) (V.move rfl rfl) rfl ?_
  refine RL.val (Wanted.free rfl) (V.min rfl rfl rfl rfl) rfl ?_
  refine RL.val (Wanted.free rfl) (V.sliceS (lo := 0) (hi := min s.length k) rfl us9 rfl rfl ⟨_, _, rfl, (by first | rfl | omega)⟩ (by omega) (by omega)) rfl ?_
  rw [e]
  refine RL.val (Wanted.free rfl) (V.assign rfl rfl) rfl ?_
  refine RL.nil ?_
  refine SG.retE (Ret.r1 Try.func38 rfl (.tmp rfl)) ?_ ⟨rfl, rfl⟩
  repeat (first | exact Ent.refl _ | (apply Ent.cons; (· repeat (first | exact Pick.here | (refine Pick.sl ?_; (· repeat (first | exact List.Mem.head _ | assumption | apply List.Mem.tail))) | apply Pick.there))) | (refine Ent.trans (Ent.drop _ _) ?_))

set_option maxRecDepth 100000 in
theorem last_ok {κ : World} {L : List Assn} {a : Option Addr} {n c : Nat} {l : List Slot} (hm : Sl RSlot a n c l ∈ L) :
    Ctr Try.prog 34 #[.slice a n c] κ L (fun v M => v = vI (lastT l) ∧ M = L) := by
  refine Ctr.enter (vs := [.slice a n c]) (m := 13) Try.func34 rfl rfl rfl ?_
  refine SG.sl hm fun hn _ _ => ?_
  refine SG.seq ?_
  refine SG.region ?_
  refine RL.val (Wanted.free rfl) (V.assign rfl rfl) rfl ?_
  refine RL.nil ?_
  refine SG.seq ?_
  refine SG.seq ?_
  refine SG.region ?_
  refine RL.val (Wanted.free rfl) (V.move rfl rfl) rfl ?_
  refine RL.val (Wanted.free rfl) (V.len rfl rfl el23.under rfl) rfl ?_
  refine RL.cmp (Wanted.free rfl) (V.bin rfl rfl rfl B.eql) rfl (fun h4 => ?_) (fun h4 => ?_)
  · skip
    refine RL.nil ?_
    refine SG.cond_true rfl ?_
    refine SG.seq ?_
    refine SG.region ?_
    refine RL.val (Wanted.free rfl) (V.assign rfl rfl) rfl ?_
    refine RL.nil ?_
    refine SG.retE (Ret.r1 Try.func34 rfl (.tmp rfl)) ?_ ⟨by rw [lastT, show l.length = 0 from by omega]; rfl, rfl⟩
    repeat (first | exact Ent.refl _ | (apply Ent.cons; (· repeat (first | exact Pick.here | (refine Pick.sl ?_; (· repeat (first | exact List.Mem.head _ | assumption | apply List.Mem.tail))) | apply Pick.there))) | (refine Ent.trans (Ent.drop _ _) ?_))
  · skip
    refine RL.nil ?_
    refine SG.cond_false rfl ?_
    refine SG.skip ?_
    refine SG.seq ?_
    refine SG.elemDt (a := a) hm (show l[l.length - 1]? = some (l[l.length - 1]'(by omega)) from List.getElem?_eq_getElem (by omega)) fun _ => ?_
    refine SG.region ?_
    refine RL.val (Wanted.free rfl) (V.move rfl rfl) rfl ?_
    refine RL.val (Wanted.free rfl) (V.move rfl rfl) rfl ?_
    refine RL.val (Wanted.free rfl) (V.len rfl rfl el23.under rfl) rfl ?_
    refine RL.val (Wanted.free rfl) (V.bin rfl rfl rfl (B.subI (by omega) (by omega))) rfl ?_
    refine RL.val (Wanted.free rfl) (V.indexSl (T := RSlot) (a := a) (l := l) (j := l.length - 1) rfl el23.slice rfl rfl (by repeat (first | exact List.Mem.head _ | assumption | apply List.Mem.tail)) (by omega) (by omega)) rfl ?_
    refine RL.val (Wanted.free rfl) (V.fieldAt rfl rfl fo53_0 (by repeat (first | exact List.Mem.head _ | assumption | apply List.Mem.tail))) rfl ?_
    refine RL.val (Wanted.free rfl) (V.loadAtF rfl on3 rfl (by repeat (first | exact List.Mem.head _ | assumption | apply List.Mem.tail)) rfl) rfl ?_
    refine RL.val (Wanted.free rfl) (V.assign rfl rfl) rfl ?_
    refine RL.nil ?_
    refine SG.retE (Ret.r1 Try.func34 rfl (.tmp rfl)) ?_ ⟨by rw [lastT, termAt_get (k := l.length - 1) (by omega) (by omega) (by omega)], rfl⟩
    repeat (first | exact Ent.refl _ | (apply Ent.cons; (· repeat (first | exact Pick.here | (refine Pick.sl ?_; (· repeat (first | exact List.Mem.head _ | assumption | apply List.Mem.tail))) | apply Pick.there))) | (refine Ent.trans (Ent.drop _ _) ?_))

theorem stateAt_reach {N : Nat} (h1 : 1 ≤ N) (h5 : N ≤ 5) (A : List Act) (j : Nat) : ∃ G, Rp.Reach N G j (stateAt N A j) := reach_at h1 h5 A j
theorem runV_last (n : Int) (l : List Int) (hl : l.length ≤ 40) : ∃ N G s c, 1 ≤ N ∧ N ≤ 5 ∧ s ≤ 40 ∧ Rp.Reach N G s c ∧ (runV n l).length ≤ 61 ∧ 0 < (runV n l).length ∧ (runV n l)[(runV n l).length - 1]? = some c := by
  obtain ⟨_, _, _, _, h1, h5⟩ := sizeN_ok n
  have hA : (actsOf (sizeN n) l).length ≤ 40 := by rw [actsOf, List.length_map, List.length_take]; omega
  unfold runV
  generalize actsOf (sizeN n) l = A at hA ⊢
  generalize sizeN n = N at h1 h5 ⊢
  obtain ⟨G, hr⟩ := reach_at h1 h5 A A.length
  refine ⟨N, G, A.length, stateAt N A A.length, h1, h5, hA, hr, by rw [hist_len]; omega, by rw [hist_len]; omega, ?_⟩
  rw [hist_len, Nat.add_sub_cancel]
  unfold hist
  rw [List.getElem?_map, List.getElem?_range (by omega)]; rfl
theorem camp_keep {c : Clu} {b : Nat} (h : b < c.nodes.length) : ((cCamp c b).p b).term = (c.p b).term + 1 ∧ ((cCamp c b).p b).log = (c.p b).log ∧ ∀ j, j ≠ b → (cCamp c b).p j = c.p j := by
  have e : (cCamp c b).p b = (campaign (c.p b)).1 := put_get h _
  refine ⟨?_, ?_, fun j hj => put_get_ne (Ne.symm hj) _⟩
  · rw [e]; unfold campaign; show Peer.term (if _ then _ else _) = _; split <;> rfl
  · rw [e]; unfold campaign; show Peer.log (if _ then _ else _) = _; split <;> rfl
theorem good_trans {x y z : List Slot} (h : good x y) (h' : good y z) : good x z := by
  rcases h with h | ⟨h, g⟩ <;> rcases h' with h' | ⟨h', g'⟩
  · exact .inl (by omega)
  · exact .inl (by omega)
  · exact .inl (by omega)
  · exact .inr ⟨by omega, by omega⟩
theorem step_new {c : Clu} {b i : Nat} (hg : ∀ j, j < i → good (c.p j).log (c.p b).log) (h : good (c.p b).log (c.p i).log) : ∀ j, j < i + 1 → good (c.p j).log (c.p i).log := fun j hj => by
  by_cases e : j = i
  · subst e; exact good.refl _
  · exact good_trans (hg j (by omega)) h
theorem step_old {c : Clu} {b i : Nat} (hg : ∀ j, j < i → good (c.p j).log (c.p b).log) (h : good (c.p i).log (c.p b).log) : ∀ j, j < i + 1 → good (c.p j).log (c.p b).log := fun j hj => by
  by_cases e : j = i
  · subst e; exact h
  · exact hg j (by omega)
def nbeats (c : Clu) (b : Nat) : Nat → Clu
  | 0 => c
  | q + 1 => beats (nbeats c b q) b
theorem committed_all {p : Peer} {l : List Slot} (hl : p.log = l) (hc : p.commit = (l.length : Int)) : committed p = l.map (·.data) := by
  unfold committed
  rw [hl, hc, Int.toNat_natCast, List.take_length]
set_option maxRecDepth 100000 in
set_option maxHeartbeats 2000000 in
theorem settles_law {κ : World} {L : List Assn} {n : Int} (hn : inInt n) {a : Option Addr} {k cc : Nat} {l : List Int} (hm : Sl RI a k cc l ∈ L) {data : List UInt8} :
    Ctr Try.prog 10 #[vI n, .slice a k cc, vS data] κ L (fun v M => v = vB true ∧ M = L) := by
  refine Ctr.enter (vs := [vI n, .slice a k cc, vS data]) (m := 179) Try.func10 rfl rfl rfl ?_
  refine SG.sl hm fun hkl hkc _ => ?_
  refine SG.seq ?_
  refine SG.region ?_
  refine RL.val (Wanted.free rfl) (V.assign rfl rfl) rfl ?_
  refine RL.nil ?_
  refine SG.seq ?_
  refine SG.region ?_
  refine RL.val (Wanted.free rfl) (V.move rfl rfl) rfl ?_
  refine RL.val (Wanted.free rfl) (V.move rfl rfl) rfl ?_
  refine RL.val (Wanted.free rfl) (V.move rfl rfl) rfl ?_
  refine RL.val (Wanted.free rfl) (V.len rfl rfl el22.under rfl) rfl ?_
  refine RL.val (Wanted.free rfl) (V.min rfl rfl rfl rfl) rfl ?_
  rw [show (if (40 : Int) < (k : Int) then (40 : Int) else (k : Int)) = ((min k 40 : Nat) : Int) from by split <;> omega]
  refine RL.eff (Wanted.free rfl) (E.slice (hi := min k 40) rfl el22.slice rfl (by repeat (first | exact List.Mem.head _ | assumption | apply List.Mem.tail)) rfl ⟨_, _, rfl, (by first | rfl | omega)⟩ (by omega) (by omega)) rfl ?_
  intro _ _ hK7
  try rw [List.drop_zero] at hK7
  iterate 2 (try rw [Nat.sub_zero] at hK7)
  obtain ⟨a27, rfl, rfl⟩ := hK7
  refine RL.eff (Wanted.free rfl) (E.call rfl go15 rfl (run_ok hn (by repeat (first | exact List.Mem.head _ | assumption | apply List.Mem.tail)))) rfl ?_
  rintro _ _ ⟨a7, c7, rfl, rfl⟩
  obtain ⟨N, G, s, c, h1, h5, hs40, hr, hHl, hH0, hHc⟩ := runV_last n (l.take (min k 40)) (by rw [List.length_take]; omega)
  generalize runV n (l.take (min k 40)) = H at hHl hH0 hHc ⊢
  refine RL.val (Wanted.free rfl) (V.move rfl rfl) rfl ?_
  refine RL.val (Wanted.free rfl) (V.extract rfl rfl rfl) rfl ?_
  refine RL.val (Wanted.free rfl) (V.extract rfl rfl rfl) rfl ?_
  refine RL.val (Wanted.free rfl) (V.assign rfl rfl) rfl ?_
  refine RL.val (Wanted.free rfl) (V.assign rfl rfl) rfl ?_
  refine RL.nil ?_
  refine SG.seq ?_
  refine SG.seq ?_
  refine SG.region ?_
  refine RL.val (Wanted.free rfl) (V.move rfl rfl) rfl ?_
  refine RL.val (Wanted.free rfl) (V.not rfl rfl) rfl ?_
  refine RL.nil ?_
  refine SG.cond_false rfl ?_
  refine SG.skip ?_
  refine SG.seq ?_
  refine SG.region ?_
  refine RL.val (Wanted.free rfl) (V.move rfl rfl) rfl ?_
  refine RL.val (Wanted.free rfl) (V.move rfl rfl) rfl ?_
  refine RL.val (Wanted.free rfl) (V.len rfl rfl el31.under rfl) rfl ?_
  refine RL.val (Wanted.free rfl) (V.bin rfl rfl rfl (B.subI (by omega) (by omega))) rfl ?_
  refine RL.val (Wanted.free rfl) (V.indexSl (T := RClu) (l := H) (a := a7) (j := H.length - 1) rfl el31.slice rfl rfl (by repeat (first | exact List.Mem.head _ | assumption | apply List.Mem.tail)) (by omega) (by omega)) rfl ?_
  refine RL.eff (Wanted.free rfl) (E.loadElem (T := RClu) (l := H) (a := a7) (j := H.length - 1) rfl ag37 rfl (by repeat (first | exact List.Mem.head _ | assumption | apply List.Mem.tail)) hHc) rfl ?_
  rintro _ _ ⟨u38, rfl, rfl⟩
  refine RL.eff (Wanted.free rfl) (E.alloc rfl ze37) rfl ?_
  rintro _ _ ⟨b9, rfl, rfl⟩
  refine RL.openClu (cs := u38) (Pick.rd (T := RClu) (by repeat (first | exact List.Mem.head _ | assumption | apply List.Mem.tail))) fun na nn nc sa sn sc hcs => ?_
  subst hcs
  refine RL.eff (Wanted.free rfl) (E.storeWhole rfl rfl rfl (by rfl) sz37 (by repeat (first | exact Pick.here | assumption | apply Pick.there)) (by first | (simp [Value.oneCell']; done) | (simp [setAt, Value.oneCell']; done)) (by rfl)) rfl ?_
  rintro _ _ rfl
  refine RL.nil ?_
  refine SG.seq ?_
  have hlen := hr.1.len
  have hpt : ∀ i, i < N → (c.p i).term ≤ 60 ∧ 0 ≤ (c.p i).term := fun i hi => ⟨by have := (hr.2.node i _ (Clu.p_get (by omega))).1; omega, (hr.1.node i _ (Clu.p_get (by omega))).term⟩
  refine SG.region ?_
  refine RL.val (Wanted.free rfl) (V.assign rfl rfl) rfl ?_
  refine RL.nil ?_
  refine SG.seq ?_
  refine SG.region ?_
  refine RL.val (Wanted.free rfl) (V.assign rfl rfl) rfl ?_
  refine RL.nil ?_
  refine SG.seq ?_
  refine SG.seq ?_
  refine SG.region ?_
  refine RL.val (Wanted.free rfl) (V.assign rfl rfl) rfl ?_
  refine RL.nil ?_
  refine SG.join (ι := Nat × Int) (fun ⟨b, h⟩ => [(2, vS data), (9, ptr b9 0), (10, vI b), (11, vI h)]) (fun ⟨b, h⟩ => Blk b9 37 [.slice na nn nc, .slice sa sn sc] :: Rd RClu [.slice na nn nc, .slice sa sn sc] c :: Sl RPeer na nn nc c.nodes :: Sl RMsg sa sn sc c.sent :: L) (fun ⟨b, h⟩ => b < N ∧ h ≤ 60 ∧ 0 ≤ h ∧ (∀ j, j < N → (c.p j).term ≤ h) ∧ ∀ j, j < N → good (c.p j).log (c.p b).log) ?_ (fun rest => ?_)
  · rintro ⟨b, h⟩ ⟨hbN, hh60, hh0, hht, hg⟩
    try dsimp only
    refine SG.seq ?_
    refine SG.seq ?_
    refine SG.region ?_
    refine RL.val (Wanted.free rfl) (V.assign rfl rfl) rfl ?_
    refine RL.nil ?_
    refine SG.join (ι := Nat × Clu × Gh × Tri × Tri) (fun ⟨t, c2, G2, ⟨na, nn, nc⟩, ⟨sa, sn, sc⟩⟩ => [(2, vS data), (9, ptr b9 0), (10, vI b)]) (fun ⟨t, c2, G2, ⟨na, nn, nc⟩, ⟨sa, sn, sc⟩⟩ => Blk b9 37 [.slice na nn nc, .slice sa sn sc] :: Rd RClu [.slice na nn nc, .slice sa sn sc] c2 :: Sl RPeer na nn nc c2.nodes :: Sl RMsg sa sn sc c2.sent :: L) (fun ⟨t, c2, G2, ⟨na, nn, nc⟩, ⟨sa, sn, sc⟩⟩ => t ≤ 100 ∧ Rp.Reach N G2 (s + t) c2 ∧ (∀ i, i < N → (c2.p i).term ≤ (c2.p b).term) ∧ ∀ i, i < N → good (c2.p i).log (c2.p b).log) ?_ (fun rest => ?_)
    · rintro ⟨t, c2, G2, ⟨na, nn, nc⟩, ⟨sa, sn, sc⟩⟩ ⟨ht, hr2, hterm, hgood⟩
      try dsimp only
      refine SG.seq ?_
      have hlen2 := hr2.1.len
      refine SG.sl (T := RMsg) (a := sa) (l := c2.sent) (by repeat (first | exact List.Mem.head _ | assumption | apply List.Mem.tail)) fun hsn _ _ => ?_
      have hok2 := Rch.ok hr2 h1 h5 (by omega)
      have hok2s := hok2.s
      obtain ⟨G3, _, hr3⟩ := hr2.camp h5 hbN
      obtain ⟨G4, _, hr4⟩ := hr3.deliver 200 c2.sent.length
      have hset := settles (data := data.take 100) h5 hr2 hbN hterm hgood (by rw [List.length_take]; omega) rfl rfl rfl
      obtain ⟨hrole, hpos, hall⟩ := hset
      refine SG.region ?_
      refine RL.val (Wanted.free rfl) (V.fieldAddr rfl rfl fo37_1) rfl ?_
      refine RL.val (Wanted.free rfl) (V.load rfl on35 rfl (by repeat (first | exact Pick.here | assumption | apply Pick.there)) rfl) rfl ?_
      refine RL.val (Wanted.free rfl) (V.len rfl rfl el35.under rfl) rfl ?_
      refine RL.val (Wanted.free rfl) (V.assign rfl rfl) rfl ?_
      rw [show (sn : Int) = ((c2.sent.length : Nat) : Int) from by omega]
      refine RL.nil ?_
      refine SG.seq ?_
      refine SG.region ?_
      refine RL.val (Wanted.free rfl) (V.loadAgg (us := [.slice na nn nc, .slice sa sn sc]) rfl ag37 rfl (by repeat (first | exact Pick.here | assumption | apply Pick.there)) rfl rfl) rfl ?_
      refine RL.val (Wanted.free rfl) (V.move rfl rfl) rfl ?_
      refine RL.eff (Wanted.free rfl) (E.call rfl go35 rfl (cCamp_ok (c := c2) (i := b) (by repeat (first | exact List.Mem.head _ | assumption | apply List.Mem.tail)) hok2 (by omega))) rfl ?_
      rintro _ _ ⟨u116, rfl, rfl⟩
      refine RL.val (Wanted.free rfl) (V.move rfl rfl) rfl ?_
      refine RL.eff (Wanted.free rfl) (E.call rfl go36 rfl (deliver_ok (c := cCamp c2 b) (k := c2.sent.length) (by repeat (first | exact List.Mem.head _ | assumption | apply List.Mem.tail)) hr3 h1 h5 (by omega) (by omega))) rfl ?_
      rintro _ _ ⟨u118, rfl, rfl⟩
      clear hsn
      refine RL.openClu (cs := u118) (Pick.rd (T := RClu) (by repeat (first | exact List.Mem.head _ | assumption | apply List.Mem.tail))) fun na nn nc sa sn sc hcs => ?_
      subst hcs
      refine RL.eff (Wanted.free rfl) (E.storeWhole rfl rfl rfl (by rfl) sz37 (by repeat (first | exact Pick.here | assumption | apply Pick.there)) (by first | (simp [Value.oneCell']; done) | (simp [setAt, Value.oneCell']; done)) (by rfl)) rfl ?_
      rintro _ _ rfl
      refine RL.nil ?_
      refine SG.seq ?_
      refine SG.seq ?_
      generalize deliverV (cCamp c2 b) c2.sent.length 200 = c3 at *
      have hlen3 := hr4.1.len
      refine SG.elemPeer (a := na) (j := b) (l := c3.nodes) (by repeat (first | exact List.Mem.head _ | assumption | apply List.Mem.tail)) (Clu.p_get (show b < c3.nodes.length by omega)) fun pa pn pc _ _ _ _ _ _ => ?_
      refine SG.region ?_
      refine RL.val (Wanted.free rfl) (V.fieldAddr rfl rfl fo37_0) rfl ?_
      refine RL.val (Wanted.free rfl) (V.load rfl on34 rfl (by repeat (first | exact Pick.here | assumption | apply Pick.there)) rfl) rfl ?_
      refine RL.val (Wanted.free rfl) (V.move rfl rfl) rfl ?_
      refine RL.val (Wanted.free rfl) (V.indexSl (T := RPeer) (l := c3.nodes) (a := na) (j := b) rfl el34.slice rfl rfl (by repeat (first | exact List.Mem.head _ | assumption | apply List.Mem.tail)) rfl (by omega)) rfl ?_
      refine RL.val (Wanted.free rfl) (V.fieldAt rfl rfl fo26_4 (by repeat (first | exact List.Mem.head _ | assumption | apply List.Mem.tail))) rfl ?_
      refine RL.val (Wanted.free rfl) (V.loadAtF rfl on3 rfl (by repeat (first | exact List.Mem.head _ | assumption | apply List.Mem.tail)) rfl) rfl ?_
      refine RL.cmpF (Wanted.free rfl) (V.bin rfl rfl rfl B.neq) rfl (by omega) ?_
      refine RL.nil ?_
      refine SG.cond_false rfl ?_
      refine SG.skip ?_
      refine SG.seq ?_
      have hok4 := Rch.ok hr4 h1 h5 (by omega)
      obtain ⟨G5, _, hr5⟩ := hr4.prop hbN (data := data.take 100)
      refine SG.drawN 6 5 (Blk b9 37 [.slice na nn nc, .slice sa sn sc] :: Rd RClu [.slice na nn nc, .slice sa sn sc] c3 :: Sl RPeer na nn nc c3.nodes :: Sl RMsg sa sn sc c3.sent :: L) wide rfl rfl (by repeat (first | exact Ent.refl _ | (apply Ent.cons; (· repeat (first | exact Pick.here | (refine Pick.sl ?_; (· repeat (first | exact List.Mem.head _ | assumption | apply List.Mem.tail))) | apply Pick.there))) | (refine Ent.trans (Ent.drop _ _) ?_))) ?_
      refine RH.val 0 rfl (by kernel_rfl) (by kernel_rfl) (by kernel_rfl) (by kernel_rfl) (Wanted.free rfl) (V.loadAgg (us := [.slice na nn nc, .slice sa sn sc]) rfl ag37 rfl (by repeat (first | exact Pick.here | assumption | apply Pick.there)) rfl rfl) rfl ?_
      refine RH.val 1 rfl (by kernel_rfl) (by kernel_rfl) (by kernel_rfl) (by kernel_rfl) (Wanted.free rfl) (V.move rfl rfl) rfl ?_
      refine RH.val 2 rfl (by kernel_rfl) (by kernel_rfl) (by kernel_rfl) (by kernel_rfl) (Wanted.free rfl) (V.move rfl rfl) rfl ?_
      refine RH.one (i := 3) (by kernel_rfl) ?_
      refine RHone.eff rfl (Wanted.free rfl) (E.call rfl go38 rfl (short_ok (s := data) (k := 100) (by omega))) rfl ?_
      rintro _ _ ⟨rfl, rfl⟩
      refine ⟨.inr (by repeat (first | exact Ent.refl _ | (apply Ent.cons; (· repeat (first | exact Pick.here | (refine Pick.sl ?_; (· repeat (first | exact List.Mem.head _ | assumption | apply List.Mem.tail))) | apply Pick.there))) | (refine Ent.trans (Ent.drop _ _) ?_))), ?_⟩
      refine RH.one (i := 4) (by kernel_rfl) ?_
      refine RHone.eff rfl (Wanted.free rfl) (E.call rfl go37 rfl (cProp_ok (c := c3) (i := b) (data := data.take 100) (by repeat (first | exact List.Mem.head _ | assumption | apply List.Mem.tail)) hok4 (by omega))) rfl ?_
      rintro _ _ ⟨u130, rfl, rfl⟩
      refine ⟨.inr (by repeat (first | exact Ent.refl _ | (apply Ent.cons; (· repeat (first | exact Pick.here | (refine Pick.sl ?_; (· repeat (first | exact List.Mem.head _ | assumption | apply List.Mem.tail))) | apply Pick.there))) | (refine Ent.trans (Ent.drop _ _) ?_))), ?_⟩
      refine RH.openClu (cs := u130) (Pick.rd (T := RClu) (by repeat (first | exact List.Mem.head _ | assumption | apply List.Mem.tail))) fun na nn nc sa sn sc hcs => ?_
      subst hcs
      refine RH.one (i := 5) (by kernel_rfl) ?_
      refine RHone.eff rfl (Wanted.free rfl) (E.storeWhole rfl rfl rfl (by rfl) sz37 (by repeat (first | exact Pick.here | assumption | apply Pick.there)) (by first | (simp [Value.oneCell']; done) | (simp [setAt, Value.oneCell']; done)) (by rfl)) rfl ?_
      rintro _ _ rfl
      refine ⟨.inl (by kernel_rfl), ?_⟩
      refine RH.done (by kernel_rfl) ?_
      refine SG.seq ?_
      refine SG.seq ?_
      generalize cProp c3 b (data.take 100) = c4 at *
      refine SG.region ?_
      refine RL.val (Wanted.free rfl) (V.assign rfl rfl) rfl ?_
      refine RL.nil ?_
      refine SG.block ?_
      refine SG.weaken (SG.loop2 (fun m0 al M => ∃ (q : Nat) (c5 : Clu) (G6 : Gh) (na : Option Addr) (nn nc : Nat) (sa : Option Addr) (sn sc : Nat), q ≤ 3 ∧ Rp.Reach N G6 (s + t + 202 + 201 * q) c5 ∧ c5 = nbeats c4 b q ∧ m0 = 3 - q ∧ al = [(9, ptr b9 0), (10, vI b), (17, vI q)] ∧ M = Blk b9 37 [.slice na nn nc, .slice sa sn sc] :: Rd RClu [.slice na nn nc, .slice sa sn sc] c5 :: Sl RPeer na nn nc c5.nodes :: Sl RMsg sa sn sc c5.sent :: L) (m0 := _) ⟨0, c4, G5, na, nn, nc, sa, sn, sc, by omega, hr5, rfl, rfl, rfl, rfl⟩ ?_) ?_ ?_
      rotate_left
      · repeat (first | exact EnvLe.nil _ | refine EnvLe.cons rfl ?_)
      · repeat (first | exact Ent.refl _ | (apply Ent.cons; (· repeat (first | exact Pick.here | (refine Pick.sl ?_; (· repeat (first | exact List.Mem.head _ | assumption | apply List.Mem.tail))) | apply Pick.there))) | (refine Ent.trans (Ent.drop _ _) ?_))
      rintro _ _ _ ⟨q, c5, G6, na, nn, nc, sa, sn, sc, hq, hr6, he5, rfl, rfl, rfl⟩ ih0
      refine SG.seq ?_
      refine SG.seq ?_
      refine SG.region ?_
      refine RL.val (Wanted.free rfl) (V.move rfl rfl) rfl ?_
      refine RL.cmp (Wanted.free rfl) (V.bin rfl rfl rfl B.lss) rfl (fun h51 => ?_) (fun h51 => ?_)
      · skip
        refine RL.nil ?_
        refine SG.cond_true rfl ?_
        refine SG.skip ?_
        refine SG.seq ?_
        refine SG.block ?_
        refine SG.seq ?_
        refine SG.sl (T := RMsg) (a := sa) (l := c5.sent) (by repeat (first | exact List.Mem.head _ | assumption | apply List.Mem.tail)) fun hsn _ _ => ?_
        have hok5 := Rch.ok hr6 h1 h5 (by omega)
        have hok5s := hok5.s
        have hlen5 := hr6.1.len
        have hr7 := hr6.beat h5 hbN
        obtain ⟨G8, _, hr8⟩ := hr7.deliver 200 c5.sent.length
        refine SG.region ?_
        refine RL.val (Wanted.free rfl) (V.fieldAddr rfl rfl fo37_1) rfl ?_
        refine RL.val (Wanted.free rfl) (V.load rfl on35 rfl (by repeat (first | exact Pick.here | assumption | apply Pick.there)) rfl) rfl ?_
        refine RL.val (Wanted.free rfl) (V.len rfl rfl el35.under rfl) rfl ?_
        refine RL.val (Wanted.free rfl) (V.assign rfl rfl) rfl ?_
        rw [show (sn : Int) = ((c5.sent.length : Nat) : Int) from by omega]
        refine RL.nil ?_
        refine SG.region ?_
        refine RL.val (Wanted.free rfl) (V.loadAgg (us := [.slice na nn nc, .slice sa sn sc]) rfl ag37 rfl (by repeat (first | exact Pick.here | assumption | apply Pick.there)) rfl rfl) rfl ?_
        refine RL.val (Wanted.free rfl) (V.move rfl rfl) rfl ?_
        refine RL.eff (Wanted.free rfl) (E.call rfl go39 rfl (cBeat_ok (c := c5) (i := b) (by repeat (first | exact List.Mem.head _ | assumption | apply List.Mem.tail)) hok5 (by omega))) rfl ?_
        rintro _ _ ⟨u140, rfl, rfl⟩
        refine RL.val (Wanted.free rfl) (V.move rfl rfl) rfl ?_
        refine RL.eff (Wanted.free rfl) (E.call rfl go36 rfl (deliver_ok (c := cBeat c5 b) (k := c5.sent.length) (by repeat (first | exact List.Mem.head _ | assumption | apply List.Mem.tail)) hr7 h1 h5 (by omega) (by omega))) rfl ?_
        rintro _ _ ⟨u142, rfl, rfl⟩
        clear hsn
        refine RL.openClu (cs := u142) (Pick.rd (T := RClu) (by repeat (first | exact List.Mem.head _ | assumption | apply List.Mem.tail))) fun ea en ec fa fn fc hcs => ?_
        subst hcs
        refine RL.eff (Wanted.free rfl) (E.storeWhole rfl rfl rfl (by rfl) sz37 (by repeat (first | exact Pick.here | assumption | apply Pick.there)) (by first | (simp [Value.oneCell']; done) | (simp [setAt, Value.oneCell']; done)) (by rfl)) rfl ?_
        rintro _ _ rfl
        refine RL.nil ?_
        refine SG.inBlock ?_
        refine SG.region ?_
        refine RL.val (Wanted.free rfl) (V.move rfl rfl) rfl ?_
        refine RL.val (Wanted.free rfl) (V.bin rfl rfl rfl (B.addI (by omega) (by omega))) rfl ?_
        refine RL.val (Wanted.free rfl) (V.assign rfl rfl) rfl ?_
        refine RL.nil ?_
        refine SG.weaken (ih0 _ _ _ ?_ ⟨q + 1, deliverV (cBeat c5 b) c5.sent.length 200, G8, ea, en, ec, fa, fn, fc, by omega, hr8, by rw [he5]; rfl, rfl, rfl, rfl⟩) ?_ ?_
        · omega
        · repeat (first | exact EnvLe.nil _ | refine EnvLe.cons rfl ?_)
        · repeat (first | exact Ent.refl _ | (apply Ent.cons; (· repeat (first | exact Pick.here | (refine Pick.sl ?_; (· repeat (first | exact List.Mem.head _ | assumption | apply List.Mem.tail))) | apply Pick.there))) | (refine Ent.trans (Ent.drop _ _) ?_))
      · skip
        refine RL.nil ?_
        refine SG.cond_false rfl ?_
        refine SG.exit rfl ?_
        refine SG.seq ?_
        obtain rfl : q = 3 := by omega
        rw [show beats (beats (beats c4 b) b) b = c5 from he5.symm] at hpos hall
        have hlen5 := hr6.1.len
        have hok5 := Rch.ok hr6 h1 h5 (by omega)
        refine SG.elemPeer (a := na) (j := b) (l := c5.nodes) (by repeat (first | exact List.Mem.head _ | assumption | apply List.Mem.tail)) (Clu.p_get (show b < c5.nodes.length by omega)) fun pa pn pc _ _ _ _ _ _ => ?_
        refine SG.region ?_
        refine RL.val (Wanted.free rfl) (V.fieldAddr rfl rfl fo37_0) rfl ?_
        refine RL.val (Wanted.free rfl) (V.load rfl on34 rfl (by repeat (first | exact Pick.here | assumption | apply Pick.there)) rfl) rfl ?_
        refine RL.val (Wanted.free rfl) (V.move rfl rfl) rfl ?_
        refine RL.val (Wanted.free rfl) (V.indexSl (T := RPeer) (l := c5.nodes) (a := na) (j := b) rfl el34.slice rfl rfl (by repeat (first | exact List.Mem.head _ | assumption | apply List.Mem.tail)) rfl (by omega)) rfl ?_
        refine RL.val (Wanted.free rfl) (V.fieldAt rfl rfl fo26_6 (by repeat (first | exact List.Mem.head _ | assumption | apply List.Mem.tail))) rfl ?_
        refine RL.val (Wanted.free rfl) (V.loadAtF rfl on23 rfl (by repeat (first | exact List.Mem.head _ | assumption | apply List.Mem.tail)) rfl) rfl ?_
        refine RL.val (Wanted.free rfl) (V.assign rfl rfl) rfl ?_
        refine RL.nil ?_
        refine SG.seq ?_
        refine SG.seq ?_
        refine SG.region ?_
        refine RL.val (Wanted.free rfl) (V.assign rfl rfl) rfl ?_
        refine RL.nil ?_
        refine SG.block ?_
        refine SG.weaken (SG.loop2 (fun m0 al M => ∃ i : Nat, i ≤ N ∧ m0 = N - i ∧ al = [(9, ptr b9 0), (10, vI b), (18, .slice pa pn pc), (19, vI i)] ∧ M = Sl RSlot pa pn pc (c5.p b).log :: Blk b9 37 [.slice na nn nc, .slice sa sn sc] :: Rd RClu [.slice na nn nc, .slice sa sn sc] c5 :: Sl RPeer na nn nc c5.nodes :: Sl RMsg sa sn sc c5.sent :: L) (m0 := _) ⟨0, by omega, rfl, rfl, rfl⟩ ?_) ?_ ?_
        rotate_left
        · repeat (first | exact EnvLe.nil _ | refine EnvLe.cons rfl ?_)
        · repeat (first | exact Ent.refl _ | (apply Ent.cons; (· repeat (first | exact Pick.here | (refine Pick.sl ?_; (· repeat (first | exact List.Mem.head _ | assumption | apply List.Mem.tail))) | apply Pick.there))) | (refine Ent.trans (Ent.drop _ _) ?_))
        rintro _ _ _ ⟨i, hi, rfl, rfl, rfl⟩ ih1
        refine SG.seq ?_
        refine SG.seq ?_
        refine SG.sl (T := RPeer) (a := na) (l := c5.nodes) (by repeat (first | exact List.Mem.head _ | assumption | apply List.Mem.tail)) fun hnn _ _ => ?_
        refine SG.region ?_
        refine RL.val (Wanted.free rfl) (V.move rfl rfl) rfl ?_
        refine RL.val (Wanted.free rfl) (V.fieldAddr rfl rfl fo37_0) rfl ?_
        refine RL.val (Wanted.free rfl) (V.load rfl on34 rfl (by repeat (first | exact Pick.here | assumption | apply Pick.there)) rfl) rfl ?_
        refine RL.val (Wanted.free rfl) (V.len rfl rfl el34.under rfl) rfl ?_
        refine RL.cmp (Wanted.free rfl) (V.bin rfl rfl rfl B.lss) rfl (fun h77 => ?_) (fun h77 => ?_)
        · skip
          refine RL.nil ?_
          refine SG.cond_true rfl ?_
          refine SG.skip ?_
          refine SG.seq ?_
          refine SG.block ?_
          refine SG.seq ?_
          have hiN : i < N := by omega
          obtain ⟨hli, hci⟩ := hall i hiN
          have hcom := committed_all hli hci
          obtain ⟨n1, n5, i0, i1, t0, t1, ll, lv, lm, vn, mn, c0, c1, mm, dd⟩ := hok5.p _ (Clu.p_mem (c := c5) (i := i) (by omega))
          refine SG.region ?_
          refine RL.val (Wanted.free rfl) (V.fieldAddr rfl rfl fo37_0) rfl ?_
          refine RL.val (Wanted.free rfl) (V.load rfl on34 rfl (by repeat (first | exact Pick.here | assumption | apply Pick.there)) rfl) rfl ?_
          refine RL.val (Wanted.free rfl) (V.move rfl rfl) rfl ?_
          refine RL.val (Wanted.free rfl) (V.indexSl (T := RPeer) (l := c5.nodes) (a := na) (j := i) rfl el34.slice rfl rfl (by repeat (first | exact List.Mem.head _ | assumption | apply List.Mem.tail)) rfl (by omega)) rfl ?_
          refine RL.eff (Wanted.free rfl) (E.loadElem (T := RPeer) (l := c5.nodes) (a := na) (j := i) rfl ag26 rfl (by repeat (first | exact List.Mem.head _ | assumption | apply List.Mem.tail)) (Clu.p_get (by omega))) rfl ?_
          rintro _ _ ⟨u160, rfl, rfl⟩
          refine RL.eff (Wanted.free rfl) (E.call rfl go26 rfl (pCom_ok (p := c5.p i) (by repeat (first | exact List.Mem.head _ | assumption | apply List.Mem.tail)) (by omega) (by omega) (by omega) c0 c1 dd)) rfl ?_
          rintro _ _ ⟨a161, c161, rfl, rfl⟩
          rw [hcom]
          refine RL.val (Wanted.free rfl) (V.assign rfl rfl) rfl ?_
          refine RL.nil ?_
          refine SG.seq ?_
          refine SG.sl (T := RSlot) (a := pa) (l := (c5.p b).log) (by repeat (first | exact List.Mem.head _ | assumption | apply List.Mem.tail)) fun hpl _ _ => ?_
          refine SG.region ?_
          refine RL.val (Wanted.free rfl) (V.move rfl rfl) rfl ?_
          refine RL.val (Wanted.free rfl) (V.len rfl rfl el45.under rfl) rfl ?_
          refine RL.val (Wanted.free rfl) (V.move rfl rfl) rfl ?_
          refine RL.val (Wanted.free rfl) (V.len rfl rfl el23.under rfl) rfl ?_
          refine RL.cmpF (Wanted.free rfl) (V.bin rfl rfl rfl B.neq) rfl (by rw [List.length_map]; omega) ?_
          refine RL.val (Wanted.free rfl) (V.move rfl rfl) rfl ?_
          refine RL.val (Wanted.yes rfl rfl rfl rfl) (V.move rfl rfl) rfl ?_
          refine RL.val (Wanted.yes rfl rfl rfl rfl) (V.move rfl rfl) rfl ?_
          refine RL.eff (Wanted.yes rfl rfl rfl rfl) (E.call rfl go33 rfl (begins_ok (l := (c5.p b).log) (x := (c5.p b).log.map (·.data)) (a := pa) (b := a161) (by repeat (first | exact List.Mem.head _ | assumption | apply List.Mem.tail)) (by repeat (first | exact List.Mem.head _ | assumption | apply List.Mem.tail)) (List.prefix_refl _))) rfl ?_
          rintro _ _ ⟨rfl, rfl⟩
          refine RL.val (Wanted.yes rfl rfl rfl rfl) (V.not rfl rfl) rfl ?_
          refine RL.val (Wanted.free rfl) (V.pick_false rfl rfl rfl) rfl ?_
          refine RL.nil ?_
          refine SG.cond_false rfl ?_
          refine SG.skip ?_
          refine SG.inBlock ?_
          refine SG.region ?_
          refine RL.val (Wanted.free rfl) (V.move rfl rfl) rfl ?_
          refine RL.val (Wanted.free rfl) (V.bin rfl rfl rfl (B.addI (by omega) (by omega))) rfl ?_
          refine RL.val (Wanted.free rfl) (V.assign rfl rfl) rfl ?_
          refine RL.nil ?_
          refine SG.weaken (ih1 _ _ _ ?_ ⟨i + 1, by omega, rfl, rfl, rfl⟩) ?_ ?_
          · omega
          · repeat (first | exact EnvLe.nil _ | refine EnvLe.cons rfl ?_)
          · repeat (first | exact Ent.refl _ | (apply Ent.cons; (· repeat (first | exact Pick.here | (refine Pick.sl ?_; (· repeat (first | exact List.Mem.head _ | assumption | apply List.Mem.tail))) | apply Pick.there))) | (refine Ent.trans (Ent.drop _ _) ?_))
        · skip
          refine RL.nil ?_
          refine SG.cond_false rfl ?_
          refine SG.exit rfl ?_
          refine SG.seq ?_
          refine SG.sl (T := RSlot) (a := pa) (l := (c5.p b).log) (by repeat (first | exact List.Mem.head _ | assumption | apply List.Mem.tail)) fun hpl _ _ => ?_
          refine SG.region ?_
          refine RL.val (Wanted.free rfl) (V.move rfl rfl) rfl ?_
          refine RL.val (Wanted.free rfl) (V.len rfl rfl el23.under rfl) rfl ?_
          refine RL.cmpT (Wanted.free rfl) (V.bin rfl rfl rfl B.gtr) rfl (by omega) ?_
          refine RL.val (Wanted.free rfl) (V.move rfl rfl) rfl ?_
          refine RL.eff (Wanted.yes rfl rfl rfl rfl) (E.call rfl go28 rfl (lives_ok)) rfl ?_
          rintro _ _ ⟨rfl, rfl⟩
          refine RL.val (Wanted.free rfl) (V.pick_true rfl rfl rfl) rfl ?_
          refine RL.val (Wanted.free rfl) (V.assign rfl rfl) rfl ?_
          refine RL.nil ?_
          refine SG.retE (Ret.r1 Try.func10 rfl (.tmp rfl)) ?_ ⟨rfl, rfl⟩
          repeat (first | exact Ent.refl _ | (apply Ent.cons; (· repeat (first | exact Pick.here | (refine Pick.sl ?_; (· repeat (first | exact List.Mem.head _ | assumption | apply List.Mem.tail))) | apply Pick.there))) | (refine Ent.trans (Ent.drop _ _) ?_))
    · skip
      refine SG.block ?_
      refine SG.weaken (SG.loop2 (fun m0 al M => ∃ (t : Nat) (c2 : Clu) (G2 : Gh) (na : Option Addr) (nn nc : Nat) (sa : Option Addr) (sn sc : Nat), t ≤ 100 ∧ Rp.Reach N G2 (s + t) c2 ∧ (c2.p b).term = (c.p b).term + t ∧ (c2.p b).log = (c.p b).log ∧ (∀ j, j ≠ b → c2.p j = c.p j) ∧ m0 = 100 - t ∧ al = [(2, vS data), (9, ptr b9 0), (10, vI b), (11, vI h), (15, vI t)] ∧ M = Blk b9 37 [.slice na nn nc, .slice sa sn sc] :: Rd RClu [.slice na nn nc, .slice sa sn sc] c2 :: Sl RPeer na nn nc c2.nodes :: Sl RMsg sa sn sc c2.sent :: L) (m0 := _) ⟨0, c, G, na, nn, nc, sa, sn, sc, by omega, hr, by omega, rfl, fun _ _ => rfl, rfl, rfl, rfl⟩ ?_) ?_ ?_
      rotate_left
      · repeat (first | exact EnvLe.nil _ | refine EnvLe.cons rfl ?_)
      · repeat (first | exact Ent.refl _ | (apply Ent.cons; (· repeat (first | exact Pick.here | (refine Pick.sl ?_; (· repeat (first | exact List.Mem.head _ | assumption | apply List.Mem.tail))) | apply Pick.there))) | (refine Ent.trans (Ent.drop _ _) ?_))
      rintro _ _ _ ⟨t, c2, G2, na, nn, nc, sa, sn, sc, ht, hr2, hct, hcl, hco, rfl, rfl, rfl⟩ ih2
      refine SG.seq ?_
      refine SG.seq ?_
      have hlen2 := hr2.1.len
      refine SG.elemPeer (a := na) (j := b) (l := c2.nodes) (by repeat (first | exact List.Mem.head _ | assumption | apply List.Mem.tail)) (Clu.p_get (show b < c2.nodes.length by omega)) fun pa pn pc _ _ _ _ _ _ => ?_
      refine SG.region ?_
      refine RL.val (Wanted.free rfl) (V.move rfl rfl) rfl ?_
      refine RL.cmp (Wanted.free rfl) (V.bin rfl rfl rfl B.lss) rfl (fun h102 => ?_) (fun h102 => ?_)
      · skip
        refine RL.val (Wanted.free rfl) (V.move rfl rfl) rfl ?_
        refine RL.val (Wanted.yes rfl rfl rfl rfl) (V.fieldAddr rfl rfl fo37_0) rfl ?_
        refine RL.val (Wanted.yes rfl rfl rfl rfl) (V.load rfl on34 rfl (by repeat (first | exact Pick.here | assumption | apply Pick.there)) rfl) rfl ?_
        refine RL.val (Wanted.yes rfl rfl rfl rfl) (V.move rfl rfl) rfl ?_
        refine RL.val (Wanted.yes rfl rfl rfl rfl) (V.indexSl (T := RPeer) (l := c2.nodes) (a := na) (j := b) rfl el34.slice rfl rfl (by repeat (first | exact List.Mem.head _ | assumption | apply List.Mem.tail)) rfl (by omega)) rfl ?_
        refine RL.val (Wanted.yes rfl rfl rfl rfl) (V.fieldAt rfl rfl fo26_2 (by repeat (first | exact List.Mem.head _ | assumption | apply List.Mem.tail))) rfl ?_
        refine RL.val (Wanted.yes rfl rfl rfl rfl) (V.loadAtF rfl on3 rfl (by repeat (first | exact List.Mem.head _ | assumption | apply List.Mem.tail)) rfl) rfl ?_
        refine RL.val (Wanted.yes rfl rfl rfl rfl) (V.move rfl rfl) rfl ?_
        refine RL.cmp (Wanted.yes rfl rfl rfl rfl) (V.bin rfl rfl rfl B.lss) rfl (fun h111 => ?_) (fun h111 => ?_)
        · skip
          refine RL.val (Wanted.free rfl) (V.pick_true rfl rfl rfl) rfl ?_
          refine RL.nil ?_
          refine SG.cond_true rfl ?_
          refine SG.skip ?_
          refine SG.seq ?_
          refine SG.block ?_
          have hok2 := Rch.ok hr2 h1 h5 (by omega)
          obtain ⟨G3, _, hr3⟩ := hr2.camp h5 hbN
          obtain ⟨k1, k2, k3⟩ := camp_keep (c := c2) (b := b) (by omega)
          refine SG.region ?_
          refine RL.val (Wanted.free rfl) (V.loadAgg (us := [.slice na nn nc, .slice sa sn sc]) rfl ag37 rfl (by repeat (first | exact Pick.here | assumption | apply Pick.there)) rfl rfl) rfl ?_
          refine RL.val (Wanted.free rfl) (V.move rfl rfl) rfl ?_
          refine RL.eff (Wanted.free rfl) (E.call rfl go35 rfl (cCamp_ok (c := c2) (i := b) (by repeat (first | exact List.Mem.head _ | assumption | apply List.Mem.tail)) hok2 (by omega))) rfl ?_
          rintro _ _ ⟨u110, rfl, rfl⟩
          refine RL.openClu (cs := u110) (Pick.rd (T := RClu) (by repeat (first | exact List.Mem.head _ | assumption | apply List.Mem.tail))) fun ea en ec fa fn fc hcs => ?_
          subst hcs
          refine RL.eff (Wanted.free rfl) (E.storeWhole rfl rfl rfl (by rfl) sz37 (by repeat (first | exact Pick.here | assumption | apply Pick.there)) (by first | (simp [Value.oneCell']; done) | (simp [setAt, Value.oneCell']; done)) (by rfl)) rfl ?_
          rintro _ _ rfl
          refine RL.nil ?_
          refine SG.inBlock ?_
          refine SG.region ?_
          refine RL.val (Wanted.free rfl) (V.move rfl rfl) rfl ?_
          refine RL.val (Wanted.free rfl) (V.bin rfl rfl rfl (B.addI (by omega) (by omega))) rfl ?_
          refine RL.val (Wanted.free rfl) (V.assign rfl rfl) rfl ?_
          refine RL.nil ?_
          refine SG.weaken (ih2 _ _ _ ?_ ⟨t + 1, cCamp c2 b, G3, ea, en, ec, fa, fn, fc, by omega, hr3, by omega, k2.trans hcl, fun j hj => (k3 j hj).trans (hco j hj), rfl, rfl, rfl⟩) ?_ ?_
          · omega
          · repeat (first | exact EnvLe.nil _ | refine EnvLe.cons rfl ?_)
          · repeat (first | exact Ent.refl _ | (apply Ent.cons; (· repeat (first | exact Pick.here | (refine Pick.sl ?_; (· repeat (first | exact List.Mem.head _ | assumption | apply List.Mem.tail))) | apply Pick.there))) | (refine Ent.trans (Ent.drop _ _) ?_))
        · skip
          refine RL.val (Wanted.free rfl) (V.pick_true rfl rfl rfl) rfl ?_
          refine RL.nil ?_
          refine SG.cond_false rfl ?_
          refine SG.exit rfl ?_
          have hge : h ≤ (c2.p b).term := by first | omega | (have := (hpt b hbN).2; omega)
          have hbt : (c.p b).term ≤ h := hht b hbN
          refine SG.weaken (rest ⟨t, c2, G2, ⟨na, nn, nc⟩, ⟨sa, sn, sc⟩⟩ ⟨by omega, hr2, fun i hi => by (by_cases e : i = b); (· rw [e]; exact Int.le_refl _); (· rw [hco i e]; have := hht i hi; omega), fun i hi => by (rw [hcl]; by_cases e : i = b); (· rw [e, hcl]; exact good.refl _); (· rw [hco i e]; exact hg i hi)⟩) ?_ ?_
          · repeat (first | exact EnvLe.nil _ | refine EnvLe.cons rfl ?_)
          · repeat (first | exact Ent.refl _ | (apply Ent.cons; (· repeat (first | exact Pick.here | (refine Pick.sl ?_; (· repeat (first | exact List.Mem.head _ | assumption | apply List.Mem.tail))) | apply Pick.there))) | (refine Ent.trans (Ent.drop _ _) ?_))
      · skip
        refine RL.val (Wanted.free rfl) (V.move rfl rfl) rfl ?_
        refine RL.skip (Wanted.no rfl rfl rfl rfl rfl) rfl ?_
        refine RL.skip (Wanted.no rfl rfl rfl rfl rfl) rfl ?_
        refine RL.skip (Wanted.no rfl rfl rfl rfl rfl) rfl ?_
        refine RL.skip (Wanted.no rfl rfl rfl rfl rfl) rfl ?_
        refine RL.skip (Wanted.no rfl rfl rfl rfl rfl) rfl ?_
        refine RL.skip (Wanted.no rfl rfl rfl rfl rfl) rfl ?_
        refine RL.skip (Wanted.no rfl rfl rfl rfl rfl) rfl ?_
        refine RL.skip (Wanted.no rfl rfl rfl rfl rfl) rfl ?_
        refine RL.val (Wanted.free rfl) (V.pick_false rfl rfl rfl) rfl ?_
        refine RL.nil ?_
        refine SG.cond_false rfl ?_
        refine SG.exit rfl ?_
        have hge : h ≤ (c2.p b).term := by first | omega | (have := (hpt b hbN).2; omega)
        have hbt : (c.p b).term ≤ h := hht b hbN
        refine SG.weaken (rest ⟨t, c2, G2, ⟨na, nn, nc⟩, ⟨sa, sn, sc⟩⟩ ⟨by omega, hr2, fun i hi => by (by_cases e : i = b); (· rw [e]; exact Int.le_refl _); (· rw [hco i e]; have := hht i hi; omega), fun i hi => by (rw [hcl]; by_cases e : i = b); (· rw [e, hcl]; exact good.refl _); (· rw [hco i e]; exact hg i hi)⟩) ?_ ?_
        · repeat (first | exact EnvLe.nil _ | refine EnvLe.cons rfl ?_)
        · repeat (first | exact Ent.refl _ | (apply Ent.cons; (· repeat (first | exact Pick.here | (refine Pick.sl ?_; (· repeat (first | exact List.Mem.head _ | assumption | apply List.Mem.tail))) | apply Pick.there))) | (refine Ent.trans (Ent.drop _ _) ?_))
  · skip
    refine SG.block ?_
    refine SG.weaken (SG.loop2 (fun m0 al M => ∃ (i b : Nat) (h : Int), i ≤ N ∧ b < N ∧ h ≤ 60 ∧ 0 ≤ h ∧ (∀ j, j < i → (c.p j).term ≤ h) ∧ (∀ j, j < i → good (c.p j).log (c.p b).log) ∧ m0 = N - i ∧ al = [(2, vS data), (9, ptr b9 0), (10, vI b), (11, vI h), (12, vI i)] ∧ M = Blk b9 37 [.slice na nn nc, .slice sa sn sc] :: Rd RClu [.slice na nn nc, .slice sa sn sc] c :: Sl RPeer na nn nc c.nodes :: Sl RMsg sa sn sc c.sent :: L) (m0 := _) ⟨0, 0, 0, by omega, by omega, by omega, by omega, fun j hj => by omega, fun j hj => by omega, rfl, rfl, rfl⟩ ?_) ?_ ?_
    rotate_left
    · repeat (first | exact EnvLe.nil _ | refine EnvLe.cons rfl ?_)
    · repeat (first | exact Ent.refl _ | (apply Ent.cons; (· repeat (first | exact Pick.here | (refine Pick.sl ?_; (· repeat (first | exact List.Mem.head _ | assumption | apply List.Mem.tail))) | apply Pick.there))) | (refine Ent.trans (Ent.drop _ _) ?_))
    rintro _ _ _ ⟨i, b, h, hi, hbN, hh60, hh0, hht, hg, rfl, rfl, rfl⟩ ih3
    refine SG.seq ?_
    refine SG.seq ?_
    refine SG.sl (T := RPeer) (a := na) (l := c.nodes) (by repeat (first | exact List.Mem.head _ | assumption | apply List.Mem.tail)) fun hnn _ _ => ?_
    refine SG.region ?_
    refine RL.val (Wanted.free rfl) (V.move rfl rfl) rfl ?_
    refine RL.val (Wanted.free rfl) (V.fieldAddr rfl rfl fo37_0) rfl ?_
    refine RL.val (Wanted.free rfl) (V.load rfl on34 rfl (by repeat (first | exact Pick.here | assumption | apply Pick.there)) rfl) rfl ?_
    refine RL.val (Wanted.free rfl) (V.len rfl rfl el34.under rfl) rfl ?_
    refine RL.cmp (Wanted.free rfl) (V.bin rfl rfl rfl B.lss) rfl (fun h124 => ?_) (fun h124 => ?_)
    · skip
      refine RL.nil ?_
      refine SG.cond_true rfl ?_
      refine SG.skip ?_
      refine SG.seq ?_
      refine SG.block ?_
      refine SG.seq ?_
      have hiN : i < N := by omega
      obtain ⟨ht60, ht0⟩ := hpt i hiN
      refine SG.elemPeer (a := na) (j := i) (l := c.nodes) (by repeat (first | exact List.Mem.head _ | assumption | apply List.Mem.tail)) (Clu.p_get (show i < c.nodes.length by omega)) fun pa pn pc _ _ _ _ _ _ => ?_
      refine SG.elemPeer (a := na) (j := b) (l := c.nodes) (by repeat (first | exact List.Mem.head _ | assumption | apply List.Mem.tail)) (Clu.p_get (show b < c.nodes.length by omega)) fun qa qn qc _ _ _ _ _ _ => ?_
      refine SG.sl (T := RSlot) (a := pa) (l := (c.p i).log) (by repeat (first | exact List.Mem.head _ | assumption | apply List.Mem.tail)) fun hpl _ _ => ?_
      refine SG.sl (T := RSlot) (a := qa) (l := (c.p b).log) (by repeat (first | exact List.Mem.head _ | assumption | apply List.Mem.tail)) fun hql _ _ => ?_
      refine SG.region ?_
      refine RL.val (Wanted.free rfl) (V.move rfl rfl) rfl ?_
      refine RL.val (Wanted.free rfl) (V.fieldAddr rfl rfl fo37_0) rfl ?_
      refine RL.val (Wanted.free rfl) (V.load rfl on34 rfl (by repeat (first | exact Pick.here | assumption | apply Pick.there)) rfl) rfl ?_
      refine RL.val (Wanted.free rfl) (V.move rfl rfl) rfl ?_
      refine RL.val (Wanted.free rfl) (V.indexSl (T := RPeer) (l := c.nodes) (a := na) (j := i) rfl el34.slice rfl rfl (by repeat (first | exact List.Mem.head _ | assumption | apply List.Mem.tail)) rfl (by omega)) rfl ?_
      refine RL.val (Wanted.free rfl) (V.fieldAt rfl rfl fo26_2 (by repeat (first | exact List.Mem.head _ | assumption | apply List.Mem.tail))) rfl ?_
      refine RL.val (Wanted.free rfl) (V.loadAtF rfl on3 rfl (by repeat (first | exact List.Mem.head _ | assumption | apply List.Mem.tail)) rfl) rfl ?_
      refine RL.val (Wanted.free rfl) (V.max rfl rfl rfl rfl) rfl ?_
      obtain ⟨h2, hh2, hh3, hh4, hh5⟩ : ∃ x : Int, (if h < (c.p i).term then (c.p i).term else h) = x ∧ h ≤ x ∧ (c.p i).term ≤ x ∧ x ≤ 60 := ⟨_, rfl, by split <;> omega, by split <;> omega, by split <;> omega⟩
      rw [hh2]
      refine RL.val (Wanted.free rfl) (V.assign rfl rfl) rfl ?_
      refine RL.nil ?_
      refine SG.seq ?_
      refine SG.region ?_
      refine RL.val (Wanted.free rfl) (V.fieldAddr rfl rfl fo37_0) rfl ?_
      refine RL.val (Wanted.free rfl) (V.load rfl on34 rfl (by repeat (first | exact Pick.here | assumption | apply Pick.there)) rfl) rfl ?_
      refine RL.val (Wanted.free rfl) (V.move rfl rfl) rfl ?_
      refine RL.val (Wanted.free rfl) (V.indexSl (T := RPeer) (l := c.nodes) (a := na) (j := i) rfl el34.slice rfl rfl (by repeat (first | exact List.Mem.head _ | assumption | apply List.Mem.tail)) rfl (by omega)) rfl ?_
      refine RL.val (Wanted.free rfl) (V.fieldAt rfl rfl fo26_6 (by repeat (first | exact List.Mem.head _ | assumption | apply List.Mem.tail))) rfl ?_
      refine RL.val (Wanted.free rfl) (V.loadAtF rfl on23 rfl (by repeat (first | exact List.Mem.head _ | assumption | apply List.Mem.tail)) rfl) rfl ?_
      refine RL.eff (Wanted.free rfl) (E.call rfl go34 rfl (last_ok (l := (c.p i).log) (a := pa) (by repeat (first | exact List.Mem.head _ | assumption | apply List.Mem.tail)))) rfl ?_
      rintro _ _ ⟨rfl, rfl⟩
      refine RL.val (Wanted.free rfl) (V.assign rfl rfl) rfl ?_
      refine RL.nil ?_
      refine SG.seq ?_
      refine SG.region ?_
      refine RL.val (Wanted.free rfl) (V.fieldAddr rfl rfl fo37_0) rfl ?_
      refine RL.val (Wanted.free rfl) (V.load rfl on34 rfl (by repeat (first | exact Pick.here | assumption | apply Pick.there)) rfl) rfl ?_
      refine RL.val (Wanted.free rfl) (V.move rfl rfl) rfl ?_
      refine RL.val (Wanted.free rfl) (V.indexSl (T := RPeer) (l := c.nodes) (a := na) (j := b) rfl el34.slice rfl rfl (by repeat (first | exact List.Mem.head _ | assumption | apply List.Mem.tail)) rfl (by omega)) rfl ?_
      refine RL.val (Wanted.free rfl) (V.fieldAt rfl rfl fo26_6 (by repeat (first | exact List.Mem.head _ | assumption | apply List.Mem.tail))) rfl ?_
      refine RL.val (Wanted.free rfl) (V.loadAtF rfl on23 rfl (by repeat (first | exact List.Mem.head _ | assumption | apply List.Mem.tail)) rfl) rfl ?_
      refine RL.eff (Wanted.free rfl) (E.call rfl go34 rfl (last_ok (l := (c.p b).log) (a := qa) (by repeat (first | exact List.Mem.head _ | assumption | apply List.Mem.tail)))) rfl ?_
      rintro _ _ ⟨rfl, rfl⟩
      refine RL.val (Wanted.free rfl) (V.assign rfl rfl) rfl ?_
      refine RL.nil ?_
      refine SG.seq ?_
      refine SG.drawL 25 25 wide rfl rfl ?_
      refine RH.val 0 rfl (by kernel_rfl) (by kernel_rfl) (by kernel_rfl) (by kernel_rfl) (Wanted.free rfl) (V.move rfl rfl) rfl ?_
      refine RH.val 1 rfl (by kernel_rfl) (by kernel_rfl) (by kernel_rfl) (by kernel_rfl) (Wanted.free rfl) (V.move rfl rfl) rfl ?_
      refine RH.cmp 2 rfl (by kernel_rfl) (by kernel_rfl) (by kernel_rfl) (by kernel_rfl) (Wanted.free rfl) (V.bin rfl rfl rfl B.gtr) rfl (fun h152 => ?_) (fun h152 => ?_)
      · skip
        refine RH.val 3 rfl (by kernel_rfl) (by kernel_rfl) (by kernel_rfl) (by kernel_rfl) (Wanted.free rfl) (V.move rfl rfl) rfl ?_
        refine RH.skip 4 rfl (by kernel_rfl) (by kernel_rfl) (by kernel_rfl) (by kernel_rfl) (Wanted.no rfl rfl rfl rfl rfl) rfl ?_
        refine RH.skip 5 rfl (by kernel_rfl) (by kernel_rfl) (by kernel_rfl) (by kernel_rfl) (Wanted.no rfl rfl rfl rfl rfl) rfl ?_
        refine RH.skip 6 rfl (by kernel_rfl) (by kernel_rfl) (by kernel_rfl) (by kernel_rfl) (Wanted.no rfl rfl rfl rfl rfl) rfl ?_
        refine RH.skip 7 rfl (by kernel_rfl) (by kernel_rfl) (by kernel_rfl) (by kernel_rfl) (Wanted.no rfl rfl rfl rfl rfl) rfl ?_
        refine RH.skip 8 rfl (by kernel_rfl) (by kernel_rfl) (by kernel_rfl) (by kernel_rfl) (Wanted.un rfl rfl rfl) rfl ?_
        refine RH.skip 9 rfl (by kernel_rfl) (by kernel_rfl) (by kernel_rfl) (by kernel_rfl) (Wanted.un rfl rfl rfl) rfl ?_
        refine RH.skip 10 rfl (by kernel_rfl) (by kernel_rfl) (by kernel_rfl) (by kernel_rfl) (Wanted.un rfl rfl rfl) rfl ?_
        refine RH.skip 11 rfl (by kernel_rfl) (by kernel_rfl) (by kernel_rfl) (by kernel_rfl) (Wanted.un rfl rfl rfl) rfl ?_
        refine RH.skip 12 rfl (by kernel_rfl) (by kernel_rfl) (by kernel_rfl) (by kernel_rfl) (Wanted.un rfl rfl rfl) rfl ?_
        refine RH.skip 13 rfl (by kernel_rfl) (by kernel_rfl) (by kernel_rfl) (by kernel_rfl) (Wanted.un rfl rfl rfl) rfl ?_
        refine RH.skip 14 rfl (by kernel_rfl) (by kernel_rfl) (by kernel_rfl) (by kernel_rfl) (Wanted.un rfl rfl rfl) rfl ?_
        refine RH.skip 15 rfl (by kernel_rfl) (by kernel_rfl) (by kernel_rfl) (by kernel_rfl) (Wanted.un rfl rfl rfl) rfl ?_
        refine RH.skip 16 rfl (by kernel_rfl) (by kernel_rfl) (by kernel_rfl) (by kernel_rfl) (Wanted.un rfl rfl rfl) rfl ?_
        refine RH.skip 17 rfl (by kernel_rfl) (by kernel_rfl) (by kernel_rfl) (by kernel_rfl) (Wanted.un rfl rfl rfl) rfl ?_
        refine RH.skip 18 rfl (by kernel_rfl) (by kernel_rfl) (by kernel_rfl) (by kernel_rfl) (Wanted.un rfl rfl rfl) rfl ?_
        refine RH.skip 19 rfl (by kernel_rfl) (by kernel_rfl) (by kernel_rfl) (by kernel_rfl) (Wanted.un rfl rfl rfl) rfl ?_
        refine RH.skip 20 rfl (by kernel_rfl) (by kernel_rfl) (by kernel_rfl) (by kernel_rfl) (Wanted.un rfl rfl rfl) rfl ?_
        refine RH.skip 21 rfl (by kernel_rfl) (by kernel_rfl) (by kernel_rfl) (by kernel_rfl) (Wanted.un rfl rfl rfl) rfl ?_
        refine RH.skip 22 rfl (by kernel_rfl) (by kernel_rfl) (by kernel_rfl) (by kernel_rfl) (Wanted.un rfl rfl rfl) rfl ?_
        refine RH.skip 23 rfl (by kernel_rfl) (by kernel_rfl) (by kernel_rfl) (by kernel_rfl) (Wanted.no rfl rfl rfl rfl rfl) rfl ?_
        refine RH.pure 24 rfl (by kernel_rfl) (by kernel_rfl) (by kernel_rfl) (by kernel_rfl) (Wanted.free rfl) (V.pick_true rfl rfl rfl) rfl ?_
        refine RH.done (by kernel_rfl) ?_
        refine SG.cond_true rfl ?_
        refine SG.region ?_
        refine RL.val (Wanted.free rfl) (V.move rfl rfl) rfl ?_
        refine RL.val (Wanted.free rfl) (V.assign rfl rfl) rfl ?_
        refine RL.nil ?_
        refine SG.inBlock ?_
        refine SG.region ?_
        refine RL.val (Wanted.free rfl) (V.move rfl rfl) rfl ?_
        refine RL.val (Wanted.free rfl) (V.bin rfl rfl rfl (B.addI (by omega) (by omega))) rfl ?_
        refine RL.val (Wanted.free rfl) (V.assign rfl rfl) rfl ?_
        refine RL.nil ?_
        have hg2 := step_new hg (.inl (by omega))
        refine SG.weaken (ih3 _ _ _ ?_ ⟨i + 1, i, h2, by omega, by omega, by omega, by omega, fun j hj => ?_, hg2, rfl, rfl, rfl⟩) ?_ ?_
        · omega
        · by_cases e : j = i
          · rw [e]; exact hh4
          · have := hht j (by omega); omega
        · repeat (first | exact EnvLe.nil _ | refine EnvLe.cons rfl ?_)
        · repeat (first | exact Ent.refl _ | (apply Ent.cons; (· repeat (first | exact Pick.here | (refine Pick.sl ?_; (· repeat (first | exact List.Mem.head _ | assumption | apply List.Mem.tail))) | apply Pick.there))) | (refine Ent.trans (Ent.drop _ _) ?_))
      · skip
        refine RH.val 3 rfl (by kernel_rfl) (by kernel_rfl) (by kernel_rfl) (by kernel_rfl) (Wanted.free rfl) (V.move rfl rfl) rfl ?_
        refine RH.val 4 rfl (by kernel_rfl) (by kernel_rfl) (by kernel_rfl) (by kernel_rfl) (Wanted.yes rfl rfl rfl rfl) (V.move rfl rfl) rfl ?_
        refine RH.val 5 rfl (by kernel_rfl) (by kernel_rfl) (by kernel_rfl) (by kernel_rfl) (Wanted.yes rfl rfl rfl rfl) (V.move rfl rfl) rfl ?_
        refine RH.cmp 6 rfl (by kernel_rfl) (by kernel_rfl) (by kernel_rfl) (by kernel_rfl) (Wanted.yes rfl rfl rfl rfl) (V.bin rfl rfl rfl B.eql) rfl (fun h162 => ?_) (fun h162 => ?_)
        · skip
          refine RH.val 7 rfl (by kernel_rfl) (by kernel_rfl) (by kernel_rfl) (by kernel_rfl) (Wanted.yes rfl rfl rfl rfl) (V.move rfl rfl) rfl ?_
          refine RH.val 8 rfl (by kernel_rfl) (by kernel_rfl) (by kernel_rfl) (by kernel_rfl) (Wanted.yes rfl rfl rfl rfl) (V.fieldAddr rfl rfl fo37_0) rfl ?_
          refine RH.val 9 rfl (by kernel_rfl) (by kernel_rfl) (by kernel_rfl) (by kernel_rfl) (Wanted.yes rfl rfl rfl rfl) (V.load rfl on34 rfl (by repeat (first | exact Pick.here | assumption | apply Pick.there)) rfl) rfl ?_
          refine RH.val 10 rfl (by kernel_rfl) (by kernel_rfl) (by kernel_rfl) (by kernel_rfl) (Wanted.yes rfl rfl rfl rfl) (V.move rfl rfl) rfl ?_
          refine RH.val 11 rfl (by kernel_rfl) (by kernel_rfl) (by kernel_rfl) (by kernel_rfl) (Wanted.yes rfl rfl rfl rfl) (V.indexSl (T := RPeer) (l := c.nodes) (a := na) (j := i) rfl el34.slice rfl rfl (by repeat (first | exact List.Mem.head _ | assumption | apply List.Mem.tail)) rfl (by omega)) rfl ?_
          refine RH.val 12 rfl (by kernel_rfl) (by kernel_rfl) (by kernel_rfl) (by kernel_rfl) (Wanted.yes rfl rfl rfl rfl) (V.fieldAt rfl rfl fo26_6 (by repeat (first | exact List.Mem.head _ | assumption | apply List.Mem.tail))) rfl ?_
          refine RH.val 13 rfl (by kernel_rfl) (by kernel_rfl) (by kernel_rfl) (by kernel_rfl) (Wanted.yes rfl rfl rfl rfl) (V.loadAtF rfl on23 rfl (by repeat (first | exact List.Mem.head _ | assumption | apply List.Mem.tail)) rfl) rfl ?_
          refine RH.val 14 rfl (by kernel_rfl) (by kernel_rfl) (by kernel_rfl) (by kernel_rfl) (Wanted.yes rfl rfl rfl rfl) (V.len rfl rfl el23.under rfl) rfl ?_
          refine RH.val 15 rfl (by kernel_rfl) (by kernel_rfl) (by kernel_rfl) (by kernel_rfl) (Wanted.yes rfl rfl rfl rfl) (V.fieldAddr rfl rfl fo37_0) rfl ?_
          refine RH.val 16 rfl (by kernel_rfl) (by kernel_rfl) (by kernel_rfl) (by kernel_rfl) (Wanted.yes rfl rfl rfl rfl) (V.load rfl on34 rfl (by repeat (first | exact Pick.here | assumption | apply Pick.there)) rfl) rfl ?_
          refine RH.val 17 rfl (by kernel_rfl) (by kernel_rfl) (by kernel_rfl) (by kernel_rfl) (Wanted.yes rfl rfl rfl rfl) (V.move rfl rfl) rfl ?_
          refine RH.val 18 rfl (by kernel_rfl) (by kernel_rfl) (by kernel_rfl) (by kernel_rfl) (Wanted.yes rfl rfl rfl rfl) (V.indexSl (T := RPeer) (l := c.nodes) (a := na) (j := b) rfl el34.slice rfl rfl (by repeat (first | exact List.Mem.head _ | assumption | apply List.Mem.tail)) rfl (by omega)) rfl ?_
          refine RH.val 19 rfl (by kernel_rfl) (by kernel_rfl) (by kernel_rfl) (by kernel_rfl) (Wanted.yes rfl rfl rfl rfl) (V.fieldAt rfl rfl fo26_6 (by repeat (first | exact List.Mem.head _ | assumption | apply List.Mem.tail))) rfl ?_
          refine RH.val 20 rfl (by kernel_rfl) (by kernel_rfl) (by kernel_rfl) (by kernel_rfl) (Wanted.yes rfl rfl rfl rfl) (V.loadAtF rfl on23 rfl (by repeat (first | exact List.Mem.head _ | assumption | apply List.Mem.tail)) rfl) rfl ?_
          refine RH.val 21 rfl (by kernel_rfl) (by kernel_rfl) (by kernel_rfl) (by kernel_rfl) (Wanted.yes rfl rfl rfl rfl) (V.len rfl rfl el23.under rfl) rfl ?_
          refine RH.cmp 22 rfl (by kernel_rfl) (by kernel_rfl) (by kernel_rfl) (by kernel_rfl) (Wanted.yes rfl rfl rfl rfl) (V.bin rfl rfl rfl B.gtr) rfl (fun h178 => ?_) (fun h178 => ?_)
          · skip
            refine RH.pure 23 rfl (by kernel_rfl) (by kernel_rfl) (by kernel_rfl) (by kernel_rfl) (Wanted.yes rfl rfl rfl rfl) (V.pick_true rfl rfl rfl) rfl ?_
            refine RH.pure 24 rfl (by kernel_rfl) (by kernel_rfl) (by kernel_rfl) (by kernel_rfl) (Wanted.free rfl) (V.pick_false rfl rfl rfl) rfl ?_
            refine RH.done (by kernel_rfl) ?_
            refine SG.cond_true rfl ?_
            refine SG.region ?_
            refine RL.val (Wanted.free rfl) (V.move rfl rfl) rfl ?_
            refine RL.val (Wanted.free rfl) (V.assign rfl rfl) rfl ?_
            refine RL.nil ?_
            refine SG.inBlock ?_
            refine SG.region ?_
            refine RL.val (Wanted.free rfl) (V.move rfl rfl) rfl ?_
            refine RL.val (Wanted.free rfl) (V.bin rfl rfl rfl (B.addI (by omega) (by omega))) rfl ?_
            refine RL.val (Wanted.free rfl) (V.assign rfl rfl) rfl ?_
            refine RL.nil ?_
            have hg2 := step_new hg (.inr ⟨by omega, by omega⟩)
            refine SG.weaken (ih3 _ _ _ ?_ ⟨i + 1, i, h2, by omega, by omega, by omega, by omega, fun j hj => ?_, hg2, rfl, rfl, rfl⟩) ?_ ?_
            · omega
            · by_cases e : j = i
              · rw [e]; exact hh4
              · have := hht j (by omega); omega
            · repeat (first | exact EnvLe.nil _ | refine EnvLe.cons rfl ?_)
            · repeat (first | exact Ent.refl _ | (apply Ent.cons; (· repeat (first | exact Pick.here | (refine Pick.sl ?_; (· repeat (first | exact List.Mem.head _ | assumption | apply List.Mem.tail))) | apply Pick.there))) | (refine Ent.trans (Ent.drop _ _) ?_))
          · skip
            refine RH.pure 23 rfl (by kernel_rfl) (by kernel_rfl) (by kernel_rfl) (by kernel_rfl) (Wanted.yes rfl rfl rfl rfl) (V.pick_true rfl rfl rfl) rfl ?_
            refine RH.pure 24 rfl (by kernel_rfl) (by kernel_rfl) (by kernel_rfl) (by kernel_rfl) (Wanted.free rfl) (V.pick_false rfl rfl rfl) rfl ?_
            refine RH.done (by kernel_rfl) ?_
            refine SG.cond_false rfl ?_
            refine SG.skip ?_
            refine SG.inBlock ?_
            refine SG.region ?_
            refine RL.val (Wanted.free rfl) (V.move rfl rfl) rfl ?_
            refine RL.val (Wanted.free rfl) (V.bin rfl rfl rfl (B.addI (by omega) (by omega))) rfl ?_
            refine RL.val (Wanted.free rfl) (V.assign rfl rfl) rfl ?_
            refine RL.nil ?_
            have hg2 := step_old hg (.inr ⟨by omega, by omega⟩)
            refine SG.weaken (ih3 _ _ _ ?_ ⟨i + 1, b, h2, by omega, by omega, by omega, by omega, fun j hj => ?_, hg2, rfl, rfl, rfl⟩) ?_ ?_
            · omega
            · by_cases e : j = i
              · rw [e]; exact hh4
              · have := hht j (by omega); omega
            · repeat (first | exact EnvLe.nil _ | refine EnvLe.cons rfl ?_)
            · repeat (first | exact Ent.refl _ | (apply Ent.cons; (· repeat (first | exact Pick.here | (refine Pick.sl ?_; (· repeat (first | exact List.Mem.head _ | assumption | apply List.Mem.tail))) | apply Pick.there))) | (refine Ent.trans (Ent.drop _ _) ?_))
        · skip
          refine RH.val 7 rfl (by kernel_rfl) (by kernel_rfl) (by kernel_rfl) (by kernel_rfl) (Wanted.yes rfl rfl rfl rfl) (V.move rfl rfl) rfl ?_
          refine RH.skip 8 rfl (by kernel_rfl) (by kernel_rfl) (by kernel_rfl) (by kernel_rfl) (Wanted.no rfl rfl rfl rfl rfl) rfl ?_
          refine RH.skip 9 rfl (by kernel_rfl) (by kernel_rfl) (by kernel_rfl) (by kernel_rfl) (Wanted.no rfl rfl rfl rfl rfl) rfl ?_
          refine RH.skip 10 rfl (by kernel_rfl) (by kernel_rfl) (by kernel_rfl) (by kernel_rfl) (Wanted.no rfl rfl rfl rfl rfl) rfl ?_
          refine RH.skip 11 rfl (by kernel_rfl) (by kernel_rfl) (by kernel_rfl) (by kernel_rfl) (Wanted.no rfl rfl rfl rfl rfl) rfl ?_
          refine RH.skip 12 rfl (by kernel_rfl) (by kernel_rfl) (by kernel_rfl) (by kernel_rfl) (Wanted.no rfl rfl rfl rfl rfl) rfl ?_
          refine RH.skip 13 rfl (by kernel_rfl) (by kernel_rfl) (by kernel_rfl) (by kernel_rfl) (Wanted.no rfl rfl rfl rfl rfl) rfl ?_
          refine RH.skip 14 rfl (by kernel_rfl) (by kernel_rfl) (by kernel_rfl) (by kernel_rfl) (Wanted.no rfl rfl rfl rfl rfl) rfl ?_
          refine RH.skip 15 rfl (by kernel_rfl) (by kernel_rfl) (by kernel_rfl) (by kernel_rfl) (Wanted.no rfl rfl rfl rfl rfl) rfl ?_
          refine RH.skip 16 rfl (by kernel_rfl) (by kernel_rfl) (by kernel_rfl) (by kernel_rfl) (Wanted.no rfl rfl rfl rfl rfl) rfl ?_
          refine RH.skip 17 rfl (by kernel_rfl) (by kernel_rfl) (by kernel_rfl) (by kernel_rfl) (Wanted.no rfl rfl rfl rfl rfl) rfl ?_
          refine RH.skip 18 rfl (by kernel_rfl) (by kernel_rfl) (by kernel_rfl) (by kernel_rfl) (Wanted.no rfl rfl rfl rfl rfl) rfl ?_
          refine RH.skip 19 rfl (by kernel_rfl) (by kernel_rfl) (by kernel_rfl) (by kernel_rfl) (Wanted.no rfl rfl rfl rfl rfl) rfl ?_
          refine RH.skip 20 rfl (by kernel_rfl) (by kernel_rfl) (by kernel_rfl) (by kernel_rfl) (Wanted.no rfl rfl rfl rfl rfl) rfl ?_
          refine RH.skip 21 rfl (by kernel_rfl) (by kernel_rfl) (by kernel_rfl) (by kernel_rfl) (Wanted.no rfl rfl rfl rfl rfl) rfl ?_
          refine RH.skip 22 rfl (by kernel_rfl) (by kernel_rfl) (by kernel_rfl) (by kernel_rfl) (Wanted.no rfl rfl rfl rfl rfl) rfl ?_
          refine RH.pure 23 rfl (by kernel_rfl) (by kernel_rfl) (by kernel_rfl) (by kernel_rfl) (Wanted.yes rfl rfl rfl rfl) (V.pick_false rfl rfl rfl) rfl ?_
          refine RH.pure 24 rfl (by kernel_rfl) (by kernel_rfl) (by kernel_rfl) (by kernel_rfl) (Wanted.free rfl) (V.pick_false rfl rfl rfl) rfl ?_
          refine RH.done (by kernel_rfl) ?_
          refine SG.cond_false rfl ?_
          refine SG.skip ?_
          refine SG.inBlock ?_
          refine SG.region ?_
          refine RL.val (Wanted.free rfl) (V.move rfl rfl) rfl ?_
          refine RL.val (Wanted.free rfl) (V.bin rfl rfl rfl (B.addI (by omega) (by omega))) rfl ?_
          refine RL.val (Wanted.free rfl) (V.assign rfl rfl) rfl ?_
          refine RL.nil ?_
          have hg2 := step_old hg (.inl (by omega))
          refine SG.weaken (ih3 _ _ _ ?_ ⟨i + 1, b, h2, by omega, by omega, by omega, by omega, fun j hj => ?_, hg2, rfl, rfl, rfl⟩) ?_ ?_
          · omega
          · by_cases e : j = i
            · rw [e]; exact hh4
            · have := hht j (by omega); omega
          · repeat (first | exact EnvLe.nil _ | refine EnvLe.cons rfl ?_)
          · repeat (first | exact Ent.refl _ | (apply Ent.cons; (· repeat (first | exact Pick.here | (refine Pick.sl ?_; (· repeat (first | exact List.Mem.head _ | assumption | apply List.Mem.tail))) | apply Pick.there))) | (refine Ent.trans (Ent.drop _ _) ?_))
    · skip
      refine RL.nil ?_
      refine SG.cond_false rfl ?_
      refine SG.exit rfl ?_
      refine SG.weaken (rest ⟨b, h⟩ ⟨by omega, by omega, by omega, fun j hj => hht j (by omega), fun j hj => hg j (by omega)⟩) ?_ ?_
      · repeat (first | exact EnvLe.nil _ | refine EnvLe.cons rfl ?_)
      · repeat (first | exact Ent.refl _ | (apply Ent.cons; (· repeat (first | exact Pick.here | (refine Pick.sl ?_; (· repeat (first | exact List.Mem.head _ | assumption | apply List.Mem.tail))) | apply Pick.there))) | (refine Ent.trans (Ent.drop _ _) ?_))

end Go.Proofs.Ytilcnglcflohoaa
