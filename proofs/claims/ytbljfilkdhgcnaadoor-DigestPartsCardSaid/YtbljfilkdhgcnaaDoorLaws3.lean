/- The law DigestParts. -/
import Derived.Test.YtbljfilkdhgcnaaDoorRest1
import Derived.Test.YtbljfilkdhgcnaaDoorRest4
namespace Go.Proofs.YtbljfilkdhgcnaaDoor
open Go.Wk Go.Sha

theorem cut_join {l : List UInt8} {p q : Nat} (h : p ≤ q) : l.take p ++ (l.drop p).take (q - p) = l.take q := by
  rw [← List.take_add, show p + (q - p) = q from by omega]
set_option maxRecDepth 100000 in
set_option maxHeartbeats 1000000 in
theorem parts_law {κ : World} {L : List Assn} {a : Option Addr} {n c : Nat} {l : List UInt8} {x y z : Int} (hm : Sl R8 a n c l ∈ L) (hT : Tab L) (hb : l.length ≤ 140737488355264) (hx : inInt x) (hy : inInt y) (hz : inInt z) :
    Ctr Tryd.prog 6 #[.slice a n c, vI x, vI y, vI z] κ L (fun v M => v = vB true ∧ M = L) := by
  refine Ctr.enter (vs := [.slice a n c, vI x, vI y, vI z]) (m := 75) Tryd.func6 rfl rfl rfl ?_
  unfold Tab at hT
  refine SG.sl hm fun hn hc hc63 => ?_
  subst hn
  refine SG.ent (slX _) ?_
  obtain ⟨q1, hq1, hl1⟩ := aroundV_nat (n := x) (most := (l.length : Int) + 1) (by omega)
  obtain ⟨q2, hq2, hl2⟩ := aroundV_nat (n := y) (most := (l.length : Int) + 1) (by omega)
  obtain ⟨q3, hq3, hl3⟩ := aroundV_nat (n := z) (most := (l.length : Int) + 1) (by omega)
  refine SG.seq ?_
  refine SG.region ?_
  refine RL.val (Wanted.free rfl) (V.assign rfl rfl) rfl ?_
  refine RL.nil ?_
  refine SG.seq ?_
  refine SG.region ?_
  refine RL.val (Wanted.free rfl) (V.move rfl rfl) rfl ?_
  refine RL.val (Wanted.free rfl) (V.len rfl rfl el22.under rfl) rfl ?_
  refine RL.val (Wanted.free rfl) (V.bin rfl rfl rfl (B.addI (by omega) (by omega))) rfl ?_
  refine RL.val (Wanted.free rfl) (V.assign rfl rfl) rfl ?_
  refine RL.nil ?_
  refine SG.seq ?_
  refine SG.region ?_
  refine RL.val (Wanted.free rfl) (V.move rfl rfl) rfl ?_
  refine RL.val (Wanted.free rfl) (V.move rfl rfl) rfl ?_
  refine RL.eff (Wanted.free rfl) (E.call rfl go16 rfl (around_ok _ _ hx.1 hx.2 (by omega))) rfl ?_
  rintro _ _ ⟨rfl, rfl⟩
  rw [hq1]
  refine RL.val (Wanted.free rfl) (V.move rfl rfl) rfl ?_
  refine RL.val (Wanted.free rfl) (V.move rfl rfl) rfl ?_
  refine RL.eff (Wanted.free rfl) (E.call rfl go16 rfl (around_ok _ _ hy.1 hy.2 (by omega))) rfl ?_
  rintro _ _ ⟨rfl, rfl⟩
  rw [hq2]
  refine RL.val (Wanted.free rfl) (V.move rfl rfl) rfl ?_
  refine RL.val (Wanted.free rfl) (V.move rfl rfl) rfl ?_
  refine RL.eff (Wanted.free rfl) (E.call rfl go16 rfl (around_ok _ _ hz.1 hz.2 (by omega))) rfl ?_
  rintro _ _ ⟨rfl, rfl⟩
  rw [hq3]
  refine RL.eff (Wanted.free rfl) (E.litN (xs := [.tmp 18, .tmp 21, .tmp 24]) rfl rfl rfl el43.slice ze3 rfl (by decide) (by decide) rfl (by simp [Value.cells])) rfl ?_
  rintro _ _ ⟨b25, rfl, rfl⟩
  refine RL.ent (Buf.of_els (T := RI) (b := b25) (e := 3) (m := 3) (l := [(q1 : Int), (q2 : Int), (q3 : Int)]) Pick.here rfl rfl (by decide) (fun _ _ _ => rows_sc.2 ⟨rfl, fun w hw => ?_⟩)) ?_
  · simp only [List.mem_cons, List.not_mem_nil, or_false] at hw; unfold inInt; omega
  refine RL.publish (T := RI) (a := some ⟨b25, 0, none⟩) Pick.here ?_
  refine RL.eff (Wanted.free rfl) (E.call rfl go23 rfl (sorted_ok (l := [(q1 : Int), (q2 : Int), (q3 : Int)]) (by repeat (first | exact List.Mem.head _ | assumption | apply List.Mem.tail)) (by simp) (by intro w hw; simp only [List.mem_cons, List.not_mem_nil, or_false] at hw; unfold inInt; omega))) rfl ?_
  rintro _ _ ⟨a26, c26, rfl, rfl⟩
  obtain ⟨p, q, r, hs, hpq, hqr, hrn⟩ := sort_three q1 q2 q3 l.length (by omega) (by omega) (by omega)
  rw [hs]
  refine RL.val (Wanted.free rfl) (V.assign rfl rfl) rfl ?_
  refine RL.nil ?_
  refine SG.seq ?_
  refine SG.join (ι := Nat × Option Addr × Nat) (fun ⟨b11, a42, c42⟩ => [(0, .slice a l.length c), (10, .slice a26 3 c26), (11, ptr b11 0)]) (fun ⟨b11, a42, c42⟩ => Blk b11 33 (dg (feed first (l.take q)) (.slice a42 (tail (l.take q)).length c42) (vI (((l.take q).length : Nat) : Int))) :: Sl R8 a42 (tail (l.take q)).length c42 (tail (l.take q)) :: Sl RI a26 3 c26 [(p : Int), (q : Int), (r : Int)] :: Sl R8 none (tail []).length 0 (tail []) :: L) (fun ⟨b11, a42, c42⟩ => True) ?_ (fun rest => ?_)
  · rintro ⟨b11, a42, c42⟩ _
    try dsimp only
    refine SG.seq ?_
    refine SG.cut (lo := q) (hi := r) (l' := (l.drop q).take (r - q)) (a := a) (T := R8) (by repeat (first | exact List.Mem.head _ | assumption | apply List.Mem.tail)) (by omega) (by omega) rfl ?_
    refine SG.cut (lo := r) (hi := l.length) (l' := l.drop r) (a := a) (T := R8) (by repeat (first | exact List.Mem.head _ | assumption | apply List.Mem.tail)) (by omega) (by omega) (List.take_of_length_le (by simp)) ?_
    refine SG.drawL 17 16 wide rfl rfl ?_
    refine RH.val 0 rfl (by kernel_rfl) (by kernel_rfl) (by kernel_rfl) (by kernel_rfl) (Wanted.free rfl) (V.loadAgg rfl ag33 rfl (by repeat (first | exact Pick.here | assumption | apply Pick.there)) (dg_all (feed_length _ _ first_length)) (dg_len (feed_length _ _ first_length))) rfl ?_
    refine RH.val 1 rfl (by kernel_rfl) (by kernel_rfl) (by kernel_rfl) (by kernel_rfl) (Wanted.free rfl) (V.move rfl rfl) rfl ?_
    refine RH.val 2 rfl (by kernel_rfl) (by kernel_rfl) (by kernel_rfl) (by kernel_rfl) (Wanted.free rfl) (V.move rfl rfl) rfl ?_
    refine RH.val 3 rfl (by kernel_rfl) (by kernel_rfl) (by kernel_rfl) (by kernel_rfl) (Wanted.free rfl) (V.indexSl (j := 1) rfl el43.slice rfl rfl (by repeat (first | exact List.Mem.head _ | assumption | apply List.Mem.tail)) (by first | rfl | omega) (by show _ < 3; omega)) rfl ?_
    refine RH.val 4 rfl (by kernel_rfl) (by kernel_rfl) (by kernel_rfl) (by kernel_rfl) (Wanted.free rfl) (V.loadSc (y := (q : Int)) (j := 1) rfl on3 rfl (by repeat (first | exact List.Mem.head _ | assumption | apply List.Mem.tail)) rfl) rfl ?_
    refine RH.val 5 rfl (by kernel_rfl) (by kernel_rfl) (by kernel_rfl) (by kernel_rfl) (Wanted.free rfl) (V.move rfl rfl) rfl ?_
    refine RH.val 6 rfl (by kernel_rfl) (by kernel_rfl) (by kernel_rfl) (by kernel_rfl) (Wanted.free rfl) (V.indexSl (j := 2) rfl el43.slice rfl rfl (by repeat (first | exact List.Mem.head _ | assumption | apply List.Mem.tail)) (by first | rfl | omega) (by show _ < 3; omega)) rfl ?_
    refine RH.val 7 rfl (by kernel_rfl) (by kernel_rfl) (by kernel_rfl) (by kernel_rfl) (Wanted.free rfl) (V.loadSc (y := (r : Int)) (j := 2) rfl on3 rfl (by repeat (first | exact List.Mem.head _ | assumption | apply List.Mem.tail)) rfl) rfl ?_
    refine RH.val 8 rfl (by kernel_rfl) (by kernel_rfl) (by kernel_rfl) (by kernel_rfl) (Wanted.free rfl) (V.slice (T := R8) (lo := q) (hi := r) rfl el22.slice rfl ⟨_, _, rfl, (by first | rfl | omega)⟩ ⟨_, _, rfl, (by first | rfl | omega)⟩ (by omega) (by omega)) rfl ?_
    refine RH.val 10 rfl (by kernel_rfl) (by kernel_rfl) (by kernel_rfl) (by kernel_rfl) (Wanted.free rfl) (V.move rfl rfl) rfl ?_
    refine RH.val 11 rfl (by kernel_rfl) (by kernel_rfl) (by kernel_rfl) (by kernel_rfl) (Wanted.free rfl) (V.move rfl rfl) rfl ?_
    refine RH.val 12 rfl (by kernel_rfl) (by kernel_rfl) (by kernel_rfl) (by kernel_rfl) (Wanted.free rfl) (V.indexSl (j := 2) rfl el43.slice rfl rfl (by repeat (first | exact List.Mem.head _ | assumption | apply List.Mem.tail)) (by first | rfl | omega) (by show _ < 3; omega)) rfl ?_
    refine RH.val 13 rfl (by kernel_rfl) (by kernel_rfl) (by kernel_rfl) (by kernel_rfl) (Wanted.free rfl) (V.loadSc (y := (r : Int)) (j := 2) rfl on3 rfl (by repeat (first | exact List.Mem.head _ | assumption | apply List.Mem.tail)) rfl) rfl ?_
    refine RH.val 14 rfl (by kernel_rfl) (by kernel_rfl) (by kernel_rfl) (by kernel_rfl) (Wanted.free rfl) (V.slice (T := R8) (lo := r) (hi := l.length) rfl el22.slice rfl ⟨_, _, rfl, (by first | rfl | omega)⟩ rfl (by omega) (by omega)) rfl ?_
    refine RH.one (i := 9) (by kernel_rfl) ?_
    refine RHone.eff rfl (Wanted.free rfl) (E.call rfl go17 rfl (writeX_ok (X := l.take q) (b := (l.drop q).take (r - q)) (by repeat (first | exact List.Mem.head _ | assumption | apply List.Mem.tail)) (by repeat (first | exact List.Mem.head _ | assumption | apply List.Mem.tail)) (by unfold Tab; repeat (first | exact List.Mem.head _ | assumption | apply List.Mem.tail)) (by first | omega | (simp; done) | (simp; omega)) (by first | omega | (simp; done) | (simp; omega)))) rfl ?_
    rintro _ _ ⟨a52, c52, rfl, rfl⟩
    refine ⟨.inr (by repeat (first | exact Ent.refl _ | (apply Ent.cons; (· repeat (first | exact Pick.here | (refine Pick.sl ?_; (· repeat (first | exact List.Mem.head _ | assumption | apply List.Mem.tail))) | apply Pick.there))) | (refine Ent.trans (Ent.drop _ _) ?_))), ?_⟩
    rw [cut_join hqr]
    refine RH.one (i := 15) (by kernel_rfl) ?_
    refine RHone.eff rfl (Wanted.free rfl) (E.call rfl go17 rfl (writeX_ok (X := l.take r) (b := l.drop r) (by repeat (first | exact List.Mem.head _ | assumption | apply List.Mem.tail)) (by repeat (first | exact List.Mem.head _ | assumption | apply List.Mem.tail)) (by unfold Tab; repeat (first | exact List.Mem.head _ | assumption | apply List.Mem.tail)) (by first | omega | (simp; done) | (simp; omega)) (by first | omega | (simp; done) | (simp; omega)))) rfl ?_
    rintro _ _ ⟨a58, c58, rfl, rfl⟩
    refine ⟨.inr (by repeat (first | exact Ent.refl _ | (apply Ent.cons; (· repeat (first | exact Pick.here | (refine Pick.sl ?_; (· repeat (first | exact List.Mem.head _ | assumption | apply List.Mem.tail))) | apply Pick.there))) | (refine Ent.trans (Ent.drop _ _) ?_))), ?_⟩
    rw [List.take_append_drop]
    refine RH.one (i := 16) (by kernel_rfl) ?_
    refine RHone.eff rfl (Wanted.free rfl) (E.storeWhole rfl rfl rfl (dg_len (feed_length _ _ first_length)) sz33 (by repeat (first | exact Pick.here | assumption | apply Pick.there)) (dg_one rfl rfl) (by first | rfl | (rw [dg_len (feed_length _ _ first_length)]))) rfl ?_
    rintro _ _ rfl
    refine ⟨.inl (by kernel_rfl), ?_⟩
    refine RH.done (by kernel_rfl) ?_
    refine SG.seq ?_
    refine SG.region ?_
    refine RL.eff (Wanted.free rfl) (E.call rfl go18 rfl (newX_ok)) rfl ?_
    rintro _ _ ⟨rfl, rfl⟩
    refine RL.val (Wanted.free rfl) (V.move rfl rfl) rfl ?_
    refine RL.eff (Wanted.free rfl) (E.call rfl go17 rfl (writeX_ok (X := []) (b := l) (by repeat (first | exact List.Mem.head _ | assumption | apply List.Mem.tail)) (by repeat (first | exact List.Mem.head _ | assumption | apply List.Mem.tail)) (by unfold Tab; repeat (first | exact List.Mem.head _ | assumption | apply List.Mem.tail)) (by first | omega | (simp; done) | (simp; omega)) (by first | omega | (simp; done) | (simp; omega)))) rfl ?_
    rintro _ _ ⟨a61, c61, rfl, rfl⟩
    rw [List.nil_append]
    refine RL.eff (Wanted.free rfl) (E.alloc rfl ze33) rfl ?_
    rintro _ _ ⟨b12, rfl, rfl⟩
    refine RL.eff (Wanted.free rfl) (E.storeWhole rfl rfl rfl (dg_len (feed_length _ _ first_length)) sz33 (by repeat (first | exact Pick.here | assumption | apply Pick.there)) (dg_one rfl rfl) (by first | rfl | (rw [dg_len (feed_length _ _ first_length)]))) rfl ?_
    rintro _ _ rfl
    refine RL.nil ?_
    refine SG.seq ?_
    refine SG.region ?_
    refine RL.val (Wanted.free rfl) (V.loadAgg rfl ag33 rfl (by repeat (first | exact Pick.here | assumption | apply Pick.there)) (dg_all (feed_length _ _ first_length)) (dg_len (feed_length _ _ first_length))) rfl ?_
    refine RL.val (Wanted.free rfl) (V.loadAgg rfl ag33 rfl (by repeat (first | exact Pick.here | assumption | apply Pick.there)) (dg_all (feed_length _ _ first_length)) (dg_len (feed_length _ _ first_length))) rfl ?_
    refine RL.eff (Wanted.free rfl) (E.call rfl go19 rfl (same_ok (X := l) (by repeat (first | exact List.Mem.head _ | assumption | apply List.Mem.tail)) (by repeat (first | exact List.Mem.head _ | assumption | apply List.Mem.tail)))) rfl ?_
    rintro _ _ ⟨rfl, rfl⟩
    refine RL.val (Wanted.free rfl) (V.move rfl rfl) rfl ?_
    refine RL.val (Wanted.yes rfl rfl rfl rfl) (V.loadAgg rfl ag33 rfl (by repeat (first | exact Pick.here | assumption | apply Pick.there)) (dg_all (feed_length _ _ first_length)) (dg_len (feed_length _ _ first_length))) rfl ?_
    refine RL.eff (Wanted.yes rfl rfl rfl rfl) (E.call rfl go22 rfl (closeX_ok (X := l) (by repeat (first | exact List.Mem.head _ | assumption | apply List.Mem.tail)) (by unfold Tab; repeat (first | exact List.Mem.head _ | assumption | apply List.Mem.tail)) (by first | omega | (simp; done) | (simp; omega)))) rfl ?_
    rintro _ _ ⟨rfl, rfl⟩
    refine RL.val (Wanted.yes rfl rfl rfl rfl) (V.move rfl rfl) rfl ?_
    refine RL.eff (Wanted.yes rfl rfl rfl rfl) (E.call rfl go12 rfl (sum_ok (l := l) (by repeat (first | exact List.Mem.head _ | assumption | apply List.Mem.tail)) (by unfold Tab; repeat (first | exact List.Mem.head _ | assumption | apply List.Mem.tail)) hb)) rfl ?_
    rintro _ _ ⟨rfl, rfl⟩
    refine RL.cmpT (Wanted.yes rfl rfl rfl rfl) (V.eqlArr rfl ar24 on5 ui5 ce24 eg24 inj8 (sum_length _) (sum_length _) rfl rfl) rfl rfl ?_
    refine RL.val (Wanted.free rfl) (V.pick_true rfl rfl rfl) rfl ?_
    refine RL.val (Wanted.free rfl) (V.move rfl rfl) rfl ?_
    refine RL.eff (Wanted.yes rfl rfl rfl rfl) (E.call rfl go14 rfl (lives_ok (by unfold Tab; repeat (first | exact List.Mem.head _ | assumption | apply List.Mem.tail)))) rfl ?_
    rintro _ _ ⟨rfl, rfl⟩
    refine RL.val (Wanted.free rfl) (V.pick_true rfl rfl rfl) rfl ?_
    refine RL.val (Wanted.free rfl) (V.assign rfl rfl) rfl ?_
    refine RL.nil ?_
    refine SG.retE (Ret.r1 Tryd.func6 rfl (.tmp rfl)) ?_ ⟨rfl, rfl⟩
    repeat (first | exact Ent.refl _ | (apply Ent.cons; (· repeat (first | exact Pick.here | (refine Pick.sl ?_; (· repeat (first | exact List.Mem.head _ | assumption | apply List.Mem.tail))) | apply Pick.there))) | (refine Ent.trans (Ent.drop _ _) ?_))
  · skip
    refine SG.cut (lo := 0) (hi := p) (l' := l.take p) (a := a) (T := R8) (by repeat (first | exact List.Mem.head _ | assumption | apply List.Mem.tail)) (by omega) (by omega) (by simp) ?_
    refine SG.cut (lo := p) (hi := q) (l' := (l.drop p).take (q - p)) (a := a) (T := R8) (by repeat (first | exact List.Mem.head _ | assumption | apply List.Mem.tail)) (by omega) (by omega) rfl ?_
    refine SG.drawL 18 17 wide rfl rfl ?_
    refine RH.val 1 rfl (by kernel_rfl) (by kernel_rfl) (by kernel_rfl) (by kernel_rfl) (Wanted.free rfl) (V.move rfl rfl) rfl ?_
    refine RH.val 2 rfl (by kernel_rfl) (by kernel_rfl) (by kernel_rfl) (by kernel_rfl) (Wanted.free rfl) (V.move rfl rfl) rfl ?_
    refine RH.val 3 rfl (by kernel_rfl) (by kernel_rfl) (by kernel_rfl) (by kernel_rfl) (Wanted.free rfl) (V.indexSl (j := 0) rfl el43.slice rfl rfl (by repeat (first | exact List.Mem.head _ | assumption | apply List.Mem.tail)) (by first | rfl | omega) (by show _ < 3; omega)) rfl ?_
    refine RH.val 4 rfl (by kernel_rfl) (by kernel_rfl) (by kernel_rfl) (by kernel_rfl) (Wanted.free rfl) (V.loadSc (y := (p : Int)) (j := 0) rfl on3 rfl (by repeat (first | exact List.Mem.head _ | assumption | apply List.Mem.tail)) rfl) rfl ?_
    refine RH.val 5 rfl (by kernel_rfl) (by kernel_rfl) (by kernel_rfl) (by kernel_rfl) (Wanted.free rfl) (V.slice (T := R8) (lo := 0) (hi := p) rfl el22.slice rfl rfl ⟨_, _, rfl, (by first | rfl | omega)⟩ (by omega) (by omega)) rfl ?_
    refine RH.val 7 rfl (by kernel_rfl) (by kernel_rfl) (by kernel_rfl) (by kernel_rfl) (Wanted.free rfl) (V.move rfl rfl) rfl ?_
    refine RH.val 8 rfl (by kernel_rfl) (by kernel_rfl) (by kernel_rfl) (by kernel_rfl) (Wanted.free rfl) (V.move rfl rfl) rfl ?_
    refine RH.val 9 rfl (by kernel_rfl) (by kernel_rfl) (by kernel_rfl) (by kernel_rfl) (Wanted.free rfl) (V.indexSl (j := 0) rfl el43.slice rfl rfl (by repeat (first | exact List.Mem.head _ | assumption | apply List.Mem.tail)) (by first | rfl | omega) (by show _ < 3; omega)) rfl ?_
    refine RH.val 10 rfl (by kernel_rfl) (by kernel_rfl) (by kernel_rfl) (by kernel_rfl) (Wanted.free rfl) (V.loadSc (y := (p : Int)) (j := 0) rfl on3 rfl (by repeat (first | exact List.Mem.head _ | assumption | apply List.Mem.tail)) rfl) rfl ?_
    refine RH.val 11 rfl (by kernel_rfl) (by kernel_rfl) (by kernel_rfl) (by kernel_rfl) (Wanted.free rfl) (V.move rfl rfl) rfl ?_
    refine RH.val 12 rfl (by kernel_rfl) (by kernel_rfl) (by kernel_rfl) (by kernel_rfl) (Wanted.free rfl) (V.indexSl (j := 1) rfl el43.slice rfl rfl (by repeat (first | exact List.Mem.head _ | assumption | apply List.Mem.tail)) (by first | rfl | omega) (by show _ < 3; omega)) rfl ?_
    refine RH.val 13 rfl (by kernel_rfl) (by kernel_rfl) (by kernel_rfl) (by kernel_rfl) (Wanted.free rfl) (V.loadSc (y := (q : Int)) (j := 1) rfl on3 rfl (by repeat (first | exact List.Mem.head _ | assumption | apply List.Mem.tail)) rfl) rfl ?_
    refine RH.val 14 rfl (by kernel_rfl) (by kernel_rfl) (by kernel_rfl) (by kernel_rfl) (Wanted.free rfl) (V.slice (T := R8) (lo := p) (hi := q) rfl el22.slice rfl ⟨_, _, rfl, (by first | rfl | omega)⟩ ⟨_, _, rfl, (by first | rfl | omega)⟩ (by omega) (by omega)) rfl ?_
    refine RH.two (i := 0) (j := 16) (by kernel_rfl) ?_ ?_
    · skip
      refine RHone.eff rfl (Wanted.free rfl) (E.call rfl go18 rfl (newX_ok)) rfl ?_
      rintro _ _ ⟨rfl, rfl⟩
      refine ⟨.inr (by repeat (first | exact Ent.refl _ | (apply Ent.cons; (· repeat (first | exact Pick.here | (refine Pick.sl ?_; (· repeat (first | exact List.Mem.head _ | assumption | apply List.Mem.tail))) | apply Pick.there))) | (refine Ent.trans (Ent.drop _ _) ?_))), ?_⟩
      refine RH.two (i := 6) (j := 16) (by kernel_rfl) ?_ ?_
      · skip
        refine RHone.eff rfl (Wanted.free rfl) (E.call rfl go17 rfl (writeX_ok (X := []) (b := l.take p) (by repeat (first | exact List.Mem.head _ | assumption | apply List.Mem.tail)) (by repeat (first | exact List.Mem.head _ | assumption | apply List.Mem.tail)) (by unfold Tab; repeat (first | exact List.Mem.head _ | assumption | apply List.Mem.tail)) (by first | omega | (simp; done) | (simp; omega)) (by first | omega | (simp; done) | (simp; omega)))) rfl ?_
        rintro _ _ ⟨a33, c33, rfl, rfl⟩
        refine ⟨.inr (by repeat (first | exact Ent.refl _ | (apply Ent.cons; (· repeat (first | exact Pick.here | (refine Pick.sl ?_; (· repeat (first | exact List.Mem.head _ | assumption | apply List.Mem.tail))) | apply Pick.there))) | (refine Ent.trans (Ent.drop _ _) ?_))), ?_⟩
        rw [List.nil_append]
        refine RH.two (i := 15) (j := 16) (by kernel_rfl) ?_ ?_
        · skip
          refine RHone.eff rfl (Wanted.free rfl) (E.call rfl go17 rfl (writeX_ok (X := l.take p) (b := (l.drop p).take (q - p)) (by repeat (first | exact List.Mem.head _ | assumption | apply List.Mem.tail)) (by repeat (first | exact List.Mem.head _ | assumption | apply List.Mem.tail)) (by unfold Tab; repeat (first | exact List.Mem.head _ | assumption | apply List.Mem.tail)) (by first | omega | (simp; done) | (simp; omega)) (by first | omega | (simp; done) | (simp; omega)))) rfl ?_
          rintro _ _ ⟨a42, c42, rfl, rfl⟩
          refine ⟨.inr (by repeat (first | exact Ent.refl _ | (apply Ent.cons; (· repeat (first | exact Pick.here | (refine Pick.sl ?_; (· repeat (first | exact List.Mem.head _ | assumption | apply List.Mem.tail))) | apply Pick.there))) | (refine Ent.trans (Ent.drop _ _) ?_))), ?_⟩
          rw [cut_join hpq]
          refine RH.one (i := 16) (by kernel_rfl) ?_
          refine RHone.eff rfl (Wanted.free rfl) (E.alloc rfl ze33) rfl ?_
          rintro _ _ ⟨b11, rfl, rfl⟩
          refine ⟨.inr (by repeat (first | exact Ent.refl _ | (apply Ent.cons; (· repeat (first | exact Pick.here | (refine Pick.sl ?_; (· repeat (first | exact List.Mem.head _ | assumption | apply List.Mem.tail))) | apply Pick.there))) | (refine Ent.trans (Ent.drop _ _) ?_))), ?_⟩
          refine RH.one (i := 17) (by kernel_rfl) ?_
          refine RHone.eff rfl (Wanted.free rfl) (E.storeWhole rfl rfl rfl (dg_len (feed_length _ _ first_length)) sz33 (by repeat (first | exact Pick.here | assumption | apply Pick.there)) (dg_one rfl rfl) (by first | rfl | (rw [dg_len (feed_length _ _ first_length)]))) rfl ?_
          rintro _ _ rfl
          refine ⟨.inl (by kernel_rfl), ?_⟩
          refine RH.done (by kernel_rfl) ?_
          refine SG.weaken (rest ⟨b11, a42, c42⟩ trivial) ?_ ?_
          · repeat (first | exact EnvLe.nil _ | refine EnvLe.cons rfl ?_)
          · repeat (first | exact Ent.refl _ | (apply Ent.cons; (· repeat (first | exact Pick.here | (refine Pick.sl ?_; (· repeat (first | exact List.Mem.head _ | assumption | apply List.Mem.tail))) | apply Pick.there))) | (refine Ent.trans (Ent.drop _ _) ?_))
        · skip
          refine RHone.eff rfl (Wanted.free rfl) (E.alloc rfl ze33) rfl ?_
          rintro _ _ ⟨b11, rfl, rfl⟩
          refine ⟨.inr (by repeat (first | exact Ent.refl _ | (apply Ent.cons; (· repeat (first | exact Pick.here | (refine Pick.sl ?_; (· repeat (first | exact List.Mem.head _ | assumption | apply List.Mem.tail))) | apply Pick.there))) | (refine Ent.trans (Ent.drop _ _) ?_))), ?_⟩
          refine RH.one (i := 15) (by kernel_rfl) ?_
          refine RHone.eff rfl (Wanted.free rfl) (E.call rfl go17 rfl (writeX_ok (X := l.take p) (b := (l.drop p).take (q - p)) (by repeat (first | exact List.Mem.head _ | assumption | apply List.Mem.tail)) (by repeat (first | exact List.Mem.head _ | assumption | apply List.Mem.tail)) (by unfold Tab; repeat (first | exact List.Mem.head _ | assumption | apply List.Mem.tail)) (by first | omega | (simp; done) | (simp; omega)) (by first | omega | (simp; done) | (simp; omega)))) rfl ?_
          rintro _ _ ⟨a42, c42, rfl, rfl⟩
          refine ⟨.inr (by repeat (first | exact Ent.refl _ | (apply Ent.cons; (· repeat (first | exact Pick.here | (refine Pick.sl ?_; (· repeat (first | exact List.Mem.head _ | assumption | apply List.Mem.tail))) | apply Pick.there))) | (refine Ent.trans (Ent.drop _ _) ?_))), ?_⟩
          rw [cut_join hpq]
          refine RH.one (i := 17) (by kernel_rfl) ?_
          refine RHone.eff rfl (Wanted.free rfl) (E.storeWhole rfl rfl rfl (dg_len (feed_length _ _ first_length)) sz33 (by repeat (first | exact Pick.here | assumption | apply Pick.there)) (dg_one rfl rfl) (by first | rfl | (rw [dg_len (feed_length _ _ first_length)]))) rfl ?_
          rintro _ _ rfl
          refine ⟨.inl (by kernel_rfl), ?_⟩
          refine RH.done (by kernel_rfl) ?_
          refine SG.weaken (rest ⟨b11, a42, c42⟩ trivial) ?_ ?_
          · repeat (first | exact EnvLe.nil _ | refine EnvLe.cons rfl ?_)
          · repeat (first | exact Ent.refl _ | (apply Ent.cons; (· repeat (first | exact Pick.here | (refine Pick.sl ?_; (· repeat (first | exact List.Mem.head _ | assumption | apply List.Mem.tail))) | apply Pick.there))) | (refine Ent.trans (Ent.drop _ _) ?_))
      · skip
        refine RHone.eff rfl (Wanted.free rfl) (E.alloc rfl ze33) rfl ?_
        rintro _ _ ⟨b11, rfl, rfl⟩
        refine ⟨.inr (by repeat (first | exact Ent.refl _ | (apply Ent.cons; (· repeat (first | exact Pick.here | (refine Pick.sl ?_; (· repeat (first | exact List.Mem.head _ | assumption | apply List.Mem.tail))) | apply Pick.there))) | (refine Ent.trans (Ent.drop _ _) ?_))), ?_⟩
        refine RH.one (i := 6) (by kernel_rfl) ?_
        refine RHone.eff rfl (Wanted.free rfl) (E.call rfl go17 rfl (writeX_ok (X := []) (b := l.take p) (by repeat (first | exact List.Mem.head _ | assumption | apply List.Mem.tail)) (by repeat (first | exact List.Mem.head _ | assumption | apply List.Mem.tail)) (by unfold Tab; repeat (first | exact List.Mem.head _ | assumption | apply List.Mem.tail)) (by first | omega | (simp; done) | (simp; omega)) (by first | omega | (simp; done) | (simp; omega)))) rfl ?_
        rintro _ _ ⟨a33, c33, rfl, rfl⟩
        refine ⟨.inr (by repeat (first | exact Ent.refl _ | (apply Ent.cons; (· repeat (first | exact Pick.here | (refine Pick.sl ?_; (· repeat (first | exact List.Mem.head _ | assumption | apply List.Mem.tail))) | apply Pick.there))) | (refine Ent.trans (Ent.drop _ _) ?_))), ?_⟩
        rw [List.nil_append]
        refine RH.one (i := 15) (by kernel_rfl) ?_
        refine RHone.eff rfl (Wanted.free rfl) (E.call rfl go17 rfl (writeX_ok (X := l.take p) (b := (l.drop p).take (q - p)) (by repeat (first | exact List.Mem.head _ | assumption | apply List.Mem.tail)) (by repeat (first | exact List.Mem.head _ | assumption | apply List.Mem.tail)) (by unfold Tab; repeat (first | exact List.Mem.head _ | assumption | apply List.Mem.tail)) (by first | omega | (simp; done) | (simp; omega)) (by first | omega | (simp; done) | (simp; omega)))) rfl ?_
        rintro _ _ ⟨a42, c42, rfl, rfl⟩
        refine ⟨.inr (by repeat (first | exact Ent.refl _ | (apply Ent.cons; (· repeat (first | exact Pick.here | (refine Pick.sl ?_; (· repeat (first | exact List.Mem.head _ | assumption | apply List.Mem.tail))) | apply Pick.there))) | (refine Ent.trans (Ent.drop _ _) ?_))), ?_⟩
        rw [cut_join hpq]
        refine RH.one (i := 17) (by kernel_rfl) ?_
        refine RHone.eff rfl (Wanted.free rfl) (E.storeWhole rfl rfl rfl (dg_len (feed_length _ _ first_length)) sz33 (by repeat (first | exact Pick.here | assumption | apply Pick.there)) (dg_one rfl rfl) (by first | rfl | (rw [dg_len (feed_length _ _ first_length)]))) rfl ?_
        rintro _ _ rfl
        refine ⟨.inl (by kernel_rfl), ?_⟩
        refine RH.done (by kernel_rfl) ?_
        refine SG.weaken (rest ⟨b11, a42, c42⟩ trivial) ?_ ?_
        · repeat (first | exact EnvLe.nil _ | refine EnvLe.cons rfl ?_)
        · repeat (first | exact Ent.refl _ | (apply Ent.cons; (· repeat (first | exact Pick.here | (refine Pick.sl ?_; (· repeat (first | exact List.Mem.head _ | assumption | apply List.Mem.tail))) | apply Pick.there))) | (refine Ent.trans (Ent.drop _ _) ?_))
    · skip
      refine RHone.eff rfl (Wanted.free rfl) (E.alloc rfl ze33) rfl ?_
      rintro _ _ ⟨b11, rfl, rfl⟩
      refine ⟨.inr (by repeat (first | exact Ent.refl _ | (apply Ent.cons; (· repeat (first | exact Pick.here | (refine Pick.sl ?_; (· repeat (first | exact List.Mem.head _ | assumption | apply List.Mem.tail))) | apply Pick.there))) | (refine Ent.trans (Ent.drop _ _) ?_))), ?_⟩
      refine RH.one (i := 0) (by kernel_rfl) ?_
      refine RHone.eff rfl (Wanted.free rfl) (E.call rfl go18 rfl (newX_ok)) rfl ?_
      rintro _ _ ⟨rfl, rfl⟩
      refine ⟨.inr (by repeat (first | exact Ent.refl _ | (apply Ent.cons; (· repeat (first | exact Pick.here | (refine Pick.sl ?_; (· repeat (first | exact List.Mem.head _ | assumption | apply List.Mem.tail))) | apply Pick.there))) | (refine Ent.trans (Ent.drop _ _) ?_))), ?_⟩
      refine RH.one (i := 6) (by kernel_rfl) ?_
      refine RHone.eff rfl (Wanted.free rfl) (E.call rfl go17 rfl (writeX_ok (X := []) (b := l.take p) (by repeat (first | exact List.Mem.head _ | assumption | apply List.Mem.tail)) (by repeat (first | exact List.Mem.head _ | assumption | apply List.Mem.tail)) (by unfold Tab; repeat (first | exact List.Mem.head _ | assumption | apply List.Mem.tail)) (by first | omega | (simp; done) | (simp; omega)) (by first | omega | (simp; done) | (simp; omega)))) rfl ?_
      rintro _ _ ⟨a33, c33, rfl, rfl⟩
      refine ⟨.inr (by repeat (first | exact Ent.refl _ | (apply Ent.cons; (· repeat (first | exact Pick.here | (refine Pick.sl ?_; (· repeat (first | exact List.Mem.head _ | assumption | apply List.Mem.tail))) | apply Pick.there))) | (refine Ent.trans (Ent.drop _ _) ?_))), ?_⟩
      rw [List.nil_append]
      refine RH.one (i := 15) (by kernel_rfl) ?_
      refine RHone.eff rfl (Wanted.free rfl) (E.call rfl go17 rfl (writeX_ok (X := l.take p) (b := (l.drop p).take (q - p)) (by repeat (first | exact List.Mem.head _ | assumption | apply List.Mem.tail)) (by repeat (first | exact List.Mem.head _ | assumption | apply List.Mem.tail)) (by unfold Tab; repeat (first | exact List.Mem.head _ | assumption | apply List.Mem.tail)) (by first | omega | (simp; done) | (simp; omega)) (by first | omega | (simp; done) | (simp; omega)))) rfl ?_
      rintro _ _ ⟨a42, c42, rfl, rfl⟩
      refine ⟨.inr (by repeat (first | exact Ent.refl _ | (apply Ent.cons; (· repeat (first | exact Pick.here | (refine Pick.sl ?_; (· repeat (first | exact List.Mem.head _ | assumption | apply List.Mem.tail))) | apply Pick.there))) | (refine Ent.trans (Ent.drop _ _) ?_))), ?_⟩
      rw [cut_join hpq]
      refine RH.one (i := 17) (by kernel_rfl) ?_
      refine RHone.eff rfl (Wanted.free rfl) (E.storeWhole rfl rfl rfl (dg_len (feed_length _ _ first_length)) sz33 (by repeat (first | exact Pick.here | assumption | apply Pick.there)) (dg_one rfl rfl) (by first | rfl | (rw [dg_len (feed_length _ _ first_length)]))) rfl ?_
      rintro _ _ rfl
      refine ⟨.inl (by kernel_rfl), ?_⟩
      refine RH.done (by kernel_rfl) ?_
      refine SG.weaken (rest ⟨b11, a42, c42⟩ trivial) ?_ ?_
      · repeat (first | exact EnvLe.nil _ | refine EnvLe.cons rfl ?_)
      · repeat (first | exact Ent.refl _ | (apply Ent.cons; (· repeat (first | exact Pick.here | (refine Pick.sl ?_; (· repeat (first | exact List.Mem.head _ | assumption | apply List.Mem.tail))) | apply Pick.there))) | (refine Ent.trans (Ent.drop _ _) ?_))

end Go.Proofs.YtbljfilkdhgcnaaDoor
