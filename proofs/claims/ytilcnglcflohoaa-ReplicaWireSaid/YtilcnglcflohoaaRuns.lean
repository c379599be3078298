/- Runs. -/
import Derived.Test.YtilcnglcflohoaaPlainr
namespace Go.Proofs.Ytilcnglcflohoaa
open Go.Wk Go.Rp

set_option maxRecDepth 100000 in
theorem around_ok {κ : World} {L : List Assn} (n most : Int) (h1 : -9223372036854775808 ≤ n) (h2 : n ≤ 9223372036854775807) (h3 : 0 < most) :
    Ctr Try.prog 29 #[vI n, vI most] κ L (fun v M => v = vI (aroundV n most) ∧ M = L) := by
 refine Ctr.enter (vs := [vI n, vI most]) (m := 13) Try.func29 rfl rfl rfl ?_
 refine SG.seq ?_
 refine SG.region ?_
 refine RL.val (Wanted.free rfl) (V.assign rfl rfl) rfl ?_
 refine RL.nil ?_
 refine SG.seq ?_
 refine SG.seq ?_
 refine SG.region ?_
 refine RL.val (Wanted.free rfl) (V.move rfl rfl) rfl ?_
 refine RL.cmp (Wanted.free rfl) (V.bin rfl rfl rfl B.lss) rfl (fun h3 => ?_) (fun h3 => ?_)
 ·
  refine RL.nil ?_
  refine SG.cond_true rfl ?_
  refine SG.region ?_
  refine RL.val (Wanted.free rfl) (V.move rfl rfl) rfl ?_
  refine RL.val (Wanted.free rfl) (V.bin rfl rfl rfl (B.addI (by omega) (by omega))) rfl ?_
  refine RL.val (Wanted.free rfl) (V.negI rfl rfl (by omega) (by omega)) rfl ?_
  refine RL.val (Wanted.free rfl) (V.assign rfl rfl) rfl ?_
  refine RL.nil ?_
  refine SG.seq ?_
  refine SG.region ?_
  refine RL.val (Wanted.free rfl) (V.move rfl rfl) rfl ?_
  refine RL.val (Wanted.free rfl) (V.move rfl rfl) rfl ?_
  refine RL.val (Wanted.free rfl) (V.bin rfl rfl rfl (B.remI (by omega) (by omega))) rfl ?_
  refine RL.val (Wanted.free rfl) (V.assign rfl rfl) rfl ?_
  refine RL.nil ?_
  refine SG.retE (Ret.r1 Try.func29 rfl (.tmp rfl)) ?_ ⟨by simp [aroundV, *], rfl⟩
  exact entX
 ·
  refine RL.nil ?_
  refine SG.cond_false rfl ?_
  refine SG.skip ?_
  refine SG.seq ?_
  refine SG.region ?_
  refine RL.val (Wanted.free rfl) (V.move rfl rfl) rfl ?_
  refine RL.val (Wanted.free rfl) (V.move rfl rfl) rfl ?_
  refine RL.val (Wanted.free rfl) (V.bin rfl rfl rfl (B.remI (by omega) (by omega))) rfl ?_
  refine RL.val (Wanted.free rfl) (V.assign rfl rfl) rfl ?_
  refine RL.nil ?_
  refine SG.retE (Ret.r1 Try.func29 rfl (.tmp rfl)) ?_ ⟨by simp [aroundV, *], rfl⟩
  exact entX

theorem aroundV_nat {n most : Int} (h : 0 < most) : ∃ q : Nat, aroundV n most = (q : Int) ∧ (q : Int) < most := by
  obtain ⟨h1, h2⟩ := aroundV_bd (n := n) h
  obtain ⟨q, hq⟩ := Int.eq_ofNat_of_zero_le h1
  exact ⟨q, hq, by omega⟩
theorem decGo_zero {s : List UInt8} : decGo 0 s = s := by unfold decGo; rfl
theorem decGo_step {k : Nat} {s : List UInt8} (h : k ≠ 0) : decGo k s = decGo (k / 10) ((digs.drop (k % 10)).take (k % 10 + 1 - k % 10) ++ s) := by
  conv => lhs; unfold decGo
  rw [dif_neg h]
theorem digs_len (k : Nat) : ((digs.drop (k % 10)).take (k % 10 + 1 - k % 10)).length = 1 := by
  rw [List.length_take, List.length_drop]; simp [digs]; omega
set_option maxRecDepth 100000 in
theorem decimal_ok {κ : World} {L : List Assn} {n : Nat} (hn : n ≤ 1000000) :
    Ctr Try.prog 84 #[vI n] κ L (fun v M => v = vS (decV n) ∧ M = L) := by
 refine Ctr.enter (vs := [vI n]) (m := 32) Try.func84 rfl rfl rfl ?_
 refine SG.seq ?_
 refine SG.region ?_
 refine RL.val (Wanted.free rfl) (V.assign rfl rfl) rfl ?_
 refine RL.nil ?_
 refine SG.seq ?_
 refine SG.seq ?_
 refine SG.region ?_
 refine RL.val (Wanted.free rfl) (V.move rfl rfl) rfl ?_
 refine RL.cmp (Wanted.free rfl) (V.bin rfl rfl rfl B.eql) rfl (fun h3 => ?_) (fun h3 => ?_)
 ·
  refine RL.nil ?_
  refine SG.cond_true rfl ?_
  refine SG.seq ?_
  refine SG.region ?_
  refine RL.val (Wanted.free rfl) (V.assign rfl rfl) rfl ?_
  refine RL.nil ?_
  refine SG.retE (Ret.r1 Try.func84 rfl (.tmp rfl)) ?_ ⟨by rw [decV, if_pos (by omega)], rfl⟩
  exact entX
 ·
  refine RL.nil ?_
  refine SG.cond_false rfl ?_
  refine SG.skip ?_
  refine SG.seq ?_
  refine SG.region ?_
  refine RL.val (Wanted.free rfl) (V.assign rfl rfl) rfl ?_
  refine RL.nil ?_
  refine SG.seq ?_
  refine SG.region ?_
  refine RL.val (Wanted.free rfl) (V.assign rfl rfl) rfl ?_
  refine RL.nil ?_
  refine SG.seq ?_
  refine SG.seq ?_
  refine SG.region ?_
  refine RL.val (Wanted.free rfl) (V.move rfl rfl) rfl ?_
  refine RL.val (Wanted.free rfl) (V.assign rfl rfl) rfl ?_
  refine RL.nil ?_
  refine SG.block ?_
  refine SG.weaken (SG.loop2 (fun m al M => ∃ (k : Nat) (s : List UInt8), s.length + k ≤ n ∧ m = k + 1 ∧ decGo k s = decGo n [] ∧ al = [(0, vI n), (3, vS digs), (4, vS s), (5, vI k)] ∧ M = L) (m0 := _) ⟨n, [], by simp, rfl, rfl, rfl, rfl⟩ ?_) ?_ ?_
  rotate_left
  ·
   repeat (first | exact EnvLe.nil _ | refine EnvLe.cons rfl ?_)
  ·
   exact entX
  rintro _ _ _ ⟨k, s, hks, rfl, hd, rfl, rfl⟩ ih0
  refine SG.seq ?_
  refine SG.seq ?_
  refine SG.region ?_
  refine RL.val (Wanted.free rfl) (V.move rfl rfl) rfl ?_
  refine RL.cmp (Wanted.free rfl) (V.bin rfl rfl rfl B.neq) rfl (fun h10 => ?_) (fun h10 => ?_)
  ·
   refine RL.nil ?_
   refine SG.cond_true rfl ?_
   refine SG.skip ?_
   refine SG.seq ?_
   refine SG.block ?_
   refine SG.seq ?_
   have hk0 : k ≠ 0 := by omega
   have hdl := digs_len k
   have hsl : s.length ≤ 1000000 := by omega
   refine SG.region ?_
   refine RL.val (Wanted.free rfl) (V.move rfl rfl) rfl ?_
   refine RL.val (Wanted.free rfl) (V.bin rfl rfl rfl (B.remI (by omega) (by omega))) rfl ?_
   rw [show (k : Int) % 10 = ((k % 10 : Nat) : Int) from by omega]
   refine RL.val (Wanted.free rfl) (V.assign rfl rfl) rfl ?_
   refine RL.nil ?_
   refine SG.seq ?_
   refine SG.seq ?_
   refine SG.region ?_
   refine RL.val (Wanted.free rfl) (V.move rfl rfl) rfl ?_
   refine RL.cmpF (Wanted.free rfl) (V.bin rfl rfl rfl B.lss) rfl (by omega) ?_
   refine RL.nil ?_
   refine SG.cond_false rfl ?_
   refine SG.skip ?_
   refine SG.region ?_
   refine RL.val (Wanted.free rfl) (V.move rfl rfl) rfl ?_
   refine RL.val (Wanted.free rfl) (V.move rfl rfl) rfl ?_
   refine RL.val (Wanted.free rfl) (V.move rfl rfl) rfl ?_
   refine RL.val (Wanted.free rfl) (V.bin rfl rfl rfl (B.addI (by omega) (by omega))) rfl ?_
   refine RL.val (Wanted.free rfl) (V.sliceS (lo := (k % 10)) (hi := (k % 10 + 1)) rfl us9 rfl ⟨_, _, rfl, (by first | rfl | omega)⟩ ⟨_, _, rfl, (by first | rfl | omega)⟩ (by omega) (by simp [digs]; omega)) rfl ?_
   refine RL.val (Wanted.free rfl) (V.move rfl rfl) rfl ?_
   refine RL.val (Wanted.free rfl) (V.bin rfl rfl rfl (B.addS (by rw [digs_len]; omega))) rfl ?_
   refine RL.val (Wanted.free rfl) (V.assign rfl rfl) rfl ?_
   refine RL.nil ?_
   refine SG.inBlock ?_
   refine SG.region ?_
   refine RL.val (Wanted.free rfl) (V.move rfl rfl) rfl ?_
   refine RL.val (Wanted.free rfl) (V.bin rfl rfl rfl (B.quoI (by omega) (by omega) (by omega))) rfl ?_
   refine RL.val (Wanted.free rfl) (V.assign rfl rfl) rfl ?_
   refine RL.nil ?_
   refine SG.weaken (ih0 (k / 10 + 1) _ _ ?_ ⟨k / 10, _ ++ s, ?_, rfl, (by rw [← hd, decGo_step hk0]), rfl, rfl⟩) ?_ ?_
   ·
    omega
   ·
    rw [List.length_append, hdl]; omega
   ·
    repeat (first | exact EnvLe.nil _ | refine EnvLe.cons (by first | rfl | (congr 2; omega)) ?_)
   ·
    exact entX
  ·
   refine RL.nil ?_
   refine SG.cond_false rfl ?_
   refine SG.exit rfl ?_
   refine SG.seq ?_
   refine SG.seq ?_
   obtain rfl : k = 0 := by omega
   rw [decGo_zero] at hd
   refine SG.region ?_
   refine RL.val (Wanted.free rfl) (V.move rfl rfl) rfl ?_
   refine RL.cmpF (Wanted.free rfl) (V.bin rfl rfl rfl B.lss) rfl (by omega) ?_
   refine RL.nil ?_
   refine SG.cond_false rfl ?_
   refine SG.skip ?_
   refine SG.seq ?_
   refine SG.region ?_
   refine RL.val (Wanted.free rfl) (V.move rfl rfl) rfl ?_
   refine RL.val (Wanted.free rfl) (V.assign rfl rfl) rfl ?_
   refine RL.nil ?_
   refine SG.retE (Ret.r1 Try.func84 rfl (.tmp rfl)) ?_ ⟨by rw [decV, if_neg (by omega), ← hd], rfl⟩
   exact entX

set_option maxRecDepth 100000 in
theorem size_ok {κ : World} {L : List Assn} {n : Int} (hn : inInt n) :
    Ctr Try.prog 54 #[vI n] κ L (fun v M => v = vI (sizeN n : Int) ∧ M = L) := by
 refine Ctr.enter (vs := [vI n]) (m := 8) Try.func54 rfl rfl rfl ?_
 obtain ⟨q, hq, hq8, hs, h1, h5⟩ := sizeN_ok n
 refine SG.seq ?_
 refine SG.region ?_
 refine RL.val (Wanted.free rfl) (V.assign rfl rfl) rfl ?_
 refine RL.nil ?_
 refine SG.seq ?_
 refine SG.region ?_
 refine RL.eff (Wanted.free rfl) (E.litN (xs := [.const (.int .i64 (3)), .const (.int .i64 (1)), .const (.int .i64 (2)), .const (.int .i64 (3)), .const (.int .i64 (4)), .const (.int .i64 (5)), .const (.int .i64 (3)), .const (.int .i64 (5))]) rfl rfl rfl el22.slice ze3 rfl (by decide) (by decide) rfl (by simp [Value.cells])) rfl ?_
 rintro _ _ ⟨b3, rfl, rfl⟩
 refine RL.ent (Buf.of_els (T := RI) (b := b3) (e := 3) (m := 8) (l := sizes) Pick.here rfl rfl (by decide) (fun _ _ _ => rows_sc.2 ⟨rfl, fun w hw => (by have : ∀ w ∈ sizes, 0 ≤ w ∧ w ≤ 100 := (by decide); have := this w hw; unfold inInt; omega)⟩)) ?_
 refine RL.publish (T := RI) (a := some ⟨b3, 0, none⟩) Pick.here ?_
 refine RL.val (Wanted.free rfl) (V.move rfl rfl) rfl ?_
 refine RL.eff (Wanted.free rfl) (E.call rfl go29 rfl (around_ok _ _ hn.1 hn.2 (by omega))) rfl ?_
 rintro _ _ ⟨rfl, rfl⟩
 rw [hq]
 refine RL.val (Wanted.free rfl) (V.indexSl (j := q) rfl el22.slice rfl rfl memX (by first | rfl | omega) (by show q < 8; omega)) rfl ?_
 refine RL.val (Wanted.free rfl) (V.loadSc (y := (sizeN n : Int)) (j := q) rfl on3 rfl memX hs) rfl ?_
 refine RL.val (Wanted.free rfl) (V.assign rfl rfl) rfl ?_
 refine RL.nil ?_
 refine SG.retE (Ret.r1 Try.func54 rfl (.tmp rfl)) ?_ ⟨rfl, rfl⟩
 exact entX

set_option maxRecDepth 100000 in
set_option maxHeartbeats 1000000 in
theorem cluster_ok {κ : World} {L : List Assn} {N : Nat} (h1 : 1 ≤ N) (h5 : N ≤ 5) :
    Ctr Try.prog 53 #[vI N] κ L (fun v M => ∃ cs', v = .tuple #[.agg cs'.toArray, vB true] ∧ M = Rd RClu cs' (clu0 N) :: L) := by
 refine Ctr.enter (vs := [vI N]) (m := 42) Try.func53 rfl rfl rfl ?_
 refine SG.ent (Buf.nil (T := RPeer) (e := 26)) ?_
 refine SG.seq ?_
 refine SG.region ?_
 refine RL.eff (Wanted.free rfl) (E.alloc rfl ze37) rfl ?_
 rintro _ _ ⟨b2, rfl, rfl⟩
 refine RL.val (Wanted.free rfl) (V.assign rfl rfl) rfl ?_
 refine RL.nil ?_
 refine SG.seq ?_
 refine SG.region ?_
 refine RL.val (Wanted.free rfl) (V.buildS [] rfl bs37 (by exact trivial) rfl) rfl ?_
 refine RL.eff (Wanted.free rfl) (E.alloc rfl ze37) rfl ?_
 rintro _ _ ⟨b4, rfl, rfl⟩
 refine RL.eff (Wanted.free rfl) (E.storeWhole rfl rfl rfl (by rfl) sz37 pickX (by first | (simp [Value.oneCell']; done) | (simp [setAt, Value.oneCell']; done)) (by rfl)) rfl ?_
 rintro _ _ rfl
 refine RL.nil ?_
 refine SG.seq ?_
 refine SG.seq ?_
 refine SG.region ?_
 refine RL.val (Wanted.free rfl) (V.assign rfl rfl) rfl ?_
 refine RL.nil ?_
 refine SG.block ?_
 refine SG.weaken (SG.loop2 (fun m al M => ∃ (i : Nat) (a : Option Addr) (c : Nat), i ≤ N ∧ m = N - i ∧ al = [(0, vI N), (2, ptr b2 0), (3, vB false), (4, ptr b4 0), (5, vI i)] ∧ M = Blk b4 37 [.slice a i c, .slice none 0 0] :: Buf RPeer 26 a i c ((List.range i).map fun i : Nat => newP i N) :: Blk b2 37 [.slice none 0 0, .slice none 0 0] :: L) (m0 := _) ⟨0, none, 0, by omega, rfl, rfl, rfl⟩ ?_) ?_ ?_
 rotate_left
 ·
  repeat (first | exact EnvLe.nil _ | refine EnvLe.cons rfl ?_)
 ·
  exact entX
 rintro _ _ _ ⟨i, a, c, hi, rfl, rfl, rfl⟩ ih0
 refine SG.seq ?_
 refine SG.seq ?_
 refine SG.region ?_
 refine RL.val (Wanted.free rfl) (V.move rfl rfl) rfl ?_
 refine RL.val (Wanted.free rfl) (V.move rfl rfl) rfl ?_
 refine RL.cmp (Wanted.free rfl) (V.bin rfl rfl rfl B.lss) rfl (fun h9 => ?_) (fun h9 => ?_)
 ·
  refine RL.nil ?_
  refine SG.cond_true rfl ?_
  refine SG.skip ?_
  refine SG.seq ?_
  refine SG.block ?_
  refine SG.seq ?_
  refine SG.region ?_
  refine RL.val (Wanted.free rfl) (V.move rfl rfl) rfl ?_
  refine RL.val (Wanted.free rfl) (V.move rfl rfl) rfl ?_
  refine RL.eff (Wanted.free rfl) (E.call rfl go12 rfl (pNew_ok)) rfl ?_
  rintro _ _ ⟨rfl, rfl⟩
  rw [show newV i N = (newP i N, 0) from if_neg (by omega)]
  refine RL.ent (RPeer.nil (p := newP i N) rfl rfl rfl) ?_
  refine RL.val (Wanted.free rfl) (V.move rfl rfl) rfl ?_
  refine RL.val (Wanted.free rfl) (V.extract rfl rfl rfl) rfl ?_
  refine RL.val (Wanted.free rfl) (V.extract rfl rfl rfl) rfl ?_
  refine RL.eff (Wanted.free rfl) (E.alloc rfl ze26) rfl ?_
  rintro _ _ ⟨b6, rfl, rfl⟩
  refine RL.eff (Wanted.free rfl) (E.storeWhole rfl rfl rfl (by rfl) sz26 pickX pv_one (by rfl)) rfl ?_
  rintro _ _ rfl
  refine RL.val (Wanted.free rfl) (V.assign rfl rfl) rfl ?_
  refine RL.nil ?_
  refine SG.seq ?_
  refine SG.seq ?_
  refine SG.region ?_
  refine RL.val (Wanted.free rfl) (V.move rfl rfl) rfl ?_
  refine RL.cmpF (Wanted.free rfl) (V.bin rfl rfl rfl B.neq) rfl (by omega) ?_
  refine RL.val (Wanted.free rfl) (V.move rfl rfl) rfl ?_
  refine RL.val (Wanted.yes rfl rfl rfl rfl) (V.fieldAddr rfl rfl fo26_0) rfl ?_
  refine RL.val (Wanted.yes rfl rfl rfl rfl) (V.load rfl on3 rfl pickX rfl) rfl ?_
  refine RL.val (Wanted.yes rfl rfl rfl rfl) (V.move rfl rfl) rfl ?_
  refine RL.cmpF (Wanted.yes rfl rfl rfl rfl) (V.bin rfl rfl rfl B.neq) rfl (by show ¬ ((i : Int) ≠ i); omega) ?_
  refine RL.val (Wanted.free rfl) (V.pick_false rfl rfl rfl) rfl ?_
  refine RL.val (Wanted.free rfl) (V.move rfl rfl) rfl ?_
  refine RL.val (Wanted.yes rfl rfl rfl rfl) (V.fieldAddr rfl rfl fo26_1) rfl ?_
  refine RL.val (Wanted.yes rfl rfl rfl rfl) (V.load rfl on3 rfl pickX rfl) rfl ?_
  refine RL.val (Wanted.yes rfl rfl rfl rfl) (V.move rfl rfl) rfl ?_
  refine RL.cmpF (Wanted.yes rfl rfl rfl rfl) (V.bin rfl rfl rfl B.neq) rfl (by show ¬ ((N : Int) ≠ N); omega) ?_
  refine RL.val (Wanted.free rfl) (V.pick_false rfl rfl rfl) rfl ?_
  refine RL.nil ?_
  refine SG.cond_false rfl ?_
  refine SG.skip ?_
  refine SG.region ?_
  refine RL.val (Wanted.free rfl) (V.fieldAddr rfl rfl fo37_0) rfl ?_
  refine RL.val (Wanted.free rfl) (V.load rfl on34 rfl pickX rfl) rfl ?_
  refine RL.val (Wanted.free rfl) (V.loadAgg (us := pv (newP i N) (.slice none 0 0) (.slice none 0 0) (.slice none 0 0)) rfl ag26 rfl pickX rfl rfl) rfl ?_
  refine RL.eff (Wanted.free rfl) (E.lit1 (pv (newP i N) (.slice none 0 0) (.slice none 0 0) (.slice none 0 0)) rfl el34.slice ze26 rfl (by decide) (by decide) rfl rfl rfl) rfl ?_
  rintro _ _ ⟨b38, rfl, rfl⟩
  refine RL.eff (Wanted.free rfl) (E.append (T := RPeer) rfl rfl rfl el34 el34.noInt rfl rfl pickX (Src.litRd (T := RPeer) (y := newP i N) pickX memX) (by first | omega | (simp; omega)) (by first | omega | (simp; omega))) rfl ?_
  intro _ _ hK32
  try rw [List.nil_append] at hK32
  try rw [Nat.zero_add] at hK32
  obtain ⟨a39, c39, rfl, rfl⟩ := hK32
  refine RL.val (Wanted.free rfl) (V.fieldAddr rfl rfl fo37_0) rfl ?_
  refine RL.eff (Wanted.free rfl) (E.store1 rfl rfl rfl rfl rfl sz34 pickX rfl) rfl ?_
  rintro _ _ rfl
  refine RL.nil ?_
  refine SG.inBlock ?_
  refine SG.region ?_
  refine RL.val (Wanted.free rfl) (V.move rfl rfl) rfl ?_
  refine RL.val (Wanted.free rfl) (V.bin rfl rfl rfl (B.addI (by omega) (by omega))) rfl ?_
  refine RL.val (Wanted.free rfl) (V.assign rfl rfl) rfl ?_
  refine RL.nil ?_
  refine SG.weaken (ih0 _ _ _ ?_ ⟨i + 1, a39, c39, by omega, rfl, rfl, rfl⟩) ?_ ?_
  ·
   omega
  ·
   repeat (first | exact EnvLe.nil _ | refine EnvLe.cons rfl ?_)
  ·
   rw [List.range_succ, List.map_append]
   exact entX
 ·
  refine RL.nil ?_
  refine SG.cond_false rfl ?_
  refine SG.exit rfl ?_
  refine SG.seq ?_
  obtain rfl : i = N := by omega
  refine SG.publish (T := RPeer) (a := a) pickX ?_
  refine SG.ent (Sl.nil (T := RMsg)) ?_
  refine SG.ent (RClu.mk (c := clu0 i) (na := a) (nn := i) (nc := c) (sa := none) (sn := 0) (sc := 0) memX memX) ?_
  refine SG.region ?_
  refine RL.val (Wanted.free rfl) (V.loadAgg (us := _) rfl ag37 rfl pickX rfl rfl) rfl ?_
  refine RL.eff (Wanted.free rfl) (E.storeWhole rfl rfl rfl (by rfl) sz37 pickX (by first | (simp [Value.oneCell']; done) | (simp [setAt, Value.oneCell']; done)) (by rfl)) rfl ?_
  rintro _ _ rfl
  refine RL.val (Wanted.free rfl) (V.assign rfl rfl) rfl ?_
  refine RL.nil ?_
  refine SG.retE (Ret.r2 Try.func53 rfl (.agg rfl ag37 pickX rfl rfl) (.tmp rfl)) ?_ ⟨[.slice a i c, .slice none 0 0], rfl, rfl⟩
  exact entX

end Go.Proofs.Ytilcnglcflohoaa
