/- Check, Next, what compares. -/
import Derived.Test.YteopejoppdgncaaDoorFacts
import Derived.Test.YteopejoppdgncaaDoorKernB
import Derived.Test.YteopejoppdgncaaDoorLPlain
namespace Go.Proofs.YteopejoppdgncaaDoor
open Go.Wk Go.Lb

/-- n modulo most, never negative. -/
def aroundV (n most : Int) : Int := (if n < 0 then -(n + 1) else n) % most
theorem aroundV_bd {n most : Int} (h : 0 < most) : 0 ≤ aroundV n most ∧ aroundV n most < most := ⟨Int.emod_nonneg _ (by omega), Int.emod_lt_of_pos _ h⟩
theorem aroundV_nat {n most : Int} (h : 0 < most) : ∃ q : Nat, aroundV n most = (q : Int) ∧ (q : Int) < most := by
  obtain ⟨h1, h2⟩ := aroundV_bd (n := n) h
  exact ⟨(aroundV n most).toNat, by omega, by omega⟩
def labOf (n k : Int) : Lab := ⟨1 + aroundV n 16384, aroundV k 16385⟩
theorem labOf_ok (n k : Int) : okL (labOf n k) := by
  obtain ⟨a, b⟩ := aroundV_bd (n := n) (most := 16384) (by omega)
  obtain ⟨c, d⟩ := aroundV_bd (n := k) (most := 16385) (by omega)
  exact ⟨by show 1 ≤ 1 + _; omega, by show 1 + _ ≤ _; omega, c, by show aroundV k 16385 ≤ _; omega⟩
set_option maxRecDepth 100000 in
theorem around_ok {κ : World} {L : List Assn} (n most : Int) (h1 : -9223372036854775808 ≤ n) (h2 : n ≤ 9223372036854775807) (h3 : 0 < most) :
    Ctr Tryd.prog 25 #[vI n, vI most] κ L (fun v M => v = vI (aroundV n most) ∧ M = L) := by
 refine Ctr.enter (vs := [vI n, vI most]) (m := 13) Tryd.func25 rfl rfl rfl ?_
 refine SG.seq ?_
 refine SG.region ?_
 refine RL.val (Wanted.free rfl) (V.assign rfl rfl) rfl ?_
 refine RL.nil ?_
 refine SG.seq ?_
 refine SG.seq ?_
 refine SG.region ?_
 refine RL.val (Wanted.free rfl) (V.move rfl rfl) rfl ?_
 refine RL.cmp (Wanted.free rfl) (V.bin rfl rfl rfl B.lss) rfl (fun h3 => ?_) (fun h3 => ?_)
 ·
  refine RL.nil ?_
  refine SG.cond_true rfl ?_
  refine SG.region ?_
  refine RL.val (Wanted.free rfl) (V.move rfl rfl) rfl ?_
  refine RL.val (Wanted.free rfl) (V.bin rfl rfl rfl (B.addI (by omega) (by omega))) rfl ?_
  refine RL.val (Wanted.free rfl) (V.negI rfl rfl (by omega) (by omega)) rfl ?_
  refine RL.val (Wanted.free rfl) (V.assign rfl rfl) rfl ?_
  refine RL.nil ?_
  refine SG.seq ?_
  refine SG.region ?_
  refine RL.val (Wanted.free rfl) (V.move rfl rfl) rfl ?_
  refine RL.val (Wanted.free rfl) (V.move rfl rfl) rfl ?_
  refine RL.val (Wanted.free rfl) (V.bin rfl rfl rfl (B.remI (by omega) (by omega))) rfl ?_
  refine RL.val (Wanted.free rfl) (V.assign rfl rfl) rfl ?_
  refine RL.nil ?_
  refine SG.retE (Ret.r1 Tryd.func25 rfl (.tmp rfl)) ?_ ⟨by simp [aroundV, *], rfl⟩
  exact entX
 ·
  refine RL.nil ?_
  refine SG.cond_false rfl ?_
  refine SG.skip ?_
  refine SG.seq ?_
  refine SG.region ?_
  refine RL.val (Wanted.free rfl) (V.move rfl rfl) rfl ?_
  refine RL.val (Wanted.free rfl) (V.move rfl rfl) rfl ?_
  refine RL.val (Wanted.free rfl) (V.bin rfl rfl rfl (B.remI (by omega) (by omega))) rfl ?_
  refine RL.val (Wanted.free rfl) (V.assign rfl rfl) rfl ?_
  refine RL.nil ?_
  refine SG.retE (Ret.r1 Tryd.func25 rfl (.tmp rfl)) ?_ ⟨by simp [aroundV, *], rfl⟩
  exact entX

set_option maxRecDepth 100000 in
theorem short_ok {κ : World} {L : List Assn} {s : List UInt8} {k : Int} (hk : 0 ≤ k) :
    Ctr Tryd.prog 19 #[vS s, vI k] κ L (fun v M => v = vS (s.take k.toNat) ∧ M = L) := by
 refine Ctr.enter (vs := [vS s, vI k]) (m := 11) Tryd.func19 rfl rfl rfl ?_
 obtain ⟨k, rfl⟩ := Int.eq_ofNat_of_zero_le hk
 have e : (s.drop 0).take (min s.length k - 0) = s.take k := by rw [List.drop_zero, Nat.sub_zero, List.take_eq_take_iff]; omega
 refine SG.seq ?_
 refine SG.region ?_
 refine RL.val (Wanted.free rfl) (V.assign rfl rfl) rfl ?_
 refine RL.nil ?_
 refine SG.seq ?_
 refine SG.region ?_
 refine RL.val (Wanted.free rfl) (V.move rfl rfl) rfl ?_
 refine RL.val (Wanted.free rfl) (V.move rfl rfl) rfl ?_
 refine RL.val (Wanted.free rfl) (V.lenS rfl rfl us9 rfl) rfl ?_
 refine RL.val (Wanted.free rfl) (V.move rfl rfl) rfl ?_
 refine RL.val (Wanted.free rfl) (V.min rfl rfl rfl rfl) rfl ?_
 refine RL.val (Wanted.free rfl) (V.sliceS (lo := 0) (hi := min s.length k) rfl us9 rfl rfl ⟨_, _, rfl, (by first | rfl | omega)⟩ (by omega) (by omega)) rfl ?_
 rw [e]
 refine RL.val (Wanted.free rfl) (V.assign rfl rfl) rfl ?_
 refine RL.nil ?_
 refine SG.retE (Ret.r1 Tryd.func19 rfl (.tmp rfl)) ?_ ⟨rfl, rfl⟩
 exact entX

set_option maxRecDepth 100000 in
theorem label_ok {κ : World} {L : List Assn} {n k : Int} (hn : inInt n) (hk : inInt k) :
    Ctr Tryd.prog 24 #[vI n, vI k] κ L (fun v M => v = (.agg ([vI (labOf n k).num, vI (labOf n k).suf] : List Value).toArray) ∧ M = L) := by
 refine Ctr.enter (vs := [vI n, vI k]) (m := 11) Tryd.func24 rfl rfl rfl ?_
 refine SG.seq ?_
 refine SG.region ?_
 refine RL.eff (Wanted.free rfl) (E.alloc rfl ze23) rfl ?_
 rintro _ _ ⟨b4, rfl, rfl⟩
 refine RL.nil ?_
 refine SG.seq ?_
 obtain ⟨g1, g2⟩ := aroundV_bd (n := n) (most := 16384) (by omega)
 refine SG.region ?_
 refine RL.val (Wanted.free rfl) (V.move rfl rfl) rfl ?_
 refine RL.eff (Wanted.free rfl) (E.call rfl go25 rfl (around_ok _ _ hn.1 hn.2 (by omega))) rfl ?_
 rintro _ _ ⟨rfl, rfl⟩
 refine RL.val (Wanted.free rfl) (V.bin rfl rfl rfl (B.addI (by omega) (by omega))) rfl ?_
 refine RL.val (Wanted.free rfl) (V.move rfl rfl) rfl ?_
 refine RL.eff (Wanted.free rfl) (E.call rfl go25 rfl (around_ok _ _ hk.1 hk.2 (by omega))) rfl ?_
 rintro _ _ ⟨rfl, rfl⟩
 refine RL.val (Wanted.free rfl) (V.buildS [(0, _), (1, _)] rfl bs23 (by exact ⟨rfl, ⟨_, rfl, rfl⟩, ⟨rfl, ⟨_, rfl, rfl⟩, trivial⟩⟩) rfl) rfl ?_
 refine RL.eff (Wanted.free rfl) (E.storeWhole rfl rfl rfl (by rfl) sz23 pickX (by first | (simp [Value.oneCell']; done) | (simp [setAt, Value.oneCell']; done)) (by rfl)) rfl ?_
 rintro _ _ rfl
 refine RL.nil ?_
 refine SG.retE (Ret.r1 Tryd.func24 rfl (.agg rfl ag23 pickX rfl rfl)) ?_ ⟨rfl, rfl⟩
 exact entX

set_option maxRecDepth 100000 in
theorem lCheck_ok {κ : World} {L : List Assn} {l : Lab} :
    Ctr Tryd.prog 14 #[(.agg ([vI l.num, vI l.suf] : List Value).toArray)] κ L (fun v M => v = vI (checkV l) ∧ M = L) := by
 refine Ctr.enter (vs := [(.agg ([vI l.num, vI l.suf] : List Value).toArray)]) (m := 21) Tryd.func14 rfl rfl rfl ?_
 refine SG.seq ?_
 refine SG.region ?_
 refine RL.eff (Wanted.free rfl) (E.box _ rfl rfl rfl) rfl ?_
 rintro _ _ ⟨b1, rfl, rfl⟩
 refine RL.val (Wanted.free rfl) (V.assign rfl rfl) rfl ?_
 refine RL.nil ?_
 refine SG.seq ?_
 refine SG.seq ?_
 refine SG.region ?_
 refine RL.val (Wanted.free rfl) (V.fieldAddr rfl rfl fo23_0) rfl ?_
 refine RL.val (Wanted.free rfl) (V.load rfl on3 rfl pickX rfl) rfl ?_
 refine RL.cmp (Wanted.free rfl) (V.bin rfl rfl rfl B.lss) rfl (fun h5 => ?_) (fun h5 => ?_)
 ·
  refine RL.val (Wanted.free rfl) (V.move rfl rfl) rfl ?_
  refine RL.skip (Wanted.no rfl rfl rfl rfl rfl) rfl ?_
  refine RL.skip (Wanted.no rfl rfl rfl rfl rfl) rfl ?_
  refine RL.skip (Wanted.no rfl rfl rfl rfl rfl) rfl ?_
  refine RL.val (Wanted.free rfl) (V.pick_true rfl rfl rfl) rfl ?_
  refine RL.val (Wanted.free rfl) (V.move rfl rfl) rfl ?_
  refine RL.skip (Wanted.no rfl rfl rfl rfl rfl) rfl ?_
  refine RL.skip (Wanted.no rfl rfl rfl rfl rfl) rfl ?_
  refine RL.skip (Wanted.no rfl rfl rfl rfl rfl) rfl ?_
  refine RL.val (Wanted.free rfl) (V.pick_true rfl rfl rfl) rfl ?_
  refine RL.val (Wanted.free rfl) (V.move rfl rfl) rfl ?_
  refine RL.skip (Wanted.no rfl rfl rfl rfl rfl) rfl ?_
  refine RL.skip (Wanted.no rfl rfl rfl rfl rfl) rfl ?_
  refine RL.skip (Wanted.no rfl rfl rfl rfl rfl) rfl ?_
  refine RL.val (Wanted.free rfl) (V.pick_true rfl rfl rfl) rfl ?_
  refine RL.nil ?_
  refine SG.cond_true rfl ?_
  refine SG.seq ?_
  refine SG.region ?_
  refine RL.val (Wanted.free rfl) (V.assign rfl rfl) rfl ?_
  refine RL.nil ?_
  refine SG.retE (Ret.r1 Tryd.func14 rfl (.tmp rfl)) ?_ ⟨by first | rw [check_no (by unfold okL; omega)] | rw [check_yes (by unfold okL; omega)], rfl⟩
  exact entX
 ·
  refine RL.val (Wanted.free rfl) (V.move rfl rfl) rfl ?_
  refine RL.val (Wanted.yes rfl rfl rfl rfl) (V.fieldAddr rfl rfl fo23_0) rfl ?_
  refine RL.val (Wanted.yes rfl rfl rfl rfl) (V.load rfl on3 rfl pickX rfl) rfl ?_
  refine RL.cmp (Wanted.yes rfl rfl rfl rfl) (V.bin rfl rfl rfl B.gtr) rfl (fun h13 => ?_) (fun h13 => ?_)
  ·
   refine RL.val (Wanted.free rfl) (V.pick_false rfl rfl rfl) rfl ?_
   refine RL.val (Wanted.free rfl) (V.move rfl rfl) rfl ?_
   refine RL.skip (Wanted.no rfl rfl rfl rfl rfl) rfl ?_
   refine RL.skip (Wanted.no rfl rfl rfl rfl rfl) rfl ?_
   refine RL.skip (Wanted.no rfl rfl rfl rfl rfl) rfl ?_
   refine RL.val (Wanted.free rfl) (V.pick_true rfl rfl rfl) rfl ?_
   refine RL.val (Wanted.free rfl) (V.move rfl rfl) rfl ?_
   refine RL.skip (Wanted.no rfl rfl rfl rfl rfl) rfl ?_
   refine RL.skip (Wanted.no rfl rfl rfl rfl rfl) rfl ?_
   refine RL.skip (Wanted.no rfl rfl rfl rfl rfl) rfl ?_
   refine RL.val (Wanted.free rfl) (V.pick_true rfl rfl rfl) rfl ?_
   refine RL.nil ?_
   refine SG.cond_true rfl ?_
   refine SG.seq ?_
   refine SG.region ?_
   refine RL.val (Wanted.free rfl) (V.assign rfl rfl) rfl ?_
   refine RL.nil ?_
   refine SG.retE (Ret.r1 Tryd.func14 rfl (.tmp rfl)) ?_ ⟨by first | rw [check_no (by unfold okL; omega)] | rw [check_yes (by unfold okL; omega)], rfl⟩
   exact entX
  ·
   refine RL.val (Wanted.free rfl) (V.pick_false rfl rfl rfl) rfl ?_
   refine RL.val (Wanted.free rfl) (V.move rfl rfl) rfl ?_
   refine RL.val (Wanted.yes rfl rfl rfl rfl) (V.fieldAddr rfl rfl fo23_1) rfl ?_
   refine RL.val (Wanted.yes rfl rfl rfl rfl) (V.load rfl on3 rfl pickX rfl) rfl ?_
   refine RL.cmp (Wanted.yes rfl rfl rfl rfl) (V.bin rfl rfl rfl B.lss) rfl (fun h20 => ?_) (fun h20 => ?_)
   ·
    refine RL.val (Wanted.free rfl) (V.pick_false rfl rfl rfl) rfl ?_
    refine RL.val (Wanted.free rfl) (V.move rfl rfl) rfl ?_
    refine RL.skip (Wanted.no rfl rfl rfl rfl rfl) rfl ?_
    refine RL.skip (Wanted.no rfl rfl rfl rfl rfl) rfl ?_
    refine RL.skip (Wanted.no rfl rfl rfl rfl rfl) rfl ?_
    refine RL.val (Wanted.free rfl) (V.pick_true rfl rfl rfl) rfl ?_
    refine RL.nil ?_
    refine SG.cond_true rfl ?_
    refine SG.seq ?_
    refine SG.region ?_
    refine RL.val (Wanted.free rfl) (V.assign rfl rfl) rfl ?_
    refine RL.nil ?_
    refine SG.retE (Ret.r1 Tryd.func14 rfl (.tmp rfl)) ?_ ⟨by first | rw [check_no (by unfold okL; omega)] | rw [check_yes (by unfold okL; omega)], rfl⟩
    exact entX
   ·
    refine RL.val (Wanted.free rfl) (V.pick_false rfl rfl rfl) rfl ?_
    refine RL.val (Wanted.free rfl) (V.move rfl rfl) rfl ?_
    refine RL.val (Wanted.yes rfl rfl rfl rfl) (V.fieldAddr rfl rfl fo23_1) rfl ?_
    refine RL.val (Wanted.yes rfl rfl rfl rfl) (V.load rfl on3 rfl pickX rfl) rfl ?_
    refine RL.cmp (Wanted.yes rfl rfl rfl rfl) (V.bin rfl rfl rfl B.gtr) rfl (fun h26 => ?_) (fun h26 => ?_)
    ·
     refine RL.val (Wanted.free rfl) (V.pick_false rfl rfl rfl) rfl ?_
     refine RL.nil ?_
     refine SG.cond_true rfl ?_
     refine SG.seq ?_
     refine SG.region ?_
     refine RL.val (Wanted.free rfl) (V.assign rfl rfl) rfl ?_
     refine RL.nil ?_
     refine SG.retE (Ret.r1 Tryd.func14 rfl (.tmp rfl)) ?_ ⟨by first | rw [check_no (by unfold okL; omega)] | rw [check_yes (by unfold okL; omega)], rfl⟩
     exact entX
    ·
     refine RL.val (Wanted.free rfl) (V.pick_false rfl rfl rfl) rfl ?_
     refine RL.nil ?_
     refine SG.cond_false rfl ?_
     refine SG.skip ?_
     refine SG.seq ?_
     refine SG.region ?_
     refine RL.val (Wanted.free rfl) (V.assign rfl rfl) rfl ?_
     refine RL.nil ?_
     refine SG.retE (Ret.r1 Tryd.func14 rfl (.tmp rfl)) ?_ ⟨by first | rw [check_no (by unfold okL; omega)] | rw [check_yes (by unfold okL; omega)], rfl⟩
     exact entX

set_option maxRecDepth 100000 in
theorem rCheck_ok {κ : World} {L : List Assn} {l : Lab} :
    Ctr Tryd.prog 15 #[(.agg ([vI l.num, vI l.suf] : List Value).toArray)] κ L (fun v M => v = vI (checkV l) ∧ M = L) := by
 refine Ctr.enter (vs := [(.agg ([vI l.num, vI l.suf] : List Value).toArray)]) (m := 21) Tryd.func15 rfl rfl rfl ?_
 refine SG.seq ?_
 refine SG.region ?_
 refine RL.eff (Wanted.free rfl) (E.box _ rfl rfl rfl) rfl ?_
 rintro _ _ ⟨b1, rfl, rfl⟩
 refine RL.val (Wanted.free rfl) (V.assign rfl rfl) rfl ?_
 refine RL.nil ?_
 refine SG.seq ?_
 refine SG.seq ?_
 refine SG.region ?_
 refine RL.val (Wanted.free rfl) (V.fieldAddr rfl rfl fo23_0) rfl ?_
 refine RL.val (Wanted.free rfl) (V.load rfl on3 rfl pickX rfl) rfl ?_
 refine RL.cmp (Wanted.free rfl) (V.bin rfl rfl rfl B.lss) rfl (fun h5 => ?_) (fun h5 => ?_)
 ·
  refine RL.val (Wanted.free rfl) (V.move rfl rfl) rfl ?_
  refine RL.skip (Wanted.no rfl rfl rfl rfl rfl) rfl ?_
  refine RL.skip (Wanted.no rfl rfl rfl rfl rfl) rfl ?_
  refine RL.skip (Wanted.no rfl rfl rfl rfl rfl) rfl ?_
  refine RL.val (Wanted.free rfl) (V.pick_true rfl rfl rfl) rfl ?_
  refine RL.val (Wanted.free rfl) (V.move rfl rfl) rfl ?_
  refine RL.skip (Wanted.no rfl rfl rfl rfl rfl) rfl ?_
  refine RL.skip (Wanted.no rfl rfl rfl rfl rfl) rfl ?_
  refine RL.skip (Wanted.no rfl rfl rfl rfl rfl) rfl ?_
  refine RL.val (Wanted.free rfl) (V.pick_true rfl rfl rfl) rfl ?_
  refine RL.val (Wanted.free rfl) (V.move rfl rfl) rfl ?_
  refine RL.skip (Wanted.no rfl rfl rfl rfl rfl) rfl ?_
  refine RL.skip (Wanted.no rfl rfl rfl rfl rfl) rfl ?_
  refine RL.skip (Wanted.no rfl rfl rfl rfl rfl) rfl ?_
  refine RL.val (Wanted.free rfl) (V.pick_true rfl rfl rfl) rfl ?_
  refine RL.nil ?_
  refine SG.cond_true rfl ?_
  refine SG.seq ?_
  refine SG.region ?_
  refine RL.val (Wanted.free rfl) (V.assign rfl rfl) rfl ?_
  refine RL.nil ?_
  refine SG.retE (Ret.r1 Tryd.func15 rfl (.tmp rfl)) ?_ ⟨by first | rw [check_no (by unfold okL; omega)] | rw [check_yes (by unfold okL; omega)], rfl⟩
  exact entX
 ·
  refine RL.val (Wanted.free rfl) (V.move rfl rfl) rfl ?_
  refine RL.val (Wanted.yes rfl rfl rfl rfl) (V.fieldAddr rfl rfl fo23_0) rfl ?_
  refine RL.val (Wanted.yes rfl rfl rfl rfl) (V.load rfl on3 rfl pickX rfl) rfl ?_
  refine RL.cmp (Wanted.yes rfl rfl rfl rfl) (V.bin rfl rfl rfl B.gtr) rfl (fun h13 => ?_) (fun h13 => ?_)
  ·
   refine RL.val (Wanted.free rfl) (V.pick_false rfl rfl rfl) rfl ?_
   refine RL.val (Wanted.free rfl) (V.move rfl rfl) rfl ?_
   refine RL.skip (Wanted.no rfl rfl rfl rfl rfl) rfl ?_
   refine RL.skip (Wanted.no rfl rfl rfl rfl rfl) rfl ?_
   refine RL.skip (Wanted.no rfl rfl rfl rfl rfl) rfl ?_
   refine RL.val (Wanted.free rfl) (V.pick_true rfl rfl rfl) rfl ?_
   refine RL.val (Wanted.free rfl) (V.move rfl rfl) rfl ?_
   refine RL.skip (Wanted.no rfl rfl rfl rfl rfl) rfl ?_
   refine RL.skip (Wanted.no rfl rfl rfl rfl rfl) rfl ?_
   refine RL.skip (Wanted.no rfl rfl rfl rfl rfl) rfl ?_
   refine RL.val (Wanted.free rfl) (V.pick_true rfl rfl rfl) rfl ?_
   refine RL.nil ?_
   refine SG.cond_true rfl ?_
   refine SG.seq ?_
   refine SG.region ?_
   refine RL.val (Wanted.free rfl) (V.assign rfl rfl) rfl ?_
   refine RL.nil ?_
   refine SG.retE (Ret.r1 Tryd.func15 rfl (.tmp rfl)) ?_ ⟨by first | rw [check_no (by unfold okL; omega)] | rw [check_yes (by unfold okL; omega)], rfl⟩
   exact entX
  ·
   refine RL.val (Wanted.free rfl) (V.pick_false rfl rfl rfl) rfl ?_
   refine RL.val (Wanted.free rfl) (V.move rfl rfl) rfl ?_
   refine RL.val (Wanted.yes rfl rfl rfl rfl) (V.fieldAddr rfl rfl fo23_1) rfl ?_
   refine RL.val (Wanted.yes rfl rfl rfl rfl) (V.load rfl on3 rfl pickX rfl) rfl ?_
   refine RL.cmp (Wanted.yes rfl rfl rfl rfl) (V.bin rfl rfl rfl B.lss) rfl (fun h20 => ?_) (fun h20 => ?_)
   ·
    refine RL.val (Wanted.free rfl) (V.pick_false rfl rfl rfl) rfl ?_
    refine RL.val (Wanted.free rfl) (V.move rfl rfl) rfl ?_
    refine RL.skip (Wanted.no rfl rfl rfl rfl rfl) rfl ?_
    refine RL.skip (Wanted.no rfl rfl rfl rfl rfl) rfl ?_
    refine RL.skip (Wanted.no rfl rfl rfl rfl rfl) rfl ?_
    refine RL.val (Wanted.free rfl) (V.pick_true rfl rfl rfl) rfl ?_
    refine RL.nil ?_
    refine SG.cond_true rfl ?_
    refine SG.seq ?_
    refine SG.region ?_
    refine RL.val (Wanted.free rfl) (V.assign rfl rfl) rfl ?_
    refine RL.nil ?_
    refine SG.retE (Ret.r1 Tryd.func15 rfl (.tmp rfl)) ?_ ⟨by first | rw [check_no (by unfold okL; omega)] | rw [check_yes (by unfold okL; omega)], rfl⟩
    exact entX
   ·
    refine RL.val (Wanted.free rfl) (V.pick_false rfl rfl rfl) rfl ?_
    refine RL.val (Wanted.free rfl) (V.move rfl rfl) rfl ?_
    refine RL.val (Wanted.yes rfl rfl rfl rfl) (V.fieldAddr rfl rfl fo23_1) rfl ?_
    refine RL.val (Wanted.yes rfl rfl rfl rfl) (V.load rfl on3 rfl pickX rfl) rfl ?_
    refine RL.cmp (Wanted.yes rfl rfl rfl rfl) (V.bin rfl rfl rfl B.gtr) rfl (fun h26 => ?_) (fun h26 => ?_)
    ·
     refine RL.val (Wanted.free rfl) (V.pick_false rfl rfl rfl) rfl ?_
     refine RL.nil ?_
     refine SG.cond_true rfl ?_
     refine SG.seq ?_
     refine SG.region ?_
     refine RL.val (Wanted.free rfl) (V.assign rfl rfl) rfl ?_
     refine RL.nil ?_
     refine SG.retE (Ret.r1 Tryd.func15 rfl (.tmp rfl)) ?_ ⟨by first | rw [check_no (by unfold okL; omega)] | rw [check_yes (by unfold okL; omega)], rfl⟩
     exact entX
    ·
     refine RL.val (Wanted.free rfl) (V.pick_false rfl rfl rfl) rfl ?_
     refine RL.nil ?_
     refine SG.cond_false rfl ?_
     refine SG.skip ?_
     refine SG.seq ?_
     refine SG.region ?_
     refine RL.val (Wanted.free rfl) (V.assign rfl rfl) rfl ?_
     refine RL.nil ?_
     refine SG.retE (Ret.r1 Tryd.func15 rfl (.tmp rfl)) ?_ ⟨by first | rw [check_no (by unfold okL; omega)] | rw [check_yes (by unfold okL; omega)], rfl⟩
     exact entX

set_option maxRecDepth 100000 in
theorem lNext_ok {κ : World} {L : List Assn} {l : Lab} :
    Ctr Tryd.prog 12 #[(.agg ([vI l.num, vI l.suf] : List Value).toArray)] κ L (fun v M => v = .tuple #[(.agg ([vI (nextV l).1.num, vI (nextV l).1.suf] : List Value).toArray), vI (nextV l).2] ∧ M = L) := by
 refine Ctr.enter (vs := [(.agg ([vI l.num, vI l.suf] : List Value).toArray)]) (m := 19) Tryd.func12 rfl rfl rfl ?_
 refine SG.seq ?_
 refine SG.region ?_
 refine RL.eff (Wanted.free rfl) (E.box _ rfl rfl rfl) rfl ?_
 rintro _ _ ⟨b1, rfl, rfl⟩
 refine RL.eff (Wanted.free rfl) (E.alloc rfl ze23) rfl ?_
 rintro _ _ ⟨b2, rfl, rfl⟩
 refine RL.val (Wanted.free rfl) (V.assign rfl rfl) rfl ?_
 refine RL.nil ?_
 refine SG.seq ?_
 refine SG.block ?_
 refine SG.seq ?_
 refine SG.region ?_
 refine RL.val (Wanted.free rfl) (V.loadAgg (us := [vI l.num, vI l.suf]) rfl ag23 rfl pickX rfl rfl) rfl ?_
 refine RL.eff (Wanted.free rfl) (E.call rfl go14 rfl (lCheck_ok (l := l))) rfl ?_
 rintro _ _ ⟨rfl, rfl⟩
 refine RL.cmp (Wanted.free rfl) (V.bin rfl rfl rfl B.neq) rfl (fun h6 => ?_) (fun h6 => ?_)
 ·
  have hno := check_bad_of h6
  refine RL.val (Wanted.free rfl) (V.assign rfl rfl) rfl ?_
  refine RL.nil ?_
  refine SG.cond_true rfl ?_
  refine SG.seq ?_
  refine SG.region ?_
  refine RL.val (Wanted.free rfl) (V.buildS [] rfl bs23 (by exact trivial) rfl) rfl ?_
  refine RL.eff (Wanted.free rfl) (E.storeWhole rfl rfl rfl (by rfl) sz23 pickX (by first | (simp [Value.oneCell']; done) | (simp [setAt, Value.oneCell']; done)) (by rfl)) rfl ?_
  rintro _ _ rfl
  refine RL.val (Wanted.free rfl) (V.assign rfl rfl) rfl ?_
  refine RL.nil ?_
  refine SG.retE (Ret.r2 Tryd.func12 rfl (.agg rfl ag23 pickX rfl rfl) (.tmp rfl)) ?_ ⟨by first | (rw [nextV, if_pos (by assumption)]; rfl) | (rw [nextV, if_neg (fun h => h hyes), if_pos (by omega)]; rfl) | (rw [nextV, if_neg (fun h => h hyes), if_neg (by omega)]; rfl), rfl⟩
  exact entX
 ·
  have hyes : okL l := check_ok_of (Decidable.byContradiction fun e => h6 e)
  refine RL.val (Wanted.free rfl) (V.assign rfl rfl) rfl ?_
  refine RL.nil ?_
  refine SG.cond_false rfl ?_
  refine SG.seq ?_
  refine SG.region ?_
  refine RL.val (Wanted.free rfl) (V.fieldAddr rfl rfl fo23_1) rfl ?_
  refine RL.val (Wanted.free rfl) (V.load rfl on3 rfl pickX rfl) rfl ?_
  refine RL.cmp (Wanted.free rfl) (V.bin rfl rfl rfl B.eql) rfl (fun h14 => ?_) (fun h14 => ?_)
  ·
   refine RL.val (Wanted.free rfl) (V.assign rfl rfl) rfl ?_
   refine RL.nil ?_
   refine SG.cond_true rfl ?_
   refine SG.seq ?_
   refine SG.region ?_
   refine RL.val (Wanted.free rfl) (V.buildS [] rfl bs23 (by exact trivial) rfl) rfl ?_
   refine RL.eff (Wanted.free rfl) (E.storeWhole rfl rfl rfl (by rfl) sz23 pickX (by first | (simp [Value.oneCell']; done) | (simp [setAt, Value.oneCell']; done)) (by rfl)) rfl ?_
   rintro _ _ rfl
   refine RL.val (Wanted.free rfl) (V.assign rfl rfl) rfl ?_
   refine RL.nil ?_
   refine SG.retE (Ret.r2 Tryd.func12 rfl (.agg rfl ag23 pickX rfl rfl) (.tmp rfl)) ?_ ⟨by first | (rw [nextV, if_pos (by assumption)]; rfl) | (rw [nextV, if_neg (fun h => h hyes), if_pos (by omega)]; rfl) | (rw [nextV, if_neg (fun h => h hyes), if_neg (by omega)]; rfl), rfl⟩
   exact entX
  ·
   refine RL.val (Wanted.free rfl) (V.assign rfl rfl) rfl ?_
   refine RL.nil ?_
   refine SG.cond_false rfl ?_
   refine SG.skip ?_
   refine SG.inBlock ?_
   refine SG.seq ?_
   have hy2 := hyes
   obtain ⟨y1, y2, y3, y4⟩ := hy2
   refine SG.region ?_
   refine RL.val (Wanted.free rfl) (V.fieldAddr rfl rfl fo23_1) rfl ?_
   refine RL.val (Wanted.free rfl) (V.load rfl on3 rfl pickX rfl) rfl ?_
   refine RL.val (Wanted.free rfl) (V.bin rfl rfl rfl (B.addI (by omega) (by omega))) rfl ?_
   refine RL.val (Wanted.free rfl) (V.fieldAddr rfl rfl fo23_1) rfl ?_
   refine RL.eff (Wanted.free rfl) (E.store1 rfl rfl rfl rfl rfl sz3 pickX rfl) rfl ?_
   rintro _ _ rfl
   refine RL.nil ?_
   refine SG.seq ?_
   refine SG.region ?_
   refine RL.val (Wanted.free rfl) (V.loadAgg (us := [vI l.num, vI (l.suf + 1)]) rfl ag23 rfl pickX rfl rfl) rfl ?_
   refine RL.eff (Wanted.free rfl) (E.storeWhole rfl rfl rfl (by rfl) sz23 pickX (by first | (simp [Value.oneCell']; done) | (simp [setAt, Value.oneCell']; done)) (by rfl)) rfl ?_
   rintro _ _ rfl
   refine RL.val (Wanted.free rfl) (V.assign rfl rfl) rfl ?_
   refine RL.nil ?_
   refine SG.retE (Ret.r2 Tryd.func12 rfl (.agg rfl ag23 pickX rfl rfl) (.tmp rfl)) ?_ ⟨by first | (rw [nextV, if_pos (by assumption)]; rfl) | (rw [nextV, if_neg (fun h => h hyes), if_pos (by omega)]; rfl) | (rw [nextV, if_neg (fun h => h hyes), if_neg (by omega)]; rfl), rfl⟩
   exact entX

set_option maxRecDepth 100000 in
theorem rNext_ok {κ : World} {L : List Assn} {l : Lab} :
    Ctr Tryd.prog 13 #[(.agg ([vI l.num, vI l.suf] : List Value).toArray)] κ L (fun v M => v = .tuple #[(.agg ([vI (nextV l).1.num, vI (nextV l).1.suf] : List Value).toArray), vI (nextV l).2] ∧ M = L) := by
 refine Ctr.enter (vs := [(.agg ([vI l.num, vI l.suf] : List Value).toArray)]) (m := 18) Tryd.func13 rfl rfl rfl ?_
 refine SG.seq ?_
 refine SG.region ?_
 refine RL.eff (Wanted.free rfl) (E.box _ rfl rfl rfl) rfl ?_
 rintro _ _ ⟨b1, rfl, rfl⟩
 refine RL.eff (Wanted.free rfl) (E.alloc rfl ze23) rfl ?_
 rintro _ _ ⟨b2, rfl, rfl⟩
 refine RL.val (Wanted.free rfl) (V.assign rfl rfl) rfl ?_
 refine RL.nil ?_
 refine SG.seq ?_
 refine SG.seq ?_
 refine SG.region ?_
 refine RL.val (Wanted.free rfl) (V.loadAgg (us := [vI l.num, vI l.suf]) rfl ag23 rfl pickX rfl rfl) rfl ?_
 refine RL.eff (Wanted.free rfl) (E.call rfl go15 rfl (rCheck_ok (l := l))) rfl ?_
 rintro _ _ ⟨rfl, rfl⟩
 refine RL.cmp (Wanted.free rfl) (V.bin rfl rfl rfl B.neq) rfl (fun h6 => ?_) (fun h6 => ?_)
 ·
  have hno := check_bad_of h6
  refine RL.nil ?_
  refine SG.cond_true rfl ?_
  refine SG.seq ?_
  refine SG.region ?_
  refine RL.val (Wanted.free rfl) (V.buildS [] rfl bs23 (by exact trivial) rfl) rfl ?_
  refine RL.eff (Wanted.free rfl) (E.storeWhole rfl rfl rfl (by rfl) sz23 pickX (by first | (simp [Value.oneCell']; done) | (simp [setAt, Value.oneCell']; done)) (by rfl)) rfl ?_
  rintro _ _ rfl
  refine RL.val (Wanted.free rfl) (V.assign rfl rfl) rfl ?_
  refine RL.nil ?_
  refine SG.retE (Ret.r2 Tryd.func13 rfl (.agg rfl ag23 pickX rfl rfl) (.tmp rfl)) ?_ ⟨by first | (rw [nextV, if_pos (by assumption)]; rfl) | (rw [nextV, if_neg (fun h => h hyes), if_pos (by omega)]; rfl) | (rw [nextV, if_neg (fun h => h hyes), if_neg (by omega)]; rfl), rfl⟩
  exact entX
 ·
  have hyes : okL l := check_ok_of (Decidable.byContradiction fun e => h6 e)
  refine RL.nil ?_
  refine SG.cond_false rfl ?_
  refine SG.skip ?_
  refine SG.seq ?_
  refine SG.seq ?_
  refine SG.region ?_
  refine RL.val (Wanted.free rfl) (V.fieldAddr rfl rfl fo23_1) rfl ?_
  refine RL.val (Wanted.free rfl) (V.load rfl on3 rfl pickX rfl) rfl ?_
  refine RL.cmp (Wanted.free rfl) (V.bin rfl rfl rfl B.eql) rfl (fun h12 => ?_) (fun h12 => ?_)
  ·
   refine RL.nil ?_
   refine SG.cond_true rfl ?_
   refine SG.seq ?_
   refine SG.region ?_
   refine RL.val (Wanted.free rfl) (V.buildS [] rfl bs23 (by exact trivial) rfl) rfl ?_
   refine RL.eff (Wanted.free rfl) (E.storeWhole rfl rfl rfl (by rfl) sz23 pickX (by first | (simp [Value.oneCell']; done) | (simp [setAt, Value.oneCell']; done)) (by rfl)) rfl ?_
   rintro _ _ rfl
   refine RL.val (Wanted.free rfl) (V.assign rfl rfl) rfl ?_
   refine RL.nil ?_
   refine SG.retE (Ret.r2 Tryd.func13 rfl (.agg rfl ag23 pickX rfl rfl) (.tmp rfl)) ?_ ⟨by first | (rw [nextV, if_pos (by assumption)]; rfl) | (rw [nextV, if_neg (fun h => h hyes), if_pos (by omega)]; rfl) | (rw [nextV, if_neg (fun h => h hyes), if_neg (by omega)]; rfl), rfl⟩
   exact entX
  ·
   refine RL.nil ?_
   refine SG.cond_false rfl ?_
   refine SG.skip ?_
   refine SG.seq ?_
   have hy2 := hyes
   obtain ⟨y1, y2, y3, y4⟩ := hy2
   refine SG.region ?_
   refine RL.val (Wanted.free rfl) (V.fieldAddr rfl rfl fo23_0) rfl ?_
   refine RL.val (Wanted.free rfl) (V.load rfl on3 rfl pickX rfl) rfl ?_
   refine RL.val (Wanted.free rfl) (V.fieldAddr rfl rfl fo23_1) rfl ?_
   refine RL.val (Wanted.free rfl) (V.load rfl on3 rfl pickX rfl) rfl ?_
   refine RL.val (Wanted.free rfl) (V.bin rfl rfl rfl (B.addI (by omega) (by omega))) rfl ?_
   refine RL.val (Wanted.free rfl) (V.buildS [(0, _), (1, _)] rfl bs23 (by exact ⟨rfl, ⟨_, rfl, rfl⟩, ⟨rfl, ⟨_, rfl, rfl⟩, trivial⟩⟩) rfl) rfl ?_
   refine RL.eff (Wanted.free rfl) (E.storeWhole rfl rfl rfl (by rfl) sz23 pickX (by first | (simp [Value.oneCell']; done) | (simp [setAt, Value.oneCell']; done)) (by rfl)) rfl ?_
   rintro _ _ rfl
   refine RL.val (Wanted.free rfl) (V.assign rfl rfl) rfl ?_
   refine RL.nil ?_
   refine SG.retE (Ret.r2 Tryd.func13 rfl (.agg rfl ag23 pickX rfl rfl) (.tmp rfl)) ?_ ⟨by first | (rw [nextV, if_pos (by assumption)]; rfl) | (rw [nextV, if_neg (fun h => h hyes), if_pos (by omega)]; rfl) | (rw [nextV, if_neg (fun h => h hyes), if_neg (by omega)]; rfl), rfl⟩
   exact entX

set_option maxRecDepth 100000 in
theorem nan_ok {κ : World} {L : List Assn} {x : Int} :
    Ctr Tryd.prog 42 #[vI x] κ L (fun v M => v = vB false ∧ M = L) := by
 refine Ctr.enter (vs := [vI x]) (m := 6) Tryd.func42 rfl rfl rfl ?_
 refine SG.seq ?_
 refine SG.region ?_
 refine RL.val (Wanted.free rfl) (V.assign rfl rfl) rfl ?_
 refine RL.nil ?_
 refine SG.seq ?_
 refine SG.region ?_
 refine RL.val (Wanted.free rfl) (V.move rfl rfl) rfl ?_
 refine RL.val (Wanted.free rfl) (V.move rfl rfl) rfl ?_
 refine RL.cmpF (Wanted.free rfl) (V.bin rfl rfl rfl B.neq) rfl (fun h => h rfl) ?_
 refine RL.val (Wanted.free rfl) (V.assign rfl rfl) rfl ?_
 refine RL.nil ?_
 refine SG.retE (Ret.r1 Tryd.func42 rfl (.tmp rfl)) ?_ ⟨rfl, rfl⟩
 exact entX

set_option maxRecDepth 100000 in
theorem cmp_ok {κ : World} {L : List Assn} {x y : Int} :
    Ctr Tryd.prog 36 #[vI x, vI y] κ L (fun v M => v = vI (cmpV x y) ∧ M = L) := by
 refine Ctr.enter (vs := [vI x, vI y]) (m := 20) Tryd.func36 rfl rfl rfl ?_
 refine SG.seq ?_
 refine SG.region ?_
 refine RL.val (Wanted.free rfl) (V.assign rfl rfl) rfl ?_
 refine RL.nil ?_
 refine SG.seq ?_
 refine SG.region ?_
 refine RL.val (Wanted.free rfl) (V.move rfl rfl) rfl ?_
 refine RL.eff (Wanted.free rfl) (E.call rfl go42 rfl (nan_ok)) rfl ?_
 rintro _ _ ⟨rfl, rfl⟩
 refine RL.val (Wanted.free rfl) (V.assign rfl rfl) rfl ?_
 refine RL.nil ?_
 refine SG.seq ?_
 refine SG.region ?_
 refine RL.val (Wanted.free rfl) (V.move rfl rfl) rfl ?_
 refine RL.eff (Wanted.free rfl) (E.call rfl go42 rfl (nan_ok)) rfl ?_
 rintro _ _ ⟨rfl, rfl⟩
 refine RL.val (Wanted.free rfl) (V.assign rfl rfl) rfl ?_
 refine RL.nil ?_
 refine SG.seq ?_
 refine SG.seq ?_
 refine SG.region ?_
 refine RL.val (Wanted.free rfl) (V.move rfl rfl) rfl ?_
 refine RL.nil ?_
 refine SG.cond_false rfl ?_
 refine SG.skip ?_
 refine SG.seq ?_
 refine SG.seq ?_
 refine SG.region ?_
 refine RL.val (Wanted.free rfl) (V.move rfl rfl) rfl ?_
 refine RL.nil ?_
 refine SG.cond_false rfl ?_
 refine SG.skip ?_
 refine SG.seq ?_
 refine SG.seq ?_
 refine SG.region ?_
 refine RL.val (Wanted.free rfl) (V.move rfl rfl) rfl ?_
 refine RL.val (Wanted.free rfl) (V.move rfl rfl) rfl ?_
 refine RL.cmp (Wanted.free rfl) (V.bin rfl rfl rfl B.lss) rfl (fun h12 => ?_) (fun h12 => ?_)
 ·
  refine RL.nil ?_
  refine SG.cond_true rfl ?_
  refine SG.seq ?_
  refine SG.region ?_
  refine RL.val (Wanted.free rfl) (V.assign rfl rfl) rfl ?_
  refine RL.nil ?_
  refine SG.retE (Ret.r1 Tryd.func36 rfl (.tmp rfl)) ?_ ⟨by first | (rw [cmpV, if_pos (by omega)]) | (rw [cmpV, if_neg (by omega), if_pos (by omega)]) | (rw [cmpV, if_neg (by omega), if_neg (by omega)]), rfl⟩
  exact entX
 ·
  refine RL.nil ?_
  refine SG.cond_false rfl ?_
  refine SG.skip ?_
  refine SG.seq ?_
  refine SG.seq ?_
  refine SG.region ?_
  refine RL.val (Wanted.free rfl) (V.move rfl rfl) rfl ?_
  refine RL.val (Wanted.free rfl) (V.move rfl rfl) rfl ?_
  refine RL.cmp (Wanted.free rfl) (V.bin rfl rfl rfl B.gtr) rfl (fun h16 => ?_) (fun h16 => ?_)
  ·
   refine RL.nil ?_
   refine SG.cond_true rfl ?_
   refine SG.seq ?_
   refine SG.region ?_
   refine RL.val (Wanted.free rfl) (V.assign rfl rfl) rfl ?_
   refine RL.nil ?_
   refine SG.retE (Ret.r1 Tryd.func36 rfl (.tmp rfl)) ?_ ⟨by first | (rw [cmpV, if_pos (by omega)]) | (rw [cmpV, if_neg (by omega), if_pos (by omega)]) | (rw [cmpV, if_neg (by omega), if_neg (by omega)]), rfl⟩
   exact entX
  ·
   refine RL.nil ?_
   refine SG.cond_false rfl ?_
   refine SG.skip ?_
   refine SG.seq ?_
   refine SG.region ?_
   refine RL.val (Wanted.free rfl) (V.assign rfl rfl) rfl ?_
   refine RL.nil ?_
   refine SG.retE (Ret.r1 Tryd.func36 rfl (.tmp rfl)) ?_ ⟨by first | (rw [cmpV, if_pos (by omega)]) | (rw [cmpV, if_neg (by omega), if_pos (by omega)]) | (rw [cmpV, if_neg (by omega), if_neg (by omega)]), rfl⟩
   exact entX

theorem cmp_in (x y : Int) : inInt (cmpV x y) := by
  unfold cmpV inInt; split
  · omega
  · split <;> omega
set_option maxRecDepth 100000 in
theorem or_ok {κ : World} {L : List Assn} {a : Option Addr} {c : Nat} {x y : Int} (hm : Sl RI a 2 c [x, y] ∈ L) :
    Ctr Tryd.prog 35 #[.slice a 2 c] κ L (fun v M => v = vI (orV x y) ∧ M = L) := by
 refine Ctr.enter (vs := [.slice a 2 c]) (m := 18) Tryd.func35 rfl rfl rfl ?_
 refine SG.seq ?_
 refine SG.region ?_
 refine RL.val (Wanted.free rfl) (V.assign rfl rfl) rfl ?_
 refine RL.nil ?_
 refine SG.seq ?_
 refine SG.region ?_
 refine RL.val (Wanted.free rfl) (V.assign rfl rfl) rfl ?_
 refine RL.nil ?_
 refine SG.seq ?_
 refine SG.seq ?_
 refine SG.region ?_
 refine RL.val (Wanted.free rfl) (V.move rfl rfl) rfl ?_
 refine RL.val (Wanted.free rfl) (V.len rfl rfl el44.under rfl) rfl ?_
 refine RL.val (Wanted.free rfl) (V.move rfl rfl) rfl ?_
 refine RL.nil ?_
 refine SG.block ?_
 refine SG.weaken (SG.loop2 (fun m0 al M => ∃ i : Nat, i ≤ 2 ∧ (0 < i → x = 0) ∧ (1 < i → y = 0) ∧ m0 = 2 - i ∧ al = [(3, vI 0), (6, .slice a 2 c), (7, vI 2), (8, vI i)] ∧ M = L) (m0 := _) ⟨0, by omega, fun h => by omega, fun h => by omega, rfl, rfl, rfl⟩ ?_) ?_ ?_
 rotate_left
 ·
  repeat (first | exact EnvLe.nil _ | refine EnvLe.cons rfl ?_)
 ·
  exact entX
 rintro _ _ _ ⟨i, hi, hx, hy, rfl, rfl, hM⟩ ih0
 subst hM
 refine SG.seq ?_
 refine SG.region ?_
 refine RL.cmp (Wanted.free rfl) (V.bin rfl rfl rfl B.lss) rfl (fun h6 => ?_) (fun h6 => ?_)
 ·
  refine RL.nil ?_
  refine SG.seq ?_
  refine SG.cond_true rfl ?_
  refine SG.skip ?_
  refine SG.seq ?_
  refine SG.block ?_
  refine SG.seq ?_
  refine SG.region ?_
  refine RL.val (Wanted.free rfl) (V.indexSl (T := RI) (a := a) (l := [x, y]) (j := i) rfl el44.slice rfl rfl memX rfl (by show i < 2; omega)) rfl ?_
  refine RL.val (Wanted.free rfl) (V.loadSc (l := [x, y]) (y := if i = 0 then x else y) (j := i) rfl on3 rfl (show Sl RI a 2 c [x, y] ∈ _ from memX) (by rcases (show i = 0 ∨ i = 1 by omega) with rfl | rfl <;> rfl)) rfl ?_
  obtain ⟨z, hz⟩ : ∃ z, (if i = 0 then x else y) = z := ⟨_, rfl⟩
  rw [hz]
  have hz0 : i = 0 → z = x := fun e => by rw [← hz, if_pos e]
  have hz1 : i ≠ 0 → z = y := fun e => by rw [← hz, if_neg e]
  refine RL.val (Wanted.free rfl) (V.assign rfl rfl) rfl ?_
  refine RL.nil ?_
  refine SG.seq ?_
  refine SG.region ?_
  refine RL.val (Wanted.free rfl) (V.move rfl rfl) rfl ?_
  refine RL.val (Wanted.free rfl) (V.move rfl rfl) rfl ?_
  refine RL.cmp (Wanted.free rfl) (V.bin rfl rfl rfl B.neq) rfl (fun h12 => ?_) (fun h12 => ?_)
  ·
   refine RL.nil ?_
   refine SG.cond_true rfl ?_
   refine SG.seq ?_
   refine SG.region ?_
   refine RL.val (Wanted.free rfl) (V.move rfl rfl) rfl ?_
   refine RL.val (Wanted.free rfl) (V.assign rfl rfl) rfl ?_
   refine RL.nil ?_
   refine SG.retE (Ret.r1 Tryd.func35 rfl (.tmp rfl)) ?_ ⟨by (by_cases e : i = 0); (· rw [hz0 e, orV, if_pos (by have := hz0 e; omega)]); (· rw [orV, if_neg (by have := hx (by omega); omega), hz1 e]), rfl⟩
   exact entX
  ·
   refine RL.nil ?_
   refine SG.cond_false rfl ?_
   refine SG.skip ?_
   refine SG.inBlock ?_
   refine SG.region ?_
   refine RL.val (Wanted.free rfl) (V.bin rfl rfl rfl (B.addI (by omega) (by omega))) rfl ?_
   refine RL.val (Wanted.free rfl) (V.move rfl rfl) rfl ?_
   refine RL.nil ?_
   refine SG.weaken (ih0 _ _ _ ?_ ⟨i + 1, by omega, fun _ => by (by_cases e : i = 0); (· have := hz0 e; omega); (· exact hx (by omega)), fun _ => by have := hz1 (by omega); omega, rfl, rfl, rfl⟩) ?_ ?_
   ·
    omega
   ·
    repeat (first | exact EnvLe.nil _ | refine EnvLe.cons rfl ?_)
   ·
    exact entX
 ·
  refine RL.nil ?_
  refine SG.seq ?_
  refine SG.cond_false rfl ?_
  refine SG.exit rfl ?_
  refine SG.seq ?_
  refine SG.region ?_
  refine RL.val (Wanted.free rfl) (V.move rfl rfl) rfl ?_
  refine RL.val (Wanted.free rfl) (V.assign rfl rfl) rfl ?_
  refine RL.nil ?_
  refine SG.retE (Ret.r1 Tryd.func35 rfl (.tmp rfl)) ?_ ⟨by rw [orV, if_neg (by have := hx (by omega); omega), hy (by omega)], rfl⟩
  exact entX

end Go.Proofs.YteopejoppdgncaaDoor
