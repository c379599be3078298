/- What is small. -/
import Derived.Test.YtcbloadpffjkiaaDoorFacts
import Derived.Test.YtcbloadpffjkiaaDoorZPlm
import Derived.Test.YtcbloadpffjkiaaDoorZTops
namespace Go.Proofs.YtcbloadpffjkiaaDoor
open Go.Wk Go.Mk Go.Sha

/-- n modulo most, never negative. -/
def aroundV (n most : Int) : Int := (if n < 0 then -(n + 1) else n) % most
theorem aroundV_bd {n most : Int} (h : 0 < most) : 0 ≤ aroundV n most ∧ aroundV n most < most := ⟨Int.emod_nonneg _ (by omega), Int.emod_lt_of_pos _ h⟩
theorem aroundV_nat {n most : Int} (h : 0 < most) : ∃ q : Nat, aroundV n most = (q : Int) ∧ (q : Int) < most := by
  obtain ⟨h1, h2⟩ := aroundV_bd (n := n) h
  obtain ⟨q, hq⟩ := Int.eq_ofNat_of_zero_le h1
  exact ⟨q, hq, by omega⟩
def len8 : List UInt8 := [0, 1, 2, 2, 3, 3, 3, 3, 4, 4, 4, 4, 4, 4, 4, 4, 5, 5, 5, 5, 5, 5, 5, 5, 5, 5, 5, 5, 5, 5, 5, 5, 6, 6, 6, 6, 6, 6, 6, 6, 6, 6, 6, 6, 6, 6, 6, 6, 6, 6, 6, 6, 6, 6, 6, 6, 6, 6, 6, 6, 6, 6, 6, 6, 7, 7, 7, 7, 7, 7, 7, 7, 7, 7, 7, 7, 7, 7, 7, 7, 7, 7, 7, 7, 7, 7, 7, 7, 7, 7, 7, 7, 7, 7, 7, 7, 7, 7, 7, 7, 7, 7, 7, 7, 7, 7, 7, 7, 7, 7, 7, 7, 7, 7, 7, 7, 7, 7, 7, 7, 7, 7, 7, 7, 7, 7, 7, 7, 8, 8, 8, 8, 8, 8, 8, 8, 8, 8, 8, 8, 8, 8, 8, 8, 8, 8, 8, 8, 8, 8, 8, 8, 8, 8, 8, 8, 8, 8, 8, 8, 8, 8, 8, 8, 8, 8, 8, 8, 8, 8, 8, 8, 8, 8, 8, 8, 8, 8, 8, 8, 8, 8, 8, 8, 8, 8, 8, 8, 8, 8, 8, 8, 8, 8, 8, 8, 8, 8, 8, 8, 8, 8, 8, 8, 8, 8, 8, 8, 8, 8, 8, 8, 8, 8, 8, 8, 8, 8, 8, 8, 8, 8, 8, 8, 8, 8, 8, 8, 8, 8, 8, 8, 8, 8, 8, 8, 8, 8, 8, 8, 8, 8, 8, 8, 8, 8, 8, 8, 8, 8, 8, 8, 8, 8, 8, 8]
theorem len8_get : ∀ i : Nat, i < 256 → len8[i]? = some (UInt8.ofNat (if i = 0 then 0 else Nat.log2 i + 1)) := by decide +kernel
theorem log2_div (x : Nat) (h : 256 ≤ x) : Nat.log2 x = Nat.log2 (x / 256) + 8 := by
  have hx : x ≠ 0 := by omega
  have hd : x / 256 ≠ 0 := by omega
  have h1 := Nat.log2_self_le hd
  have h2 := Nat.lt_log2_self (n := x / 256)
  refine (Nat.log2_eq_iff hx).2 ⟨?_, ?_⟩
  · rw [Nat.pow_add]; show 2 ^ (x / 256).log2 * 256 ≤ x; omega
  · rw [show (x / 256).log2 + 8 + 1 = ((x / 256).log2 + 1) + 8 from by omega, Nat.pow_add]; show x < 2 ^ ((x / 256).log2 + 1) * 256; omega
theorem log2_lt16 {x : Nat} (h : x < 65536) (h0 : x ≠ 0) : Nat.log2 x < 16 := (Nat.log2_lt h0).2 h
set_option maxRecDepth 100000 in
set_option maxHeartbeats 1000000 in
theorem len64_ok {κ : World} {L : List Assn} {x : Nat} (h0 : x ≠ 0) (h1 : x < 65536) :
    Ctr Tryd.prog 91 #[v64 (UInt64.ofNat x)] κ L (fun v M => v = vI ((Nat.log2 x + 1 : Nat) : Int) ∧ M = L) := by
 refine Ctr.enter (vs := [v64 (UInt64.ofNat x)]) (m := 25) Tryd.func91 rfl rfl rfl ?_
 have hx : (UInt64.ofNat x).toNat = x := by rw [UInt64.toNat_ofNat']; omega
 have hlg := log2_lt16 h1 h0
 refine SG.seq ?_
 refine SG.region ?_
 refine RL.val (Wanted.free rfl) (V.assign rfl rfl) rfl ?_
 refine RL.nil ?_
 refine SG.seq ?_
 refine SG.seq ?_
 refine SG.region ?_
 refine RL.val (Wanted.free rfl) (V.move rfl rfl) rfl ?_
 refine RL.cmpF (Wanted.free rfl) (V.bin rfl rfl rfl B.geq) rfl (by rw [hx]; omega) ?_
 refine RL.nil ?_
 refine SG.cond_false rfl ?_
 refine SG.skip ?_
 refine SG.seq ?_
 refine SG.seq ?_
 refine SG.region ?_
 refine RL.val (Wanted.free rfl) (V.move rfl rfl) rfl ?_
 refine RL.cmpF (Wanted.free rfl) (V.bin rfl rfl rfl B.geq) rfl (by rw [hx]; omega) ?_
 refine RL.nil ?_
 refine SG.cond_false rfl ?_
 refine SG.skip ?_
 refine SG.seq ?_
 refine SG.seq ?_
 refine SG.region ?_
 refine RL.val (Wanted.free rfl) (V.move rfl rfl) rfl ?_
 refine RL.cmp (Wanted.free rfl) (V.bin rfl rfl rfl B.geq) rfl (fun h5 => ?_) (fun h5 => ?_)
 ·
  rw [hx] at h5
  refine RL.nil ?_
  refine SG.cond_true rfl ?_
  refine SG.seq ?_
  refine SG.region ?_
  refine RL.val (Wanted.free rfl) (V.move rfl rfl) rfl ?_
  refine RL.val (Wanted.free rfl) (V.bin rfl rfl rfl (B.shr64 256 (by decide) (by decide))) rfl ?_
  refine RL.val (Wanted.free rfl) (V.assign rfl rfl) rfl ?_
  refine RL.nil ?_
  refine SG.region ?_
  refine RL.val (Wanted.free rfl) (V.move rfl rfl) rfl ?_
  refine RL.val (Wanted.free rfl) (V.bin rfl rfl rfl (B.addI (by omega) (by omega))) rfl ?_
  refine RL.val (Wanted.free rfl) (V.assign rfl rfl) rfl ?_
  refine RL.nil ?_
  refine SG.seq ?_
  obtain ⟨q, hq⟩ : ∃ q, x / 256 = q := ⟨_, rfl⟩
  have hl2 := log2_div x (by omega)
  rw [hq] at hl2
  have hq0 : q ≠ 0 := by omega
  have hq1 : q < 256 := by omega
  have hlq : Nat.log2 q < 8 := (Nat.log2_lt hq0).2 hq1
  have hl8 := len8_get q hq1
  rw [if_neg hq0] at hl8
  have hu8 := (UInt8.ofNat (Nat.log2 q + 1)).toNat_lt
  refine SG.region ?_
  refine RL.val (Wanted.free rfl) (V.move rfl rfl) rfl ?_
  refine RL.val (Wanted.free rfl) (V.move rfl rfl) rfl ?_
  refine RL.val (Wanted.free rfl) (V.to8 rfl ⟨_, ui99⟩ ui5 rfl) rfl ?_
  rw [show UInt8.ofNat (((UInt64.ofNat x / 256).toNat : Int) % 256).toNat = UInt8.ofNat q from by rw [UInt64.toNat_div, hx, show (256 : UInt64).toNat = 256 from rfl]; congr 1; omega]
  refine RL.val (Wanted.free rfl) (V.indexS (j := q) (s := len8) rfl us9 rfl rfl (by show (((UInt8.ofNat q).toNat : Nat) : Int) = (q : Int); rw [UInt8.toNat_ofNat']; omega) hl8) rfl ?_
  refine RL.val (Wanted.free rfl) (V.toI rfl ⟨_, ui5⟩ ui3 rfl (by omega) (by omega)) rfl ?_
  rw [show (((UInt8.ofNat (Nat.log2 q + 1)).toNat : Nat) : Int) = ((Nat.log2 q + 1 : Nat) : Int) from by rw [UInt8.toNat_ofNat']; omega]
  refine RL.val (Wanted.free rfl) (V.bin rfl rfl rfl (B.addI (by omega) (by omega))) rfl ?_
  refine RL.val (Wanted.free rfl) (V.assign rfl rfl) rfl ?_
  refine RL.nil ?_
  refine SG.retE (Ret.r1 Tryd.func91 rfl (.tmp rfl)) ?_ ⟨congrArg vI (by omega), rfl⟩
  exact entX
 ·
  rw [hx] at h5
  refine RL.nil ?_
  refine SG.cond_false rfl ?_
  refine SG.skip ?_
  refine SG.seq ?_
  obtain ⟨q, hq⟩ : ∃ q, x = q := ⟨_, rfl⟩
  have hl2 : Nat.log2 x = Nat.log2 q := by rw [hq]
  have hq0 : q ≠ 0 := by omega
  have hq1 : q < 256 := by omega
  have hlq : Nat.log2 q < 8 := (Nat.log2_lt hq0).2 hq1
  have hl8 := len8_get q hq1
  rw [if_neg hq0] at hl8
  have hu8 := (UInt8.ofNat (Nat.log2 q + 1)).toNat_lt
  refine SG.region ?_
  refine RL.val (Wanted.free rfl) (V.move rfl rfl) rfl ?_
  refine RL.val (Wanted.free rfl) (V.move rfl rfl) rfl ?_
  refine RL.val (Wanted.free rfl) (V.to8 rfl ⟨_, ui99⟩ ui5 rfl) rfl ?_
  rw [show UInt8.ofNat (((UInt64.ofNat x).toNat : Int) % 256).toNat = UInt8.ofNat q from by rw [hx]; congr 1; omega]
  refine RL.val (Wanted.free rfl) (V.indexS (j := q) (s := len8) rfl us9 rfl rfl (by show (((UInt8.ofNat q).toNat : Nat) : Int) = (q : Int); rw [UInt8.toNat_ofNat']; omega) hl8) rfl ?_
  refine RL.val (Wanted.free rfl) (V.toI rfl ⟨_, ui5⟩ ui3 rfl (by omega) (by omega)) rfl ?_
  rw [show (((UInt8.ofNat (Nat.log2 q + 1)).toNat : Nat) : Int) = ((Nat.log2 q + 1 : Nat) : Int) from by rw [UInt8.toNat_ofNat']; omega]
  refine RL.val (Wanted.free rfl) (V.bin rfl rfl rfl (B.addI (by omega) (by omega))) rfl ?_
  refine RL.val (Wanted.free rfl) (V.assign rfl rfl) rfl ?_
  refine RL.nil ?_
  refine SG.retE (Ret.r1 Tryd.func91 rfl (.tmp rfl)) ?_ ⟨congrArg vI (by omega), rfl⟩
  exact entX

set_option maxRecDepth 100000 in
set_option maxHeartbeats 1000000 in
theorem len_ok {κ : World} {L : List Assn} {x : Nat} (h0 : x ≠ 0) (h1 : x < 65536) :
    Ctr Tryd.prog 78 #[v64 (UInt64.ofNat x)] κ L (fun v M => v = vI ((Nat.log2 x + 1 : Nat) : Int) ∧ M = L) := by
 refine Ctr.enter (vs := [v64 (UInt64.ofNat x)]) (m := 8) Tryd.func78 rfl rfl rfl ?_
 refine SG.seq ?_
 refine SG.region ?_
 refine RL.val (Wanted.free rfl) (V.assign rfl rfl) rfl ?_
 refine RL.nil ?_
 refine SG.seq ?_
 refine SG.cond_false rfl ?_
 refine SG.skip ?_
 refine SG.seq ?_
 refine SG.region ?_
 refine RL.val (Wanted.free rfl) (V.move rfl rfl) rfl ?_
 refine RL.eff (Wanted.free rfl) (E.call rfl go91 rfl (len64_ok h0 h1)) rfl ?_
 rintro _ _ ⟨rfl, rfl⟩
 refine RL.val (Wanted.free rfl) (V.assign rfl rfl) rfl ?_
 refine RL.nil ?_
 refine SG.retE (Ret.r1 Tryd.func78 rfl (.tmp rfl)) ?_ ⟨rfl, rfl⟩
 exact entX

set_option maxRecDepth 100000 in
set_option maxHeartbeats 1000000 in
theorem split_ok {κ : World} {L : List Assn} {n : Nat} (h0 : 2 ≤ n) (h1 : n ≤ 65536) :
    Ctr Tryd.prog 46 #[vI (n : Int)] κ L (fun v M => v = vI ((spl n : Nat) : Int) ∧ M = L) := by
 refine Ctr.enter (vs := [vI (n : Int)]) (m := 9) Tryd.func46 rfl rfl rfl ?_
 have hlg := log2_lt16 (x := n - 1) (by omega) (by omega)
 refine SG.seq ?_
 refine SG.region ?_
 refine RL.val (Wanted.free rfl) (V.assign rfl rfl) rfl ?_
 refine RL.nil ?_
 refine SG.seq ?_
 refine SG.region ?_
 refine RL.val (Wanted.free rfl) (V.move rfl rfl) rfl ?_
 refine RL.val (Wanted.free rfl) (V.bin rfl rfl rfl (B.subI (by omega) (by omega))) rfl ?_
 refine RL.val (Wanted.free rfl) (V.to64 rfl ⟨_, ui3⟩ ui124 rfl) rfl ?_
 rw [show UInt64.ofNat (((n : Int) - 1) % 18446744073709551616).toNat = UInt64.ofNat (n - 1) from by congr 1; omega]
 refine RL.eff (Wanted.free rfl) (E.call rfl go78 rfl (len_ok (x := n - 1) (by omega) (by omega))) rfl ?_
 rintro _ _ ⟨rfl, rfl⟩
 refine RL.val (Wanted.free rfl) (V.bin rfl rfl rfl (B.subI (by omega) (by omega))) rfl ?_
 rw [show ((Nat.log2 (n - 1) + 1 : Nat) : Int) - 1 = ((Nat.log2 (n - 1) : Nat) : Int) from by omega]
 refine RL.val (Wanted.free rfl) (V.bin rfl rfl rfl (B.shl1 (by omega))) rfl ?_
 refine RL.val (Wanted.free rfl) (V.assign rfl rfl) rfl ?_
 refine RL.nil ?_
 refine SG.retE (Ret.r1 Tryd.func46 rfl (.tmp rfl)) ?_ ⟨rfl, rfl⟩
 exact entX

set_option maxRecDepth 100000 in
set_option maxHeartbeats 1000000 in
theorem clip_ok {κ : World} {L : List Assn} {a : Option Addr} {m c : Nat} {l : List Hs} (hm : Sl (RArr8 32) a m c l ∈ L) :
    Ctr Tryd.prog 82 #[.slice a m c] κ L (fun v M => v = .slice a m m ∧ M = Sl (RArr8 32) a m m l :: L) := by
 refine Ctr.enter (vs := [.slice a m c]) (m := 9) Tryd.func82 rfl rfl rfl ?_
 refine SG.seq ?_
 refine SG.region ?_
 refine RL.val (Wanted.free rfl) (V.assign rfl rfl) rfl ?_
 refine RL.nil ?_
 refine SG.seq ?_
 refine SG.region ?_
 refine RL.val (Wanted.free rfl) (V.move rfl rfl) rfl ?_
 refine RL.val (Wanted.free rfl) (V.move rfl rfl) rfl ?_
 refine RL.val (Wanted.free rfl) (V.len rfl rfl el22.under rfl) rfl ?_
 refine RL.val (Wanted.free rfl) (V.move rfl rfl) rfl ?_
 refine RL.val (Wanted.free rfl) (V.len rfl rfl el22.under rfl) rfl ?_
 refine RL.eff (Wanted.free rfl) (E.clip (T := RArr8 32) rfl el22.slice rfl hm rfl rfl rfl rfl) rfl ?_
 intro _ _ hK7
 try rw [List.drop_zero] at hK7
 iterate 2 (try rw [Nat.sub_zero] at hK7)
 obtain ⟨rfl, rfl⟩ := hK7
 refine RL.val (Wanted.free rfl) (V.assign rfl rfl) rfl ?_
 refine RL.nil ?_
 refine SG.retE (Ret.r1 Tryd.func82 rfl (.tmp rfl)) ?_ ⟨rfl, rfl⟩
 exact entX

set_option maxRecDepth 100000 in
set_option maxHeartbeats 1000000 in
theorem with_ok {κ : World} {L : List Assn} {a a' : Option Addr} {m c m' c' : Nat} {l l' : List Hs} (hm : Sl (RArr8 32) a m c l ∈ L) (hm' : Sl (RArr8 32) a' m' c' l' ∈ L) (h0 : 0 < l'.length) (h1 : l.length ≤ 100000) (h2 : l'.length ≤ 100000) :
    Ctr Tryd.prog 56 #[.slice a m c, .slice a' m' c'] κ L (fun v M => ∃ a2 c2, v = .slice a2 (l ++ l').length c2 ∧ M = Buf (RArr8 32) 25 a2 (l ++ l').length c2 (l ++ l') :: L) := by
 refine Ctr.enter (vs := [.slice a m c, .slice a' m' c']) (m := 9) Tryd.func56 rfl rfl rfl ?_
 refine SG.sl hm fun hl _ _ => ?_
 refine SG.seq ?_
 refine SG.region ?_
 refine RL.val (Wanted.free rfl) (V.assign rfl rfl) rfl ?_
 refine RL.nil ?_
 refine SG.seq ?_
 refine SG.region ?_
 refine RL.val (Wanted.free rfl) (V.move rfl rfl) rfl ?_
 refine RL.eff (Wanted.free rfl) (E.call rfl go82 rfl (clip_ok hm)) rfl ?_
 rintro _ _ ⟨rfl, rfl⟩
 refine RL.val (Wanted.free rfl) (V.move rfl rfl) rfl ?_
 refine RL.eff (Wanted.free rfl) (E.appendS (T := RArr8 32) (l := l) (l' := l') (by decide) rfl rfl rfl el22 el22.noInt rfl rfl memX (Src.sl (by decide) (List.Mem.tail _ hm')) h0 (by omega) (by omega)) rfl ?_
 intro _ _ hK5
 try rw [List.nil_append] at hK5
 try rw [Nat.zero_add] at hK5
 obtain ⟨a8, c8, rfl, rfl⟩ := hK5
 rw [show m + l'.length = (l ++ l').length from by rw [List.length_append, hl]]
 refine RL.val (Wanted.free rfl) (V.assign rfl rfl) rfl ?_
 refine RL.nil ?_
 refine SG.retE (Ret.r1 Tryd.func56 rfl (.tmp rfl)) ?_ ⟨_, _, rfl, rfl⟩
 exact entX

set_option maxRecDepth 100000 in
set_option maxHeartbeats 1000000 in
theorem sameh_ok {κ : World} {L : List Assn} {a a' : Option Addr} {m c m' c' : Nat} {l l' : List Hs} (hm : Sl (RArr8 32) a m c l ∈ L) (hm' : Sl (RArr8 32) a' m' c' l' ∈ L) :
    Ctr Tryd.prog 19 #[.slice a m c, .slice a' m' c'] κ L (fun v M => v = vB (decide (l = l')) ∧ M = L) := by
 refine Ctr.enter (vs := [.slice a m c, .slice a' m' c']) (m := 26) Tryd.func19 rfl rfl rfl ?_
 refine SG.fact (fun w hs => Sep.slArr hs hm) fun h32 => ?_
 refine SG.fact (fun w hs => Sep.slArr hs hm') fun h32' => ?_
 refine SG.sl hm fun hn hc hc63 => ?_
 refine SG.sl hm' fun hn2 hc2 hc632 => ?_
 subst hn
 subst hn2
 refine SG.seq ?_
 refine SG.region ?_
 refine RL.val (Wanted.free rfl) (V.assign rfl rfl) rfl ?_
 refine RL.nil ?_
 refine SG.seq ?_
 refine SG.seq ?_
 refine SG.region ?_
 refine RL.val (Wanted.free rfl) (V.move rfl rfl) rfl ?_
 refine RL.val (Wanted.free rfl) (V.len rfl rfl el22.under rfl) rfl ?_
 refine RL.val (Wanted.free rfl) (V.move rfl rfl) rfl ?_
 refine RL.val (Wanted.free rfl) (V.len rfl rfl el22.under rfl) rfl ?_
 refine RL.cmp (Wanted.free rfl) (V.bin rfl rfl rfl B.neq) rfl (fun h6 => ?_) (fun h6 => ?_)
 ·
  have hne : ¬ l = l' := fun e => by rw [e] at h6; exact h6 rfl
  refine RL.nil ?_
  refine SG.cond_true rfl ?_
  refine SG.seq ?_
  refine SG.region ?_
  refine RL.val (Wanted.free rfl) (V.assign rfl rfl) rfl ?_
  refine RL.nil ?_
  refine SG.retE (Ret.r1 Tryd.func19 rfl (.tmp rfl)) ?_ ⟨by first | (rw [decide_eq_false hne]) | (rw [decide_eq_true heq]), rfl⟩
  exact entX
 ·
  have hln : l.length = l'.length := by omega
  refine RL.nil ?_
  refine SG.cond_false rfl ?_
  refine SG.skip ?_
  refine SG.seq ?_
  refine SG.seq ?_
  refine SG.region ?_
  refine RL.val (Wanted.free rfl) (V.assign rfl rfl) rfl ?_
  refine RL.nil ?_
  refine SG.block ?_
  refine SG.weaken (SG.loop2 (fun m0 al M => ∃ i : Nat, i ≤ l.length ∧ m0 = l.length - i ∧ l.take i = l'.take i ∧ al = [(0, .slice a l.length c), (1, .slice a' l'.length c'), (5, vI i)] ∧ M = L) (m0 := _) ⟨0, by omega, rfl, rfl, rfl, rfl⟩ ?_) ?_ ?_
  rotate_left
  ·
   repeat (first | exact EnvLe.nil _ | refine EnvLe.cons rfl ?_)
  ·
   exact entX
  rintro _ _ _ ⟨i, hi, rfl, htk, rfl, rfl⟩ ih0
  refine SG.seq ?_
  refine SG.seq ?_
  refine SG.region ?_
  refine RL.val (Wanted.free rfl) (V.move rfl rfl) rfl ?_
  refine RL.val (Wanted.free rfl) (V.move rfl rfl) rfl ?_
  refine RL.val (Wanted.free rfl) (V.len rfl rfl el22.under rfl) rfl ?_
  refine RL.cmp (Wanted.free rfl) (V.bin rfl rfl rfl B.lss) rfl (fun h12 => ?_) (fun h12 => ?_)
  ·
   refine RL.nil ?_
   refine SG.cond_true rfl ?_
   refine SG.skip ?_
   refine SG.seq ?_
   refine SG.block ?_
   refine SG.seq ?_
   have hil : i < l.length := by omega
   have hil2 : i < l'.length := by omega
   obtain ⟨x, hx⟩ : ∃ x, l[i]? = some x := ⟨_, List.getElem?_eq_getElem hil⟩
   obtain ⟨y, hy⟩ : ∃ y, l'[i]? = some y := ⟨_, List.getElem?_eq_getElem hil2⟩
   have hxl := h32 x (List.mem_of_getElem? hx)
   have hyl := h32' y (List.mem_of_getElem? hy)
   refine SG.drawL 9 9 wide rfl rfl ?_
   refine RH.val 0 rfl krX krX krX krX (Wanted.free rfl) (V.move rfl rfl) rfl ?_
   refine RH.val 1 rfl krX krX krX krX (Wanted.free rfl) (V.move rfl rfl) rfl ?_
   refine RH.val 2 rfl krX krX krX krX (Wanted.free rfl) (V.indexSl (j := i) rfl el22.slice rfl rfl memX (by first | rfl | omega) (by omega)) rfl ?_
   refine RH.val 3 rfl krX krX krX krX (Wanted.free rfl) (V.loadSlDt rfl ag25 rfl memX hx) rfl ?_
   refine RH.val 4 rfl krX krX krX krX (Wanted.free rfl) (V.move rfl rfl) rfl ?_
   refine RH.val 5 rfl krX krX krX krX (Wanted.free rfl) (V.move rfl rfl) rfl ?_
   refine RH.val 6 rfl krX krX krX krX (Wanted.free rfl) (V.indexSl (j := i) rfl el22.slice rfl rfl memX (by first | rfl | omega) (by omega)) rfl ?_
   refine RH.val 7 rfl krX krX krX krX (Wanted.free rfl) (V.loadSlDt rfl ag25 rfl memX hy) rfl ?_
   refine RH.cmp 8 rfl krX krX krX krX (Wanted.free rfl) (V.neqArr rfl ar25 on5 ui5 ce25 eg25 inj8 hxl hyl rfl rfl) rfl (fun h21 => ?_) (fun h21 => ?_)
   ·
    have hne : ¬ l = l' := fun e => h21 (by rw [e, hy] at hx; exact (Option.some.inj hx).symm)
    refine RH.done krX ?_
    refine SG.cond_true rfl ?_
    refine SG.seq ?_
    refine SG.region ?_
    refine RL.val (Wanted.free rfl) (V.assign rfl rfl) rfl ?_
    refine RL.nil ?_
    refine SG.retE (Ret.r1 Tryd.func19 rfl (.tmp rfl)) ?_ ⟨by first | (rw [decide_eq_false hne]) | (rw [decide_eq_true heq]), rfl⟩
    exact entX
   ·
    have hxy : x = y := by simpa using h21
    refine RH.done krX ?_
    refine SG.cond_false rfl ?_
    refine SG.skip ?_
    refine SG.inBlock ?_
    refine SG.region ?_
    refine RL.val (Wanted.free rfl) (V.move rfl rfl) rfl ?_
    refine RL.val (Wanted.free rfl) (V.bin rfl rfl rfl (B.addI (by omega) (by omega))) rfl ?_
    refine RL.val (Wanted.free rfl) (V.assign rfl rfl) rfl ?_
    refine RL.nil ?_
    refine SG.weaken (ih0 _ _ _ ?_ ⟨i + 1, by omega, rfl, by rw [List.take_add_one, List.take_add_one, htk, hx, hy, hxy], rfl, rfl⟩) ?_ ?_
    ·
     omega
    ·
     repeat (first | exact EnvLe.nil _ | refine EnvLe.cons rfl ?_)
    ·
     exact entX
  ·
   refine RL.nil ?_
   refine SG.cond_false rfl ?_
   refine SG.exit rfl ?_
   refine SG.seq ?_
   have heq : l = l' := by rw [← List.take_length (l := l), ← List.take_length (l := l'), ← hln, ← show i = l.length by omega]; exact htk
   refine SG.region ?_
   refine RL.val (Wanted.free rfl) (V.assign rfl rfl) rfl ?_
   refine RL.nil ?_
   refine SG.retE (Ret.r1 Tryd.func19 rfl (.tmp rfl)) ?_ ⟨by first | (rw [decide_eq_false hne]) | (rw [decide_eq_true heq]), rfl⟩
   exact entX

theorem sameh_rd {κ : World} {L : List Assn} {a a' : Option Addr} {m c m' c' : Nat} {l l' : List Hs} (h1 : Seen (SlP (RArr8 32) a m c l) L) (h2 : Seen (SlP (RArr8 32) a' m' c' l') L) : Ctr Tryd.prog 19 #[.slice a m c, .slice a' m' c'] κ L (fun v M => v = vB (decide (l = l')) ∧ M = L) :=
  Ctr.read0 (Rs := [SlP (RArr8 32) a m c l, SlP (RArr8 32) a' m' c' l']) (by simp [h1, h2]) fun _ hL => sameh_ok (hL _ (by simp)) (hL _ (by simp))
set_option maxRecDepth 100000 in
theorem around_ok {κ : World} {L : List Assn} (n most : Int) (h1 : -9223372036854775808 ≤ n) (h2 : n ≤ 9223372036854775807) (h3 : 0 < most) :
    Ctr Tryd.prog 16 #[vI n, vI most] κ L (fun v M => v = vI (aroundV n most) ∧ M = L) := by
 refine Ctr.enter (vs := [vI n, vI most]) (m := 13) Tryd.func16 rfl rfl rfl ?_
 refine SG.seq ?_
 refine SG.region ?_
 refine RL.val (Wanted.free rfl) (V.assign rfl rfl) rfl ?_
 refine RL.nil ?_
 refine SG.seq ?_
 refine SG.seq ?_
 refine SG.region ?_
 refine RL.val (Wanted.free rfl) (V.move rfl rfl) rfl ?_
 refine RL.cmp (Wanted.free rfl) (V.bin rfl rfl rfl B.lss) rfl (fun h3 => ?_) (fun h3 => ?_)
 ·
  refine RL.nil ?_
  refine SG.cond_true rfl ?_
  refine SG.region ?_
  refine RL.val (Wanted.free rfl) (V.move rfl rfl) rfl ?_
  refine RL.val (Wanted.free rfl) (V.bin rfl rfl rfl (B.addI (by omega) (by omega))) rfl ?_
  refine RL.val (Wanted.free rfl) (V.negI rfl rfl (by omega) (by omega)) rfl ?_
  refine RL.val (Wanted.free rfl) (V.assign rfl rfl) rfl ?_
  refine RL.nil ?_
  refine SG.seq ?_
  refine SG.region ?_
  refine RL.val (Wanted.free rfl) (V.move rfl rfl) rfl ?_
  refine RL.val (Wanted.free rfl) (V.move rfl rfl) rfl ?_
  refine RL.val (Wanted.free rfl) (V.bin rfl rfl rfl (B.remI (by omega) (by omega))) rfl ?_
  refine RL.val (Wanted.free rfl) (V.assign rfl rfl) rfl ?_
  refine RL.nil ?_
  refine SG.retE (Ret.r1 Tryd.func16 rfl (.tmp rfl)) ?_ ⟨by simp [aroundV, *], rfl⟩
  exact entX
 ·
  refine RL.nil ?_
  refine SG.cond_false rfl ?_
  refine SG.skip ?_
  refine SG.seq ?_
  refine SG.region ?_
  refine RL.val (Wanted.free rfl) (V.move rfl rfl) rfl ?_
  refine RL.val (Wanted.free rfl) (V.move rfl rfl) rfl ?_
  refine RL.val (Wanted.free rfl) (V.bin rfl rfl rfl (B.remI (by omega) (by omega))) rfl ?_
  refine RL.val (Wanted.free rfl) (V.assign rfl rfl) rfl ?_
  refine RL.nil ?_
  refine SG.retE (Ret.r1 Tryd.func16 rfl (.tmp rfl)) ?_ ⟨by simp [aroundV, *], rfl⟩
  exact entX

end Go.Proofs.YtcbloadpffjkiaaDoor
