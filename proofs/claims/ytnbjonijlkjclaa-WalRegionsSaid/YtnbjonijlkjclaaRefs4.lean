/- The reference. -/
import Derived.Test.YtnbjonijlkjclaaWbase
import Derived.Test.YtnbjonijlkjclaaWPlain6
namespace Go.Proofs.Ytnbjonijlkjclaa
open Go.Wk Go.Wl Go.Dsk

set_option maxRecDepth 100000 in
set_option maxHeartbeats 1000000 in
theorem sameBytes_ok {κ : World} {L : List Assn} {a a' : Option Addr} {m c m' c' : Nat} {l l' : List UInt8} (hm : Sl R8 a m c l ∈ L) (hm' : Sl R8 a' m' c' l' ∈ L) :
    Ctr Try.prog 38 #[.slice a m c, .slice a' m' c'] κ L (fun v M => v = vB (decide (l = l')) ∧ M = L) := by
 refine Ctr.enter (vs := [.slice a m c, .slice a' m' c']) (m := 10) Try.func38 rfl rfl rfl ?_
 refine SG.seq ?_
 refine SG.region ?_
 refine RL.val (Wanted.free rfl) (V.assign rfl rfl) rfl ?_
 refine RL.nil ?_
 refine SG.seq ?_
 refine SG.region ?_
 refine RL.val (Wanted.free rfl) (V.move rfl rfl) rfl ?_
 refine RL.val (Wanted.free rfl) (V.bytesToS rfl el35.under ui5 us9 rfl memX) rfl ?_
 refine RL.val (Wanted.free rfl) (V.move rfl rfl) rfl ?_
 refine RL.val (Wanted.free rfl) (V.bytesToS rfl el35.under ui5 us9 rfl memX) rfl ?_
 refine RL.val (Wanted.free rfl) (V.bin rfl rfl rfl B.eqlS) rfl ?_
 refine RL.val (Wanted.free rfl) (V.assign rfl rfl) rfl ?_
 refine RL.nil ?_
 refine SG.retE (Ret.r1 Try.func38 rfl (.tmp rfl)) ?_ ⟨rfl, rfl⟩
 exact entX

set_option maxRecDepth 100000 in
set_option maxHeartbeats 1000000 in
theorem sames_ok {κ : World} {L : List Assn} {a a' : Option Addr} {m c m' c' : Nat} {l l' : List (List UInt8)} (hm : Sl (Rep.slice R8) a m c l ∈ L) (hm' : Sl (Rep.slice R8) a' m' c' l' ∈ L) :
    Ctr Try.prog 28 #[.slice a m c, .slice a' m' c'] κ L (fun v M => v = vB (decide (l = l')) ∧ M = L) := by
 refine Ctr.enter (vs := [.slice a m c, .slice a' m' c']) (m := 27) Try.func28 rfl rfl rfl ?_
 refine SG.sl hm fun hn hc hc63 => ?_
 refine SG.sl hm' fun hn2 hc2 hc632 => ?_
 subst hn
 subst hn2
 refine SG.seq ?_
 refine SG.region ?_
 refine RL.val (Wanted.free rfl) (V.assign rfl rfl) rfl ?_
 refine RL.nil ?_
 refine SG.seq ?_
 refine SG.seq ?_
 refine SG.region ?_
 refine RL.val (Wanted.free rfl) (V.move rfl rfl) rfl ?_
 refine RL.val (Wanted.free rfl) (V.len rfl rfl el39.under rfl) rfl ?_
 refine RL.val (Wanted.free rfl) (V.move rfl rfl) rfl ?_
 refine RL.val (Wanted.free rfl) (V.len rfl rfl el39.under rfl) rfl ?_
 refine RL.cmp (Wanted.free rfl) (V.bin rfl rfl rfl B.neq) rfl (fun h6 => ?_) (fun h6 => ?_)
 ·
  have hne : ¬ l = l' := fun e => by rw [e] at h6; exact h6 rfl
  refine RL.nil ?_
  refine SG.cond_true rfl ?_
  refine SG.seq ?_
  refine SG.region ?_
  refine RL.val (Wanted.free rfl) (V.assign rfl rfl) rfl ?_
  refine RL.nil ?_
  refine SG.retE (Ret.r1 Try.func28 rfl (.tmp rfl)) ?_ ⟨by first | (rw [decide_eq_false hne]) | (rw [decide_eq_true heq]), rfl⟩
  exact entX
 ·
  have hln : l.length = l'.length := by omega
  refine RL.nil ?_
  refine SG.cond_false rfl ?_
  refine SG.skip ?_
  refine SG.seq ?_
  refine SG.seq ?_
  refine SG.region ?_
  refine RL.val (Wanted.free rfl) (V.assign rfl rfl) rfl ?_
  refine RL.nil ?_
  refine SG.block ?_
  refine SG.weaken (SG.loop2 (fun m0 al M => ∃ i : Nat, i ≤ l.length ∧ m0 = l.length - i ∧ l.take i = l'.take i ∧ al = [(0, .slice a l.length c), (1, .slice a' l'.length c'), (5, vI i)] ∧ M = L) (m0 := _) ⟨0, by omega, rfl, rfl, rfl, rfl⟩ ?_) ?_ ?_
  rotate_left
  ·
   repeat (first | exact EnvLe.nil _ | refine EnvLe.cons rfl ?_)
  ·
   exact entX
  rintro _ _ _ ⟨i, hi, rfl, htk, rfl, rfl⟩ ih0
  refine SG.seq ?_
  refine SG.seq ?_
  refine SG.region ?_
  refine RL.val (Wanted.free rfl) (V.move rfl rfl) rfl ?_
  refine RL.val (Wanted.free rfl) (V.move rfl rfl) rfl ?_
  refine RL.val (Wanted.free rfl) (V.len rfl rfl el39.under rfl) rfl ?_
  refine RL.cmp (Wanted.free rfl) (V.bin rfl rfl rfl B.lss) rfl (fun h12 => ?_) (fun h12 => ?_)
  ·
   refine RL.nil ?_
   refine SG.cond_true rfl ?_
   refine SG.skip ?_
   refine SG.seq ?_
   refine SG.block ?_
   refine SG.seq ?_
   have hil : i < l.length := by omega
   have hil2 : i < l'.length := by omega
   obtain ⟨x, hx⟩ : ∃ x, l[i]? = some x := ⟨_, List.getElem?_eq_getElem hil⟩
   obtain ⟨y, hy⟩ : ∃ y, l'[i]? = some y := ⟨_, List.getElem?_eq_getElem hil2⟩
   refine SG.drawL 10 10 wide rfl rfl ?_
   refine RH.val 0 rfl krX krX krX krX (Wanted.free rfl) (V.move rfl rfl) rfl ?_
   refine RH.val 1 rfl krX krX krX krX (Wanted.free rfl) (V.move rfl rfl) rfl ?_
   refine RH.val 2 rfl krX krX krX krX (Wanted.free rfl) (V.indexSl (j := i) rfl el39.slice rfl rfl memX (by first | rfl | omega) (by omega)) rfl ?_
   refine RH.val 4 rfl krX krX krX krX (Wanted.free rfl) (V.move rfl rfl) rfl ?_
   refine RH.val 5 rfl krX krX krX krX (Wanted.free rfl) (V.move rfl rfl) rfl ?_
   refine RH.val 6 rfl krX krX krX krX (Wanted.free rfl) (V.indexSl (j := i) rfl el39.slice rfl rfl memX (by first | rfl | omega) (by omega)) rfl ?_
   refine RH.two (i := 3) (j := 7) krX ?_ ?_
   ·
    refine RHone.eff rfl (Wanted.free rfl) (E.loadSlSl rfl on35 rfl memX hx) rfl ?_
    rintro _ _ ⟨a20, m20, c20, rfl, rfl⟩
    refine ⟨.inr entX, ?_⟩
    refine RH.one (i := 7) krX ?_
    refine RHone.eff rfl (Wanted.free rfl) (E.loadSlSl rfl on35 rfl memX hy) rfl ?_
    rintro _ _ ⟨a24, m24, c24, rfl, rfl⟩
    refine ⟨.inr entX, ?_⟩
    refine RH.one (i := 8) krX ?_
    refine RHone.eff rfl (Wanted.free rfl) (E.call rfl go38 rfl (sameBytes_ok (a := a20) (a' := a24) (l := x) (l' := y) memX memX)) rfl ?_
    rintro _ _ ⟨rfl, rfl⟩
    refine ⟨.inr entX, ?_⟩
    refine RH.pure 9 rfl krX krX krX krX (Wanted.free rfl) (V.not rfl rfl) rfl ?_
    refine RH.done krX ?_
    refine SG.cond rfl (fun h22 => ?_) (fun h22 => ?_)
    ·
     have hxy : ¬ x = y := by simpa using h22
     have hne : ¬ l = l' := fun e => hxy (by rw [e, hy] at hx; exact (Option.some.inj hx).symm)
     refine SG.seq ?_
     refine SG.region ?_
     refine RL.val (Wanted.free rfl) (V.assign rfl rfl) rfl ?_
     refine RL.nil ?_
     refine SG.retE (Ret.r1 Try.func28 rfl (.tmp rfl)) ?_ ⟨by first | (rw [decide_eq_false hne]) | (rw [decide_eq_true heq]), rfl⟩
     exact entX
    ·
     have hxy : x = y := by simpa using h22
     refine SG.skip ?_
     refine SG.inBlock ?_
     refine SG.region ?_
     refine RL.val (Wanted.free rfl) (V.move rfl rfl) rfl ?_
     refine RL.val (Wanted.free rfl) (V.bin rfl rfl rfl (B.addI (by omega) (by omega))) rfl ?_
     refine RL.val (Wanted.free rfl) (V.assign rfl rfl) rfl ?_
     refine RL.nil ?_
     refine SG.weaken (ih0 _ _ _ ?_ ⟨i + 1, by omega, rfl, by rw [List.take_add_one, List.take_add_one, htk, hx, hy, hxy], rfl, rfl⟩) ?_ ?_
     ·
      omega
     ·
      repeat (first | exact EnvLe.nil _ | refine EnvLe.cons rfl ?_)
     ·
      exact entX
   ·
    refine RHone.eff rfl (Wanted.free rfl) (E.loadSlSl rfl on35 rfl memX hy) rfl ?_
    rintro _ _ ⟨a24, m24, c24, rfl, rfl⟩
    refine ⟨.inr entX, ?_⟩
    refine RH.one (i := 3) krX ?_
    refine RHone.eff rfl (Wanted.free rfl) (E.loadSlSl rfl on35 rfl memX hx) rfl ?_
    rintro _ _ ⟨a20, m20, c20, rfl, rfl⟩
    refine ⟨.inr entX, ?_⟩
    refine RH.one (i := 8) krX ?_
    refine RHone.eff rfl (Wanted.free rfl) (E.call rfl go38 rfl (sameBytes_ok (a := a20) (a' := a24) (l := x) (l' := y) memX memX)) rfl ?_
    rintro _ _ ⟨rfl, rfl⟩
    refine ⟨.inr entX, ?_⟩
    refine RH.pure 9 rfl krX krX krX krX (Wanted.free rfl) (V.not rfl rfl) rfl ?_
    refine RH.done krX ?_
    refine SG.cond rfl (fun h30 => ?_) (fun h30 => ?_)
    ·
     have hxy : ¬ x = y := by simpa using h30
     have hne : ¬ l = l' := fun e => hxy (by rw [e, hy] at hx; exact (Option.some.inj hx).symm)
     refine SG.seq ?_
     refine SG.region ?_
     refine RL.val (Wanted.free rfl) (V.assign rfl rfl) rfl ?_
     refine RL.nil ?_
     refine SG.retE (Ret.r1 Try.func28 rfl (.tmp rfl)) ?_ ⟨by first | (rw [decide_eq_false hne]) | (rw [decide_eq_true heq]), rfl⟩
     exact entX
    ·
     have hxy : x = y := by simpa using h30
     refine SG.skip ?_
     refine SG.inBlock ?_
     refine SG.region ?_
     refine RL.val (Wanted.free rfl) (V.move rfl rfl) rfl ?_
     refine RL.val (Wanted.free rfl) (V.bin rfl rfl rfl (B.addI (by omega) (by omega))) rfl ?_
     refine RL.val (Wanted.free rfl) (V.assign rfl rfl) rfl ?_
     refine RL.nil ?_
     refine SG.weaken (ih0 _ _ _ ?_ ⟨i + 1, by omega, rfl, by rw [List.take_add_one, List.take_add_one, htk, hx, hy, hxy], rfl, rfl⟩) ?_ ?_
     ·
      omega
     ·
      repeat (first | exact EnvLe.nil _ | refine EnvLe.cons rfl ?_)
     ·
      exact entX
  ·
   refine RL.nil ?_
   refine SG.cond_false rfl ?_
   refine SG.exit rfl ?_
   refine SG.seq ?_
   have heq : l = l' := by rw [← List.take_length (l := l), ← List.take_length (l := l'), ← hln, ← show i = l.length by omega]; exact htk
   refine SG.region ?_
   refine RL.val (Wanted.free rfl) (V.assign rfl rfl) rfl ?_
   refine RL.nil ?_
   refine SG.retE (Ret.r1 Try.func28 rfl (.tmp rfl)) ?_ ⟨by first | (rw [decide_eq_false hne]) | (rw [decide_eq_true heq]), rfl⟩
   exact entX

theorem sames_rd {κ : World} {L : List Assn} {a a' : Option Addr} {m c m' c' : Nat} {l l' : List (List UInt8)} (h1 : Seen (SlP (Rep.slice R8) a m c l) L) (h2 : Seen (SlP (Rep.slice R8) a' m' c' l') L) : Ctr Try.prog 28 #[.slice a m c, .slice a' m' c'] κ L (fun v M => v = vB (decide (l = l')) ∧ M = L) :=
  Ctr.read0 (Rs := [SlP (Rep.slice R8) a m c l, SlP (Rep.slice R8) a' m' c' l']) (by simp [h1, h2]) fun _ hL => sames_ok (hL _ (by simp)) (hL _ (by simp))
theorem used_take (l : List (List UInt8)) (i : Nat) : usedV (l.take i) ≤ usedV l := used_pre (List.take_prefix _ _)
set_option maxRecDepth 100000 in
set_option maxHeartbeats 1000000 in
theorem left_ok {κ : World} {L : List Assn} {a : Option Addr} {m c : Nat} {l : List (List UInt8)} {n : Int} (hn0 : 0 ≤ n) (hn1 : n ≤ 1000000) (hu : usedV l ≤ 1000000000) (hm : Sl (Rep.slice R8) a m c l ∈ L) :
    Ctr Try.prog 49 #[vI n, .slice a m c] κ L (fun v M => v = vI (64 * (n - 2) - (usedV l : Int)) ∧ M = L) := by
 refine Ctr.enter (vs := [vI n, .slice a m c]) (m := 25) Try.func49 rfl rfl rfl ?_
 refine SG.sl hm fun hl hc hc63 => ?_
 subst hl
 refine SG.seq ?_
 refine SG.region ?_
 refine RL.val (Wanted.free rfl) (V.assign rfl rfl) rfl ?_
 refine RL.nil ?_
 refine SG.seq ?_
 refine SG.region ?_
 refine RL.val (Wanted.free rfl) (V.move rfl rfl) rfl ?_
 refine RL.val (Wanted.free rfl) (V.bin rfl rfl rfl (B.subI (by omega) (by omega))) rfl ?_
 refine RL.val (Wanted.free rfl) (V.bin rfl rfl rfl (B.mulI (by omega) (by omega))) rfl ?_
 refine RL.val (Wanted.free rfl) (V.assign rfl rfl) rfl ?_
 refine RL.nil ?_
 refine SG.seq ?_
 refine SG.seq ?_
 refine SG.region ?_
 refine RL.val (Wanted.free rfl) (V.assign rfl rfl) rfl ?_
 refine RL.nil ?_
 refine SG.block ?_
 refine SG.weaken (SG.loop2 (fun m0 al M => ∃ i : Nat, i ≤ l.length ∧ m0 = l.length - i ∧ al = [(0, vI n), (1, .slice a l.length c), (5, vI (64 * (n - 2) - (usedV (l.take i) : Int))), (6, vI i)] ∧ M = L) (m0 := _) ⟨0, by omega, rfl, by rw [show usedV (l.take 0) = 0 from rfl, show 64 * (n - 2) - ((0 : Nat) : Int) = 64 * (n - 2) from by omega], rfl⟩ ?_) ?_ ?_
 rotate_left
 ·
  repeat (first | exact EnvLe.nil _ | refine EnvLe.cons rfl ?_)
 ·
  exact entX
 rintro _ _ _ ⟨i, hi, rfl, rfl, rfl⟩ ih0
 refine SG.seq ?_
 refine SG.seq ?_
 refine SG.region ?_
 refine RL.val (Wanted.free rfl) (V.move rfl rfl) rfl ?_
 refine RL.val (Wanted.free rfl) (V.move rfl rfl) rfl ?_
 refine RL.val (Wanted.free rfl) (V.len rfl rfl el39.under rfl) rfl ?_
 refine RL.cmp (Wanted.free rfl) (V.bin rfl rfl rfl B.lss) rfl (fun h10 => ?_) (fun h10 => ?_)
 ·
  refine RL.nil ?_
  refine SG.cond_true rfl ?_
  refine SG.skip ?_
  refine SG.seq ?_
  refine SG.block ?_
  have hil : i < l.length := by omega
  obtain ⟨x, hx⟩ : ∃ x, l[i]? = some x := ⟨_, List.getElem?_eq_getElem hil⟩
  obtain ⟨_, _, hst⟩ := enc_step hx
  have hut := used_take l (i + 1)
  refine SG.region ?_
  refine RL.val (Wanted.free rfl) (V.move rfl rfl) rfl ?_
  refine RL.val (Wanted.free rfl) (V.move rfl rfl) rfl ?_
  refine RL.val (Wanted.free rfl) (V.move rfl rfl) rfl ?_
  refine RL.val (Wanted.free rfl) (V.indexSl (j := i) rfl el39.slice rfl rfl memX (by first | rfl | omega) (by omega)) rfl ?_
  refine RL.eff (Wanted.free rfl) (E.loadSlSl rfl on35 rfl memX hx) rfl ?_
  rintro _ _ ⟨a20, m20, c20, rfl, rfl⟩
  refine RL.sl (T := R8) (a := a20) (l := x) memX fun hxl _ _ => ?_
  refine RL.val (Wanted.free rfl) (V.len rfl rfl el35.under rfl) rfl ?_
  refine RL.val (Wanted.free rfl) (V.bin rfl rfl rfl (B.subI (by omega) (by omega))) rfl ?_
  refine RL.val (Wanted.free rfl) (V.bin rfl rfl rfl (B.subI (by omega) (by omega))) rfl ?_
  rw [show 64 * (n - 2) - (usedV (l.take i) : Int) - (m20 : Int) - 12 = 64 * (n - 2) - (usedV (l.take (i + 1)) : Int) from by omega]
  refine RL.val (Wanted.free rfl) (V.assign rfl rfl) rfl ?_
  refine RL.nil ?_
  refine SG.inBlock ?_
  refine SG.region ?_
  refine RL.val (Wanted.free rfl) (V.move rfl rfl) rfl ?_
  refine RL.val (Wanted.free rfl) (V.bin rfl rfl rfl (B.addI (by omega) (by omega))) rfl ?_
  refine RL.val (Wanted.free rfl) (V.assign rfl rfl) rfl ?_
  refine RL.nil ?_
  refine SG.weaken (ih0 _ _ _ ?_ ⟨i + 1, by omega, rfl, rfl, rfl⟩) ?_ ?_
  ·
   omega
  ·
   repeat (first | exact EnvLe.nil _ | refine EnvLe.cons rfl ?_)
  ·
   exact entX
 ·
  refine RL.nil ?_
  refine SG.cond_false rfl ?_
  refine SG.exit rfl ?_
  refine SG.seq ?_
  have hil : i = l.length := by omega
  rw [hil, List.take_length]
  refine SG.region ?_
  refine RL.val (Wanted.free rfl) (V.move rfl rfl) rfl ?_
  refine RL.val (Wanted.free rfl) (V.assign rfl rfl) rfl ?_
  refine RL.nil ?_
  refine SG.retE (Ret.r1 Try.func49 rfl (.tmp rfl)) ?_ ⟨rfl, rfl⟩
  exact entX

set_option maxRecDepth 100000 in
set_option maxHeartbeats 1000000 in
theorem room_ok {κ : World} {L : List Assn} {a : Option Addr} {m c : Nat} {l : List (List UInt8)} {n : Int} (hn0 : 0 ≤ n) (hn1 : n ≤ 1000000) (hu : usedV l ≤ 1000000000) (hm : Sl (Rep.slice R8) a m c l ∈ L) :
    Ctr Try.prog 26 #[vI n, .slice a m c] κ L (fun v M => v = vI (roomR n l) ∧ M = L) := by
 refine Ctr.enter (vs := [vI n, .slice a m c]) (m := 11) Try.func26 rfl rfl rfl ?_
 refine SG.seq ?_
 refine SG.region ?_
 refine RL.val (Wanted.free rfl) (V.assign rfl rfl) rfl ?_
 refine RL.nil ?_
 refine SG.seq ?_
 refine SG.region ?_
 refine RL.val (Wanted.free rfl) (V.move rfl rfl) rfl ?_
 refine RL.val (Wanted.free rfl) (V.move rfl rfl) rfl ?_
 refine RL.eff (Wanted.free rfl) (E.call rfl go49 rfl (left_ok (by assumption) (by assumption) (by assumption) memX)) rfl ?_
 rintro _ _ ⟨rfl, rfl⟩
 refine RL.val (Wanted.free rfl) (V.bin rfl rfl rfl (B.subI (by omega) (by omega))) rfl ?_
 refine RL.val (Wanted.free rfl) (V.min rfl rfl rfl rfl) rfl ?_
 refine RL.val (Wanted.free rfl) (V.max rfl rfl rfl rfl) rfl ?_
 refine RL.val (Wanted.free rfl) (V.assign rfl rfl) rfl ?_
 refine RL.nil ?_
 refine SG.retE (Ret.r1 Try.func26 rfl (.tmp rfl)) ?_ ⟨congrArg vI (by unfold roomR; (repeat (split)) <;> omega), rfl⟩
 exact entX

theorem roomR_bd (n : Int) (l : List (List UInt8)) : -1 ≤ roomR n l ∧ roomR n l ≤ 4000 := by unfold roomR; omega
theorem room_rd {κ : World} {L : List Assn} {a : Option Addr} {m c : Nat} {l : List (List UInt8)} {n : Int} (hn0 : 0 ≤ n) (hn1 : n ≤ 1000000) (hu : usedV l ≤ 1000000000) (h1 : Seen (SlP (Rep.slice R8) a m c l) L) : Ctr Try.prog 26 #[vI n, .slice a m c] κ L (fun v M => v = vI (roomR n l) ∧ M = L) :=
  Ctr.read0 (Rs := [SlP (Rep.slice R8) a m c l]) (by simp [h1]) fun _ hL => room_ok hn0 hn1 hu (hL _ (by simp))
set_option maxRecDepth 100000 in
set_option maxHeartbeats 1000000 in
theorem rapp_ok {κ : World} {L : List Assn} {a : Option Addr} {m c : Nat} {l : List (List UInt8)} {n : Int} (hn0 : 0 ≤ n) (hn1 : n ≤ 1000000) (hu : usedV l ≤ 1000000000) (hm : Sl (Rep.slice R8) a m c l ∈ L) {ar : Option Addr} {mr cr : Nat} {rec : List UInt8} (hr : Sl R8 ar mr cr rec ∈ L) :
    Ctr Try.prog 20 #[vI n, .slice a m c, .slice ar mr cr] κ L (fun v M => v = vI (appR n l rec) ∧ M = L) := by
 refine Ctr.enter (vs := [vI n, .slice a m c, .slice ar mr cr]) (m := 16) Try.func20 rfl rfl rfl ?_
 refine SG.sl hr fun hrl hrc _ => ?_
 have hrb := roomR_bd n l
 refine SG.seq ?_
 refine SG.region ?_
 refine RL.val (Wanted.free rfl) (V.assign rfl rfl) rfl ?_
 refine RL.nil ?_
 refine SG.seq ?_
 refine SG.seq ?_
 refine SG.region ?_
 refine RL.val (Wanted.free rfl) (V.move rfl rfl) rfl ?_
 refine RL.val (Wanted.free rfl) (V.len rfl rfl el35.under rfl) rfl ?_
 refine RL.cmp (Wanted.free rfl) (V.bin rfl rfl rfl B.gtr) rfl (fun h4 => ?_) (fun h4 => ?_)
 ·
  refine RL.nil ?_
  refine SG.cond_true rfl ?_
  refine SG.seq ?_
  refine SG.region ?_
  refine RL.val (Wanted.free rfl) (V.assign rfl rfl) rfl ?_
  refine RL.nil ?_
  refine SG.retE (Ret.r1 Try.func20 rfl (.tmp rfl)) ?_ ⟨congrArg vI (by unfold appR; first | (rw [if_pos (by omega)]; done) | (rw [if_neg (by omega), if_pos (by omega)]; done) | (rw [if_neg (by omega), if_neg (by omega)]; done)), rfl⟩
  exact entX
 ·
  refine RL.nil ?_
  refine SG.cond_false rfl ?_
  refine SG.skip ?_
  refine SG.seq ?_
  refine SG.seq ?_
  refine SG.region ?_
  refine RL.val (Wanted.free rfl) (V.move rfl rfl) rfl ?_
  refine RL.val (Wanted.free rfl) (V.len rfl rfl el35.under rfl) rfl ?_
  refine RL.val (Wanted.free rfl) (V.move rfl rfl) rfl ?_
  refine RL.val (Wanted.free rfl) (V.move rfl rfl) rfl ?_
  refine RL.eff (Wanted.free rfl) (E.call rfl go26 rfl (room_ok (by assumption) (by assumption) (by assumption) memX)) rfl ?_
  rintro _ _ ⟨rfl, rfl⟩
  refine RL.cmp (Wanted.free rfl) (V.bin rfl rfl rfl B.gtr) rfl (fun h11 => ?_) (fun h11 => ?_)
  ·
   refine RL.nil ?_
   refine SG.cond_true rfl ?_
   refine SG.seq ?_
   refine SG.region ?_
   refine RL.val (Wanted.free rfl) (V.assign rfl rfl) rfl ?_
   refine RL.nil ?_
   refine SG.retE (Ret.r1 Try.func20 rfl (.tmp rfl)) ?_ ⟨congrArg vI (by unfold appR; first | (rw [if_pos (by omega)]; done) | (rw [if_neg (by omega), if_pos (by omega)]; done) | (rw [if_neg (by omega), if_neg (by omega)]; done)), rfl⟩
   exact entX
  ·
   refine RL.nil ?_
   refine SG.cond_false rfl ?_
   refine SG.skip ?_
   refine SG.seq ?_
   refine SG.region ?_
   refine RL.val (Wanted.free rfl) (V.assign rfl rfl) rfl ?_
   refine RL.nil ?_
   refine SG.retE (Ret.r1 Try.func20 rfl (.tmp rfl)) ?_ ⟨congrArg vI (by unfold appR; first | (rw [if_pos (by omega)]; done) | (rw [if_neg (by omega), if_pos (by omega)]; done) | (rw [if_neg (by omega), if_neg (by omega)]; done)), rfl⟩
   exact entX

theorem rapp_rd {κ : World} {L : List Assn} {a : Option Addr} {m c : Nat} {l : List (List UInt8)} {n : Int} (hn0 : 0 ≤ n) (hn1 : n ≤ 1000000) (hu : usedV l ≤ 1000000000) {ar : Option Addr} {mr cr : Nat} {rec : List UInt8} (h1 : Seen (SlP (Rep.slice R8) a m c l) L) (h2 : Seen (SlP R8 ar mr cr rec) L) : Ctr Try.prog 20 #[vI n, .slice a m c, .slice ar mr cr] κ L (fun v M => v = vI (appR n l rec) ∧ M = L) :=
  Ctr.read0 (Rs := [SlP (Rep.slice R8) a m c l, SlP R8 ar mr cr rec]) (by simp [h1, h2]) fun _ hL => rapp_ok hn0 hn1 hu (hL _ (by simp)) (hL _ (by simp))
set_option maxRecDepth 100000 in
set_option maxHeartbeats 1000000 in
theorem betw_ok {κ : World} {L : List Assn} {a a' : Option Addr} {m c m' c' : Nat} {l l' : List (List UInt8)} {least : Int} (hm : Sl (Rep.slice R8) a m c l ∈ L) (hm' : Sl (Rep.slice R8) a' m' c' l' ∈ L) :
    Ctr Try.prog 36 #[.slice a m c, vI least, .slice a' m' c'] κ L (fun v M => v = vB (decide (betw l least l')) ∧ M = L) := by
 refine Ctr.enter (vs := [.slice a m c, vI least, .slice a' m' c']) (m := 24) Try.func36 rfl rfl rfl ?_
 refine SG.sl hm fun hn hc hc63 => ?_
 refine SG.sl hm' fun hn2 hc2 hc632 => ?_
 subst hn
 subst hn2
 refine SG.seq ?_
 refine SG.region ?_
 refine RL.val (Wanted.free rfl) (V.assign rfl rfl) rfl ?_
 refine RL.nil ?_
 refine SG.seq ?_
 refine SG.seq ?_
 refine SG.region ?_
 refine RL.val (Wanted.free rfl) (V.move rfl rfl) rfl ?_
 refine RL.val (Wanted.free rfl) (V.len rfl rfl el39.under rfl) rfl ?_
 refine RL.val (Wanted.free rfl) (V.move rfl rfl) rfl ?_
 refine RL.cmp (Wanted.free rfl) (V.bin rfl rfl rfl B.lss) rfl (fun h5 => ?_) (fun h5 => ?_)
 ·
  have hne : ¬ betw l least l' := fun e => by have := e.1; omega
  refine RL.val (Wanted.free rfl) (V.move rfl rfl) rfl ?_
  refine RL.skip (Wanted.no rfl rfl rfl rfl rfl) rfl ?_
  refine RL.skip (Wanted.no rfl rfl rfl rfl rfl) rfl ?_
  refine RL.skip (Wanted.no rfl rfl rfl rfl rfl) rfl ?_
  refine RL.skip (Wanted.no rfl rfl rfl rfl rfl) rfl ?_
  refine RL.skip (Wanted.no rfl rfl rfl rfl rfl) rfl ?_
  refine RL.val (Wanted.free rfl) (V.pick_true rfl rfl rfl) rfl ?_
  refine RL.nil ?_
  refine SG.cond_true rfl ?_
  refine SG.seq ?_
  refine SG.region ?_
  refine RL.val (Wanted.free rfl) (V.assign rfl rfl) rfl ?_
  refine RL.nil ?_
  refine SG.retE (Ret.r1 Try.func36 rfl (.tmp rfl)) ?_ ⟨by rw [decide_eq_false hne], rfl⟩
  exact entX
 ·
  refine RL.val (Wanted.free rfl) (V.move rfl rfl) rfl ?_
  refine RL.val (Wanted.yes rfl rfl rfl rfl) (V.move rfl rfl) rfl ?_
  refine RL.val (Wanted.yes rfl rfl rfl rfl) (V.len rfl rfl el39.under rfl) rfl ?_
  refine RL.val (Wanted.yes rfl rfl rfl rfl) (V.move rfl rfl) rfl ?_
  refine RL.val (Wanted.yes rfl rfl rfl rfl) (V.len rfl rfl el39.under rfl) rfl ?_
  refine RL.cmp (Wanted.yes rfl rfl rfl rfl) (V.bin rfl rfl rfl B.gtr) rfl (fun h13 => ?_) (fun h13 => ?_)
  ·
   have hne : ¬ betw l least l' := fun e => by have := e.2.1; omega
   refine RL.val (Wanted.free rfl) (V.pick_false rfl rfl rfl) rfl ?_
   refine RL.nil ?_
   refine SG.cond_true rfl ?_
   refine SG.seq ?_
   refine SG.region ?_
   refine RL.val (Wanted.free rfl) (V.assign rfl rfl) rfl ?_
   refine RL.nil ?_
   refine SG.retE (Ret.r1 Try.func36 rfl (.tmp rfl)) ?_ ⟨by rw [decide_eq_false hne], rfl⟩
   exact entX
  ·
   refine RL.val (Wanted.free rfl) (V.pick_false rfl rfl rfl) rfl ?_
   refine RL.nil ?_
   refine SG.cond_false rfl ?_
   refine SG.skip ?_
   refine SG.seq ?_
   refine SG.region ?_
   refine RL.val (Wanted.free rfl) (V.move rfl rfl) rfl ?_
   refine RL.val (Wanted.free rfl) (V.move rfl rfl) rfl ?_
   refine RL.val (Wanted.free rfl) (V.move rfl rfl) rfl ?_
   refine RL.val (Wanted.free rfl) (V.len rfl rfl el39.under rfl) rfl ?_
   refine RL.eff (Wanted.free rfl) (E.slice (lo := 0) (hi := l.length) rfl el39.slice rfl memX rfl ⟨_, _, rfl, (by first | rfl | omega)⟩ (by omega) (by omega)) rfl ?_
   intro _ _ hK19
   try rw [List.drop_zero] at hK19
   iterate 2 (try rw [Nat.sub_zero] at hK19)
   obtain ⟨a19, rfl, rfl⟩ := hK19
   refine RL.eff (Wanted.free rfl) (E.call rfl go28 rfl (sames_ok (a := a) (l := l) (l' := l'.take l.length) memX memX)) rfl ?_
   rintro _ _ ⟨rfl, rfl⟩
   refine RL.val (Wanted.free rfl) (V.assign rfl rfl) rfl ?_
   refine RL.nil ?_
   refine SG.retE (Ret.r1 Try.func36 rfl (.tmp rfl)) ?_ ⟨congrArg vB (decide_eq_decide.2 ⟨fun e => ⟨by omega, by omega, e⟩, fun e => e.2.2⟩), rfl⟩
   exact entX

theorem betw_rd {κ : World} {L : List Assn} {a a' : Option Addr} {m c m' c' : Nat} {l l' : List (List UInt8)} {least : Int} (h1 : Seen (SlP (Rep.slice R8) a m c l) L) (h2 : Seen (SlP (Rep.slice R8) a' m' c' l') L) : Ctr Try.prog 36 #[.slice a m c, vI least, .slice a' m' c'] κ L (fun v M => v = vB (decide (betw l least l')) ∧ M = L) :=
  Ctr.read0 (Rs := [SlP (Rep.slice R8) a m c l, SlP (Rep.slice R8) a' m' c' l']) (by simp [h1, h2]) fun _ hL => betw_ok (hL _ (by simp)) (hL _ (by simp))
set_option maxRecDepth 100000 in
set_option maxHeartbeats 1000000 in
theorem copied_ok {κ : World} {L : List Assn} {a : Option Addr} {m c : Nat} {l : List (List UInt8)} (hm : Sl (Rep.slice R8) a m c l ∈ L) (hml : l.length ≤ 1000000) (hb : ∀ r ∈ l, r.length ≤ 1000000) :
    Ctr Try.prog 51 #[.slice a m c] κ L (fun v M => ∃ a' c', v = .slice a' l.length c' ∧ M = Buf (Rep.slice R8) 35 a' l.length c' l :: L) := by
 refine Ctr.enter (vs := [.slice a m c]) (m := 21) Try.func51 rfl rfl rfl ?_
 refine SG.sl hm fun hn hc hc63 => ?_
 subst hn
 refine SG.seq ?_
 refine SG.region ?_
 refine RL.val (Wanted.free rfl) (V.assign rfl rfl) rfl ?_
 refine RL.nil ?_
 refine SG.seq ?_
 refine SG.region ?_
 refine RL.val (Wanted.free rfl) (V.assign rfl rfl) rfl ?_
 refine RL.nil ?_
 refine SG.seq ?_
 refine SG.seq ?_
 refine SG.region ?_
 refine RL.val (Wanted.free rfl) (V.assign rfl rfl) rfl ?_
 refine RL.nil ?_
 refine SG.block ?_
 refine SG.ent (Buf.nil (T := Rep.slice R8) (e := 35)) ?_
 refine SG.weaken (SG.loop2 (fun m0 al M => ∃ (i : Nat) (a3 : Option Addr) (c3 : Nat), i ≤ l.length ∧ m0 = l.length - i ∧ al = [(0, .slice a l.length c), (3, .slice a3 i c3), (4, vI i)] ∧ M = Buf (Rep.slice R8) 35 a3 i c3 (l.take i) :: L) (m0 := _) ⟨0, none, 0, by omega, rfl, rfl, rfl⟩ ?_) ?_ ?_
 rotate_left
 ·
  repeat (first | exact EnvLe.nil _ | refine EnvLe.cons rfl ?_)
 ·
  exact entX
 rintro _ _ _ ⟨i, a3, c3, hi, rfl, rfl, rfl⟩ ih0
 refine SG.seq ?_
 refine SG.seq ?_
 refine SG.region ?_
 refine RL.val (Wanted.free rfl) (V.move rfl rfl) rfl ?_
 refine RL.val (Wanted.free rfl) (V.move rfl rfl) rfl ?_
 refine RL.val (Wanted.free rfl) (V.len rfl rfl el39.under rfl) rfl ?_
 refine RL.cmp (Wanted.free rfl) (V.bin rfl rfl rfl B.lss) rfl (fun h7 => ?_) (fun h7 => ?_)
 ·
  refine RL.nil ?_
  refine SG.cond_true rfl ?_
  refine SG.skip ?_
  refine SG.seq ?_
  refine SG.block ?_
  have hil : i < l.length := by omega
  obtain ⟨x, hx⟩ : ∃ x, l[i]? = some x := ⟨_, List.getElem?_eq_getElem hil⟩
  have hxb := hb x (List.mem_of_getElem? hx)
  refine SG.region ?_
  refine RL.val (Wanted.free rfl) (V.move rfl rfl) rfl ?_
  refine RL.eff (Wanted.free rfl) (E.lit0 (T := R8) (e := 5) rfl rfl el35) rfl ?_
  rintro _ _ ⟨b12, rfl, rfl⟩
  refine RL.val (Wanted.free rfl) (V.move rfl rfl) rfl ?_
  refine RL.val (Wanted.free rfl) (V.move rfl rfl) rfl ?_
  refine RL.val (Wanted.free rfl) (V.indexSl (j := i) rfl el39.slice rfl rfl memX (by first | rfl | omega) (by omega)) rfl ?_
  refine RL.eff (Wanted.free rfl) (E.loadSlSl rfl on35 rfl memX hx) rfl ?_
  rintro _ _ ⟨a16, m16, c16, rfl, rfl⟩
  refine RL.sl (T := R8) (a := a16) (l := x) memX fun hxl _ _ => ?_
  refine RL.eff (Wanted.free rfl) (E.append (T := R8) rfl rfl rfl el35 el35.noInt rfl rfl pickX (Src.sl (T := R8) (a := a16) (l := x) (by decide) memX) (by first | omega | (simp; omega)) (by first | omega | (simp; omega))) rfl ?_
  intro _ _ hK14
  try rw [List.nil_append] at hK14
  try rw [Nat.zero_add] at hK14
  obtain ⟨a17, c17, rfl, rfl⟩ := hK14
  refine RL.publish (T := R8) (a := a17) Pick.here ?_
  refine RL.eff (Wanted.free rfl) (E.lit1 _ rfl el39.slice ze35 rfl (by decide) (by decide) rfl rfl rfl) rfl ?_
  rintro _ _ ⟨b18, rfl, rfl⟩
  refine RL.eff (Wanted.free rfl) (E.append (T := (Rep.slice R8)) rfl rfl rfl el39 el39.noInt rfl rfl pickX (Src.litSl (y := x) pickX memX) (by first | omega | (simp; omega)) (by first | omega | (simp; omega))) rfl ?_
  intro _ _ hK16
  try rw [List.nil_append] at hK16
  try rw [Nat.zero_add] at hK16
  rw [show l.take i ++ [x] = l.take (i + 1) from by rw [List.take_add_one, hx]; rfl] at hK16
  obtain ⟨a19, c19, rfl, rfl⟩ := hK16
  refine RL.val (Wanted.free rfl) (V.assign rfl rfl) rfl ?_
  refine RL.nil ?_
  refine SG.inBlock ?_
  refine SG.region ?_
  refine RL.val (Wanted.free rfl) (V.move rfl rfl) rfl ?_
  refine RL.val (Wanted.free rfl) (V.bin rfl rfl rfl (B.addI (by omega) (by omega))) rfl ?_
  refine RL.val (Wanted.free rfl) (V.assign rfl rfl) rfl ?_
  refine RL.nil ?_
  refine SG.weaken (ih0 _ _ _ ?_ ⟨i + 1, a19, c19, by omega, rfl, rfl, rfl⟩) ?_ ?_
  ·
   omega
  ·
   repeat (first | exact EnvLe.nil _ | refine EnvLe.cons rfl ?_)
  ·
   exact entX
 ·
  refine RL.nil ?_
  refine SG.cond_false rfl ?_
  refine SG.exit rfl ?_
  refine SG.seq ?_
  refine SG.region ?_
  refine RL.val (Wanted.free rfl) (V.move rfl rfl) rfl ?_
  refine RL.val (Wanted.free rfl) (V.assign rfl rfl) rfl ?_
  refine RL.nil ?_
  obtain rfl : i = l.length := by omega
  rw [List.take_length]
  refine SG.retE (Ret.r1 Try.func51 rfl (.tmp rfl)) ?_ ⟨_, _, rfl, rfl⟩
  exact entX

set_option maxRecDepth 100000 in
set_option maxHeartbeats 1000000 in
theorem torn_ok {κ : World} {L : List Assn} {a : Option Addr} {m c : Nat} {l : List Int} {n : Int} (hm : Sl RI a m c l ∈ L) (hi64 : ∀ x ∈ l, inInt x) (hn0 : 0 < n) (hn1 : n ≤ 1000000) :
    Ctr Try.prog 31 #[.slice a m c, vI n] κ L (fun v M => ∃ (a' : Option Addr) (m' c' : Nat) (ts : List Torn), v = .slice a' m' c' ∧ M = Buf RTorn 96 a' m' c' ts :: L) := by
 refine Ctr.enter (vs := [.slice a m c, vI n]) (m := 41) Try.func31 rfl rfl rfl ?_
 refine SG.sl hm fun hn hc hc63 => ?_
 subst hn
 refine SG.seq ?_
 refine SG.region ?_
 refine RL.val (Wanted.free rfl) (V.assign rfl rfl) rfl ?_
 refine RL.nil ?_
 refine SG.seq ?_
 refine SG.region ?_
 refine RL.val (Wanted.free rfl) (V.assign rfl rfl) rfl ?_
 refine RL.nil ?_
 refine SG.seq ?_
 refine SG.seq ?_
 refine SG.region ?_
 refine RL.val (Wanted.free rfl) (V.assign rfl rfl) rfl ?_
 refine RL.nil ?_
 refine SG.block ?_
 refine SG.ent (Buf.nil (T := RTorn) (e := 96)) ?_
 refine SG.weaken (SG.loop2 (fun m0 al M => ∃ (i k : Nat) (a3 : Option Addr) (c3 : Nat) (ts : List Torn), i ≤ 62 ∧ 3 * k = i ∧ m0 = 70 - i ∧ al = [(0, .slice a l.length c), (1, vI n), (5, .slice a3 k c3), (6, vI i)] ∧ M = Buf RTorn 96 a3 k c3 ts :: L) (m0 := _) ⟨0, 0, none, 0, [], by omega, rfl, rfl, rfl, rfl⟩ ?_) ?_ ?_
 rotate_left
 ·
  repeat (first | exact EnvLe.nil _ | refine EnvLe.cons rfl ?_)
 ·
  exact entX
 rintro _ _ _ ⟨i, k, a3, c3, ts, hi, hk, rfl, rfl, rfl⟩ ih0
 refine SG.seq ?_
 refine SG.seq ?_
 refine SG.region ?_
 refine RL.val (Wanted.free rfl) (V.move rfl rfl) rfl ?_
 refine RL.val (Wanted.free rfl) (V.bin rfl rfl rfl (B.addI (by omega) (by omega))) rfl ?_
 refine RL.val (Wanted.free rfl) (V.move rfl rfl) rfl ?_
 refine RL.val (Wanted.free rfl) (V.len rfl rfl el47.under rfl) rfl ?_
 refine RL.cmp (Wanted.free rfl) (V.bin rfl rfl rfl B.lss) rfl (fun h8 => ?_) (fun h8 => ?_)
 ·
  refine RL.val (Wanted.free rfl) (V.move rfl rfl) rfl ?_
  refine RL.val (Wanted.yes rfl rfl rfl rfl) (V.move rfl rfl) rfl ?_
  refine RL.cmp (Wanted.yes rfl rfl rfl rfl) (V.bin rfl rfl rfl B.lss) rfl (fun h11 => ?_) (fun h11 => ?_)
  ·
   refine RL.val (Wanted.free rfl) (V.pick_true rfl rfl rfl) rfl ?_
   refine RL.nil ?_
   refine SG.cond_true rfl ?_
   refine SG.skip ?_
   refine SG.seq ?_
   refine SG.block ?_
   obtain ⟨x, hx⟩ : ∃ x, l[i]? = some x := ⟨_, List.getElem?_eq_getElem (by omega)⟩
   obtain ⟨y, hy⟩ : ∃ y, l[i + 1]? = some y := ⟨_, List.getElem?_eq_getElem (by omega)⟩
   obtain ⟨z, hz⟩ : ∃ z, l[i + 2]? = some z := ⟨_, List.getElem?_eq_getElem (by omega)⟩
   have hxi := hi64 x (List.mem_of_getElem? hx)
   have hyi := hi64 y (List.mem_of_getElem? hy)
   have hzi := hi64 z (List.mem_of_getElem? hz)
   unfold inInt at hxi hyi hzi
   have hx2 := aroundV_bd (n := x) hn0
   have hy2 := aroundV_bd (n := y) (most := 5) (by omega)
   have hz2 := aroundV_bd (n := z) (most := 65) (by omega)
   refine SG.drawN 23 23 (L) wide rfl rfl (by repeat (first | exact Ent.refl _ | (apply Ent.cons; (· repeat (first | exact Pick.here | (refine Pick.sl ?_; (· repeat (first | exact List.Mem.head _ | assumption | apply List.Mem.tail))) | apply Pick.there))) | (refine Ent.trans (Ent.drop _ _) ?_))) ?_
   refine RH.val 0 rfl krX krX krX krX (Wanted.free rfl) (V.move rfl rfl) rfl ?_
   refine RH.val 1 rfl krX krX krX krX (Wanted.free rfl) (V.move rfl rfl) rfl ?_
   refine RH.val 2 rfl krX krX krX krX (Wanted.free rfl) (V.move rfl rfl) rfl ?_
   refine RH.val 3 rfl krX krX krX krX (Wanted.free rfl) (V.indexSl (j := i) rfl el47.slice rfl rfl memX (by first | rfl | omega) (by omega)) rfl ?_
   refine RH.val 4 rfl krX krX krX krX (Wanted.free rfl) (V.loadSc rfl on3 rfl memX hx) rfl ?_
   refine RH.val 5 rfl krX krX krX krX (Wanted.free rfl) (V.move rfl rfl) rfl ?_
   refine RH.val 7 rfl krX krX krX krX (Wanted.free rfl) (V.move rfl rfl) rfl ?_
   refine RH.val 8 rfl krX krX krX krX (Wanted.free rfl) (V.move rfl rfl) rfl ?_
   refine RH.val 9 rfl krX krX krX krX (Wanted.free rfl) (V.bin rfl rfl rfl (B.addI (by omega) (by omega))) rfl ?_
   refine RH.val 10 rfl krX krX krX krX (Wanted.free rfl) (V.indexSl (j := (i + 1)) rfl el47.slice rfl rfl memX (by first | rfl | omega) (by omega)) rfl ?_
   refine RH.val 11 rfl krX krX krX krX (Wanted.free rfl) (V.loadSc rfl on3 rfl memX hy) rfl ?_
   refine RH.val 13 rfl krX krX krX krX (Wanted.free rfl) (V.move rfl rfl) rfl ?_
   refine RH.val 14 rfl krX krX krX krX (Wanted.free rfl) (V.move rfl rfl) rfl ?_
   refine RH.val 15 rfl krX krX krX krX (Wanted.free rfl) (V.bin rfl rfl rfl (B.addI (by omega) (by omega))) rfl ?_
   refine RH.val 16 rfl krX krX krX krX (Wanted.free rfl) (V.indexSl (j := (i + 2)) rfl el47.slice rfl rfl memX (by first | rfl | omega) (by omega)) rfl ?_
   refine RH.val 17 rfl krX krX krX krX (Wanted.free rfl) (V.loadSc rfl on3 rfl memX hz) rfl ?_
   refine RH.one (i := 6) krX ?_
   refine RHone.eff rfl (Wanted.free rfl) (E.call rfl go9 rfl (around_ok _ _ (by omega) (by omega) (by omega))) rfl ?_
   rintro _ _ ⟨rfl, rfl⟩
   refine ⟨.inr entX, ?_⟩
   refine RH.one (i := 12) krX ?_
   refine RHone.eff rfl (Wanted.free rfl) (E.call rfl go9 rfl (around_ok _ _ (by omega) (by omega) (by omega))) rfl ?_
   rintro _ _ ⟨rfl, rfl⟩
   refine ⟨.inr entX, ?_⟩
   refine RH.one (i := 18) krX ?_
   refine RHone.eff rfl (Wanted.free rfl) (E.call rfl go9 rfl (around_ok _ _ (by omega) (by omega) (by omega))) rfl ?_
   rintro _ _ ⟨rfl, rfl⟩
   refine ⟨.inr entX, ?_⟩
   refine RH.val 19 rfl krX krX krX krX (Wanted.free rfl) (V.buildS [(0, _), (1, _), (2, _)] rfl bs96 (by exact ⟨rfl, ⟨_, rfl, rfl⟩, ⟨rfl, ⟨_, rfl, rfl⟩, ⟨rfl, ⟨_, rfl, rfl⟩, trivial⟩⟩⟩) rfl) rfl ?_
   refine RH.one (i := 20) krX ?_
   refine RHone.eff rfl (Wanted.free rfl) (E.lit1 [vI (aroundV x n), vI (aroundV y 5), vI (aroundV z 65)] rfl el60.slice ze96 rfl (by decide) (by decide) rfl rfl rfl) rfl ?_
   rintro _ _ ⟨b38, rfl, rfl⟩
   refine ⟨.inr entX, ?_⟩
   refine RH.one (i := 21) krX ?_
   refine RHone.eff rfl (Wanted.free rfl) (E.append (T := RTorn) rfl rfl rfl el60 el60.noInt rfl rfl pickX (Src.litDt (y := ⟨aroundV x n, aroundV y 5, aroundV z 65⟩) pickX rfl ⟨by show inInt (aroundV x n); unfold inInt; omega, by show inInt (aroundV y 5); unfold inInt; omega, by show inInt (aroundV z 65); unfold inInt; omega⟩) (by first | omega | (simp; omega)) (by first | omega | (simp; omega))) rfl ?_
   intro _ _ hK33
   try rw [List.nil_append] at hK33
   try rw [Nat.zero_add] at hK33
   obtain ⟨a39, c39, rfl, rfl⟩ := hK33
   refine ⟨.inr entX, ?_⟩
   refine RH.val 22 rfl krX krX krX krX (Wanted.free rfl) (V.assign rfl rfl) rfl ?_
   refine RH.done krX ?_
   refine SG.inBlock ?_
   refine SG.region ?_
   refine RL.val (Wanted.free rfl) (V.move rfl rfl) rfl ?_
   refine RL.val (Wanted.free rfl) (V.bin rfl rfl rfl (B.addI (by omega) (by omega))) rfl ?_
   refine RL.val (Wanted.free rfl) (V.assign rfl rfl) rfl ?_
   refine RL.nil ?_
   refine SG.weaken (ih0 _ _ _ ?_ ⟨i + 3, k + 1, a39, c39, ts ++ [⟨aroundV x n, aroundV y 5, aroundV z 65⟩], by omega, by omega, rfl, rfl, rfl⟩) ?_ ?_
   ·
    omega
   ·
    repeat (first | exact EnvLe.nil _ | refine EnvLe.cons rfl ?_)
   ·
    exact entX
  ·
   refine RL.val (Wanted.free rfl) (V.pick_true rfl rfl rfl) rfl ?_
   refine RL.nil ?_
   refine SG.cond_false rfl ?_
   refine SG.exit rfl ?_
   refine SG.seq ?_
   refine SG.region ?_
   refine RL.val (Wanted.free rfl) (V.move rfl rfl) rfl ?_
   refine RL.val (Wanted.free rfl) (V.assign rfl rfl) rfl ?_
   refine RL.nil ?_
   refine SG.retE (Ret.r1 Try.func31 rfl (.tmp rfl)) ?_ ⟨_, _, _, ts, rfl, rfl⟩
   exact entX
 ·
  refine RL.val (Wanted.free rfl) (V.move rfl rfl) rfl ?_
  refine RL.skip (Wanted.no rfl rfl rfl rfl rfl) rfl ?_
  refine RL.skip (Wanted.no rfl rfl rfl rfl rfl) rfl ?_
  refine RL.val (Wanted.free rfl) (V.pick_false rfl rfl rfl) rfl ?_
  refine RL.nil ?_
  refine SG.cond_false rfl ?_
  refine SG.exit rfl ?_
  refine SG.seq ?_
  refine SG.region ?_
  refine RL.val (Wanted.free rfl) (V.move rfl rfl) rfl ?_
  refine RL.val (Wanted.free rfl) (V.assign rfl rfl) rfl ?_
  refine RL.nil ?_
  refine SG.retE (Ret.r1 Try.func31 rfl (.tmp rfl)) ?_ ⟨_, _, _, ts, rfl, rfl⟩
  exact entX

end Go.Proofs.Ytnbjonijlkjclaa
