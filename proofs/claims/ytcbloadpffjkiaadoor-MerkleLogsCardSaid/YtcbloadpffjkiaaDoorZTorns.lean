/- What survives. -/
import Derived.Test.YtcbloadpffjkiaaDoorZWbase
namespace Go.Proofs.YtcbloadpffjkiaaDoor
open Go.Wk Go.Wl Go.Dsk

set_option maxRecDepth 100000 in
set_option maxHeartbeats 1000000 in
theorem torn_ok {κ : World} {L : List Assn} {a : Option Addr} {m c : Nat} {l : List Int} {n : Int} (hm : Sl RI a m c l ∈ L) (hi64 : ∀ x ∈ l, inInt x) (hn0 : 0 < n) (hn1 : n ≤ 1000000) :
    Ctr Tryd.prog 41 #[.slice a m c, vI n] κ L (fun v M => ∃ (a' : Option Addr) (m' c' : Nat) (ts : List Torn), v = .slice a' m' c' ∧ M = Buf RTorn 115 a' m' c' ts :: L) := by
 refine Ctr.enter (vs := [.slice a m c, vI n]) (m := 41) Tryd.func41 rfl rfl rfl ?_
 refine SG.sl hm fun hn hc hc63 => ?_
 subst hn
 refine SG.seq ?_
 refine SG.region ?_
 refine RL.val (Wanted.free rfl) (V.assign rfl rfl) rfl ?_
 refine RL.nil ?_
 refine SG.seq ?_
 refine SG.region ?_
 refine RL.val (Wanted.free rfl) (V.assign rfl rfl) rfl ?_
 refine RL.nil ?_
 refine SG.seq ?_
 refine SG.seq ?_
 refine SG.region ?_
 refine RL.val (Wanted.free rfl) (V.assign rfl rfl) rfl ?_
 refine RL.nil ?_
 refine SG.block ?_
 refine SG.ent (Buf.nil (T := RTorn) (e := 115)) ?_
 refine SG.weaken (SG.loop2 (fun m0 al M => ∃ (i k : Nat) (a3 : Option Addr) (c3 : Nat) (ts : List Torn), i ≤ 62 ∧ 3 * k = i ∧ m0 = 70 - i ∧ al = [(0, .slice a l.length c), (1, vI n), (5, .slice a3 k c3), (6, vI i)] ∧ M = Buf RTorn 115 a3 k c3 ts :: L) (m0 := _) ⟨0, 0, none, 0, [], by omega, rfl, rfl, rfl, rfl⟩ ?_) ?_ ?_
 rotate_left
 ·
  repeat (first | exact EnvLe.nil _ | refine EnvLe.cons rfl ?_)
 ·
  exact entX
 rintro _ _ _ ⟨i, k, a3, c3, ts, hi, hk, rfl, rfl, rfl⟩ ih0
 refine SG.seq ?_
 refine SG.seq ?_
 refine SG.region ?_
 refine RL.val (Wanted.free rfl) (V.move rfl rfl) rfl ?_
 refine RL.val (Wanted.free rfl) (V.bin rfl rfl rfl (B.addI (by omega) (by omega))) rfl ?_
 refine RL.val (Wanted.free rfl) (V.move rfl rfl) rfl ?_
 refine RL.val (Wanted.free rfl) (V.len rfl rfl el30.under rfl) rfl ?_
 refine RL.cmp (Wanted.free rfl) (V.bin rfl rfl rfl B.lss) rfl (fun h8 => ?_) (fun h8 => ?_)
 ·
  refine RL.val (Wanted.free rfl) (V.move rfl rfl) rfl ?_
  refine RL.val (Wanted.yes rfl rfl rfl rfl) (V.move rfl rfl) rfl ?_
  refine RL.cmp (Wanted.yes rfl rfl rfl rfl) (V.bin rfl rfl rfl B.lss) rfl (fun h11 => ?_) (fun h11 => ?_)
  ·
   refine RL.val (Wanted.free rfl) (V.pick_true rfl rfl rfl) rfl ?_
   refine RL.nil ?_
   refine SG.cond_true rfl ?_
   refine SG.skip ?_
   refine SG.seq ?_
   refine SG.block ?_
   obtain ⟨x, hx⟩ : ∃ x, l[i]? = some x := ⟨_, List.getElem?_eq_getElem (by omega)⟩
   obtain ⟨y, hy⟩ : ∃ y, l[i + 1]? = some y := ⟨_, List.getElem?_eq_getElem (by omega)⟩
   obtain ⟨z, hz⟩ : ∃ z, l[i + 2]? = some z := ⟨_, List.getElem?_eq_getElem (by omega)⟩
   have hxi := hi64 x (List.mem_of_getElem? hx)
   have hyi := hi64 y (List.mem_of_getElem? hy)
   have hzi := hi64 z (List.mem_of_getElem? hz)
   unfold inInt at hxi hyi hzi
   have hx2 := aroundV_bd (n := x) hn0
   have hy2 := aroundV_bd (n := y) (most := 5) (by omega)
   have hz2 := aroundV_bd (n := z) (most := 65) (by omega)
   refine SG.drawN 23 23 (L) wide rfl rfl (by repeat (first | exact Ent.refl _ | (apply Ent.cons; (· repeat (first | exact Pick.here | (refine Pick.sl ?_; (· repeat (first | exact List.Mem.head _ | assumption | apply List.Mem.tail))) | apply Pick.there))) | (refine Ent.trans (Ent.drop _ _) ?_))) ?_
   refine RH.val 0 rfl krX krX krX krX (Wanted.free rfl) (V.move rfl rfl) rfl ?_
   refine RH.val 1 rfl krX krX krX krX (Wanted.free rfl) (V.move rfl rfl) rfl ?_
   refine RH.val 2 rfl krX krX krX krX (Wanted.free rfl) (V.move rfl rfl) rfl ?_
   refine RH.val 3 rfl krX krX krX krX (Wanted.free rfl) (V.indexSl (j := i) rfl el30.slice rfl rfl memX (by first | rfl | omega) (by omega)) rfl ?_
   refine RH.val 4 rfl krX krX krX krX (Wanted.free rfl) (V.loadSc rfl on3 rfl memX hx) rfl ?_
   refine RH.val 5 rfl krX krX krX krX (Wanted.free rfl) (V.move rfl rfl) rfl ?_
   refine RH.val 7 rfl krX krX krX krX (Wanted.free rfl) (V.move rfl rfl) rfl ?_
   refine RH.val 8 rfl krX krX krX krX (Wanted.free rfl) (V.move rfl rfl) rfl ?_
   refine RH.val 9 rfl krX krX krX krX (Wanted.free rfl) (V.bin rfl rfl rfl (B.addI (by omega) (by omega))) rfl ?_
   refine RH.val 10 rfl krX krX krX krX (Wanted.free rfl) (V.indexSl (j := (i + 1)) rfl el30.slice rfl rfl memX (by first | rfl | omega) (by omega)) rfl ?_
   refine RH.val 11 rfl krX krX krX krX (Wanted.free rfl) (V.loadSc rfl on3 rfl memX hy) rfl ?_
   refine RH.val 13 rfl krX krX krX krX (Wanted.free rfl) (V.move rfl rfl) rfl ?_
   refine RH.val 14 rfl krX krX krX krX (Wanted.free rfl) (V.move rfl rfl) rfl ?_
   refine RH.val 15 rfl krX krX krX krX (Wanted.free rfl) (V.bin rfl rfl rfl (B.addI (by omega) (by omega))) rfl ?_
   refine RH.val 16 rfl krX krX krX krX (Wanted.free rfl) (V.indexSl (j := (i + 2)) rfl el30.slice rfl rfl memX (by first | rfl | omega) (by omega)) rfl ?_
   refine RH.val 17 rfl krX krX krX krX (Wanted.free rfl) (V.loadSc rfl on3 rfl memX hz) rfl ?_
   refine RH.one (i := 6) krX ?_
   refine RHone.eff rfl (Wanted.free rfl) (E.call rfl go16 rfl (around_ok _ _ (by omega) (by omega) (by omega))) rfl ?_
   rintro _ _ ⟨rfl, rfl⟩
   refine ⟨.inr entX, ?_⟩
   refine RH.one (i := 12) krX ?_
   refine RHone.eff rfl (Wanted.free rfl) (E.call rfl go16 rfl (around_ok _ _ (by omega) (by omega) (by omega))) rfl ?_
   rintro _ _ ⟨rfl, rfl⟩
   refine ⟨.inr entX, ?_⟩
   refine RH.one (i := 18) krX ?_
   refine RHone.eff rfl (Wanted.free rfl) (E.call rfl go16 rfl (around_ok _ _ (by omega) (by omega) (by omega))) rfl ?_
   rintro _ _ ⟨rfl, rfl⟩
   refine ⟨.inr entX, ?_⟩
   refine RH.val 19 rfl krX krX krX krX (Wanted.free rfl) (V.buildS [(0, _), (1, _), (2, _)] rfl bs115 (by exact ⟨rfl, ⟨_, rfl, rfl⟩, ⟨rfl, ⟨_, rfl, rfl⟩, ⟨rfl, ⟨_, rfl, rfl⟩, trivial⟩⟩⟩) rfl) rfl ?_
   refine RH.one (i := 20) krX ?_
   refine RHone.eff rfl (Wanted.free rfl) (E.lit1 [vI (aroundV x n), vI (aroundV y 5), vI (aroundV z 65)] rfl el68.slice ze115 rfl (by decide) (by decide) rfl rfl rfl) rfl ?_
   rintro _ _ ⟨b38, rfl, rfl⟩
   refine ⟨.inr entX, ?_⟩
   refine RH.one (i := 21) krX ?_
   refine RHone.eff rfl (Wanted.free rfl) (E.append (T := RTorn) rfl rfl rfl el68 el68.noInt rfl rfl pickX (Src.litDt (y := ⟨aroundV x n, aroundV y 5, aroundV z 65⟩) pickX rfl ⟨by show inInt (aroundV x n); unfold inInt; omega, by show inInt (aroundV y 5); unfold inInt; omega, by show inInt (aroundV z 65); unfold inInt; omega⟩) (by first | omega | (simp; omega)) (by first | omega | (simp; omega))) rfl ?_
   intro _ _ hK33
   try rw [List.nil_append] at hK33
   try rw [Nat.zero_add] at hK33
   obtain ⟨a39, c39, rfl, rfl⟩ := hK33
   refine ⟨.inr entX, ?_⟩
   refine RH.val 22 rfl krX krX krX krX (Wanted.free rfl) (V.assign rfl rfl) rfl ?_
   refine RH.done krX ?_
   refine SG.inBlock ?_
   refine SG.region ?_
   refine RL.val (Wanted.free rfl) (V.move rfl rfl) rfl ?_
   refine RL.val (Wanted.free rfl) (V.bin rfl rfl rfl (B.addI (by omega) (by omega))) rfl ?_
   refine RL.val (Wanted.free rfl) (V.assign rfl rfl) rfl ?_
   refine RL.nil ?_
   refine SG.weaken (ih0 _ _ _ ?_ ⟨i + 3, k + 1, a39, c39, ts ++ [⟨aroundV x n, aroundV y 5, aroundV z 65⟩], by omega, by omega, rfl, rfl, rfl⟩) ?_ ?_
   ·
    omega
   ·
    repeat (first | exact EnvLe.nil _ | refine EnvLe.cons rfl ?_)
   ·
    exact entX
  ·
   refine RL.val (Wanted.free rfl) (V.pick_true rfl rfl rfl) rfl ?_
   refine RL.nil ?_
   refine SG.cond_false rfl ?_
   refine SG.exit rfl ?_
   refine SG.seq ?_
   refine SG.region ?_
   refine RL.val (Wanted.free rfl) (V.move rfl rfl) rfl ?_
   refine RL.val (Wanted.free rfl) (V.assign rfl rfl) rfl ?_
   refine RL.nil ?_
   refine SG.retE (Ret.r1 Tryd.func41 rfl (.tmp rfl)) ?_ ⟨_, _, _, ts, rfl, rfl⟩
   exact entX
 ·
  refine RL.val (Wanted.free rfl) (V.move rfl rfl) rfl ?_
  refine RL.skip (Wanted.no rfl rfl rfl rfl rfl) rfl ?_
  refine RL.skip (Wanted.no rfl rfl rfl rfl rfl) rfl ?_
  refine RL.val (Wanted.free rfl) (V.pick_false rfl rfl rfl) rfl ?_
  refine RL.nil ?_
  refine SG.cond_false rfl ?_
  refine SG.exit rfl ?_
  refine SG.seq ?_
  refine SG.region ?_
  refine RL.val (Wanted.free rfl) (V.move rfl rfl) rfl ?_
  refine RL.val (Wanted.free rfl) (V.assign rfl rfl) rfl ?_
  refine RL.nil ?_
  refine SG.retE (Ret.r1 Tryd.func41 rfl (.tmp rfl)) ?_ ⟨_, _, _, ts, rfl, rfl⟩
  exact entX

end Go.Proofs.YtcbloadpffjkiaaDoor
