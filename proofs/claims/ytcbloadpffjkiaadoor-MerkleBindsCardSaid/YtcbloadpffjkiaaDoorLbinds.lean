/- The law MerkleBinds. -/
import Derived.Test.YtcbloadpffjkiaaDoorMcol
namespace Go.Proofs.YtcbloadpffjkiaaDoor
open Go.Wk Go.Mk Go.Sha

theorem Sep.slInts {κ w : World} {L : List Assn} {a : Option Addr} {m c : Nat} {l : List Int} (hs : Sep κ w L) (hm : Sl RI a m c l ∈ L) : ∀ x ∈ l, inInt x := by
  obtain ⟨z, _, k1, _, _, k4⟩ := hs.sl hm
  intro x hx
  obtain ⟨j, hj⟩ := List.getElem?_of_mem hx
  have hjl := (List.getElem?_eq_some_iff.1 hj).1
  rcases k4 with k4 | ⟨b, off, cs, _, _, hr⟩
  · omega
  · exact (hr.2 j x hj).2
set_option maxRecDepth 100000 in
set_option maxHeartbeats 2000000 in
theorem binds_law {κ : World} {L : List Assn} {a a' : Option Addr} {m c m' c' : Nat} {ls : List (List UInt8)} {ps : List Int} {h : Hs} (hm : Sl (Rep.slice R8) a m c ls ∈ L) (hm' : Sl RI a' m' c' ps ∈ L) (hb : ∀ x ∈ ls, x.length ≤ 140737488355000) (hh : h.length = 32) (hT : Tab L) :
    Ctr Tryd.prog 7 #[.slice a m c, .slice a' m' c', .agg ((h).map v8).toArray] κ L (fun v M => v = vB true ∧ M = L) := by
 refine Ctr.enter (vs := [.slice a m c, .slice a' m' c', .agg ((h).map v8).toArray]) (m := 59) Tryd.func7 rfl rfl rfl ?_
 unfold Tab at hT
 refine SG.fact (fun w hs => Sep.slInts hs hm') fun hin => ?_
 refine SG.sl hm' fun hn' hc' hc63' => ?_
 subst hn'
 refine SG.seq ?_
 refine SG.region ?_
 refine RL.eff (Wanted.free rfl) (E.box (h.map v8) rfl rfl rfl) rfl ?_
 rintro _ _ ⟨b5, rfl, rfl⟩
 refine RL.val (Wanted.free rfl) (V.assign rfl rfl) rfl ?_
 refine RL.nil ?_
 refine SG.seq ?_
 refine SG.region ?_
 refine RL.val (Wanted.free rfl) (V.move rfl rfl) rfl ?_
 refine RL.eff (Wanted.free rfl) (E.call rfl go22 rfl (leaves_ok (most := 40) memX hb (by decide))) rfl ?_
 rintro _ _ ⟨a12, c12, rfl, rfl⟩
 refine RL.val (Wanted.free rfl) (V.assign rfl rfl) rfl ?_
 refine RL.nil ?_
 refine SG.seq ?_
 obtain ⟨s, hs⟩ : ∃ s, leavesV ls 40 = s := ⟨_, rfl⟩
 have hs32 : ∀ x ∈ s, x.length = 32 := by rw [← hs]; exact leaves32
 have hsl : s.length ≤ 40 := by rw [← hs, leaves_len]; omega
 rw [hs]
 refine SG.region ?_
 refine RL.eff (Wanted.free rfl) (E.lit0 (T := RArr8 32) rfl rfl el22) rfl ?_
 rintro _ _ ⟨b13, rfl, rfl⟩
 refine RL.val (Wanted.free rfl) (V.move rfl rfl) rfl ?_
 refine RL.eff (Wanted.free rfl) (E.append (T := (RArr8 32)) rfl rfl rfl el22 el22.noInt rfl rfl pickX (Src.sl (T := RArr8 32) (a := a12) (l := s) (by decide) memX) (by first | omega | (simp; omega)) (by first | omega | (simp; omega))) rfl ?_
 intro _ _ hK8
 try rw [List.nil_append] at hK8
 try rw [Nat.zero_add] at hK8
 obtain ⟨a15, c15, rfl, rfl⟩ := hK8
 refine RL.val (Wanted.free rfl) (V.assign rfl rfl) rfl ?_
 refine RL.nil ?_
 refine SG.seq ?_
 refine SG.seq ?_
 refine SG.region ?_
 refine RL.val (Wanted.free rfl) (V.assign rfl rfl) rfl ?_
 refine RL.nil ?_
 refine SG.block ?_
 refine SG.weaken (SG.loop2 (fun m0 al M => ∃ (i : Nat) (bl : List Hs), i ≤ ps.length ∧ bl.length = s.length ∧ (∀ x ∈ bl, x.length = 32) ∧ m0 = ps.length + 1 - i ∧ al = [(1, .slice a' ps.length c'), (5, ptr b5 0), (7, .slice a12 s.length c12), (8, .slice a15 bl.length c15), (9, vI i)] ∧ M = Buf (RArr8 32) 25 a15 (bl).length c15 (bl) :: Sl (RArr8 32) a12 s.length c12 s :: Blk b5 25 (h.map v8) :: L) (m0 := _) ⟨0, s, by omega, rfl, hs32, rfl, rfl, rfl⟩ ?_) ?_ ?_
 rotate_left
 ·
  repeat (first | exact EnvLe.nil _ | refine EnvLe.cons rfl ?_)
 ·
  exact entX
 rintro _ _ _ ⟨i, bl, hi, hlb, hb32, rfl, rfl, rfl⟩ ih0
 refine SG.seq ?_
 refine SG.seq ?_
 refine SG.region ?_
 refine RL.val (Wanted.free rfl) (V.move rfl rfl) rfl ?_
 refine RL.val (Wanted.free rfl) (V.move rfl rfl) rfl ?_
 refine RL.val (Wanted.free rfl) (V.len rfl rfl el30.under rfl) rfl ?_
 refine RL.cmp (Wanted.free rfl) (V.bin rfl rfl rfl B.lss) rfl (fun h14 => ?_) (fun h14 => ?_)
 ·
  refine RL.val (Wanted.free rfl) (V.move rfl rfl) rfl ?_
  refine RL.val (Wanted.yes rfl rfl rfl rfl) (V.move rfl rfl) rfl ?_
  refine RL.val (Wanted.yes rfl rfl rfl rfl) (V.len rfl rfl el22.under rfl) rfl ?_
  refine RL.cmp (Wanted.yes rfl rfl rfl rfl) (V.bin rfl rfl rfl B.gtr) rfl (fun h18 => ?_) (fun h18 => ?_)
  ·
   refine RL.val (Wanted.free rfl) (V.pick_true rfl rfl rfl) rfl ?_
   refine RL.nil ?_
   refine SG.cond_true rfl ?_
   refine SG.skip ?_
   refine SG.seq ?_
   refine SG.block ?_
   obtain ⟨y, hy⟩ : ∃ y, ps[i]? = some y := ⟨_, List.getElem?_eq_getElem (by omega)⟩
   have hyi := hin y (List.mem_of_getElem? hy)
   obtain ⟨q, hq, hq2⟩ := aroundV_nat (n := y) (most := (bl.length : Int)) (by omega)
   refine SG.buf (T := RArr8 32) (a := a15) (l := bl) pickX fun _ hc5 _ => ?_
   refine SG.bufAd (T := RArr8 32) (a := a15) pickX (by omega) fun ad had => ?_
   subst had
   refine SG.drawL 11 10 wide rfl rfl ?_
   refine RH.val 0 rfl krX krX krX krX (Wanted.free rfl) (V.move rfl rfl) rfl ?_
   refine RH.val 1 rfl krX krX krX krX (Wanted.free rfl) (V.move rfl rfl) rfl ?_
   refine RH.val 2 rfl krX krX krX krX (Wanted.free rfl) (V.move rfl rfl) rfl ?_
   refine RH.val 3 rfl krX krX krX krX (Wanted.free rfl) (V.indexSl (j := i) rfl el30.slice rfl rfl memX (by first | rfl | omega) (by omega)) rfl ?_
   refine RH.val 4 rfl krX krX krX krX (Wanted.free rfl) (V.loadSc (y := y) (j := i) rfl on3 rfl memX hy) rfl ?_
   refine RH.val 5 rfl krX krX krX krX (Wanted.free rfl) (V.move rfl rfl) rfl ?_
   refine RH.val 6 rfl krX krX krX krX (Wanted.free rfl) (V.len rfl rfl el22.under rfl) rfl ?_
   refine RH.val 8 rfl krX krX krX krX (Wanted.free rfl) (V.loadAgg (us := h.map v8) rfl ag25 rfl pickX (take8 hh) (by rw [List.length_map]; exact hh)) rfl ?_
   refine RH.one (i := 7) krX ?_
   refine RHone.eff rfl (Wanted.free rfl) (E.call rfl go16 rfl (around_ok _ _ hyi.1 hyi.2 (by omega))) rfl ?_
   rintro _ _ ⟨rfl, rfl⟩
   refine ⟨.inr entX, ?_⟩
   rw [hq]
   refine RH.val 9 rfl krX krX krX krX (Wanted.free rfl) (V.indexAd (j := q) rfl el22.slice rfl rfl (by first | rfl | omega) (by omega)) rfl ?_
   refine RH.one (i := 10) krX ?_
   refine RHone.eff rfl (Wanted.free rfl) (E.storeBuf (T := RArr8 32) (j := q) (y := h) (h.map v8) rfl sz25 rfl rfl rfl pickX (by omega) (fun _ _ _ => ⟨rfl, hh⟩)) rfl ?_
   rintro _ _ rfl
   refine ⟨.inl krX, ?_⟩
   refine RH.done krX ?_
   refine SG.inBlock ?_
   refine SG.region ?_
   refine RL.val (Wanted.free rfl) (V.move rfl rfl) rfl ?_
   refine RL.val (Wanted.free rfl) (V.bin rfl rfl rfl (B.addI (by omega) (by omega))) rfl ?_
   refine RL.val (Wanted.free rfl) (V.assign rfl rfl) rfl ?_
   refine RL.nil ?_
   refine SG.weaken (ih0 _ _ _ ?_ ⟨i + 1, bl.set q h, by omega, by rw [List.length_set]; exact hlb, fun x hx => ?_, rfl, rfl, rfl⟩) ?_ ?_
   ·
    omega
   ·
    rcases List.mem_or_eq_of_mem_set hx with hx | rfl
    ·
     exact hb32 x hx
    ·
     exact hh
   ·
    rw [List.length_set]
    repeat (first | exact EnvLe.nil _ | refine EnvLe.cons rfl ?_)
   ·
    rw [List.length_set]
    exact entX
  ·
   refine RL.val (Wanted.free rfl) (V.pick_true rfl rfl rfl) rfl ?_
   refine RL.nil ?_
   refine SG.cond_false rfl ?_
   refine SG.exit rfl ?_
   refine SG.seq ?_
   refine SG.publish (T := RArr8 32) (a := a15) pickX ?_
   refine SG.region ?_
   refine RL.val (Wanted.free rfl) (V.move rfl rfl) rfl ?_
   refine RL.val (Wanted.free rfl) (V.move rfl rfl) rfl ?_
   refine RL.eff (Wanted.free rfl) (E.call rfl go19 rfl (sameh_ok (l := s) (l' := bl) memX memX)) rfl ?_
   rintro _ _ ⟨rfl, rfl⟩
   obtain ⟨sd, hsd⟩ : ∃ sd, decide (s = bl) = sd := ⟨_, rfl⟩
   rw [hsd]
   refine RL.val (Wanted.free rfl) (V.assign rfl rfl) rfl ?_
   refine RL.nil ?_
   refine SG.seq ?_
   refine SG.seq ?_
   refine SG.region ?_
   refine RL.val (Wanted.free rfl) (V.move rfl rfl) rfl ?_
   refine RL.eff (Wanted.free rfl) (E.call rfl go13 rfl (root_ok (l := s) memX (by unfold Tab; repeat (first | exact List.Mem.head _ | assumption | apply List.Mem.tail)) (by omega))) rfl ?_
   rintro _ _ ⟨rfl, rfl⟩
   refine RL.val (Wanted.free rfl) (V.move rfl rfl) rfl ?_
   refine RL.eff (Wanted.free rfl) (E.call rfl go13 rfl (root_ok (l := bl) memX (by unfold Tab; repeat (first | exact List.Mem.head _ | assumption | apply List.Mem.tail)) (by omega))) rfl ?_
   rintro _ _ ⟨rfl, rfl⟩
   refine RL.cmp (Wanted.free rfl) (V.neqArr rfl ar25 on5 ui5 ce25 eg25 inj8 (root_len hs32) (root_len hb32) rfl rfl) rfl (fun h41 => ?_) (fun h41 => ?_)
   ·
    have hsf : sd = false := by rw [← hsd]; exact decide_eq_false (fun e => h41 (by rw [e]))
    subst hsf
    refine RL.nil ?_
    refine SG.cond_true rfl ?_
    refine SG.seq ?_
    refine SG.region ?_
    refine RL.val (Wanted.free rfl) (V.move rfl rfl) rfl ?_
    refine RL.val (Wanted.free rfl) (V.not rfl rfl) rfl ?_
    refine RL.val (Wanted.free rfl) (V.move rfl rfl) rfl ?_
    refine RL.eff (Wanted.yes rfl rfl rfl rfl) (E.call rfl go15 rfl (lives_ok (by unfold Tab; repeat (first | exact List.Mem.head _ | assumption | apply List.Mem.tail)))) rfl ?_
    rintro _ _ ⟨rfl, rfl⟩
    refine RL.val (Wanted.free rfl) (V.pick_true rfl rfl rfl) rfl ?_
    refine RL.val (Wanted.free rfl) (V.assign rfl rfl) rfl ?_
    refine RL.nil ?_
    refine SG.retE (Ret.r1 Tryd.func7 rfl (.tmp rfl)) ?_ ⟨rfl, rfl⟩
    exact entX
   ·
    have hre : rootV s = rootV bl := Decidable.byContradiction h41
    refine RL.nil ?_
    refine SG.cond_false rfl ?_
    refine SG.skip ?_
    refine SG.seq ?_
    refine SG.region ?_
    refine RL.val (Wanted.free rfl) (V.move rfl rfl) rfl ?_
    refine RL.val (Wanted.free rfl) (V.move rfl rfl) rfl ?_
    refine RL.split 51 rfl (fun g48 => ?_) (fun g48 => ?_)
    ·
     refine RL.skip (Wanted.no rfl rfl rfl rfl rfl) rfl ?_
     refine RL.skip (Wanted.no rfl rfl rfl rfl rfl) rfl ?_
     refine RL.skip (Wanted.no rfl rfl rfl rfl rfl) rfl ?_
     refine RL.val (Wanted.free rfl) (V.pick_true rfl rfl rfl) rfl ?_
     refine RL.val (Wanted.free rfl) (V.move rfl rfl) rfl ?_
     refine RL.eff (Wanted.yes rfl rfl rfl rfl) (E.call rfl go15 rfl (lives_ok (by unfold Tab; repeat (first | exact List.Mem.head _ | assumption | apply List.Mem.tail)))) rfl ?_
     rintro _ _ ⟨rfl, rfl⟩
     refine RL.val (Wanted.free rfl) (V.pick_true rfl rfl rfl) rfl ?_
     refine RL.val (Wanted.free rfl) (V.assign rfl rfl) rfl ?_
     refine RL.nil ?_
     refine SG.retE (Ret.r1 Tryd.func7 rfl (.tmp rfl)) ?_ ⟨rfl, rfl⟩
     exact entX
    ·
     have hne : s ≠ bl := of_decide_eq_false (hsd.trans g48)
     refine RL.val (Wanted.yes rfl rfl rfl rfl) (V.move rfl rfl) rfl ?_
     refine RL.val (Wanted.yes rfl rfl rfl rfl) (V.move rfl rfl) rfl ?_
     refine RL.eff (Wanted.yes rfl rfl rfl rfl) (E.call rfl go26 rfl (col_all _ s (Nat.le_refl _) (by omega) bl _ _ _ _ _ _ _ memX memX (by unfold Tab; repeat (first | exact List.Mem.head _ | assumption | apply List.Mem.tail)) hlb.symm hne hre)) rfl ?_
     rintro _ _ ⟨rfl, rfl⟩
     refine RL.val (Wanted.free rfl) (V.pick_false rfl rfl rfl) rfl ?_
     refine RL.val (Wanted.free rfl) (V.move rfl rfl) rfl ?_
     refine RL.eff (Wanted.yes rfl rfl rfl rfl) (E.call rfl go15 rfl (lives_ok (by unfold Tab; repeat (first | exact List.Mem.head _ | assumption | apply List.Mem.tail)))) rfl ?_
     rintro _ _ ⟨rfl, rfl⟩
     refine RL.val (Wanted.free rfl) (V.pick_true rfl rfl rfl) rfl ?_
     refine RL.val (Wanted.free rfl) (V.assign rfl rfl) rfl ?_
     refine RL.nil ?_
     refine SG.retE (Ret.r1 Tryd.func7 rfl (.tmp rfl)) ?_ ⟨rfl, rfl⟩
     exact entX
 ·
  refine RL.val (Wanted.free rfl) (V.move rfl rfl) rfl ?_
  refine RL.skip (Wanted.no rfl rfl rfl rfl rfl) rfl ?_
  refine RL.skip (Wanted.no rfl rfl rfl rfl rfl) rfl ?_
  refine RL.skip (Wanted.no rfl rfl rfl rfl rfl) rfl ?_
  refine RL.val (Wanted.free rfl) (V.pick_false rfl rfl rfl) rfl ?_
  refine RL.nil ?_
  refine SG.cond_false rfl ?_
  refine SG.exit rfl ?_
  refine SG.seq ?_
  refine SG.publish (T := RArr8 32) (a := a15) pickX ?_
  refine SG.region ?_
  refine RL.val (Wanted.free rfl) (V.move rfl rfl) rfl ?_
  refine RL.val (Wanted.free rfl) (V.move rfl rfl) rfl ?_
  refine RL.eff (Wanted.free rfl) (E.call rfl go19 rfl (sameh_ok (l := s) (l' := bl) memX memX)) rfl ?_
  rintro _ _ ⟨rfl, rfl⟩
  obtain ⟨sd, hsd⟩ : ∃ sd, decide (s = bl) = sd := ⟨_, rfl⟩
  rw [hsd]
  refine RL.val (Wanted.free rfl) (V.assign rfl rfl) rfl ?_
  refine RL.nil ?_
  refine SG.seq ?_
  refine SG.seq ?_
  refine SG.region ?_
  refine RL.val (Wanted.free rfl) (V.move rfl rfl) rfl ?_
  refine RL.eff (Wanted.free rfl) (E.call rfl go13 rfl (root_ok (l := s) memX (by unfold Tab; repeat (first | exact List.Mem.head _ | assumption | apply List.Mem.tail)) (by omega))) rfl ?_
  rintro _ _ ⟨rfl, rfl⟩
  refine RL.val (Wanted.free rfl) (V.move rfl rfl) rfl ?_
  refine RL.eff (Wanted.free rfl) (E.call rfl go13 rfl (root_ok (l := bl) memX (by unfold Tab; repeat (first | exact List.Mem.head _ | assumption | apply List.Mem.tail)) (by omega))) rfl ?_
  rintro _ _ ⟨rfl, rfl⟩
  refine RL.cmp (Wanted.free rfl) (V.neqArr rfl ar25 on5 ui5 ce25 eg25 inj8 (root_len hs32) (root_len hb32) rfl rfl) rfl (fun h67 => ?_) (fun h67 => ?_)
  ·
   have hsf : sd = false := by rw [← hsd]; exact decide_eq_false (fun e => h67 (by rw [e]))
   subst hsf
   refine RL.nil ?_
   refine SG.cond_true rfl ?_
   refine SG.seq ?_
   refine SG.region ?_
   refine RL.val (Wanted.free rfl) (V.move rfl rfl) rfl ?_
   refine RL.val (Wanted.free rfl) (V.not rfl rfl) rfl ?_
   refine RL.val (Wanted.free rfl) (V.move rfl rfl) rfl ?_
   refine RL.eff (Wanted.yes rfl rfl rfl rfl) (E.call rfl go15 rfl (lives_ok (by unfold Tab; repeat (first | exact List.Mem.head _ | assumption | apply List.Mem.tail)))) rfl ?_
   rintro _ _ ⟨rfl, rfl⟩
   refine RL.val (Wanted.free rfl) (V.pick_true rfl rfl rfl) rfl ?_
   refine RL.val (Wanted.free rfl) (V.assign rfl rfl) rfl ?_
   refine RL.nil ?_
   refine SG.retE (Ret.r1 Tryd.func7 rfl (.tmp rfl)) ?_ ⟨rfl, rfl⟩
   exact entX
  ·
   have hre : rootV s = rootV bl := Decidable.byContradiction h67
   refine RL.nil ?_
   refine SG.cond_false rfl ?_
   refine SG.skip ?_
   refine SG.seq ?_
   refine SG.region ?_
   refine RL.val (Wanted.free rfl) (V.move rfl rfl) rfl ?_
   refine RL.val (Wanted.free rfl) (V.move rfl rfl) rfl ?_
   refine RL.split 51 rfl (fun g74 => ?_) (fun g74 => ?_)
   ·
    refine RL.skip (Wanted.no rfl rfl rfl rfl rfl) rfl ?_
    refine RL.skip (Wanted.no rfl rfl rfl rfl rfl) rfl ?_
    refine RL.skip (Wanted.no rfl rfl rfl rfl rfl) rfl ?_
    refine RL.val (Wanted.free rfl) (V.pick_true rfl rfl rfl) rfl ?_
    refine RL.val (Wanted.free rfl) (V.move rfl rfl) rfl ?_
    refine RL.eff (Wanted.yes rfl rfl rfl rfl) (E.call rfl go15 rfl (lives_ok (by unfold Tab; repeat (first | exact List.Mem.head _ | assumption | apply List.Mem.tail)))) rfl ?_
    rintro _ _ ⟨rfl, rfl⟩
    refine RL.val (Wanted.free rfl) (V.pick_true rfl rfl rfl) rfl ?_
    refine RL.val (Wanted.free rfl) (V.assign rfl rfl) rfl ?_
    refine RL.nil ?_
    refine SG.retE (Ret.r1 Tryd.func7 rfl (.tmp rfl)) ?_ ⟨rfl, rfl⟩
    exact entX
   ·
    have hne : s ≠ bl := of_decide_eq_false (hsd.trans g74)
    refine RL.val (Wanted.yes rfl rfl rfl rfl) (V.move rfl rfl) rfl ?_
    refine RL.val (Wanted.yes rfl rfl rfl rfl) (V.move rfl rfl) rfl ?_
    refine RL.eff (Wanted.yes rfl rfl rfl rfl) (E.call rfl go26 rfl (col_all _ s (Nat.le_refl _) (by omega) bl _ _ _ _ _ _ _ memX memX (by unfold Tab; repeat (first | exact List.Mem.head _ | assumption | apply List.Mem.tail)) hlb.symm hne hre)) rfl ?_
    rintro _ _ ⟨rfl, rfl⟩
    refine RL.val (Wanted.free rfl) (V.pick_false rfl rfl rfl) rfl ?_
    refine RL.val (Wanted.free rfl) (V.move rfl rfl) rfl ?_
    refine RL.eff (Wanted.yes rfl rfl rfl rfl) (E.call rfl go15 rfl (lives_ok (by unfold Tab; repeat (first | exact List.Mem.head _ | assumption | apply List.Mem.tail)))) rfl ?_
    rintro _ _ ⟨rfl, rfl⟩
    refine RL.val (Wanted.free rfl) (V.pick_true rfl rfl rfl) rfl ?_
    refine RL.val (Wanted.free rfl) (V.assign rfl rfl) rfl ?_
    refine RL.nil ?_
    refine SG.retE (Ret.r1 Tryd.func7 rfl (.tmp rfl)) ?_ ⟨rfl, rfl⟩
    exact entX

end Go.Proofs.YtcbloadpffjkiaaDoor
