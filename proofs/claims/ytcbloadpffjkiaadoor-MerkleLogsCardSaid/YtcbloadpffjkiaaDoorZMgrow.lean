/- Growth. -/
import Derived.Test.YtcbloadpffjkiaaDoorZMpath
namespace Go.Proofs.YtcbloadpffjkiaaDoor
open Go.Wk Go.Mk Go.Sha

def growAt (κ : World) (l : List Hs) : Prop := ∀ (k : Nat) (w : Bool) (L : List Assn) (a : Option Addr) (m c : Nat), 1 ≤ k → k ≤ l.length → Sl (RArr8 32) a m c l ∈ L → Tab L → Ctr Tryd.prog 53 #[vI (k : Int), .slice a m c, vB w] κ L (fun v M => ∃ a2 c2, v = .slice a2 (growV k l w).length c2 ∧ M = Sl (RArr8 32) a2 (growV k l w).length c2 (growV k l w) :: L)
set_option maxRecDepth 100000 in
set_option maxHeartbeats 1000000 in
theorem grow_step {κ : World} {L : List Assn} {a : Option Addr} {m c : Nat} {l : List Hs} {n : Nat} {w : Bool} (h1 : 1 ≤ n) (hnl : n ≤ l.length) (hm : Sl (RArr8 32) a m c l ∈ L) (hT : Tab L) (hb : l.length ≤ 65536) (ih : ∀ l' : List Hs, l'.length < l.length → growAt κ l') :
    Ctr Tryd.prog 53 #[vI (n : Int), .slice a m c, vB w] κ L (fun v M => ∃ a2 c2, v = .slice a2 (growV n l w).length c2 ∧ M = Sl (RArr8 32) a2 (growV n l w).length c2 (growV n l w) :: L) := by
 refine Ctr.enter (vs := [vI (n : Int), .slice a m c, vB w]) (m := 48) Tryd.func53 rfl rfl rfl ?_
 unfold Tab at hT
 refine SG.fact (fun w hs => Sep.slArr hs hm) fun h32 => ?_
 refine SG.sl hm fun hn hc hc63 => ?_
 subst hn
 refine SG.seq ?_
 refine SG.region ?_
 refine RL.val (Wanted.free rfl) (V.assign rfl rfl) rfl ?_
 refine RL.nil ?_
 refine SG.seq ?_
 refine SG.seq ?_
 refine SG.region ?_
 refine RL.val (Wanted.free rfl) (V.move rfl rfl) rfl ?_
 refine RL.val (Wanted.free rfl) (V.move rfl rfl) rfl ?_
 refine RL.val (Wanted.free rfl) (V.len rfl rfl el22.under rfl) rfl ?_
 refine RL.cmp (Wanted.free rfl) (V.bin rfl rfl rfl B.eql) rfl (fun h5 => ?_) (fun h5 => ?_)
 ·
  refine RL.nil ?_
  refine SG.cond_true rfl ?_
  refine SG.seq ?_
  refine SG.seq ?_
  obtain rfl : n = l.length := by omega
  refine SG.region ?_
  refine RL.val (Wanted.free rfl) (V.move rfl rfl) rfl ?_
  refine RL.nil ?_
  refine SG.cond rfl (fun h7 => ?_) (fun h7 => ?_)
  ·
   have hw : w = true := h7
   subst hw
   refine SG.seq ?_
   refine SG.region ?_
   refine RL.val (Wanted.free rfl) (V.assign rfl rfl) rfl ?_
   refine RL.nil ?_
   refine SG.ent (Sl.nil (T := RArr8 32)) ?_
   refine SG.retE (Ret.r1 Tryd.func53 rfl (.tmp rfl)) ?_ ⟨none, 0, by first | (rw [grow_whole]; done) | (rw [grow_whole]; rfl), by first | (rw [grow_whole]; done) | (rw [grow_whole]; rfl)⟩
   exact entX
  ·
   have hw : w = false := h7
   subst hw
   have h32y := root_len h32
   refine SG.skip ?_
   refine SG.seq ?_
   refine SG.ent (Sl.nil (T := RArr8 32)) ?_
   refine SG.region ?_
   refine RL.val (Wanted.free rfl) (V.move rfl rfl) rfl ?_
   refine RL.eff (Wanted.free rfl) (E.call rfl go13 rfl (root_ok (l := l) memX (by unfold Tab; repeat (first | exact List.Mem.head _ | assumption | apply List.Mem.tail)) hb)) rfl ?_
   rintro _ _ ⟨rfl, rfl⟩
   refine RL.eff (Wanted.free rfl) (E.lit1 ((rootV l).map v8) rfl el22.slice ze25 (by simp) (by decide) (by decide) rfl rfl (by rw [List.length_map]; exact h32y)) rfl ?_
   rintro _ _ ⟨b15, rfl, rfl⟩
   refine RL.ent (Buf.lit1' (T := RArr8 32) (b := b15) (e := 25) (y := rootV l) Pick.here (by rw [List.length_map]; exact h32y) (fun _ => ⟨rfl, h32y⟩)) ?_
   refine RL.publish (T := RArr8 32) Pick.here ?_
   refine RL.eff (Wanted.free rfl) (E.call rfl go56 rfl (with_ok (l := []) (l' := [rootV l]) memX memX (by simp) (by simp) (by simp))) rfl ?_
   rintro _ _ ⟨a16, c16, rfl, rfl⟩
   refine RL.publish (T := RArr8 32) (a := a16) Pick.here ?_
   refine RL.val (Wanted.free rfl) (V.assign rfl rfl) rfl ?_
   refine RL.nil ?_
   refine SG.retE (Ret.r1 Tryd.func53 rfl (.tmp rfl)) ?_ ⟨_, _, by first | (rw [grow_part]; done) | (rw [grow_part]; rfl), by first | (rw [grow_part]; done) | (rw [grow_part]; rfl)⟩
   exact entX
 ·
  refine RL.nil ?_
  refine SG.cond_false rfl ?_
  refine SG.skip ?_
  refine SG.seq ?_
  have hne : n ≠ l.length := by omega
  obtain ⟨k, hk⟩ : ∃ k, spl l.length = k := ⟨_, rfl⟩
  have hk1 := spl_lt (n := l.length) (by omega)
  have hk2 := spl_pos l.length
  rw [hk] at hk1 hk2
  refine SG.region ?_
  refine RL.val (Wanted.free rfl) (V.move rfl rfl) rfl ?_
  refine RL.val (Wanted.free rfl) (V.len rfl rfl el22.under rfl) rfl ?_
  refine RL.eff (Wanted.free rfl) (E.call rfl go46 rfl (split_ok (n := l.length) (by omega) (by omega))) rfl ?_
  rintro _ _ ⟨rfl, rfl⟩
  rw [hk]
  refine RL.val (Wanted.free rfl) (V.assign rfl rfl) rfl ?_
  refine RL.nil ?_
  refine SG.seq ?_
  refine SG.seq ?_
  refine SG.region ?_
  refine RL.val (Wanted.free rfl) (V.move rfl rfl) rfl ?_
  refine RL.val (Wanted.free rfl) (V.move rfl rfl) rfl ?_
  refine RL.cmp (Wanted.free rfl) (V.bin rfl rfl rfl B.leq) rfl (fun h20 => ?_) (fun h20 => ?_)
  ·
   refine RL.nil ?_
   refine SG.cond_true rfl ?_
   refine SG.seq ?_
   refine SG.cut (T := RArr8 32) (lo := 0) (hi := k) (l' := l.take (k)) (a := a) (l := l) memX (by omega) (by omega) (by rw [List.drop_zero, Nat.sub_zero]) ?_
   refine SG.cut (T := RArr8 32) (lo := k) (hi := l.length) (l' := l.drop (k)) (a := a) (l := l) memX (by omega) (by omega) (List.take_of_length_le (by rw [List.length_drop]; omega)) ?_
   have h32y : (rootV (l.drop k)).length = 32 := (root_len (fun x hx => h32 x (List.mem_of_mem_drop hx)))
   have hgl := grow_len _ n (l.take k) w (Nat.le_refl _) h1 (by rw [List.length_take]; omega)
   rw [List.length_take] at hgl
   refine SG.drawL 13 13 wide rfl rfl ?_
   refine RH.val 0 rfl krX krX krX krX (Wanted.free rfl) (V.move rfl rfl) rfl ?_
   refine RH.val 1 rfl krX krX krX krX (Wanted.free rfl) (V.move rfl rfl) rfl ?_
   refine RH.val 2 rfl krX krX krX krX (Wanted.free rfl) (V.move rfl rfl) rfl ?_
   refine RH.val 3 rfl krX krX krX krX (Wanted.free rfl) (V.slice (T := (RArr8 32)) (lo := 0) (hi := k) rfl el22.slice rfl rfl ⟨_, _, rfl, (by first | rfl | omega)⟩ (by omega) (by omega)) rfl ?_
   refine RH.val 4 rfl krX krX krX krX (Wanted.free rfl) (V.move rfl rfl) rfl ?_
   refine RH.val 6 rfl krX krX krX krX (Wanted.free rfl) (V.move rfl rfl) rfl ?_
   refine RH.val 7 rfl krX krX krX krX (Wanted.free rfl) (V.move rfl rfl) rfl ?_
   refine RH.val 8 rfl krX krX krX krX (Wanted.free rfl) (V.slice (T := (RArr8 32)) (lo := k) (hi := l.length) rfl el22.slice rfl ⟨_, _, rfl, (by first | rfl | omega)⟩ rfl (by omega) (by omega)) rfl ?_
   refine RH.one (i := 5) krX ?_
   refine RHone.eff rfl (Wanted.free rfl) (E.call rfl go53 rfl (ih (l.take k) (by rw [List.length_take]; omega) n w _ _ _ _ h1 (by rw [List.length_take]; omega) memX (by unfold Tab; repeat (first | exact List.Mem.head _ | assumption | apply List.Mem.tail)))) rfl ?_
   rintro _ _ ⟨a28, c28, rfl, rfl⟩
   refine ⟨.inr entX, ?_⟩
   refine RH.one (i := 9) krX ?_
   refine RHone.eff rfl (Wanted.free rfl) (E.call rfl go13 rfl (root_ok (l := l.drop k) memX (by unfold Tab; repeat (first | exact List.Mem.head _ | assumption | apply List.Mem.tail)) (by rw [List.length_drop]; omega))) rfl ?_
   rintro _ _ ⟨rfl, rfl⟩
   refine ⟨.inr entX, ?_⟩
   refine RH.one (i := 10) krX ?_
   refine RHone.eff rfl (Wanted.free rfl) (E.lit1 ((rootV (l.drop k)).map v8) rfl el22.slice ze25 (by simp) (by decide) (by decide) rfl rfl (by rw [List.length_map]; exact h32y)) rfl ?_
   rintro _ _ ⟨b33, rfl, rfl⟩
   refine ⟨.inr entX, ?_⟩
   refine RH.ent (Buf.lit1' (T := RArr8 32) (b := b33) (e := 25) (y := rootV (l.drop k)) Pick.here (by rw [List.length_map]; exact h32y) (fun _ => ⟨rfl, h32y⟩)) ?_
   refine RH.publish (T := RArr8 32) Pick.here ?_
   refine RH.one (i := 11) krX ?_
   refine RHone.eff rfl (Wanted.free rfl) (E.call rfl go56 rfl (with_ok (l := growV n (l.take k) w) (l' := [rootV (l.drop k)]) memX memX (by simp) (by omega) (by simp))) rfl ?_
   rintro _ _ ⟨a34, c34, rfl, rfl⟩
   refine ⟨.inr entX, ?_⟩
   refine RH.publish (T := RArr8 32) (a := a34) Pick.here ?_
   refine RH.val 12 rfl krX krX krX krX (Wanted.free rfl) (V.assign rfl rfl) rfl ?_
   refine RH.done krX ?_
   refine SG.retE (Ret.r1 Tryd.func53 rfl (.tmp rfl)) ?_ ⟨_, _, by rw [grow_lo (l := l) hne (by omega) (by rw [hk]; omega), hk], by rw [grow_lo (l := l) hne (by omega) (by rw [hk]; omega), hk]⟩
   exact entX
  ·
   refine RL.nil ?_
   refine SG.cond_false rfl ?_
   refine SG.skip ?_
   refine SG.seq ?_
   refine SG.cut (T := RArr8 32) (lo := 0) (hi := k) (l' := l.take (k)) (a := a) (l := l) memX (by omega) (by omega) (by rw [List.drop_zero, Nat.sub_zero]) ?_
   refine SG.cut (T := RArr8 32) (lo := k) (hi := l.length) (l' := l.drop (k)) (a := a) (l := l) memX (by omega) (by omega) (List.take_of_length_le (by rw [List.length_drop]; omega)) ?_
   have h32y : (rootV (l.take k)).length = 32 := (root_len (fun x hx => h32 x (List.mem_of_mem_take hx)))
   have hgl := grow_len _ (n - k) (l.drop k) false (Nat.le_refl _) (by omega) (by rw [List.length_drop]; omega)
   rw [List.length_drop] at hgl
   refine SG.drawL 14 14 wide rfl rfl ?_
   refine RH.val 0 rfl krX krX krX krX (Wanted.free rfl) (V.move rfl rfl) rfl ?_
   refine RH.val 1 rfl krX krX krX krX (Wanted.free rfl) (V.move rfl rfl) rfl ?_
   refine RH.val 2 rfl krX krX krX krX (Wanted.free rfl) (V.bin rfl rfl rfl (B.subI (by omega) (by omega))) rfl ?_
   rw [show (n : Int) - (k : Int) = ((n - k : Nat) : Int) from by omega]
   refine RH.val 3 rfl krX krX krX krX (Wanted.free rfl) (V.move rfl rfl) rfl ?_
   refine RH.val 4 rfl krX krX krX krX (Wanted.free rfl) (V.move rfl rfl) rfl ?_
   refine RH.val 5 rfl krX krX krX krX (Wanted.free rfl) (V.slice (T := (RArr8 32)) (lo := k) (hi := l.length) rfl el22.slice rfl ⟨_, _, rfl, (by first | rfl | omega)⟩ rfl (by omega) (by omega)) rfl ?_
   refine RH.val 7 rfl krX krX krX krX (Wanted.free rfl) (V.move rfl rfl) rfl ?_
   refine RH.val 8 rfl krX krX krX krX (Wanted.free rfl) (V.move rfl rfl) rfl ?_
   refine RH.val 9 rfl krX krX krX krX (Wanted.free rfl) (V.slice (T := (RArr8 32)) (lo := 0) (hi := k) rfl el22.slice rfl rfl ⟨_, _, rfl, (by first | rfl | omega)⟩ (by omega) (by omega)) rfl ?_
   refine RH.one (i := 6) krX ?_
   refine RHone.eff rfl (Wanted.free rfl) (E.call rfl go53 rfl (ih (l.drop k) (by rw [List.length_drop]; omega) (n - k) false _ _ _ _ (by omega) (by rw [List.length_drop]; omega) memX (by unfold Tab; repeat (first | exact List.Mem.head _ | assumption | apply List.Mem.tail)))) rfl ?_
   rintro _ _ ⟨a41, c41, rfl, rfl⟩
   refine ⟨.inr entX, ?_⟩
   refine RH.one (i := 10) krX ?_
   refine RHone.eff rfl (Wanted.free rfl) (E.call rfl go13 rfl (root_ok (l := l.take k) memX (by unfold Tab; repeat (first | exact List.Mem.head _ | assumption | apply List.Mem.tail)) (by rw [List.length_take]; omega))) rfl ?_
   rintro _ _ ⟨rfl, rfl⟩
   refine ⟨.inr entX, ?_⟩
   refine RH.one (i := 11) krX ?_
   refine RHone.eff rfl (Wanted.free rfl) (E.lit1 ((rootV (l.take k)).map v8) rfl el22.slice ze25 (by simp) (by decide) (by decide) rfl rfl (by rw [List.length_map]; exact h32y)) rfl ?_
   rintro _ _ ⟨b46, rfl, rfl⟩
   refine ⟨.inr entX, ?_⟩
   refine RH.ent (Buf.lit1' (T := RArr8 32) (b := b46) (e := 25) (y := rootV (l.take k)) Pick.here (by rw [List.length_map]; exact h32y) (fun _ => ⟨rfl, h32y⟩)) ?_
   refine RH.publish (T := RArr8 32) Pick.here ?_
   refine RH.one (i := 12) krX ?_
   refine RHone.eff rfl (Wanted.free rfl) (E.call rfl go56 rfl (with_ok (l := growV (n - k) (l.drop k) false) (l' := [rootV (l.take k)]) memX memX (by simp) (by omega) (by simp))) rfl ?_
   rintro _ _ ⟨a47, c47, rfl, rfl⟩
   refine ⟨.inr entX, ?_⟩
   refine RH.publish (T := RArr8 32) (a := a47) Pick.here ?_
   refine RH.val 13 rfl krX krX krX krX (Wanted.free rfl) (V.assign rfl rfl) rfl ?_
   refine RH.done krX ?_
   refine SG.retE (Ret.r1 Tryd.func53 rfl (.tmp rfl)) ?_ ⟨_, _, by rw [grow_hi (l := l) hne (by omega) (by rw [hk]; omega), hk], by rw [grow_hi (l := l) hne (by omega) (by rw [hk]; omega), hk]⟩
   exact entX

theorem grow_all {κ : World} : ∀ (N : Nat) (l : List Hs), l.length ≤ N → l.length ≤ 65536 → growAt κ l
  | 0, _, h, hb => fun _ _ _ _ _ _ h1 h2 hm hT => grow_step h1 h2 hm hT hb fun l' hl' => absurd hl' (by omega)
  | N + 1, _, h, hb => fun _ _ _ _ _ _ h1 h2 hm hT => grow_step h1 h2 hm hT hb fun l' hl' => grow_all N l' (by omega) (by omega)
set_option maxRecDepth 100000 in
set_option maxHeartbeats 1000000 in
theorem growth_ok {κ : World} {L : List Assn} {a : Option Addr} {m c : Nat} {l : List Hs} {i : Int} (hm : Sl (RArr8 32) a m c l ∈ L) (hT : Tab L) (hb : l.length ≤ 65536) (hii : inInt i) :
    Ctr Tryd.prog 20 #[.slice a m c, vI i] κ L (fun v M => ∃ a2 c2, v = .tuple #[.slice a2 (growL l i).length c2, vI (growE l.length i)] ∧ M = Sl (RArr8 32) a2 (growL l i).length c2 (growL l i) :: L) := by
 refine Ctr.enter (vs := [.slice a m c, vI i]) (m := 19) Tryd.func20 rfl rfl rfl ?_
 refine SG.sl hm fun hn hc hc63 => ?_
 subst hn
 refine SG.seq ?_
 refine SG.region ?_
 refine RL.val (Wanted.free rfl) (V.assign rfl rfl) rfl ?_
 refine RL.val (Wanted.free rfl) (V.assign rfl rfl) rfl ?_
 refine RL.nil ?_
 refine SG.seq ?_
 refine SG.seq ?_
 refine SG.region ?_
 refine RL.val (Wanted.free rfl) (V.move rfl rfl) rfl ?_
 refine RL.cmp (Wanted.free rfl) (V.bin rfl rfl rfl B.lss) rfl (fun h4 => ?_) (fun h4 => ?_)
 ·
  refine RL.val (Wanted.free rfl) (V.move rfl rfl) rfl ?_
  refine RL.skip (Wanted.no rfl rfl rfl rfl rfl) rfl ?_
  refine RL.skip (Wanted.no rfl rfl rfl rfl rfl) rfl ?_
  refine RL.skip (Wanted.no rfl rfl rfl rfl rfl) rfl ?_
  refine RL.skip (Wanted.no rfl rfl rfl rfl rfl) rfl ?_
  refine RL.val (Wanted.free rfl) (V.pick_true rfl rfl rfl) rfl ?_
  refine RL.nil ?_
  refine SG.cond_true rfl ?_
  refine SG.seq ?_
  refine SG.region ?_
  refine RL.val (Wanted.free rfl) (V.assign rfl rfl) rfl ?_
  refine RL.val (Wanted.free rfl) (V.assign rfl rfl) rfl ?_
  refine RL.nil ?_
  obtain ⟨hb1, hb2⟩ := growL_bad (l := l) (m := i) (by omega)
  refine SG.ent (Sl.nil (T := RArr8 32)) ?_
  refine SG.retE (Ret.r2 Tryd.func20 rfl (.tmp rfl) (.tmp rfl)) ?_ ⟨none, 0, by first | (rw [hb1, hb2]; done) | (rw [hb1, hb2]; rfl), by first | (rw [hb2]; done) | (rw [hb2]; rfl)⟩
  exact entX
 ·
  refine RL.val (Wanted.free rfl) (V.move rfl rfl) rfl ?_
  refine RL.val (Wanted.yes rfl rfl rfl rfl) (V.move rfl rfl) rfl ?_
  refine RL.val (Wanted.yes rfl rfl rfl rfl) (V.move rfl rfl) rfl ?_
  refine RL.val (Wanted.yes rfl rfl rfl rfl) (V.len rfl rfl el22.under rfl) rfl ?_
  refine RL.cmp (Wanted.yes rfl rfl rfl rfl) (V.bin rfl rfl rfl B.gtr) rfl (fun h12 => ?_) (fun h12 => ?_)
  ·
   refine RL.val (Wanted.free rfl) (V.pick_false rfl rfl rfl) rfl ?_
   refine RL.nil ?_
   refine SG.cond_true rfl ?_
   refine SG.seq ?_
   refine SG.region ?_
   refine RL.val (Wanted.free rfl) (V.assign rfl rfl) rfl ?_
   refine RL.val (Wanted.free rfl) (V.assign rfl rfl) rfl ?_
   refine RL.nil ?_
   obtain ⟨hb1, hb2⟩ := growL_bad (l := l) (m := i) (by omega)
   refine SG.ent (Sl.nil (T := RArr8 32)) ?_
   refine SG.retE (Ret.r2 Tryd.func20 rfl (.tmp rfl) (.tmp rfl)) ?_ ⟨none, 0, by first | (rw [hb1, hb2]; done) | (rw [hb1, hb2]; rfl), by first | (rw [hb2]; done) | (rw [hb2]; rfl)⟩
   exact entX
  ·
   refine RL.val (Wanted.free rfl) (V.pick_false rfl rfl rfl) rfl ?_
   refine RL.nil ?_
   refine SG.cond_false rfl ?_
   refine SG.skip ?_
   refine SG.seq ?_
   refine SG.seq ?_
   refine SG.region ?_
   refine RL.val (Wanted.free rfl) (V.move rfl rfl) rfl ?_
   refine RL.cmp (Wanted.free rfl) (V.bin rfl rfl rfl B.eql) rfl (fun h16 => ?_) (fun h16 => ?_)
   ·
    refine RL.nil ?_
    refine SG.cond_true rfl ?_
    refine SG.seq ?_
    refine SG.region ?_
    refine RL.val (Wanted.free rfl) (V.assign rfl rfl) rfl ?_
    refine RL.val (Wanted.free rfl) (V.assign rfl rfl) rfl ?_
    refine RL.nil ?_
    obtain rfl : i = 0 := by omega
    obtain ⟨hb1, hb2⟩ := growL_zero l
    refine SG.ent (Sl.nil (T := RArr8 32)) ?_
    refine SG.retE (Ret.r2 Tryd.func20 rfl (.tmp rfl) (.tmp rfl)) ?_ ⟨none, 0, by first | (rw [hb1, hb2]; done) | (rw [hb1, hb2]; rfl), by first | (rw [hb2]; done) | (rw [hb2]; rfl)⟩
    exact entX
   ·
    refine RL.nil ?_
    refine SG.cond_false rfl ?_
    refine SG.skip ?_
    refine SG.seq ?_
    obtain ⟨q, rfl⟩ := Int.eq_ofNat_of_zero_le (show 0 ≤ i by omega)
    obtain ⟨hg1, hg2⟩ := growL_ok (l := l) (m := q) (by omega) (by omega)
    refine SG.region ?_
    refine RL.val (Wanted.free rfl) (V.move rfl rfl) rfl ?_
    refine RL.val (Wanted.free rfl) (V.move rfl rfl) rfl ?_
    refine RL.eff (Wanted.free rfl) (E.call rfl go53 rfl (grow_all _ l (Nat.le_refl _) hb q true _ _ _ _ (by omega) (by omega) hm hT)) rfl ?_
    rintro _ _ ⟨a18, c18, rfl, rfl⟩
    refine RL.val (Wanted.free rfl) (V.assign rfl rfl) rfl ?_
    refine RL.val (Wanted.free rfl) (V.assign rfl rfl) rfl ?_
    refine RL.nil ?_
    refine SG.retE (Ret.r2 Tryd.func20 rfl (.tmp rfl) (.tmp rfl)) ?_ ⟨_, _, by rw [hg1, hg2], by rw [hg2]⟩
    exact entX

end Go.Proofs.YtcbloadpffjkiaaDoor
