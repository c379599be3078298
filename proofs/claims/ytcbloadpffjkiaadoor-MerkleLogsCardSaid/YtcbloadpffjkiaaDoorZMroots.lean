/- Roots. -/
import Derived.Test.YtcbloadpffjkiaaDoorZMsmall
import Derived.Test.YtcbloadpffjkiaaDoorZNode
namespace Go.Proofs.YtcbloadpffjkiaaDoor
open Go.Wk Go.Mk Go.Sha

def rootAt (κ : World) (l : List Hs) : Prop := ∀ (L : List Assn) (a : Option Addr) (m c : Nat), Sl (RArr8 32) a m c l ∈ L → Tab L → Ctr Tryd.prog 13 #[.slice a m c] κ L (fun v M => v = .agg ((rootV l).map v8).toArray ∧ M = L)
set_option maxRecDepth 100000 in
set_option maxHeartbeats 1000000 in
theorem root_step {κ : World} {L : List Assn} {a : Option Addr} {m c : Nat} {l : List Hs} (hm : Sl (RArr8 32) a m c l ∈ L) (hT : Tab L) (hb : l.length ≤ 65536) (ih : ∀ l' : List Hs, l'.length < l.length → rootAt κ l') :
    Ctr Tryd.prog 13 #[.slice a m c] κ L (fun v M => v = .agg ((rootV l).map v8).toArray ∧ M = L) := by
 refine Ctr.enter (vs := [.slice a m c]) (m := 26) Tryd.func13 rfl rfl rfl ?_
 unfold Tab at hT
 refine SG.fact (fun w hs => Sep.slArr hs hm) fun h32 => ?_
 refine SG.sl hm fun hn hc hc63 => ?_
 subst hn
 refine SG.seq ?_
 refine SG.region ?_
 refine RL.eff (Wanted.free rfl) (E.alloc rfl ze25) rfl ?_
 rintro _ _ ⟨b1, rfl, rfl⟩
 refine RL.nil ?_
 refine SG.seq ?_
 refine SG.seq ?_
 refine SG.region ?_
 refine RL.val (Wanted.free rfl) (V.move rfl rfl) rfl ?_
 refine RL.val (Wanted.free rfl) (V.len rfl rfl el22.under rfl) rfl ?_
 refine RL.nil ?_
 refine SG.block ?_
 refine SG.seq ?_
 refine SG.region ?_
 refine RL.cmp (Wanted.free rfl) (V.bin rfl rfl rfl B.eql) rfl (fun h4 => ?_) (fun h4 => ?_)
 ·
  refine RL.val (Wanted.free rfl) (V.assign rfl rfl) rfl ?_
  refine RL.nil ?_
  refine SG.cond_true rfl ?_
  refine SG.seq ?_
  obtain rfl : l = [] := List.eq_nil_of_length_eq_zero (by omega)
  refine SG.ent (Sl.nil (T := R8)) ?_
  refine SG.region ?_
  refine RL.eff (Wanted.free rfl) (E.call rfl go45 rfl (sum_ok (l := []) memX (by unfold Tab; repeat (first | exact List.Mem.head _ | assumption | apply List.Mem.tail)) (by decide))) rfl ?_
  rintro _ _ ⟨rfl, rfl⟩
  refine RL.eff (Wanted.free rfl) (E.storeWhole rfl rfl rfl (by rw [List.length_map]; exact (sum_length _)) sz25 pickX (one8 _) (by first | rfl | (rw [List.length_replicate]))) rfl ?_
  rintro _ _ rfl
  refine RL.nil ?_
  refine SG.retE (Ret.r1 Tryd.func13 rfl (.agg rfl ag25 pickX (take8 (sum_length _)) (by rw [List.length_map]; exact (sum_length _)))) ?_ ⟨by rw [root_nil], rfl⟩
  exact entX
 ·
  refine RL.val (Wanted.free rfl) (V.assign rfl rfl) rfl ?_
  refine RL.nil ?_
  refine SG.cond_false rfl ?_
  refine SG.seq ?_
  refine SG.region ?_
  refine RL.cmp (Wanted.free rfl) (V.bin rfl rfl rfl B.eql) rfl (fun h9 => ?_) (fun h9 => ?_)
  ·
   refine RL.val (Wanted.free rfl) (V.assign rfl rfl) rfl ?_
   refine RL.nil ?_
   refine SG.cond_true rfl ?_
   refine SG.seq ?_
   obtain ⟨x, rfl⟩ : ∃ x, l = [x] := by
      match l, (by omega : l.length = 1) with
      | [x], _ => exact ⟨x, rfl⟩
   have hx := h32 x (List.mem_singleton.2 rfl)
   refine SG.region ?_
   refine RL.val (Wanted.free rfl) (V.move rfl rfl) rfl ?_
   refine RL.val (Wanted.free rfl) (V.indexSl (j := 0) rfl el22.slice rfl rfl memX (by first | rfl | omega) (by show 0 < 1; decide)) rfl ?_
   refine RL.val (Wanted.free rfl) (V.loadSlDt rfl ag25 rfl memX (show [x][0]? = some x from rfl)) rfl ?_
   refine RL.eff (Wanted.free rfl) (E.storeWhole rfl rfl rfl (by rw [List.length_map]; exact hx) sz25 pickX (one8 _) (by first | rfl | (rw [List.length_replicate]))) rfl ?_
   rintro _ _ rfl
   refine RL.nil ?_
   refine SG.retE (Ret.r1 Tryd.func13 rfl (.agg rfl ag25 pickX (take8 hx) (by rw [List.length_map]; exact hx))) ?_ ⟨by rw [root_one], rfl⟩
   exact entX
  ·
   refine RL.val (Wanted.free rfl) (V.assign rfl rfl) rfl ?_
   refine RL.nil ?_
   refine SG.cond_false rfl ?_
   refine SG.skip ?_
   refine SG.inBlock ?_
   refine SG.seq ?_
   obtain ⟨k, hk⟩ : ∃ k, spl l.length = k := ⟨_, rfl⟩
   have hk1 := spl_lt (n := l.length) (by omega)
   have hk2 := spl_pos l.length
   rw [hk] at hk1 hk2
   refine SG.region ?_
   refine RL.val (Wanted.free rfl) (V.move rfl rfl) rfl ?_
   refine RL.val (Wanted.free rfl) (V.len rfl rfl el22.under rfl) rfl ?_
   refine RL.eff (Wanted.free rfl) (E.call rfl go46 rfl (split_ok (n := l.length) (by omega) (by omega))) rfl ?_
   rintro _ _ ⟨rfl, rfl⟩
   rw [hk]
   refine RL.val (Wanted.free rfl) (V.assign rfl rfl) rfl ?_
   refine RL.nil ?_
   refine SG.seq ?_
   refine SG.cut (T := RArr8 32) (lo := 0) (hi := k) (l' := l.take (k)) (a := a) (l := l) memX (by omega) (by omega) (by rw [List.drop_zero, Nat.sub_zero]) ?_
   refine SG.cut (T := RArr8 32) (lo := k) (hi := l.length) (l' := l.drop (k)) (a := a) (l := l) memX (by omega) (by omega) (List.take_of_length_le (by rw [List.length_drop]; omega)) ?_
   refine SG.drawL 10 9 wide rfl rfl ?_
   refine RH.val 0 rfl krX krX krX krX (Wanted.free rfl) (V.move rfl rfl) rfl ?_
   refine RH.val 1 rfl krX krX krX krX (Wanted.free rfl) (V.move rfl rfl) rfl ?_
   refine RH.val 2 rfl krX krX krX krX (Wanted.free rfl) (V.slice (T := (RArr8 32)) (lo := 0) (hi := k) rfl el22.slice rfl rfl ⟨_, _, rfl, (by first | rfl | omega)⟩ (by omega) (by omega)) rfl ?_
   refine RH.val 4 rfl krX krX krX krX (Wanted.free rfl) (V.move rfl rfl) rfl ?_
   refine RH.val 5 rfl krX krX krX krX (Wanted.free rfl) (V.move rfl rfl) rfl ?_
   refine RH.val 6 rfl krX krX krX krX (Wanted.free rfl) (V.slice (T := (RArr8 32)) (lo := k) (hi := l.length) rfl el22.slice rfl ⟨_, _, rfl, (by first | rfl | omega)⟩ rfl (by omega) (by omega)) rfl ?_
   refine RH.one (i := 3) krX ?_
   refine RHone.eff rfl (Wanted.free rfl) (E.call rfl go13 rfl (ih (l.take k) (by rw [List.length_take]; omega) _ _ _ _ memX (by unfold Tab; repeat (first | exact List.Mem.head _ | assumption | apply List.Mem.tail)))) rfl ?_
   rintro _ _ ⟨rfl, rfl⟩
   refine ⟨.inr entX, ?_⟩
   refine RH.one (i := 7) krX ?_
   refine RHone.eff rfl (Wanted.free rfl) (E.call rfl go13 rfl (ih (l.drop k) (by rw [List.length_drop]; omega) _ _ _ _ memX (by unfold Tab; repeat (first | exact List.Mem.head _ | assumption | apply List.Mem.tail)))) rfl ?_
   rintro _ _ ⟨rfl, rfl⟩
   refine ⟨.inr entX, ?_⟩
   refine RH.one (i := 8) krX ?_
   refine RHone.eff rfl (Wanted.free rfl) (E.call rfl go47 rfl (node_ok (root_len (fun x hx => h32 x (List.mem_of_mem_take hx))) (root_len (fun x hx => h32 x (List.mem_of_mem_drop hx))) (by unfold Tab; repeat (first | exact List.Mem.head _ | assumption | apply List.Mem.tail)))) rfl ?_
   rintro _ _ ⟨rfl, rfl⟩
   refine ⟨.inr entX, ?_⟩
   refine RH.one (i := 9) krX ?_
   refine RHone.eff rfl (Wanted.free rfl) (E.storeWhole rfl rfl rfl (by rw [List.length_map]; exact (node_length _ _)) sz25 pickX (one8 _) (by first | rfl | (rw [List.length_replicate]))) rfl ?_
   rintro _ _ rfl
   refine ⟨.inl krX, ?_⟩
   refine RH.done krX ?_
   refine SG.retE (Ret.r1 Tryd.func13 rfl (.agg rfl ag25 pickX (take8 (node_length _ _)) (by rw [List.length_map]; exact (node_length _ _)))) ?_ ⟨by rw [root_two (l := l) (by omega), hk], rfl⟩
   exact entX

theorem root_all {κ : World} : ∀ (N : Nat) (l : List Hs), l.length ≤ N → l.length ≤ 65536 → rootAt κ l
  | 0, _, h, hb => fun _ _ _ _ hm hT => root_step hm hT hb fun l' hl' => absurd hl' (by omega)
  | N + 1, _, h, hb => fun _ _ _ _ hm hT => root_step hm hT hb fun l' hl' => root_all N l' (by omega) (by omega)
theorem root_ok {κ : World} {L : List Assn} {a : Option Addr} {m c : Nat} {l : List Hs} (hm : Sl (RArr8 32) a m c l ∈ L) (hT : Tab L) (hb : l.length ≤ 65536) : Ctr Tryd.prog 13 #[.slice a m c] κ L (fun v M => v = .agg ((rootV l).map v8).toArray ∧ M = L) := root_all _ l (Nat.le_refl _) hb _ _ _ _ hm hT
end Go.Proofs.YtcbloadpffjkiaaDoor
