/- Two trees with one root. -/
import Derived.Test.YtcbloadpffjkiaaDoorMleaves
namespace Go.Proofs.YtcbloadpffjkiaaDoor
open Go.Wk Go.Mk Go.Sha

theorem one_of_len {l : List Hs} (h : l.length = 1) : ∃ x, l = [x] := by
  match l, h with
  | [x], _ => exact ⟨x, rfl⟩
/-- Lists of one length that differ, with the same root, have two elements at least. -/
theorem bind_len {l l' : List Hs} (hl : l.length = l'.length) (hne : l ≠ l') (hr : rootV l = rootV l') : 2 ≤ l.length := by
  rcases Nat.lt_or_ge l.length 2 with h | h
  · exfalso
    rcases Nat.eq_zero_or_pos l.length with h0 | h0
    · have h1 := List.eq_nil_of_length_eq_zero h0
      have h2 := List.eq_nil_of_length_eq_zero (hl ▸ h0)
      exact hne (by rw [h1, h2])
    · obtain ⟨x, rfl⟩ := one_of_len (l := l) (by omega)
      obtain ⟨y, rfl⟩ := one_of_len (l := l') (by rw [← hl]; rfl)
      rw [root_one, root_one] at hr
      exact hne (by rw [hr])
  · exact h
theorem halves {l l' : List Hs} (k : Nat) (h1 : l.take k = l'.take k) (h2 : l.drop k = l'.drop k) : l = l' := by
  rw [← List.take_append_drop k l, ← List.take_append_drop k l', h1, h2]
def colAt (κ : World) (l : List Hs) : Prop := ∀ (l' : List Hs) (L : List Assn) (a a' : Option Addr) (m c m' c' : Nat), Sl (RArr8 32) a m c l ∈ L → Sl (RArr8 32) a' m' c' l' ∈ L → Tab L → l.length = l'.length → l ≠ l' → rootV l = rootV l' → Ctr Tryd.prog 26 #[.slice a m c, .slice a' m' c'] κ L (fun v M => v = vB true ∧ M = L)
set_option maxRecDepth 100000 in
set_option maxHeartbeats 2000000 in
theorem col_step {κ : World} {L : List Assn} {a a' : Option Addr} {m c m' c' : Nat} {l l' : List Hs} (hm : Sl (RArr8 32) a m c l ∈ L) (hm' : Sl (RArr8 32) a' m' c' l' ∈ L) (hT : Tab L) (hb : l.length ≤ 65536) (hll : l.length = l'.length) (hne : l ≠ l') (hr : rootV l = rootV l') (ih : ∀ z : List Hs, z.length < l.length → colAt κ z) :
    Ctr Tryd.prog 26 #[.slice a m c, .slice a' m' c'] κ L (fun v M => v = vB true ∧ M = L) := by
 refine Ctr.enter (vs := [.slice a m c, .slice a' m' c']) (m := 69) Tryd.func26 rfl rfl rfl ?_
 unfold Tab at hT
 refine SG.fact (fun w hs => Sep.slArr hs hm) fun h32 => ?_
 refine SG.fact (fun w hs => Sep.slArr hs hm') fun h32' => ?_
 refine SG.sl hm fun hn hc hc63 => ?_
 refine SG.sl hm' fun hn' hc' hc63' => ?_
 subst hn
 rw [← hll] at hn'
 subst hn'
 have h2 := bind_len hll hne hr
 obtain ⟨k, hk⟩ : ∃ k, spl l.length = k := ⟨_, rfl⟩
 have hk1 := spl_lt h2
 have hk2 := spl_pos l.length
 rw [hk] at hk1 hk2
 have hra := root_two h2
 have hrb := root_two (l := l') (by omega)
 rw [hk] at hra
 rw [← hll, hk] at hrb
 have hnn : node (rootV (l.take k)) (rootV (l.drop k)) = node (rootV (l'.take k)) (rootV (l'.drop k)) := by rw [← hra, ← hrb]; exact hr
 have q1 : (rootV (l.take k)).length = 32 := root_len (fun x hx => h32 x (List.mem_of_mem_take hx))
 have q2 : (rootV (l.drop k)).length = 32 := root_len (fun x hx => h32 x (List.mem_of_mem_drop hx))
 have q3 : (rootV (l'.take k)).length = 32 := root_len (fun x hx => h32' x (List.mem_of_mem_take hx))
 have q4 : (rootV (l'.drop k)).length = 32 := root_len (fun x hx => h32' x (List.mem_of_mem_drop hx))
 refine SG.cut (T := RArr8 32) (lo := 0) (hi := k) (l' := l.take k) (a := a) (l := l) memX (by omega) (by omega) (by rw [List.drop_zero, Nat.sub_zero]) ?_
 refine SG.cut (T := RArr8 32) (lo := 0) (hi := k) (l' := l'.take k) (a := a') (l := l') memX (by omega) (by omega) (by rw [List.drop_zero, Nat.sub_zero]) ?_
 refine SG.cut (T := RArr8 32) (lo := k) (hi := l.length) (l' := l.drop k) (a := a) (l := l) memX (by omega) (by omega) (List.take_of_length_le (by rw [List.length_drop]; omega)) ?_
 refine SG.cut (T := RArr8 32) (lo := k) (hi := l.length) (l' := l'.drop k) (a := a') (l := l') memX (by omega) (by omega) (List.take_of_length_le (by rw [List.length_drop]; omega)) ?_
 refine SG.seq ?_
 refine SG.region ?_
 refine RL.val (Wanted.free rfl) (V.assign rfl rfl) rfl ?_
 refine RL.nil ?_
 refine SG.seq ?_
 refine SG.seq ?_
 refine SG.region ?_
 refine RL.val (Wanted.free rfl) (V.move rfl rfl) rfl ?_
 refine RL.val (Wanted.free rfl) (V.len rfl rfl el22.under rfl) rfl ?_
 refine RL.cmpF (Wanted.free rfl) (V.bin rfl rfl rfl B.lss) rfl (by omega) ?_
 refine RL.nil ?_
 refine SG.cond_false rfl ?_
 refine SG.skip ?_
 refine SG.seq ?_
 refine SG.region ?_
 refine RL.val (Wanted.free rfl) (V.move rfl rfl) rfl ?_
 refine RL.val (Wanted.free rfl) (V.len rfl rfl el22.under rfl) rfl ?_
 refine RL.eff (Wanted.free rfl) (E.call rfl go49 rfl (rsplit_ok (n := l.length) (by omega) (by omega))) rfl ?_
 rintro _ _ ⟨rfl, hM⟩
 rw [hM, hk]
 refine RL.val (Wanted.free rfl) (V.assign rfl rfl) rfl ?_
 refine RL.nil ?_
 refine SG.seq ?_
 refine SG.region ?_
 refine RL.val (Wanted.free rfl) (V.move rfl rfl) rfl ?_
 refine RL.val (Wanted.free rfl) (V.move rfl rfl) rfl ?_
 refine RL.eff (Wanted.free rfl) (E.slice (lo := 0) (hi := k) rfl el22.slice rfl memX rfl ⟨_, _, rfl, (by first | rfl | omega)⟩ (by omega) (by omega)) rfl ?_
 intro _ _ hK10
 try rw [List.drop_zero] at hK10
 iterate 2 (try rw [Nat.sub_zero] at hK10)
 obtain ⟨a10, rfl, rfl⟩ := hK10
 refine RL.eff (Wanted.free rfl) (E.call rfl go13 rfl (root_ok (l := l.take k) memX (by unfold Tab; repeat (first | exact List.Mem.head _ | assumption | apply List.Mem.tail)) (by rw [List.length_take]; omega))) rfl ?_
 rintro _ _ ⟨rfl, rfl⟩
 refine RL.eff (Wanted.free rfl) (E.alloc rfl ze25) rfl ?_
 rintro _ _ ⟨b6, rfl, rfl⟩
 refine RL.eff (Wanted.free rfl) (E.storeWhole rfl rfl rfl (by rw [List.length_map]; exact q1) sz25 pickX (one8 _) (by rfl)) rfl ?_
 rintro _ _ rfl
 refine RL.nil ?_
 refine SG.seq ?_
 refine SG.region ?_
 refine RL.val (Wanted.free rfl) (V.move rfl rfl) rfl ?_
 refine RL.val (Wanted.free rfl) (V.move rfl rfl) rfl ?_
 refine RL.eff (Wanted.free rfl) (E.slice (lo := k) (hi := l.length) rfl el22.slice rfl memX ⟨_, _, rfl, (by first | rfl | omega)⟩ rfl (by omega) (by omega)) rfl ?_
 intro _ _ hK16
 try rw [List.drop_zero] at hK16
 iterate 2 (try rw [Nat.sub_zero] at hK16)
 rw [List.take_of_length_le (by rw [List.length_drop]; omega)] at hK16
 obtain ⟨a16, rfl, rfl⟩ := hK16
 refine RL.eff (Wanted.free rfl) (E.call rfl go13 rfl (root_ok (l := l.drop k) memX (by unfold Tab; repeat (first | exact List.Mem.head _ | assumption | apply List.Mem.tail)) (by rw [List.length_drop]; omega))) rfl ?_
 rintro _ _ ⟨rfl, rfl⟩
 refine RL.eff (Wanted.free rfl) (E.alloc rfl ze25) rfl ?_
 rintro _ _ ⟨b7, rfl, rfl⟩
 refine RL.eff (Wanted.free rfl) (E.storeWhole rfl rfl rfl (by rw [List.length_map]; exact q2) sz25 pickX (one8 _) (by rfl)) rfl ?_
 rintro _ _ rfl
 refine RL.nil ?_
 refine SG.seq ?_
 refine SG.region ?_
 refine RL.val (Wanted.free rfl) (V.move rfl rfl) rfl ?_
 refine RL.val (Wanted.free rfl) (V.move rfl rfl) rfl ?_
 refine RL.eff (Wanted.free rfl) (E.slice (lo := 0) (hi := k) rfl el22.slice rfl memX rfl ⟨_, _, rfl, (by first | rfl | omega)⟩ (by omega) (by omega)) rfl ?_
 intro _ _ hK22
 try rw [List.drop_zero] at hK22
 iterate 2 (try rw [Nat.sub_zero] at hK22)
 obtain ⟨a22, rfl, rfl⟩ := hK22
 refine RL.eff (Wanted.free rfl) (E.call rfl go13 rfl (root_ok (l := l'.take k) memX (by unfold Tab; repeat (first | exact List.Mem.head _ | assumption | apply List.Mem.tail)) (by rw [List.length_take]; omega))) rfl ?_
 rintro _ _ ⟨rfl, rfl⟩
 refine RL.eff (Wanted.free rfl) (E.alloc rfl ze25) rfl ?_
 rintro _ _ ⟨b8, rfl, rfl⟩
 refine RL.eff (Wanted.free rfl) (E.storeWhole rfl rfl rfl (by rw [List.length_map]; exact q3) sz25 pickX (one8 _) (by rfl)) rfl ?_
 rintro _ _ rfl
 refine RL.nil ?_
 refine SG.seq ?_
 refine SG.region ?_
 refine RL.val (Wanted.free rfl) (V.move rfl rfl) rfl ?_
 refine RL.val (Wanted.free rfl) (V.move rfl rfl) rfl ?_
 refine RL.eff (Wanted.free rfl) (E.slice (lo := k) (hi := l.length) rfl el22.slice rfl memX ⟨_, _, rfl, (by first | rfl | omega)⟩ rfl (by omega) (by omega)) rfl ?_
 intro _ _ hK28
 try rw [List.drop_zero] at hK28
 iterate 2 (try rw [Nat.sub_zero] at hK28)
 rw [List.take_of_length_le (by rw [List.length_drop]; omega)] at hK28
 obtain ⟨a28, rfl, rfl⟩ := hK28
 refine RL.eff (Wanted.free rfl) (E.call rfl go13 rfl (root_ok (l := l'.drop k) memX (by unfold Tab; repeat (first | exact List.Mem.head _ | assumption | apply List.Mem.tail)) (by rw [List.length_drop]; omega))) rfl ?_
 rintro _ _ ⟨rfl, rfl⟩
 refine RL.eff (Wanted.free rfl) (E.alloc rfl ze25) rfl ?_
 rintro _ _ ⟨b9, rfl, rfl⟩
 refine RL.eff (Wanted.free rfl) (E.storeWhole rfl rfl rfl (by rw [List.length_map]; exact q4) sz25 pickX (one8 _) (by rfl)) rfl ?_
 rintro _ _ rfl
 refine RL.nil ?_
 refine SG.seq ?_
 refine SG.seq ?_
 refine SG.region ?_
 refine RL.val (Wanted.free rfl) (V.loadAgg rfl ag25 rfl pickX (take8 q1) (by rw [List.length_map]; exact q1)) rfl ?_
 refine RL.val (Wanted.free rfl) (V.loadAgg rfl ag25 rfl pickX (take8 q3) (by rw [List.length_map]; exact q3)) rfl ?_
 refine RL.cmp (Wanted.free rfl) (V.neqArr rfl ar25 on5 ui5 ce25 eg25 inj8 q1 q3 rfl rfl) rfl (fun h34 => ?_) (fun h34 => ?_)
 ·
  refine RL.val (Wanted.free rfl) (V.move rfl rfl) rfl ?_
  refine RL.skip (Wanted.no rfl rfl rfl rfl rfl) rfl ?_
  refine RL.skip (Wanted.no rfl rfl rfl rfl rfl) rfl ?_
  refine RL.skip (Wanted.no rfl rfl rfl rfl rfl) rfl ?_
  refine RL.val (Wanted.free rfl) (V.pick_true rfl rfl rfl) rfl ?_
  refine RL.nil ?_
  refine SG.cond_true rfl ?_
  refine SG.seq ?_
  refine SG.drawL 8 8 wide rfl rfl ?_
  refine RH.val 0 rfl krX krX krX krX (Wanted.free rfl) (V.loadAgg rfl ag25 rfl pickX (take8 q1) (by rw [List.length_map]; exact q1)) rfl ?_
  refine RH.val 1 rfl krX krX krX krX (Wanted.free rfl) (V.loadAgg rfl ag25 rfl pickX (take8 q2) (by rw [List.length_map]; exact q2)) rfl ?_
  refine RH.val 3 rfl krX krX krX krX (Wanted.free rfl) (V.loadAgg rfl ag25 rfl pickX (take8 q3) (by rw [List.length_map]; exact q3)) rfl ?_
  refine RH.val 4 rfl krX krX krX krX (Wanted.free rfl) (V.loadAgg rfl ag25 rfl pickX (take8 q4) (by rw [List.length_map]; exact q4)) rfl ?_
  refine RH.one (i := 2) krX ?_
  refine RHone.eff rfl (Wanted.free rfl) (E.call rfl go47 rfl (node_ok q1 q2 (by unfold Tab; repeat (first | exact List.Mem.head _ | assumption | apply List.Mem.tail)))) rfl ?_
  rintro _ _ ⟨rfl, rfl⟩
  refine ⟨.inr entX, ?_⟩
  refine RH.one (i := 5) krX ?_
  refine RHone.eff rfl (Wanted.free rfl) (E.call rfl go47 rfl (node_ok q3 q4 (by unfold Tab; repeat (first | exact List.Mem.head _ | assumption | apply List.Mem.tail)))) rfl ?_
  rintro _ _ ⟨rfl, rfl⟩
  refine ⟨.inr entX, ?_⟩
  refine RH.cmpT 6 rfl krX krX krX krX (Wanted.free rfl) (V.eqlArr rfl ar25 on5 ui5 ce25 eg25 inj8 (node_length _ _) (node_length _ _) rfl rfl) rfl hnn ?_
  refine RH.val 7 rfl krX krX krX krX (Wanted.free rfl) (V.assign rfl rfl) rfl ?_
  refine RH.done krX ?_
  refine SG.retE (Ret.r1 Tryd.func26 rfl (.tmp rfl)) ?_ ⟨rfl, rfl⟩
  exact entX
 ·
  refine RL.val (Wanted.free rfl) (V.move rfl rfl) rfl ?_
  refine RL.val (Wanted.yes rfl rfl rfl rfl) (V.loadAgg rfl ag25 rfl pickX (take8 q2) (by rw [List.length_map]; exact q2)) rfl ?_
  refine RL.val (Wanted.yes rfl rfl rfl rfl) (V.loadAgg rfl ag25 rfl pickX (take8 q4) (by rw [List.length_map]; exact q4)) rfl ?_
  refine RL.cmp (Wanted.yes rfl rfl rfl rfl) (V.neqArr rfl ar25 on5 ui5 ce25 eg25 inj8 q2 q4 rfl rfl) rfl (fun h46 => ?_) (fun h46 => ?_)
  ·
   refine RL.val (Wanted.free rfl) (V.pick_false rfl rfl rfl) rfl ?_
   refine RL.nil ?_
   refine SG.cond_true rfl ?_
   refine SG.seq ?_
   refine SG.drawL 8 8 wide rfl rfl ?_
   refine RH.val 0 rfl krX krX krX krX (Wanted.free rfl) (V.loadAgg rfl ag25 rfl pickX (take8 q1) (by rw [List.length_map]; exact q1)) rfl ?_
   refine RH.val 1 rfl krX krX krX krX (Wanted.free rfl) (V.loadAgg rfl ag25 rfl pickX (take8 q2) (by rw [List.length_map]; exact q2)) rfl ?_
   refine RH.val 3 rfl krX krX krX krX (Wanted.free rfl) (V.loadAgg rfl ag25 rfl pickX (take8 q3) (by rw [List.length_map]; exact q3)) rfl ?_
   refine RH.val 4 rfl krX krX krX krX (Wanted.free rfl) (V.loadAgg rfl ag25 rfl pickX (take8 q4) (by rw [List.length_map]; exact q4)) rfl ?_
   refine RH.one (i := 2) krX ?_
   refine RHone.eff rfl (Wanted.free rfl) (E.call rfl go47 rfl (node_ok q1 q2 (by unfold Tab; repeat (first | exact List.Mem.head _ | assumption | apply List.Mem.tail)))) rfl ?_
   rintro _ _ ⟨rfl, rfl⟩
   refine ⟨.inr entX, ?_⟩
   refine RH.one (i := 5) krX ?_
   refine RHone.eff rfl (Wanted.free rfl) (E.call rfl go47 rfl (node_ok q3 q4 (by unfold Tab; repeat (first | exact List.Mem.head _ | assumption | apply List.Mem.tail)))) rfl ?_
   rintro _ _ ⟨rfl, rfl⟩
   refine ⟨.inr entX, ?_⟩
   refine RH.cmpT 6 rfl krX krX krX krX (Wanted.free rfl) (V.eqlArr rfl ar25 on5 ui5 ce25 eg25 inj8 (node_length _ _) (node_length _ _) rfl rfl) rfl hnn ?_
   refine RH.val 7 rfl krX krX krX krX (Wanted.free rfl) (V.assign rfl rfl) rfl ?_
   refine RH.done krX ?_
   refine SG.retE (Ret.r1 Tryd.func26 rfl (.tmp rfl)) ?_ ⟨rfl, rfl⟩
   exact entX
  ·
   refine RL.val (Wanted.free rfl) (V.pick_false rfl rfl rfl) rfl ?_
   refine RL.nil ?_
   refine SG.cond_false rfl ?_
   refine SG.skip ?_
   refine SG.seq ?_
   refine SG.seq ?_
   have e1 : rootV (l.take k) = rootV (l'.take k) := Decidable.byContradiction (by assumption)
   have e2 : rootV (l.drop k) = rootV (l'.drop k) := Decidable.byContradiction (by assumption)
   refine SG.drawL 8 8 wide rfl rfl ?_
   refine RH.val 0 rfl krX krX krX krX (Wanted.free rfl) (V.move rfl rfl) rfl ?_
   refine RH.val 1 rfl krX krX krX krX (Wanted.free rfl) (V.move rfl rfl) rfl ?_
   refine RH.val 2 rfl krX krX krX krX (Wanted.free rfl) (V.slice (T := (RArr8 32)) rfl el22.slice rfl rfl ⟨_, _, rfl, (by first | rfl | omega)⟩ (by omega) (by omega)) rfl ?_
   refine RH.val 3 rfl krX krX krX krX (Wanted.free rfl) (V.move rfl rfl) rfl ?_
   refine RH.val 4 rfl krX krX krX krX (Wanted.free rfl) (V.move rfl rfl) rfl ?_
   refine RH.val 5 rfl krX krX krX krX (Wanted.free rfl) (V.slice (T := (RArr8 32)) rfl el22.slice rfl rfl ⟨_, _, rfl, (by first | rfl | omega)⟩ (by omega) (by omega)) rfl ?_
   refine RH.one (i := 6) krX ?_
   refine RHone.eff rfl (Wanted.free rfl) (E.call rfl go19 rfl (sameh_ok (l := l.take k) (l' := l'.take k) memX memX)) rfl ?_
   rintro _ _ ⟨rfl, rfl⟩
   refine ⟨.inr entX, ?_⟩
   refine RH.pure 7 rfl krX krX krX krX (Wanted.free rfl) (V.not rfl rfl) rfl ?_
   refine RH.done krX ?_
   refine SG.cond rfl (fun h61 => ?_) (fun h61 => ?_)
   ·
    have hcond := h61
    refine SG.seq ?_
    have ht : l.take k ≠ l'.take k := by simpa using hcond
    refine SG.drawL 8 8 wide rfl rfl ?_
    refine RH.val 0 rfl krX krX krX krX (Wanted.free rfl) (V.move rfl rfl) rfl ?_
    refine RH.val 1 rfl krX krX krX krX (Wanted.free rfl) (V.move rfl rfl) rfl ?_
    refine RH.val 2 rfl krX krX krX krX (Wanted.free rfl) (V.slice (T := (RArr8 32)) rfl el22.slice rfl rfl ⟨_, _, rfl, (by first | rfl | omega)⟩ (by omega) (by omega)) rfl ?_
    refine RH.val 3 rfl krX krX krX krX (Wanted.free rfl) (V.move rfl rfl) rfl ?_
    refine RH.val 4 rfl krX krX krX krX (Wanted.free rfl) (V.move rfl rfl) rfl ?_
    refine RH.val 5 rfl krX krX krX krX (Wanted.free rfl) (V.slice (T := (RArr8 32)) rfl el22.slice rfl rfl ⟨_, _, rfl, (by first | rfl | omega)⟩ (by omega) (by omega)) rfl ?_
    refine RH.one (i := 6) krX ?_
    refine RHone.eff rfl (Wanted.free rfl) (E.call rfl go26 rfl (ih (l.take k) (by rw [List.length_take]; omega) (l'.take k) _ _ _ _ _ _ _ memX memX (by unfold Tab; repeat (first | exact List.Mem.head _ | assumption | apply List.Mem.tail)) (by rw [List.length_take, List.length_take]; omega) ht e1)) rfl ?_
    rintro _ _ ⟨rfl, rfl⟩
    refine ⟨.inr entX, ?_⟩
    refine RH.val 7 rfl krX krX krX krX (Wanted.free rfl) (V.assign rfl rfl) rfl ?_
    refine RH.done krX ?_
    refine SG.retE (Ret.r1 Tryd.func26 rfl (.tmp rfl)) ?_ ⟨rfl, rfl⟩
    exact entX
   ·
    have hcond := h61
    refine SG.skip ?_
    refine SG.seq ?_
    have ht : l.take k = l'.take k := by simpa using hcond
    have hd : l.drop k ≠ l'.drop k := fun e => hne (halves k ht e)
    refine SG.drawL 8 8 wide rfl rfl ?_
    refine RH.val 0 rfl krX krX krX krX (Wanted.free rfl) (V.move rfl rfl) rfl ?_
    refine RH.val 1 rfl krX krX krX krX (Wanted.free rfl) (V.move rfl rfl) rfl ?_
    refine RH.val 2 rfl krX krX krX krX (Wanted.free rfl) (V.slice (T := (RArr8 32)) rfl el22.slice rfl ⟨_, _, rfl, (by first | rfl | omega)⟩ rfl (by omega) (by omega)) rfl ?_
    refine RH.val 3 rfl krX krX krX krX (Wanted.free rfl) (V.move rfl rfl) rfl ?_
    refine RH.val 4 rfl krX krX krX krX (Wanted.free rfl) (V.move rfl rfl) rfl ?_
    refine RH.val 5 rfl krX krX krX krX (Wanted.free rfl) (V.slice (T := (RArr8 32)) rfl el22.slice rfl ⟨_, _, rfl, (by first | rfl | omega)⟩ rfl (by omega) (by omega)) rfl ?_
    refine RH.one (i := 6) krX ?_
    refine RHone.eff rfl (Wanted.free rfl) (E.call rfl go26 rfl (ih (l.drop k) (by rw [List.length_drop]; omega) (l'.drop k) _ _ _ _ _ _ _ memX memX (by unfold Tab; repeat (first | exact List.Mem.head _ | assumption | apply List.Mem.tail)) (by rw [List.length_drop, List.length_drop]; omega) hd e2)) rfl ?_
    rintro _ _ ⟨rfl, rfl⟩
    refine ⟨.inr entX, ?_⟩
    refine RH.val 7 rfl krX krX krX krX (Wanted.free rfl) (V.assign rfl rfl) rfl ?_
    refine RH.done krX ?_
    refine SG.retE (Ret.r1 Tryd.func26 rfl (.tmp rfl)) ?_ ⟨rfl, rfl⟩
    exact entX

theorem col_all {κ : World} : ∀ (N : Nat) (l : List Hs), l.length ≤ N → l.length ≤ 65536 → colAt κ l
  | 0, _, h, hb => fun _ _ _ _ _ _ _ _ hm hm' hT hll hne hr => col_step hm hm' hT hb hll hne hr fun l' hl' => absurd hl' (by omega)
  | N + 1, _, h, hb => fun _ _ _ _ _ _ _ _ hm hm' hT hll hne hr => col_step hm hm' hT hb hll hne hr fun l' hl' => col_all N l' (by omega) (by omega)
end Go.Proofs.YtcbloadpffjkiaaDoor
