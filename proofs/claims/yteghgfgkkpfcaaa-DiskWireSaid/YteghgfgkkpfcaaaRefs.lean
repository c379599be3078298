/- Helpers of the reference. -/
import Derived.Test.YteghgfgkkpfcaaaFacts
import Derived.Test.YteghgfgkkpfcaaaRead
import Derived.Test.YteghgfgkkpfcaaaDPlain2
namespace Go.Proofs.Yteghgfgkkpfcaaa
open Go.Wk Go.Dsk


/-- n modulo most, never negative. -/
def aroundV (n most : Int) : Int := (if n < 0 then -(n + 1) else n) % most
theorem take_succ_eq {α : Type} {l l' : List α} {i : Nat} (h : i < l.length) (h' : i < l'.length) (ht : l.take i = l'.take i) (hx : l[i] = l'[i]) : l.take (i + 1) = l'.take (i + 1) := by
  rw [List.take_add_one, List.take_add_one, ht, List.getElem?_eq_getElem h, List.getElem?_eq_getElem h', hx]
theorem aroundV_bd {n most : Int} (h : 0 < most) : 0 ≤ aroundV n most ∧ aroundV n most < most := ⟨Int.emod_nonneg _ (by omega), Int.emod_lt_of_pos _ h⟩

set_option maxRecDepth 100000 in
theorem around_ok {κ : World} {L : List Assn} (n most : Int) (h1 : -9223372036854775808 ≤ n) (h2 : n ≤ 9223372036854775807) (h3 : 0 < most) :
    Ctr Try.prog 14 #[vI n, vI most] κ L (fun v M => v = vI (aroundV n most) ∧ M = L) := by
  refine Ctr.enter (vs := [vI n, vI most]) (m := 13) Try.func14 rfl rfl rfl ?_
  refine SG.seq ?_
  refine SG.region ?_
  refine RL.val (Wanted.free rfl) (V.assign rfl rfl) rfl ?_
  refine RL.nil ?_
  refine SG.seq ?_
  refine SG.seq ?_
  refine SG.region ?_
  refine RL.val (Wanted.free rfl) (V.move rfl rfl) rfl ?_
  refine RL.cmp (Wanted.free rfl) (V.bin rfl rfl rfl B.lss) rfl (fun h3 => ?_) (fun h3 => ?_)
  · skip
    refine RL.nil ?_
    refine SG.cond_true rfl ?_
    refine SG.region ?_
    refine RL.val (Wanted.free rfl) (V.move rfl rfl) rfl ?_
    refine RL.val (Wanted.free rfl) (V.bin rfl rfl rfl (B.addI (by omega) (by omega))) rfl ?_
    refine RL.val (Wanted.free rfl) (V.negI rfl rfl (by omega) (by omega)) rfl ?_
    refine RL.val (Wanted.free rfl) (V.assign rfl rfl) rfl ?_
    refine RL.nil ?_
    refine SG.seq ?_
    refine SG.region ?_
    refine RL.val (Wanted.free rfl) (V.move rfl rfl) rfl ?_
    refine RL.val (Wanted.free rfl) (V.move rfl rfl) rfl ?_
    refine RL.val (Wanted.free rfl) (V.bin rfl rfl rfl (B.remI (by omega) (by omega))) rfl ?_
    refine RL.val (Wanted.free rfl) (V.assign rfl rfl) rfl ?_
    refine RL.nil ?_
    refine SG.retE (Ret.r1 Try.func14 rfl (.tmp rfl)) ?_ ⟨by simp [aroundV, *], rfl⟩
    repeat (first | exact Ent.refl _ | (apply Ent.cons; (· repeat (first | exact Pick.here | (refine Pick.sl ?_; (· repeat (first | exact List.Mem.head _ | assumption | apply List.Mem.tail))) | apply Pick.there))) | (refine Ent.trans (Ent.drop _ _) ?_))
  · skip
    refine RL.nil ?_
    refine SG.cond_false rfl ?_
    refine SG.skip ?_
    refine SG.seq ?_
    refine SG.region ?_
    refine RL.val (Wanted.free rfl) (V.move rfl rfl) rfl ?_
    refine RL.val (Wanted.free rfl) (V.move rfl rfl) rfl ?_
    refine RL.val (Wanted.free rfl) (V.bin rfl rfl rfl (B.remI (by omega) (by omega))) rfl ?_
    refine RL.val (Wanted.free rfl) (V.assign rfl rfl) rfl ?_
    refine RL.nil ?_
    refine SG.retE (Ret.r1 Try.func14 rfl (.tmp rfl)) ?_ ⟨by simp [aroundV, *], rfl⟩
    repeat (first | exact Ent.refl _ | (apply Ent.cons; (· repeat (first | exact Pick.here | (refine Pick.sl ?_; (· repeat (first | exact List.Mem.head _ | assumption | apply List.Mem.tail))) | apply Pick.there))) | (refine Ent.trans (Ent.drop _ _) ?_))

set_option maxRecDepth 100000 in
theorem few_ok {κ : World} {L : List Assn} {a : Option Addr} {m c : Nat} {l : List UInt8} {k : Int} (hm : Sl R8 a m c l ∈ L) (hk : 0 ≤ k) (hk2 : k ≤ 1000000) :
    Ctr Try.prog 33 #[.slice a m c, vI k] κ L (fun v M => ∃ a' k' c', v = .slice a' k' c' ∧ M = Buf R8 5 a' k' c' (l.take k.toNat) :: L) := by
  refine Ctr.enter (vs := [.slice a m c, vI k]) (m := 14) Try.func33 rfl rfl rfl ?_
  refine SG.sl hm fun hl _ _ => ?_
  obtain ⟨k, rfl⟩ := Int.eq_ofNat_of_zero_le hk
  refine SG.seq ?_
  refine SG.region ?_
  refine RL.val (Wanted.free rfl) (V.assign rfl rfl) rfl ?_
  refine RL.nil ?_
  refine SG.seq ?_
  refine SG.region ?_
  refine RL.val (Wanted.free rfl) (V.assign rfl rfl) rfl ?_
  refine RL.nil ?_
  refine SG.seq ?_
  refine SG.region ?_
  refine RL.val (Wanted.free rfl) (V.move rfl rfl) rfl ?_
  refine RL.val (Wanted.free rfl) (V.move rfl rfl) rfl ?_
  refine RL.val (Wanted.free rfl) (V.move rfl rfl) rfl ?_
  refine RL.val (Wanted.free rfl) (V.len rfl rfl el32.under rfl) rfl ?_
  refine RL.val (Wanted.free rfl) (V.move rfl rfl) rfl ?_
  refine RL.val (Wanted.free rfl) (V.min rfl rfl rfl rfl) rfl ?_
  refine RL.eff (Wanted.free rfl) (E.slice (lo := 0) (hi := min m k) rfl el32.slice rfl (by repeat (first | exact List.Mem.head _ | assumption | apply List.Mem.tail)) rfl ⟨_, _, rfl, (by first | rfl | omega)⟩ (by omega) (by omega)) rfl ?_
  intro _ _ hK9
  try rw [List.drop_zero] at hK9
  iterate 2 (try rw [Nat.sub_zero] at hK9)
  rw [show l.take (min m k) = l.take k from by rw [← hl, List.take_eq_take_iff]; omega] at hK9
  obtain ⟨a9, rfl, rfl⟩ := hK9
  refine RL.ent (Buf.nil (T := R8) (e := 5)) ?_
  refine RL.eff (Wanted.free rfl) (E.append (T := R8) rfl rfl rfl el32 el32.noInt rfl rfl (by repeat (first | exact Pick.here | assumption | apply Pick.there)) (Src.sl (by decide) (by repeat (first | exact List.Mem.head _ | assumption | apply List.Mem.tail))) (by first | omega | (simp; omega)) (by first | omega | (simp; omega))) rfl ?_
  intro _ _ hK10
  try rw [List.nil_append] at hK10
  try rw [Nat.zero_add] at hK10
  obtain ⟨a10, c10, rfl, rfl⟩ := hK10
  refine RL.val (Wanted.free rfl) (V.assign rfl rfl) rfl ?_
  refine RL.nil ?_
  refine SG.retE (Ret.r1 Try.func33 rfl (.tmp rfl)) ?_ ⟨_, _, _, rfl, rfl⟩
  repeat (first | exact Ent.refl _ | (apply Ent.cons; (· repeat (first | exact Pick.here | (refine Pick.sl ?_; (· repeat (first | exact List.Mem.head _ | assumption | apply List.Mem.tail))) | apply Pick.there))) | (refine Ent.trans (Ent.drop _ _) ?_))

set_option maxRecDepth 100000 in
theorem sameBytes_ok {κ : World} {L : List Assn} {a a' : Option Addr} {m c m' c' : Nat} {l l' : List UInt8} (hm : Sl R8 a m c l ∈ L) (hm' : Sl R8 a' m' c' l' ∈ L) :
    Ctr Try.prog 22 #[.slice a m c, .slice a' m' c'] κ L (fun v M => v = vB (decide (l = l')) ∧ M = L) := by
  refine Ctr.enter (vs := [.slice a m c, .slice a' m' c']) (m := 10) Try.func22 rfl rfl rfl ?_
  refine SG.seq ?_
  refine SG.region ?_
  refine RL.val (Wanted.free rfl) (V.assign rfl rfl) rfl ?_
  refine RL.nil ?_
  refine SG.seq ?_
  refine SG.region ?_
  refine RL.val (Wanted.free rfl) (V.move rfl rfl) rfl ?_
  refine RL.val (Wanted.free rfl) (V.bytesToS rfl el32.under ui5 us9 rfl (by repeat (first | exact List.Mem.head _ | assumption | apply List.Mem.tail))) rfl ?_
  refine RL.val (Wanted.free rfl) (V.move rfl rfl) rfl ?_
  refine RL.val (Wanted.free rfl) (V.bytesToS rfl el32.under ui5 us9 rfl (by repeat (first | exact List.Mem.head _ | assumption | apply List.Mem.tail))) rfl ?_
  refine RL.val (Wanted.free rfl) (V.bin rfl rfl rfl B.eqlS) rfl ?_
  refine RL.val (Wanted.free rfl) (V.assign rfl rfl) rfl ?_
  refine RL.nil ?_
  refine SG.retE (Ret.r1 Try.func22 rfl (.tmp rfl)) ?_ ⟨rfl, rfl⟩
  repeat (first | exact Ent.refl _ | (apply Ent.cons; (· repeat (first | exact Pick.here | (refine Pick.sl ?_; (· repeat (first | exact List.Mem.head _ | assumption | apply List.Mem.tail))) | apply Pick.there))) | (refine Ent.trans (Ent.drop _ _) ?_))

theorem sameBytes_rd {κ : World} {L : List Assn} {a a' : Option Addr} {m c m' c' : Nat} {l l' : List UInt8} (h1 : Seen (SlP R8 a m c l) L) (h2 : Seen (SlP R8 a' m' c' l') L) : Ctr Try.prog 22 #[.slice a m c, .slice a' m' c'] κ L (fun v M => v = vB (decide (l = l')) ∧ M = L) :=
  Ctr.read0 (Rs := [SlP R8 a m c l, SlP R8 a' m' c' l']) (by simp [h1, h2]) fun _ hL => sameBytes_ok (hL _ (by simp)) (hL _ (by simp))
theorem sameBytes_true {κ : World} {L : List Assn} {a a' : Option Addr} {m c m' c' : Nat} {l l' : List UInt8} (h1 : Seen (SlP R8 a m c l) L) (h2 : Seen (SlP R8 a' m' c' l') L) (e : l = l') : Ctr Try.prog 22 #[.slice a m c, .slice a' m' c'] κ L (fun v M => v = vB true ∧ M = L) :=
  (sameBytes_rd h1 h2).mono (Ent.refl _) fun _ _ h => ⟨by rw [h.1, e]; simp, h.2⟩

set_option maxRecDepth 100000 in
theorem sameInts_ok {κ : World} {L : List Assn} {a a' : Option Addr} {m c m' c' : Nat} {l l' : List Int} (hm : Sl RI a m c l ∈ L) (hm' : Sl RI a' m' c' l' ∈ L) :
    Ctr Try.prog 45 #[.slice a m c, .slice a' m' c'] κ L (fun v M => v = vB (decide (l = l')) ∧ M = L) := by
  refine Ctr.enter (vs := [.slice a m c, .slice a' m' c']) (m := 26) Try.func45 rfl rfl rfl ?_
  refine SG.sl hm fun hl _ _ => ?_
  refine SG.sl hm' fun hl' _ _ => ?_
  refine SG.seq ?_
  refine SG.region ?_
  refine RL.val (Wanted.free rfl) (V.assign rfl rfl) rfl ?_
  refine RL.nil ?_
  refine SG.seq ?_
  refine SG.seq ?_
  refine SG.region ?_
  refine RL.val (Wanted.free rfl) (V.move rfl rfl) rfl ?_
  refine RL.val (Wanted.free rfl) (V.len rfl rfl el64.under rfl) rfl ?_
  refine RL.val (Wanted.free rfl) (V.move rfl rfl) rfl ?_
  refine RL.val (Wanted.free rfl) (V.len rfl rfl el64.under rfl) rfl ?_
  refine RL.cmp (Wanted.free rfl) (V.bin rfl rfl rfl B.neq) rfl (fun h6 => ?_) (fun h6 => ?_)
  · skip
    refine RL.nil ?_
    refine SG.cond_true rfl ?_
    refine SG.seq ?_
    refine SG.region ?_
    refine RL.val (Wanted.free rfl) (V.assign rfl rfl) rfl ?_
    refine RL.nil ?_
    refine SG.retE (Ret.r1 Try.func45 rfl (.tmp rfl)) ?_ ⟨by rw [decide_eq_false (fun e => by subst e; omega)], rfl⟩
    repeat (first | exact Ent.refl _ | (apply Ent.cons; (· repeat (first | exact Pick.here | (refine Pick.sl ?_; (· repeat (first | exact List.Mem.head _ | assumption | apply List.Mem.tail))) | apply Pick.there))) | (refine Ent.trans (Ent.drop _ _) ?_))
  · skip
    refine RL.nil ?_
    refine SG.cond_false rfl ?_
    refine SG.skip ?_
    refine SG.seq ?_
    refine SG.seq ?_
    refine SG.region ?_
    refine RL.val (Wanted.free rfl) (V.assign rfl rfl) rfl ?_
    refine RL.nil ?_
    refine SG.block ?_
    subst hl
    refine SG.weaken (SG.loop2 (fun m al M => ∃ i : Nat, i ≤ l.length ∧ l.take i = l'.take i ∧ m = l.length - i ∧ al = [(0, .slice a l.length c), (1, .slice a' m' c'), (5, vI i)] ∧ M = L) (m0 := _) ⟨0, by omega, rfl, rfl, rfl, rfl⟩ ?_) ?_ ?_
    rotate_left
    · repeat (first | exact EnvLe.nil _ | refine EnvLe.cons rfl ?_)
    · repeat (first | exact Ent.refl _ | (apply Ent.cons; (· repeat (first | exact Pick.here | (refine Pick.sl ?_; (· repeat (first | exact List.Mem.head _ | assumption | apply List.Mem.tail))) | apply Pick.there))) | (refine Ent.trans (Ent.drop _ _) ?_))
    rintro _ _ _ ⟨i, hi, htake, rfl, rfl, rfl⟩ ih0
    refine SG.seq ?_
    refine SG.seq ?_
    refine SG.region ?_
    refine RL.val (Wanted.free rfl) (V.move rfl rfl) rfl ?_
    refine RL.val (Wanted.free rfl) (V.move rfl rfl) rfl ?_
    refine RL.val (Wanted.free rfl) (V.len rfl rfl el64.under rfl) rfl ?_
    refine RL.cmp (Wanted.free rfl) (V.bin rfl rfl rfl B.lss) rfl (fun h12 => ?_) (fun h12 => ?_)
    · skip
      refine RL.nil ?_
      refine SG.cond_true rfl ?_
      refine SG.skip ?_
      refine SG.seq ?_
      refine SG.block ?_
      refine SG.seq ?_
      refine SG.drawL 9 9 wide rfl rfl ?_
      refine RH.val 0 rfl (by kernel_rfl) (by kernel_rfl) (by kernel_rfl) (by kernel_rfl) (Wanted.free rfl) (V.move rfl rfl) rfl ?_
      refine RH.val 1 rfl (by kernel_rfl) (by kernel_rfl) (by kernel_rfl) (by kernel_rfl) (Wanted.free rfl) (V.move rfl rfl) rfl ?_
      refine RH.val 2 rfl (by kernel_rfl) (by kernel_rfl) (by kernel_rfl) (by kernel_rfl) (Wanted.free rfl) (V.indexSl rfl el64.slice rfl rfl (by repeat (first | exact List.Mem.head _ | assumption | apply List.Mem.tail)) (by first | rfl | omega) (by omega)) rfl ?_
      refine RH.val 3 rfl (by kernel_rfl) (by kernel_rfl) (by kernel_rfl) (by kernel_rfl) (Wanted.free rfl) (V.loadSc rfl on3 rfl (by repeat (first | exact List.Mem.head _ | assumption | apply List.Mem.tail)) (List.getElem?_eq_getElem (by omega))) rfl ?_
      refine RH.val 4 rfl (by kernel_rfl) (by kernel_rfl) (by kernel_rfl) (by kernel_rfl) (Wanted.free rfl) (V.move rfl rfl) rfl ?_
      refine RH.val 5 rfl (by kernel_rfl) (by kernel_rfl) (by kernel_rfl) (by kernel_rfl) (Wanted.free rfl) (V.move rfl rfl) rfl ?_
      refine RH.val 6 rfl (by kernel_rfl) (by kernel_rfl) (by kernel_rfl) (by kernel_rfl) (Wanted.free rfl) (V.indexSl rfl el64.slice rfl rfl (by repeat (first | exact List.Mem.head _ | assumption | apply List.Mem.tail)) (by first | rfl | omega) (by omega)) rfl ?_
      refine RH.val 7 rfl (by kernel_rfl) (by kernel_rfl) (by kernel_rfl) (by kernel_rfl) (Wanted.free rfl) (V.loadSc rfl on3 rfl (by repeat (first | exact List.Mem.head _ | assumption | apply List.Mem.tail)) (List.getElem?_eq_getElem (by omega))) rfl ?_
      refine RH.cmp 8 rfl (by kernel_rfl) (by kernel_rfl) (by kernel_rfl) (by kernel_rfl) (Wanted.free rfl) (V.bin rfl rfl rfl B.neq) rfl (fun h21 => ?_) (fun h21 => ?_)
      · skip
        refine RH.done (by kernel_rfl) ?_
        refine SG.cond_true rfl ?_
        refine SG.seq ?_
        refine SG.region ?_
        refine RL.val (Wanted.free rfl) (V.assign rfl rfl) rfl ?_
        refine RL.nil ?_
        refine SG.retE (Ret.r1 Try.func45 rfl (.tmp rfl)) ?_ ⟨by rw [decide_eq_false (fun e => by subst e; omega)], rfl⟩
        repeat (first | exact Ent.refl _ | (apply Ent.cons; (· repeat (first | exact Pick.here | (refine Pick.sl ?_; (· repeat (first | exact List.Mem.head _ | assumption | apply List.Mem.tail))) | apply Pick.there))) | (refine Ent.trans (Ent.drop _ _) ?_))
      · skip
        refine RH.done (by kernel_rfl) ?_
        refine SG.cond_false rfl ?_
        refine SG.skip ?_
        refine SG.inBlock ?_
        refine SG.region ?_
        refine RL.val (Wanted.free rfl) (V.move rfl rfl) rfl ?_
        refine RL.val (Wanted.free rfl) (V.bin rfl rfl rfl (B.addI (by omega) (by omega))) rfl ?_
        refine RL.val (Wanted.free rfl) (V.assign rfl rfl) rfl ?_
        refine RL.nil ?_
        refine SG.weaken (ih0 _ _ _ ?_ ⟨i + 1, by omega, ?_, rfl, rfl, rfl⟩) ?_ ?_
        · omega
        · exact take_succ_eq (by omega) (by omega) htake (by omega)
        · repeat (first | exact EnvLe.nil _ | refine EnvLe.cons rfl ?_)
        · repeat (first | exact Ent.refl _ | (apply Ent.cons; (· repeat (first | exact Pick.here | (refine Pick.sl ?_; (· repeat (first | exact List.Mem.head _ | assumption | apply List.Mem.tail))) | apply Pick.there))) | (refine Ent.trans (Ent.drop _ _) ?_))
    · skip
      refine RL.nil ?_
      refine SG.cond_false rfl ?_
      refine SG.exit rfl ?_
      refine SG.seq ?_
      refine SG.region ?_
      refine RL.val (Wanted.free rfl) (V.assign rfl rfl) rfl ?_
      refine RL.nil ?_
      refine SG.retE (Ret.r1 Try.func45 rfl (.tmp rfl)) ?_ ⟨by rw [decide_eq_true (by have h1 : l.length = l'.length := by omega
                                                                                      have h2 : i = l.length := by omega
                                                                                      rw [h2, List.take_length, h1, List.take_length] at htake; exact htake)], rfl⟩
      repeat (first | exact Ent.refl _ | (apply Ent.cons; (· repeat (first | exact Pick.here | (refine Pick.sl ?_; (· repeat (first | exact List.Mem.head _ | assumption | apply List.Mem.tail))) | apply Pick.there))) | (refine Ent.trans (Ent.drop _ _) ?_))

set_option maxRecDepth 100000 in
theorem ints_ok {κ : World} {L : List Assn} {a : Option Addr} {m c : Nat} {l : List Int} {k : Int} (hm : Sl RI a m c l ∈ L) (hk : 0 ≤ k) (hk2 : k ≤ 1000000) :
    Ctr Try.prog 40 #[.slice a m c, vI k] κ L (fun v M => ∃ a' k' c', v = .slice a' k' c' ∧ M = Buf RI 3 a' k' c' (l.take k.toNat) :: L) := by
  refine Ctr.enter (vs := [.slice a m c, vI k]) (m := 14) Try.func40 rfl rfl rfl ?_
  refine SG.sl hm fun hl _ _ => ?_
  obtain ⟨k, rfl⟩ := Int.eq_ofNat_of_zero_le hk
  refine SG.seq ?_
  refine SG.region ?_
  refine RL.val (Wanted.free rfl) (V.assign rfl rfl) rfl ?_
  refine RL.nil ?_
  refine SG.seq ?_
  refine SG.region ?_
  refine RL.val (Wanted.free rfl) (V.assign rfl rfl) rfl ?_
  refine RL.nil ?_
  refine SG.seq ?_
  refine SG.region ?_
  refine RL.val (Wanted.free rfl) (V.move rfl rfl) rfl ?_
  refine RL.val (Wanted.free rfl) (V.move rfl rfl) rfl ?_
  refine RL.val (Wanted.free rfl) (V.move rfl rfl) rfl ?_
  refine RL.val (Wanted.free rfl) (V.len rfl rfl el64.under rfl) rfl ?_
  refine RL.val (Wanted.free rfl) (V.move rfl rfl) rfl ?_
  refine RL.val (Wanted.free rfl) (V.min rfl rfl rfl rfl) rfl ?_
  refine RL.eff (Wanted.free rfl) (E.slice (lo := 0) (hi := min m k) rfl el64.slice rfl (by repeat (first | exact List.Mem.head _ | assumption | apply List.Mem.tail)) rfl ⟨_, _, rfl, (by first | rfl | omega)⟩ (by omega) (by omega)) rfl ?_
  intro _ _ hK9
  try rw [List.drop_zero] at hK9
  iterate 2 (try rw [Nat.sub_zero] at hK9)
  rw [show l.take (min m k) = l.take k from by rw [← hl, List.take_eq_take_iff]; omega] at hK9
  obtain ⟨a9, rfl, rfl⟩ := hK9
  refine RL.ent (Buf.nil (T := RI) (e := 3)) ?_
  refine RL.eff (Wanted.free rfl) (E.append (T := RI) rfl rfl rfl el64 el64.noInt rfl rfl (by repeat (first | exact Pick.here | assumption | apply Pick.there)) (Src.sl (by decide) (by repeat (first | exact List.Mem.head _ | assumption | apply List.Mem.tail))) (by first | omega | (simp; omega)) (by first | omega | (simp; omega))) rfl ?_
  intro _ _ hK10
  try rw [List.nil_append] at hK10
  try rw [Nat.zero_add] at hK10
  obtain ⟨a10, c10, rfl, rfl⟩ := hK10
  refine RL.val (Wanted.free rfl) (V.assign rfl rfl) rfl ?_
  refine RL.nil ?_
  refine SG.retE (Ret.r1 Try.func40 rfl (.tmp rfl)) ?_ ⟨_, _, _, rfl, rfl⟩
  repeat (first | exact Ent.refl _ | (apply Ent.cons; (· repeat (first | exact Pick.here | (refine Pick.sl ?_; (· repeat (first | exact List.Mem.head _ | assumption | apply List.Mem.tail))) | apply Pick.there))) | (refine Ent.trans (Ent.drop _ _) ?_))

set_option maxRecDepth 100000 in
theorem bound_ok {κ : World} {L : List Assn} (n most : Int) (h1 : -9223372036854775808 ≤ n) (h2 : n ≤ 9223372036854775807) (h3 : 0 ≤ most) (h4 : most ≤ 1000000000) :
    Ctr Try.prog 18 #[vI n, vI most] κ L (fun v M => v = vI (aroundV n (2 * most + 1) - most) ∧ M = L) := by
  refine Ctr.enter (vs := [vI n, vI most]) (m := 12) Try.func18 rfl rfl rfl ?_
  refine SG.seq ?_
  refine SG.region ?_
  refine RL.val (Wanted.free rfl) (V.assign rfl rfl) rfl ?_
  refine RL.nil ?_
  refine SG.seq ?_
  refine SG.region ?_
  refine RL.val (Wanted.free rfl) (V.move rfl rfl) rfl ?_
  refine RL.val (Wanted.free rfl) (V.move rfl rfl) rfl ?_
  refine RL.val (Wanted.free rfl) (V.bin rfl rfl rfl (B.mulI (by omega) (by omega))) rfl ?_
  refine RL.val (Wanted.free rfl) (V.bin rfl rfl rfl (B.addI (by omega) (by omega))) rfl ?_
  refine RL.eff (Wanted.free rfl) (E.call rfl go14 rfl (around_ok _ _ h1 h2 (by omega))) rfl ?_
  rintro _ _ ⟨rfl, rfl⟩
  obtain ⟨hb1, hb2⟩ := aroundV_bd (n := n) (most := 2 * most + 1) (by omega)
  refine RL.val (Wanted.free rfl) (V.move rfl rfl) rfl ?_
  refine RL.val (Wanted.free rfl) (V.bin rfl rfl rfl (B.subI (by omega) (by omega))) rfl ?_
  refine RL.val (Wanted.free rfl) (V.assign rfl rfl) rfl ?_
  refine RL.nil ?_
  refine SG.retE (Ret.r1 Try.func18 rfl (.tmp rfl)) ?_ ⟨rfl, rfl⟩
  repeat (first | exact Ent.refl _ | (apply Ent.cons; (· repeat (first | exact Pick.here | (refine Pick.sl ?_; (· repeat (first | exact List.Mem.head _ | assumption | apply List.Mem.tail))) | apply Pick.there))) | (refine Ent.trans (Ent.drop _ _) ?_))

set_option maxRecDepth 100000 in
theorem limit_ok {κ : World} {L : List Assn} (n most : Int) (h : 0 ≤ most) :
    Ctr Try.prog 67 #[vI n, vI most] κ L (fun v M => v = vI (limit n most) ∧ M = L) := by
  refine Ctr.enter (vs := [vI n, vI most]) (m := 9) Try.func67 rfl rfl rfl ?_
  refine SG.seq ?_
  refine SG.region ?_
  refine RL.val (Wanted.free rfl) (V.assign rfl rfl) rfl ?_
  refine RL.nil ?_
  refine SG.seq ?_
  refine SG.region ?_
  refine RL.val (Wanted.free rfl) (V.move rfl rfl) rfl ?_
  refine RL.val (Wanted.free rfl) (V.max rfl rfl rfl rfl) rfl ?_
  refine RL.val (Wanted.free rfl) (V.move rfl rfl) rfl ?_
  refine RL.val (Wanted.free rfl) (V.min rfl rfl rfl rfl) rfl ?_
  refine RL.val (Wanted.free rfl) (V.assign rfl rfl) rfl ?_
  refine RL.nil ?_
  refine SG.retE (Ret.r1 Try.func67 rfl (.tmp rfl)) ?_ ⟨by rw [limit_code h], rfl⟩
  repeat (first | exact Ent.refl _ | (apply Ent.cons; (· repeat (first | exact Pick.here | (refine Pick.sl ?_; (· repeat (first | exact List.Mem.head _ | assumption | apply List.Mem.tail))) | apply Pick.there))) | (refine Ent.trans (Ent.drop _ _) ?_))

set_option maxRecDepth 100000 in
theorem fill_ok {κ : World} {L : List Assn} {a : Option Addr} {q c : Nat} {l : List UInt8} (n : Int) (hm : Sl R8 a q c l ∈ L) (h1 : -9223372036854775808 ≤ n) (h2 : n ≤ 9223372036854775807) :
    Ctr Try.prog 32 #[.slice a q c, vI n] κ L (fun v M => ∃ a' c' s, s.length = 64 ∧ v = .slice a' 64 c' ∧ M = Buf R8 5 a' 64 c' s :: L) := by
  refine Ctr.enter (vs := [.slice a q c, vI n]) (m := 37) Try.func32 rfl rfl rfl ?_
  refine SG.sl hm fun hl _ hc63 => ?_
  obtain ⟨hb1, hb2⟩ := aroundV_bd (n := n) (most := 251) (by omega)
  refine SG.seq ?_
  refine SG.region ?_
  refine RL.val (Wanted.free rfl) (V.assign rfl rfl) rfl ?_
  refine RL.nil ?_
  refine SG.seq ?_
  refine SG.region ?_
  refine RL.val (Wanted.free rfl) (V.assign rfl rfl) rfl ?_
  refine RL.nil ?_
  refine SG.seq ?_
  refine SG.seq ?_
  refine SG.region ?_
  refine RL.val (Wanted.free rfl) (V.assign rfl rfl) rfl ?_
  refine RL.nil ?_
  refine SG.block ?_
  refine SG.ent (Buf.nil (T := R8) (e := 5)) ?_
  refine SG.weaken (SG.loop2 (fun m al M => ∃ (i : Nat) (a' : Option Addr) (c' : Nat) (s : List UInt8), i ≤ 64 ∧ m = 64 - i ∧ s.length = i ∧ al = [(0, .slice a q c), (1, vI n), (5, .slice a' i c'), (6, vI i)] ∧ M = Buf R8 5 a' i c' s :: L) (m0 := _) ⟨0, none, 0, [], by omega, rfl, rfl, rfl, rfl⟩ ?_) ?_ ?_
  rotate_left
  · repeat (first | exact EnvLe.nil _ | refine EnvLe.cons rfl ?_)
  · repeat (first | exact Ent.refl _ | (apply Ent.cons; (· repeat (first | exact Pick.here | (refine Pick.sl ?_; (· repeat (first | exact List.Mem.head _ | assumption | apply List.Mem.tail))) | apply Pick.there))) | (refine Ent.trans (Ent.drop _ _) ?_))
  rintro _ _ _ ⟨i, a', c', s, hi, rfl, hs, rfl, rfl⟩ ih0
  refine SG.seq ?_
  refine SG.seq ?_
  refine SG.region ?_
  refine RL.val (Wanted.free rfl) (V.move rfl rfl) rfl ?_
  refine RL.cmp (Wanted.free rfl) (V.bin rfl rfl rfl B.lss) rfl (fun h5 => ?_) (fun h5 => ?_)
  · skip
    refine RL.nil ?_
    refine SG.cond_true rfl ?_
    refine SG.skip ?_
    refine SG.seq ?_
    refine SG.block ?_
    refine SG.seq ?_
    refine SG.region ?_
    refine RL.val (Wanted.free rfl) (V.move rfl rfl) rfl ?_
    refine RL.eff (Wanted.free rfl) (E.call rfl go14 rfl (around_ok _ _ (by omega) (by omega) (by omega))) rfl ?_
    rintro _ _ ⟨rfl, rfl⟩
    refine RL.val (Wanted.free rfl) (V.move rfl rfl) rfl ?_
    refine RL.val (Wanted.free rfl) (V.bin rfl rfl rfl (B.quoI (by omega) (by omega) (by omega))) rfl ?_
    refine RL.val (Wanted.free rfl) (V.bin rfl rfl rfl (B.addI (by omega) (by omega))) rfl ?_
    refine RL.val (Wanted.free rfl) (V.assign rfl rfl) rfl ?_
    refine RL.nil ?_
    refine SG.seq ?_
    refine SG.seq ?_
    refine SG.region ?_
    refine RL.val (Wanted.free rfl) (V.move rfl rfl) rfl ?_
    refine RL.val (Wanted.free rfl) (V.len rfl rfl el32.under rfl) rfl ?_
    refine RL.cmp (Wanted.free rfl) (V.bin rfl rfl rfl B.gtr) rfl (fun h14 => ?_) (fun h14 => ?_)
    · skip
      refine RL.nil ?_
      refine SG.cond_true rfl ?_
      refine SG.region ?_
      refine RL.val (Wanted.free rfl) (V.move rfl rfl) rfl ?_
      refine RL.val (Wanted.free rfl) (V.move rfl rfl) rfl ?_
      refine RL.val (Wanted.free rfl) (V.move rfl rfl) rfl ?_
      refine RL.val (Wanted.free rfl) (V.move rfl rfl) rfl ?_
      refine RL.val (Wanted.free rfl) (V.len rfl rfl el32.under rfl) rfl ?_
      refine RL.val (Wanted.free rfl) (V.bin rfl rfl rfl (B.remI (by omega) (by omega))) rfl ?_
      refine RL.val (Wanted.free rfl) (V.indexSl (j := i % q) rfl el32.slice rfl rfl (by repeat (first | exact List.Mem.head _ | assumption | apply List.Mem.tail)) (by first | rfl | omega) (by rw [hl]; exact Nat.mod_lt _ (by omega))) rfl ?_
      refine RL.val (Wanted.free rfl) (V.loadSc rfl on5 rfl (by repeat (first | exact List.Mem.head _ | assumption | apply List.Mem.tail)) (List.getElem?_eq_getElem (by rw [hl]; exact Nat.mod_lt _ (by omega)))) rfl ?_
      have hu8 := (l[i % q]'(by rw [hl]; exact Nat.mod_lt _ (by omega))).toNat_lt
      refine RL.val (Wanted.free rfl) (V.toI rfl ⟨_, ui5⟩ ui3 rfl (by omega) (by omega)) rfl ?_
      refine RL.val (Wanted.free rfl) (V.bin rfl rfl rfl (B.addI (by omega) (by omega))) rfl ?_
      refine RL.val (Wanted.free rfl) (V.assign rfl rfl) rfl ?_
      refine RL.nil ?_
      refine SG.region ?_
      refine RL.val (Wanted.free rfl) (V.move rfl rfl) rfl ?_
      refine RL.val (Wanted.free rfl) (V.move rfl rfl) rfl ?_
      refine RL.val (Wanted.free rfl) (V.bin rfl rfl rfl (B.remI (by omega) (by omega))) rfl ?_
      refine RL.val (Wanted.free rfl) (V.to8 rfl ⟨_, ui3⟩ ui5 rfl) rfl ?_
      refine RL.eff (Wanted.free rfl) (E.lit1 _ rfl el32.slice ze5 rfl (by decide) (by decide) rfl rfl rfl) rfl ?_
      rintro _ _ ⟨b30, rfl, rfl⟩
      refine RL.eff (Wanted.free rfl) (E.append (T := R8) rfl rfl rfl el32 el32.noInt rfl rfl (by repeat (first | exact Pick.here | assumption | apply Pick.there)) (Src.lit (by repeat (first | exact Pick.here | assumption | apply Pick.there)) (by first | trivial | assumption | omega)) (by first | omega | (simp; omega)) (by first | omega | (simp; omega))) rfl ?_
      intro _ _ hK31
      try rw [List.nil_append] at hK31
      try rw [Nat.zero_add] at hK31
      obtain ⟨a35, c35, rfl, rfl⟩ := hK31
      refine RL.val (Wanted.free rfl) (V.assign rfl rfl) rfl ?_
      refine RL.nil ?_
      refine SG.inBlock ?_
      refine SG.region ?_
      refine RL.val (Wanted.free rfl) (V.move rfl rfl) rfl ?_
      refine RL.val (Wanted.free rfl) (V.bin rfl rfl rfl (B.addI (by omega) (by omega))) rfl ?_
      refine RL.val (Wanted.free rfl) (V.assign rfl rfl) rfl ?_
      refine RL.nil ?_
      refine SG.weaken (ih0 _ _ _ ?μ ⟨i + 1, a35, c35, ?s2, by omega, rfl, ?hs2, rfl, rfl⟩) ?env ?ent
      case ent => repeat (first | exact Ent.refl _ | (apply Ent.cons; (· repeat (first | exact Pick.here | (refine Pick.sl ?_; (· repeat (first | exact List.Mem.head _ | assumption | apply List.Mem.tail))) | apply Pick.there))) | (refine Ent.trans (Ent.drop _ _) ?_))
      case μ => omega
      case env => repeat (first | exact EnvLe.nil _ | refine EnvLe.cons rfl ?_)
      case hs2 => simp [hs]
    · skip
      refine RL.nil ?_
      refine SG.cond_false rfl ?_
      refine SG.skip ?_
      refine SG.region ?_
      refine RL.val (Wanted.free rfl) (V.move rfl rfl) rfl ?_
      refine RL.val (Wanted.free rfl) (V.move rfl rfl) rfl ?_
      refine RL.val (Wanted.free rfl) (V.bin rfl rfl rfl (B.remI (by omega) (by omega))) rfl ?_
      refine RL.val (Wanted.free rfl) (V.to8 rfl ⟨_, ui3⟩ ui5 rfl) rfl ?_
      refine RL.eff (Wanted.free rfl) (E.lit1 _ rfl el32.slice ze5 rfl (by decide) (by decide) rfl rfl rfl) rfl ?_
      rintro _ _ ⟨b40, rfl, rfl⟩
      refine RL.eff (Wanted.free rfl) (E.append (T := R8) rfl rfl rfl el32 el32.noInt rfl rfl (by repeat (first | exact Pick.here | assumption | apply Pick.there)) (Src.lit (by repeat (first | exact Pick.here | assumption | apply Pick.there)) (by first | trivial | assumption | omega)) (by first | omega | (simp; omega)) (by first | omega | (simp; omega))) rfl ?_
      intro _ _ hK41
      try rw [List.nil_append] at hK41
      try rw [Nat.zero_add] at hK41
      obtain ⟨a35, c35, rfl, rfl⟩ := hK41
      refine RL.val (Wanted.free rfl) (V.assign rfl rfl) rfl ?_
      refine RL.nil ?_
      refine SG.inBlock ?_
      refine SG.region ?_
      refine RL.val (Wanted.free rfl) (V.move rfl rfl) rfl ?_
      refine RL.val (Wanted.free rfl) (V.bin rfl rfl rfl (B.addI (by omega) (by omega))) rfl ?_
      refine RL.val (Wanted.free rfl) (V.assign rfl rfl) rfl ?_
      refine RL.nil ?_
      refine SG.weaken (ih0 _ _ _ ?μ2 ⟨i + 1, a35, c35, ?s3, by omega, rfl, ?hs3, rfl, rfl⟩) ?env2 ?ent2
      case ent2 => repeat (first | exact Ent.refl _ | (apply Ent.cons; (· repeat (first | exact Pick.here | (refine Pick.sl ?_; (· repeat (first | exact List.Mem.head _ | assumption | apply List.Mem.tail))) | apply Pick.there))) | (refine Ent.trans (Ent.drop _ _) ?_))
      case μ2 => omega
      case env2 => repeat (first | exact EnvLe.nil _ | refine EnvLe.cons rfl ?_)
      case hs3 => simp [hs]
  · skip
    refine RL.nil ?_
    refine SG.cond_false rfl ?_
    refine SG.exit rfl ?_
    refine SG.seq ?_
    refine SG.region ?_
    refine RL.val (Wanted.free rfl) (V.move rfl rfl) rfl ?_
    refine RL.val (Wanted.free rfl) (V.assign rfl rfl) rfl ?_
    refine RL.nil ?_
    obtain rfl : i = 64 := by omega
    refine SG.retE (Ret.r1 Try.func32 rfl (.tmp rfl)) ?_ ⟨_, _, s, by omega, rfl, rfl⟩
    repeat (first | exact Ent.refl _ | (apply Ent.cons; (· repeat (first | exact Pick.here | (refine Pick.sl ?_; (· repeat (first | exact List.Mem.head _ | assumption | apply List.Mem.tail))) | apply Pick.there))) | (refine Ent.trans (Ent.drop _ _) ?_))

set_option maxRecDepth 100000 in
theorem has_ok {κ : World} {L : List Assn} {a : Option Addr} {m c : Nat} {l : List Int} (x : Int) (hm : Sl RI a m c l ∈ L) :
    Ctr Try.prog 36 #[.slice a m c, vI x] κ L (fun v M => v = vB (decide (x ∈ l)) ∧ M = L) := by
  refine Ctr.enter (vs := [.slice a m c, vI x]) (m := 18) Try.func36 rfl rfl rfl ?_
  refine SG.sl hm fun hl _ hc63 => ?_
  subst hl
  refine SG.seq ?_
  refine SG.region ?_
  refine RL.val (Wanted.free rfl) (V.assign rfl rfl) rfl ?_
  refine RL.nil ?_
  refine SG.seq ?_
  refine SG.seq ?_
  refine SG.region ?_
  refine RL.val (Wanted.free rfl) (V.assign rfl rfl) rfl ?_
  refine RL.nil ?_
  refine SG.block ?_
  refine SG.weaken (SG.loop2 (fun m al M => ∃ i : Nat, i ≤ l.length ∧ x ∉ l.take i ∧ m = l.length - i ∧ al = [(0, .slice a l.length c), (1, vI x), (5, vI i)] ∧ M = L) (m0 := _) ⟨0, by omega, by simp, rfl, rfl, rfl⟩ ?_) ?_ ?_
  rotate_left
  · repeat (first | exact EnvLe.nil _ | refine EnvLe.cons rfl ?_)
  · repeat (first | exact Ent.refl _ | (apply Ent.cons; (· repeat (first | exact Pick.here | (refine Pick.sl ?_; (· repeat (first | exact List.Mem.head _ | assumption | apply List.Mem.tail))) | apply Pick.there))) | (refine Ent.trans (Ent.drop _ _) ?_))
  rintro _ _ _ ⟨i, hi, hno, rfl, rfl, rfl⟩ ih0
  refine SG.seq ?_
  refine SG.seq ?_
  refine SG.region ?_
  refine RL.val (Wanted.free rfl) (V.move rfl rfl) rfl ?_
  refine RL.val (Wanted.free rfl) (V.move rfl rfl) rfl ?_
  refine RL.val (Wanted.free rfl) (V.len rfl rfl el64.under rfl) rfl ?_
  refine RL.cmp (Wanted.free rfl) (V.bin rfl rfl rfl B.lss) rfl (fun h6 => ?_) (fun h6 => ?_)
  · skip
    refine RL.nil ?_
    refine SG.cond_true rfl ?_
    refine SG.skip ?_
    refine SG.seq ?_
    refine SG.block ?_
    refine SG.seq ?_
    refine SG.region ?_
    refine RL.val (Wanted.free rfl) (V.move rfl rfl) rfl ?_
    refine RL.val (Wanted.free rfl) (V.move rfl rfl) rfl ?_
    refine RL.val (Wanted.free rfl) (V.indexSl rfl el64.slice rfl rfl (by repeat (first | exact List.Mem.head _ | assumption | apply List.Mem.tail)) (by first | rfl | omega) (by omega)) rfl ?_
    refine RL.val (Wanted.free rfl) (V.loadSc rfl on3 rfl (by repeat (first | exact List.Mem.head _ | assumption | apply List.Mem.tail)) (List.getElem?_eq_getElem (by omega))) rfl ?_
    refine RL.val (Wanted.free rfl) (V.move rfl rfl) rfl ?_
    refine RL.cmp (Wanted.free rfl) (V.bin rfl rfl rfl B.eql) rfl (fun h12 => ?_) (fun h12 => ?_)
    · skip
      have hx : l[i] = x := h12
      have hin : x ∈ l := by rw [← hx]; exact List.getElem_mem _
      refine RL.nil ?_
      refine SG.cond_true rfl ?_
      refine SG.seq ?_
      refine SG.region ?_
      refine RL.val (Wanted.free rfl) (V.assign rfl rfl) rfl ?_
      refine RL.nil ?_
      refine SG.retE (Ret.r1 Try.func36 rfl (.tmp rfl)) ?_ ⟨by rw [decide_eq_true hin], rfl⟩
      repeat (first | exact Ent.refl _ | (apply Ent.cons; (· repeat (first | exact Pick.here | (refine Pick.sl ?_; (· repeat (first | exact List.Mem.head _ | assumption | apply List.Mem.tail))) | apply Pick.there))) | (refine Ent.trans (Ent.drop _ _) ?_))
    · skip
      refine RL.nil ?_
      refine SG.cond_false rfl ?_
      refine SG.skip ?_
      refine SG.inBlock ?_
      refine SG.region ?_
      refine RL.val (Wanted.free rfl) (V.move rfl rfl) rfl ?_
      refine RL.val (Wanted.free rfl) (V.bin rfl rfl rfl (B.addI (by omega) (by omega))) rfl ?_
      refine RL.val (Wanted.free rfl) (V.assign rfl rfl) rfl ?_
      refine RL.nil ?_
      refine SG.weaken (ih0 _ _ _ ?_ ⟨i + 1, by omega, ?_, rfl, rfl, rfl⟩) ?_ ?_
      · omega
      · rw [List.take_add_one, List.getElem?_eq_getElem (by omega), List.mem_append]; simp; exact ⟨hno, by omega⟩
      · repeat (first | exact EnvLe.nil _ | refine EnvLe.cons rfl ?_)
      · repeat (first | exact Ent.refl _ | (apply Ent.cons; (· repeat (first | exact Pick.here | (refine Pick.sl ?_; (· repeat (first | exact List.Mem.head _ | assumption | apply List.Mem.tail))) | apply Pick.there))) | (refine Ent.trans (Ent.drop _ _) ?_))
  · skip
    refine RL.nil ?_
    refine SG.cond_false rfl ?_
    refine SG.exit rfl ?_
    refine SG.seq ?_
    refine SG.region ?_
    refine RL.val (Wanted.free rfl) (V.assign rfl rfl) rfl ?_
    refine RL.nil ?_
    refine SG.retE (Ret.r1 Try.func36 rfl (.tmp rfl)) ?_ ⟨by rw [decide_eq_false (by rw [show i = l.length from by omega, List.take_length] at hno; exact hno)], rfl⟩
    repeat (first | exact Ent.refl _ | (apply Ent.cons; (· repeat (first | exact Pick.here | (refine Pick.sl ?_; (· repeat (first | exact List.Mem.head _ | assumption | apply List.Mem.tail))) | apply Pick.there))) | (refine Ent.trans (Ent.drop _ _) ?_))

end Go.Proofs.Yteghgfgkkpfcaaa
