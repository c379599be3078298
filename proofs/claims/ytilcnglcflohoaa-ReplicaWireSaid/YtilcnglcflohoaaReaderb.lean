/- The reader, its other functions. -/
import Derived.Test.YtilcnglcflohoaaReader
namespace Go.Proofs.Ytilcnglcflohoaa
open Go.Wk Go.Wire

theorem zag_code {u : UInt64} : IntKind.i64.wrap (BitVec.ofInt 64 ((u / 2).toNat : Int) ^^^ BitVec.ofInt 64 (-((u &&& 1).toNat : Int))).toNat = zag u := by
  have hu := u.toNat_lt
  have h1 : (u &&& 1).toNat = u.toNat % 2 := by rw [UInt64.toNat_and]; exact Nat.and_two_pow_sub_one_eq_mod _ 1
  have h2 : (u / 2).toNat = u.toNat / 2 := by rw [UInt64.toNat_div]; rfl
  rw [h1, h2]
  have hw : ∀ x : Int, IntKind.i64.wrap x = if x % 18446744073709551616 ≥ 9223372036854775808 then x % 18446744073709551616 - 18446744073709551616 else x % 18446744073709551616 := fun x => by
    simp [IntKind.wrap, IntKind.bits, IntKind.signed]
  unfold zag
  by_cases h : u.toNat % 2 = 1
  · rw [if_pos h, h]
    have e : BitVec.ofInt 64 (-((1 : Nat) : Int)) = BitVec.allOnes 64 := by decide
    rw [e, BitVec.xor_allOnes, BitVec.toNat_not, BitVec.toNat_ofInt, hw]
    omega
  · rw [if_neg h, show u.toNat % 2 = 0 from by omega]
    have e : BitVec.ofInt 64 (-((0 : Nat) : Int)) = 0#64 := by decide
    rw [e, BitVec.xor_zero, BitVec.toNat_ofInt, hw]
    omega
theorem rUint_rel {κ : World} {L L1 : List Assn} {b : Nat} {l : List UInt8} {e : Int} (hp : Pick (Rdr b l e) L L1) : Ctr Try.prog 83 #[ptr b 0] κ L (fun v M => ∃ l' e' x, rdU l e = (l', e', x) ∧ v = v64 x ∧ M = Rdr b l' e' :: L1) :=
  (rUint_ok hp).mono (Ent.refl _) fun _ _ h => ⟨_, _, _, rfl, h.1, h.2⟩
set_option maxRecDepth 100000 in
theorem rInt_ok {κ : World} {L : List Assn} {L1 : List Assn} {b : Nat} {l : List UInt8} {e : Int} (hp : Pick (Rdr b l e) L L1) :
    Ctr Try.prog 48 #[ptr b 0] κ L (fun v M => ∃ l' e' x, rdI l e = (l', e', x) ∧ v = vI x ∧ M = Rdr b l' e' :: L1) := by
 refine Ctr.enter (vs := [ptr b 0]) (m := 14) Try.func48 rfl rfl rfl ?_
 refine SG.ent hp ?_
 refine SG.seq ?_
 refine SG.region ?_
 refine RL.val (Wanted.free rfl) (V.assign rfl rfl) rfl ?_
 refine RL.nil ?_
 refine SG.seq ?_
 refine SG.region ?_
 refine RL.val (Wanted.free rfl) (V.move rfl rfl) rfl ?_
 refine RL.eff (Wanted.free rfl) (E.call rfl go83 rfl (rUint_rel pickX)) rfl ?_
 rintro _ _ ⟨l1, e1, u, hr, rfl, rfl⟩
 have hu := u.toNat_lt
 have h2 : (u / 2).toNat = u.toNat / 2 := by rw [UInt64.toNat_div]; rfl
 have h1 : (u &&& 1).toNat = u.toNat % 2 := by rw [UInt64.toNat_and]; exact Nat.and_two_pow_sub_one_eq_mod _ 1
 refine RL.val (Wanted.free rfl) (V.assign rfl rfl) rfl ?_
 refine RL.nil ?_
 refine SG.seq ?_
 refine SG.region ?_
 refine RL.val (Wanted.free rfl) (V.move rfl rfl) rfl ?_
 refine RL.val (Wanted.free rfl) (V.bin rfl rfl rfl (B.shr64 2 (by decide) (by decide))) rfl ?_
 refine RL.val (Wanted.free rfl) (V.toI rfl ⟨_, ui107⟩ ui3 rfl (by omega) (by omega)) rfl ?_
 refine RL.val (Wanted.free rfl) (V.move rfl rfl) rfl ?_
 refine RL.val (Wanted.free rfl) (V.bin rfl rfl rfl (B.and64 (y := 1))) rfl ?_
 refine RL.val (Wanted.free rfl) (V.toI rfl ⟨_, ui107⟩ ui3 rfl (by omega) (by omega)) rfl ?_
 refine RL.val (Wanted.free rfl) (V.negI rfl rfl (by omega) (by omega)) rfl ?_
 refine RL.val (Wanted.free rfl) (V.bin rfl rfl rfl (B.xorI zag_code)) rfl ?_
 refine RL.val (Wanted.free rfl) (V.assign rfl rfl) rfl ?_
 refine RL.nil ?_
 refine SG.retE (Ret.r1 Try.func48 rfl (.tmp rfl)) ?_ ⟨_, _, _, rdI_eq hr, rfl, rfl⟩
 exact entX

set_option maxRecDepth 100000 in
theorem rBool_ok {κ : World} {L : List Assn} {L1 : List Assn} {b : Nat} {l : List UInt8} {e : Int} (hp : Pick (Rdr b l e) L L1) :
    Ctr Try.prog 47 #[ptr b 0] κ L (fun v M => ∃ l' e' x, rdB l e = (l', e', x) ∧ v = vB x ∧ M = Rdr b l' e' :: L1) := by
 refine Ctr.enter (vs := [ptr b 0]) (m := 55) Try.func47 rfl rfl rfl ?_
 refine SG.openRdr hp fun a m c hl hmc hc => ?_
 subst hl
 refine SG.seq ?_
 refine SG.region ?_
 refine RL.val (Wanted.free rfl) (V.assign rfl rfl) rfl ?_
 refine RL.nil ?_
 refine SG.seq ?_
 refine SG.block ?_
 refine SG.seq ?_
 refine SG.region ?_
 refine RL.val (Wanted.free rfl) (V.move rfl rfl) rfl ?_
 refine RL.val (Wanted.free rfl) (V.nilCheck rfl rfl) rfl ?_
 refine RL.val (Wanted.free rfl) (V.fieldAddr rfl rfl fo113_0) rfl ?_
 refine RL.val (Wanted.free rfl) (V.fieldAddr rfl rfl fo111_1) rfl ?_
 refine RL.val (Wanted.free rfl) (V.load rfl on27 rfl pickX rfl) rfl ?_
 refine RL.cmp (Wanted.free rfl) (V.bin rfl rfl rfl B.neq) rfl (fun h7 => ?_) (fun h7 => ?_)
 ·
  refine RL.val (Wanted.free rfl) (V.assign rfl rfl) rfl ?_
  refine RL.nil ?_
  refine SG.cond_true rfl ?_
  refine SG.seq ?_
  refine SG.region ?_
  refine RL.val (Wanted.free rfl) (V.assign rfl rfl) rfl ?_
  refine RL.nil ?_
  refine SG.retE (Ret.r1 Try.func47 rfl (.tmp rfl)) ?_ ⟨_, _, _, rdB_err (by omega), rfl, rfl⟩
  apply Rdr.ent
  exact entX
 ·
  refine RL.val (Wanted.free rfl) (V.assign rfl rfl) rfl ?_
  refine RL.nil ?_
  refine SG.cond_false rfl ?_
  refine SG.seq ?_
  have he0 : e = 0 := by omega
  subst he0
  refine SG.region ?_
  refine RL.val (Wanted.free rfl) (V.move rfl rfl) rfl ?_
  refine RL.val (Wanted.free rfl) (V.nilCheck rfl rfl) rfl ?_
  refine RL.val (Wanted.free rfl) (V.fieldAddr rfl rfl fo113_0) rfl ?_
  refine RL.val (Wanted.free rfl) (V.fieldAddr rfl rfl fo111_0) rfl ?_
  refine RL.val (Wanted.free rfl) (V.load rfl on65 rfl pickX rfl) rfl ?_
  refine RL.val (Wanted.free rfl) (V.len rfl rfl el65.under rfl) rfl ?_
  refine RL.cmp (Wanted.free rfl) (V.bin rfl rfl rfl B.eql) rfl (fun h17 => ?_) (fun h17 => ?_)
  ·
   refine RL.val (Wanted.free rfl) (V.assign rfl rfl) rfl ?_
   refine RL.nil ?_
   refine SG.cond_true rfl ?_
   refine SG.seq ?_
   refine SG.region ?_
   refine RL.val (Wanted.free rfl) (V.move rfl rfl) rfl ?_
   refine RL.val (Wanted.free rfl) (V.nilCheck rfl rfl) rfl ?_
   refine RL.val (Wanted.free rfl) (V.fieldAddr rfl rfl fo113_0) rfl ?_
   refine RL.eff (Wanted.free rfl) (E.call rfl go82 rfl (fail_ok _ pickX)) rfl ?_
   rintro _ _ ⟨rfl, rfl⟩
   refine RL.nil ?_
   refine SG.seq ?_
   refine SG.region ?_
   refine RL.val (Wanted.free rfl) (V.assign rfl rfl) rfl ?_
   refine RL.nil ?_
   refine SG.retE (Ret.r1 Try.func47 rfl (.tmp rfl)) ?_ ⟨_, _, _, rdB_nil (by omega), rfl, rfl⟩
   apply Rdr.ent
   exact entX
  ·
   refine RL.val (Wanted.free rfl) (V.assign rfl rfl) rfl ?_
   refine RL.nil ?_
   refine SG.cond_false rfl ?_
   refine SG.seq ?_
   refine SG.region ?_
   refine RL.val (Wanted.free rfl) (V.move rfl rfl) rfl ?_
   refine RL.val (Wanted.free rfl) (V.nilCheck rfl rfl) rfl ?_
   refine RL.val (Wanted.free rfl) (V.fieldAddr rfl rfl fo113_0) rfl ?_
   refine RL.val (Wanted.free rfl) (V.fieldAddr rfl rfl fo111_0) rfl ?_
   refine RL.val (Wanted.free rfl) (V.load rfl on65 rfl pickX rfl) rfl ?_
   refine RL.val (Wanted.free rfl) (V.indexSl (j := 0) rfl el65.slice rfl rfl memX (by first | rfl | omega) (by omega)) rfl ?_
   refine RL.val (Wanted.free rfl) (V.loadSc rfl on5 rfl memX (List.getElem?_eq_getElem (by omega))) rfl ?_
   refine RL.cmp (Wanted.free rfl) (V.bin rfl rfl rfl B.gtr) rfl (fun h32 => ?_) (fun h32 => ?_)
   ·
    refine RL.val (Wanted.free rfl) (V.assign rfl rfl) rfl ?_
    refine RL.nil ?_
    refine SG.cond_true rfl ?_
    refine SG.seq ?_
    refine SG.region ?_
    refine RL.val (Wanted.free rfl) (V.move rfl rfl) rfl ?_
    refine RL.val (Wanted.free rfl) (V.nilCheck rfl rfl) rfl ?_
    refine RL.val (Wanted.free rfl) (V.fieldAddr rfl rfl fo113_0) rfl ?_
    refine RL.eff (Wanted.free rfl) (E.call rfl go82 rfl (fail_ok _ pickX)) rfl ?_
    rintro _ _ ⟨rfl, rfl⟩
    refine RL.nil ?_
    refine SG.seq ?_
    refine SG.region ?_
    refine RL.val (Wanted.free rfl) (V.assign rfl rfl) rfl ?_
    refine RL.nil ?_
    refine SG.retE (Ret.r1 Try.func47 rfl (.tmp rfl)) ?_ ⟨_, _, _, rdB_form (by omega) (by omega), rfl, rfl⟩
    apply Rdr.ent
    exact entX
   ·
    refine RL.val (Wanted.free rfl) (V.assign rfl rfl) rfl ?_
    refine RL.nil ?_
    refine SG.cond_false rfl ?_
    refine SG.skip ?_
    refine SG.inBlock ?_
    refine SG.seq ?_
    refine SG.region ?_
    refine RL.val (Wanted.free rfl) (V.move rfl rfl) rfl ?_
    refine RL.val (Wanted.free rfl) (V.nilCheck rfl rfl) rfl ?_
    refine RL.val (Wanted.free rfl) (V.fieldAddr rfl rfl fo113_0) rfl ?_
    refine RL.val (Wanted.free rfl) (V.fieldAddr rfl rfl fo111_0) rfl ?_
    refine RL.val (Wanted.free rfl) (V.load rfl on65 rfl pickX rfl) rfl ?_
    refine RL.val (Wanted.free rfl) (V.indexSl (j := 0) rfl el65.slice rfl rfl memX (by first | rfl | omega) (by omega)) rfl ?_
    refine RL.val (Wanted.free rfl) (V.loadSc rfl on5 rfl memX (List.getElem?_eq_getElem (by omega))) rfl ?_
    refine RL.val (Wanted.free rfl) (V.bin rfl rfl rfl B.eql) rfl ?_
    refine RL.val (Wanted.free rfl) (V.assign rfl rfl) rfl ?_
    refine RL.nil ?_
    refine SG.seq ?_
    refine SG.region ?_
    refine RL.val (Wanted.free rfl) (V.move rfl rfl) rfl ?_
    refine RL.val (Wanted.free rfl) (V.move rfl rfl) rfl ?_
    refine RL.val (Wanted.free rfl) (V.nilCheck rfl rfl) rfl ?_
    refine RL.val (Wanted.free rfl) (V.fieldAddr rfl rfl fo113_0) rfl ?_
    refine RL.val (Wanted.free rfl) (V.fieldAddr rfl rfl fo111_0) rfl ?_
    refine RL.val (Wanted.free rfl) (V.load rfl on65 rfl pickX rfl) rfl ?_
    refine RL.eff (Wanted.free rfl) (E.slice (lo := 1) (hi := l.length) rfl el65.slice rfl memX ⟨_, _, rfl, (by first | rfl | omega)⟩ rfl (by omega) (by omega)) rfl ?_
    intro _ _ hK55
    try rw [List.drop_zero] at hK55
    iterate 2 (try rw [Nat.sub_zero] at hK55)
    rw [show (l.drop (1)).take (l.length - (1)) = l.drop (1) from List.take_of_length_le (by simp)] at hK55
    obtain ⟨a55, rfl, rfl⟩ := hK55
    refine RL.val (Wanted.free rfl) (V.nilCheck rfl rfl) rfl ?_
    refine RL.val (Wanted.free rfl) (V.fieldAddr rfl rfl fo113_0) rfl ?_
    refine RL.val (Wanted.free rfl) (V.fieldAddr rfl rfl fo111_0) rfl ?_
    refine RL.eff (Wanted.free rfl) (E.store1 rfl rfl rfl rfl rfl sz65 pickX rfl) rfl ?_
    rintro _ _ rfl
    refine RL.nil ?_
    refine SG.seq ?_
    refine SG.region ?_
    refine RL.val (Wanted.free rfl) (V.move rfl rfl) rfl ?_
    refine RL.val (Wanted.free rfl) (V.assign rfl rfl) rfl ?_
    refine RL.nil ?_
    refine SG.retE (Ret.r1 Try.func47 rfl (.tmp rfl)) ?_ ⟨_, _, _, rdB_ok (by omega) (by omega), congrArg _ (decide_eq_decide.2 (by omega)), rfl⟩
    apply Rdr.ent
    exact entX

set_option maxRecDepth 100000 in
theorem rLen_ok {κ : World} {L : List Assn} {L1 : List Assn} {b : Nat} {l : List UInt8} {e : Int} (most : Int) (hp : Pick (Rdr b l e) L L1) (hm1 : -9223372036854775808 ≤ most) (hm2 : most ≤ 9223372036854775807) :
    Ctr Try.prog 81 #[ptr b 0, vI most] κ L (fun v M => ∃ l' e' k, rdL l e most = (l', e', k) ∧ v = vI (k : Int) ∧ M = Rdr b l' e' :: L1 ∧ ((k : Int) ≤ most ∨ k = 0)) := by
 refine Ctr.enter (vs := [ptr b 0, vI most]) (m := 36) Try.func81 rfl rfl rfl ?_
 refine SG.ent hp ?_
 have hcv : 0 ≤ most → ((UInt64.ofNat (most % 18446744073709551616).toNat).toNat : Int) = most := by intro h; rw [UInt64.toNat_ofNat']; omega
 refine SG.seq ?_
 refine SG.region ?_
 refine RL.val (Wanted.free rfl) (V.assign rfl rfl) rfl ?_
 refine RL.nil ?_
 refine SG.seq ?_
 refine SG.region ?_
 refine RL.val (Wanted.free rfl) (V.move rfl rfl) rfl ?_
 refine RL.eff (Wanted.free rfl) (E.call rfl go83 rfl (rUint_rel pickX)) rfl ?_
 rintro _ _ ⟨l1, e1, u, hr, rfl, rfl⟩
 have hu := u.toNat_lt
 refine RL.val (Wanted.free rfl) (V.assign rfl rfl) rfl ?_
 refine RL.nil ?_
 refine SG.seq ?_
 refine SG.seq ?_
 refine SG.openRdr pickX fun a m c hl hmc hc => ?_
 refine SG.region ?_
 refine RL.val (Wanted.free rfl) (V.move rfl rfl) rfl ?_
 refine RL.val (Wanted.free rfl) (V.nilCheck rfl rfl) rfl ?_
 refine RL.val (Wanted.free rfl) (V.fieldAddr rfl rfl fo113_0) rfl ?_
 refine RL.val (Wanted.free rfl) (V.fieldAddr rfl rfl fo111_1) rfl ?_
 refine RL.val (Wanted.free rfl) (V.load rfl on27 rfl pickX rfl) rfl ?_
 refine RL.cmp (Wanted.free rfl) (V.bin rfl rfl rfl B.eql) rfl (fun h10 => ?_) (fun h10 => ?_)
 ·
  refine RL.val (Wanted.free rfl) (V.move rfl rfl) rfl ?_
  refine RL.val (Wanted.yes rfl rfl rfl rfl) (V.move rfl rfl) rfl ?_
  refine RL.cmp (Wanted.yes rfl rfl rfl rfl) (V.bin rfl rfl rfl B.lss) rfl (fun h13 => ?_) (fun h13 => ?_)
  ·
   refine RL.val (Wanted.yes rfl rfl rfl rfl) (V.move rfl rfl) rfl ?_
   refine RL.skip (Wanted.no rfl rfl rfl rfl rfl) rfl ?_
   refine RL.skip (Wanted.no rfl rfl rfl rfl rfl) rfl ?_
   refine RL.skip (Wanted.no rfl rfl rfl rfl rfl) rfl ?_
   refine RL.skip (Wanted.no rfl rfl rfl rfl rfl) rfl ?_
   refine RL.val (Wanted.yes rfl rfl rfl rfl) (V.pick_true rfl rfl rfl) rfl ?_
   refine RL.val (Wanted.free rfl) (V.pick_true rfl rfl rfl) rfl ?_
   refine RL.nil ?_
   refine SG.cond_true rfl ?_
   refine SG.region ?_
   refine RL.val (Wanted.free rfl) (V.move rfl rfl) rfl ?_
   refine RL.val (Wanted.free rfl) (V.nilCheck rfl rfl) rfl ?_
   refine RL.val (Wanted.free rfl) (V.fieldAddr rfl rfl fo113_0) rfl ?_
   refine RL.eff (Wanted.free rfl) (E.call rfl go82 rfl (fail_ok _ pickX)) rfl ?_
   rintro _ _ ⟨rfl, rfl⟩
   have he1 : e1 = 0 := by omega
   subst he1
   rw [if_pos rfl]
   refine RL.nil ?_
   refine SG.seq ?_
   refine SG.seq ?_
   refine SG.region ?_
   refine RL.val (Wanted.free rfl) (V.move rfl rfl) rfl ?_
   refine RL.val (Wanted.free rfl) (V.nilCheck rfl rfl) rfl ?_
   refine RL.val (Wanted.free rfl) (V.fieldAddr rfl rfl fo113_0) rfl ?_
   refine RL.val (Wanted.free rfl) (V.fieldAddr rfl rfl fo111_1) rfl ?_
   refine RL.val (Wanted.free rfl) (V.load rfl on27 rfl pickX rfl) rfl ?_
   refine RL.cmp (Wanted.free rfl) (V.bin rfl rfl rfl B.neq) rfl (fun h24 => ?_) (fun h24 => ?_)
   ·
    refine RL.nil ?_
    refine SG.cond_true rfl ?_
    refine SG.seq ?_
    refine SG.region ?_
    refine RL.val (Wanted.free rfl) (V.assign rfl rfl) rfl ?_
    refine RL.nil ?_
    try (have he1 : e1 = 0 := (by omega); subst he1)
    first
    | (exfalso; omega)
    | (refine SG.retE (Ret.r1 Try.func81 rfl (.tmp rfl)) ?_ ⟨_, _, _, rdL_err hr (by omega), rfl, rfl, .inr rfl⟩; (apply Rdr.ent; repeat (first | exact Ent.refl _ | (apply Ent.cons; (· repeat (first | exact Pick.here | (refine Pick.sl ?_; (· repeat (first | exact List.Mem.head _ | assumption | apply List.Mem.tail))) | apply Pick.there))) | (refine Ent.trans (Ent.drop _ _) ?_))))
    | (refine SG.retE (Ret.r1 Try.func81 rfl (.tmp rfl)) ?_ ⟨_, _, _, rdL_bad hr (by omega), rfl, rfl, .inr rfl⟩; (apply Rdr.ent; repeat (first | exact Ent.refl _ | (apply Ent.cons; (· repeat (first | exact Pick.here | (refine Pick.sl ?_; (· repeat (first | exact List.Mem.head _ | assumption | apply List.Mem.tail))) | apply Pick.there))) | (refine Ent.trans (Ent.drop _ _) ?_))))
    | (refine SG.retE (Ret.r1 Try.func81 rfl (.tmp rfl)) ?_ ⟨_, _, _, rdL_ok hr (by omega), rfl, rfl, by omega⟩; (apply Rdr.ent; repeat (first | exact Ent.refl _ | (apply Ent.cons; (· repeat (first | exact Pick.here | (refine Pick.sl ?_; (· repeat (first | exact List.Mem.head _ | assumption | apply List.Mem.tail))) | apply Pick.there))) | (refine Ent.trans (Ent.drop _ _) ?_))))
   ·
    refine RL.nil ?_
    refine SG.cond_false rfl ?_
    refine SG.skip ?_
    refine SG.seq ?_
    refine SG.region ?_
    refine RL.val (Wanted.free rfl) (V.move rfl rfl) rfl ?_
    refine RL.val (Wanted.free rfl) (V.toI rfl ⟨_, ui107⟩ ui3 rfl (by omega) (by omega)) rfl ?_
    try (have he1 : e1 = 0 := (by omega); subst he1)
    refine RL.val (Wanted.free rfl) (V.assign rfl rfl) rfl ?_
    refine RL.nil ?_
    try (have he1 : e1 = 0 := (by omega); subst he1)
    first
    | (exfalso; omega)
    | (refine SG.retE (Ret.r1 Try.func81 rfl (.tmp rfl)) ?_ ⟨_, _, _, rdL_err hr (by omega), rfl, rfl, .inr rfl⟩; (apply Rdr.ent; repeat (first | exact Ent.refl _ | (apply Ent.cons; (· repeat (first | exact Pick.here | (refine Pick.sl ?_; (· repeat (first | exact List.Mem.head _ | assumption | apply List.Mem.tail))) | apply Pick.there))) | (refine Ent.trans (Ent.drop _ _) ?_))))
    | (refine SG.retE (Ret.r1 Try.func81 rfl (.tmp rfl)) ?_ ⟨_, _, _, rdL_bad hr (by omega), rfl, rfl, .inr rfl⟩; (apply Rdr.ent; repeat (first | exact Ent.refl _ | (apply Ent.cons; (· repeat (first | exact Pick.here | (refine Pick.sl ?_; (· repeat (first | exact List.Mem.head _ | assumption | apply List.Mem.tail))) | apply Pick.there))) | (refine Ent.trans (Ent.drop _ _) ?_))))
    | (refine SG.retE (Ret.r1 Try.func81 rfl (.tmp rfl)) ?_ ⟨_, _, _, rdL_ok hr (by omega), rfl, rfl, by omega⟩; (apply Rdr.ent; repeat (first | exact Ent.refl _ | (apply Ent.cons; (· repeat (first | exact Pick.here | (refine Pick.sl ?_; (· repeat (first | exact List.Mem.head _ | assumption | apply List.Mem.tail))) | apply Pick.there))) | (refine Ent.trans (Ent.drop _ _) ?_))))
  ·
   refine RL.val (Wanted.yes rfl rfl rfl rfl) (V.move rfl rfl) rfl ?_
   refine RL.val (Wanted.yes rfl rfl rfl rfl) (V.move rfl rfl) rfl ?_
   refine RL.val (Wanted.yes rfl rfl rfl rfl) (V.move rfl rfl) rfl ?_
   refine RL.val (Wanted.yes rfl rfl rfl rfl) (V.to64 rfl ⟨_, ui3⟩ ui107 rfl) rfl ?_
   refine RL.cmp (Wanted.yes rfl rfl rfl rfl) (V.bin rfl rfl rfl B.gtr) rfl (fun h33 => ?_) (fun h33 => ?_)
   ·
    refine RL.val (Wanted.yes rfl rfl rfl rfl) (V.pick_false rfl rfl rfl) rfl ?_
    refine RL.val (Wanted.free rfl) (V.pick_true rfl rfl rfl) rfl ?_
    refine RL.nil ?_
    refine SG.cond_true rfl ?_
    refine SG.region ?_
    refine RL.val (Wanted.free rfl) (V.move rfl rfl) rfl ?_
    refine RL.val (Wanted.free rfl) (V.nilCheck rfl rfl) rfl ?_
    refine RL.val (Wanted.free rfl) (V.fieldAddr rfl rfl fo113_0) rfl ?_
    refine RL.eff (Wanted.free rfl) (E.call rfl go82 rfl (fail_ok _ pickX)) rfl ?_
    rintro _ _ ⟨rfl, rfl⟩
    have he1 : e1 = 0 := by omega
    subst he1
    rw [if_pos rfl]
    refine RL.nil ?_
    refine SG.seq ?_
    refine SG.seq ?_
    refine SG.region ?_
    refine RL.val (Wanted.free rfl) (V.move rfl rfl) rfl ?_
    refine RL.val (Wanted.free rfl) (V.nilCheck rfl rfl) rfl ?_
    refine RL.val (Wanted.free rfl) (V.fieldAddr rfl rfl fo113_0) rfl ?_
    refine RL.val (Wanted.free rfl) (V.fieldAddr rfl rfl fo111_1) rfl ?_
    refine RL.val (Wanted.free rfl) (V.load rfl on27 rfl pickX rfl) rfl ?_
    refine RL.cmp (Wanted.free rfl) (V.bin rfl rfl rfl B.neq) rfl (fun h43 => ?_) (fun h43 => ?_)
    ·
     refine RL.nil ?_
     refine SG.cond_true rfl ?_
     refine SG.seq ?_
     refine SG.region ?_
     refine RL.val (Wanted.free rfl) (V.assign rfl rfl) rfl ?_
     refine RL.nil ?_
     try (have he1 : e1 = 0 := (by omega); subst he1)
     first
     | (exfalso; omega)
     | (refine SG.retE (Ret.r1 Try.func81 rfl (.tmp rfl)) ?_ ⟨_, _, _, rdL_err hr (by omega), rfl, rfl, .inr rfl⟩; (apply Rdr.ent; repeat (first | exact Ent.refl _ | (apply Ent.cons; (· repeat (first | exact Pick.here | (refine Pick.sl ?_; (· repeat (first | exact List.Mem.head _ | assumption | apply List.Mem.tail))) | apply Pick.there))) | (refine Ent.trans (Ent.drop _ _) ?_))))
     | (refine SG.retE (Ret.r1 Try.func81 rfl (.tmp rfl)) ?_ ⟨_, _, _, rdL_bad hr (by omega), rfl, rfl, .inr rfl⟩; (apply Rdr.ent; repeat (first | exact Ent.refl _ | (apply Ent.cons; (· repeat (first | exact Pick.here | (refine Pick.sl ?_; (· repeat (first | exact List.Mem.head _ | assumption | apply List.Mem.tail))) | apply Pick.there))) | (refine Ent.trans (Ent.drop _ _) ?_))))
     | (refine SG.retE (Ret.r1 Try.func81 rfl (.tmp rfl)) ?_ ⟨_, _, _, rdL_ok hr (by omega), rfl, rfl, by omega⟩; (apply Rdr.ent; repeat (first | exact Ent.refl _ | (apply Ent.cons; (· repeat (first | exact Pick.here | (refine Pick.sl ?_; (· repeat (first | exact List.Mem.head _ | assumption | apply List.Mem.tail))) | apply Pick.there))) | (refine Ent.trans (Ent.drop _ _) ?_))))
    ·
     refine RL.nil ?_
     refine SG.cond_false rfl ?_
     refine SG.skip ?_
     refine SG.seq ?_
     refine SG.region ?_
     refine RL.val (Wanted.free rfl) (V.move rfl rfl) rfl ?_
     refine RL.val (Wanted.free rfl) (V.toI rfl ⟨_, ui107⟩ ui3 rfl (by omega) (by omega)) rfl ?_
     try (have he1 : e1 = 0 := (by omega); subst he1)
     refine RL.val (Wanted.free rfl) (V.assign rfl rfl) rfl ?_
     refine RL.nil ?_
     try (have he1 : e1 = 0 := (by omega); subst he1)
     first
     | (exfalso; omega)
     | (refine SG.retE (Ret.r1 Try.func81 rfl (.tmp rfl)) ?_ ⟨_, _, _, rdL_err hr (by omega), rfl, rfl, .inr rfl⟩; (apply Rdr.ent; repeat (first | exact Ent.refl _ | (apply Ent.cons; (· repeat (first | exact Pick.here | (refine Pick.sl ?_; (· repeat (first | exact List.Mem.head _ | assumption | apply List.Mem.tail))) | apply Pick.there))) | (refine Ent.trans (Ent.drop _ _) ?_))))
     | (refine SG.retE (Ret.r1 Try.func81 rfl (.tmp rfl)) ?_ ⟨_, _, _, rdL_bad hr (by omega), rfl, rfl, .inr rfl⟩; (apply Rdr.ent; repeat (first | exact Ent.refl _ | (apply Ent.cons; (· repeat (first | exact Pick.here | (refine Pick.sl ?_; (· repeat (first | exact List.Mem.head _ | assumption | apply List.Mem.tail))) | apply Pick.there))) | (refine Ent.trans (Ent.drop _ _) ?_))))
     | (refine SG.retE (Ret.r1 Try.func81 rfl (.tmp rfl)) ?_ ⟨_, _, _, rdL_ok hr (by omega), rfl, rfl, by omega⟩; (apply Rdr.ent; repeat (first | exact Ent.refl _ | (apply Ent.cons; (· repeat (first | exact Pick.here | (refine Pick.sl ?_; (· repeat (first | exact List.Mem.head _ | assumption | apply List.Mem.tail))) | apply Pick.there))) | (refine Ent.trans (Ent.drop _ _) ?_))))
   ·
    refine RL.val (Wanted.yes rfl rfl rfl rfl) (V.pick_false rfl rfl rfl) rfl ?_
    refine RL.val (Wanted.free rfl) (V.pick_true rfl rfl rfl) rfl ?_
    refine RL.nil ?_
    refine SG.cond_false rfl ?_
    refine SG.skip ?_
    refine SG.seq ?_
    refine SG.seq ?_
    refine SG.region ?_
    refine RL.val (Wanted.free rfl) (V.move rfl rfl) rfl ?_
    refine RL.val (Wanted.free rfl) (V.nilCheck rfl rfl) rfl ?_
    refine RL.val (Wanted.free rfl) (V.fieldAddr rfl rfl fo113_0) rfl ?_
    refine RL.val (Wanted.free rfl) (V.fieldAddr rfl rfl fo111_1) rfl ?_
    refine RL.val (Wanted.free rfl) (V.load rfl on27 rfl pickX rfl) rfl ?_
    refine RL.cmp (Wanted.free rfl) (V.bin rfl rfl rfl B.neq) rfl (fun h53 => ?_) (fun h53 => ?_)
    ·
     refine RL.nil ?_
     refine SG.cond_true rfl ?_
     refine SG.seq ?_
     refine SG.region ?_
     refine RL.val (Wanted.free rfl) (V.assign rfl rfl) rfl ?_
     refine RL.nil ?_
     try (have he1 : e1 = 0 := (by omega); subst he1)
     first
     | (exfalso; omega)
     | (refine SG.retE (Ret.r1 Try.func81 rfl (.tmp rfl)) ?_ ⟨_, _, _, rdL_err hr (by omega), rfl, rfl, .inr rfl⟩; (apply Rdr.ent; repeat (first | exact Ent.refl _ | (apply Ent.cons; (· repeat (first | exact Pick.here | (refine Pick.sl ?_; (· repeat (first | exact List.Mem.head _ | assumption | apply List.Mem.tail))) | apply Pick.there))) | (refine Ent.trans (Ent.drop _ _) ?_))))
     | (refine SG.retE (Ret.r1 Try.func81 rfl (.tmp rfl)) ?_ ⟨_, _, _, rdL_bad hr (by omega), rfl, rfl, .inr rfl⟩; (apply Rdr.ent; repeat (first | exact Ent.refl _ | (apply Ent.cons; (· repeat (first | exact Pick.here | (refine Pick.sl ?_; (· repeat (first | exact List.Mem.head _ | assumption | apply List.Mem.tail))) | apply Pick.there))) | (refine Ent.trans (Ent.drop _ _) ?_))))
     | (refine SG.retE (Ret.r1 Try.func81 rfl (.tmp rfl)) ?_ ⟨_, _, _, rdL_ok hr (by omega), rfl, rfl, by omega⟩; (apply Rdr.ent; repeat (first | exact Ent.refl _ | (apply Ent.cons; (· repeat (first | exact Pick.here | (refine Pick.sl ?_; (· repeat (first | exact List.Mem.head _ | assumption | apply List.Mem.tail))) | apply Pick.there))) | (refine Ent.trans (Ent.drop _ _) ?_))))
    ·
     refine RL.nil ?_
     refine SG.cond_false rfl ?_
     refine SG.skip ?_
     refine SG.seq ?_
     refine SG.region ?_
     refine RL.val (Wanted.free rfl) (V.move rfl rfl) rfl ?_
     refine RL.val (Wanted.free rfl) (V.toI rfl ⟨_, ui107⟩ ui3 rfl (by omega) (by omega)) rfl ?_
     try (have he1 : e1 = 0 := (by omega); subst he1)
     refine RL.val (Wanted.free rfl) (V.assign rfl rfl) rfl ?_
     refine RL.nil ?_
     try (have he1 : e1 = 0 := (by omega); subst he1)
     first
     | (exfalso; omega)
     | (refine SG.retE (Ret.r1 Try.func81 rfl (.tmp rfl)) ?_ ⟨_, _, _, rdL_err hr (by omega), rfl, rfl, .inr rfl⟩; (apply Rdr.ent; repeat (first | exact Ent.refl _ | (apply Ent.cons; (· repeat (first | exact Pick.here | (refine Pick.sl ?_; (· repeat (first | exact List.Mem.head _ | assumption | apply List.Mem.tail))) | apply Pick.there))) | (refine Ent.trans (Ent.drop _ _) ?_))))
     | (refine SG.retE (Ret.r1 Try.func81 rfl (.tmp rfl)) ?_ ⟨_, _, _, rdL_bad hr (by omega), rfl, rfl, .inr rfl⟩; (apply Rdr.ent; repeat (first | exact Ent.refl _ | (apply Ent.cons; (· repeat (first | exact Pick.here | (refine Pick.sl ?_; (· repeat (first | exact List.Mem.head _ | assumption | apply List.Mem.tail))) | apply Pick.there))) | (refine Ent.trans (Ent.drop _ _) ?_))))
     | (refine SG.retE (Ret.r1 Try.func81 rfl (.tmp rfl)) ?_ ⟨_, _, _, rdL_ok hr (by omega), rfl, rfl, by omega⟩; (apply Rdr.ent; repeat (first | exact Ent.refl _ | (apply Ent.cons; (· repeat (first | exact Pick.here | (refine Pick.sl ?_; (· repeat (first | exact List.Mem.head _ | assumption | apply List.Mem.tail))) | apply Pick.there))) | (refine Ent.trans (Ent.drop _ _) ?_))))
 ·
  refine RL.val (Wanted.free rfl) (V.move rfl rfl) rfl ?_
  refine RL.skip (Wanted.no rfl rfl rfl rfl rfl) rfl ?_
  refine RL.skip (Wanted.no rfl rfl rfl rfl rfl) rfl ?_
  refine RL.skip (Wanted.no rfl rfl rfl rfl rfl) rfl ?_
  refine RL.skip (Wanted.un rfl rfl rfl) rfl ?_
  refine RL.skip (Wanted.un rfl rfl rfl) rfl ?_
  refine RL.skip (Wanted.un rfl rfl rfl) rfl ?_
  refine RL.skip (Wanted.un rfl rfl rfl) rfl ?_
  refine RL.skip (Wanted.no rfl rfl rfl rfl rfl) rfl ?_
  refine RL.val (Wanted.free rfl) (V.pick_false rfl rfl rfl) rfl ?_
  refine RL.nil ?_
  refine SG.cond_false rfl ?_
  refine SG.skip ?_
  refine SG.seq ?_
  refine SG.seq ?_
  refine SG.region ?_
  refine RL.val (Wanted.free rfl) (V.move rfl rfl) rfl ?_
  refine RL.val (Wanted.free rfl) (V.nilCheck rfl rfl) rfl ?_
  refine RL.val (Wanted.free rfl) (V.fieldAddr rfl rfl fo113_0) rfl ?_
  refine RL.val (Wanted.free rfl) (V.fieldAddr rfl rfl fo111_1) rfl ?_
  refine RL.val (Wanted.free rfl) (V.load rfl on27 rfl pickX rfl) rfl ?_
  refine RL.cmp (Wanted.free rfl) (V.bin rfl rfl rfl B.neq) rfl (fun h64 => ?_) (fun h64 => ?_)
  ·
   refine RL.nil ?_
   refine SG.cond_true rfl ?_
   refine SG.seq ?_
   refine SG.region ?_
   refine RL.val (Wanted.free rfl) (V.assign rfl rfl) rfl ?_
   refine RL.nil ?_
   try (have he1 : e1 = 0 := (by omega); subst he1)
   first
   | (exfalso; omega)
   | (refine SG.retE (Ret.r1 Try.func81 rfl (.tmp rfl)) ?_ ⟨_, _, _, rdL_err hr (by omega), rfl, rfl, .inr rfl⟩; (apply Rdr.ent; repeat (first | exact Ent.refl _ | (apply Ent.cons; (· repeat (first | exact Pick.here | (refine Pick.sl ?_; (· repeat (first | exact List.Mem.head _ | assumption | apply List.Mem.tail))) | apply Pick.there))) | (refine Ent.trans (Ent.drop _ _) ?_))))
   | (refine SG.retE (Ret.r1 Try.func81 rfl (.tmp rfl)) ?_ ⟨_, _, _, rdL_bad hr (by omega), rfl, rfl, .inr rfl⟩; (apply Rdr.ent; repeat (first | exact Ent.refl _ | (apply Ent.cons; (· repeat (first | exact Pick.here | (refine Pick.sl ?_; (· repeat (first | exact List.Mem.head _ | assumption | apply List.Mem.tail))) | apply Pick.there))) | (refine Ent.trans (Ent.drop _ _) ?_))))
   | (refine SG.retE (Ret.r1 Try.func81 rfl (.tmp rfl)) ?_ ⟨_, _, _, rdL_ok hr (by omega), rfl, rfl, by omega⟩; (apply Rdr.ent; repeat (first | exact Ent.refl _ | (apply Ent.cons; (· repeat (first | exact Pick.here | (refine Pick.sl ?_; (· repeat (first | exact List.Mem.head _ | assumption | apply List.Mem.tail))) | apply Pick.there))) | (refine Ent.trans (Ent.drop _ _) ?_))))
  ·
   refine RL.nil ?_
   refine SG.cond_false rfl ?_
   refine SG.skip ?_
   refine SG.seq ?_
   refine SG.region ?_
   refine RL.val (Wanted.free rfl) (V.move rfl rfl) rfl ?_
   refine RL.val (Wanted.free rfl) (V.toI rfl ⟨_, ui107⟩ ui3 rfl (by omega) (by omega)) rfl ?_
   try (have he1 : e1 = 0 := (by omega); subst he1)
   refine RL.val (Wanted.free rfl) (V.assign rfl rfl) rfl ?_
   refine RL.nil ?_
   try (have he1 : e1 = 0 := (by omega); subst he1)
   first
   | (exfalso; omega)
   | (refine SG.retE (Ret.r1 Try.func81 rfl (.tmp rfl)) ?_ ⟨_, _, _, rdL_err hr (by omega), rfl, rfl, .inr rfl⟩; (apply Rdr.ent; repeat (first | exact Ent.refl _ | (apply Ent.cons; (· repeat (first | exact Pick.here | (refine Pick.sl ?_; (· repeat (first | exact List.Mem.head _ | assumption | apply List.Mem.tail))) | apply Pick.there))) | (refine Ent.trans (Ent.drop _ _) ?_))))
   | (refine SG.retE (Ret.r1 Try.func81 rfl (.tmp rfl)) ?_ ⟨_, _, _, rdL_bad hr (by omega), rfl, rfl, .inr rfl⟩; (apply Rdr.ent; repeat (first | exact Ent.refl _ | (apply Ent.cons; (· repeat (first | exact Pick.here | (refine Pick.sl ?_; (· repeat (first | exact List.Mem.head _ | assumption | apply List.Mem.tail))) | apply Pick.there))) | (refine Ent.trans (Ent.drop _ _) ?_))))
   | (refine SG.retE (Ret.r1 Try.func81 rfl (.tmp rfl)) ?_ ⟨_, _, _, rdL_ok hr (by omega), rfl, rfl, by omega⟩; (apply Rdr.ent; repeat (first | exact Ent.refl _ | (apply Ent.cons; (· repeat (first | exact Pick.here | (refine Pick.sl ?_; (· repeat (first | exact List.Mem.head _ | assumption | apply List.Mem.tail))) | apply Pick.there))) | (refine Ent.trans (Ent.drop _ _) ?_))))

set_option maxRecDepth 100000 in
theorem rText_ok {κ : World} {L : List Assn} {L1 : List Assn} {b : Nat} {l : List UInt8} {e : Int} (most : Int) (hp : Pick (Rdr b l e) L L1) (hm1 : -9223372036854775808 ≤ most) (hm2 : most ≤ 9223372036854775807) :
    Ctr Try.prog 49 #[ptr b 0, vI most] κ L (fun v M => ∃ l' e' s, rdS l e most = (l', e', s) ∧ v = vS s ∧ M = Rdr b l' e' :: L1 ∧ s.length ≤ most.toNat) := by
 refine Ctr.enter (vs := [ptr b 0, vI most]) (m := 56) Try.func49 rfl rfl rfl ?_
 refine SG.ent hp ?_
 refine SG.seq ?_
 refine SG.region ?_
 refine RL.val (Wanted.free rfl) (V.assign rfl rfl) rfl ?_
 refine RL.nil ?_
 refine SG.seq ?_
 refine SG.region ?_
 refine RL.val (Wanted.free rfl) (V.move rfl rfl) rfl ?_
 refine RL.val (Wanted.free rfl) (V.move rfl rfl) rfl ?_
 refine RL.eff (Wanted.free rfl) (E.call rfl go81 rfl (rLen_ok _ pickX (by omega) (by omega))) rfl ?_
 rintro _ _ ⟨l1, e1, k1, hr, rfl, rfl, hk⟩
 refine RL.val (Wanted.free rfl) (V.assign rfl rfl) rfl ?_
 refine RL.nil ?_
 refine SG.seq ?_
 refine SG.seq ?_
 refine SG.openRdr pickX fun a m c hl hmc hc => ?_
 subst hl
 refine SG.region ?_
 refine RL.val (Wanted.free rfl) (V.move rfl rfl) rfl ?_
 refine RL.val (Wanted.free rfl) (V.nilCheck rfl rfl) rfl ?_
 refine RL.val (Wanted.free rfl) (V.fieldAddr rfl rfl fo113_0) rfl ?_
 refine RL.val (Wanted.free rfl) (V.fieldAddr rfl rfl fo111_1) rfl ?_
 refine RL.val (Wanted.free rfl) (V.load rfl on27 rfl pickX rfl) rfl ?_
 refine RL.cmp (Wanted.free rfl) (V.bin rfl rfl rfl B.eql) rfl (fun h11 => ?_) (fun h11 => ?_)
 ·
  refine RL.val (Wanted.free rfl) (V.move rfl rfl) rfl ?_
  refine RL.val (Wanted.yes rfl rfl rfl rfl) (V.move rfl rfl) rfl ?_
  refine RL.val (Wanted.yes rfl rfl rfl rfl) (V.move rfl rfl) rfl ?_
  refine RL.val (Wanted.yes rfl rfl rfl rfl) (V.nilCheck rfl rfl) rfl ?_
  refine RL.val (Wanted.yes rfl rfl rfl rfl) (V.fieldAddr rfl rfl fo113_0) rfl ?_
  refine RL.val (Wanted.yes rfl rfl rfl rfl) (V.fieldAddr rfl rfl fo111_0) rfl ?_
  refine RL.val (Wanted.yes rfl rfl rfl rfl) (V.load rfl on65 rfl pickX rfl) rfl ?_
  refine RL.val (Wanted.yes rfl rfl rfl rfl) (V.len rfl rfl el65.under rfl) rfl ?_
  refine RL.cmp (Wanted.yes rfl rfl rfl rfl) (V.bin rfl rfl rfl B.gtr) rfl (fun h20 => ?_) (fun h20 => ?_)
  ·
   refine RL.val (Wanted.free rfl) (V.pick_true rfl rfl rfl) rfl ?_
   refine RL.nil ?_
   refine SG.cond_true rfl ?_
   refine SG.region ?_
   refine RL.val (Wanted.free rfl) (V.move rfl rfl) rfl ?_
   refine RL.val (Wanted.free rfl) (V.nilCheck rfl rfl) rfl ?_
   refine RL.val (Wanted.free rfl) (V.fieldAddr rfl rfl fo113_0) rfl ?_
   refine RL.eff (Wanted.free rfl) (E.call rfl go82 rfl (fail_ok _ pickX)) rfl ?_
   rintro _ _ ⟨rfl, rfl⟩
   have he1 : e1 = 0 := by omega
   subst he1
   rw [if_pos rfl]
   refine RL.nil ?_
   refine SG.seq ?_
   refine SG.seq ?_
   refine SG.region ?_
   refine RL.val (Wanted.free rfl) (V.move rfl rfl) rfl ?_
   refine RL.val (Wanted.free rfl) (V.nilCheck rfl rfl) rfl ?_
   refine RL.val (Wanted.free rfl) (V.fieldAddr rfl rfl fo113_0) rfl ?_
   refine RL.val (Wanted.free rfl) (V.fieldAddr rfl rfl fo111_1) rfl ?_
   refine RL.val (Wanted.free rfl) (V.load rfl on27 rfl pickX rfl) rfl ?_
   refine RL.cmp (Wanted.free rfl) (V.bin rfl rfl rfl B.neq) rfl (fun h30 => ?_) (fun h30 => ?_)
   ·
    refine RL.nil ?_
    refine SG.cond_true rfl ?_
    refine SG.seq ?_
    refine SG.region ?_
    refine RL.val (Wanted.free rfl) (V.assign rfl rfl) rfl ?_
    refine RL.nil ?_
    try (have he : e1 = 0 := (by omega); subst he)
    first
    | (exfalso; omega)
    | (refine SG.retE (Ret.r1 Try.func49 rfl (.tmp rfl)) ?_ ⟨_, _, _, rdS_err hr (by omega), rfl, rfl, by simp⟩; (apply Rdr.ent; repeat (first | exact Ent.refl _ | (apply Ent.cons; (· repeat (first | exact Pick.here | (refine Pick.sl ?_; (· repeat (first | exact List.Mem.head _ | assumption | apply List.Mem.tail))) | apply Pick.there))) | (refine Ent.trans (Ent.drop _ _) ?_))))
    | (refine SG.retE (Ret.r1 Try.func49 rfl (.tmp rfl)) ?_ ⟨_, _, _, rdS_short hr (by omega), rfl, rfl, by simp⟩; (apply Rdr.ent; repeat (first | exact Ent.refl _ | (apply Ent.cons; (· repeat (first | exact Pick.here | (refine Pick.sl ?_; (· repeat (first | exact List.Mem.head _ | assumption | apply List.Mem.tail))) | apply Pick.there))) | (refine Ent.trans (Ent.drop _ _) ?_))))
    | (refine SG.retE (Ret.r1 Try.func49 rfl (.tmp rfl)) ?_ ⟨_, _, _, rdS_ok hr (by omega), rfl, rfl, by simp; omega⟩; (apply Rdr.ent; repeat (first | exact Ent.refl _ | (apply Ent.cons; (· repeat (first | exact Pick.here | (refine Pick.sl ?_; (· repeat (first | exact List.Mem.head _ | assumption | apply List.Mem.tail))) | apply Pick.there))) | (refine Ent.trans (Ent.drop _ _) ?_))))
   ·
    refine RL.nil ?_
    refine SG.cond_false rfl ?_
    refine SG.skip ?_
    refine SG.seq ?_
    refine SG.region ?_
    try (have he : e1 = 0 := (by omega); subst he)
    refine RL.val (Wanted.free rfl) (V.move rfl rfl) rfl ?_
    refine RL.val (Wanted.free rfl) (V.nilCheck rfl rfl) rfl ?_
    refine RL.val (Wanted.free rfl) (V.fieldAddr rfl rfl fo113_0) rfl ?_
    refine RL.val (Wanted.free rfl) (V.fieldAddr rfl rfl fo111_0) rfl ?_
    refine RL.val (Wanted.free rfl) (V.load rfl on65 rfl pickX rfl) rfl ?_
    refine RL.val (Wanted.free rfl) (V.move rfl rfl) rfl ?_
    refine RL.eff (Wanted.free rfl) (E.slice (lo := 0) (hi := k1) rfl el65.slice rfl memX rfl ⟨_, _, rfl, (by first | rfl | omega)⟩ (by omega) (by omega)) rfl ?_
    intro _ _ hK38
    try rw [List.drop_zero] at hK38
    iterate 2 (try rw [Nat.sub_zero] at hK38)
    obtain ⟨a38, rfl, rfl⟩ := hK38
    refine RL.val (Wanted.free rfl) (V.bytesToS rfl el65.under ui5 us9 rfl memX) rfl ?_
    refine RL.val (Wanted.free rfl) (V.assign rfl rfl) rfl ?_
    refine RL.nil ?_
    refine SG.seq ?_
    refine SG.region ?_
    refine RL.val (Wanted.free rfl) (V.move rfl rfl) rfl ?_
    refine RL.val (Wanted.free rfl) (V.move rfl rfl) rfl ?_
    refine RL.val (Wanted.free rfl) (V.nilCheck rfl rfl) rfl ?_
    refine RL.val (Wanted.free rfl) (V.fieldAddr rfl rfl fo113_0) rfl ?_
    refine RL.val (Wanted.free rfl) (V.fieldAddr rfl rfl fo111_0) rfl ?_
    refine RL.val (Wanted.free rfl) (V.load rfl on65 rfl pickX rfl) rfl ?_
    refine RL.val (Wanted.free rfl) (V.move rfl rfl) rfl ?_
    refine RL.eff (Wanted.free rfl) (E.slice (lo := k1) (hi := l1.length) rfl el65.slice rfl memX ⟨_, _, rfl, (by first | rfl | omega)⟩ rfl (by omega) (by omega)) rfl ?_
    intro _ _ hK48
    try rw [List.drop_zero] at hK48
    iterate 2 (try rw [Nat.sub_zero] at hK48)
    rw [show (l1.drop (k1)).take (l1.length - (k1)) = l1.drop (k1) from List.take_of_length_le (by simp)] at hK48
    obtain ⟨a48, rfl, rfl⟩ := hK48
    refine RL.val (Wanted.free rfl) (V.nilCheck rfl rfl) rfl ?_
    refine RL.val (Wanted.free rfl) (V.fieldAddr rfl rfl fo113_0) rfl ?_
    refine RL.val (Wanted.free rfl) (V.fieldAddr rfl rfl fo111_0) rfl ?_
    refine RL.eff (Wanted.free rfl) (E.store1 rfl rfl rfl rfl rfl sz65 pickX rfl) rfl ?_
    rintro _ _ rfl
    refine RL.nil ?_
    refine SG.seq ?_
    refine SG.region ?_
    refine RL.val (Wanted.free rfl) (V.move rfl rfl) rfl ?_
    refine RL.val (Wanted.free rfl) (V.assign rfl rfl) rfl ?_
    refine RL.nil ?_
    try (have he : e1 = 0 := (by omega); subst he)
    first
    | (exfalso; omega)
    | (refine SG.retE (Ret.r1 Try.func49 rfl (.tmp rfl)) ?_ ⟨_, _, _, rdS_err hr (by omega), rfl, rfl, by simp⟩; (apply Rdr.ent; repeat (first | exact Ent.refl _ | (apply Ent.cons; (· repeat (first | exact Pick.here | (refine Pick.sl ?_; (· repeat (first | exact List.Mem.head _ | assumption | apply List.Mem.tail))) | apply Pick.there))) | (refine Ent.trans (Ent.drop _ _) ?_))))
    | (refine SG.retE (Ret.r1 Try.func49 rfl (.tmp rfl)) ?_ ⟨_, _, _, rdS_short hr (by omega), rfl, rfl, by simp⟩; (apply Rdr.ent; repeat (first | exact Ent.refl _ | (apply Ent.cons; (· repeat (first | exact Pick.here | (refine Pick.sl ?_; (· repeat (first | exact List.Mem.head _ | assumption | apply List.Mem.tail))) | apply Pick.there))) | (refine Ent.trans (Ent.drop _ _) ?_))))
    | (refine SG.retE (Ret.r1 Try.func49 rfl (.tmp rfl)) ?_ ⟨_, _, _, rdS_ok hr (by omega), rfl, rfl, by simp; omega⟩; (apply Rdr.ent; repeat (first | exact Ent.refl _ | (apply Ent.cons; (· repeat (first | exact Pick.here | (refine Pick.sl ?_; (· repeat (first | exact List.Mem.head _ | assumption | apply List.Mem.tail))) | apply Pick.there))) | (refine Ent.trans (Ent.drop _ _) ?_))))
  ·
   refine RL.val (Wanted.free rfl) (V.pick_true rfl rfl rfl) rfl ?_
   refine RL.nil ?_
   refine SG.cond_false rfl ?_
   refine SG.skip ?_
   refine SG.seq ?_
   refine SG.seq ?_
   refine SG.region ?_
   refine RL.val (Wanted.free rfl) (V.move rfl rfl) rfl ?_
   refine RL.val (Wanted.free rfl) (V.nilCheck rfl rfl) rfl ?_
   refine RL.val (Wanted.free rfl) (V.fieldAddr rfl rfl fo113_0) rfl ?_
   refine RL.val (Wanted.free rfl) (V.fieldAddr rfl rfl fo111_1) rfl ?_
   refine RL.val (Wanted.free rfl) (V.load rfl on27 rfl pickX rfl) rfl ?_
   refine RL.cmp (Wanted.free rfl) (V.bin rfl rfl rfl B.neq) rfl (fun h60 => ?_) (fun h60 => ?_)
   ·
    refine RL.nil ?_
    refine SG.cond_true rfl ?_
    refine SG.seq ?_
    refine SG.region ?_
    refine RL.val (Wanted.free rfl) (V.assign rfl rfl) rfl ?_
    refine RL.nil ?_
    try (have he : e1 = 0 := (by omega); subst he)
    first
    | (exfalso; omega)
    | (refine SG.retE (Ret.r1 Try.func49 rfl (.tmp rfl)) ?_ ⟨_, _, _, rdS_err hr (by omega), rfl, rfl, by simp⟩; (apply Rdr.ent; repeat (first | exact Ent.refl _ | (apply Ent.cons; (· repeat (first | exact Pick.here | (refine Pick.sl ?_; (· repeat (first | exact List.Mem.head _ | assumption | apply List.Mem.tail))) | apply Pick.there))) | (refine Ent.trans (Ent.drop _ _) ?_))))
    | (refine SG.retE (Ret.r1 Try.func49 rfl (.tmp rfl)) ?_ ⟨_, _, _, rdS_short hr (by omega), rfl, rfl, by simp⟩; (apply Rdr.ent; repeat (first | exact Ent.refl _ | (apply Ent.cons; (· repeat (first | exact Pick.here | (refine Pick.sl ?_; (· repeat (first | exact List.Mem.head _ | assumption | apply List.Mem.tail))) | apply Pick.there))) | (refine Ent.trans (Ent.drop _ _) ?_))))
    | (refine SG.retE (Ret.r1 Try.func49 rfl (.tmp rfl)) ?_ ⟨_, _, _, rdS_ok hr (by omega), rfl, rfl, by simp; omega⟩; (apply Rdr.ent; repeat (first | exact Ent.refl _ | (apply Ent.cons; (· repeat (first | exact Pick.here | (refine Pick.sl ?_; (· repeat (first | exact List.Mem.head _ | assumption | apply List.Mem.tail))) | apply Pick.there))) | (refine Ent.trans (Ent.drop _ _) ?_))))
   ·
    refine RL.nil ?_
    refine SG.cond_false rfl ?_
    refine SG.skip ?_
    refine SG.seq ?_
    refine SG.region ?_
    try (have he : e1 = 0 := (by omega); subst he)
    refine RL.val (Wanted.free rfl) (V.move rfl rfl) rfl ?_
    refine RL.val (Wanted.free rfl) (V.nilCheck rfl rfl) rfl ?_
    refine RL.val (Wanted.free rfl) (V.fieldAddr rfl rfl fo113_0) rfl ?_
    refine RL.val (Wanted.free rfl) (V.fieldAddr rfl rfl fo111_0) rfl ?_
    refine RL.val (Wanted.free rfl) (V.load rfl on65 rfl pickX rfl) rfl ?_
    refine RL.val (Wanted.free rfl) (V.move rfl rfl) rfl ?_
    refine RL.eff (Wanted.free rfl) (E.slice (lo := 0) (hi := k1) rfl el65.slice rfl memX rfl ⟨_, _, rfl, (by first | rfl | omega)⟩ (by omega) (by omega)) rfl ?_
    intro _ _ hK68
    try rw [List.drop_zero] at hK68
    iterate 2 (try rw [Nat.sub_zero] at hK68)
    obtain ⟨a68, rfl, rfl⟩ := hK68
    refine RL.val (Wanted.free rfl) (V.bytesToS rfl el65.under ui5 us9 rfl memX) rfl ?_
    refine RL.val (Wanted.free rfl) (V.assign rfl rfl) rfl ?_
    refine RL.nil ?_
    refine SG.seq ?_
    refine SG.region ?_
    refine RL.val (Wanted.free rfl) (V.move rfl rfl) rfl ?_
    refine RL.val (Wanted.free rfl) (V.move rfl rfl) rfl ?_
    refine RL.val (Wanted.free rfl) (V.nilCheck rfl rfl) rfl ?_
    refine RL.val (Wanted.free rfl) (V.fieldAddr rfl rfl fo113_0) rfl ?_
    refine RL.val (Wanted.free rfl) (V.fieldAddr rfl rfl fo111_0) rfl ?_
    refine RL.val (Wanted.free rfl) (V.load rfl on65 rfl pickX rfl) rfl ?_
    refine RL.val (Wanted.free rfl) (V.move rfl rfl) rfl ?_
    refine RL.eff (Wanted.free rfl) (E.slice (lo := k1) (hi := l1.length) rfl el65.slice rfl memX ⟨_, _, rfl, (by first | rfl | omega)⟩ rfl (by omega) (by omega)) rfl ?_
    intro _ _ hK78
    try rw [List.drop_zero] at hK78
    iterate 2 (try rw [Nat.sub_zero] at hK78)
    rw [show (l1.drop (k1)).take (l1.length - (k1)) = l1.drop (k1) from List.take_of_length_le (by simp)] at hK78
    obtain ⟨a78, rfl, rfl⟩ := hK78
    refine RL.val (Wanted.free rfl) (V.nilCheck rfl rfl) rfl ?_
    refine RL.val (Wanted.free rfl) (V.fieldAddr rfl rfl fo113_0) rfl ?_
    refine RL.val (Wanted.free rfl) (V.fieldAddr rfl rfl fo111_0) rfl ?_
    refine RL.eff (Wanted.free rfl) (E.store1 rfl rfl rfl rfl rfl sz65 pickX rfl) rfl ?_
    rintro _ _ rfl
    refine RL.nil ?_
    refine SG.seq ?_
    refine SG.region ?_
    refine RL.val (Wanted.free rfl) (V.move rfl rfl) rfl ?_
    refine RL.val (Wanted.free rfl) (V.assign rfl rfl) rfl ?_
    refine RL.nil ?_
    try (have he : e1 = 0 := (by omega); subst he)
    first
    | (exfalso; omega)
    | (refine SG.retE (Ret.r1 Try.func49 rfl (.tmp rfl)) ?_ ⟨_, _, _, rdS_err hr (by omega), rfl, rfl, by simp⟩; (apply Rdr.ent; repeat (first | exact Ent.refl _ | (apply Ent.cons; (· repeat (first | exact Pick.here | (refine Pick.sl ?_; (· repeat (first | exact List.Mem.head _ | assumption | apply List.Mem.tail))) | apply Pick.there))) | (refine Ent.trans (Ent.drop _ _) ?_))))
    | (refine SG.retE (Ret.r1 Try.func49 rfl (.tmp rfl)) ?_ ⟨_, _, _, rdS_short hr (by omega), rfl, rfl, by simp⟩; (apply Rdr.ent; repeat (first | exact Ent.refl _ | (apply Ent.cons; (· repeat (first | exact Pick.here | (refine Pick.sl ?_; (· repeat (first | exact List.Mem.head _ | assumption | apply List.Mem.tail))) | apply Pick.there))) | (refine Ent.trans (Ent.drop _ _) ?_))))
    | (refine SG.retE (Ret.r1 Try.func49 rfl (.tmp rfl)) ?_ ⟨_, _, _, rdS_ok hr (by omega), rfl, rfl, by simp; omega⟩; (apply Rdr.ent; repeat (first | exact Ent.refl _ | (apply Ent.cons; (· repeat (first | exact Pick.here | (refine Pick.sl ?_; (· repeat (first | exact List.Mem.head _ | assumption | apply List.Mem.tail))) | apply Pick.there))) | (refine Ent.trans (Ent.drop _ _) ?_))))
 ·
  refine RL.val (Wanted.free rfl) (V.move rfl rfl) rfl ?_
  refine RL.skip (Wanted.no rfl rfl rfl rfl rfl) rfl ?_
  refine RL.skip (Wanted.no rfl rfl rfl rfl rfl) rfl ?_
  refine RL.skip (Wanted.no rfl rfl rfl rfl rfl) rfl ?_
  refine RL.skip (Wanted.no rfl rfl rfl rfl rfl) rfl ?_
  refine RL.skip (Wanted.no rfl rfl rfl rfl rfl) rfl ?_
  refine RL.skip (Wanted.no rfl rfl rfl rfl rfl) rfl ?_
  refine RL.skip (Wanted.no rfl rfl rfl rfl rfl) rfl ?_
  refine RL.skip (Wanted.no rfl rfl rfl rfl rfl) rfl ?_
  refine RL.val (Wanted.free rfl) (V.pick_false rfl rfl rfl) rfl ?_
  refine RL.nil ?_
  refine SG.cond_false rfl ?_
  refine SG.skip ?_
  refine SG.seq ?_
  refine SG.seq ?_
  refine SG.region ?_
  refine RL.val (Wanted.free rfl) (V.move rfl rfl) rfl ?_
  refine RL.val (Wanted.free rfl) (V.nilCheck rfl rfl) rfl ?_
  refine RL.val (Wanted.free rfl) (V.fieldAddr rfl rfl fo113_0) rfl ?_
  refine RL.val (Wanted.free rfl) (V.fieldAddr rfl rfl fo111_1) rfl ?_
  refine RL.val (Wanted.free rfl) (V.load rfl on27 rfl pickX rfl) rfl ?_
  refine RL.cmp (Wanted.free rfl) (V.bin rfl rfl rfl B.neq) rfl (fun h91 => ?_) (fun h91 => ?_)
  ·
   refine RL.nil ?_
   refine SG.cond_true rfl ?_
   refine SG.seq ?_
   refine SG.region ?_
   refine RL.val (Wanted.free rfl) (V.assign rfl rfl) rfl ?_
   refine RL.nil ?_
   try (have he : e1 = 0 := (by omega); subst he)
   first
   | (exfalso; omega)
   | (refine SG.retE (Ret.r1 Try.func49 rfl (.tmp rfl)) ?_ ⟨_, _, _, rdS_err hr (by omega), rfl, rfl, by simp⟩; (apply Rdr.ent; repeat (first | exact Ent.refl _ | (apply Ent.cons; (· repeat (first | exact Pick.here | (refine Pick.sl ?_; (· repeat (first | exact List.Mem.head _ | assumption | apply List.Mem.tail))) | apply Pick.there))) | (refine Ent.trans (Ent.drop _ _) ?_))))
   | (refine SG.retE (Ret.r1 Try.func49 rfl (.tmp rfl)) ?_ ⟨_, _, _, rdS_short hr (by omega), rfl, rfl, by simp⟩; (apply Rdr.ent; repeat (first | exact Ent.refl _ | (apply Ent.cons; (· repeat (first | exact Pick.here | (refine Pick.sl ?_; (· repeat (first | exact List.Mem.head _ | assumption | apply List.Mem.tail))) | apply Pick.there))) | (refine Ent.trans (Ent.drop _ _) ?_))))
   | (refine SG.retE (Ret.r1 Try.func49 rfl (.tmp rfl)) ?_ ⟨_, _, _, rdS_ok hr (by omega), rfl, rfl, by simp; omega⟩; (apply Rdr.ent; repeat (first | exact Ent.refl _ | (apply Ent.cons; (· repeat (first | exact Pick.here | (refine Pick.sl ?_; (· repeat (first | exact List.Mem.head _ | assumption | apply List.Mem.tail))) | apply Pick.there))) | (refine Ent.trans (Ent.drop _ _) ?_))))
  ·
   refine RL.nil ?_
   refine SG.cond_false rfl ?_
   refine SG.skip ?_
   refine SG.seq ?_
   refine SG.region ?_
   try (have he : e1 = 0 := (by omega); subst he)
   refine RL.val (Wanted.free rfl) (V.move rfl rfl) rfl ?_
   refine RL.val (Wanted.free rfl) (V.nilCheck rfl rfl) rfl ?_
   refine RL.val (Wanted.free rfl) (V.fieldAddr rfl rfl fo113_0) rfl ?_
   refine RL.val (Wanted.free rfl) (V.fieldAddr rfl rfl fo111_0) rfl ?_
   refine RL.val (Wanted.free rfl) (V.load rfl on65 rfl pickX rfl) rfl ?_
   refine RL.val (Wanted.free rfl) (V.move rfl rfl) rfl ?_
   refine RL.eff (Wanted.free rfl) (E.slice (lo := 0) (hi := k1) rfl el65.slice rfl memX rfl ⟨_, _, rfl, (by first | rfl | omega)⟩ (by omega) (by omega)) rfl ?_
   intro _ _ hK99
   try rw [List.drop_zero] at hK99
   iterate 2 (try rw [Nat.sub_zero] at hK99)
   obtain ⟨a99, rfl, rfl⟩ := hK99
   refine RL.val (Wanted.free rfl) (V.bytesToS rfl el65.under ui5 us9 rfl memX) rfl ?_
   refine RL.val (Wanted.free rfl) (V.assign rfl rfl) rfl ?_
   refine RL.nil ?_
   refine SG.seq ?_
   refine SG.region ?_
   refine RL.val (Wanted.free rfl) (V.move rfl rfl) rfl ?_
   refine RL.val (Wanted.free rfl) (V.move rfl rfl) rfl ?_
   refine RL.val (Wanted.free rfl) (V.nilCheck rfl rfl) rfl ?_
   refine RL.val (Wanted.free rfl) (V.fieldAddr rfl rfl fo113_0) rfl ?_
   refine RL.val (Wanted.free rfl) (V.fieldAddr rfl rfl fo111_0) rfl ?_
   refine RL.val (Wanted.free rfl) (V.load rfl on65 rfl pickX rfl) rfl ?_
   refine RL.val (Wanted.free rfl) (V.move rfl rfl) rfl ?_
   refine RL.eff (Wanted.free rfl) (E.slice (lo := k1) (hi := l1.length) rfl el65.slice rfl memX ⟨_, _, rfl, (by first | rfl | omega)⟩ rfl (by omega) (by omega)) rfl ?_
   intro _ _ hK109
   try rw [List.drop_zero] at hK109
   iterate 2 (try rw [Nat.sub_zero] at hK109)
   rw [show (l1.drop (k1)).take (l1.length - (k1)) = l1.drop (k1) from List.take_of_length_le (by simp)] at hK109
   obtain ⟨a109, rfl, rfl⟩ := hK109
   refine RL.val (Wanted.free rfl) (V.nilCheck rfl rfl) rfl ?_
   refine RL.val (Wanted.free rfl) (V.fieldAddr rfl rfl fo113_0) rfl ?_
   refine RL.val (Wanted.free rfl) (V.fieldAddr rfl rfl fo111_0) rfl ?_
   refine RL.eff (Wanted.free rfl) (E.store1 rfl rfl rfl rfl rfl sz65 pickX rfl) rfl ?_
   rintro _ _ rfl
   refine RL.nil ?_
   refine SG.seq ?_
   refine SG.region ?_
   refine RL.val (Wanted.free rfl) (V.move rfl rfl) rfl ?_
   refine RL.val (Wanted.free rfl) (V.assign rfl rfl) rfl ?_
   refine RL.nil ?_
   try (have he : e1 = 0 := (by omega); subst he)
   first
   | (exfalso; omega)
   | (refine SG.retE (Ret.r1 Try.func49 rfl (.tmp rfl)) ?_ ⟨_, _, _, rdS_err hr (by omega), rfl, rfl, by simp⟩; (apply Rdr.ent; repeat (first | exact Ent.refl _ | (apply Ent.cons; (· repeat (first | exact Pick.here | (refine Pick.sl ?_; (· repeat (first | exact List.Mem.head _ | assumption | apply List.Mem.tail))) | apply Pick.there))) | (refine Ent.trans (Ent.drop _ _) ?_))))
   | (refine SG.retE (Ret.r1 Try.func49 rfl (.tmp rfl)) ?_ ⟨_, _, _, rdS_short hr (by omega), rfl, rfl, by simp⟩; (apply Rdr.ent; repeat (first | exact Ent.refl _ | (apply Ent.cons; (· repeat (first | exact Pick.here | (refine Pick.sl ?_; (· repeat (first | exact List.Mem.head _ | assumption | apply List.Mem.tail))) | apply Pick.there))) | (refine Ent.trans (Ent.drop _ _) ?_))))
   | (refine SG.retE (Ret.r1 Try.func49 rfl (.tmp rfl)) ?_ ⟨_, _, _, rdS_ok hr (by omega), rfl, rfl, by simp; omega⟩; (apply Rdr.ent; repeat (first | exact Ent.refl _ | (apply Ent.cons; (· repeat (first | exact Pick.here | (refine Pick.sl ?_; (· repeat (first | exact List.Mem.head _ | assumption | apply List.Mem.tail))) | apply Pick.there))) | (refine Ent.trans (Ent.drop _ _) ?_))))

set_option maxRecDepth 100000 in
theorem rInts_ok {κ : World} {L : List Assn} {L1 : List Assn} {b : Nat} {l : List UInt8} {e : Int} (most : Int) (hp : Pick (Rdr b l e) L L1) (hm1 : -9223372036854775808 ≤ most) (hm2 : most ≤ 9223372036854775807) (hb : l.length ≤ 1000000) :
    Ctr Try.prog 46 #[ptr b 0, vI most] κ L (fun v M => ∃ l' e' xs a k c, rdIs l e most = (l', e', xs) ∧ v = .slice a k c ∧ M = Rdr b l' e' :: Buf RI 3 a k c xs :: L1) := by
 refine Ctr.enter (vs := [ptr b 0, vI most]) (m := 34) Try.func46 rfl rfl rfl ?_
 refine SG.ent hp ?_
 refine SG.seq ?_
 refine SG.region ?_
 refine RL.val (Wanted.free rfl) (V.assign rfl rfl) rfl ?_
 refine RL.nil ?_
 refine SG.seq ?_
 refine SG.region ?_
 refine RL.val (Wanted.free rfl) (V.assign rfl rfl) rfl ?_
 refine RL.nil ?_
 refine SG.seq ?_
 refine SG.seq ?_
 refine SG.region ?_
 refine RL.val (Wanted.free rfl) (V.move rfl rfl) rfl ?_
 refine RL.val (Wanted.free rfl) (V.move rfl rfl) rfl ?_
 refine RL.eff (Wanted.free rfl) (E.call rfl go81 rfl (rLen_ok _ pickX (by omega) (by omega))) rfl ?_
 rintro _ _ ⟨l1, e1, k1, hr, rfl, rfl, hk⟩
 have hlen := rdL_len hr
 refine RL.val (Wanted.free rfl) (V.assign rfl rfl) rfl ?_
 refine RL.nil ?_
 refine SG.block ?_
 refine SG.ent (Buf.nil (T := RI) (e := 3)) ?_
 refine SG.weaken (SG.loop2 (fun m al M => ∃ (j : Nat) (acc : List Int) (l2 : List UInt8) (e2 : Int) (a2 : Option Addr) (m2 c2 : Nat), rdN k1 l1 e1 = ((rdN j l2 e2).1, (rdN j l2 e2).2.1, acc ++ (rdN j l2 e2).2.2) ∧ (e2 = 0 → acc.length + l2.length ≤ l1.length) ∧ j ≤ k1 ∧ j = m ∧ al = [(0, ptr b 0), (5, .slice a2 m2 c2), (6, vI j)] ∧ M = Rdr b l2 e2 :: Buf RI 3 a2 m2 c2 acc :: L1) (m0 := _) ⟨k1, [], l1, e1, none, 0, 0, by simp, by simp, Nat.le_refl _, rfl, rfl, rfl⟩ ?_) ?_ ?_
 rotate_left
 ·
  repeat (first | exact EnvLe.nil _ | refine EnvLe.cons rfl ?_)
 ·
  exact entX
 rintro _ _ _ ⟨j, acc, l2, e2, a2, m2, c2, hi, hbd, hjk, rfl, rfl, rfl⟩ ih0
 refine SG.openRdr pickX fun a m c hl hmc hc => ?_
 refine SG.seq ?_
 refine SG.seq ?_
 refine SG.region ?_
 refine RL.val (Wanted.free rfl) (V.move rfl rfl) rfl ?_
 refine RL.cmp (Wanted.free rfl) (V.bin rfl rfl rfl B.gtr) rfl (fun h8 => ?_) (fun h8 => ?_)
 ·
  refine RL.val (Wanted.free rfl) (V.move rfl rfl) rfl ?_
  refine RL.val (Wanted.yes rfl rfl rfl rfl) (V.move rfl rfl) rfl ?_
  refine RL.val (Wanted.yes rfl rfl rfl rfl) (V.nilCheck rfl rfl) rfl ?_
  refine RL.val (Wanted.yes rfl rfl rfl rfl) (V.fieldAddr rfl rfl fo113_0) rfl ?_
  refine RL.val (Wanted.yes rfl rfl rfl rfl) (V.fieldAddr rfl rfl fo111_1) rfl ?_
  refine RL.val (Wanted.yes rfl rfl rfl rfl) (V.load rfl on27 rfl pickX rfl) rfl ?_
  refine RL.cmp (Wanted.yes rfl rfl rfl rfl) (V.bin rfl rfl rfl B.eql) rfl (fun h15 => ?_) (fun h15 => ?_)
  ·
   refine RL.val (Wanted.free rfl) (V.pick_true rfl rfl rfl) rfl ?_
   refine RL.nil ?_
   refine SG.cond_true rfl ?_
   refine SG.skip ?_
   refine SG.seq ?_
   refine SG.block ?_
   refine SG.region ?_
   refine RL.val (Wanted.free rfl) (V.move rfl rfl) rfl ?_
   refine RL.val (Wanted.free rfl) (V.move rfl rfl) rfl ?_
   have he0 : e2 = 0 := by omega
   subst he0
   obtain ⟨j', rfl⟩ : ∃ j', j = j' + 1 := ⟨j - 1, by omega⟩
   refine RL.ent Rdr.close ?_
   refine RL.buf (a := a2) (m := m2) (c := c2) pickX fun hbl _ _ => ?_
   have hacc := hbd rfl
   refine RL.eff (Wanted.free rfl) (E.call rfl go48 rfl (rInt_ok pickX)) rfl ?_
   rintro _ _ ⟨l3, e3, x3, hr3, rfl, rfl⟩
   have hin := rdI_in hr3
   refine RL.eff (Wanted.free rfl) (E.lit1 _ rfl el22.slice ze3 rfl (by decide) (by decide) rfl rfl rfl) rfl ?_
   rintro _ _ ⟨b19, rfl, rfl⟩
   refine RL.eff (Wanted.free rfl) (E.append (T := RI) rfl rfl rfl el22 el22.noInt rfl rfl pickX (Src.lit (x := x3) pickX hin) (by first | omega | (simp; omega)) (by first | omega | (simp; omega))) rfl ?_
   intro _ _ hK20
   try rw [List.nil_append] at hK20
   try rw [Nat.zero_add] at hK20
   obtain ⟨aW, cW, rfl, rfl⟩ := hK20
   refine RL.val (Wanted.free rfl) (V.assign rfl rfl) rfl ?_
   refine RL.nil ?_
   refine SG.inBlock ?_
   refine SG.region ?_
   refine RL.val (Wanted.free rfl) (V.move rfl rfl) rfl ?_
   refine RL.val (Wanted.free rfl) (V.bin rfl rfl rfl (B.subI (by omega) (by omega))) rfl ?_
   rw [show ((j' + 1 : Nat) : Int) - 1 = (j' : Int) from by omega]
   refine RL.val (Wanted.free rfl) (V.assign rfl rfl) rfl ?_
   refine RL.nil ?_
   refine SG.weaken (ih0 _ _ _ ?_ ⟨j', acc ++ [x3], l3, e3, aW, m2 + 1, cW, rdN_step hi hr3, ?_, by omega, rfl, rfl, rfl⟩) ?_ ?_
   ·
    omega
   ·
    intro h3; subst h3; have := rdI_less hr3; simp; omega
   ·
    repeat (first | exact EnvLe.nil _ | refine EnvLe.cons rfl ?_)
   ·
    exact entX
  ·
   refine RL.val (Wanted.free rfl) (V.pick_true rfl rfl rfl) rfl ?_
   refine RL.nil ?_
   refine SG.cond_false rfl ?_
   refine SG.exit rfl ?_
   refine SG.seq ?_
   refine SG.seq ?_
   refine SG.region ?_
   refine RL.val (Wanted.free rfl) (V.move rfl rfl) rfl ?_
   refine RL.val (Wanted.free rfl) (V.nilCheck rfl rfl) rfl ?_
   refine RL.val (Wanted.free rfl) (V.fieldAddr rfl rfl fo113_0) rfl ?_
   refine RL.val (Wanted.free rfl) (V.fieldAddr rfl rfl fo111_1) rfl ?_
   refine RL.val (Wanted.free rfl) (V.load rfl on27 rfl pickX rfl) rfl ?_
   refine RL.cmp (Wanted.free rfl) (V.bin rfl rfl rfl B.neq) rfl (fun h30 => ?_) (fun h30 => ?_)
   ·
    refine RL.nil ?_
    refine SG.cond_true rfl ?_
    refine SG.seq ?_
    refine SG.region ?_
    refine RL.val (Wanted.free rfl) (V.assign rfl rfl) rfl ?_
    refine RL.nil ?_
    first
    | (exfalso; omega)
    | (refine SG.retE (Ret.r1 Try.func46 rfl (.tmp rfl)) ?_ ⟨_, _, _, _, _, _, rdIs_stopE hr hi (by omega) (by omega), rfl, rfl⟩; (refine Ent.trans (Buf.nil (T := RI) (e := 3)) ?_; apply Rdr.ent; repeat (first | exact Ent.refl _ | (apply Ent.cons; (· repeat (first | exact Pick.here | (refine Pick.sl ?_; (· repeat (first | exact List.Mem.head _ | assumption | apply List.Mem.tail))) | apply Pick.there))) | (refine Ent.trans (Ent.drop _ _) ?_))))
    | (refine SG.retE (Ret.r1 Try.func46 rfl (.tmp rfl)) ?_ ⟨_, _, _, _, _, _, rdIs_stopO hr hi (by omega) (by omega), rfl, rfl⟩; (apply Rdr.ent; repeat (first | exact Ent.refl _ | (apply Ent.cons; (· repeat (first | exact Pick.here | (refine Pick.sl ?_; (· repeat (first | exact List.Mem.head _ | assumption | apply List.Mem.tail))) | apply Pick.there))) | (refine Ent.trans (Ent.drop _ _) ?_))))
   ·
    refine RL.nil ?_
    refine SG.cond_false rfl ?_
    refine SG.skip ?_
    refine SG.seq ?_
    refine SG.region ?_
    refine RL.val (Wanted.free rfl) (V.move rfl rfl) rfl ?_
    refine RL.val (Wanted.free rfl) (V.assign rfl rfl) rfl ?_
    refine RL.nil ?_
    first
    | (exfalso; omega)
    | (refine SG.retE (Ret.r1 Try.func46 rfl (.tmp rfl)) ?_ ⟨_, _, _, _, _, _, rdIs_stopE hr hi (by omega) (by omega), rfl, rfl⟩; (refine Ent.trans (Buf.nil (T := RI) (e := 3)) ?_; apply Rdr.ent; repeat (first | exact Ent.refl _ | (apply Ent.cons; (· repeat (first | exact Pick.here | (refine Pick.sl ?_; (· repeat (first | exact List.Mem.head _ | assumption | apply List.Mem.tail))) | apply Pick.there))) | (refine Ent.trans (Ent.drop _ _) ?_))))
    | (refine SG.retE (Ret.r1 Try.func46 rfl (.tmp rfl)) ?_ ⟨_, _, _, _, _, _, rdIs_stopO hr hi (by omega) (by omega), rfl, rfl⟩; (apply Rdr.ent; repeat (first | exact Ent.refl _ | (apply Ent.cons; (· repeat (first | exact Pick.here | (refine Pick.sl ?_; (· repeat (first | exact List.Mem.head _ | assumption | apply List.Mem.tail))) | apply Pick.there))) | (refine Ent.trans (Ent.drop _ _) ?_))))
 ·
  refine RL.val (Wanted.free rfl) (V.move rfl rfl) rfl ?_
  refine RL.skip (Wanted.no rfl rfl rfl rfl rfl) rfl ?_
  refine RL.skip (Wanted.no rfl rfl rfl rfl rfl) rfl ?_
  refine RL.skip (Wanted.no rfl rfl rfl rfl rfl) rfl ?_
  refine RL.skip (Wanted.no rfl rfl rfl rfl rfl) rfl ?_
  refine RL.skip (Wanted.no rfl rfl rfl rfl rfl) rfl ?_
  refine RL.skip (Wanted.no rfl rfl rfl rfl rfl) rfl ?_
  refine RL.val (Wanted.free rfl) (V.pick_false rfl rfl rfl) rfl ?_
  refine RL.nil ?_
  refine SG.cond_false rfl ?_
  refine SG.exit rfl ?_
  refine SG.seq ?_
  refine SG.seq ?_
  refine SG.region ?_
  refine RL.val (Wanted.free rfl) (V.move rfl rfl) rfl ?_
  refine RL.val (Wanted.free rfl) (V.nilCheck rfl rfl) rfl ?_
  refine RL.val (Wanted.free rfl) (V.fieldAddr rfl rfl fo113_0) rfl ?_
  refine RL.val (Wanted.free rfl) (V.fieldAddr rfl rfl fo111_1) rfl ?_
  refine RL.val (Wanted.free rfl) (V.load rfl on27 rfl pickX rfl) rfl ?_
  refine RL.cmp (Wanted.free rfl) (V.bin rfl rfl rfl B.neq) rfl (fun h40 => ?_) (fun h40 => ?_)
  ·
   refine RL.nil ?_
   refine SG.cond_true rfl ?_
   refine SG.seq ?_
   refine SG.region ?_
   refine RL.val (Wanted.free rfl) (V.assign rfl rfl) rfl ?_
   refine RL.nil ?_
   first
   | (exfalso; omega)
   | (refine SG.retE (Ret.r1 Try.func46 rfl (.tmp rfl)) ?_ ⟨_, _, _, _, _, _, rdIs_stopE hr hi (by omega) (by omega), rfl, rfl⟩; (refine Ent.trans (Buf.nil (T := RI) (e := 3)) ?_; apply Rdr.ent; repeat (first | exact Ent.refl _ | (apply Ent.cons; (· repeat (first | exact Pick.here | (refine Pick.sl ?_; (· repeat (first | exact List.Mem.head _ | assumption | apply List.Mem.tail))) | apply Pick.there))) | (refine Ent.trans (Ent.drop _ _) ?_))))
   | (refine SG.retE (Ret.r1 Try.func46 rfl (.tmp rfl)) ?_ ⟨_, _, _, _, _, _, rdIs_stopO hr hi (by omega) (by omega), rfl, rfl⟩; (apply Rdr.ent; repeat (first | exact Ent.refl _ | (apply Ent.cons; (· repeat (first | exact Pick.here | (refine Pick.sl ?_; (· repeat (first | exact List.Mem.head _ | assumption | apply List.Mem.tail))) | apply Pick.there))) | (refine Ent.trans (Ent.drop _ _) ?_))))
  ·
   refine RL.nil ?_
   refine SG.cond_false rfl ?_
   refine SG.skip ?_
   refine SG.seq ?_
   refine SG.region ?_
   refine RL.val (Wanted.free rfl) (V.move rfl rfl) rfl ?_
   refine RL.val (Wanted.free rfl) (V.assign rfl rfl) rfl ?_
   refine RL.nil ?_
   first
   | (exfalso; omega)
   | (refine SG.retE (Ret.r1 Try.func46 rfl (.tmp rfl)) ?_ ⟨_, _, _, _, _, _, rdIs_stopE hr hi (by omega) (by omega), rfl, rfl⟩; (refine Ent.trans (Buf.nil (T := RI) (e := 3)) ?_; apply Rdr.ent; repeat (first | exact Ent.refl _ | (apply Ent.cons; (· repeat (first | exact Pick.here | (refine Pick.sl ?_; (· repeat (first | exact List.Mem.head _ | assumption | apply List.Mem.tail))) | apply Pick.there))) | (refine Ent.trans (Ent.drop _ _) ?_))))
   | (refine SG.retE (Ret.r1 Try.func46 rfl (.tmp rfl)) ?_ ⟨_, _, _, _, _, _, rdIs_stopO hr hi (by omega) (by omega), rfl, rfl⟩; (apply Rdr.ent; repeat (first | exact Ent.refl _ | (apply Ent.cons; (· repeat (first | exact Pick.here | (refine Pick.sl ?_; (· repeat (first | exact List.Mem.head _ | assumption | apply List.Mem.tail))) | apply Pick.there))) | (refine Ent.trans (Ent.drop _ _) ?_))))

set_option maxRecDepth 100000 in
theorem rEnd_ok {κ : World} {L : List Assn} {L1 : List Assn} {b : Nat} {l : List UInt8} {e : Int} (hp : Pick (Rdr b l e) L L1) :
    Ctr Try.prog 50 #[ptr b 0] κ L (fun v M => v = vI (if e = 0 ∧ 0 < l.length then 7 else e) ∧ M = Rdr b l e :: L1) := by
 refine Ctr.enter (vs := [ptr b 0]) (m := 23) Try.func50 rfl rfl rfl ?_
 refine SG.openRdr hp fun a m c hl hmc hc => ?_
 subst hl
 refine SG.seq ?_
 refine SG.region ?_
 refine RL.val (Wanted.free rfl) (V.assign rfl rfl) rfl ?_
 refine RL.nil ?_
 refine SG.seq ?_
 refine SG.seq ?_
 refine SG.region ?_
 refine RL.val (Wanted.free rfl) (V.move rfl rfl) rfl ?_
 refine RL.val (Wanted.free rfl) (V.nilCheck rfl rfl) rfl ?_
 refine RL.val (Wanted.free rfl) (V.fieldAddr rfl rfl fo113_0) rfl ?_
 refine RL.val (Wanted.free rfl) (V.fieldAddr rfl rfl fo111_1) rfl ?_
 refine RL.val (Wanted.free rfl) (V.load rfl on27 rfl pickX rfl) rfl ?_
 refine RL.cmp (Wanted.free rfl) (V.bin rfl rfl rfl B.eql) rfl (fun h7 => ?_) (fun h7 => ?_)
 ·
  refine RL.val (Wanted.free rfl) (V.move rfl rfl) rfl ?_
  refine RL.val (Wanted.yes rfl rfl rfl rfl) (V.move rfl rfl) rfl ?_
  refine RL.val (Wanted.yes rfl rfl rfl rfl) (V.nilCheck rfl rfl) rfl ?_
  refine RL.val (Wanted.yes rfl rfl rfl rfl) (V.fieldAddr rfl rfl fo113_0) rfl ?_
  refine RL.val (Wanted.yes rfl rfl rfl rfl) (V.fieldAddr rfl rfl fo111_0) rfl ?_
  refine RL.val (Wanted.yes rfl rfl rfl rfl) (V.load rfl on65 rfl pickX rfl) rfl ?_
  refine RL.val (Wanted.yes rfl rfl rfl rfl) (V.len rfl rfl el65.under rfl) rfl ?_
  refine RL.cmp (Wanted.yes rfl rfl rfl rfl) (V.bin rfl rfl rfl B.gtr) rfl (fun h15 => ?_) (fun h15 => ?_)
  ·
   refine RL.val (Wanted.free rfl) (V.pick_true rfl rfl rfl) rfl ?_
   refine RL.nil ?_
   refine SG.cond_true rfl ?_
   refine SG.seq ?_
   refine SG.region ?_
   refine RL.val (Wanted.free rfl) (V.assign rfl rfl) rfl ?_
   refine RL.nil ?_
   first
   | (exfalso; omega)
   | (refine SG.retE (Ret.r1 Try.func50 rfl (.tmp rfl)) ?_ ⟨by rw [if_pos (by omega)], rfl⟩; (apply Rdr.ent; repeat (first | exact Ent.refl _ | (apply Ent.cons; (· repeat (first | exact Pick.here | (refine Pick.sl ?_; (· repeat (first | exact List.Mem.head _ | assumption | apply List.Mem.tail))) | apply Pick.there))) | (refine Ent.trans (Ent.drop _ _) ?_))))
   | (refine SG.retE (Ret.r1 Try.func50 rfl (.tmp rfl)) ?_ ⟨by rw [if_neg (by omega)], rfl⟩; (apply Rdr.ent; repeat (first | exact Ent.refl _ | (apply Ent.cons; (· repeat (first | exact Pick.here | (refine Pick.sl ?_; (· repeat (first | exact List.Mem.head _ | assumption | apply List.Mem.tail))) | apply Pick.there))) | (refine Ent.trans (Ent.drop _ _) ?_))))
  ·
   refine RL.val (Wanted.free rfl) (V.pick_true rfl rfl rfl) rfl ?_
   refine RL.nil ?_
   refine SG.cond_false rfl ?_
   refine SG.skip ?_
   refine SG.seq ?_
   refine SG.region ?_
   refine RL.val (Wanted.free rfl) (V.move rfl rfl) rfl ?_
   refine RL.val (Wanted.free rfl) (V.nilCheck rfl rfl) rfl ?_
   refine RL.val (Wanted.free rfl) (V.fieldAddr rfl rfl fo113_0) rfl ?_
   refine RL.val (Wanted.free rfl) (V.fieldAddr rfl rfl fo111_1) rfl ?_
   refine RL.val (Wanted.free rfl) (V.load rfl on27 rfl pickX rfl) rfl ?_
   refine RL.val (Wanted.free rfl) (V.assign rfl rfl) rfl ?_
   refine RL.nil ?_
   first
   | (exfalso; omega)
   | (refine SG.retE (Ret.r1 Try.func50 rfl (.tmp rfl)) ?_ ⟨by rw [if_pos (by omega)], rfl⟩; (apply Rdr.ent; repeat (first | exact Ent.refl _ | (apply Ent.cons; (· repeat (first | exact Pick.here | (refine Pick.sl ?_; (· repeat (first | exact List.Mem.head _ | assumption | apply List.Mem.tail))) | apply Pick.there))) | (refine Ent.trans (Ent.drop _ _) ?_))))
   | (refine SG.retE (Ret.r1 Try.func50 rfl (.tmp rfl)) ?_ ⟨by rw [if_neg (by omega)], rfl⟩; (apply Rdr.ent; repeat (first | exact Ent.refl _ | (apply Ent.cons; (· repeat (first | exact Pick.here | (refine Pick.sl ?_; (· repeat (first | exact List.Mem.head _ | assumption | apply List.Mem.tail))) | apply Pick.there))) | (refine Ent.trans (Ent.drop _ _) ?_))))
 ·
  refine RL.val (Wanted.free rfl) (V.move rfl rfl) rfl ?_
  refine RL.skip (Wanted.no rfl rfl rfl rfl rfl) rfl ?_
  refine RL.skip (Wanted.no rfl rfl rfl rfl rfl) rfl ?_
  refine RL.skip (Wanted.no rfl rfl rfl rfl rfl) rfl ?_
  refine RL.skip (Wanted.no rfl rfl rfl rfl rfl) rfl ?_
  refine RL.skip (Wanted.no rfl rfl rfl rfl rfl) rfl ?_
  refine RL.skip (Wanted.no rfl rfl rfl rfl rfl) rfl ?_
  refine RL.skip (Wanted.no rfl rfl rfl rfl rfl) rfl ?_
  refine RL.val (Wanted.free rfl) (V.pick_false rfl rfl rfl) rfl ?_
  refine RL.nil ?_
  refine SG.cond_false rfl ?_
  refine SG.skip ?_
  refine SG.seq ?_
  refine SG.region ?_
  refine RL.val (Wanted.free rfl) (V.move rfl rfl) rfl ?_
  refine RL.val (Wanted.free rfl) (V.nilCheck rfl rfl) rfl ?_
  refine RL.val (Wanted.free rfl) (V.fieldAddr rfl rfl fo113_0) rfl ?_
  refine RL.val (Wanted.free rfl) (V.fieldAddr rfl rfl fo111_1) rfl ?_
  refine RL.val (Wanted.free rfl) (V.load rfl on27 rfl pickX rfl) rfl ?_
  refine RL.val (Wanted.free rfl) (V.assign rfl rfl) rfl ?_
  refine RL.nil ?_
  first
  | (exfalso; omega)
  | (refine SG.retE (Ret.r1 Try.func50 rfl (.tmp rfl)) ?_ ⟨by rw [if_pos (by omega)], rfl⟩; (apply Rdr.ent; repeat (first | exact Ent.refl _ | (apply Ent.cons; (· repeat (first | exact Pick.here | (refine Pick.sl ?_; (· repeat (first | exact List.Mem.head _ | assumption | apply List.Mem.tail))) | apply Pick.there))) | (refine Ent.trans (Ent.drop _ _) ?_))))
  | (refine SG.retE (Ret.r1 Try.func50 rfl (.tmp rfl)) ?_ ⟨by rw [if_neg (by omega)], rfl⟩; (apply Rdr.ent; repeat (first | exact Ent.refl _ | (apply Ent.cons; (· repeat (first | exact Pick.here | (refine Pick.sl ?_; (· repeat (first | exact List.Mem.head _ | assumption | apply List.Mem.tail))) | apply Pick.there))) | (refine Ent.trans (Ent.drop _ _) ?_))))

end Go.Proofs.Ytilcnglcflohoaa
