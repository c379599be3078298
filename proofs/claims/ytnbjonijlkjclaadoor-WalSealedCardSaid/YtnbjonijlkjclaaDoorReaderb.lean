/- The reader, its other functions. -/
import Derived.Test.YtnbjonijlkjclaaDoorReader
namespace Go.Proofs.YtnbjonijlkjclaaDoor
open Go.Wk Go.Wire

theorem zag_code {u : UInt64} : IntKind.i64.wrap (BitVec.ofInt 64 ((u / 2).toNat : Int) ^^^ BitVec.ofInt 64 (-((u &&& 1).toNat : Int))).toNat = zag u := by
  have hu := u.toNat_lt
  have h1 : (u &&& 1).toNat = u.toNat % 2 := by rw [UInt64.toNat_and]; exact Nat.and_two_pow_sub_one_eq_mod _ 1
  have h2 : (u / 2).toNat = u.toNat / 2 := by rw [UInt64.toNat_div]; rfl
  rw [h1, h2]
  have hw : ∀ x : Int, IntKind.i64.wrap x = if x % 18446744073709551616 ≥ 9223372036854775808 then x % 18446744073709551616 - 18446744073709551616 else x % 18446744073709551616 := fun x => by
    simp [IntKind.wrap, IntKind.bits, IntKind.signed]
  unfold zag
  by_cases h : u.toNat % 2 = 1
  · rw [if_pos h, h]
    have e : BitVec.ofInt 64 (-((1 : Nat) : Int)) = BitVec.allOnes 64 := by decide
    rw [e, BitVec.xor_allOnes, BitVec.toNat_not, BitVec.toNat_ofInt, hw]
    omega
  · rw [if_neg h, show u.toNat % 2 = 0 from by omega]
    have e : BitVec.ofInt 64 (-((0 : Nat) : Int)) = 0#64 := by decide
    rw [e, BitVec.xor_zero, BitVec.toNat_ofInt, hw]
    omega
theorem rUint_rel {κ : World} {L L1 : List Assn} {b : Nat} {l : List UInt8} {e : Int} (hp : Pick (Rdr b l e) L L1) : Ctr Tryd.prog 50 #[ptr b 0] κ L (fun v M => ∃ l' e' x, rdU l e = (l', e', x) ∧ v = v64 x ∧ M = Rdr b l' e' :: L1) :=
  (rUint_ok hp).mono (Ent.refl _) fun _ _ h => ⟨_, _, _, rfl, h.1, h.2⟩
set_option maxRecDepth 100000 in
theorem rLen_ok {κ : World} {L : List Assn} {L1 : List Assn} {b : Nat} {l : List UInt8} {e : Int} (most : Int) (hp : Pick (Rdr b l e) L L1) (hm1 : -9223372036854775808 ≤ most) (hm2 : most ≤ 9223372036854775807) :
    Ctr Tryd.prog 38 #[ptr b 0, vI most] κ L (fun v M => ∃ l' e' k, rdL l e most = (l', e', k) ∧ v = vI (k : Int) ∧ M = Rdr b l' e' :: L1 ∧ ((k : Int) ≤ most ∨ k = 0)) := by
 refine Ctr.enter (vs := [ptr b 0, vI most]) (m := 36) Tryd.func38 rfl rfl rfl ?_
 refine SG.ent hp ?_
 have hcv : 0 ≤ most → ((UInt64.ofNat (most % 18446744073709551616).toNat).toNat : Int) = most := by intro h; rw [UInt64.toNat_ofNat']; omega
 refine SG.seq ?_
 refine SG.region ?_
 refine RL.val (Wanted.free rfl) (V.assign rfl rfl) rfl ?_
 refine RL.nil ?_
 refine SG.seq ?_
 refine SG.region ?_
 refine RL.val (Wanted.free rfl) (V.move rfl rfl) rfl ?_
 refine RL.eff (Wanted.free rfl) (E.call rfl go50 rfl (rUint_rel pickX)) rfl ?_
 rintro _ _ ⟨l1, e1, u, hr, rfl, rfl⟩
 have hu := u.toNat_lt
 refine RL.val (Wanted.free rfl) (V.assign rfl rfl) rfl ?_
 refine RL.nil ?_
 refine SG.seq ?_
 refine SG.seq ?_
 refine SG.openRdr pickX fun a m c hl hmc hc => ?_
 refine SG.region ?_
 refine RL.val (Wanted.free rfl) (V.move rfl rfl) rfl ?_
 refine RL.val (Wanted.free rfl) (V.nilCheck rfl rfl) rfl ?_
 refine RL.val (Wanted.free rfl) (V.fieldAddr rfl rfl fo86_0) rfl ?_
 refine RL.val (Wanted.free rfl) (V.fieldAddr rfl rfl fo84_1) rfl ?_
 refine RL.val (Wanted.free rfl) (V.load rfl on38 rfl pickX rfl) rfl ?_
 refine RL.cmp (Wanted.free rfl) (V.bin rfl rfl rfl B.eql) rfl (fun h10 => ?_) (fun h10 => ?_)
 ·
  refine RL.val (Wanted.free rfl) (V.move rfl rfl) rfl ?_
  refine RL.val (Wanted.yes rfl rfl rfl rfl) (V.move rfl rfl) rfl ?_
  refine RL.cmp (Wanted.yes rfl rfl rfl rfl) (V.bin rfl rfl rfl B.lss) rfl (fun h13 => ?_) (fun h13 => ?_)
  ·
   refine RL.val (Wanted.yes rfl rfl rfl rfl) (V.move rfl rfl) rfl ?_
   refine RL.skip (Wanted.no rfl rfl rfl rfl rfl) rfl ?_
   refine RL.skip (Wanted.no rfl rfl rfl rfl rfl) rfl ?_
   refine RL.skip (Wanted.no rfl rfl rfl rfl rfl) rfl ?_
   refine RL.skip (Wanted.no rfl rfl rfl rfl rfl) rfl ?_
   refine RL.val (Wanted.yes rfl rfl rfl rfl) (V.pick_true rfl rfl rfl) rfl ?_
   refine RL.val (Wanted.free rfl) (V.pick_true rfl rfl rfl) rfl ?_
   refine RL.nil ?_
   refine SG.cond_true rfl ?_
   refine SG.region ?_
   refine RL.val (Wanted.free rfl) (V.move rfl rfl) rfl ?_
   refine RL.val (Wanted.free rfl) (V.nilCheck rfl rfl) rfl ?_
   refine RL.val (Wanted.free rfl) (V.fieldAddr rfl rfl fo86_0) rfl ?_
   refine RL.eff (Wanted.free rfl) (E.call rfl go39 rfl (fail_ok _ pickX)) rfl ?_
   rintro _ _ ⟨rfl, rfl⟩
   have he1 : e1 = 0 := by omega
   subst he1
   rw [if_pos rfl]
   refine RL.nil ?_
   refine SG.seq ?_
   refine SG.seq ?_
   refine SG.region ?_
   refine RL.val (Wanted.free rfl) (V.move rfl rfl) rfl ?_
   refine RL.val (Wanted.free rfl) (V.nilCheck rfl rfl) rfl ?_
   refine RL.val (Wanted.free rfl) (V.fieldAddr rfl rfl fo86_0) rfl ?_
   refine RL.val (Wanted.free rfl) (V.fieldAddr rfl rfl fo84_1) rfl ?_
   refine RL.val (Wanted.free rfl) (V.load rfl on38 rfl pickX rfl) rfl ?_
   refine RL.cmp (Wanted.free rfl) (V.bin rfl rfl rfl B.neq) rfl (fun h24 => ?_) (fun h24 => ?_)
   ·
    refine RL.nil ?_
    refine SG.cond_true rfl ?_
    refine SG.seq ?_
    refine SG.region ?_
    refine RL.val (Wanted.free rfl) (V.assign rfl rfl) rfl ?_
    refine RL.nil ?_
    try (have he1 : e1 = 0 := (by omega); subst he1)
    first
    | (exfalso; omega)
    | (refine SG.retE (Ret.r1 Tryd.func38 rfl (.tmp rfl)) ?_ ⟨_, _, _, rdL_err hr (by omega), rfl, rfl, .inr rfl⟩; (apply Rdr.ent; repeat (first | exact Ent.refl _ | (apply Ent.cons; (· repeat (first | exact Pick.here | (refine Pick.sl ?_; (· repeat (first | exact List.Mem.head _ | assumption | apply List.Mem.tail))) | apply Pick.there))) | (refine Ent.trans (Ent.drop _ _) ?_))))
    | (refine SG.retE (Ret.r1 Tryd.func38 rfl (.tmp rfl)) ?_ ⟨_, _, _, rdL_bad hr (by omega), rfl, rfl, .inr rfl⟩; (apply Rdr.ent; repeat (first | exact Ent.refl _ | (apply Ent.cons; (· repeat (first | exact Pick.here | (refine Pick.sl ?_; (· repeat (first | exact List.Mem.head _ | assumption | apply List.Mem.tail))) | apply Pick.there))) | (refine Ent.trans (Ent.drop _ _) ?_))))
    | (refine SG.retE (Ret.r1 Tryd.func38 rfl (.tmp rfl)) ?_ ⟨_, _, _, rdL_ok hr (by omega), rfl, rfl, by omega⟩; (apply Rdr.ent; repeat (first | exact Ent.refl _ | (apply Ent.cons; (· repeat (first | exact Pick.here | (refine Pick.sl ?_; (· repeat (first | exact List.Mem.head _ | assumption | apply List.Mem.tail))) | apply Pick.there))) | (refine Ent.trans (Ent.drop _ _) ?_))))
   ·
    refine RL.nil ?_
    refine SG.cond_false rfl ?_
    refine SG.skip ?_
    refine SG.seq ?_
    refine SG.region ?_
    refine RL.val (Wanted.free rfl) (V.move rfl rfl) rfl ?_
    refine RL.val (Wanted.free rfl) (V.toI rfl ⟨_, ui59⟩ ui3 rfl (by omega) (by omega)) rfl ?_
    try (have he1 : e1 = 0 := (by omega); subst he1)
    refine RL.val (Wanted.free rfl) (V.assign rfl rfl) rfl ?_
    refine RL.nil ?_
    try (have he1 : e1 = 0 := (by omega); subst he1)
    first
    | (exfalso; omega)
    | (refine SG.retE (Ret.r1 Tryd.func38 rfl (.tmp rfl)) ?_ ⟨_, _, _, rdL_err hr (by omega), rfl, rfl, .inr rfl⟩; (apply Rdr.ent; repeat (first | exact Ent.refl _ | (apply Ent.cons; (· repeat (first | exact Pick.here | (refine Pick.sl ?_; (· repeat (first | exact List.Mem.head _ | assumption | apply List.Mem.tail))) | apply Pick.there))) | (refine Ent.trans (Ent.drop _ _) ?_))))
    | (refine SG.retE (Ret.r1 Tryd.func38 rfl (.tmp rfl)) ?_ ⟨_, _, _, rdL_bad hr (by omega), rfl, rfl, .inr rfl⟩; (apply Rdr.ent; repeat (first | exact Ent.refl _ | (apply Ent.cons; (· repeat (first | exact Pick.here | (refine Pick.sl ?_; (· repeat (first | exact List.Mem.head _ | assumption | apply List.Mem.tail))) | apply Pick.there))) | (refine Ent.trans (Ent.drop _ _) ?_))))
    | (refine SG.retE (Ret.r1 Tryd.func38 rfl (.tmp rfl)) ?_ ⟨_, _, _, rdL_ok hr (by omega), rfl, rfl, by omega⟩; (apply Rdr.ent; repeat (first | exact Ent.refl _ | (apply Ent.cons; (· repeat (first | exact Pick.here | (refine Pick.sl ?_; (· repeat (first | exact List.Mem.head _ | assumption | apply List.Mem.tail))) | apply Pick.there))) | (refine Ent.trans (Ent.drop _ _) ?_))))
  ·
   refine RL.val (Wanted.yes rfl rfl rfl rfl) (V.move rfl rfl) rfl ?_
   refine RL.val (Wanted.yes rfl rfl rfl rfl) (V.move rfl rfl) rfl ?_
   refine RL.val (Wanted.yes rfl rfl rfl rfl) (V.move rfl rfl) rfl ?_
   refine RL.val (Wanted.yes rfl rfl rfl rfl) (V.to64 rfl ⟨_, ui3⟩ ui59 rfl) rfl ?_
   refine RL.cmp (Wanted.yes rfl rfl rfl rfl) (V.bin rfl rfl rfl B.gtr) rfl (fun h33 => ?_) (fun h33 => ?_)
   ·
    refine RL.val (Wanted.yes rfl rfl rfl rfl) (V.pick_false rfl rfl rfl) rfl ?_
    refine RL.val (Wanted.free rfl) (V.pick_true rfl rfl rfl) rfl ?_
    refine RL.nil ?_
    refine SG.cond_true rfl ?_
    refine SG.region ?_
    refine RL.val (Wanted.free rfl) (V.move rfl rfl) rfl ?_
    refine RL.val (Wanted.free rfl) (V.nilCheck rfl rfl) rfl ?_
    refine RL.val (Wanted.free rfl) (V.fieldAddr rfl rfl fo86_0) rfl ?_
    refine RL.eff (Wanted.free rfl) (E.call rfl go39 rfl (fail_ok _ pickX)) rfl ?_
    rintro _ _ ⟨rfl, rfl⟩
    have he1 : e1 = 0 := by omega
    subst he1
    rw [if_pos rfl]
    refine RL.nil ?_
    refine SG.seq ?_
    refine SG.seq ?_
    refine SG.region ?_
    refine RL.val (Wanted.free rfl) (V.move rfl rfl) rfl ?_
    refine RL.val (Wanted.free rfl) (V.nilCheck rfl rfl) rfl ?_
    refine RL.val (Wanted.free rfl) (V.fieldAddr rfl rfl fo86_0) rfl ?_
    refine RL.val (Wanted.free rfl) (V.fieldAddr rfl rfl fo84_1) rfl ?_
    refine RL.val (Wanted.free rfl) (V.load rfl on38 rfl pickX rfl) rfl ?_
    refine RL.cmp (Wanted.free rfl) (V.bin rfl rfl rfl B.neq) rfl (fun h43 => ?_) (fun h43 => ?_)
    ·
     refine RL.nil ?_
     refine SG.cond_true rfl ?_
     refine SG.seq ?_
     refine SG.region ?_
     refine RL.val (Wanted.free rfl) (V.assign rfl rfl) rfl ?_
     refine RL.nil ?_
     try (have he1 : e1 = 0 := (by omega); subst he1)
     first
     | (exfalso; omega)
     | (refine SG.retE (Ret.r1 Tryd.func38 rfl (.tmp rfl)) ?_ ⟨_, _, _, rdL_err hr (by omega), rfl, rfl, .inr rfl⟩; (apply Rdr.ent; repeat (first | exact Ent.refl _ | (apply Ent.cons; (· repeat (first | exact Pick.here | (refine Pick.sl ?_; (· repeat (first | exact List.Mem.head _ | assumption | apply List.Mem.tail))) | apply Pick.there))) | (refine Ent.trans (Ent.drop _ _) ?_))))
     | (refine SG.retE (Ret.r1 Tryd.func38 rfl (.tmp rfl)) ?_ ⟨_, _, _, rdL_bad hr (by omega), rfl, rfl, .inr rfl⟩; (apply Rdr.ent; repeat (first | exact Ent.refl _ | (apply Ent.cons; (· repeat (first | exact Pick.here | (refine Pick.sl ?_; (· repeat (first | exact List.Mem.head _ | assumption | apply List.Mem.tail))) | apply Pick.there))) | (refine Ent.trans (Ent.drop _ _) ?_))))
     | (refine SG.retE (Ret.r1 Tryd.func38 rfl (.tmp rfl)) ?_ ⟨_, _, _, rdL_ok hr (by omega), rfl, rfl, by omega⟩; (apply Rdr.ent; repeat (first | exact Ent.refl _ | (apply Ent.cons; (· repeat (first | exact Pick.here | (refine Pick.sl ?_; (· repeat (first | exact List.Mem.head _ | assumption | apply List.Mem.tail))) | apply Pick.there))) | (refine Ent.trans (Ent.drop _ _) ?_))))
    ·
     refine RL.nil ?_
     refine SG.cond_false rfl ?_
     refine SG.skip ?_
     refine SG.seq ?_
     refine SG.region ?_
     refine RL.val (Wanted.free rfl) (V.move rfl rfl) rfl ?_
     refine RL.val (Wanted.free rfl) (V.toI rfl ⟨_, ui59⟩ ui3 rfl (by omega) (by omega)) rfl ?_
     try (have he1 : e1 = 0 := (by omega); subst he1)
     refine RL.val (Wanted.free rfl) (V.assign rfl rfl) rfl ?_
     refine RL.nil ?_
     try (have he1 : e1 = 0 := (by omega); subst he1)
     first
     | (exfalso; omega)
     | (refine SG.retE (Ret.r1 Tryd.func38 rfl (.tmp rfl)) ?_ ⟨_, _, _, rdL_err hr (by omega), rfl, rfl, .inr rfl⟩; (apply Rdr.ent; repeat (first | exact Ent.refl _ | (apply Ent.cons; (· repeat (first | exact Pick.here | (refine Pick.sl ?_; (· repeat (first | exact List.Mem.head _ | assumption | apply List.Mem.tail))) | apply Pick.there))) | (refine Ent.trans (Ent.drop _ _) ?_))))
     | (refine SG.retE (Ret.r1 Tryd.func38 rfl (.tmp rfl)) ?_ ⟨_, _, _, rdL_bad hr (by omega), rfl, rfl, .inr rfl⟩; (apply Rdr.ent; repeat (first | exact Ent.refl _ | (apply Ent.cons; (· repeat (first | exact Pick.here | (refine Pick.sl ?_; (· repeat (first | exact List.Mem.head _ | assumption | apply List.Mem.tail))) | apply Pick.there))) | (refine Ent.trans (Ent.drop _ _) ?_))))
     | (refine SG.retE (Ret.r1 Tryd.func38 rfl (.tmp rfl)) ?_ ⟨_, _, _, rdL_ok hr (by omega), rfl, rfl, by omega⟩; (apply Rdr.ent; repeat (first | exact Ent.refl _ | (apply Ent.cons; (· repeat (first | exact Pick.here | (refine Pick.sl ?_; (· repeat (first | exact List.Mem.head _ | assumption | apply List.Mem.tail))) | apply Pick.there))) | (refine Ent.trans (Ent.drop _ _) ?_))))
   ·
    refine RL.val (Wanted.yes rfl rfl rfl rfl) (V.pick_false rfl rfl rfl) rfl ?_
    refine RL.val (Wanted.free rfl) (V.pick_true rfl rfl rfl) rfl ?_
    refine RL.nil ?_
    refine SG.cond_false rfl ?_
    refine SG.skip ?_
    refine SG.seq ?_
    refine SG.seq ?_
    refine SG.region ?_
    refine RL.val (Wanted.free rfl) (V.move rfl rfl) rfl ?_
    refine RL.val (Wanted.free rfl) (V.nilCheck rfl rfl) rfl ?_
    refine RL.val (Wanted.free rfl) (V.fieldAddr rfl rfl fo86_0) rfl ?_
    refine RL.val (Wanted.free rfl) (V.fieldAddr rfl rfl fo84_1) rfl ?_
    refine RL.val (Wanted.free rfl) (V.load rfl on38 rfl pickX rfl) rfl ?_
    refine RL.cmp (Wanted.free rfl) (V.bin rfl rfl rfl B.neq) rfl (fun h53 => ?_) (fun h53 => ?_)
    ·
     refine RL.nil ?_
     refine SG.cond_true rfl ?_
     refine SG.seq ?_
     refine SG.region ?_
     refine RL.val (Wanted.free rfl) (V.assign rfl rfl) rfl ?_
     refine RL.nil ?_
     try (have he1 : e1 = 0 := (by omega); subst he1)
     first
     | (exfalso; omega)
     | (refine SG.retE (Ret.r1 Tryd.func38 rfl (.tmp rfl)) ?_ ⟨_, _, _, rdL_err hr (by omega), rfl, rfl, .inr rfl⟩; (apply Rdr.ent; repeat (first | exact Ent.refl _ | (apply Ent.cons; (· repeat (first | exact Pick.here | (refine Pick.sl ?_; (· repeat (first | exact List.Mem.head _ | assumption | apply List.Mem.tail))) | apply Pick.there))) | (refine Ent.trans (Ent.drop _ _) ?_))))
     | (refine SG.retE (Ret.r1 Tryd.func38 rfl (.tmp rfl)) ?_ ⟨_, _, _, rdL_bad hr (by omega), rfl, rfl, .inr rfl⟩; (apply Rdr.ent; repeat (first | exact Ent.refl _ | (apply Ent.cons; (· repeat (first | exact Pick.here | (refine Pick.sl ?_; (· repeat (first | exact List.Mem.head _ | assumption | apply List.Mem.tail))) | apply Pick.there))) | (refine Ent.trans (Ent.drop _ _) ?_))))
     | (refine SG.retE (Ret.r1 Tryd.func38 rfl (.tmp rfl)) ?_ ⟨_, _, _, rdL_ok hr (by omega), rfl, rfl, by omega⟩; (apply Rdr.ent; repeat (first | exact Ent.refl _ | (apply Ent.cons; (· repeat (first | exact Pick.here | (refine Pick.sl ?_; (· repeat (first | exact List.Mem.head _ | assumption | apply List.Mem.tail))) | apply Pick.there))) | (refine Ent.trans (Ent.drop _ _) ?_))))
    ·
     refine RL.nil ?_
     refine SG.cond_false rfl ?_
     refine SG.skip ?_
     refine SG.seq ?_
     refine SG.region ?_
     refine RL.val (Wanted.free rfl) (V.move rfl rfl) rfl ?_
     refine RL.val (Wanted.free rfl) (V.toI rfl ⟨_, ui59⟩ ui3 rfl (by omega) (by omega)) rfl ?_
     try (have he1 : e1 = 0 := (by omega); subst he1)
     refine RL.val (Wanted.free rfl) (V.assign rfl rfl) rfl ?_
     refine RL.nil ?_
     try (have he1 : e1 = 0 := (by omega); subst he1)
     first
     | (exfalso; omega)
     | (refine SG.retE (Ret.r1 Tryd.func38 rfl (.tmp rfl)) ?_ ⟨_, _, _, rdL_err hr (by omega), rfl, rfl, .inr rfl⟩; (apply Rdr.ent; repeat (first | exact Ent.refl _ | (apply Ent.cons; (· repeat (first | exact Pick.here | (refine Pick.sl ?_; (· repeat (first | exact List.Mem.head _ | assumption | apply List.Mem.tail))) | apply Pick.there))) | (refine Ent.trans (Ent.drop _ _) ?_))))
     | (refine SG.retE (Ret.r1 Tryd.func38 rfl (.tmp rfl)) ?_ ⟨_, _, _, rdL_bad hr (by omega), rfl, rfl, .inr rfl⟩; (apply Rdr.ent; repeat (first | exact Ent.refl _ | (apply Ent.cons; (· repeat (first | exact Pick.here | (refine Pick.sl ?_; (· repeat (first | exact List.Mem.head _ | assumption | apply List.Mem.tail))) | apply Pick.there))) | (refine Ent.trans (Ent.drop _ _) ?_))))
     | (refine SG.retE (Ret.r1 Tryd.func38 rfl (.tmp rfl)) ?_ ⟨_, _, _, rdL_ok hr (by omega), rfl, rfl, by omega⟩; (apply Rdr.ent; repeat (first | exact Ent.refl _ | (apply Ent.cons; (· repeat (first | exact Pick.here | (refine Pick.sl ?_; (· repeat (first | exact List.Mem.head _ | assumption | apply List.Mem.tail))) | apply Pick.there))) | (refine Ent.trans (Ent.drop _ _) ?_))))
 ·
  refine RL.val (Wanted.free rfl) (V.move rfl rfl) rfl ?_
  refine RL.skip (Wanted.no rfl rfl rfl rfl rfl) rfl ?_
  refine RL.skip (Wanted.no rfl rfl rfl rfl rfl) rfl ?_
  refine RL.skip (Wanted.no rfl rfl rfl rfl rfl) rfl ?_
  refine RL.skip (Wanted.un rfl rfl rfl) rfl ?_
  refine RL.skip (Wanted.un rfl rfl rfl) rfl ?_
  refine RL.skip (Wanted.un rfl rfl rfl) rfl ?_
  refine RL.skip (Wanted.un rfl rfl rfl) rfl ?_
  refine RL.skip (Wanted.no rfl rfl rfl rfl rfl) rfl ?_
  refine RL.val (Wanted.free rfl) (V.pick_false rfl rfl rfl) rfl ?_
  refine RL.nil ?_
  refine SG.cond_false rfl ?_
  refine SG.skip ?_
  refine SG.seq ?_
  refine SG.seq ?_
  refine SG.region ?_
  refine RL.val (Wanted.free rfl) (V.move rfl rfl) rfl ?_
  refine RL.val (Wanted.free rfl) (V.nilCheck rfl rfl) rfl ?_
  refine RL.val (Wanted.free rfl) (V.fieldAddr rfl rfl fo86_0) rfl ?_
  refine RL.val (Wanted.free rfl) (V.fieldAddr rfl rfl fo84_1) rfl ?_
  refine RL.val (Wanted.free rfl) (V.load rfl on38 rfl pickX rfl) rfl ?_
  refine RL.cmp (Wanted.free rfl) (V.bin rfl rfl rfl B.neq) rfl (fun h64 => ?_) (fun h64 => ?_)
  ·
   refine RL.nil ?_
   refine SG.cond_true rfl ?_
   refine SG.seq ?_
   refine SG.region ?_
   refine RL.val (Wanted.free rfl) (V.assign rfl rfl) rfl ?_
   refine RL.nil ?_
   try (have he1 : e1 = 0 := (by omega); subst he1)
   first
   | (exfalso; omega)
   | (refine SG.retE (Ret.r1 Tryd.func38 rfl (.tmp rfl)) ?_ ⟨_, _, _, rdL_err hr (by omega), rfl, rfl, .inr rfl⟩; (apply Rdr.ent; repeat (first | exact Ent.refl _ | (apply Ent.cons; (· repeat (first | exact Pick.here | (refine Pick.sl ?_; (· repeat (first | exact List.Mem.head _ | assumption | apply List.Mem.tail))) | apply Pick.there))) | (refine Ent.trans (Ent.drop _ _) ?_))))
   | (refine SG.retE (Ret.r1 Tryd.func38 rfl (.tmp rfl)) ?_ ⟨_, _, _, rdL_bad hr (by omega), rfl, rfl, .inr rfl⟩; (apply Rdr.ent; repeat (first | exact Ent.refl _ | (apply Ent.cons; (· repeat (first | exact Pick.here | (refine Pick.sl ?_; (· repeat (first | exact List.Mem.head _ | assumption | apply List.Mem.tail))) | apply Pick.there))) | (refine Ent.trans (Ent.drop _ _) ?_))))
   | (refine SG.retE (Ret.r1 Tryd.func38 rfl (.tmp rfl)) ?_ ⟨_, _, _, rdL_ok hr (by omega), rfl, rfl, by omega⟩; (apply Rdr.ent; repeat (first | exact Ent.refl _ | (apply Ent.cons; (· repeat (first | exact Pick.here | (refine Pick.sl ?_; (· repeat (first | exact List.Mem.head _ | assumption | apply List.Mem.tail))) | apply Pick.there))) | (refine Ent.trans (Ent.drop _ _) ?_))))
  ·
   refine RL.nil ?_
   refine SG.cond_false rfl ?_
   refine SG.skip ?_
   refine SG.seq ?_
   refine SG.region ?_
   refine RL.val (Wanted.free rfl) (V.move rfl rfl) rfl ?_
   refine RL.val (Wanted.free rfl) (V.toI rfl ⟨_, ui59⟩ ui3 rfl (by omega) (by omega)) rfl ?_
   try (have he1 : e1 = 0 := (by omega); subst he1)
   refine RL.val (Wanted.free rfl) (V.assign rfl rfl) rfl ?_
   refine RL.nil ?_
   try (have he1 : e1 = 0 := (by omega); subst he1)
   first
   | (exfalso; omega)
   | (refine SG.retE (Ret.r1 Tryd.func38 rfl (.tmp rfl)) ?_ ⟨_, _, _, rdL_err hr (by omega), rfl, rfl, .inr rfl⟩; (apply Rdr.ent; repeat (first | exact Ent.refl _ | (apply Ent.cons; (· repeat (first | exact Pick.here | (refine Pick.sl ?_; (· repeat (first | exact List.Mem.head _ | assumption | apply List.Mem.tail))) | apply Pick.there))) | (refine Ent.trans (Ent.drop _ _) ?_))))
   | (refine SG.retE (Ret.r1 Tryd.func38 rfl (.tmp rfl)) ?_ ⟨_, _, _, rdL_bad hr (by omega), rfl, rfl, .inr rfl⟩; (apply Rdr.ent; repeat (first | exact Ent.refl _ | (apply Ent.cons; (· repeat (first | exact Pick.here | (refine Pick.sl ?_; (· repeat (first | exact List.Mem.head _ | assumption | apply List.Mem.tail))) | apply Pick.there))) | (refine Ent.trans (Ent.drop _ _) ?_))))
   | (refine SG.retE (Ret.r1 Tryd.func38 rfl (.tmp rfl)) ?_ ⟨_, _, _, rdL_ok hr (by omega), rfl, rfl, by omega⟩; (apply Rdr.ent; repeat (first | exact Ent.refl _ | (apply Ent.cons; (· repeat (first | exact Pick.here | (refine Pick.sl ?_; (· repeat (first | exact List.Mem.head _ | assumption | apply List.Mem.tail))) | apply Pick.there))) | (refine Ent.trans (Ent.drop _ _) ?_))))

set_option maxRecDepth 100000 in
theorem rText_ok {κ : World} {L : List Assn} {L1 : List Assn} {b : Nat} {l : List UInt8} {e : Int} (most : Int) (hp : Pick (Rdr b l e) L L1) (hm1 : -9223372036854775808 ≤ most) (hm2 : most ≤ 9223372036854775807) :
    Ctr Tryd.prog 18 #[ptr b 0, vI most] κ L (fun v M => ∃ l' e' s, rdS l e most = (l', e', s) ∧ v = vS s ∧ M = Rdr b l' e' :: L1 ∧ s.length ≤ most.toNat) := by
 refine Ctr.enter (vs := [ptr b 0, vI most]) (m := 56) Tryd.func18 rfl rfl rfl ?_
 refine SG.ent hp ?_
 refine SG.seq ?_
 refine SG.region ?_
 refine RL.val (Wanted.free rfl) (V.assign rfl rfl) rfl ?_
 refine RL.nil ?_
 refine SG.seq ?_
 refine SG.region ?_
 refine RL.val (Wanted.free rfl) (V.move rfl rfl) rfl ?_
 refine RL.val (Wanted.free rfl) (V.move rfl rfl) rfl ?_
 refine RL.eff (Wanted.free rfl) (E.call rfl go38 rfl (rLen_ok _ pickX (by omega) (by omega))) rfl ?_
 rintro _ _ ⟨l1, e1, k1, hr, rfl, rfl, hk⟩
 refine RL.val (Wanted.free rfl) (V.assign rfl rfl) rfl ?_
 refine RL.nil ?_
 refine SG.seq ?_
 refine SG.seq ?_
 refine SG.openRdr pickX fun a m c hl hmc hc => ?_
 subst hl
 refine SG.region ?_
 refine RL.val (Wanted.free rfl) (V.move rfl rfl) rfl ?_
 refine RL.val (Wanted.free rfl) (V.nilCheck rfl rfl) rfl ?_
 refine RL.val (Wanted.free rfl) (V.fieldAddr rfl rfl fo86_0) rfl ?_
 refine RL.val (Wanted.free rfl) (V.fieldAddr rfl rfl fo84_1) rfl ?_
 refine RL.val (Wanted.free rfl) (V.load rfl on38 rfl pickX rfl) rfl ?_
 refine RL.cmp (Wanted.free rfl) (V.bin rfl rfl rfl B.eql) rfl (fun h11 => ?_) (fun h11 => ?_)
 ·
  refine RL.val (Wanted.free rfl) (V.move rfl rfl) rfl ?_
  refine RL.val (Wanted.yes rfl rfl rfl rfl) (V.move rfl rfl) rfl ?_
  refine RL.val (Wanted.yes rfl rfl rfl rfl) (V.move rfl rfl) rfl ?_
  refine RL.val (Wanted.yes rfl rfl rfl rfl) (V.nilCheck rfl rfl) rfl ?_
  refine RL.val (Wanted.yes rfl rfl rfl rfl) (V.fieldAddr rfl rfl fo86_0) rfl ?_
  refine RL.val (Wanted.yes rfl rfl rfl rfl) (V.fieldAddr rfl rfl fo84_0) rfl ?_
  refine RL.val (Wanted.yes rfl rfl rfl rfl) (V.load rfl on34 rfl pickX rfl) rfl ?_
  refine RL.val (Wanted.yes rfl rfl rfl rfl) (V.len rfl rfl el34.under rfl) rfl ?_
  refine RL.cmp (Wanted.yes rfl rfl rfl rfl) (V.bin rfl rfl rfl B.gtr) rfl (fun h20 => ?_) (fun h20 => ?_)
  ·
   refine RL.val (Wanted.free rfl) (V.pick_true rfl rfl rfl) rfl ?_
   refine RL.nil ?_
   refine SG.cond_true rfl ?_
   refine SG.region ?_
   refine RL.val (Wanted.free rfl) (V.move rfl rfl) rfl ?_
   refine RL.val (Wanted.free rfl) (V.nilCheck rfl rfl) rfl ?_
   refine RL.val (Wanted.free rfl) (V.fieldAddr rfl rfl fo86_0) rfl ?_
   refine RL.eff (Wanted.free rfl) (E.call rfl go39 rfl (fail_ok _ pickX)) rfl ?_
   rintro _ _ ⟨rfl, rfl⟩
   have he1 : e1 = 0 := by omega
   subst he1
   rw [if_pos rfl]
   refine RL.nil ?_
   refine SG.seq ?_
   refine SG.seq ?_
   refine SG.region ?_
   refine RL.val (Wanted.free rfl) (V.move rfl rfl) rfl ?_
   refine RL.val (Wanted.free rfl) (V.nilCheck rfl rfl) rfl ?_
   refine RL.val (Wanted.free rfl) (V.fieldAddr rfl rfl fo86_0) rfl ?_
   refine RL.val (Wanted.free rfl) (V.fieldAddr rfl rfl fo84_1) rfl ?_
   refine RL.val (Wanted.free rfl) (V.load rfl on38 rfl pickX rfl) rfl ?_
   refine RL.cmp (Wanted.free rfl) (V.bin rfl rfl rfl B.neq) rfl (fun h30 => ?_) (fun h30 => ?_)
   ·
    refine RL.nil ?_
    refine SG.cond_true rfl ?_
    refine SG.seq ?_
    refine SG.region ?_
    refine RL.val (Wanted.free rfl) (V.assign rfl rfl) rfl ?_
    refine RL.nil ?_
    try (have he : e1 = 0 := (by omega); subst he)
    first
    | (exfalso; omega)
    | (refine SG.retE (Ret.r1 Tryd.func18 rfl (.tmp rfl)) ?_ ⟨_, _, _, rdS_err hr (by omega), rfl, rfl, by simp⟩; (apply Rdr.ent; repeat (first | exact Ent.refl _ | (apply Ent.cons; (· repeat (first | exact Pick.here | (refine Pick.sl ?_; (· repeat (first | exact List.Mem.head _ | assumption | apply List.Mem.tail))) | apply Pick.there))) | (refine Ent.trans (Ent.drop _ _) ?_))))
    | (refine SG.retE (Ret.r1 Tryd.func18 rfl (.tmp rfl)) ?_ ⟨_, _, _, rdS_short hr (by omega), rfl, rfl, by simp⟩; (apply Rdr.ent; repeat (first | exact Ent.refl _ | (apply Ent.cons; (· repeat (first | exact Pick.here | (refine Pick.sl ?_; (· repeat (first | exact List.Mem.head _ | assumption | apply List.Mem.tail))) | apply Pick.there))) | (refine Ent.trans (Ent.drop _ _) ?_))))
    | (refine SG.retE (Ret.r1 Tryd.func18 rfl (.tmp rfl)) ?_ ⟨_, _, _, rdS_ok hr (by omega), rfl, rfl, by simp; omega⟩; (apply Rdr.ent; repeat (first | exact Ent.refl _ | (apply Ent.cons; (· repeat (first | exact Pick.here | (refine Pick.sl ?_; (· repeat (first | exact List.Mem.head _ | assumption | apply List.Mem.tail))) | apply Pick.there))) | (refine Ent.trans (Ent.drop _ _) ?_))))
   ·
    refine RL.nil ?_
    refine SG.cond_false rfl ?_
    refine SG.skip ?_
    refine SG.seq ?_
    refine SG.region ?_
    try (have he : e1 = 0 := (by omega); subst he)
    refine RL.val (Wanted.free rfl) (V.move rfl rfl) rfl ?_
    refine RL.val (Wanted.free rfl) (V.nilCheck rfl rfl) rfl ?_
    refine RL.val (Wanted.free rfl) (V.fieldAddr rfl rfl fo86_0) rfl ?_
    refine RL.val (Wanted.free rfl) (V.fieldAddr rfl rfl fo84_0) rfl ?_
    refine RL.val (Wanted.free rfl) (V.load rfl on34 rfl pickX rfl) rfl ?_
    refine RL.val (Wanted.free rfl) (V.move rfl rfl) rfl ?_
    refine RL.eff (Wanted.free rfl) (E.slice (lo := 0) (hi := k1) rfl el34.slice rfl memX rfl ⟨_, _, rfl, (by first | rfl | omega)⟩ (by omega) (by omega)) rfl ?_
    intro _ _ hK38
    try rw [List.drop_zero] at hK38
    iterate 2 (try rw [Nat.sub_zero] at hK38)
    obtain ⟨a38, rfl, rfl⟩ := hK38
    refine RL.val (Wanted.free rfl) (V.bytesToS rfl el34.under ui5 us9 rfl memX) rfl ?_
    refine RL.val (Wanted.free rfl) (V.assign rfl rfl) rfl ?_
    refine RL.nil ?_
    refine SG.seq ?_
    refine SG.region ?_
    refine RL.val (Wanted.free rfl) (V.move rfl rfl) rfl ?_
    refine RL.val (Wanted.free rfl) (V.move rfl rfl) rfl ?_
    refine RL.val (Wanted.free rfl) (V.nilCheck rfl rfl) rfl ?_
    refine RL.val (Wanted.free rfl) (V.fieldAddr rfl rfl fo86_0) rfl ?_
    refine RL.val (Wanted.free rfl) (V.fieldAddr rfl rfl fo84_0) rfl ?_
    refine RL.val (Wanted.free rfl) (V.load rfl on34 rfl pickX rfl) rfl ?_
    refine RL.val (Wanted.free rfl) (V.move rfl rfl) rfl ?_
    refine RL.eff (Wanted.free rfl) (E.slice (lo := k1) (hi := l1.length) rfl el34.slice rfl memX ⟨_, _, rfl, (by first | rfl | omega)⟩ rfl (by omega) (by omega)) rfl ?_
    intro _ _ hK48
    try rw [List.drop_zero] at hK48
    iterate 2 (try rw [Nat.sub_zero] at hK48)
    rw [show (l1.drop (k1)).take (l1.length - (k1)) = l1.drop (k1) from List.take_of_length_le (by simp)] at hK48
    obtain ⟨a48, rfl, rfl⟩ := hK48
    refine RL.val (Wanted.free rfl) (V.nilCheck rfl rfl) rfl ?_
    refine RL.val (Wanted.free rfl) (V.fieldAddr rfl rfl fo86_0) rfl ?_
    refine RL.val (Wanted.free rfl) (V.fieldAddr rfl rfl fo84_0) rfl ?_
    refine RL.eff (Wanted.free rfl) (E.store1 rfl rfl rfl rfl rfl sz34 pickX rfl) rfl ?_
    rintro _ _ rfl
    refine RL.nil ?_
    refine SG.seq ?_
    refine SG.region ?_
    refine RL.val (Wanted.free rfl) (V.move rfl rfl) rfl ?_
    refine RL.val (Wanted.free rfl) (V.assign rfl rfl) rfl ?_
    refine RL.nil ?_
    try (have he : e1 = 0 := (by omega); subst he)
    first
    | (exfalso; omega)
    | (refine SG.retE (Ret.r1 Tryd.func18 rfl (.tmp rfl)) ?_ ⟨_, _, _, rdS_err hr (by omega), rfl, rfl, by simp⟩; (apply Rdr.ent; repeat (first | exact Ent.refl _ | (apply Ent.cons; (· repeat (first | exact Pick.here | (refine Pick.sl ?_; (· repeat (first | exact List.Mem.head _ | assumption | apply List.Mem.tail))) | apply Pick.there))) | (refine Ent.trans (Ent.drop _ _) ?_))))
    | (refine SG.retE (Ret.r1 Tryd.func18 rfl (.tmp rfl)) ?_ ⟨_, _, _, rdS_short hr (by omega), rfl, rfl, by simp⟩; (apply Rdr.ent; repeat (first | exact Ent.refl _ | (apply Ent.cons; (· repeat (first | exact Pick.here | (refine Pick.sl ?_; (· repeat (first | exact List.Mem.head _ | assumption | apply List.Mem.tail))) | apply Pick.there))) | (refine Ent.trans (Ent.drop _ _) ?_))))
    | (refine SG.retE (Ret.r1 Tryd.func18 rfl (.tmp rfl)) ?_ ⟨_, _, _, rdS_ok hr (by omega), rfl, rfl, by simp; omega⟩; (apply Rdr.ent; repeat (first | exact Ent.refl _ | (apply Ent.cons; (· repeat (first | exact Pick.here | (refine Pick.sl ?_; (· repeat (first | exact List.Mem.head _ | assumption | apply List.Mem.tail))) | apply Pick.there))) | (refine Ent.trans (Ent.drop _ _) ?_))))
  ·
   refine RL.val (Wanted.free rfl) (V.pick_true rfl rfl rfl) rfl ?_
   refine RL.nil ?_
   refine SG.cond_false rfl ?_
   refine SG.skip ?_
   refine SG.seq ?_
   refine SG.seq ?_
   refine SG.region ?_
   refine RL.val (Wanted.free rfl) (V.move rfl rfl) rfl ?_
   refine RL.val (Wanted.free rfl) (V.nilCheck rfl rfl) rfl ?_
   refine RL.val (Wanted.free rfl) (V.fieldAddr rfl rfl fo86_0) rfl ?_
   refine RL.val (Wanted.free rfl) (V.fieldAddr rfl rfl fo84_1) rfl ?_
   refine RL.val (Wanted.free rfl) (V.load rfl on38 rfl pickX rfl) rfl ?_
   refine RL.cmp (Wanted.free rfl) (V.bin rfl rfl rfl B.neq) rfl (fun h60 => ?_) (fun h60 => ?_)
   ·
    refine RL.nil ?_
    refine SG.cond_true rfl ?_
    refine SG.seq ?_
    refine SG.region ?_
    refine RL.val (Wanted.free rfl) (V.assign rfl rfl) rfl ?_
    refine RL.nil ?_
    try (have he : e1 = 0 := (by omega); subst he)
    first
    | (exfalso; omega)
    | (refine SG.retE (Ret.r1 Tryd.func18 rfl (.tmp rfl)) ?_ ⟨_, _, _, rdS_err hr (by omega), rfl, rfl, by simp⟩; (apply Rdr.ent; repeat (first | exact Ent.refl _ | (apply Ent.cons; (· repeat (first | exact Pick.here | (refine Pick.sl ?_; (· repeat (first | exact List.Mem.head _ | assumption | apply List.Mem.tail))) | apply Pick.there))) | (refine Ent.trans (Ent.drop _ _) ?_))))
    | (refine SG.retE (Ret.r1 Tryd.func18 rfl (.tmp rfl)) ?_ ⟨_, _, _, rdS_short hr (by omega), rfl, rfl, by simp⟩; (apply Rdr.ent; repeat (first | exact Ent.refl _ | (apply Ent.cons; (· repeat (first | exact Pick.here | (refine Pick.sl ?_; (· repeat (first | exact List.Mem.head _ | assumption | apply List.Mem.tail))) | apply Pick.there))) | (refine Ent.trans (Ent.drop _ _) ?_))))
    | (refine SG.retE (Ret.r1 Tryd.func18 rfl (.tmp rfl)) ?_ ⟨_, _, _, rdS_ok hr (by omega), rfl, rfl, by simp; omega⟩; (apply Rdr.ent; repeat (first | exact Ent.refl _ | (apply Ent.cons; (· repeat (first | exact Pick.here | (refine Pick.sl ?_; (· repeat (first | exact List.Mem.head _ | assumption | apply List.Mem.tail))) | apply Pick.there))) | (refine Ent.trans (Ent.drop _ _) ?_))))
   ·
    refine RL.nil ?_
    refine SG.cond_false rfl ?_
    refine SG.skip ?_
    refine SG.seq ?_
    refine SG.region ?_
    try (have he : e1 = 0 := (by omega); subst he)
    refine RL.val (Wanted.free rfl) (V.move rfl rfl) rfl ?_
    refine RL.val (Wanted.free rfl) (V.nilCheck rfl rfl) rfl ?_
    refine RL.val (Wanted.free rfl) (V.fieldAddr rfl rfl fo86_0) rfl ?_
    refine RL.val (Wanted.free rfl) (V.fieldAddr rfl rfl fo84_0) rfl ?_
    refine RL.val (Wanted.free rfl) (V.load rfl on34 rfl pickX rfl) rfl ?_
    refine RL.val (Wanted.free rfl) (V.move rfl rfl) rfl ?_
    refine RL.eff (Wanted.free rfl) (E.slice (lo := 0) (hi := k1) rfl el34.slice rfl memX rfl ⟨_, _, rfl, (by first | rfl | omega)⟩ (by omega) (by omega)) rfl ?_
    intro _ _ hK68
    try rw [List.drop_zero] at hK68
    iterate 2 (try rw [Nat.sub_zero] at hK68)
    obtain ⟨a68, rfl, rfl⟩ := hK68
    refine RL.val (Wanted.free rfl) (V.bytesToS rfl el34.under ui5 us9 rfl memX) rfl ?_
    refine RL.val (Wanted.free rfl) (V.assign rfl rfl) rfl ?_
    refine RL.nil ?_
    refine SG.seq ?_
    refine SG.region ?_
    refine RL.val (Wanted.free rfl) (V.move rfl rfl) rfl ?_
    refine RL.val (Wanted.free rfl) (V.move rfl rfl) rfl ?_
    refine RL.val (Wanted.free rfl) (V.nilCheck rfl rfl) rfl ?_
    refine RL.val (Wanted.free rfl) (V.fieldAddr rfl rfl fo86_0) rfl ?_
    refine RL.val (Wanted.free rfl) (V.fieldAddr rfl rfl fo84_0) rfl ?_
    refine RL.val (Wanted.free rfl) (V.load rfl on34 rfl pickX rfl) rfl ?_
    refine RL.val (Wanted.free rfl) (V.move rfl rfl) rfl ?_
    refine RL.eff (Wanted.free rfl) (E.slice (lo := k1) (hi := l1.length) rfl el34.slice rfl memX ⟨_, _, rfl, (by first | rfl | omega)⟩ rfl (by omega) (by omega)) rfl ?_
    intro _ _ hK78
    try rw [List.drop_zero] at hK78
    iterate 2 (try rw [Nat.sub_zero] at hK78)
    rw [show (l1.drop (k1)).take (l1.length - (k1)) = l1.drop (k1) from List.take_of_length_le (by simp)] at hK78
    obtain ⟨a78, rfl, rfl⟩ := hK78
    refine RL.val (Wanted.free rfl) (V.nilCheck rfl rfl) rfl ?_
    refine RL.val (Wanted.free rfl) (V.fieldAddr rfl rfl fo86_0) rfl ?_
    refine RL.val (Wanted.free rfl) (V.fieldAddr rfl rfl fo84_0) rfl ?_
    refine RL.eff (Wanted.free rfl) (E.store1 rfl rfl rfl rfl rfl sz34 pickX rfl) rfl ?_
    rintro _ _ rfl
    refine RL.nil ?_
    refine SG.seq ?_
    refine SG.region ?_
    refine RL.val (Wanted.free rfl) (V.move rfl rfl) rfl ?_
    refine RL.val (Wanted.free rfl) (V.assign rfl rfl) rfl ?_
    refine RL.nil ?_
    try (have he : e1 = 0 := (by omega); subst he)
    first
    | (exfalso; omega)
    | (refine SG.retE (Ret.r1 Tryd.func18 rfl (.tmp rfl)) ?_ ⟨_, _, _, rdS_err hr (by omega), rfl, rfl, by simp⟩; (apply Rdr.ent; repeat (first | exact Ent.refl _ | (apply Ent.cons; (· repeat (first | exact Pick.here | (refine Pick.sl ?_; (· repeat (first | exact List.Mem.head _ | assumption | apply List.Mem.tail))) | apply Pick.there))) | (refine Ent.trans (Ent.drop _ _) ?_))))
    | (refine SG.retE (Ret.r1 Tryd.func18 rfl (.tmp rfl)) ?_ ⟨_, _, _, rdS_short hr (by omega), rfl, rfl, by simp⟩; (apply Rdr.ent; repeat (first | exact Ent.refl _ | (apply Ent.cons; (· repeat (first | exact Pick.here | (refine Pick.sl ?_; (· repeat (first | exact List.Mem.head _ | assumption | apply List.Mem.tail))) | apply Pick.there))) | (refine Ent.trans (Ent.drop _ _) ?_))))
    | (refine SG.retE (Ret.r1 Tryd.func18 rfl (.tmp rfl)) ?_ ⟨_, _, _, rdS_ok hr (by omega), rfl, rfl, by simp; omega⟩; (apply Rdr.ent; repeat (first | exact Ent.refl _ | (apply Ent.cons; (· repeat (first | exact Pick.here | (refine Pick.sl ?_; (· repeat (first | exact List.Mem.head _ | assumption | apply List.Mem.tail))) | apply Pick.there))) | (refine Ent.trans (Ent.drop _ _) ?_))))
 ·
  refine RL.val (Wanted.free rfl) (V.move rfl rfl) rfl ?_
  refine RL.skip (Wanted.no rfl rfl rfl rfl rfl) rfl ?_
  refine RL.skip (Wanted.no rfl rfl rfl rfl rfl) rfl ?_
  refine RL.skip (Wanted.no rfl rfl rfl rfl rfl) rfl ?_
  refine RL.skip (Wanted.no rfl rfl rfl rfl rfl) rfl ?_
  refine RL.skip (Wanted.no rfl rfl rfl rfl rfl) rfl ?_
  refine RL.skip (Wanted.no rfl rfl rfl rfl rfl) rfl ?_
  refine RL.skip (Wanted.no rfl rfl rfl rfl rfl) rfl ?_
  refine RL.skip (Wanted.no rfl rfl rfl rfl rfl) rfl ?_
  refine RL.val (Wanted.free rfl) (V.pick_false rfl rfl rfl) rfl ?_
  refine RL.nil ?_
  refine SG.cond_false rfl ?_
  refine SG.skip ?_
  refine SG.seq ?_
  refine SG.seq ?_
  refine SG.region ?_
  refine RL.val (Wanted.free rfl) (V.move rfl rfl) rfl ?_
  refine RL.val (Wanted.free rfl) (V.nilCheck rfl rfl) rfl ?_
  refine RL.val (Wanted.free rfl) (V.fieldAddr rfl rfl fo86_0) rfl ?_
  refine RL.val (Wanted.free rfl) (V.fieldAddr rfl rfl fo84_1) rfl ?_
  refine RL.val (Wanted.free rfl) (V.load rfl on38 rfl pickX rfl) rfl ?_
  refine RL.cmp (Wanted.free rfl) (V.bin rfl rfl rfl B.neq) rfl (fun h91 => ?_) (fun h91 => ?_)
  ·
   refine RL.nil ?_
   refine SG.cond_true rfl ?_
   refine SG.seq ?_
   refine SG.region ?_
   refine RL.val (Wanted.free rfl) (V.assign rfl rfl) rfl ?_
   refine RL.nil ?_
   try (have he : e1 = 0 := (by omega); subst he)
   first
   | (exfalso; omega)
   | (refine SG.retE (Ret.r1 Tryd.func18 rfl (.tmp rfl)) ?_ ⟨_, _, _, rdS_err hr (by omega), rfl, rfl, by simp⟩; (apply Rdr.ent; repeat (first | exact Ent.refl _ | (apply Ent.cons; (· repeat (first | exact Pick.here | (refine Pick.sl ?_; (· repeat (first | exact List.Mem.head _ | assumption | apply List.Mem.tail))) | apply Pick.there))) | (refine Ent.trans (Ent.drop _ _) ?_))))
   | (refine SG.retE (Ret.r1 Tryd.func18 rfl (.tmp rfl)) ?_ ⟨_, _, _, rdS_short hr (by omega), rfl, rfl, by simp⟩; (apply Rdr.ent; repeat (first | exact Ent.refl _ | (apply Ent.cons; (· repeat (first | exact Pick.here | (refine Pick.sl ?_; (· repeat (first | exact List.Mem.head _ | assumption | apply List.Mem.tail))) | apply Pick.there))) | (refine Ent.trans (Ent.drop _ _) ?_))))
   | (refine SG.retE (Ret.r1 Tryd.func18 rfl (.tmp rfl)) ?_ ⟨_, _, _, rdS_ok hr (by omega), rfl, rfl, by simp; omega⟩; (apply Rdr.ent; repeat (first | exact Ent.refl _ | (apply Ent.cons; (· repeat (first | exact Pick.here | (refine Pick.sl ?_; (· repeat (first | exact List.Mem.head _ | assumption | apply List.Mem.tail))) | apply Pick.there))) | (refine Ent.trans (Ent.drop _ _) ?_))))
  ·
   refine RL.nil ?_
   refine SG.cond_false rfl ?_
   refine SG.skip ?_
   refine SG.seq ?_
   refine SG.region ?_
   try (have he : e1 = 0 := (by omega); subst he)
   refine RL.val (Wanted.free rfl) (V.move rfl rfl) rfl ?_
   refine RL.val (Wanted.free rfl) (V.nilCheck rfl rfl) rfl ?_
   refine RL.val (Wanted.free rfl) (V.fieldAddr rfl rfl fo86_0) rfl ?_
   refine RL.val (Wanted.free rfl) (V.fieldAddr rfl rfl fo84_0) rfl ?_
   refine RL.val (Wanted.free rfl) (V.load rfl on34 rfl pickX rfl) rfl ?_
   refine RL.val (Wanted.free rfl) (V.move rfl rfl) rfl ?_
   refine RL.eff (Wanted.free rfl) (E.slice (lo := 0) (hi := k1) rfl el34.slice rfl memX rfl ⟨_, _, rfl, (by first | rfl | omega)⟩ (by omega) (by omega)) rfl ?_
   intro _ _ hK99
   try rw [List.drop_zero] at hK99
   iterate 2 (try rw [Nat.sub_zero] at hK99)
   obtain ⟨a99, rfl, rfl⟩ := hK99
   refine RL.val (Wanted.free rfl) (V.bytesToS rfl el34.under ui5 us9 rfl memX) rfl ?_
   refine RL.val (Wanted.free rfl) (V.assign rfl rfl) rfl ?_
   refine RL.nil ?_
   refine SG.seq ?_
   refine SG.region ?_
   refine RL.val (Wanted.free rfl) (V.move rfl rfl) rfl ?_
   refine RL.val (Wanted.free rfl) (V.move rfl rfl) rfl ?_
   refine RL.val (Wanted.free rfl) (V.nilCheck rfl rfl) rfl ?_
   refine RL.val (Wanted.free rfl) (V.fieldAddr rfl rfl fo86_0) rfl ?_
   refine RL.val (Wanted.free rfl) (V.fieldAddr rfl rfl fo84_0) rfl ?_
   refine RL.val (Wanted.free rfl) (V.load rfl on34 rfl pickX rfl) rfl ?_
   refine RL.val (Wanted.free rfl) (V.move rfl rfl) rfl ?_
   refine RL.eff (Wanted.free rfl) (E.slice (lo := k1) (hi := l1.length) rfl el34.slice rfl memX ⟨_, _, rfl, (by first | rfl | omega)⟩ rfl (by omega) (by omega)) rfl ?_
   intro _ _ hK109
   try rw [List.drop_zero] at hK109
   iterate 2 (try rw [Nat.sub_zero] at hK109)
   rw [show (l1.drop (k1)).take (l1.length - (k1)) = l1.drop (k1) from List.take_of_length_le (by simp)] at hK109
   obtain ⟨a109, rfl, rfl⟩ := hK109
   refine RL.val (Wanted.free rfl) (V.nilCheck rfl rfl) rfl ?_
   refine RL.val (Wanted.free rfl) (V.fieldAddr rfl rfl fo86_0) rfl ?_
   refine RL.val (Wanted.free rfl) (V.fieldAddr rfl rfl fo84_0) rfl ?_
   refine RL.eff (Wanted.free rfl) (E.store1 rfl rfl rfl rfl rfl sz34 pickX rfl) rfl ?_
   rintro _ _ rfl
   refine RL.nil ?_
   refine SG.seq ?_
   refine SG.region ?_
   refine RL.val (Wanted.free rfl) (V.move rfl rfl) rfl ?_
   refine RL.val (Wanted.free rfl) (V.assign rfl rfl) rfl ?_
   refine RL.nil ?_
   try (have he : e1 = 0 := (by omega); subst he)
   first
   | (exfalso; omega)
   | (refine SG.retE (Ret.r1 Tryd.func18 rfl (.tmp rfl)) ?_ ⟨_, _, _, rdS_err hr (by omega), rfl, rfl, by simp⟩; (apply Rdr.ent; repeat (first | exact Ent.refl _ | (apply Ent.cons; (· repeat (first | exact Pick.here | (refine Pick.sl ?_; (· repeat (first | exact List.Mem.head _ | assumption | apply List.Mem.tail))) | apply Pick.there))) | (refine Ent.trans (Ent.drop _ _) ?_))))
   | (refine SG.retE (Ret.r1 Tryd.func18 rfl (.tmp rfl)) ?_ ⟨_, _, _, rdS_short hr (by omega), rfl, rfl, by simp⟩; (apply Rdr.ent; repeat (first | exact Ent.refl _ | (apply Ent.cons; (· repeat (first | exact Pick.here | (refine Pick.sl ?_; (· repeat (first | exact List.Mem.head _ | assumption | apply List.Mem.tail))) | apply Pick.there))) | (refine Ent.trans (Ent.drop _ _) ?_))))
   | (refine SG.retE (Ret.r1 Tryd.func18 rfl (.tmp rfl)) ?_ ⟨_, _, _, rdS_ok hr (by omega), rfl, rfl, by simp; omega⟩; (apply Rdr.ent; repeat (first | exact Ent.refl _ | (apply Ent.cons; (· repeat (first | exact Pick.here | (refine Pick.sl ?_; (· repeat (first | exact List.Mem.head _ | assumption | apply List.Mem.tail))) | apply Pick.there))) | (refine Ent.trans (Ent.drop _ _) ?_))))

set_option maxRecDepth 100000 in
theorem rEnd_ok {κ : World} {L : List Assn} {L1 : List Assn} {b : Nat} {l : List UInt8} {e : Int} (hp : Pick (Rdr b l e) L L1) :
    Ctr Tryd.prog 20 #[ptr b 0] κ L (fun v M => v = vI (if e = 0 ∧ 0 < l.length then 7 else e) ∧ M = Rdr b l e :: L1) := by
 refine Ctr.enter (vs := [ptr b 0]) (m := 23) Tryd.func20 rfl rfl rfl ?_
 refine SG.openRdr hp fun a m c hl hmc hc => ?_
 subst hl
 refine SG.seq ?_
 refine SG.region ?_
 refine RL.val (Wanted.free rfl) (V.assign rfl rfl) rfl ?_
 refine RL.nil ?_
 refine SG.seq ?_
 refine SG.seq ?_
 refine SG.region ?_
 refine RL.val (Wanted.free rfl) (V.move rfl rfl) rfl ?_
 refine RL.val (Wanted.free rfl) (V.nilCheck rfl rfl) rfl ?_
 refine RL.val (Wanted.free rfl) (V.fieldAddr rfl rfl fo86_0) rfl ?_
 refine RL.val (Wanted.free rfl) (V.fieldAddr rfl rfl fo84_1) rfl ?_
 refine RL.val (Wanted.free rfl) (V.load rfl on38 rfl pickX rfl) rfl ?_
 refine RL.cmp (Wanted.free rfl) (V.bin rfl rfl rfl B.eql) rfl (fun h7 => ?_) (fun h7 => ?_)
 ·
  refine RL.val (Wanted.free rfl) (V.move rfl rfl) rfl ?_
  refine RL.val (Wanted.yes rfl rfl rfl rfl) (V.move rfl rfl) rfl ?_
  refine RL.val (Wanted.yes rfl rfl rfl rfl) (V.nilCheck rfl rfl) rfl ?_
  refine RL.val (Wanted.yes rfl rfl rfl rfl) (V.fieldAddr rfl rfl fo86_0) rfl ?_
  refine RL.val (Wanted.yes rfl rfl rfl rfl) (V.fieldAddr rfl rfl fo84_0) rfl ?_
  refine RL.val (Wanted.yes rfl rfl rfl rfl) (V.load rfl on34 rfl pickX rfl) rfl ?_
  refine RL.val (Wanted.yes rfl rfl rfl rfl) (V.len rfl rfl el34.under rfl) rfl ?_
  refine RL.cmp (Wanted.yes rfl rfl rfl rfl) (V.bin rfl rfl rfl B.gtr) rfl (fun h15 => ?_) (fun h15 => ?_)
  ·
   refine RL.val (Wanted.free rfl) (V.pick_true rfl rfl rfl) rfl ?_
   refine RL.nil ?_
   refine SG.cond_true rfl ?_
   refine SG.seq ?_
   refine SG.region ?_
   refine RL.val (Wanted.free rfl) (V.assign rfl rfl) rfl ?_
   refine RL.nil ?_
   first
   | (exfalso; omega)
   | (refine SG.retE (Ret.r1 Tryd.func20 rfl (.tmp rfl)) ?_ ⟨by rw [if_pos (by omega)], rfl⟩; (apply Rdr.ent; repeat (first | exact Ent.refl _ | (apply Ent.cons; (· repeat (first | exact Pick.here | (refine Pick.sl ?_; (· repeat (first | exact List.Mem.head _ | assumption | apply List.Mem.tail))) | apply Pick.there))) | (refine Ent.trans (Ent.drop _ _) ?_))))
   | (refine SG.retE (Ret.r1 Tryd.func20 rfl (.tmp rfl)) ?_ ⟨by rw [if_neg (by omega)], rfl⟩; (apply Rdr.ent; repeat (first | exact Ent.refl _ | (apply Ent.cons; (· repeat (first | exact Pick.here | (refine Pick.sl ?_; (· repeat (first | exact List.Mem.head _ | assumption | apply List.Mem.tail))) | apply Pick.there))) | (refine Ent.trans (Ent.drop _ _) ?_))))
  ·
   refine RL.val (Wanted.free rfl) (V.pick_true rfl rfl rfl) rfl ?_
   refine RL.nil ?_
   refine SG.cond_false rfl ?_
   refine SG.skip ?_
   refine SG.seq ?_
   refine SG.region ?_
   refine RL.val (Wanted.free rfl) (V.move rfl rfl) rfl ?_
   refine RL.val (Wanted.free rfl) (V.nilCheck rfl rfl) rfl ?_
   refine RL.val (Wanted.free rfl) (V.fieldAddr rfl rfl fo86_0) rfl ?_
   refine RL.val (Wanted.free rfl) (V.fieldAddr rfl rfl fo84_1) rfl ?_
   refine RL.val (Wanted.free rfl) (V.load rfl on38 rfl pickX rfl) rfl ?_
   refine RL.val (Wanted.free rfl) (V.assign rfl rfl) rfl ?_
   refine RL.nil ?_
   first
   | (exfalso; omega)
   | (refine SG.retE (Ret.r1 Tryd.func20 rfl (.tmp rfl)) ?_ ⟨by rw [if_pos (by omega)], rfl⟩; (apply Rdr.ent; repeat (first | exact Ent.refl _ | (apply Ent.cons; (· repeat (first | exact Pick.here | (refine Pick.sl ?_; (· repeat (first | exact List.Mem.head _ | assumption | apply List.Mem.tail))) | apply Pick.there))) | (refine Ent.trans (Ent.drop _ _) ?_))))
   | (refine SG.retE (Ret.r1 Tryd.func20 rfl (.tmp rfl)) ?_ ⟨by rw [if_neg (by omega)], rfl⟩; (apply Rdr.ent; repeat (first | exact Ent.refl _ | (apply Ent.cons; (· repeat (first | exact Pick.here | (refine Pick.sl ?_; (· repeat (first | exact List.Mem.head _ | assumption | apply List.Mem.tail))) | apply Pick.there))) | (refine Ent.trans (Ent.drop _ _) ?_))))
 ·
  refine RL.val (Wanted.free rfl) (V.move rfl rfl) rfl ?_
  refine RL.skip (Wanted.no rfl rfl rfl rfl rfl) rfl ?_
  refine RL.skip (Wanted.no rfl rfl rfl rfl rfl) rfl ?_
  refine RL.skip (Wanted.no rfl rfl rfl rfl rfl) rfl ?_
  refine RL.skip (Wanted.no rfl rfl rfl rfl rfl) rfl ?_
  refine RL.skip (Wanted.no rfl rfl rfl rfl rfl) rfl ?_
  refine RL.skip (Wanted.no rfl rfl rfl rfl rfl) rfl ?_
  refine RL.skip (Wanted.no rfl rfl rfl rfl rfl) rfl ?_
  refine RL.val (Wanted.free rfl) (V.pick_false rfl rfl rfl) rfl ?_
  refine RL.nil ?_
  refine SG.cond_false rfl ?_
  refine SG.skip ?_
  refine SG.seq ?_
  refine SG.region ?_
  refine RL.val (Wanted.free rfl) (V.move rfl rfl) rfl ?_
  refine RL.val (Wanted.free rfl) (V.nilCheck rfl rfl) rfl ?_
  refine RL.val (Wanted.free rfl) (V.fieldAddr rfl rfl fo86_0) rfl ?_
  refine RL.val (Wanted.free rfl) (V.fieldAddr rfl rfl fo84_1) rfl ?_
  refine RL.val (Wanted.free rfl) (V.load rfl on38 rfl pickX rfl) rfl ?_
  refine RL.val (Wanted.free rfl) (V.assign rfl rfl) rfl ?_
  refine RL.nil ?_
  first
  | (exfalso; omega)
  | (refine SG.retE (Ret.r1 Tryd.func20 rfl (.tmp rfl)) ?_ ⟨by rw [if_pos (by omega)], rfl⟩; (apply Rdr.ent; repeat (first | exact Ent.refl _ | (apply Ent.cons; (· repeat (first | exact Pick.here | (refine Pick.sl ?_; (· repeat (first | exact List.Mem.head _ | assumption | apply List.Mem.tail))) | apply Pick.there))) | (refine Ent.trans (Ent.drop _ _) ?_))))
  | (refine SG.retE (Ret.r1 Tryd.func20 rfl (.tmp rfl)) ?_ ⟨by rw [if_neg (by omega)], rfl⟩; (apply Rdr.ent; repeat (first | exact Ent.refl _ | (apply Ent.cons; (· repeat (first | exact Pick.here | (refine Pick.sl ?_; (· repeat (first | exact List.Mem.head _ | assumption | apply List.Mem.tail))) | apply Pick.there))) | (refine Ent.trans (Ent.drop _ _) ?_))))

end Go.Proofs.YtnbjonijlkjclaaDoor
