/- The reference's leaves and digits. -/
import Derived.Test.YtbljfilkdhgcnaaDoorParse
import Derived.Test.YtbljfilkdhgcnaaDoorNode
import Derived.Test.YtbljfilkdhgcnaaDoorRsum
namespace Go.Proofs.YtbljfilkdhgcnaaDoor
open Go.Wk Go.Sha

set_option maxRecDepth 100000 in
theorem rleaf_ok {κ : World} {L : List Assn} {a : Option Addr} {n c : Nat} {l : List UInt8} (hm : Sl R8 a n c l ∈ L) (hb : l.length ≤ 140737488355000) :
    Ctr Tryd.prog 26 #[.slice a n c] κ L (fun v M => v = .agg ((leaf l).map v8).toArray ∧ M = L) := by
  refine Ctr.enter (vs := [.slice a n c]) (m := 7) Tryd.func26 rfl rfl rfl ?_
  refine SG.sl hm fun hn hc hc63 => ?_
  subst hn
  refine SG.seq ?_
  refine SG.region ?_
  refine RL.eff (Wanted.free rfl) (E.alloc rfl ze24) rfl ?_
  rintro _ _ ⟨b2, rfl, rfl⟩
  refine RL.nil ?_
  refine SG.seq ?_
  refine SG.region ?_
  refine RL.eff (Wanted.free rfl) (E.lit1 [.int .u8 0] rfl el22.slice ze5 rfl (by decide) (by decide) rfl rfl rfl) rfl ?_
  rintro _ _ ⟨b3, rfl, rfl⟩
  refine RL.ent (Buf.lit1' (T := R8) (b := b3) (e := 5) (y := 0) Pick.here rfl (fun _ => ⟨rfl, trivial⟩)) ?_
  refine RL.val (Wanted.free rfl) (V.move rfl rfl) rfl ?_
  refine RL.eff (Wanted.free rfl) (E.append (T := R8) rfl rfl rfl el22 el22.noInt rfl rfl (by repeat (first | exact Pick.here | assumption | apply Pick.there)) (Src.sl (by decide) (by repeat (first | exact List.Mem.head _ | assumption | apply List.Mem.tail))) (by first | omega | (simp; omega)) (by first | omega | (simp; omega))) rfl ?_
  intro _ _ hK4
  try rw [List.nil_append] at hK4
  try rw [Nat.zero_add] at hK4
  obtain ⟨a5, c5, rfl, rfl⟩ := hK4
  refine RL.publish (T := R8) (a := a5) Pick.here ?_
  refine RL.eff (Wanted.free rfl) (E.call rfl go13 rfl (rsum_ok (l := 0 :: l) (by repeat (first | exact List.Mem.head _ | assumption | apply List.Mem.tail)) (by simp; omega))) rfl ?_
  rintro _ _ ⟨rfl, rfl⟩
  refine RL.eff (Wanted.free rfl) (E.storeWhole rfl rfl rfl (by rw [List.length_map]; exact sum_length _) sz24 (by repeat (first | exact Pick.here | assumption | apply Pick.there)) (one8 _) (by rw [List.length_replicate])) rfl ?_
  rintro _ _ rfl
  refine RL.nil ?_
  refine SG.retE (Ret.r1 Tryd.func26 rfl (.agg rfl ag24 (by repeat (first | exact Pick.here | assumption | apply Pick.there)) (take8 (sum_length _)) (by rw [List.length_map]; exact sum_length _))) ?_ ⟨rfl, rfl⟩
  repeat (first | exact Ent.refl _ | (apply Ent.cons; (· repeat (first | exact Pick.here | (refine Pick.sl ?_; (· repeat (first | exact List.Mem.head _ | assumption | apply List.Mem.tail))) | apply Pick.there))) | (refine Ent.trans (Ent.drop _ _) ?_))

set_option maxRecDepth 100000 in
theorem rnode_ok {κ : World} {L : List Assn} {x y : List UInt8} (hx : x.length = 32) (hy : y.length = 32) :
    Ctr Tryd.prog 28 #[.agg (x.map v8).toArray, .agg (y.map v8).toArray] κ L (fun v M => v = .agg ((node x y).map v8).toArray ∧ M = L) := by
  refine Ctr.enter (vs := [.agg (x.map v8).toArray, .agg (y.map v8).toArray]) (m := 14) Tryd.func28 rfl rfl rfl ?_
  refine SG.seq ?_
  refine SG.region ?_
  refine RL.eff (Wanted.free rfl) (E.box _ rfl rfl rfl) rfl ?_
  rintro _ _ ⟨b2, rfl, rfl⟩
  refine RL.eff (Wanted.free rfl) (E.box _ rfl rfl rfl) rfl ?_
  rintro _ _ ⟨b3, rfl, rfl⟩
  refine RL.eff (Wanted.free rfl) (E.alloc rfl ze24) rfl ?_
  rintro _ _ ⟨b4, rfl, rfl⟩
  refine RL.nil ?_
  refine SG.seq ?_
  refine SG.region ?_
  refine RL.eff (Wanted.free rfl) (E.lit1 [.int .u8 1] rfl el22.slice ze5 rfl (by decide) (by decide) rfl rfl rfl) rfl ?_
  rintro _ _ ⟨b6, rfl, rfl⟩
  refine RL.ent (Buf.lit1' (T := R8) (b := b6) (e := 5) (y := 1) Pick.here rfl (fun _ => ⟨rfl, trivial⟩)) ?_
  refine RL.val (Wanted.free rfl) (V.assign rfl rfl) rfl ?_
  refine RL.nil ?_
  refine SG.seq ?_
  refine SG.region ?_
  refine RL.val (Wanted.free rfl) (V.move rfl rfl) rfl ?_
  refine RL.val (Wanted.free rfl) (V.sliceArr rfl ar24 rfl rfl rfl rfl (by omega) (by omega)) rfl ?_
  refine RL.eff (Wanted.free rfl) (E.append (T := R8) rfl rfl rfl el22 el22.noInt rfl rfl (by repeat (first | exact Pick.here | assumption | apply Pick.there)) (Src.blk8 hx (by repeat (first | exact Pick.here | assumption | apply Pick.there))) (by first | omega | (simp; omega)) (by first | omega | (simp; omega))) rfl ?_
  intro _ _ hK8
  try rw [List.nil_append] at hK8
  try rw [Nat.zero_add] at hK8
  rw [hx] at hK8
  obtain ⟨a9, c9, rfl, rfl⟩ := hK8
  refine RL.val (Wanted.free rfl) (V.assign rfl rfl) rfl ?_
  refine RL.nil ?_
  refine SG.seq ?_
  refine SG.region ?_
  refine RL.val (Wanted.free rfl) (V.move rfl rfl) rfl ?_
  refine RL.val (Wanted.free rfl) (V.sliceArr rfl ar24 rfl rfl rfl rfl (by omega) (by omega)) rfl ?_
  refine RL.eff (Wanted.free rfl) (E.append (T := R8) rfl rfl rfl el22 el22.noInt rfl rfl (by repeat (first | exact Pick.here | assumption | apply Pick.there)) (Src.blk8 hy (by repeat (first | exact Pick.here | assumption | apply Pick.there))) (by first | omega | (simp; omega)) (by first | omega | (simp; omega))) rfl ?_
  intro _ _ hK12
  try rw [List.nil_append] at hK12
  try rw [Nat.zero_add] at hK12
  rw [hy] at hK12
  obtain ⟨a12, c12, rfl, rfl⟩ := hK12
  refine RL.publish (T := R8) (a := a12) Pick.here ?_
  refine RL.eff (Wanted.free rfl) (E.call rfl go13 rfl (rsum_ok (l := 1 :: x ++ y) (by repeat (first | exact List.Mem.head _ | assumption | apply List.Mem.tail)) (by simp [hx, hy]))) rfl ?_
  rintro _ _ ⟨rfl, rfl⟩
  refine RL.eff (Wanted.free rfl) (E.storeWhole rfl rfl rfl (by rw [List.length_map]; exact sum_length _) sz24 (by repeat (first | exact Pick.here | assumption | apply Pick.there)) (one8 _) (by rw [List.length_replicate])) rfl ?_
  rintro _ _ rfl
  refine RL.nil ?_
  refine SG.retE (Ret.r1 Tryd.func28 rfl (.agg rfl ag24 (by repeat (first | exact Pick.here | assumption | apply Pick.there)) (take8 (sum_length _)) (by rw [List.length_map]; exact sum_length _))) ?_ ⟨rfl, rfl⟩
  repeat (first | exact Ent.refl _ | (apply Ent.cons; (· repeat (first | exact Pick.here | (refine Pick.sl ?_; (· repeat (first | exact List.Mem.head _ | assumption | apply List.Mem.tail))) | apply Pick.there))) | (refine Ent.trans (Ent.drop _ _) ?_))

theorem dig_cut {n : Nat} {x : UInt8} (h : x.toNat = n) (hn : n < 16) : (digs.drop n).take (n + 1 - n) = [hexd x] := by
  have h1 := dig_get x (by omega)
  rw [h] at h1
  rw [show n + 1 - n = 1 from by omega, List.take_one, List.head?_drop, h1]; rfl
theorem hex_step' {l : List UInt8} {i : Nat} (h : i < l.length) : hex (l.take i) ++ (digs.drop ((l.getD i 0).toNat / 16)).take ((l.getD i 0).toNat / 16 + 1 - (l.getD i 0).toNat / 16) ++ (digs.drop ((l.getD i 0).toNat % 16)).take ((l.getD i 0).toNat % 16 + 1 - (l.getD i 0).toNat % 16) = hex (l.take (i + 1)) := by
  have e : l.getD i 0 = l[i] := by rw [List.getD_eq_getElem?_getD, List.getElem?_eq_getElem h]; rfl
  have := (l[i]).toNat_lt
  rw [e, dig_cut (x := l[i] / 16) (by rw [UInt8.toNat_div]; rfl) (by omega), dig_cut (x := l[i] % 16) (by rw [UInt8.toNat_mod]; rfl) (by omega), hex_step h]
  simp
theorem hex_take_length (l : List UInt8) (i : Nat) (h : l.length = 32) : (hex (l.take i)).length ≤ 64 := by rw [hex_length, List.length_take]; omega
/-- The value of a digit, or -1. -/
def valV (c : UInt8) : Int := if (digitV c).toNat ≤ 15 then ((digitV c).toNat : Int) else -1
theorem val_cases (c : UInt8) : ((digitV c).toNat ≤ 15 ∧ valV c = ((digitV c).toNat : Int)) ∨ (15 < (digitV c).toNat ∧ valV c = -1) := by
  unfold valV
  by_cases h : (digitV c).toNat ≤ 15
  · exact .inl ⟨h, if_pos h⟩
  · exact .inr ⟨by omega, if_neg h⟩
theorem val_lo {c : UInt8} (h1 : 48 ≤ (c.toNat : Int)) (h2 : (c.toNat : Int) ≤ 57) : ((c - 48 : UInt8).toNat : Int) = valV c := by
  have key : ∀ n, n < 256 → 48 ≤ n → n ≤ 57 → ((UInt8.ofNat n - 48 : UInt8).toNat : Int) = valV (UInt8.ofNat n) := by decide +kernel
  have := key c.toNat c.toNat_lt (by omega) (by omega)
  simpa using this
theorem val_hi {c : UInt8} (h1 : 97 ≤ (c.toNat : Int)) (h2 : (c.toNat : Int) ≤ 102) : ((c - 97 : UInt8).toNat : Int) + 10 = valV c := by
  have key : ∀ n, n < 256 → 97 ≤ n → n ≤ 102 → ((UInt8.ofNat n - 97 : UInt8).toNat : Int) + 10 = valV (UInt8.ofNat n) := by decide +kernel
  have := key c.toNat c.toNat_lt (by omega) (by omega)
  simpa using this
theorem val_no {c : UInt8} (h : (c.toNat : Int) < 48 ∨ (57 < (c.toNat : Int) ∧ (c.toNat : Int) < 97) ∨ 102 < (c.toNat : Int)) : valV c = -1 := by
  have key : ∀ n, n < 256 → (n < 48 ∨ (57 < n ∧ n < 97) ∨ 102 < n) → valV (UInt8.ofNat n) = -1 := by decide +kernel
  have := key c.toNat c.toNat_lt (by omega)
  simpa using this
theorem val_byte {a b : UInt8} (ha : (digitV a).toNat ≤ 15) (hb : (digitV b).toNat ≤ 15) : UInt8.ofNat ((16 * ((digitV a).toNat : Int) + ((digitV b).toNat : Int)) % 256).toNat = 16 * digitV a + digitV b := by
  apply UInt8.toNat_inj.1
  rw [UInt8.toNat_ofNat', UInt8.toNat_add, UInt8.toNat_mul]
  rw [show (16 : UInt8).toNat = 16 from rfl]
  omega

set_option maxRecDepth 100000 in
theorem rhex_ok {κ : World} {L : List Assn} {l : List UInt8} (hl : l.length = 32) :
    Ctr Tryd.prog 31 #[.agg (l.map v8).toArray] κ L (fun v M => v = vS (hex l) ∧ M = L) := by
  refine Ctr.enter (vs := [.agg (l.map v8).toArray]) (m := 36) Tryd.func31 rfl rfl rfl ?_
  refine SG.seq ?_
  refine SG.region ?_
  refine RL.eff (Wanted.free rfl) (E.box _ rfl rfl rfl) rfl ?_
  rintro _ _ ⟨b1, rfl, rfl⟩
  refine RL.val (Wanted.free rfl) (V.assign rfl rfl) rfl ?_
  refine RL.nil ?_
  refine SG.seq ?_
  refine SG.region ?_
  refine RL.val (Wanted.free rfl) (V.assign rfl rfl) rfl ?_
  refine RL.nil ?_
  refine SG.seq ?_
  refine SG.region ?_
  refine RL.val (Wanted.free rfl) (V.assign rfl rfl) rfl ?_
  refine RL.nil ?_
  refine SG.seq ?_
  refine SG.seq ?_
  refine SG.region ?_
  refine RL.val (Wanted.free rfl) (V.assign rfl rfl) rfl ?_
  refine RL.nil ?_
  refine SG.block ?_
  refine SG.weaken (SG.loop2 (fun m al M => ∃ i : Nat, i ≤ 32 ∧ m = 32 - i ∧ al = [(1, ptr b1 0), (3, vS digs), (4, vS (hex (l.take i))), (5, vI i)] ∧ M = Blk b1 24 (l.map v8) :: L) (m0 := _) ⟨0, by omega, rfl, rfl, rfl⟩ ?_) ?_ ?_
  rotate_left
  · repeat (first | exact EnvLe.nil _ | refine EnvLe.cons rfl ?_)
  · repeat (first | exact Ent.refl _ | (apply Ent.cons; (· repeat (first | exact Pick.here | (refine Pick.sl ?_; (· repeat (first | exact List.Mem.head _ | assumption | apply List.Mem.tail))) | apply Pick.there))) | (refine Ent.trans (Ent.drop _ _) ?_))
  rintro _ _ _ ⟨i, hi, rfl, rfl, rfl⟩ ih0
  refine SG.seq ?_
  refine SG.seq ?_
  refine SG.region ?_
  refine RL.val (Wanted.free rfl) (V.move rfl rfl) rfl ?_
  refine RL.cmp (Wanted.free rfl) (V.bin rfl rfl rfl B.lss) rfl (fun h7 => ?_) (fun h7 => ?_)
  · skip
    refine RL.nil ?_
    refine SG.cond_true rfl ?_
    refine SG.skip ?_
    refine SG.seq ?_
    refine SG.block ?_
    refine SG.seq ?_
    have hb6 := (l.getD i 0).toNat_lt
    refine SG.region ?_
    refine RL.val (Wanted.free rfl) (V.move rfl rfl) rfl ?_
    refine RL.val (Wanted.free rfl) (V.indexW (j := i) rfl ar24 rfl rfl (by first | rfl | omega) (by omega)) rfl ?_
    refine RL.val (Wanted.free rfl) (V.loadB rfl on5 rfl (by repeat (first | exact Pick.here | assumption | apply Pick.there)) (getD_some 0 (by omega))) rfl ?_
    refine RL.val (Wanted.free rfl) (V.toI rfl ⟨_, ui5⟩ ui3 rfl (by omega) (by omega)) rfl ?_
    refine RL.val (Wanted.free rfl) (V.bin rfl rfl rfl (B.quoI (by omega) (by omega) (by omega))) rfl ?_
    refine RL.val (Wanted.free rfl) (V.assign rfl rfl) rfl ?_
    refine RL.nil ?_
    refine SG.seq ?_
    have hb7 := (l.getD i 0).toNat_lt
    refine SG.region ?_
    refine RL.val (Wanted.free rfl) (V.move rfl rfl) rfl ?_
    refine RL.val (Wanted.free rfl) (V.indexW (j := i) rfl ar24 rfl rfl (by first | rfl | omega) (by omega)) rfl ?_
    refine RL.val (Wanted.free rfl) (V.loadB rfl on5 rfl (by repeat (first | exact Pick.here | assumption | apply Pick.there)) (getD_some 0 (by omega))) rfl ?_
    refine RL.val (Wanted.free rfl) (V.toI rfl ⟨_, ui5⟩ ui3 rfl (by omega) (by omega)) rfl ?_
    refine RL.val (Wanted.free rfl) (V.bin rfl rfl rfl (B.remI (by omega) (by omega))) rfl ?_
    refine RL.val (Wanted.free rfl) (V.assign rfl rfl) rfl ?_
    refine RL.nil ?_
    have hb8 := (l.getD i 0).toNat_lt
    have hh := hex_take_length l i hl
    refine SG.drawL 14 14 wide rfl rfl ?_
    refine RH.val 0 rfl (by kernel_rfl) (by kernel_rfl) (by kernel_rfl) (by kernel_rfl) (Wanted.free rfl) (V.move rfl rfl) rfl ?_
    refine RH.val 1 rfl (by kernel_rfl) (by kernel_rfl) (by kernel_rfl) (by kernel_rfl) (Wanted.free rfl) (V.move rfl rfl) rfl ?_
    refine RH.val 2 rfl (by kernel_rfl) (by kernel_rfl) (by kernel_rfl) (by kernel_rfl) (Wanted.free rfl) (V.move rfl rfl) rfl ?_
    refine RH.val 3 rfl (by kernel_rfl) (by kernel_rfl) (by kernel_rfl) (by kernel_rfl) (Wanted.free rfl) (V.move rfl rfl) rfl ?_
    refine RH.val 4 rfl (by kernel_rfl) (by kernel_rfl) (by kernel_rfl) (by kernel_rfl) (Wanted.free rfl) (V.bin rfl rfl rfl (B.addI (by omega) (by omega))) rfl ?_
    refine RH.val 5 rfl (by kernel_rfl) (by kernel_rfl) (by kernel_rfl) (by kernel_rfl) (Wanted.free rfl) (V.sliceS (lo := (l.getD i 0).toNat / 16) (hi := (l.getD i 0).toNat / 16 + 1) (s := digs) rfl us9 rfl ⟨_, _, rfl, by omega⟩ ⟨_, _, rfl, by omega⟩ (by omega) (by show _ ≤ 16; omega)) rfl ?_
    refine RH.val 6 rfl (by kernel_rfl) (by kernel_rfl) (by kernel_rfl) (by kernel_rfl) (Wanted.free rfl) (V.bin rfl rfl rfl (B.addS (by simp only [List.length_take, List.length_drop]; omega))) rfl ?_
    refine RH.val 7 rfl (by kernel_rfl) (by kernel_rfl) (by kernel_rfl) (by kernel_rfl) (Wanted.free rfl) (V.move rfl rfl) rfl ?_
    refine RH.val 8 rfl (by kernel_rfl) (by kernel_rfl) (by kernel_rfl) (by kernel_rfl) (Wanted.free rfl) (V.move rfl rfl) rfl ?_
    refine RH.val 9 rfl (by kernel_rfl) (by kernel_rfl) (by kernel_rfl) (by kernel_rfl) (Wanted.free rfl) (V.move rfl rfl) rfl ?_
    refine RH.val 10 rfl (by kernel_rfl) (by kernel_rfl) (by kernel_rfl) (by kernel_rfl) (Wanted.free rfl) (V.bin rfl rfl rfl (B.addI (by omega) (by omega))) rfl ?_
    refine RH.val 11 rfl (by kernel_rfl) (by kernel_rfl) (by kernel_rfl) (by kernel_rfl) (Wanted.free rfl) (V.sliceS (lo := (l.getD i 0).toNat % 16) (hi := (l.getD i 0).toNat % 16 + 1) (s := digs) rfl us9 rfl ⟨_, _, rfl, by omega⟩ ⟨_, _, rfl, by omega⟩ (by omega) (by show _ ≤ 16; omega)) rfl ?_
    refine RH.val 12 rfl (by kernel_rfl) (by kernel_rfl) (by kernel_rfl) (by kernel_rfl) (Wanted.free rfl) (V.bin rfl rfl rfl (B.addS (by simp only [List.length_append, List.length_take, List.length_drop]; omega))) rfl ?_
    refine RH.val 13 rfl (by kernel_rfl) (by kernel_rfl) (by kernel_rfl) (by kernel_rfl) (Wanted.free rfl) (V.assign rfl rfl) rfl ?_
    refine RH.done (by kernel_rfl) ?_
    refine SG.inBlock ?_
    refine SG.let_ (d := 4) (u' := vS (hex (l.take (i + 1)))) rfl (by rw [hex_step' (by omega)]) ?_
    refine SG.region ?_
    refine RL.val (Wanted.free rfl) (V.move rfl rfl) rfl ?_
    refine RL.val (Wanted.free rfl) (V.bin rfl rfl rfl (B.addI (by omega) (by omega))) rfl ?_
    refine RL.val (Wanted.free rfl) (V.assign rfl rfl) rfl ?_
    refine RL.nil ?_
    refine SG.weaken (ih0 _ _ _ ?_ ⟨i + 1, by omega, rfl, rfl, rfl⟩) ?_ ?_
    · omega
    · repeat (first | exact EnvLe.nil _ | refine EnvLe.cons rfl ?_)
    · repeat (first | exact Ent.refl _ | (apply Ent.cons; (· repeat (first | exact Pick.here | (refine Pick.sl ?_; (· repeat (first | exact List.Mem.head _ | assumption | apply List.Mem.tail))) | apply Pick.there))) | (refine Ent.trans (Ent.drop _ _) ?_))
  · skip
    refine RL.nil ?_
    refine SG.cond_false rfl ?_
    refine SG.exit rfl ?_
    refine SG.seq ?_
    obtain rfl : i = 32 := by omega
    rw [List.take_of_length_le (by omega)]
    refine SG.region ?_
    refine RL.val (Wanted.free rfl) (V.move rfl rfl) rfl ?_
    refine RL.val (Wanted.free rfl) (V.assign rfl rfl) rfl ?_
    refine RL.nil ?_
    refine SG.retE (Ret.r1 Tryd.func31 rfl (.tmp rfl)) ?_ ⟨rfl, rfl⟩
    repeat (first | exact Ent.refl _ | (apply Ent.cons; (· repeat (first | exact Pick.here | (refine Pick.sl ?_; (· repeat (first | exact List.Mem.head _ | assumption | apply List.Mem.tail))) | apply Pick.there))) | (refine Ent.trans (Ent.drop _ _) ?_))

set_option maxRecDepth 100000 in
theorem value_ok {κ : World} {L : List Assn} {c : UInt8} :
    Ctr Tryd.prog 38 #[v8 c] κ L (fun v M => v = vI (valV c) ∧ M = L) := by
  refine Ctr.enter (vs := [v8 c]) (m := 22) Tryd.func38 rfl rfl rfl ?_
  refine SG.seq ?_
  refine SG.region ?_
  refine RL.val (Wanted.free rfl) (V.assign rfl rfl) rfl ?_
  refine RL.nil ?_
  refine SG.seq ?_
  refine SG.seq ?_
  refine SG.region ?_
  refine RL.val (Wanted.free rfl) (V.move rfl rfl) rfl ?_
  refine RL.cmp (Wanted.free rfl) (V.bin rfl rfl rfl B.geq) rfl (fun h3 => ?_) (fun h3 => ?_)
  · skip
    refine RL.val (Wanted.free rfl) (V.move rfl rfl) rfl ?_
    refine RL.val (Wanted.yes rfl rfl rfl rfl) (V.move rfl rfl) rfl ?_
    refine RL.cmp (Wanted.yes rfl rfl rfl rfl) (V.bin rfl rfl rfl B.leq) rfl (fun h6 => ?_) (fun h6 => ?_)
    · skip
      refine RL.val (Wanted.free rfl) (V.pick_true rfl rfl rfl) rfl ?_
      refine RL.nil ?_
      refine SG.cond_true rfl ?_
      refine SG.seq ?_
      have h8 := (c - 48).toNat_lt
      refine SG.region ?_
      refine RL.val (Wanted.free rfl) (V.move rfl rfl) rfl ?_
      refine RL.val (Wanted.free rfl) (V.bin rfl rfl rfl (B.sub8 (y := 48))) rfl ?_
      refine RL.val (Wanted.free rfl) (V.toI rfl ⟨_, ui5⟩ ui3 rfl (by omega) (by omega)) rfl ?_
      refine RL.val (Wanted.free rfl) (V.assign rfl rfl) rfl ?_
      refine RL.nil ?_
      refine SG.retE (Ret.r1 Tryd.func38 rfl (.tmp rfl)) ?_ ⟨by first | exact congrArg vI (val_lo (by omega) (by omega)) | exact congrArg vI (val_hi (by omega) (by omega)) | exact congrArg vI (val_no (by omega)).symm, rfl⟩
      repeat (first | exact Ent.refl _ | (apply Ent.cons; (· repeat (first | exact Pick.here | (refine Pick.sl ?_; (· repeat (first | exact List.Mem.head _ | assumption | apply List.Mem.tail))) | apply Pick.there))) | (refine Ent.trans (Ent.drop _ _) ?_))
    · skip
      refine RL.val (Wanted.free rfl) (V.pick_true rfl rfl rfl) rfl ?_
      refine RL.nil ?_
      refine SG.cond_false rfl ?_
      refine SG.skip ?_
      refine SG.seq ?_
      refine SG.seq ?_
      refine SG.region ?_
      refine RL.val (Wanted.free rfl) (V.move rfl rfl) rfl ?_
      refine RL.cmp (Wanted.free rfl) (V.bin rfl rfl rfl B.geq) rfl (fun h12 => ?_) (fun h12 => ?_)
      · skip
        refine RL.val (Wanted.free rfl) (V.move rfl rfl) rfl ?_
        refine RL.val (Wanted.yes rfl rfl rfl rfl) (V.move rfl rfl) rfl ?_
        refine RL.cmp (Wanted.yes rfl rfl rfl rfl) (V.bin rfl rfl rfl B.leq) rfl (fun h15 => ?_) (fun h15 => ?_)
        · skip
          refine RL.val (Wanted.free rfl) (V.pick_true rfl rfl rfl) rfl ?_
          refine RL.nil ?_
          refine SG.cond_true rfl ?_
          refine SG.seq ?_
          have h8 := (c - 97).toNat_lt
          refine SG.region ?_
          refine RL.val (Wanted.free rfl) (V.move rfl rfl) rfl ?_
          refine RL.val (Wanted.free rfl) (V.bin rfl rfl rfl (B.sub8 (y := 97))) rfl ?_
          refine RL.val (Wanted.free rfl) (V.toI rfl ⟨_, ui5⟩ ui3 rfl (by omega) (by omega)) rfl ?_
          refine RL.val (Wanted.free rfl) (V.bin rfl rfl rfl (B.addI (by omega) (by omega))) rfl ?_
          refine RL.val (Wanted.free rfl) (V.assign rfl rfl) rfl ?_
          refine RL.nil ?_
          refine SG.retE (Ret.r1 Tryd.func38 rfl (.tmp rfl)) ?_ ⟨by first | exact congrArg vI (val_lo (by omega) (by omega)) | exact congrArg vI (val_hi (by omega) (by omega)) | exact congrArg vI (val_no (by omega)).symm, rfl⟩
          repeat (first | exact Ent.refl _ | (apply Ent.cons; (· repeat (first | exact Pick.here | (refine Pick.sl ?_; (· repeat (first | exact List.Mem.head _ | assumption | apply List.Mem.tail))) | apply Pick.there))) | (refine Ent.trans (Ent.drop _ _) ?_))
        · skip
          refine RL.val (Wanted.free rfl) (V.pick_true rfl rfl rfl) rfl ?_
          refine RL.nil ?_
          refine SG.cond_false rfl ?_
          refine SG.skip ?_
          refine SG.seq ?_
          refine SG.region ?_
          refine RL.val (Wanted.free rfl) (V.assign rfl rfl) rfl ?_
          refine RL.nil ?_
          refine SG.retE (Ret.r1 Tryd.func38 rfl (.tmp rfl)) ?_ ⟨by first | exact congrArg vI (val_lo (by omega) (by omega)) | exact congrArg vI (val_hi (by omega) (by omega)) | exact congrArg vI (val_no (by omega)).symm, rfl⟩
          repeat (first | exact Ent.refl _ | (apply Ent.cons; (· repeat (first | exact Pick.here | (refine Pick.sl ?_; (· repeat (first | exact List.Mem.head _ | assumption | apply List.Mem.tail))) | apply Pick.there))) | (refine Ent.trans (Ent.drop _ _) ?_))
      · skip
        refine RL.val (Wanted.free rfl) (V.move rfl rfl) rfl ?_
        refine RL.skip (Wanted.no rfl rfl rfl rfl rfl) rfl ?_
        refine RL.skip (Wanted.no rfl rfl rfl rfl rfl) rfl ?_
        refine RL.val (Wanted.free rfl) (V.pick_false rfl rfl rfl) rfl ?_
        refine RL.nil ?_
        refine SG.cond_false rfl ?_
        refine SG.skip ?_
        refine SG.seq ?_
        refine SG.region ?_
        refine RL.val (Wanted.free rfl) (V.assign rfl rfl) rfl ?_
        refine RL.nil ?_
        refine SG.retE (Ret.r1 Tryd.func38 rfl (.tmp rfl)) ?_ ⟨by first | exact congrArg vI (val_lo (by omega) (by omega)) | exact congrArg vI (val_hi (by omega) (by omega)) | exact congrArg vI (val_no (by omega)).symm, rfl⟩
        repeat (first | exact Ent.refl _ | (apply Ent.cons; (· repeat (first | exact Pick.here | (refine Pick.sl ?_; (· repeat (first | exact List.Mem.head _ | assumption | apply List.Mem.tail))) | apply Pick.there))) | (refine Ent.trans (Ent.drop _ _) ?_))
  · skip
    refine RL.val (Wanted.free rfl) (V.move rfl rfl) rfl ?_
    refine RL.skip (Wanted.no rfl rfl rfl rfl rfl) rfl ?_
    refine RL.skip (Wanted.no rfl rfl rfl rfl rfl) rfl ?_
    refine RL.val (Wanted.free rfl) (V.pick_false rfl rfl rfl) rfl ?_
    refine RL.nil ?_
    refine SG.cond_false rfl ?_
    refine SG.skip ?_
    refine SG.seq ?_
    refine SG.seq ?_
    refine SG.region ?_
    refine RL.val (Wanted.free rfl) (V.move rfl rfl) rfl ?_
    refine RL.cmp (Wanted.free rfl) (V.bin rfl rfl rfl B.geq) rfl (fun h26 => ?_) (fun h26 => ?_)
    · skip
      refine RL.val (Wanted.free rfl) (V.move rfl rfl) rfl ?_
      refine RL.val (Wanted.yes rfl rfl rfl rfl) (V.move rfl rfl) rfl ?_
      refine RL.cmp (Wanted.yes rfl rfl rfl rfl) (V.bin rfl rfl rfl B.leq) rfl (fun h29 => ?_) (fun h29 => ?_)
      · skip
        refine RL.val (Wanted.free rfl) (V.pick_true rfl rfl rfl) rfl ?_
        refine RL.nil ?_
        refine SG.cond_true rfl ?_
        refine SG.seq ?_
        have h8 := (c - 97).toNat_lt
        refine SG.region ?_
        refine RL.val (Wanted.free rfl) (V.move rfl rfl) rfl ?_
        refine RL.val (Wanted.free rfl) (V.bin rfl rfl rfl (B.sub8 (y := 97))) rfl ?_
        refine RL.val (Wanted.free rfl) (V.toI rfl ⟨_, ui5⟩ ui3 rfl (by omega) (by omega)) rfl ?_
        refine RL.val (Wanted.free rfl) (V.bin rfl rfl rfl (B.addI (by omega) (by omega))) rfl ?_
        refine RL.val (Wanted.free rfl) (V.assign rfl rfl) rfl ?_
        refine RL.nil ?_
        refine SG.retE (Ret.r1 Tryd.func38 rfl (.tmp rfl)) ?_ ⟨by first | exact congrArg vI (val_lo (by omega) (by omega)) | exact congrArg vI (val_hi (by omega) (by omega)) | exact congrArg vI (val_no (by omega)).symm, rfl⟩
        repeat (first | exact Ent.refl _ | (apply Ent.cons; (· repeat (first | exact Pick.here | (refine Pick.sl ?_; (· repeat (first | exact List.Mem.head _ | assumption | apply List.Mem.tail))) | apply Pick.there))) | (refine Ent.trans (Ent.drop _ _) ?_))
      · skip
        refine RL.val (Wanted.free rfl) (V.pick_true rfl rfl rfl) rfl ?_
        refine RL.nil ?_
        refine SG.cond_false rfl ?_
        refine SG.skip ?_
        refine SG.seq ?_
        refine SG.region ?_
        refine RL.val (Wanted.free rfl) (V.assign rfl rfl) rfl ?_
        refine RL.nil ?_
        refine SG.retE (Ret.r1 Tryd.func38 rfl (.tmp rfl)) ?_ ⟨by first | exact congrArg vI (val_lo (by omega) (by omega)) | exact congrArg vI (val_hi (by omega) (by omega)) | exact congrArg vI (val_no (by omega)).symm, rfl⟩
        repeat (first | exact Ent.refl _ | (apply Ent.cons; (· repeat (first | exact Pick.here | (refine Pick.sl ?_; (· repeat (first | exact List.Mem.head _ | assumption | apply List.Mem.tail))) | apply Pick.there))) | (refine Ent.trans (Ent.drop _ _) ?_))
    · skip
      refine RL.val (Wanted.free rfl) (V.move rfl rfl) rfl ?_
      refine RL.skip (Wanted.no rfl rfl rfl rfl rfl) rfl ?_
      refine RL.skip (Wanted.no rfl rfl rfl rfl rfl) rfl ?_
      refine RL.val (Wanted.free rfl) (V.pick_false rfl rfl rfl) rfl ?_
      refine RL.nil ?_
      refine SG.cond_false rfl ?_
      refine SG.skip ?_
      refine SG.seq ?_
      refine SG.region ?_
      refine RL.val (Wanted.free rfl) (V.assign rfl rfl) rfl ?_
      refine RL.nil ?_
      refine SG.retE (Ret.r1 Tryd.func38 rfl (.tmp rfl)) ?_ ⟨by first | exact congrArg vI (val_lo (by omega) (by omega)) | exact congrArg vI (val_hi (by omega) (by omega)) | exact congrArg vI (val_no (by omega)).symm, rfl⟩
      repeat (first | exact Ent.refl _ | (apply Ent.cons; (· repeat (first | exact Pick.here | (refine Pick.sl ?_; (· repeat (first | exact List.Mem.head _ | assumption | apply List.Mem.tail))) | apply Pick.there))) | (refine Ent.trans (Ent.drop _ _) ?_))

set_option maxRecDepth 100000 in
theorem rparse_ok {κ : World} {L : List Assn} {s : List UInt8} :
    Ctr Tryd.prog 32 #[vS s] κ L (fun v M => v = .tuple #[.agg ((parseV s).1.map v8).toArray, vI (parseV s).2] ∧ M = L) := by
  refine Ctr.enter (vs := [vS s]) (m := 42) Tryd.func32 rfl rfl rfl ?_
  refine SG.seq ?_
  refine SG.region ?_
  refine RL.eff (Wanted.free rfl) (E.alloc rfl ze24) rfl ?_
  rintro _ _ ⟨b2, rfl, rfl⟩
  refine RL.val (Wanted.free rfl) (V.assign rfl rfl) rfl ?_
  refine RL.nil ?_
  refine SG.seq ?_
  refine SG.seq ?_
  refine SG.region ?_
  refine RL.val (Wanted.free rfl) (V.move rfl rfl) rfl ?_
  refine RL.val (Wanted.free rfl) (V.lenS rfl rfl us9 rfl) rfl ?_
  refine RL.cmp (Wanted.free rfl) (V.bin rfl rfl rfl B.neq) rfl (fun h5 => ?_) (fun h5 => ?_)
  · skip
    refine RL.nil ?_
    refine SG.cond_true rfl ?_
    refine SG.seq ?_
    refine SG.region ?_
    refine RL.val (Wanted.free rfl) (V.buildA (cs := (List.replicate 32 (0 : UInt8)).map v8) [] rfl ba24 (by exact trivial) (by rw [← z32]; rfl)) rfl ?_
    refine RL.eff (Wanted.free rfl) (E.storeWhole rfl rfl rfl (by rw [List.length_map, List.length_replicate]) sz24 (by repeat (first | exact Pick.here | assumption | apply Pick.there)) (one8 _) (by rw [List.length_replicate])) rfl ?_
    rintro _ _ rfl
    refine RL.val (Wanted.free rfl) (V.assign rfl rfl) rfl ?_
    refine RL.nil ?_
    refine SG.retE (Ret.r2 Tryd.func32 rfl (.agg rfl ag24 (by repeat (first | exact Pick.here | assumption | apply Pick.there)) (take8 List.length_replicate) (by rw [List.length_map, List.length_replicate])) (.tmp rfl)) ?_ ⟨by rw [parse_len (by omega)], rfl⟩
    repeat (first | exact Ent.refl _ | (apply Ent.cons; (· repeat (first | exact Pick.here | (refine Pick.sl ?_; (· repeat (first | exact List.Mem.head _ | assumption | apply List.Mem.tail))) | apply Pick.there))) | (refine Ent.trans (Ent.drop _ _) ?_))
  · skip
    refine RL.nil ?_
    refine SG.cond_false rfl ?_
    refine SG.skip ?_
    refine SG.seq ?_
    refine SG.region ?_
    refine RL.eff (Wanted.free rfl) (E.alloc rfl ze24) rfl ?_
    rintro _ _ ⟨b4, rfl, rfl⟩
    refine RL.ent (Blk.eqc (pz_zero s)) ?_
    refine RL.nil ?_
    refine SG.seq ?_
    refine SG.seq ?_
    refine SG.region ?_
    refine RL.val (Wanted.free rfl) (V.assign rfl rfl) rfl ?_
    refine RL.nil ?_
    refine SG.block ?_
    refine SG.weaken (SG.loop2 (fun m al M => ∃ i : Nat, i ≤ 32 ∧ (∀ k, k < i → pg s k = true) ∧ m = 32 - i ∧ al = [(0, vS s), (2, ptr b2 0), (4, ptr b4 0), (5, vI i)] ∧ M = Blk b4 24 ((pz s i).map v8) :: Blk b2 24 (List.replicate 32 (.int .u8 0)) :: L) (m0 := _) ⟨0, by omega, fun k h => by omega, rfl, rfl, rfl⟩ ?_) ?_ ?_
    rotate_left
    · repeat (first | exact EnvLe.nil _ | refine EnvLe.cons rfl ?_)
    · repeat (first | exact Ent.refl _ | (apply Ent.cons; (· repeat (first | exact Pick.here | (refine Pick.sl ?_; (· repeat (first | exact List.Mem.head _ | assumption | apply List.Mem.tail))) | apply Pick.there))) | (refine Ent.trans (Ent.drop _ _) ?_))
    rintro _ _ _ ⟨i, hi, hg, rfl, rfl, rfl⟩ ih0
    refine SG.seq ?_
    refine SG.seq ?_
    refine SG.region ?_
    refine RL.val (Wanted.free rfl) (V.move rfl rfl) rfl ?_
    refine RL.cmp (Wanted.free rfl) (V.bin rfl rfl rfl B.lss) rfl (fun h12 => ?_) (fun h12 => ?_)
    · skip
      refine RL.nil ?_
      refine SG.cond_true rfl ?_
      refine SG.skip ?_
      refine SG.seq ?_
      refine SG.block ?_
      refine SG.seq ?_
      refine SG.region ?_
      refine RL.val (Wanted.free rfl) (V.move rfl rfl) rfl ?_
      refine RL.val (Wanted.free rfl) (V.move rfl rfl) rfl ?_
      refine RL.val (Wanted.free rfl) (V.bin rfl rfl rfl (B.mulI (by omega) (by omega))) rfl ?_
      refine RL.val (Wanted.free rfl) (V.indexS (j := 2 * i) rfl us9 rfl rfl (by omega) (getD_s (by omega))) rfl ?_
      refine RL.eff (Wanted.free rfl) (E.call rfl go38 rfl (value_ok)) rfl ?_
      rintro _ _ ⟨rfl, rfl⟩
      refine RL.val (Wanted.free rfl) (V.assign rfl rfl) rfl ?_
      refine RL.nil ?_
      refine SG.seq ?_
      refine SG.region ?_
      refine RL.val (Wanted.free rfl) (V.move rfl rfl) rfl ?_
      refine RL.val (Wanted.free rfl) (V.move rfl rfl) rfl ?_
      refine RL.val (Wanted.free rfl) (V.bin rfl rfl rfl (B.mulI (by omega) (by omega))) rfl ?_
      refine RL.val (Wanted.free rfl) (V.bin rfl rfl rfl (B.addI (by omega) (by omega))) rfl ?_
      refine RL.val (Wanted.free rfl) (V.indexS (j := 2 * i + 1) rfl us9 rfl rfl (by omega) (getD_s (by omega))) rfl ?_
      refine RL.eff (Wanted.free rfl) (E.call rfl go38 rfl (value_ok)) rfl ?_
      rintro _ _ ⟨rfl, rfl⟩
      refine RL.val (Wanted.free rfl) (V.assign rfl rfl) rfl ?_
      refine RL.nil ?_
      refine SG.seq ?_
      refine SG.seq ?_
      have g1 := (pg_iff (s := s) (k := i))
      have v1 := val_cases (s.getD (2 * i) 0)
      have v2 := val_cases (s.getD (2 * i + 1) 0)
      refine SG.region ?_
      refine RL.val (Wanted.free rfl) (V.move rfl rfl) rfl ?_
      refine RL.cmp (Wanted.free rfl) (V.bin rfl rfl rfl B.lss) rfl (fun h27 => ?_) (fun h27 => ?_)
      · skip
        refine RL.val (Wanted.free rfl) (V.move rfl rfl) rfl ?_
        refine RL.skip (Wanted.no rfl rfl rfl rfl rfl) rfl ?_
        refine RL.skip (Wanted.no rfl rfl rfl rfl rfl) rfl ?_
        refine RL.val (Wanted.free rfl) (V.pick_true rfl rfl rfl) rfl ?_
        refine RL.nil ?_
        refine SG.cond_true rfl ?_
        refine SG.seq ?_
        refine SG.region ?_
        refine RL.val (Wanted.free rfl) (V.buildA (cs := (List.replicate 32 (0 : UInt8)).map v8) [] rfl ba24 (by exact trivial) (by rw [← z32]; rfl)) rfl ?_
        refine RL.eff (Wanted.free rfl) (E.storeWhole rfl rfl rfl (by rw [List.length_map, List.length_replicate]) sz24 (by repeat (first | exact Pick.here | assumption | apply Pick.there)) (one8 _) (by rw [List.length_replicate])) rfl ?_
        rintro _ _ rfl
        refine RL.val (Wanted.free rfl) (V.assign rfl rfl) rfl ?_
        refine RL.nil ?_
        refine SG.retE (Ret.r2 Tryd.func32 rfl (.agg rfl ag24 (by repeat (first | exact Pick.here | assumption | apply Pick.there)) (take8 List.length_replicate) (by rw [List.length_map, List.length_replicate])) (.tmp rfl)) ?_ ⟨by rw [parse_bad (k := i) (by omega) (fun e => by have := g1.1 e; omega)], rfl⟩
        repeat (first | exact Ent.refl _ | (apply Ent.cons; (· repeat (first | exact Pick.here | (refine Pick.sl ?_; (· repeat (first | exact List.Mem.head _ | assumption | apply List.Mem.tail))) | apply Pick.there))) | (refine Ent.trans (Ent.drop _ _) ?_))
      · skip
        refine RL.val (Wanted.free rfl) (V.move rfl rfl) rfl ?_
        refine RL.val (Wanted.yes rfl rfl rfl rfl) (V.move rfl rfl) rfl ?_
        refine RL.cmp (Wanted.yes rfl rfl rfl rfl) (V.bin rfl rfl rfl B.lss) rfl (fun h34 => ?_) (fun h34 => ?_)
        · skip
          refine RL.val (Wanted.free rfl) (V.pick_false rfl rfl rfl) rfl ?_
          refine RL.nil ?_
          refine SG.cond_true rfl ?_
          refine SG.seq ?_
          refine SG.region ?_
          refine RL.val (Wanted.free rfl) (V.buildA (cs := (List.replicate 32 (0 : UInt8)).map v8) [] rfl ba24 (by exact trivial) (by rw [← z32]; rfl)) rfl ?_
          refine RL.eff (Wanted.free rfl) (E.storeWhole rfl rfl rfl (by rw [List.length_map, List.length_replicate]) sz24 (by repeat (first | exact Pick.here | assumption | apply Pick.there)) (one8 _) (by rw [List.length_replicate])) rfl ?_
          rintro _ _ rfl
          refine RL.val (Wanted.free rfl) (V.assign rfl rfl) rfl ?_
          refine RL.nil ?_
          refine SG.retE (Ret.r2 Tryd.func32 rfl (.agg rfl ag24 (by repeat (first | exact Pick.here | assumption | apply Pick.there)) (take8 List.length_replicate) (by rw [List.length_map, List.length_replicate])) (.tmp rfl)) ?_ ⟨by rw [parse_bad (k := i) (by omega) (fun e => by have := g1.1 e; omega)], rfl⟩
          repeat (first | exact Ent.refl _ | (apply Ent.cons; (· repeat (first | exact Pick.here | (refine Pick.sl ?_; (· repeat (first | exact List.Mem.head _ | assumption | apply List.Mem.tail))) | apply Pick.there))) | (refine Ent.trans (Ent.drop _ _) ?_))
        · skip
          refine RL.val (Wanted.free rfl) (V.pick_false rfl rfl rfl) rfl ?_
          refine RL.nil ?_
          refine SG.cond_false rfl ?_
          refine SG.skip ?_
          have w1 : (digitV (s.getD (2 * i) 0)).toNat ≤ 15 := by omega
          have w2 : (digitV (s.getD (2 * i + 1) 0)).toNat ≤ 15 := by omega
          rw [show valV (s.getD (2 * i) 0) = ((digitV (s.getD (2 * i) 0)).toNat : Int) from by omega, show valV (s.getD (2 * i + 1) 0) = ((digitV (s.getD (2 * i + 1) 0)).toNat : Int) from by omega]
          refine SG.region ?_
          refine RL.val (Wanted.free rfl) (V.move rfl rfl) rfl ?_
          refine RL.val (Wanted.free rfl) (V.move rfl rfl) rfl ?_
          refine RL.val (Wanted.free rfl) (V.bin rfl rfl rfl (B.mulI (by omega) (by omega))) rfl ?_
          refine RL.val (Wanted.free rfl) (V.move rfl rfl) rfl ?_
          refine RL.val (Wanted.free rfl) (V.bin rfl rfl rfl (B.addI (by omega) (by omega))) rfl ?_
          refine RL.val (Wanted.free rfl) (V.to8 rfl ⟨_, ui3⟩ ui5 rfl) rfl ?_
          rw [val_byte w1 w2]
          refine RL.val (Wanted.free rfl) (V.indexW (j := i) rfl ar24 rfl rfl (by first | rfl | omega) (by omega)) rfl ?_
          refine RL.eff (Wanted.free rfl) (E.storeB (u := pv s i) rfl rfl rfl sz5 (by repeat (first | exact Pick.here | assumption | apply Pick.there)) (by rw [pz_length (by omega)]; omega)) rfl ?_
          rintro _ _ rfl
          rw [pz_step (by omega)]
          refine RL.nil ?_
          refine SG.inBlock ?_
          refine SG.region ?_
          refine RL.val (Wanted.free rfl) (V.move rfl rfl) rfl ?_
          refine RL.val (Wanted.free rfl) (V.bin rfl rfl rfl (B.addI (by omega) (by omega))) rfl ?_
          refine RL.val (Wanted.free rfl) (V.assign rfl rfl) rfl ?_
          refine RL.nil ?_
          refine SG.weaken (ih0 _ _ _ ?_ ⟨i + 1, by omega, ?_, rfl, rfl, rfl⟩) ?_ ?_
          · omega
          · intro k hk
            by_cases e : k = i
            · subst e; exact g1.2 ⟨w1, w2⟩
            · exact hg k (by omega)
          · repeat (first | exact EnvLe.nil _ | refine EnvLe.cons rfl ?_)
          · repeat (first | exact Ent.refl _ | (apply Ent.cons; (· repeat (first | exact Pick.here | (refine Pick.sl ?_; (· repeat (first | exact List.Mem.head _ | assumption | apply List.Mem.tail))) | apply Pick.there))) | (refine Ent.trans (Ent.drop _ _) ?_))
    · skip
      refine RL.nil ?_
      refine SG.cond_false rfl ?_
      refine SG.exit rfl ?_
      refine SG.seq ?_
      obtain rfl : i = 32 := by omega
      rw [pz_all]
      refine SG.region ?_
      refine RL.val (Wanted.free rfl) (V.loadAgg (us := (pl s 32).map v8) rfl ag24 rfl (by repeat (first | exact Pick.here | assumption | apply Pick.there)) (take8 (pl_length s 32)) (by rw [List.length_map]; exact pl_length s 32)) rfl ?_
      refine RL.eff (Wanted.free rfl) (E.storeWhole rfl rfl rfl (by rw [List.length_map]; exact pl_length s 32) sz24 (by repeat (first | exact Pick.here | assumption | apply Pick.there)) (one8 _) (by rw [List.length_replicate])) rfl ?_
      rintro _ _ rfl
      refine RL.val (Wanted.free rfl) (V.assign rfl rfl) rfl ?_
      refine RL.nil ?_
      refine SG.retE (Ret.r2 Tryd.func32 rfl (.agg rfl ag24 (by repeat (first | exact Pick.here | assumption | apply Pick.there)) (take8 (pl_length s 32)) (by rw [List.length_map]; exact pl_length s 32)) (.tmp rfl)) ?_ ⟨by rw [parse_good (by omega) hg], rfl⟩
      repeat (first | exact Ent.refl _ | (apply Ent.cons; (· repeat (first | exact Pick.here | (refine Pick.sl ?_; (· repeat (first | exact List.Mem.head _ | assumption | apply List.Mem.tail))) | apply Pick.there))) | (refine Ent.trans (Ent.drop _ _) ?_))

end Go.Proofs.YtbljfilkdhgcnaaDoor
