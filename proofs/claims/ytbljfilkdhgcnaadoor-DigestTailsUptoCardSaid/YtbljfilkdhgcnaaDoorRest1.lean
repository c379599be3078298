/- Helpers of the laws. -/
import Derived.Test.YtbljfilkdhgcnaaDoorLives
import Derived.Test.YtbljfilkdhgcnaaDoorRsum
namespace Go.Proofs.YtbljfilkdhgcnaaDoor
open Go.Wk Go.Sha


/-- n modulo most, never negative. -/
def aroundV (n most : Int) : Int := (if n < 0 then -(n + 1) else n) % most
theorem take_succ_eq {α : Type} {l l' : List α} {i : Nat} (h : i < l.length) (h' : i < l'.length) (ht : l.take i = l'.take i) (hx : l[i] = l'[i]) : l.take (i + 1) = l'.take (i + 1) := by
  rw [List.take_add_one, List.take_add_one, ht, List.getElem?_eq_getElem h, List.getElem?_eq_getElem h', hx]
theorem aroundV_bd {n most : Int} (h : 0 < most) : 0 ≤ aroundV n most ∧ aroundV n most < most := ⟨Int.emod_nonneg _ (by omega), Int.emod_lt_of_pos _ h⟩

set_option maxRecDepth 100000 in
theorem around_ok {κ : World} {L : List Assn} (n most : Int) (h1 : -9223372036854775808 ≤ n) (h2 : n ≤ 9223372036854775807) (h3 : 0 < most) :
    Ctr Tryd.prog 16 #[vI n, vI most] κ L (fun v M => v = vI (aroundV n most) ∧ M = L) := by
  refine Ctr.enter (vs := [vI n, vI most]) (m := 13) Tryd.func16 rfl rfl rfl ?_
  refine SG.seq ?_
  refine SG.region ?_
  refine RL.val (Wanted.free rfl) (V.assign rfl rfl) rfl ?_
  refine RL.nil ?_
  refine SG.seq ?_
  refine SG.seq ?_
  refine SG.region ?_
  refine RL.val (Wanted.free rfl) (V.move rfl rfl) rfl ?_
  refine RL.cmp (Wanted.free rfl) (V.bin rfl rfl rfl B.lss) rfl (fun h3 => ?_) (fun h3 => ?_)
  · skip
    refine RL.nil ?_
    refine SG.cond_true rfl ?_
    refine SG.region ?_
    refine RL.val (Wanted.free rfl) (V.move rfl rfl) rfl ?_
    refine RL.val (Wanted.free rfl) (V.bin rfl rfl rfl (B.addI (by omega) (by omega))) rfl ?_
    refine RL.val (Wanted.free rfl) (V.negI rfl rfl (by omega) (by omega)) rfl ?_
    refine RL.val (Wanted.free rfl) (V.assign rfl rfl) rfl ?_
    refine RL.nil ?_
    refine SG.seq ?_
    refine SG.region ?_
    refine RL.val (Wanted.free rfl) (V.move rfl rfl) rfl ?_
    refine RL.val (Wanted.free rfl) (V.move rfl rfl) rfl ?_
    refine RL.val (Wanted.free rfl) (V.bin rfl rfl rfl (B.remI (by omega) (by omega))) rfl ?_
    refine RL.val (Wanted.free rfl) (V.assign rfl rfl) rfl ?_
    refine RL.nil ?_
    refine SG.retE (Ret.r1 Tryd.func16 rfl (.tmp rfl)) ?_ ⟨by simp [aroundV, *], rfl⟩
    repeat (first | exact Ent.refl _ | (apply Ent.cons; (· repeat (first | exact Pick.here | (refine Pick.sl ?_; (· repeat (first | exact List.Mem.head _ | assumption | apply List.Mem.tail))) | apply Pick.there))) | (refine Ent.trans (Ent.drop _ _) ?_))
  · skip
    refine RL.nil ?_
    refine SG.cond_false rfl ?_
    refine SG.skip ?_
    refine SG.seq ?_
    refine SG.region ?_
    refine RL.val (Wanted.free rfl) (V.move rfl rfl) rfl ?_
    refine RL.val (Wanted.free rfl) (V.move rfl rfl) rfl ?_
    refine RL.val (Wanted.free rfl) (V.bin rfl rfl rfl (B.remI (by omega) (by omega))) rfl ?_
    refine RL.val (Wanted.free rfl) (V.assign rfl rfl) rfl ?_
    refine RL.nil ?_
    refine SG.retE (Ret.r1 Tryd.func16 rfl (.tmp rfl)) ?_ ⟨by simp [aroundV, *], rfl⟩
    repeat (first | exact Ent.refl _ | (apply Ent.cons; (· repeat (first | exact Pick.here | (refine Pick.sl ?_; (· repeat (first | exact List.Mem.head _ | assumption | apply List.Mem.tail))) | apply Pick.there))) | (refine Ent.trans (Ent.drop _ _) ?_))

set_option maxRecDepth 100000 in
theorem sameBytes_ok {κ : World} {L : List Assn} {a a' : Option Addr} {m c m' c' : Nat} {l l' : List UInt8} (hm : Sl R8 a m c l ∈ L) (hm' : Sl R8 a' m' c' l' ∈ L) :
    Ctr Tryd.prog 24 #[.slice a m c, .slice a' m' c'] κ L (fun v M => v = vB (decide (l = l')) ∧ M = L) := by
  refine Ctr.enter (vs := [.slice a m c, .slice a' m' c']) (m := 10) Tryd.func24 rfl rfl rfl ?_
  refine SG.seq ?_
  refine SG.region ?_
  refine RL.val (Wanted.free rfl) (V.assign rfl rfl) rfl ?_
  refine RL.nil ?_
  refine SG.seq ?_
  refine SG.region ?_
  refine RL.val (Wanted.free rfl) (V.move rfl rfl) rfl ?_
  refine RL.val (Wanted.free rfl) (V.bytesToS rfl el22.under ui5 us9 rfl (by repeat (first | exact List.Mem.head _ | assumption | apply List.Mem.tail))) rfl ?_
  refine RL.val (Wanted.free rfl) (V.move rfl rfl) rfl ?_
  refine RL.val (Wanted.free rfl) (V.bytesToS rfl el22.under ui5 us9 rfl (by repeat (first | exact List.Mem.head _ | assumption | apply List.Mem.tail))) rfl ?_
  refine RL.val (Wanted.free rfl) (V.bin rfl rfl rfl B.eqlS) rfl ?_
  refine RL.val (Wanted.free rfl) (V.assign rfl rfl) rfl ?_
  refine RL.nil ?_
  refine SG.retE (Ret.r1 Tryd.func24 rfl (.tmp rfl)) ?_ ⟨rfl, rfl⟩
  repeat (first | exact Ent.refl _ | (apply Ent.cons; (· repeat (first | exact Pick.here | (refine Pick.sl ?_; (· repeat (first | exact List.Mem.head _ | assumption | apply List.Mem.tail))) | apply Pick.there))) | (refine Ent.trans (Ent.drop _ _) ?_))

theorem sameBytes_true {κ : World} {L : List Assn} {a a' : Option Addr} {m c m' c' : Nat} {l l' : List UInt8} (h1 : Sl R8 a m c l ∈ L) (h2 : Sl R8 a' m' c' l' ∈ L) (e : l = l') : Ctr Tryd.prog 24 #[.slice a m c, .slice a' m' c'] κ L (fun v M => v = vB true ∧ M = L) :=
  (sameBytes_ok h1 h2).mono (Ent.refl _) fun _ _ h => ⟨by rw [h.1, e]; simp, h.2⟩
theorem aroundV_nat {n most : Int} (h : 0 < most) : ∃ q : Nat, aroundV n most = (q : Int) ∧ (q : Int) < most := by
  obtain ⟨h1, h2⟩ := aroundV_bd (n := n) h
  obtain ⟨q, hq⟩ := Int.eq_ofNat_of_zero_le h1
  exact ⟨q, hq, by omega⟩

def bytesX (x : UInt32) : Nat → UInt32
  | 0 => x
  | n + 1 => bytesX x n * 1664525 + 1013904223
/-- n bytes made of a number. -/
def bytesV (x : UInt32) (n : Nat) : List UInt8 := (List.range n).map fun i => (bytesX x (i + 1) >>> 24).toUInt8
theorem bytesV_length (x : UInt32) (n : Nat) : (bytesV x n).length = n := by simp [bytesV]
theorem bytesV_step (x : UInt32) (n : Nat) : bytesV x (n + 1) = bytesV x n ++ [(bytesX x (n + 1) >>> 24).toUInt8] := by
  rw [bytesV, List.range_succ, List.map_append]; rfl
def seedV (s : Int) : UInt32 := UInt32.ofNat (s % 4294967296).toNat ||| 1

set_option maxRecDepth 100000 in
theorem bytes_ok {κ : World} {L : List Assn} {n : Nat} {s : Int} (hn : n ≤ 100000000) :
    Ctr Tryd.prog 15 #[vI (n : Int), vI s] κ L (fun v M => ∃ a c, v = .slice a n c ∧ M = Buf R8 5 a n c (bytesV (seedV s) n) :: L) := by
  refine Ctr.enter (vs := [vI (n : Int), vI s]) (m := 26) Tryd.func15 rfl rfl rfl ?_
  refine SG.ent (Buf.nil (T := R8) (e := 5)) ?_
  refine SG.seq ?_
  refine SG.region ?_
  refine RL.val (Wanted.free rfl) (V.assign rfl rfl) rfl ?_
  refine RL.nil ?_
  refine SG.seq ?_
  refine SG.region ?_
  refine RL.val (Wanted.free rfl) (V.assign rfl rfl) rfl ?_
  refine RL.nil ?_
  refine SG.seq ?_
  refine SG.region ?_
  refine RL.val (Wanted.free rfl) (V.move rfl rfl) rfl ?_
  refine RL.val (Wanted.free rfl) (V.to32 rfl ⟨_, ui3⟩ ui30 rfl) rfl ?_
  refine RL.val (Wanted.free rfl) (V.bin rfl rfl rfl (B.or32 (y := 1))) rfl ?_
  refine RL.val (Wanted.free rfl) (V.assign rfl rfl) rfl ?_
  refine RL.nil ?_
  refine SG.seq ?_
  refine SG.seq ?_
  refine SG.region ?_
  refine RL.val (Wanted.free rfl) (V.assign rfl rfl) rfl ?_
  refine RL.nil ?_
  refine SG.block ?_
  refine SG.weaken (SG.loop2 (fun m al M => ∃ (i : Nat) (a5 : Option Addr) (c5 : Nat), i ≤ n ∧ m = n - i ∧ al = [(0, vI n), (5, .slice a5 i c5), (6, v32 (bytesX (seedV s) i)), (7, vI i)] ∧ M = Buf R8 5 a5 i c5 (bytesV (seedV s) i) :: L) (m0 := _) ⟨0, none, 0, by omega, rfl, rfl, rfl⟩ ?_) ?_ ?_
  rotate_left
  · repeat (first | exact EnvLe.nil _ | refine EnvLe.cons rfl ?_)
  · repeat (first | exact Ent.refl _ | (apply Ent.cons; (· repeat (first | exact Pick.here | (refine Pick.sl ?_; (· repeat (first | exact List.Mem.head _ | assumption | apply List.Mem.tail))) | apply Pick.there))) | (refine Ent.trans (Ent.drop _ _) ?_))
  rintro _ _ _ ⟨i, a5, c5, hi, rfl, rfl, rfl⟩ ih0
  refine SG.seq ?_
  refine SG.seq ?_
  refine SG.region ?_
  refine RL.val (Wanted.free rfl) (V.move rfl rfl) rfl ?_
  refine RL.val (Wanted.free rfl) (V.move rfl rfl) rfl ?_
  refine RL.cmp (Wanted.free rfl) (V.bin rfl rfl rfl B.lss) rfl (fun h10 => ?_) (fun h10 => ?_)
  · skip
    refine RL.nil ?_
    refine SG.cond_true rfl ?_
    refine SG.skip ?_
    refine SG.seq ?_
    refine SG.block ?_
    refine SG.seq ?_
    refine SG.region ?_
    refine RL.val (Wanted.free rfl) (V.move rfl rfl) rfl ?_
    refine RL.val (Wanted.free rfl) (V.bin rfl rfl rfl (B.mul32 (y := 1664525))) rfl ?_
    refine RL.val (Wanted.free rfl) (V.bin rfl rfl rfl (B.add32 (y := 1013904223))) rfl ?_
    refine RL.val (Wanted.free rfl) (V.assign rfl rfl) rfl ?_
    refine RL.nil ?_
    refine SG.region ?_
    refine RL.val (Wanted.free rfl) (V.move rfl rfl) rfl ?_
    refine RL.val (Wanted.free rfl) (V.move rfl rfl) rfl ?_
    refine RL.val (Wanted.free rfl) (V.bin rfl rfl rfl (B.shr32 24 (by decide) (by decide) rfl)) rfl ?_
    refine RL.val (Wanted.free rfl) (V.to8 rfl ⟨_, ui30⟩ ui5 rfl) rfl ?_
    rw [u32to8]
    refine RL.eff (Wanted.free rfl) (E.lit1 _ rfl el22.slice ze5 rfl (by decide) (by decide) rfl rfl rfl) rfl ?_
    rintro _ _ ⟨b19, rfl, rfl⟩
    refine RL.eff (Wanted.free rfl) (E.append (T := R8) rfl rfl rfl el22 el22.noInt rfl rfl (by repeat (first | exact Pick.here | assumption | apply Pick.there)) (Src.lit (x := (bytesX (seedV s) (i + 1) >>> 24).toUInt8) (by repeat (first | exact Pick.here | assumption | apply Pick.there)) (by first | trivial | assumption | omega)) (by first | omega | (simp; omega)) (by first | omega | (simp; omega))) rfl ?_
    intro _ _ hK20
    try rw [List.nil_append] at hK20
    try rw [Nat.zero_add] at hK20
    rw [← bytesV_step] at hK20
    obtain ⟨a24, c24, rfl, rfl⟩ := hK20
    refine RL.val (Wanted.free rfl) (V.assign rfl rfl) rfl ?_
    refine RL.nil ?_
    refine SG.inBlock ?_
    refine SG.region ?_
    refine RL.val (Wanted.free rfl) (V.move rfl rfl) rfl ?_
    refine RL.val (Wanted.free rfl) (V.bin rfl rfl rfl (B.addI (by omega) (by omega))) rfl ?_
    refine RL.val (Wanted.free rfl) (V.assign rfl rfl) rfl ?_
    refine RL.nil ?_
    refine SG.weaken (ih0 _ _ _ ?_ ⟨i + 1, a24, c24, by omega, rfl, rfl, rfl⟩) ?_ ?_
    · omega
    · repeat (first | exact EnvLe.nil _ | refine EnvLe.cons rfl ?_)
    · repeat (first | exact Ent.refl _ | (apply Ent.cons; (· repeat (first | exact Pick.here | (refine Pick.sl ?_; (· repeat (first | exact List.Mem.head _ | assumption | apply List.Mem.tail))) | apply Pick.there))) | (refine Ent.trans (Ent.drop _ _) ?_))
  · skip
    refine RL.nil ?_
    refine SG.cond_false rfl ?_
    refine SG.exit rfl ?_
    refine SG.seq ?_
    obtain rfl : i = n := by omega
    refine SG.region ?_
    refine RL.val (Wanted.free rfl) (V.move rfl rfl) rfl ?_
    refine RL.val (Wanted.free rfl) (V.assign rfl rfl) rfl ?_
    refine RL.nil ?_
    refine SG.retE (Ret.r1 Tryd.func15 rfl (.tmp rfl)) ?_ ⟨_, _, rfl, rfl⟩
    repeat (first | exact Ent.refl _ | (apply Ent.cons; (· repeat (first | exact Pick.here | (refine Pick.sl ?_; (· repeat (first | exact List.Mem.head _ | assumption | apply List.Mem.tail))) | apply Pick.there))) | (refine Ent.trans (Ent.drop _ _) ?_))

set_option maxRecDepth 100000 in
theorem state_ok {κ : World} {L : List Assn} {a : Option Addr} {n c : Nat} {l : List UInt8} (hm : Sl R8 a n c l ∈ L) (hb : l.length ≤ 140737488355264) :
    Ctr Tryd.prog 20 #[.slice a n c] κ L (fun v M => ∃ a2 c2, v = stV l a2 c2 ∧ M = Sl R8 a2 (tail l).length c2 (tail l) :: L) := by
  refine Ctr.enter (vs := [.slice a n c]) (m := 17) Tryd.func20 rfl rfl rfl ?_
  refine SG.sl hm fun hn hc hc63 => ?_
  subst hn
  obtain ⟨x0, x1, x2, x3, x4, x5, x6, x7, hr⟩ := eight (feed_length first l first_length)
  have htl := tail_length l
  refine SG.cut (lo := l.length / 64 * 64) (hi := l.length) (l' := tail l) hm (by omega) (by omega) (by rw [tail]; exact List.take_of_length_le (by simp)) ?_
  rw [show l.length - l.length / 64 * 64 = (tail l).length from by omega]
  refine SG.seq ?_
  refine SG.region ?_
  refine RL.eff (Wanted.free rfl) (E.alloc rfl ze33) rfl ?_
  rintro _ _ ⟨b2, rfl, rfl⟩
  refine RL.nil ?_
  refine SG.seq ?_
  refine SG.region ?_
  refine RL.val (Wanted.free rfl) (V.assign rfl rfl) rfl ?_
  refine RL.nil ?_
  refine SG.seq ?_
  refine SG.drawL 14 13 wide rfl rfl ?_
  refine RH.val 0 rfl (by kernel_rfl) (by kernel_rfl) (by kernel_rfl) (by kernel_rfl) (Wanted.free rfl) (V.move rfl rfl) rfl ?_
  refine RH.val 2 rfl (by kernel_rfl) (by kernel_rfl) (by kernel_rfl) (by kernel_rfl) (Wanted.free rfl) (V.move rfl rfl) rfl ?_
  refine RH.val 3 rfl (by kernel_rfl) (by kernel_rfl) (by kernel_rfl) (by kernel_rfl) (Wanted.free rfl) (V.move rfl rfl) rfl ?_
  refine RH.val 4 rfl (by kernel_rfl) (by kernel_rfl) (by kernel_rfl) (by kernel_rfl) (Wanted.free rfl) (V.move rfl rfl) rfl ?_
  refine RH.val 5 rfl (by kernel_rfl) (by kernel_rfl) (by kernel_rfl) (by kernel_rfl) (Wanted.free rfl) (V.len rfl rfl el22.under rfl) rfl ?_
  refine RH.val 6 rfl (by kernel_rfl) (by kernel_rfl) (by kernel_rfl) (by kernel_rfl) (Wanted.free rfl) (V.bin rfl rfl rfl (B.quoI (by omega) (by omega) (by omega))) rfl ?_
  refine RH.val 7 rfl (by kernel_rfl) (by kernel_rfl) (by kernel_rfl) (by kernel_rfl) (Wanted.free rfl) (V.bin rfl rfl rfl (B.mulI (by omega) (by omega))) rfl ?_
  refine RH.val 8 rfl (by kernel_rfl) (by kernel_rfl) (by kernel_rfl) (by kernel_rfl) (Wanted.free rfl) (V.slice (T := R8) (lo := l.length / 64 * 64) (hi := l.length) rfl el22.slice rfl ⟨_, _, rfl, (by first | rfl | omega)⟩ rfl (by omega) (by omega)) rfl ?_
  rw [show l.length - l.length / 64 * 64 = (tail l).length from by omega]
  refine RH.val 10 rfl (by kernel_rfl) (by kernel_rfl) (by kernel_rfl) (by kernel_rfl) (Wanted.free rfl) (V.move rfl rfl) rfl ?_
  refine RH.val 11 rfl (by kernel_rfl) (by kernel_rfl) (by kernel_rfl) (by kernel_rfl) (Wanted.free rfl) (V.len rfl rfl el22.under rfl) rfl ?_
  refine RH.one (i := 1) (by kernel_rfl) ?_
  refine RHone.eff rfl (Wanted.free rfl) (E.call rfl go33 rfl (blocks_ok (l := l) (by repeat (first | exact List.Mem.head _ | assumption | apply List.Mem.tail)) (by omega))) rfl ?_
  rintro _ _ ⟨rfl, rfl⟩
  refine ⟨.inr (by repeat (first | exact Ent.refl _ | (apply Ent.cons; (· repeat (first | exact Pick.here | (refine Pick.sl ?_; (· repeat (first | exact List.Mem.head _ | assumption | apply List.Mem.tail))) | apply Pick.there))) | (refine Ent.trans (Ent.drop _ _) ?_))), ?_⟩
  rw [hr]
  refine RH.ent (Buf.nil (T := R8) (e := 5)) ?_
  refine RH.one (i := 9) (by kernel_rfl) ?_
  refine RHone.eff rfl (Wanted.free rfl) (E.append (T := R8) rfl rfl rfl el22 el22.noInt rfl rfl (by repeat (first | exact Pick.here | assumption | apply Pick.there)) (Src.sl (by decide) (by repeat (first | exact List.Mem.head _ | assumption | apply List.Mem.tail))) (by first | omega | (simp; omega)) (by first | omega | (simp; omega))) rfl ?_
  intro _ _ hK14
  try rw [List.nil_append] at hK14
  try rw [Nat.zero_add] at hK14
  obtain ⟨a13, c13, rfl, rfl⟩ := hK14
  refine ⟨.inr (by repeat (first | exact Ent.refl _ | (apply Ent.cons; (· repeat (first | exact Pick.here | (refine Pick.sl ?_; (· repeat (first | exact List.Mem.head _ | assumption | apply List.Mem.tail))) | apply Pick.there))) | (refine Ent.trans (Ent.drop _ _) ?_))), ?_⟩
  refine RH.publish (T := R8) (a := a13) Pick.here ?_
  refine RH.val 12 rfl (by kernel_rfl) (by kernel_rfl) (by kernel_rfl) (by kernel_rfl) (Wanted.free rfl) (V.buildS [(0, _), (1, _), (2, _)] rfl bs33 (by exact ⟨rfl, ⟨_, rfl, rfl⟩, ⟨rfl, ⟨_, rfl, rfl⟩, ⟨rfl, ⟨_, rfl, rfl⟩, trivial⟩⟩⟩) rfl) rfl ?_
  refine RH.one (i := 13) (by kernel_rfl) ?_
  refine RHone.eff rfl (Wanted.free rfl) (E.storeWhole rfl rfl rfl (by rfl) sz33 (by repeat (first | exact Pick.here | assumption | apply Pick.there)) (by simp [setAt, Value.oneCell']) (by rfl)) rfl ?_
  rintro _ _ rfl
  refine ⟨.inl (by kernel_rfl), ?_⟩
  refine RH.done (by kernel_rfl) ?_
  refine SG.ent (Ent.trans (Pick.there Pick.here) (Ent.refl _)) ?_
  refine SG.retE (Ret.r1 Tryd.func20 rfl (.agg rfl ag33 (by repeat (first | exact Pick.here | assumption | apply Pick.there)) rfl rfl)) ?_ ⟨a13, c13, by rw [stV, hr]; rfl, rfl⟩
  repeat (first | exact Ent.refl _ | (apply Ent.cons; (· repeat (first | exact Pick.here | (refine Pick.sl ?_; (· repeat (first | exact List.Mem.head _ | assumption | apply List.Mem.tail))) | apply Pick.there))) | (refine Ent.trans (Ent.drop _ _) ?_))

set_option maxRecDepth 100000 in
theorem same_ok {κ : World} {L : List Assn} {X : List UInt8} {a a' : Option Addr} {c c' : Nat} (hm : Sl R8 a (tail X).length c (tail X) ∈ L) (hm' : Sl R8 a' (tail X).length c' (tail X) ∈ L) :
    Ctr Tryd.prog 19 #[stV X a c, stV X a' c'] κ L (fun v M => v = vB true ∧ M = L) := by
  refine Ctr.enter (vs := [stV X a c, stV X a' c']) (m := 24) Tryd.func19 rfl rfl rfl ?_
  refine SG.seq ?_
  refine SG.region ?_
  refine RL.eff (Wanted.free rfl) (E.box _ rfl rfl rfl) rfl ?_
  rintro _ _ ⟨b2, rfl, rfl⟩
  refine RL.eff (Wanted.free rfl) (E.box _ rfl rfl rfl) rfl ?_
  rintro _ _ ⟨b3, rfl, rfl⟩
  refine RL.val (Wanted.free rfl) (V.assign rfl rfl) rfl ?_
  refine RL.nil ?_
  refine SG.seq ?_
  refine SG.region ?_
  refine RL.val (Wanted.free rfl) (V.fieldAddr rfl rfl fo33_0) rfl ?_
  refine RL.val (Wanted.free rfl) (V.loadAgg (us := (feed first X).map v32) rfl ag31 rfl (by repeat (first | exact Pick.here | assumption | apply Pick.there)) (dg_H (feed_length _ _ first_length)) (by rw [List.length_map]; exact feed_length _ _ first_length)) rfl ?_
  refine RL.val (Wanted.free rfl) (V.fieldAddr rfl rfl fo33_0) rfl ?_
  refine RL.val (Wanted.free rfl) (V.loadAgg (us := (feed first X).map v32) rfl ag31 rfl (by repeat (first | exact Pick.here | assumption | apply Pick.there)) (dg_H (feed_length _ _ first_length)) (by rw [List.length_map]; exact feed_length _ _ first_length)) rfl ?_
  refine RL.cmpT (Wanted.free rfl) (V.eqlArr rfl ar31 on30 ui30 ce31 eg31 inj32 (feed_length _ X first_length) (feed_length _ X first_length) rfl rfl) rfl rfl ?_
  refine RL.val (Wanted.free rfl) (V.move rfl rfl) rfl ?_
  refine RL.val (Wanted.yes rfl rfl rfl rfl) (V.fieldAddr rfl rfl fo33_2) rfl ?_
  refine RL.val (Wanted.yes rfl rfl rfl rfl) (V.load rfl on3 rfl (by repeat (first | exact Pick.here | assumption | apply Pick.there)) (dg_9 (feed_length _ X first_length))) rfl ?_
  refine RL.val (Wanted.yes rfl rfl rfl rfl) (V.fieldAddr rfl rfl fo33_2) rfl ?_
  refine RL.val (Wanted.yes rfl rfl rfl rfl) (V.load rfl on3 rfl (by repeat (first | exact Pick.here | assumption | apply Pick.there)) (dg_9 (feed_length _ X first_length))) rfl ?_
  refine RL.cmpT (Wanted.yes rfl rfl rfl rfl) (V.bin rfl rfl rfl B.eql) rfl rfl ?_
  refine RL.val (Wanted.free rfl) (V.pick_true rfl rfl rfl) rfl ?_
  refine RL.val (Wanted.free rfl) (V.move rfl rfl) rfl ?_
  refine RL.val (Wanted.yes rfl rfl rfl rfl) (V.fieldAddr rfl rfl fo33_1) rfl ?_
  refine RL.val (Wanted.yes rfl rfl rfl rfl) (V.load rfl on22 rfl (by repeat (first | exact Pick.here | assumption | apply Pick.there)) (dg_8 (feed_length _ X first_length))) rfl ?_
  refine RL.val (Wanted.yes rfl rfl rfl rfl) (V.fieldAddr rfl rfl fo33_1) rfl ?_
  refine RL.val (Wanted.yes rfl rfl rfl rfl) (V.load rfl on22 rfl (by repeat (first | exact Pick.here | assumption | apply Pick.there)) (dg_8 (feed_length _ X first_length))) rfl ?_
  refine RL.eff (Wanted.yes rfl rfl rfl rfl) (E.call rfl go24 rfl (sameBytes_true (by repeat (first | exact List.Mem.head _ | assumption | apply List.Mem.tail)) (by repeat (first | exact List.Mem.head _ | assumption | apply List.Mem.tail)) rfl)) rfl ?_
  rintro _ _ ⟨rfl, rfl⟩
  refine RL.val (Wanted.free rfl) (V.pick_true rfl rfl rfl) rfl ?_
  refine RL.val (Wanted.free rfl) (V.assign rfl rfl) rfl ?_
  refine RL.nil ?_
  refine SG.retE (Ret.r1 Tryd.func19 rfl (.tmp rfl)) ?_ ⟨rfl, rfl⟩
  repeat (first | exact Ent.refl _ | (apply Ent.cons; (· repeat (first | exact Pick.here | (refine Pick.sl ?_; (· repeat (first | exact List.Mem.head _ | assumption | apply List.Mem.tail))) | apply Pick.there))) | (refine Ent.trans (Ent.drop _ _) ?_))

end Go.Proofs.YtbljfilkdhgcnaaDoor
