/- The writer. -/
import Derived.Test.YtilcnglcflohoaaFacts
import Derived.Test.YtilcnglcflohoaaPlain
namespace Go.Proofs.Ytilcnglcflohoaa
open Go.Wk Go.Wire

/-- A writer at block b that has collected l. -/
def Wr (b : Nat) (l : List UInt8) : Assn := Ex fun (x : Option Addr × Nat × Nat) => [Blk b 69 [.slice x.1 x.2.1 x.2.2], Buf R8 5 x.1 x.2.1 x.2.2 l]
section
variable {P : Program} {f : FuncId} {n : Nat} {κ : World} {K : Post} {k : List Item} {L L1 : List Assn} {al : List (Nat × Value)} {b : Nat} {l : List UInt8} {ops : Array Oper} {rest : List Oper}
theorem Wr.close {a : Option Addr} {m c : Nat} : Ent (Blk b 69 [.slice a m c] :: Buf R8 5 a m c l :: L) (Wr b l :: L) := Ex.close (ι := Option Addr × Nat × Nat) (A := fun x => [Blk b 69 [.slice x.1 x.2.1 x.2.2], Buf R8 5 x.1 x.2.1 x.2.2 l]) (a, m, c)
theorem SG.openWr (hp : Pick (Wr b l) L L1) (h : ∀ a m c, l.length = m → m ≤ c → c ≤ 9223372036854775807 → SG P f n κ K k al (Blk b 69 [.slice a m c] :: Buf R8 5 a m c l :: L1)) : SG P f n κ K k al L :=
  SG.openEx (ι := Option Addr × Nat × Nat) (A := fun x => [Blk b 69 [.slice x.1 x.2.1 x.2.2], Buf R8 5 x.1 x.2.1 x.2.2 l]) hp fun _ => SG.buf (Pick.there Pick.here) fun h1 h2 h3 => h _ _ _ h1 h2 h3
theorem Wr.ent {L' : List Assn} {a : Option Addr} {m c : Nat} (h : Ent L' (Blk b 69 [.slice a m c] :: Buf R8 5 a m c l :: L)) : Ent L' (Wr b l :: L) := h.trans Wr.close
end
set_option maxRecDepth 100000 in
theorem wUint_ok {κ : World} {L : List Assn} {L1 : List Assn} {b : Nat} {l : List UInt8} (n : UInt64) (hp : Pick (Wr b l) L L1) (hb : l.length + 10 ≤ 1000000000) :
    Ctr Try.prog 79 #[ptr b 0, v64 n] κ L (fun v M => v = .tuple #[] ∧ M = Wr b (l ++ enc n) :: L1) := by
 refine Ctr.enter (vs := [ptr b 0, v64 n]) (m := 35) Try.func79 rfl rfl rfl ?_
 refine SG.openWr hp fun a m c hl hmc hc => ?_
 refine SG.seq ?_
 refine SG.block ?_
 refine SG.weaken (SG.loop2 (fun m al M => ∃ (x : UInt64) (g : Nat) (a : Option Addr) (k c : Nat) (r : List UInt8), m = g ∧ x.toNat < 128 ^ (g + 1) ∧ r.length + g ≤ 9 ∧ r ++ uv g x.toNat = enc n ∧ al = [(0, ptr b 0), (1, v64 x)] ∧ M = Blk b 69 [.slice a k c] :: Buf R8 5 a k c (l ++ r) :: L1) (m0 := _) ⟨n, 9, a, m, c, [], rfl, lt_pow n, by simp, rfl, rfl, by rw [List.append_nil]⟩ ?_) ?_ ?_
 rotate_left
 ·
  repeat (first | exact EnvLe.nil _ | refine EnvLe.cons rfl ?_)
 ·
  exact entX
 rintro _ _ _ ⟨x, g, a, k, c, r, rfl, hx, hlg, hr, rfl, rfl⟩ ih0
 refine SG.buf pickX fun hk _ _ => ?_
 rw [List.length_append] at hk
 refine SG.seq ?_
 refine SG.seq ?_
 refine SG.region ?_
 refine RL.val (Wanted.free rfl) (V.move rfl rfl) rfl ?_
 refine RL.cmp (Wanted.free rfl) (V.bin rfl rfl rfl B.geq) rfl (fun h2 => ?_) (fun h2 => ?_)
 ·
  refine RL.nil ?_
  refine SG.cond_true rfl ?_
  refine SG.skip ?_
  refine SG.seq ?_
  refine SG.block ?_
  refine SG.region ?_
  refine RL.val (Wanted.free rfl) (V.move rfl rfl) rfl ?_
  refine RL.val (Wanted.free rfl) (V.move rfl rfl) rfl ?_
  refine RL.val (Wanted.free rfl) (V.nilCheck rfl rfl) rfl ?_
  refine RL.val (Wanted.free rfl) (V.fieldAddr rfl rfl fo69_0) rfl ?_
  refine RL.val (Wanted.free rfl) (V.fieldAddr rfl rfl fo67_0) rfl ?_
  refine RL.val (Wanted.free rfl) (V.load rfl on65 rfl pickX rfl) rfl ?_
  refine RL.val (Wanted.free rfl) (V.move rfl rfl) rfl ?_
  refine RL.val (Wanted.free rfl) (V.to8 rfl ⟨_, ui107⟩ ui5 rfl) rfl ?_
  refine RL.val (Wanted.free rfl) (V.bin rfl rfl rfl (B.or8 (y := 128))) rfl ?_
  refine RL.eff (Wanted.free rfl) (E.lit1 _ rfl el65.slice ze5 rfl (by decide) (by decide) rfl rfl rfl) rfl ?_
  rintro _ _ ⟨b12, rfl, rfl⟩
  refine RL.eff (Wanted.free rfl) (E.append (T := R8) rfl rfl rfl el65 el65.noInt rfl rfl pickX (Src.lit pickX (by first | trivial | assumption | omega)) (by first | omega | (simp; omega)) (by first | omega | (simp; omega))) rfl ?_
  intro _ _ hK13
  try rw [List.nil_append] at hK13
  try rw [Nat.zero_add] at hK13
  rw [byte_or] at hK13
  obtain ⟨a2, c2, rfl, rfl⟩ := hK13
  refine RL.val (Wanted.free rfl) (V.nilCheck rfl rfl) rfl ?_
  refine RL.val (Wanted.free rfl) (V.fieldAddr rfl rfl fo69_0) rfl ?_
  refine RL.val (Wanted.free rfl) (V.fieldAddr rfl rfl fo67_0) rfl ?_
  refine RL.eff (Wanted.free rfl) (E.store1 rfl rfl rfl rfl rfl sz65 pickX rfl) rfl ?_
  rintro _ _ rfl
  refine RL.nil ?_
  refine SG.inBlock ?_
  refine SG.region ?_
  refine RL.val (Wanted.free rfl) (V.move rfl rfl) rfl ?_
  refine RL.val (Wanted.free rfl) (V.bin rfl rfl rfl (B.shr64 128 (by decide) (by decide))) rfl ?_
  refine RL.val (Wanted.free rfl) (V.assign rfl rfl) rfl ?_
  refine RL.nil ?_
  obtain ⟨g', rfl, hx', hu⟩ := uv_big (by omega) hx
  refine SG.weaken (ih0 _ _ _ ?_ ⟨x / 128, g', a2, k + 1, c2, r ++ [UInt8.ofNat (128 + x.toNat % 128)], rfl, ?_, ?_, ?_, rfl, rfl⟩) ?_ ?_
  ·
   omega
  ·
   rw [UInt64.toNat_div]; exact hx'
  ·
   simp; omega
  ·
   rw [UInt64.toNat_div, ← hr, hu]; simp
  ·
   repeat (first | exact EnvLe.nil _ | refine EnvLe.cons rfl ?_)
  ·
   rw [← List.append_assoc]
   exact entX
 ·
  refine RL.nil ?_
  refine SG.cond_false rfl ?_
  refine SG.exit rfl ?_
  refine SG.region ?_
  refine RL.val (Wanted.free rfl) (V.move rfl rfl) rfl ?_
  refine RL.val (Wanted.free rfl) (V.move rfl rfl) rfl ?_
  refine RL.val (Wanted.free rfl) (V.nilCheck rfl rfl) rfl ?_
  refine RL.val (Wanted.free rfl) (V.fieldAddr rfl rfl fo69_0) rfl ?_
  refine RL.val (Wanted.free rfl) (V.fieldAddr rfl rfl fo67_0) rfl ?_
  refine RL.val (Wanted.free rfl) (V.load rfl on65 rfl pickX rfl) rfl ?_
  refine RL.val (Wanted.free rfl) (V.move rfl rfl) rfl ?_
  refine RL.val (Wanted.free rfl) (V.to8 rfl ⟨_, ui107⟩ ui5 rfl) rfl ?_
  refine RL.eff (Wanted.free rfl) (E.lit1 _ rfl el65.slice ze5 rfl (by decide) (by decide) rfl rfl rfl) rfl ?_
  rintro _ _ ⟨b29, rfl, rfl⟩
  refine RL.eff (Wanted.free rfl) (E.append (T := R8) rfl rfl rfl el65 el65.noInt rfl rfl pickX (Src.lit pickX (by first | trivial | assumption | omega)) (by first | omega | (simp; omega)) (by first | omega | (simp; omega))) rfl ?_
  intro _ _ hK30
  try rw [List.nil_append] at hK30
  try rw [Nat.zero_add] at hK30
  rw [byte_lo, show l ++ r ++ [UInt8.ofNat x.toNat] = l ++ enc n from by rw [← hr, uv_small (by omega), List.append_assoc]] at hK30
  obtain ⟨a2, c2, rfl, rfl⟩ := hK30
  refine RL.val (Wanted.free rfl) (V.nilCheck rfl rfl) rfl ?_
  refine RL.val (Wanted.free rfl) (V.fieldAddr rfl rfl fo69_0) rfl ?_
  refine RL.val (Wanted.free rfl) (V.fieldAddr rfl rfl fo67_0) rfl ?_
  refine RL.eff (Wanted.free rfl) (E.store1 rfl rfl rfl rfl rfl sz65 pickX rfl) rfl ?_
  rintro _ _ rfl
  refine RL.nil ?_
  refine SG.doneE (Ret.none Try.func79 rfl) ?_ ⟨rfl, rfl⟩
  apply Wr.ent
  exact entX

set_option maxRecDepth 100000 in
theorem wInt_ok {κ : World} {L : List Assn} {L1 : List Assn} {b : Nat} {l : List UInt8} (n : Int) (hp : Pick (Wr b l) L L1) (hb : l.length + 10 ≤ 1000000000) (h1 : -9223372036854775808 ≤ n) (h2 : n ≤ 9223372036854775807) :
    Ctr Try.prog 42 #[ptr b 0, vI n] κ L (fun v M => v = .tuple #[] ∧ M = Wr b (l ++ enc (zig n)) :: L1) := by
 refine Ctr.enter (vs := [ptr b 0, vI n]) (m := 13) Try.func42 rfl rfl rfl ?_
 refine SG.region ?_
 refine RL.val (Wanted.free rfl) (V.move rfl rfl) rfl ?_
 refine RL.val (Wanted.free rfl) (V.move rfl rfl) rfl ?_
 refine RL.val (Wanted.free rfl) (V.to64 rfl ⟨_, ui3⟩ ui107 rfl) rfl ?_
 refine RL.val (Wanted.free rfl) (V.bin rfl rfl rfl (B.shl64 2 (by decide) (by decide))) rfl ?_
 refine RL.val (Wanted.free rfl) (V.move rfl rfl) rfl ?_
 refine RL.val (Wanted.free rfl) (V.bin rfl rfl rfl (B.shrI63 h1 h2)) rfl ?_
 refine RL.val (Wanted.free rfl) (V.to64 rfl ⟨_, ui3⟩ ui107 rfl) rfl ?_
 refine RL.val (Wanted.free rfl) (V.bin rfl rfl rfl (B.xor64)) rfl ?_
 rw [zig_code h1 h2]
 refine RL.eff (Wanted.free rfl) (E.call rfl go79 rfl (wUint_ok _ hp hb)) rfl ?_
 rintro _ _ ⟨rfl, rfl⟩
 refine RL.nil ?_
 refine SG.doneE (Ret.none Try.func42 rfl) ?_ ⟨rfl, rfl⟩
 exact entX

set_option maxRecDepth 100000 in
theorem wBool_ok {κ : World} {L : List Assn} {L1 : List Assn} {b : Nat} {l : List UInt8} (t : Bool) (hp : Pick (Wr b l) L L1) (hb : l.length + 10 ≤ 1000000000) :
    Ctr Try.prog 41 #[ptr b 0, vB t] κ L (fun v M => v = .tuple #[] ∧ M = Wr b (l ++ encBool t) :: L1) := by
 refine Ctr.enter (vs := [ptr b 0, vB t]) (m := 27) Try.func41 rfl rfl rfl ?_
 refine SG.openWr hp fun a m c hl hmc hc => ?_
 refine SG.seq ?_
 refine SG.seq ?_
 refine SG.region ?_
 refine RL.val (Wanted.free rfl) (V.move rfl rfl) rfl ?_
 refine RL.nil ?_
 refine SG.cond rfl (fun h2 => ?_) (fun h2 => ?_)
 ·
  have h1 := h2
  refine SG.seq ?_
  refine SG.region ?_
  refine RL.val (Wanted.free rfl) (V.move rfl rfl) rfl ?_
  refine RL.val (Wanted.free rfl) (V.move rfl rfl) rfl ?_
  refine RL.val (Wanted.free rfl) (V.nilCheck rfl rfl) rfl ?_
  refine RL.val (Wanted.free rfl) (V.fieldAddr rfl rfl fo69_0) rfl ?_
  refine RL.val (Wanted.free rfl) (V.fieldAddr rfl rfl fo67_0) rfl ?_
  refine RL.val (Wanted.free rfl) (V.load rfl on65 rfl pickX rfl) rfl ?_
  refine RL.eff (Wanted.free rfl) (E.lit1 _ rfl el65.slice ze5 rfl (by decide) (by decide) rfl rfl rfl) rfl ?_
  rintro _ _ ⟨b9, rfl, rfl⟩
  refine RL.eff (Wanted.free rfl) (E.append (T := R8) rfl rfl rfl el65 el65.noInt rfl rfl pickX (Src.lit (x := 1) pickX (by first | trivial | assumption | omega)) (by first | omega | (simp; omega)) (by first | omega | (simp; omega))) rfl ?_
  intro _ _ hK10
  try rw [List.nil_append] at hK10
  try rw [Nat.zero_add] at hK10
  rw [show l ++ [1] = l ++ encBool t from by rw [h1]; rfl] at hK10
  obtain ⟨a10, c10, rfl, rfl⟩ := hK10
  refine RL.val (Wanted.free rfl) (V.nilCheck rfl rfl) rfl ?_
  refine RL.val (Wanted.free rfl) (V.fieldAddr rfl rfl fo69_0) rfl ?_
  refine RL.val (Wanted.free rfl) (V.fieldAddr rfl rfl fo67_0) rfl ?_
  refine RL.eff (Wanted.free rfl) (E.store1 rfl rfl rfl rfl rfl sz65 pickX rfl) rfl ?_
  rintro _ _ rfl
  refine RL.nil ?_
  refine SG.retE (Ret.none Try.func41 rfl) ?_ ⟨rfl, rfl⟩
  apply Wr.ent
  exact entX
 ·
  have h1 := h2
  refine SG.skip ?_
  refine SG.region ?_
  refine RL.val (Wanted.free rfl) (V.move rfl rfl) rfl ?_
  refine RL.val (Wanted.free rfl) (V.move rfl rfl) rfl ?_
  refine RL.val (Wanted.free rfl) (V.nilCheck rfl rfl) rfl ?_
  refine RL.val (Wanted.free rfl) (V.fieldAddr rfl rfl fo69_0) rfl ?_
  refine RL.val (Wanted.free rfl) (V.fieldAddr rfl rfl fo67_0) rfl ?_
  refine RL.val (Wanted.free rfl) (V.load rfl on65 rfl pickX rfl) rfl ?_
  refine RL.eff (Wanted.free rfl) (E.lit1 _ rfl el65.slice ze5 rfl (by decide) (by decide) rfl rfl rfl) rfl ?_
  rintro _ _ ⟨b21, rfl, rfl⟩
  refine RL.eff (Wanted.free rfl) (E.append (T := R8) rfl rfl rfl el65 el65.noInt rfl rfl pickX (Src.lit (x := 0) pickX (by first | trivial | assumption | omega)) (by first | omega | (simp; omega)) (by first | omega | (simp; omega))) rfl ?_
  intro _ _ hK22
  try rw [List.nil_append] at hK22
  try rw [Nat.zero_add] at hK22
  rw [show l ++ [0] = l ++ encBool t from by rw [h1]; rfl] at hK22
  obtain ⟨a22, c22, rfl, rfl⟩ := hK22
  refine RL.val (Wanted.free rfl) (V.nilCheck rfl rfl) rfl ?_
  refine RL.val (Wanted.free rfl) (V.fieldAddr rfl rfl fo69_0) rfl ?_
  refine RL.val (Wanted.free rfl) (V.fieldAddr rfl rfl fo67_0) rfl ?_
  refine RL.eff (Wanted.free rfl) (E.store1 rfl rfl rfl rfl rfl sz65 pickX rfl) rfl ?_
  rintro _ _ rfl
  refine RL.nil ?_
  refine SG.doneE (Ret.none Try.func41 rfl) ?_ ⟨rfl, rfl⟩
  apply Wr.ent
  exact entX

set_option maxRecDepth 100000 in
theorem wText_ok {κ : World} {L : List Assn} {L1 : List Assn} {b : Nat} {l : List UInt8} (s : List UInt8) (hp : Pick (Wr b l) L L1) (hb : l.length + s.length + 10 ≤ 1000000000) :
    Ctr Try.prog 43 #[ptr b 0, vS s] κ L (fun v M => v = .tuple #[] ∧ M = Wr b (l ++ encText s) :: L1) := by
 refine Ctr.enter (vs := [ptr b 0, vS s]) (m := 20) Try.func43 rfl rfl rfl ?_
 refine SG.seq ?_
 refine SG.region ?_
 refine RL.val (Wanted.free rfl) (V.move rfl rfl) rfl ?_
 refine RL.val (Wanted.free rfl) (V.move rfl rfl) rfl ?_
 refine RL.val (Wanted.free rfl) (V.lenS rfl rfl us9 rfl) rfl ?_
 refine RL.val (Wanted.free rfl) (V.to64 rfl ⟨_, ui3⟩ ui107 rfl) rfl ?_
 rw [len64]
 refine RL.eff (Wanted.free rfl) (E.call rfl go79 rfl (wUint_ok _ hp (by omega))) rfl ?_
 rintro _ _ ⟨rfl, rfl⟩
 refine RL.nil ?_
 refine SG.openWr pickX fun a m c hl hmc hc => ?_
 have hle := enc_length (UInt64.ofNat s.length)
 rw [List.length_append] at hl
 refine SG.region ?_
 refine RL.val (Wanted.free rfl) (V.move rfl rfl) rfl ?_
 refine RL.val (Wanted.free rfl) (V.move rfl rfl) rfl ?_
 refine RL.val (Wanted.free rfl) (V.nilCheck rfl rfl) rfl ?_
 refine RL.val (Wanted.free rfl) (V.fieldAddr rfl rfl fo69_0) rfl ?_
 refine RL.val (Wanted.free rfl) (V.fieldAddr rfl rfl fo67_0) rfl ?_
 refine RL.val (Wanted.free rfl) (V.load rfl on65 rfl pickX rfl) rfl ?_
 refine RL.val (Wanted.free rfl) (V.move rfl rfl) rfl ?_
 refine RL.eff (Wanted.free rfl) (E.append (T := R8) rfl rfl rfl el65 ni9 rfl rfl pickX Src.str (by first | omega | (simp; omega)) (by first | omega | (simp; omega))) rfl ?_
 intro _ _ hK13
 try rw [List.nil_append] at hK13
 try rw [Nat.zero_add] at hK13
 rw [List.append_assoc] at hK13
 obtain ⟨a13, c13, rfl, rfl⟩ := hK13
 refine RL.val (Wanted.free rfl) (V.nilCheck rfl rfl) rfl ?_
 refine RL.val (Wanted.free rfl) (V.fieldAddr rfl rfl fo69_0) rfl ?_
 refine RL.val (Wanted.free rfl) (V.fieldAddr rfl rfl fo67_0) rfl ?_
 refine RL.eff (Wanted.free rfl) (E.store1 rfl rfl rfl rfl rfl sz65 pickX rfl) rfl ?_
 rintro _ _ rfl
 refine RL.nil ?_
 refine SG.doneE (Ret.none Try.func43 rfl) ?_ ⟨rfl, rfl⟩
 apply Wr.ent
 exact entX

set_option maxRecDepth 100000 in
theorem wInts_ok {κ : World} {L : List Assn} {L1 : List Assn} {b : Nat} {l : List UInt8} {a : Option Addr} {m c : Nat} {ls : List Int} (hp : Pick (Wr b l) L L1) (hm : Sl RI a m c ls ∈ L1) (hi : ∀ x ∈ ls, inInt x) (hb : l.length + 10 * ls.length + 20 ≤ 1000000000) :
    Ctr Try.prog 40 #[ptr b 0, .slice a m c] κ L (fun v M => v = .tuple #[] ∧ M = Wr b (l ++ encInts ls) :: L1) := by
 refine Ctr.enter (vs := [ptr b 0, .slice a m c]) (m := 21) Try.func40 rfl rfl rfl ?_
 refine SG.ent hp ?_
 refine SG.sl (List.Mem.tail _ hm) fun hl _ _ => ?_
 subst hl
 have hle := enc_length (UInt64.ofNat ls.length)
 refine SG.seq ?_
 refine SG.region ?_
 refine RL.val (Wanted.free rfl) (V.move rfl rfl) rfl ?_
 refine RL.val (Wanted.free rfl) (V.move rfl rfl) rfl ?_
 refine RL.val (Wanted.free rfl) (V.len rfl rfl el22.under rfl) rfl ?_
 refine RL.val (Wanted.free rfl) (V.to64 rfl ⟨_, ui3⟩ ui107 rfl) rfl ?_
 rw [len64]
 refine RL.eff (Wanted.free rfl) (E.call rfl go79 rfl (wUint_ok _ pickX (by omega))) rfl ?_
 rintro _ _ ⟨rfl, rfl⟩
 refine RL.nil ?_
 refine SG.seq ?_
 refine SG.region ?_
 refine RL.val (Wanted.free rfl) (V.move rfl rfl) rfl ?_
 refine RL.val (Wanted.free rfl) (V.len rfl rfl el22.under rfl) rfl ?_
 refine RL.val (Wanted.free rfl) (V.move rfl rfl) rfl ?_
 refine RL.nil ?_
 refine SG.block ?_
 refine SG.weaken (SG.loop2 (fun m al M => ∃ i : Nat, i ≤ ls.length ∧ m = ls.length - i ∧ al = [(0, ptr b 0), (11, .slice a ls.length c), (12, vI ls.length), (13, vI i)] ∧ M = Wr b (l ++ enc (UInt64.ofNat ls.length) ++ encList (ls.take i)) :: L1) (m0 := _) ⟨0, by omega, rfl, rfl, rfl⟩ ?_) ?_ ?_
 rotate_left
 ·
  repeat (first | exact EnvLe.nil _ | refine EnvLe.cons rfl ?_)
 ·
  rw [List.take_zero, show encList [] = [] from rfl, List.append_nil]
  exact entX
 rintro _ _ _ ⟨i, hil, rfl, rfl, rfl⟩ ih0
 refine SG.seq ?_
 refine SG.region ?_
 refine RL.cmp (Wanted.free rfl) (V.bin rfl rfl rfl B.lss) rfl (fun h9 => ?_) (fun h9 => ?_)
 ·
  refine RL.nil ?_
  refine SG.seq ?_
  refine SG.cond_true rfl ?_
  refine SG.skip ?_
  refine SG.seq ?_
  refine SG.block ?_
  refine SG.seq ?_
  refine SG.region ?_
  refine RL.val (Wanted.free rfl) (V.indexSl rfl el22.slice rfl rfl memX (by first | rfl | omega) (by omega)) rfl ?_
  refine RL.val (Wanted.free rfl) (V.loadSc rfl on3 rfl memX (List.getElem?_eq_getElem (by omega))) rfl ?_
  refine RL.val (Wanted.free rfl) (V.assign rfl rfl) rfl ?_
  refine RL.nil ?_
  refine SG.region ?_
  refine RL.val (Wanted.free rfl) (V.move rfl rfl) rfl ?_
  refine RL.val (Wanted.free rfl) (V.move rfl rfl) rfl ?_
  have hin := hi ls[i] (List.getElem_mem _)
  have hel := encList_length (ls.take i)
  rw [List.length_take] at hel
  refine RL.eff (Wanted.free rfl) (E.call rfl go42 rfl (wInt_ok _ pickX (by simp only [List.length_append]; omega) hin.1 hin.2)) rfl ?_
  rintro _ _ ⟨rfl, rfl⟩
  refine RL.nil ?_
  refine SG.inBlock ?_
  refine SG.region ?_
  refine RL.val (Wanted.free rfl) (V.bin rfl rfl rfl (B.addI (by omega) (by omega))) rfl ?_
  refine RL.val (Wanted.free rfl) (V.move rfl rfl) rfl ?_
  refine RL.nil ?_
  refine SG.weaken (ih0 _ _ _ ?_ ⟨i + 1, by omega, rfl, rfl, rfl⟩) ?_ ?_
  ·
   omega
  ·
   repeat (first | exact EnvLe.nil _ | refine EnvLe.cons rfl ?_)
  ·
   rw [show l ++ enc (UInt64.ofNat ls.length) ++ encList (ls.take (i + 1)) = l ++ enc (UInt64.ofNat ls.length) ++ encList (ls.take i) ++ enc (zig ls[i]) from by rw [List.take_add_one, List.getElem?_eq_getElem (by omega), Option.toList_some, encList_snoc]; simp only [List.append_assoc]]
   exact entX
 ·
  refine RL.nil ?_
  refine SG.seq ?_
  refine SG.cond_false rfl ?_
  refine SG.exit rfl ?_
  refine SG.doneE (Ret.none Try.func40 rfl) ?_ ⟨rfl, rfl⟩
  rw [show i = ls.length from by omega, List.take_length, List.append_assoc]
  exact entX

set_option maxRecDepth 100000 in
theorem clone_ok {κ : World} {L : List Assn} {a : Option Addr} {m c : Nat} {l : List UInt8} (hsrc : Src Try.prog L R8 (.slice a m c) l) (hl : l.length = m) (hn : a = none → m = 0) (hb : m ≤ 100000000000) :
    Ctr Try.prog 80 #[.slice a m c] κ L (fun v M => ∃ a' c', v = .slice a' m c' ∧ M = Buf R8 5 a' m c' l :: L) := by
 refine Ctr.enter (vs := [.slice a m c]) (m := 8) Try.func80 rfl rfl rfl ?_
 refine SG.seq ?_
 refine SG.region ?_
 refine RL.val (Wanted.free rfl) (V.assign rfl rfl) rfl ?_
 refine RL.nil ?_
 refine SG.seq ?_
 refine SG.seq ?_
 refine SG.region ?_
 refine RL.val (Wanted.free rfl) (V.move rfl rfl) rfl ?_
 refine RL.val (Wanted.free rfl) (V.eqlNil rfl el65.under rfl rfl) rfl ?_
 refine RL.nil ?_
 refine SG.cond rfl (fun h4 => ?_) (fun h4 => ?_)
 ·
  have ha : a = none := by simpa using h4
  have hm0 := hn ha
  have hl0 : l = [] := List.eq_nil_of_length_eq_zero (by omega)
  subst hm0; subst hl0
  refine SG.ent (Buf.nil (T := R8) (e := 5)) ?_
  refine SG.seq ?_
  refine SG.region ?_
  refine RL.val (Wanted.free rfl) (V.assign rfl rfl) rfl ?_
  refine RL.nil ?_
  refine SG.retE (Ret.r1 Try.func80 rfl (.tmp rfl)) ?_ ⟨_, _, rfl, rfl⟩
  exact entX
 ·
  refine SG.skip ?_
  refine SG.seq ?_
  refine SG.region ?_
  refine RL.eff (Wanted.free rfl) (E.lit0 (T := R8) rfl rfl el65) rfl ?_
  rintro _ _ ⟨b6, rfl, rfl⟩
  refine RL.val (Wanted.free rfl) (V.move rfl rfl) rfl ?_
  refine RL.eff (Wanted.free rfl) (E.append (T := R8) rfl rfl rfl el65 el65.noInt rfl rfl pickX (hsrc.weaken (by intro z h H; exact Ent.drop _ _ z h H)) (by simp; omega) (by simp; omega)) rfl ?_
  intro _ _ hK8
  try rw [List.nil_append] at hK8
  try rw [Nat.zero_add] at hK8
  rw [hl] at hK8
  obtain ⟨a8, c8, rfl, rfl⟩ := hK8
  refine RL.val (Wanted.free rfl) (V.assign rfl rfl) rfl ?_
  refine RL.nil ?_
  refine SG.retE (Ret.r1 Try.func80 rfl (.tmp rfl)) ?_ ⟨_, _, rfl, rfl⟩
  exact entX

set_option maxRecDepth 100000 in
theorem done_ok {κ : World} {L : List Assn} {L1 : List Assn} {b : Nat} {l : List UInt8} (hp : Pick (Wr b l) L L1) (hb : l.length ≤ 100000000000) :
    Ctr Try.prog 45 #[ptr b 0] κ L (fun v M => ∃ a' k' c', v = .slice a' k' c' ∧ M = Buf R8 5 a' k' c' l :: Wr b l :: L1) := by
 refine Ctr.enter (vs := [ptr b 0]) (m := 8) Try.func45 rfl rfl rfl ?_
 refine SG.openWr hp fun a m c hl hmc hc => ?_
 refine SG.fact (p := a = none → m = 0) (fun w hs => hs.bufN (Pick.there Pick.here)) fun hn => ?_
 refine SG.seq ?_
 refine SG.region ?_
 refine RL.val (Wanted.free rfl) (V.assign rfl rfl) rfl ?_
 refine RL.nil ?_
 refine SG.seq ?_
 refine SG.region ?_
 refine RL.val (Wanted.free rfl) (V.move rfl rfl) rfl ?_
 refine RL.val (Wanted.free rfl) (V.nilCheck rfl rfl) rfl ?_
 refine RL.val (Wanted.free rfl) (V.fieldAddr rfl rfl fo67_0) rfl ?_
 refine RL.val (Wanted.free rfl) (V.load rfl on65 rfl pickX rfl) rfl ?_
 refine RL.eff (Wanted.free rfl) (E.call rfl go80 rfl (clone_ok (Src.buf (by decide) (Pick.there Pick.here)) hl hn (by omega))) rfl ?_
 rintro _ _ ⟨a2, c2, rfl, rfl⟩
 refine RL.val (Wanted.free rfl) (V.assign rfl rfl) rfl ?_
 refine RL.nil ?_
 refine SG.retE (Ret.r1 Try.func45 rfl (.tmp rfl)) ?_ ⟨_, _, _, rfl, rfl⟩
 refine Ent.frame _ ?_
 apply Wr.ent
 exact entX

end Go.Proofs.Ytilcnglcflohoaa
