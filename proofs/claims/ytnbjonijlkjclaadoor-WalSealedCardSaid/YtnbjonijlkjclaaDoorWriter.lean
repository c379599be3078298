/- The writer. -/
import Derived.Test.YtnbjonijlkjclaaDoorFacts
import Derived.Test.YtnbjonijlkjclaaDoorPlain
namespace Go.Proofs.YtnbjonijlkjclaaDoor
open Go.Wk Go.Wire

/-- A writer at block b that has collected l. -/
def Wr (b : Nat) (l : List UInt8) : Assn := Ex fun (x : Option Addr × Nat × Nat) => [Blk b 67 [.slice x.1 x.2.1 x.2.2], Buf R8 5 x.1 x.2.1 x.2.2 l]
section
variable {P : Program} {f : FuncId} {n : Nat} {κ : World} {K : Post} {k : List Item} {L L1 : List Assn} {al : List (Nat × Value)} {b : Nat} {l : List UInt8} {ops : Array Oper} {rest : List Oper}
theorem Wr.close {a : Option Addr} {m c : Nat} : Ent (Blk b 67 [.slice a m c] :: Buf R8 5 a m c l :: L) (Wr b l :: L) := Ex.close (ι := Option Addr × Nat × Nat) (A := fun x => [Blk b 67 [.slice x.1 x.2.1 x.2.2], Buf R8 5 x.1 x.2.1 x.2.2 l]) (a, m, c)
theorem SG.openWr (hp : Pick (Wr b l) L L1) (h : ∀ a m c, l.length = m → m ≤ c → c ≤ 9223372036854775807 → SG P f n κ K k al (Blk b 67 [.slice a m c] :: Buf R8 5 a m c l :: L1)) : SG P f n κ K k al L :=
  SG.openEx (ι := Option Addr × Nat × Nat) (A := fun x => [Blk b 67 [.slice x.1 x.2.1 x.2.2], Buf R8 5 x.1 x.2.1 x.2.2 l]) hp fun _ => SG.buf (Pick.there Pick.here) fun h1 h2 h3 => h _ _ _ h1 h2 h3
theorem Wr.ent {L' : List Assn} {a : Option Addr} {m c : Nat} (h : Ent L' (Blk b 67 [.slice a m c] :: Buf R8 5 a m c l :: L)) : Ent L' (Wr b l :: L) := h.trans Wr.close
end
set_option maxRecDepth 100000 in
theorem wUint_ok {κ : World} {L : List Assn} {L1 : List Assn} {b : Nat} {l : List UInt8} (n : UInt64) (hp : Pick (Wr b l) L L1) (hb : l.length + 10 ≤ 1000000000) :
    Ctr Tryd.prog 45 #[ptr b 0, v64 n] κ L (fun v M => v = .tuple #[] ∧ M = Wr b (l ++ enc n) :: L1) := by
 refine Ctr.enter (vs := [ptr b 0, v64 n]) (m := 35) Tryd.func45 rfl rfl rfl ?_
 refine SG.openWr hp fun a m c hl hmc hc => ?_
 refine SG.seq ?_
 refine SG.block ?_
 refine SG.weaken (SG.loop2 (fun m al M => ∃ (x : UInt64) (g : Nat) (a : Option Addr) (k c : Nat) (r : List UInt8), m = g ∧ x.toNat < 128 ^ (g + 1) ∧ r.length + g ≤ 9 ∧ r ++ uv g x.toNat = enc n ∧ al = [(0, ptr b 0), (1, v64 x)] ∧ M = Blk b 67 [.slice a k c] :: Buf R8 5 a k c (l ++ r) :: L1) (m0 := _) ⟨n, 9, a, m, c, [], rfl, lt_pow n, by simp, rfl, rfl, by rw [List.append_nil]⟩ ?_) ?_ ?_
 rotate_left
 ·
  repeat (first | exact EnvLe.nil _ | refine EnvLe.cons rfl ?_)
 ·
  exact entX
 rintro _ _ _ ⟨x, g, a, k, c, r, rfl, hx, hlg, hr, rfl, rfl⟩ ih0
 refine SG.buf pickX fun hk _ _ => ?_
 rw [List.length_append] at hk
 refine SG.seq ?_
 refine SG.seq ?_
 refine SG.region ?_
 refine RL.val (Wanted.free rfl) (V.move rfl rfl) rfl ?_
 refine RL.cmp (Wanted.free rfl) (V.bin rfl rfl rfl B.geq) rfl (fun h2 => ?_) (fun h2 => ?_)
 ·
  refine RL.nil ?_
  refine SG.cond_true rfl ?_
  refine SG.skip ?_
  refine SG.seq ?_
  refine SG.block ?_
  refine SG.region ?_
  refine RL.val (Wanted.free rfl) (V.move rfl rfl) rfl ?_
  refine RL.val (Wanted.free rfl) (V.move rfl rfl) rfl ?_
  refine RL.val (Wanted.free rfl) (V.nilCheck rfl rfl) rfl ?_
  refine RL.val (Wanted.free rfl) (V.fieldAddr rfl rfl fo67_0) rfl ?_
  refine RL.val (Wanted.free rfl) (V.fieldAddr rfl rfl fo65_0) rfl ?_
  refine RL.val (Wanted.free rfl) (V.load rfl on34 rfl pickX rfl) rfl ?_
  refine RL.val (Wanted.free rfl) (V.move rfl rfl) rfl ?_
  refine RL.val (Wanted.free rfl) (V.to8 rfl ⟨_, ui59⟩ ui5 rfl) rfl ?_
  refine RL.val (Wanted.free rfl) (V.bin rfl rfl rfl (B.or8 (y := 128))) rfl ?_
  refine RL.eff (Wanted.free rfl) (E.lit1 _ rfl el34.slice ze5 rfl (by decide) (by decide) rfl rfl rfl) rfl ?_
  rintro _ _ ⟨b12, rfl, rfl⟩
  refine RL.eff (Wanted.free rfl) (E.append (T := R8) rfl rfl rfl el34 el34.noInt rfl rfl pickX (Src.lit pickX (by first | trivial | assumption | omega)) (by first | omega | (simp; omega)) (by first | omega | (simp; omega))) rfl ?_
  intro _ _ hK13
  try rw [List.nil_append] at hK13
  try rw [Nat.zero_add] at hK13
  rw [byte_or] at hK13
  obtain ⟨a2, c2, rfl, rfl⟩ := hK13
  refine RL.val (Wanted.free rfl) (V.nilCheck rfl rfl) rfl ?_
  refine RL.val (Wanted.free rfl) (V.fieldAddr rfl rfl fo67_0) rfl ?_
  refine RL.val (Wanted.free rfl) (V.fieldAddr rfl rfl fo65_0) rfl ?_
  refine RL.eff (Wanted.free rfl) (E.store1 rfl rfl rfl rfl rfl sz34 pickX rfl) rfl ?_
  rintro _ _ rfl
  refine RL.nil ?_
  refine SG.inBlock ?_
  refine SG.region ?_
  refine RL.val (Wanted.free rfl) (V.move rfl rfl) rfl ?_
  refine RL.val (Wanted.free rfl) (V.bin rfl rfl rfl (B.shr64 128 (by decide) (by decide))) rfl ?_
  refine RL.val (Wanted.free rfl) (V.assign rfl rfl) rfl ?_
  refine RL.nil ?_
  obtain ⟨g', rfl, hx', hu⟩ := uv_big (by omega) hx
  refine SG.weaken (ih0 _ _ _ ?_ ⟨x / 128, g', a2, k + 1, c2, r ++ [UInt8.ofNat (128 + x.toNat % 128)], rfl, ?_, ?_, ?_, rfl, rfl⟩) ?_ ?_
  ·
   omega
  ·
   rw [UInt64.toNat_div]; exact hx'
  ·
   simp; omega
  ·
   rw [UInt64.toNat_div, ← hr, hu]; simp
  ·
   repeat (first | exact EnvLe.nil _ | refine EnvLe.cons rfl ?_)
  ·
   rw [← List.append_assoc]
   exact entX
 ·
  refine RL.nil ?_
  refine SG.cond_false rfl ?_
  refine SG.exit rfl ?_
  refine SG.region ?_
  refine RL.val (Wanted.free rfl) (V.move rfl rfl) rfl ?_
  refine RL.val (Wanted.free rfl) (V.move rfl rfl) rfl ?_
  refine RL.val (Wanted.free rfl) (V.nilCheck rfl rfl) rfl ?_
  refine RL.val (Wanted.free rfl) (V.fieldAddr rfl rfl fo67_0) rfl ?_
  refine RL.val (Wanted.free rfl) (V.fieldAddr rfl rfl fo65_0) rfl ?_
  refine RL.val (Wanted.free rfl) (V.load rfl on34 rfl pickX rfl) rfl ?_
  refine RL.val (Wanted.free rfl) (V.move rfl rfl) rfl ?_
  refine RL.val (Wanted.free rfl) (V.to8 rfl ⟨_, ui59⟩ ui5 rfl) rfl ?_
  refine RL.eff (Wanted.free rfl) (E.lit1 _ rfl el34.slice ze5 rfl (by decide) (by decide) rfl rfl rfl) rfl ?_
  rintro _ _ ⟨b29, rfl, rfl⟩
  refine RL.eff (Wanted.free rfl) (E.append (T := R8) rfl rfl rfl el34 el34.noInt rfl rfl pickX (Src.lit pickX (by first | trivial | assumption | omega)) (by first | omega | (simp; omega)) (by first | omega | (simp; omega))) rfl ?_
  intro _ _ hK30
  try rw [List.nil_append] at hK30
  try rw [Nat.zero_add] at hK30
  rw [byte_lo, show l ++ r ++ [UInt8.ofNat x.toNat] = l ++ enc n from by rw [← hr, uv_small (by omega), List.append_assoc]] at hK30
  obtain ⟨a2, c2, rfl, rfl⟩ := hK30
  refine RL.val (Wanted.free rfl) (V.nilCheck rfl rfl) rfl ?_
  refine RL.val (Wanted.free rfl) (V.fieldAddr rfl rfl fo67_0) rfl ?_
  refine RL.val (Wanted.free rfl) (V.fieldAddr rfl rfl fo65_0) rfl ?_
  refine RL.eff (Wanted.free rfl) (E.store1 rfl rfl rfl rfl rfl sz34 pickX rfl) rfl ?_
  rintro _ _ rfl
  refine RL.nil ?_
  refine SG.doneE (Ret.none Tryd.func45 rfl) ?_ ⟨rfl, rfl⟩
  apply Wr.ent
  exact entX

set_option maxRecDepth 100000 in
theorem wText_ok {κ : World} {L : List Assn} {L1 : List Assn} {b : Nat} {l : List UInt8} (s : List UInt8) (hp : Pick (Wr b l) L L1) (hb : l.length + s.length + 10 ≤ 1000000000) :
    Ctr Tryd.prog 24 #[ptr b 0, vS s] κ L (fun v M => v = .tuple #[] ∧ M = Wr b (l ++ encText s) :: L1) := by
 refine Ctr.enter (vs := [ptr b 0, vS s]) (m := 20) Tryd.func24 rfl rfl rfl ?_
 refine SG.seq ?_
 refine SG.region ?_
 refine RL.val (Wanted.free rfl) (V.move rfl rfl) rfl ?_
 refine RL.val (Wanted.free rfl) (V.move rfl rfl) rfl ?_
 refine RL.val (Wanted.free rfl) (V.lenS rfl rfl us9 rfl) rfl ?_
 refine RL.val (Wanted.free rfl) (V.to64 rfl ⟨_, ui3⟩ ui59 rfl) rfl ?_
 rw [len64]
 refine RL.eff (Wanted.free rfl) (E.call rfl go45 rfl (wUint_ok _ hp (by omega))) rfl ?_
 rintro _ _ ⟨rfl, rfl⟩
 refine RL.nil ?_
 refine SG.openWr pickX fun a m c hl hmc hc => ?_
 have hle := enc_length (UInt64.ofNat s.length)
 rw [List.length_append] at hl
 refine SG.region ?_
 refine RL.val (Wanted.free rfl) (V.move rfl rfl) rfl ?_
 refine RL.val (Wanted.free rfl) (V.move rfl rfl) rfl ?_
 refine RL.val (Wanted.free rfl) (V.nilCheck rfl rfl) rfl ?_
 refine RL.val (Wanted.free rfl) (V.fieldAddr rfl rfl fo67_0) rfl ?_
 refine RL.val (Wanted.free rfl) (V.fieldAddr rfl rfl fo65_0) rfl ?_
 refine RL.val (Wanted.free rfl) (V.load rfl on34 rfl pickX rfl) rfl ?_
 refine RL.val (Wanted.free rfl) (V.move rfl rfl) rfl ?_
 refine RL.eff (Wanted.free rfl) (E.append (T := R8) rfl rfl rfl el34 ni9 rfl rfl pickX Src.str (by first | omega | (simp; omega)) (by first | omega | (simp; omega))) rfl ?_
 intro _ _ hK13
 try rw [List.nil_append] at hK13
 try rw [Nat.zero_add] at hK13
 rw [List.append_assoc] at hK13
 obtain ⟨a13, c13, rfl, rfl⟩ := hK13
 refine RL.val (Wanted.free rfl) (V.nilCheck rfl rfl) rfl ?_
 refine RL.val (Wanted.free rfl) (V.fieldAddr rfl rfl fo67_0) rfl ?_
 refine RL.val (Wanted.free rfl) (V.fieldAddr rfl rfl fo65_0) rfl ?_
 refine RL.eff (Wanted.free rfl) (E.store1 rfl rfl rfl rfl rfl sz34 pickX rfl) rfl ?_
 rintro _ _ rfl
 refine RL.nil ?_
 refine SG.doneE (Ret.none Tryd.func24 rfl) ?_ ⟨rfl, rfl⟩
 apply Wr.ent
 exact entX

set_option maxRecDepth 100000 in
theorem clonew_ok {κ : World} {L : List Assn} {a : Option Addr} {m c : Nat} {l : List UInt8} (hsrc : Src Tryd.prog L R8 (.slice a m c) l) (hl : l.length = m) (hn : a = none → m = 0) (hb : m ≤ 100000000000) :
    Ctr Tryd.prog 37 #[.slice a m c] κ L (fun v M => ∃ a' c', v = .slice a' m c' ∧ M = Buf R8 5 a' m c' l :: L) := by
 refine Ctr.enter (vs := [.slice a m c]) (m := 8) Tryd.func37 rfl rfl rfl ?_
 refine SG.seq ?_
 refine SG.region ?_
 refine RL.val (Wanted.free rfl) (V.assign rfl rfl) rfl ?_
 refine RL.nil ?_
 refine SG.seq ?_
 refine SG.seq ?_
 refine SG.region ?_
 refine RL.val (Wanted.free rfl) (V.move rfl rfl) rfl ?_
 refine RL.val (Wanted.free rfl) (V.eqlNil rfl el34.under rfl rfl) rfl ?_
 refine RL.nil ?_
 refine SG.cond rfl (fun h4 => ?_) (fun h4 => ?_)
 ·
  have ha : a = none := by simpa using h4
  have hm0 := hn ha
  have hl0 : l = [] := List.eq_nil_of_length_eq_zero (by omega)
  subst hm0; subst hl0
  refine SG.ent (Buf.nil (T := R8) (e := 5)) ?_
  refine SG.seq ?_
  refine SG.region ?_
  refine RL.val (Wanted.free rfl) (V.assign rfl rfl) rfl ?_
  refine RL.nil ?_
  refine SG.retE (Ret.r1 Tryd.func37 rfl (.tmp rfl)) ?_ ⟨_, _, rfl, rfl⟩
  exact entX
 ·
  refine SG.skip ?_
  refine SG.seq ?_
  refine SG.region ?_
  refine RL.eff (Wanted.free rfl) (E.lit0 (T := R8) rfl rfl el34) rfl ?_
  rintro _ _ ⟨b6, rfl, rfl⟩
  refine RL.val (Wanted.free rfl) (V.move rfl rfl) rfl ?_
  refine RL.eff (Wanted.free rfl) (E.append (T := R8) rfl rfl rfl el34 el34.noInt rfl rfl pickX (hsrc.weaken (by intro z h H; exact Ent.drop _ _ z h H)) (by simp; omega) (by simp; omega)) rfl ?_
  intro _ _ hK8
  try rw [List.nil_append] at hK8
  try rw [Nat.zero_add] at hK8
  rw [hl] at hK8
  obtain ⟨a8, c8, rfl, rfl⟩ := hK8
  refine RL.val (Wanted.free rfl) (V.assign rfl rfl) rfl ?_
  refine RL.nil ?_
  refine SG.retE (Ret.r1 Tryd.func37 rfl (.tmp rfl)) ?_ ⟨_, _, rfl, rfl⟩
  exact entX

set_option maxRecDepth 100000 in
theorem done_ok {κ : World} {L : List Assn} {L1 : List Assn} {b : Nat} {l : List UInt8} (hp : Pick (Wr b l) L L1) (hb : l.length ≤ 100000000000) :
    Ctr Tryd.prog 25 #[ptr b 0] κ L (fun v M => ∃ a' k' c', v = .slice a' k' c' ∧ M = Buf R8 5 a' k' c' l :: Wr b l :: L1) := by
 refine Ctr.enter (vs := [ptr b 0]) (m := 8) Tryd.func25 rfl rfl rfl ?_
 refine SG.openWr hp fun a m c hl hmc hc => ?_
 refine SG.fact (p := a = none → m = 0) (fun w hs => hs.bufN (Pick.there Pick.here)) fun hn => ?_
 refine SG.seq ?_
 refine SG.region ?_
 refine RL.val (Wanted.free rfl) (V.assign rfl rfl) rfl ?_
 refine RL.nil ?_
 refine SG.seq ?_
 refine SG.region ?_
 refine RL.val (Wanted.free rfl) (V.move rfl rfl) rfl ?_
 refine RL.val (Wanted.free rfl) (V.nilCheck rfl rfl) rfl ?_
 refine RL.val (Wanted.free rfl) (V.fieldAddr rfl rfl fo65_0) rfl ?_
 refine RL.val (Wanted.free rfl) (V.load rfl on34 rfl pickX rfl) rfl ?_
 refine RL.eff (Wanted.free rfl) (E.call rfl go37 rfl (clonew_ok (Src.buf (by decide) (Pick.there Pick.here)) hl hn (by omega))) rfl ?_
 rintro _ _ ⟨a2, c2, rfl, rfl⟩
 refine RL.val (Wanted.free rfl) (V.assign rfl rfl) rfl ?_
 refine RL.nil ?_
 refine SG.retE (Ret.r1 Tryd.func25 rfl (.tmp rfl)) ?_ ⟨_, _, _, rfl, rfl⟩
 refine Ent.frame _ ?_
 apply Wr.ent
 exact entX

end Go.Proofs.YtnbjonijlkjclaaDoor
