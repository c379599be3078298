/- What the laws share. -/
import Derived.Test.YtnbjonijlkjclaaDoorApps
import Derived.Test.YtnbjonijlkjclaaDoorRecsw
import Derived.Test.YtnbjonijlkjclaaDoorOpensw
import Derived.Test.YtnbjonijlkjclaaDoorWPlain3
namespace Go.Proofs.YtnbjonijlkjclaaDoor
open Go.Wk Go.Wl Go.Dsk

/-- n modulo most, never negative. -/
def aroundV (n most : Int) : Int := (if n < 0 then -(n + 1) else n) % most
theorem aroundV_bd {n most : Int} (h : 0 < most) : 0 ≤ aroundV n most ∧ aroundV n most < most := ⟨Int.emod_nonneg _ (by omega), Int.emod_lt_of_pos _ h⟩
theorem aroundV_nat {n most : Int} (h : 0 < most) : ∃ q : Nat, aroundV n most = (q : Int) ∧ (q : Int) < most := by
  obtain ⟨h1, h2⟩ := aroundV_bd (n := n) h
  obtain ⟨q, hq⟩ := Int.eq_ofNat_of_zero_le h1
  exact ⟨q, hq, by omega⟩
set_option maxRecDepth 100000 in
theorem around_ok {κ : World} {L : List Assn} (n most : Int) (h1 : -9223372036854775808 ≤ n) (h2 : n ≤ 9223372036854775807) (h3 : 0 < most) :
    Ctr Tryd.prog 6 #[vI n, vI most] κ L (fun v M => v = vI (aroundV n most) ∧ M = L) := by
 refine Ctr.enter (vs := [vI n, vI most]) (m := 13) Tryd.func6 rfl rfl rfl ?_
 refine SG.seq ?_
 refine SG.region ?_
 refine RL.val (Wanted.free rfl) (V.assign rfl rfl) rfl ?_
 refine RL.nil ?_
 refine SG.seq ?_
 refine SG.seq ?_
 refine SG.region ?_
 refine RL.val (Wanted.free rfl) (V.move rfl rfl) rfl ?_
 refine RL.cmp (Wanted.free rfl) (V.bin rfl rfl rfl B.lss) rfl (fun h3 => ?_) (fun h3 => ?_)
 ·
  refine RL.nil ?_
  refine SG.cond_true rfl ?_
  refine SG.region ?_
  refine RL.val (Wanted.free rfl) (V.move rfl rfl) rfl ?_
  refine RL.val (Wanted.free rfl) (V.bin rfl rfl rfl (B.addI (by omega) (by omega))) rfl ?_
  refine RL.val (Wanted.free rfl) (V.negI rfl rfl (by omega) (by omega)) rfl ?_
  refine RL.val (Wanted.free rfl) (V.assign rfl rfl) rfl ?_
  refine RL.nil ?_
  refine SG.seq ?_
  refine SG.region ?_
  refine RL.val (Wanted.free rfl) (V.move rfl rfl) rfl ?_
  refine RL.val (Wanted.free rfl) (V.move rfl rfl) rfl ?_
  refine RL.val (Wanted.free rfl) (V.bin rfl rfl rfl (B.remI (by omega) (by omega))) rfl ?_
  refine RL.val (Wanted.free rfl) (V.assign rfl rfl) rfl ?_
  refine RL.nil ?_
  refine SG.retE (Ret.r1 Tryd.func6 rfl (.tmp rfl)) ?_ ⟨by simp [aroundV, *], rfl⟩
  exact entX
 ·
  refine RL.nil ?_
  refine SG.cond_false rfl ?_
  refine SG.skip ?_
  refine SG.seq ?_
  refine SG.region ?_
  refine RL.val (Wanted.free rfl) (V.move rfl rfl) rfl ?_
  refine RL.val (Wanted.free rfl) (V.move rfl rfl) rfl ?_
  refine RL.val (Wanted.free rfl) (V.bin rfl rfl rfl (B.remI (by omega) (by omega))) rfl ?_
  refine RL.val (Wanted.free rfl) (V.assign rfl rfl) rfl ?_
  refine RL.nil ?_
  refine SG.retE (Ret.r1 Tryd.func6 rfl (.tmp rfl)) ?_ ⟨by simp [aroundV, *], rfl⟩
  exact entX

set_option maxRecDepth 100000 in
theorem made_ok {κ : World} {L : List Assn} {n : Nat} (h1 : 1 ≤ n) (h2 : n ≤ 4096) :
    Ctr Tryd.prog 22 #[vI n] κ L (fun v M => ∃ b, v = ptr b 0 ∧ M = Dsk b (fresh n) :: L) := by
 refine Ctr.enter (vs := [vI n]) (m := 13) Tryd.func22 rfl rfl rfl ?_
 refine SG.seq ?_
 refine SG.region ?_
 refine RL.val (Wanted.free rfl) (V.assign rfl rfl) rfl ?_
 refine RL.nil ?_
 refine SG.seq ?_
 refine SG.region ?_
 refine RL.val (Wanted.free rfl) (V.move rfl rfl) rfl ?_
 refine RL.eff (Wanted.free rfl) (E.call rfl go44 rfl (dNew_ok (n := n) h1 h2)) rfl ?_
 rintro _ _ ⟨b7, rfl, rfl⟩
 refine RL.val (Wanted.free rfl) (V.move rfl rfl) rfl ?_
 refine RL.val (Wanted.free rfl) (V.extract rfl rfl rfl) rfl ?_
 refine RL.val (Wanted.free rfl) (V.extract rfl rfl rfl) rfl ?_
 refine RL.val (Wanted.free rfl) (V.assign rfl rfl) rfl ?_
 refine RL.val (Wanted.free rfl) (V.assign rfl rfl) rfl ?_
 refine RL.nil ?_
 refine SG.seq ?_
 refine SG.seq ?_
 refine SG.region ?_
 refine RL.val (Wanted.free rfl) (V.move rfl rfl) rfl ?_
 refine RL.cmpF (Wanted.free rfl) (V.bin rfl rfl rfl B.neq) rfl (by simp) ?_
 refine RL.nil ?_
 refine SG.cond_false rfl ?_
 refine SG.skip ?_
 refine SG.seq ?_
 refine SG.region ?_
 refine RL.val (Wanted.free rfl) (V.move rfl rfl) rfl ?_
 refine RL.val (Wanted.free rfl) (V.assign rfl rfl) rfl ?_
 refine RL.nil ?_
 refine SG.retE (Ret.r1 Tryd.func22 rfl (.tmp rfl)) ?_ ⟨_, rfl, rfl⟩
 exact entX

theorem fresh_len (n : Nat) : (fresh n).S.length = n := by simp [fresh]
theorem format_good {κ : World} {L L1 : List Assn} {db : Nat} {D : Dk} {m0 : Nat} (hD : D.ok m0) (hm1 : 1 ≤ m0) (hm0 : m0 ≤ 100000) (hp : Pick (Dsk db D) L L1) {f n : Int} (hf : inInt f) (hn : inInt n) (h : (fmtR D f n).2 = 0) :
    Ctr Tryd.prog 23 #[ptr db 0, vI f, vI n] κ L (fun v M => ∃ b, v = .tuple #[ptr b 0, vI 0] ∧ M = Lgm b db (lg0 f n 1 0) :: Dsk db (fmtR D f n).1 :: L1) :=
  (format_ok hD hm1 hm0 hp hf hn).mono (Ent.refl _) fun _ _ ⟨b, h'⟩ => h'.elim (fun h' => ⟨b, h'.2.1, h'.2.2⟩) fun h' => absurd h h'.1
theorem format_bad {κ : World} {L L1 : List Assn} {db : Nat} {D : Dk} {m0 : Nat} (hD : D.ok m0) (hm1 : 1 ≤ m0) (hm0 : m0 ≤ 100000) (hp : Pick (Dsk db D) L L1) {f n : Int} (hf : inInt f) (hn : inInt n) (h : checkV D f n ≠ 0) :
    Ctr Tryd.prog 23 #[ptr db 0, vI f, vI n] κ L (fun v M => v = .tuple #[.pointer none, vI (checkV D f n)] ∧ M = Dsk db D :: L1) :=
  (format_ok hD hm1 hm0 hp hf hn).mono (Ent.refl _) fun v M ⟨b, h'⟩ => by
    rw [fmtR_c h] at h'
    exact h'.elim (fun h' => absurd h'.1 h) fun h' => ⟨h'.2.1, h'.2.2⟩
theorem appE_ok {g : Lg} {D : Dk} {rec : List UInt8} (h1 : rec.length ≤ 4000) (h2 : (rec.length : Int) ≤ roomV g) (h3 : D.off = false) : appE g D rec = 0 := by unfold appE; rw [if_neg (by omega), if_neg (by omega), if_neg (by rw [h3]; decide)]
theorem LgOk.app {g : Lg} (h : LgOk g) {rec : List UInt8} (hr : rec.length ≤ 4000) (b1 : g.data.length ≤ 9000000) (b2 : g.recs.length ≤ 9000000) (b3 : g.used ≤ 90000000) : LgOk { g with data := g.data ++ leb 4 rec.length ++ rec, recs := g.recs ++ [rec], used := g.used + (rec.length + 12) } := by
  have h0 := h.u0
  have hz := h.z
  refine ⟨h.f0, h.f1, h.n0, h.n1, ?_, ?_, ?_, ?_, h.s0, h.s1, ?_⟩
  · simp only [List.length_append, leb_len]; omega
  · simp only [List.length_append, List.length_singleton]; omega
  · simp only; omega
  · simp only; omega
  · simp only [List.length_append]; omega
end Go.Proofs.YtnbjonijlkjclaaDoor
