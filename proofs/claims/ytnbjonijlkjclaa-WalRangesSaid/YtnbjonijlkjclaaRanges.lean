/- The walk of WalRanges. -/
import Derived.Test.YtnbjonijlkjclaaLives
namespace Go.Proofs.Ytnbjonijlkjclaa
open Go.Wk Go.Wl Go.Dsk

/-- The error that Format should give, and Open of a fresh disk. -/
def valid (s : Nat) (a k : Int) : Prop := 4 ≤ k ∧ k ≤ s ∧ 0 ≤ a ∧ a ≤ (s : Int) - k
instance (s : Nat) (a k : Int) : Decidable (valid s a k) := by unfold valid; infer_instance
def wantV (s : Nat) (a k : Int) (off : Bool) : Int := if valid s a k then (if off = true then 10 else 0) else 5
def blankV (s : Nat) (a k : Int) (off : Bool) : Int := if valid s a k then (if off = true then 10 else 7) else 5
def xd (off : Bool) (D : Dk) : Dk := if off = true then D.blow 0 else D
theorem xd_S (off : Bool) (D : Dk) : (xd off D).S = D.S := by unfold xd; split; (· exact blow_S _ _); (· rfl)
theorem xd_off (off : Bool) (s : Nat) : (xd off (fresh s)).off = off := by
  unfold xd; cases off
  · rfl
  · rfl
theorem xd_ok {off : Bool} {s : Nat} (h1 : 1 ≤ s) (h2 : s ≤ 4096) : (xd off (fresh s)).ok 1 := by
  unfold xd; split
  · exact (fresh_ok h1 h2).blow (by decide)
  · exact fresh_ok h1 h2
theorem chk_want (s : Nat) (a k : Int) (off : Bool) : checkV (xd off (fresh s)) a k = wantV s a k off := by
  unfold checkV wantV
  rw [xd_S, fresh_len, xd_off]
  by_cases h : valid s a k
  · have h' := h
    unfold valid at h'
    rw [if_neg (by omega), if_pos h]
  · have h' := h
    unfold valid at h'
    rw [if_pos (by omega), if_neg h]
theorem want_zero {s : Nat} {a k : Int} {off : Bool} (h : wantV s a k off = 0) : valid s a k ∧ off = false := by
  unfold wantV at h
  split at h
  · rename_i hv; refine ⟨hv, ?_⟩
    split at h
    · cases h
    · rename_i h2; simpa using h2
  · cases h
theorem blank_of {s : Nat} {a k : Int} {off : Bool} (h : wantV s a k off ≠ 0) : blankV s a k off = wantV s a k off := by
  unfold wantV blankV at *
  split
  · rename_i hv; rw [if_pos hv] at h
    split
    · rfl
    · rename_i h2; rw [if_neg h2] at h; exact absurd rfl h
  · rfl
theorem blank_seven {s : Nat} {a k : Int} {off : Bool} (h : wantV s a k off = 0) : blankV s a k off = 7 := by
  obtain ⟨h1, h2⟩ := want_zero h
  unfold blankV; rw [if_pos h1, h2]; rfl
def Opt (p : Prop) (A : Assn) : Assn := fun z h => p → A z h
theorem Opt.yes {p : Prop} {A : Assn} {L : List Assn} : Ent (A :: L) (Opt p A :: L) := fun _ _ ⟨h1, h2, z1, a, b, c, d, e, f⟩ => ⟨h1, h2, z1, a, b, c, d, fun _ => e, f⟩
theorem Opt.no {p : Prop} {A : Assn} {L : List Assn} (hn : ¬ p) : Ent L (Opt p A :: L) := fun z h H => ⟨Frag.emp, h, z, Frag.le.refl _, Frag.emp_disj _, Frag.emp_le _, Frag.le.refl _, fun hp => absurd hp hn, H⟩
theorem Opt.get {p : Prop} {A : Assn} {L : List Assn} (hp : p) : Ent (Opt p A :: L) (A :: L) := fun _ _ ⟨h1, h2, z1, a, b, c, d, e, f⟩ => ⟨h1, h2, z1, a, b, c, d, e hp, f⟩
section
variable {κ : World} {L L1 : List Assn} {db s : Nat} {off : Bool} {a k : Int}
theorem open_blank (h1 : 1 ≤ s) (h2 : s ≤ 4096) (hp : Pick (Dsk db (xd off (fresh s))) L L1) (ha : inInt a) (hk : inInt k) : Ctr Try.prog 14 #[ptr db 0, vI a, vI k] κ L (fun v M => v = .tuple #[.pointer none, vI (blankV s a k off)] ∧ M = Dsk db (xd off (fresh s)) :: L1) := by
  by_cases hc : checkV (xd off (fresh s)) a k = 0
  · have hw := (chk_want s a k off).symm.trans hc
    obtain ⟨hv, rfl⟩ := want_zero hw
    unfold valid at hv
    have hn : nwE (xd false (fresh s)) a = 7 := nw_zero (fresh_now (by omega) (by omega)) (fresh_now (by omega) (by omega))
    rw [blank_seven hw, ← hn]
    exact open_form (xd_ok h1 h2) (by decide) hp ha hk hc (by rw [hn]; decide)
  · have hw := chk_want s a k off
    rw [blank_of (by rw [← hw]; exact hc), ← hw]
    exact open_err (xd_ok h1 h2) (by decide) hp ha hk hc
theorem format_want (h1 : 1 ≤ s) (h2 : s ≤ 4096) (hp : Pick (Dsk db (xd off (fresh s))) L L1) (ha : inInt a) (hk : inInt k) : Ctr Try.prog 15 #[ptr db 0, vI a, vI k] κ L (fun v M => ∃ (b : Nat) (pp : Value) (E : Dk), v = .tuple #[pp, vI (wantV s a k off)] ∧ (wantV s a k off = 0 → pp = ptr b 0) ∧ E.ok 5000 ∧ M = Opt (wantV s a k off = 0) (Lgm b db (lg0 a k 1 0)) :: Dsk db E :: L1) := by
  have hw := chk_want s a k off
  by_cases hc : checkV (xd off (fresh s)) a k = 0
  · obtain ⟨hv, rfl⟩ := want_zero (hw.symm.trans hc)
    obtain ⟨h4, _, h5, _⟩ := checkV_zero.1 hc
    rw [xd_S, fresh_len] at h5
    have hf := (fmt_calm (D := xd false (fresh s)) (fresh_calm s) hc).1
    refine (format_good (xd_ok h1 h2) (by decide) (by decide) hp ha hk hf).post (Ent.refl _) ?_
    rintro v M ⟨b, rfl, rfl⟩
    exact ⟨_, ⟨b, ptr b 0, _, by rw [← hw, hc], fun _ => rfl, (fmtR_ok (xd_ok h1 h2) (by decide) a k).mono (by omega), rfl⟩, Opt.yes⟩
  · refine (format_bad (xd_ok h1 h2) (by decide) (by decide) hp ha hk hc).post (Ent.refl _) ?_
    rintro v M ⟨rfl, rfl⟩
    exact ⟨_, ⟨0, .pointer none, _, by rw [← hw], fun h => absurd (hw.trans h) hc, (xd_ok h1 h2).mono (by decide), rfl⟩, Opt.no fun h => hc (hw.trans h)⟩
end
set_option maxRecDepth 100000 in
set_option maxHeartbeats 1000000 in
theorem valid_ok {κ : World} {L : List Assn} {s : Nat} {a k : Int} (hs : s ≤ 4096) (_ : inInt a) (_ : inInt k) :
    Ctr Try.prog 13 #[vI s, vI a, vI k] κ L (fun v M => v = vB (decide (valid s a k)) ∧ M = L) := by
 refine Ctr.enter (vs := [vI s, vI a, vI k]) (m := 25) Try.func13 rfl rfl rfl ?_
 refine SG.seq ?_
 refine SG.region ?_
 refine RL.val (Wanted.free rfl) (V.assign rfl rfl) rfl ?_
 refine RL.nil ?_
 refine SG.seq ?_
 refine SG.region ?_
 refine RL.val (Wanted.free rfl) (V.move rfl rfl) rfl ?_
 refine RL.cmp (Wanted.free rfl) (V.bin rfl rfl rfl B.geq) rfl (fun h3 => ?_) (fun h3 => ?_)
 ·
  refine RL.val (Wanted.free rfl) (V.move rfl rfl) rfl ?_
  refine RL.val (Wanted.yes rfl rfl rfl rfl) (V.move rfl rfl) rfl ?_
  refine RL.val (Wanted.yes rfl rfl rfl rfl) (V.move rfl rfl) rfl ?_
  refine RL.cmp (Wanted.yes rfl rfl rfl rfl) (V.bin rfl rfl rfl B.leq) rfl (fun h7 => ?_) (fun h7 => ?_)
  ·
   refine RL.val (Wanted.free rfl) (V.pick_true rfl rfl rfl) rfl ?_
   refine RL.val (Wanted.free rfl) (V.move rfl rfl) rfl ?_
   refine RL.val (Wanted.yes rfl rfl rfl rfl) (V.move rfl rfl) rfl ?_
   refine RL.cmp (Wanted.yes rfl rfl rfl rfl) (V.bin rfl rfl rfl B.geq) rfl (fun h10 => ?_) (fun h10 => ?_)
   ·
    refine RL.val (Wanted.free rfl) (V.pick_true rfl rfl rfl) rfl ?_
    refine RL.val (Wanted.free rfl) (V.move rfl rfl) rfl ?_
    refine RL.val (Wanted.yes rfl rfl rfl rfl) (V.move rfl rfl) rfl ?_
    refine RL.val (Wanted.yes rfl rfl rfl rfl) (V.move rfl rfl) rfl ?_
    refine RL.val (Wanted.yes rfl rfl rfl rfl) (V.move rfl rfl) rfl ?_
    refine RL.val (Wanted.yes rfl rfl rfl rfl) (V.bin rfl rfl rfl (B.subI (by omega) (by omega))) rfl ?_
    refine RL.cmp (Wanted.yes rfl rfl rfl rfl) (V.bin rfl rfl rfl B.leq) rfl (fun h16 => ?_) (fun h16 => ?_)
    ·
     refine RL.val (Wanted.free rfl) (V.pick_true rfl rfl rfl) rfl ?_
     refine RL.val (Wanted.free rfl) (V.assign rfl rfl) rfl ?_
     refine RL.nil ?_
     refine SG.retE (Ret.r1 Try.func13 rfl (.tmp rfl)) ?_ ⟨by first | (rw [decide_eq_true (by unfold valid; omega)]) | (rw [decide_eq_false (by unfold valid; omega)]), rfl⟩
     exact entX
    ·
     refine RL.val (Wanted.free rfl) (V.pick_true rfl rfl rfl) rfl ?_
     refine RL.val (Wanted.free rfl) (V.assign rfl rfl) rfl ?_
     refine RL.nil ?_
     refine SG.retE (Ret.r1 Try.func13 rfl (.tmp rfl)) ?_ ⟨by first | (rw [decide_eq_true (by unfold valid; omega)]) | (rw [decide_eq_false (by unfold valid; omega)]), rfl⟩
     exact entX
   ·
    refine RL.val (Wanted.free rfl) (V.pick_true rfl rfl rfl) rfl ?_
    refine RL.val (Wanted.free rfl) (V.move rfl rfl) rfl ?_
    refine RL.skip (Wanted.no rfl rfl rfl rfl rfl) rfl ?_
    refine RL.skip (Wanted.no rfl rfl rfl rfl rfl) rfl ?_
    refine RL.skip (Wanted.no rfl rfl rfl rfl rfl) rfl ?_
    refine RL.skip (Wanted.no rfl rfl rfl rfl rfl) rfl ?_
    refine RL.skip (Wanted.no rfl rfl rfl rfl rfl) rfl ?_
    refine RL.val (Wanted.free rfl) (V.pick_false rfl rfl rfl) rfl ?_
    refine RL.val (Wanted.free rfl) (V.assign rfl rfl) rfl ?_
    refine RL.nil ?_
    refine SG.retE (Ret.r1 Try.func13 rfl (.tmp rfl)) ?_ ⟨by first | (rw [decide_eq_true (by unfold valid; omega)]) | (rw [decide_eq_false (by unfold valid; omega)]), rfl⟩
    exact entX
  ·
   refine RL.val (Wanted.free rfl) (V.pick_true rfl rfl rfl) rfl ?_
   refine RL.val (Wanted.free rfl) (V.move rfl rfl) rfl ?_
   refine RL.skip (Wanted.no rfl rfl rfl rfl rfl) rfl ?_
   refine RL.skip (Wanted.no rfl rfl rfl rfl rfl) rfl ?_
   refine RL.val (Wanted.free rfl) (V.pick_false rfl rfl rfl) rfl ?_
   refine RL.val (Wanted.free rfl) (V.move rfl rfl) rfl ?_
   refine RL.skip (Wanted.no rfl rfl rfl rfl rfl) rfl ?_
   refine RL.skip (Wanted.no rfl rfl rfl rfl rfl) rfl ?_
   refine RL.skip (Wanted.no rfl rfl rfl rfl rfl) rfl ?_
   refine RL.skip (Wanted.no rfl rfl rfl rfl rfl) rfl ?_
   refine RL.skip (Wanted.no rfl rfl rfl rfl rfl) rfl ?_
   refine RL.val (Wanted.free rfl) (V.pick_false rfl rfl rfl) rfl ?_
   refine RL.val (Wanted.free rfl) (V.assign rfl rfl) rfl ?_
   refine RL.nil ?_
   refine SG.retE (Ret.r1 Try.func13 rfl (.tmp rfl)) ?_ ⟨by first | (rw [decide_eq_true (by unfold valid; omega)]) | (rw [decide_eq_false (by unfold valid; omega)]), rfl⟩
   exact entX
 ·
  refine RL.val (Wanted.free rfl) (V.move rfl rfl) rfl ?_
  refine RL.skip (Wanted.no rfl rfl rfl rfl rfl) rfl ?_
  refine RL.skip (Wanted.no rfl rfl rfl rfl rfl) rfl ?_
  refine RL.skip (Wanted.no rfl rfl rfl rfl rfl) rfl ?_
  refine RL.val (Wanted.free rfl) (V.pick_false rfl rfl rfl) rfl ?_
  refine RL.val (Wanted.free rfl) (V.move rfl rfl) rfl ?_
  refine RL.skip (Wanted.no rfl rfl rfl rfl rfl) rfl ?_
  refine RL.skip (Wanted.no rfl rfl rfl rfl rfl) rfl ?_
  refine RL.val (Wanted.free rfl) (V.pick_false rfl rfl rfl) rfl ?_
  refine RL.val (Wanted.free rfl) (V.move rfl rfl) rfl ?_
  refine RL.skip (Wanted.no rfl rfl rfl rfl rfl) rfl ?_
  refine RL.skip (Wanted.no rfl rfl rfl rfl rfl) rfl ?_
  refine RL.skip (Wanted.no rfl rfl rfl rfl rfl) rfl ?_
  refine RL.skip (Wanted.no rfl rfl rfl rfl rfl) rfl ?_
  refine RL.skip (Wanted.no rfl rfl rfl rfl rfl) rfl ?_
  refine RL.val (Wanted.free rfl) (V.pick_false rfl rfl rfl) rfl ?_
  refine RL.val (Wanted.free rfl) (V.assign rfl rfl) rfl ?_
  refine RL.nil ?_
  refine SG.retE (Ret.r1 Try.func13 rfl (.tmp rfl)) ?_ ⟨by first | (rw [decide_eq_true (by unfold valid; omega)]) | (rw [decide_eq_false (by unfold valid; omega)]), rfl⟩
  exact entX

set_option maxRecDepth 100000 in
set_option maxHeartbeats 2000000 in
theorem ranges_law {κ : World} {L : List Assn} {s f n lg : Int} {off : Bool} (hs : inInt s) (hf : inInt f) (hn : inInt n) (hlg : inInt lg) :
    Ctr Try.prog 3 #[vI s, vI f, vI n, vB off, vI lg] κ L (fun v M => v = vB true ∧ M = L) := by
 refine Ctr.enter (vs := [vI s, vI f, vI n, vB off, vI lg]) (m := 110) Try.func3 rfl rfl rfl ?_
 refine SG.seq ?_
 refine SG.region ?_
 refine RL.val (Wanted.free rfl) (V.assign rfl rfl) rfl ?_
 refine RL.nil ?_
 refine SG.seq ?_
 refine SG.region ?_
 refine RL.val (Wanted.free rfl) (V.move rfl rfl) rfl ?_
 refine RL.eff (Wanted.free rfl) (E.call rfl go9 rfl (around_ok _ _ hs.1 hs.2 (by omega))) rfl ?_
 rintro _ _ ⟨rfl, hM⟩
 rw [hM]
 obtain ⟨q, hq, hq2⟩ := aroundV_nat (n := s) (most := 12) (by omega)
 rw [hq]
 refine RL.val (Wanted.free rfl) (V.bin rfl rfl rfl (B.addI (by omega) (by omega))) rfl ?_
 rw [show (1 : Int) + (q : Int) = ((1 + q : Nat) : Int) from by omega]
 refine RL.val (Wanted.free rfl) (V.assign rfl rfl) rfl ?_
 refine RL.nil ?_
 refine SG.seq ?_
 refine SG.region ?_
 refine RL.val (Wanted.free rfl) (V.move rfl rfl) rfl ?_
 refine RL.eff (Wanted.free rfl) (E.call rfl go10 rfl (made_ok (n := 1 + q) (by omega) (by omega))) rfl ?_
 rintro _ _ ⟨b12, rfl, rfl⟩
 refine RL.val (Wanted.free rfl) (V.assign rfl rfl) rfl ?_
 refine RL.nil ?_
 refine SG.seq ?_
 refine SG.seq ?_
 refine SG.region ?_
 refine RL.val (Wanted.free rfl) (V.move rfl rfl) rfl ?_
 refine RL.cmpF (Wanted.free rfl) (V.eqlPtrNil rfl up23 rfl rfl) rfl (by simp) ?_
 refine RL.nil ?_
 refine SG.cond_false rfl ?_
 refine SG.skip ?_
 refine SG.seq ?_
 refine SG.region ?_
 refine RL.val (Wanted.free rfl) (V.move rfl rfl) rfl ?_
 refine RL.val (Wanted.free rfl) (V.move rfl rfl) rfl ?_
 refine RL.val (Wanted.free rfl) (V.buildA [(0, _), (1, _)] rfl ba25 (by exact ⟨rfl, ⟨_, rfl, rfl⟩, ⟨rfl, ⟨_, rfl, rfl⟩, trivial⟩⟩) rfl) rfl ?_
 refine RL.val (Wanted.free rfl) (V.move rfl rfl) rfl ?_
 refine RL.eff (Wanted.free rfl) (E.call rfl go9 rfl (around_ok _ _ hf.1 hf.2 (by omega))) rfl ?_
 rintro _ _ ⟨rfl, rfl⟩
 obtain ⟨a0, ha0, ha1⟩ := aroundV_nat (n := f) (most := 12) (by omega)
 rw [ha0]
 refine RL.val (Wanted.free rfl) (V.bin rfl rfl rfl (B.subI (by omega) (by omega))) rfl ?_
 obtain ⟨a2, ha2⟩ : ∃ a2 : Int, (a0 : Int) - 2 = a2 := ⟨_, rfl⟩
 rw [ha2]
 refine RL.val (Wanted.free rfl) (V.move rfl rfl) rfl ?_
 refine RL.eff (Wanted.free rfl) (E.call rfl go9 rfl (around_ok _ _ hn.1 hn.2 (by omega))) rfl ?_
 rintro _ _ ⟨rfl, rfl⟩
 obtain ⟨k0, hk0, hk1⟩ := aroundV_nat (n := n) (most := 14) (by omega)
 rw [hk0]
 refine RL.val (Wanted.free rfl) (V.bin rfl rfl rfl (B.subI (by omega) (by omega))) rfl ?_
 obtain ⟨k2, hk2⟩ : ∃ k2 : Int, (k0 : Int) - 1 = k2 := ⟨_, rfl⟩
 rw [hk2]
 refine RL.val (Wanted.free rfl) (V.buildA [(0, _), (1, _)] rfl ba25 (by exact ⟨rfl, ⟨_, rfl, rfl⟩, ⟨rfl, ⟨_, rfl, rfl⟩, trivial⟩⟩) rfl) rfl ?_
 refine RL.eff (Wanted.free rfl) (E.lit2 [vI f, vI n] [vI a2, vI k2] rfl el26.slice ze25 rfl (by decide) (by decide) rfl rfl rfl rfl rfl rfl) rfl ?_
 rintro _ _ ⟨b41, rfl, rfl⟩
 refine RL.val (Wanted.free rfl) (V.assign rfl rfl) rfl ?_
 refine RL.nil ?_
 refine SG.seq ?_
 refine SG.seq ?_
 refine SG.region ?_
 refine RL.val (Wanted.free rfl) (V.assign rfl rfl) rfl ?_
 refine RL.nil ?_
 refine SG.block ?_
 refine SG.weaken (SG.loop2 (fun m9 al M => ∃ i : Nat, i ≤ 2 ∧ m9 = 2 - i ∧ al = [(3, vB off), (4, vI lg), (11, vI ((1 + q : Nat) : Int)), (12, ptr b12 0), (13, .slice (some ⟨b41, 0, none⟩) 2 2), (14, vI i)] ∧ M = Blk b41 25 ([vI f, vI n] ++ [vI a2, vI k2] : List Value) :: Dsk b12 (fresh (1 + q)) :: L) (m0 := _) ⟨0, by omega, rfl, rfl, rfl⟩ ?_) ?_ ?_
 rotate_left
 ·
  repeat (first | exact EnvLe.nil _ | refine EnvLe.cons rfl ?_)
 ·
  exact entX
 rintro _ _ _ ⟨i, hi, rfl, rfl, rfl⟩ ih0
 refine SG.seq ?_
 refine SG.seq ?_
 refine SG.region ?_
 refine RL.val (Wanted.free rfl) (V.move rfl rfl) rfl ?_
 refine RL.cmp (Wanted.free rfl) (V.bin rfl rfl rfl B.lss) rfl (fun h24 => ?_) (fun h24 => ?_)
 ·
  refine RL.nil ?_
  refine SG.cond_true rfl ?_
  refine SG.skip ?_
  refine SG.seq ?_
  refine SG.block ?_
  refine SG.seq ?_
  obtain ⟨A, hA, hiA⟩ : ∃ z : Int, ([vI f, vI n] ++ [vI a2, vI k2] : List Value)[i * 2 + (0 : Int).toNat * 1]? = some (vI z) ∧ inInt z := by
     rcases (show i = 0 ∨ i = 1 by omega) with rfl | rfl
     ·
      exact ⟨f, rfl, hf⟩
     ·
      exact ⟨a2, rfl, by unfold inInt; omega⟩
  obtain ⟨K, hK, hiK⟩ : ∃ z : Int, ([vI f, vI n] ++ [vI a2, vI k2] : List Value)[i * 2 + (1 : Int).toNat * 1]? = some (vI z) ∧ inInt z := by
     rcases (show i = 0 ∨ i = 1 by omega) with rfl | rfl
     ·
      exact ⟨n, rfl, hn⟩
     ·
      exact ⟨k2, rfl, by unfold inInt; omega⟩
  refine SG.region ?_
  refine RL.val (Wanted.free rfl) (V.move rfl rfl) rfl ?_
  refine RL.val (Wanted.free rfl) (V.move rfl rfl) rfl ?_
  refine RL.val (Wanted.free rfl) (V.indexAd (j := i) rfl el26.slice rfl rfl (by first | rfl | omega) (by omega)) rfl ?_
  rw [show eptr (some ⟨b41, 0, none⟩) (i * 2) = ptr b41 (i * 2) from by simp [eptr, ptr, addr_add]]
  refine RL.val (Wanted.free rfl) (V.indexArr rfl ar25 rfl rfl (by omega) (by omega)) rfl ?_
  refine RL.val (Wanted.free rfl) (V.load rfl on3 rfl pickX hA) rfl ?_
  refine RL.val (Wanted.free rfl) (V.assign rfl rfl) rfl ?_
  refine RL.nil ?_
  refine SG.seq ?_
  refine SG.region ?_
  refine RL.val (Wanted.free rfl) (V.move rfl rfl) rfl ?_
  refine RL.val (Wanted.free rfl) (V.move rfl rfl) rfl ?_
  refine RL.val (Wanted.free rfl) (V.indexAd (j := i) rfl el26.slice rfl rfl (by first | rfl | omega) (by omega)) rfl ?_
  rw [show eptr (some ⟨b41, 0, none⟩) (i * 2) = ptr b41 (i * 2) from by simp [eptr, ptr, addr_add]]
  refine RL.val (Wanted.free rfl) (V.indexArr rfl ar25 rfl rfl (by omega) (by omega)) rfl ?_
  refine RL.val (Wanted.free rfl) (V.load rfl on3 rfl pickX hK) rfl ?_
  refine RL.val (Wanted.free rfl) (V.assign rfl rfl) rfl ?_
  refine RL.nil ?_
  refine SG.seq ?_
  refine SG.region ?_
  refine RL.val (Wanted.free rfl) (V.move rfl rfl) rfl ?_
  refine RL.eff (Wanted.free rfl) (E.call rfl go11 rfl (dClone_ok (fresh_ok (n := 1 + q) (by omega) (by omega)) (b := b12) pickX (by omega))) rfl ?_
  rintro _ _ ⟨b17, rfl, rfl⟩
  refine RL.val (Wanted.free rfl) (V.assign rfl rfl) rfl ?_
  refine RL.nil ?_
  refine SG.seq ?_
  refine SG.seq ?_
  refine SG.region ?_
  refine RL.val (Wanted.free rfl) (V.move rfl rfl) rfl ?_
  refine RL.cmpF (Wanted.free rfl) (V.eqlPtrNil rfl up23 rfl rfl) rfl (by simp) ?_
  refine RL.nil ?_
  refine SG.cond_false rfl ?_
  refine SG.skip ?_
  refine SG.seq ?_
  refine SG.seq ?_
  refine SG.join2 (ι := Unit) (fun _ => [(3, vB off), (4, vI lg), (11, vI ((1 + q : Nat) : Int)), (12, ptr b12 0), (13, .slice (some ⟨b41, 0, none⟩) 2 2), (14, vI i), (15, vI A), (16, vI K), (17, ptr b17 0)]) (fun _ => Dsk b17 (xd off (fresh (1 + q))) :: Blk b41 25 ([vI f, vI n] ++ [vI a2, vI k2] : List Value) :: Dsk b12 (fresh (1 + q)) :: L) (fun _ => True) ?_ (fun rest => ?_)
  ·
   rintro _ _
   try dsimp only
   refine SG.seq ?_
   refine SG.region ?_
   refine RL.val (Wanted.free rfl) (V.assign rfl rfl) rfl ?_
   refine RL.nil ?_
   refine SG.seq ?_
   refine SG.region ?_
   refine RL.val (Wanted.free rfl) (V.assign rfl rfl) rfl ?_
   refine RL.nil ?_
   refine SG.seq ?_
   refine SG.seq ?_
   refine SG.join2 (ι := Int × Int) (fun ⟨w, bl⟩ => [(3, vB off), (4, vI lg), (11, vI ((1 + q : Nat) : Int)), (12, ptr b12 0), (13, .slice (some ⟨b41, 0, none⟩) 2 2), (14, vI i), (15, vI A), (16, vI K), (17, ptr b17 0), (18, vI w), (19, vI bl)]) (fun ⟨w, bl⟩ => Dsk b17 (xd off (fresh (1 + q))) :: Blk b41 25 ([vI f, vI n] ++ [vI a2, vI k2] : List Value) :: Dsk b12 (fresh (1 + q)) :: L) (fun ⟨w, bl⟩ => w = (wantV (1 + q) A K off) ∧ bl = (blankV (1 + q) A K off)) ?_ (fun rest => ?_)
   ·
    rintro ⟨w, bl⟩ ⟨rfl, rfl⟩
    try dsimp only
    refine SG.seq ?_
    refine SG.region ?_
    refine RL.val (Wanted.free rfl) (V.move rfl rfl) rfl ?_
    refine RL.val (Wanted.free rfl) (V.move rfl rfl) rfl ?_
    refine RL.val (Wanted.free rfl) (V.move rfl rfl) rfl ?_
    refine RL.eff (Wanted.free rfl) (E.call rfl go14 rfl (open_blank (s := 1 + q) (by omega) (by omega) (db := b17) pickX hiA hiK)) rfl ?_
    rintro _ _ ⟨rfl, rfl⟩
    refine RL.val (Wanted.free rfl) (V.move rfl rfl) rfl ?_
    refine RL.val (Wanted.free rfl) (V.extract rfl rfl rfl) rfl ?_
    refine RL.val (Wanted.free rfl) (V.extract rfl rfl rfl) rfl ?_
    refine RL.val (Wanted.free rfl) (V.assign rfl rfl) rfl ?_
    refine RL.val (Wanted.free rfl) (V.assign rfl rfl) rfl ?_
    refine RL.nil ?_
    refine SG.seq ?_
    refine SG.region ?_
    refine RL.val (Wanted.free rfl) (V.move rfl rfl) rfl ?_
    refine RL.val (Wanted.free rfl) (V.move rfl rfl) rfl ?_
    refine RL.val (Wanted.free rfl) (V.move rfl rfl) rfl ?_
    refine RL.eff (Wanted.free rfl) (E.call rfl go15 rfl (format_want (s := 1 + q) (by omega) (by omega) (db := b17) pickX hiA hiK)) rfl ?_
    rintro _ _ ⟨b22, pp, Ed, rfl, hpp, hE, rfl⟩
    refine RL.val (Wanted.free rfl) (V.move rfl rfl) rfl ?_
    refine RL.val (Wanted.free rfl) (V.extract rfl rfl rfl) rfl ?_
    refine RL.val (Wanted.free rfl) (V.extract rfl rfl rfl) rfl ?_
    refine RL.val (Wanted.free rfl) (V.assign rfl rfl) rfl ?_
    refine RL.val (Wanted.free rfl) (V.assign rfl rfl) rfl ?_
    refine RL.nil ?_
    refine SG.seq ?_
    refine SG.seq ?_
    refine SG.region ?_
    refine RL.val (Wanted.free rfl) (V.move rfl rfl) rfl ?_
    refine RL.val (Wanted.free rfl) (V.move rfl rfl) rfl ?_
    refine RL.cmpF (Wanted.free rfl) (V.bin rfl rfl rfl B.neq) rfl (by simp) ?_
    refine RL.val (Wanted.free rfl) (V.move rfl rfl) rfl ?_
    refine RL.val (Wanted.yes rfl rfl rfl rfl) (V.move rfl rfl) rfl ?_
    refine RL.val (Wanted.yes rfl rfl rfl rfl) (V.move rfl rfl) rfl ?_
    refine RL.cmpF (Wanted.yes rfl rfl rfl rfl) (V.bin rfl rfl rfl B.neq) rfl (by simp) ?_
    refine RL.val (Wanted.free rfl) (V.pick_false rfl rfl rfl) rfl ?_
    refine RL.val (Wanted.free rfl) (V.move rfl rfl) rfl ?_
    refine RL.val (Wanted.yes rfl rfl rfl rfl) (V.move rfl rfl) rfl ?_
    refine RL.cmp (Wanted.yes rfl rfl rfl rfl) (V.bin rfl rfl rfl B.eql) rfl (fun h68 => ?_) (fun h68 => ?_)
    ·
     have hW0 := h68
     rw [hpp hW0]
     refine RL.val (Wanted.yes rfl rfl rfl rfl) (V.move rfl rfl) rfl ?_
     refine RL.val (Wanted.yes rfl rfl rfl rfl) (V.move rfl rfl) rfl ?_
     refine RL.cmpF (Wanted.yes rfl rfl rfl rfl) (V.eqlPtrNil rfl up31 rfl rfl) rfl (by simp) ?_
     refine RL.val (Wanted.yes rfl rfl rfl rfl) (V.pick_true rfl rfl rfl) rfl ?_
     refine RL.val (Wanted.free rfl) (V.pick_false rfl rfl rfl) rfl ?_
     refine RL.nil ?_
     refine SG.cond_false rfl ?_
     refine SG.skip ?_
     refine SG.seq ?_
     refine SG.region ?_
     refine RL.val (Wanted.free rfl) (V.move rfl rfl) rfl ?_
     refine RL.cmpT (Wanted.free rfl) (V.bin rfl rfl rfl B.eql) rfl hW0 ?_
     refine RL.val (Wanted.free rfl) (V.move rfl rfl) rfl ?_
     refine RL.val (Wanted.yes rfl rfl rfl rfl) (V.move rfl rfl) rfl ?_
     refine RL.val (Wanted.yes rfl rfl rfl rfl) (V.move rfl rfl) rfl ?_
     refine RL.eff (Wanted.yes rfl rfl rfl rfl) (E.call rfl go9 rfl (around_ok _ _ hlg.1 hlg.2 (by omega))) rfl ?_
     rintro _ _ ⟨rfl, rfl⟩
     obtain ⟨l0, hl0, hl1⟩ := aroundV_nat (n := lg) (most := 100) (by omega)
     rw [hl0]
     refine RL.val (Wanted.yes rfl rfl rfl rfl) (V.bin rfl rfl rfl (B.addI (by omega) (by omega))) rfl ?_
     rw [show (4001 : Int) + (l0 : Int) = ((4001 + l0 : Nat) : Int) from by omega]
     refine RL.eff (Wanted.yes rfl rfl rfl rfl) (E.make (T := R8) (m := 4001 + l0) (z0 := .int .u8 0) (x0 := 0) rfl el35 ze5 rfl rfl rfl (by omega) (by omega) (fun _ => ⟨rfl, trivial⟩)) rfl ?_
     rintro _ _ ⟨b105, rfl, rfl⟩
     refine RL.publish (T := R8) Pick.here ?_
     obtain ⟨hvv, _⟩ := want_zero hW0
     unfold valid at hvv
     obtain ⟨K0, hK0⟩ := Int.eq_ofNat_of_zero_le (show 0 ≤ K by omega)
     refine RL.ent (L' := Lgm b22 b17 (lg0 A K 1 0) :: Dsk b17 Ed :: Sl R8 (some ⟨b105, 0, none⟩) (4001 + l0) (4001 + l0) (List.replicate (4001 + l0) 0) :: Blk b41 25 ([vI f, vI n] ++ [vI a2, vI k2] : List Value) :: Dsk b12 (fresh (1 + q)) :: L) (Ent.trans (b := Opt ((wantV (1 + q) A K off) = 0) (Lgm b22 b17 (lg0 A K 1 0)) :: Dsk b17 Ed :: Sl R8 (some ⟨b105, 0, none⟩) (4001 + l0) (4001 + l0) (List.replicate (4001 + l0) 0) :: Blk b41 25 ([vI f, vI n] ++ [vI a2, vI k2] : List Value) :: Dsk b12 (fresh (1 + q)) :: L) (by repeat (first | exact Ent.refl _ | (apply Ent.cons; (· repeat (first | exact Pick.here | (refine Pick.sl ?_; (· repeat (first | exact List.Mem.head _ | assumption | apply List.Mem.tail))) | apply Pick.there))) | (refine Ent.trans (Ent.drop _ _) ?_))) (Opt.get hW0)) ?_
     refine RL.eff (Wanted.yes rfl rfl rfl rfl) (E.call rfl go16 rfl (lAppend_ok (g := lg0 A K 1 0) (by rw [hK0]; exact lg0_ok (by omega) (by omega) (by omega) (by omega) 1) (b := b22) Pick.here hE Pick.here (rec := List.replicate (4001 + l0) 0) memX)) rfl ?_
     rintro _ _ ⟨rfl, rfl⟩
     rw [show appE (lg0 A K 1 0) Ed (List.replicate (4001 + l0) 0) = 2 from if_pos (by rw [List.length_replicate]; omega)]
     refine RL.cmpF (Wanted.yes rfl rfl rfl rfl) (V.bin rfl rfl rfl B.neq) rfl (by simp) ?_
     refine RL.val (Wanted.free rfl) (V.pick_true rfl rfl rfl) rfl ?_
     refine RL.nil ?_
     refine SG.cond_false rfl ?_
     refine SG.skip ?_
     refine SG.inBlock ?_
     refine SG.region ?_
     refine RL.val (Wanted.free rfl) (V.move rfl rfl) rfl ?_
     refine RL.val (Wanted.free rfl) (V.bin rfl rfl rfl (B.addI (by omega) (by omega))) rfl ?_
     refine RL.val (Wanted.free rfl) (V.assign rfl rfl) rfl ?_
     refine RL.nil ?_
     refine SG.weaken (ih0 _ _ _ ?_ ⟨i + 1, by omega, rfl, rfl, rfl⟩) ?_ ?_
     ·
      omega
     ·
      repeat (first | exact EnvLe.nil _ | refine EnvLe.cons rfl ?_)
     ·
      exact entX
    ·
     have hW0 := h68
     refine RL.val (Wanted.yes rfl rfl rfl rfl) (V.move rfl rfl) rfl ?_
     refine RL.skip (Wanted.no rfl rfl rfl rfl rfl) rfl ?_
     refine RL.skip (Wanted.no rfl rfl rfl rfl rfl) rfl ?_
     refine RL.val (Wanted.yes rfl rfl rfl rfl) (V.pick_false rfl rfl rfl) rfl ?_
     refine RL.val (Wanted.free rfl) (V.pick_false rfl rfl rfl) rfl ?_
     refine RL.nil ?_
     refine SG.cond_false rfl ?_
     refine SG.skip ?_
     refine SG.seq ?_
     refine SG.region ?_
     refine RL.val (Wanted.free rfl) (V.move rfl rfl) rfl ?_
     refine RL.cmpF (Wanted.free rfl) (V.bin rfl rfl rfl B.eql) rfl hW0 ?_
     refine RL.val (Wanted.free rfl) (V.move rfl rfl) rfl ?_
     refine RL.skip (Wanted.no rfl rfl rfl rfl rfl) rfl ?_
     refine RL.skip (Wanted.no rfl rfl rfl rfl rfl) rfl ?_
     refine RL.skip (Wanted.no rfl rfl rfl rfl rfl) rfl ?_
     refine RL.skip (Wanted.no rfl rfl rfl rfl rfl) rfl ?_
     refine RL.skip (Wanted.no rfl rfl rfl rfl rfl) rfl ?_
     refine RL.skip (Wanted.no rfl rfl rfl rfl rfl) rfl ?_
     refine RL.skip (Wanted.no rfl rfl rfl rfl rfl) rfl ?_
     refine RL.val (Wanted.free rfl) (V.pick_false rfl rfl rfl) rfl ?_
     refine RL.nil ?_
     refine SG.cond_false rfl ?_
     refine SG.skip ?_
     refine SG.inBlock ?_
     refine SG.region ?_
     refine RL.val (Wanted.free rfl) (V.move rfl rfl) rfl ?_
     refine RL.val (Wanted.free rfl) (V.bin rfl rfl rfl (B.addI (by omega) (by omega))) rfl ?_
     refine RL.val (Wanted.free rfl) (V.assign rfl rfl) rfl ?_
     refine RL.nil ?_
     refine SG.weaken (ih0 _ _ _ ?_ ⟨i + 1, by omega, rfl, rfl, rfl⟩) ?_ ?_
     ·
      omega
     ·
      repeat (first | exact EnvLe.nil _ | refine EnvLe.cons rfl ?_)
     ·
      exact entX
   ·
    refine SG.region ?_
    refine RL.val (Wanted.free rfl) (V.move rfl rfl) rfl ?_
    refine RL.val (Wanted.free rfl) (V.move rfl rfl) rfl ?_
    refine RL.val (Wanted.free rfl) (V.move rfl rfl) rfl ?_
    refine RL.eff (Wanted.free rfl) (E.call rfl go13 rfl (valid_ok (s := 1 + q) (by omega) hiA hiK)) rfl ?_
    rintro _ _ ⟨rfl, rfl⟩
    refine RL.nil ?_
    refine SG.cond rfl (fun h92 => ?_) (fun h92 => ?_)
    ·
     have hv : valid (1 + q) A K := by simpa using h92
     refine SG.seq ?_
     refine SG.region ?_
     refine RL.val (Wanted.free rfl) (V.assign rfl rfl) rfl ?_
     refine RL.nil ?_
     refine SG.seq ?_
     refine SG.region ?_
     refine RL.val (Wanted.free rfl) (V.assign rfl rfl) rfl ?_
     refine RL.nil ?_
     refine SG.seq ?_
     refine SG.region ?_
     refine RL.val (Wanted.free rfl) (V.move rfl rfl) rfl ?_
     refine RL.nil ?_
     refine SG.cond rfl (fun h96 => ?_) (fun h96 => ?_)
     ·
      have hw : (wantV (1 + q) A K off) = 10 := by unfold wantV; rw [if_pos hv, if_pos h96]
      have hb : (blankV (1 + q) A K off) = 10 := by unfold blankV; rw [if_pos hv, if_pos h96]
      refine SG.seq ?_
      refine SG.region ?_
      refine RL.val (Wanted.free rfl) (V.assign rfl rfl) rfl ?_
      refine RL.nil ?_
      refine SG.region ?_
      refine RL.val (Wanted.free rfl) (V.assign rfl rfl) rfl ?_
      refine RL.nil ?_
      refine SG.weaken (rest ⟨10, 10⟩ ⟨hw.symm, hb.symm⟩) ?_ ?_
      ·
       repeat (first | exact EnvLe.nil _ | refine EnvLe.cons rfl ?_)
      ·
       exact entX
     ·
      have hw : (wantV (1 + q) A K off) = 0 := by unfold wantV; rw [if_pos hv, if_neg (by simp [h96])]
      have hb : (blankV (1 + q) A K off) = 7 := by unfold blankV; rw [if_pos hv, if_neg (by simp [h96])]
      refine SG.skip ?_
      refine SG.weaken (rest ⟨0, 7⟩ ⟨hw.symm, hb.symm⟩) ?_ ?_
      ·
       repeat (first | exact EnvLe.nil _ | refine EnvLe.cons rfl ?_)
      ·
       exact entX
    ·
     have hv : ¬ valid (1 + q) A K := by simpa using h92
     have hw : (wantV (1 + q) A K off) = 5 := if_neg hv
     have hb : (blankV (1 + q) A K off) = 5 := if_neg hv
     refine SG.skip ?_
     refine SG.weaken (rest ⟨5, 5⟩ ⟨hw.symm, hb.symm⟩) ?_ ?_
     ·
      repeat (first | exact EnvLe.nil _ | refine EnvLe.cons rfl ?_)
     ·
      exact entX
  ·
   refine SG.region ?_
   refine RL.val (Wanted.free rfl) (V.move rfl rfl) rfl ?_
   refine RL.nil ?_
   refine SG.cond rfl (fun h100 => ?_) (fun h100 => ?_)
   ·
    have hx : xd off (fresh (1 + q)) = (fresh (1 + q)).blow 0 := if_pos h100
    refine SG.region ?_
    refine RL.val (Wanted.free rfl) (V.move rfl rfl) rfl ?_
    refine RL.eff (Wanted.free rfl) (E.call rfl go12 rfl (dFuse_ok (fresh_ok (n := 1 + q) (by omega) (by omega)) (b := b17) pickX 0 (by omega) (by omega))) rfl ?_
    rintro _ _ ⟨rfl, rfl⟩
    refine RL.nil ?_
    refine SG.weaken (rest () trivial) ?_ ?_
    ·
     repeat (first | exact EnvLe.nil _ | refine EnvLe.cons rfl ?_)
    ·
     rw [hx]
     exact entX
   ·
    have hx : xd off (fresh (1 + q)) = fresh (1 + q) := if_neg (by simp [h100])
    refine SG.skip ?_
    refine SG.weaken (rest () trivial) ?_ ?_
    ·
     repeat (first | exact EnvLe.nil _ | refine EnvLe.cons rfl ?_)
    ·
     rw [hx]
     exact entX
 ·
  refine RL.nil ?_
  refine SG.cond_false rfl ?_
  refine SG.exit rfl ?_
  refine SG.seq ?_
  refine SG.region ?_
  refine RL.eff (Wanted.free rfl) (E.call rfl go17 rfl (lives_ok)) rfl ?_
  rintro _ _ ⟨rfl, rfl⟩
  refine RL.val (Wanted.free rfl) (V.assign rfl rfl) rfl ?_
  refine RL.nil ?_
  refine SG.retE (Ret.r1 Try.func3 rfl (.tmp rfl)) ?_ ⟨rfl, rfl⟩
  exact entX

end Go.Proofs.Ytnbjonijlkjclaa
