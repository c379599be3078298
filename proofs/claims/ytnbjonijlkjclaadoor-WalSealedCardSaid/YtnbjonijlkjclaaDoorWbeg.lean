/- A log with its past is begun. -/
import Derived.Test.YtnbjonijlkjclaaDoorWpast
import Derived.Test.YtnbjonijlkjclaaDoorFormat
namespace Go.Proofs.YtnbjonijlkjclaaDoor
open Go.Wk Go.Wl Go.Dsk

theorem Sep.slInts {κ w : World} {L : List Assn} {a : Option Addr} {m c : Nat} {l : List Int} (hs : Sep κ w L) (hm : Sl RI a m c l ∈ L) : ∀ x ∈ l, inInt x := by
  obtain ⟨z, _, k1, _, _, k4⟩ := hs.sl hm
  rcases k4 with k4 | ⟨_, _, _, _, _, hr⟩
  · intro x hx
    have : l = [] := List.eq_nil_of_length_eq_zero (by omega)
    rw [this] at hx; cases hx
  · exact (rows_sc.1 hr).2
theorem lg0_n (f n : Int) : (lg0 f n 1 0).n = n := rfl
theorem lg0_synced (f n : Int) : (lg0 f n 1 0).synced = 0 := rfl
theorem lg0_recs (f n : Int) : (lg0 f n 1 0).recs = [] := rfl
set_option maxRecDepth 100000 in
set_option maxHeartbeats 2000000 in
theorem begin_ok {κ : World} {L : List Assn} {s : Int} (hs : inInt s) :
    Ctr Tryd.prog 4 #[vI s] κ L (fun v M' => ∃ (q b lb db : Nat) (g : Lg) (D : Dk), q < 12 ∧ Pst 1 ((4 + q : Nat) : Int) g D 1 60 false ∧ D.calm ∧ D.S.length = 4 + q + 2 ∧ g.recs = [] ∧ g.synced = 0 ∧ v = ptr b 0 ∧ M' = Past b lb db g false :: Dsk db D :: L) := by
 refine Ctr.enter (vs := [vI s]) (m := 32) Tryd.func4 rfl rfl rfl ?_
 refine SG.seq ?_
 refine SG.region ?_
 refine RL.val (Wanted.free rfl) (V.assign rfl rfl) rfl ?_
 refine RL.nil ?_
 refine SG.seq ?_
 refine SG.region ?_
 refine RL.val (Wanted.free rfl) (V.move rfl rfl) rfl ?_
 refine RL.eff (Wanted.free rfl) (E.call rfl go6 rfl (around_ok _ _ hs.1 hs.2 (by omega))) rfl ?_
 rintro _ _ ⟨rfl, hM⟩
 rw [hM]
 obtain ⟨q, hq, hq2⟩ := aroundV_nat (n := s) (most := 12) (by omega)
 rw [hq]
 refine RL.val (Wanted.free rfl) (V.bin rfl rfl rfl (B.addI (by omega) (by omega))) rfl ?_
 rw [show (4 : Int) + (q : Int) = ((4 + q : Nat) : Int) from by omega]
 refine RL.val (Wanted.free rfl) (V.assign rfl rfl) rfl ?_
 refine RL.nil ?_
 refine SG.seq ?_
 refine SG.region ?_
 refine RL.val (Wanted.free rfl) (V.move rfl rfl) rfl ?_
 refine RL.val (Wanted.free rfl) (V.bin rfl rfl rfl (B.addI (by omega) (by omega))) rfl ?_
 rw [show ((4 + q : Nat) : Int) + 2 = ((4 + q + 2 : Nat) : Int) from by omega]
 refine RL.eff (Wanted.free rfl) (E.call rfl go22 rfl (made_ok (n := 4 + q + 2) (by omega) (by omega))) rfl ?_
 rintro _ _ ⟨b12, rfl, rfl⟩
 refine RL.val (Wanted.free rfl) (V.assign rfl rfl) rfl ?_
 refine RL.nil ?_
 refine SG.seq ?_
 refine SG.seq ?_
 refine SG.region ?_
 refine RL.val (Wanted.free rfl) (V.move rfl rfl) rfl ?_
 refine RL.cmpF (Wanted.free rfl) (V.eqlPtrNil rfl up27 rfl rfl) rfl (by simp) ?_
 refine RL.nil ?_
 refine SG.cond_false rfl ?_
 refine SG.skip ?_
 refine SG.seq ?_
 have hF0 := fresh_ok (n := 4 + q + 2) (by omega) (by omega)
 have hv0 : checkV (fresh (4 + q + 2)) 1 ((4 + q : Nat) : Int) = 0 := checkV_zero.2 ⟨by omega, by omega, by rw [fresh_len]; omega, by rw [fresh_len]; omega, rfl⟩
 obtain ⟨hf1, hf2⟩ := fmt_calm (fresh_calm _) hv0
 have hP0 := Pst.format hF0 (by decide) (fresh_calm _) hv0 (by decide) (by omega)
 refine SG.region ?_
 refine RL.val (Wanted.free rfl) (V.move rfl rfl) rfl ?_
 refine RL.val (Wanted.free rfl) (V.move rfl rfl) rfl ?_
 refine RL.eff (Wanted.free rfl) (E.call rfl go23 rfl (format_good hF0 (by decide) (by decide) (db := b12) pickX (by unfold inInt; omega) (by unfold inInt; omega) hf1)) rfl ?_
 rintro _ _ ⟨b18, rfl, rfl⟩
 refine RL.val (Wanted.free rfl) (V.move rfl rfl) rfl ?_
 refine RL.val (Wanted.free rfl) (V.extract rfl rfl rfl) rfl ?_
 refine RL.val (Wanted.free rfl) (V.extract rfl rfl rfl) rfl ?_
 refine RL.val (Wanted.free rfl) (V.assign rfl rfl) rfl ?_
 refine RL.val (Wanted.free rfl) (V.assign rfl rfl) rfl ?_
 refine RL.nil ?_
 refine SG.seq ?_
 refine SG.seq ?_
 refine SG.region ?_
 refine RL.val (Wanted.free rfl) (V.move rfl rfl) rfl ?_
 refine RL.cmpF (Wanted.free rfl) (V.bin rfl rfl rfl B.neq) rfl (by simp) ?_
 refine RL.val (Wanted.free rfl) (V.move rfl rfl) rfl ?_
 refine RL.val (Wanted.yes rfl rfl rfl rfl) (V.move rfl rfl) rfl ?_
 refine RL.cmpF (Wanted.yes rfl rfl rfl rfl) (V.eqlPtrNil rfl up28 rfl rfl) rfl (by simp) ?_
 refine RL.val (Wanted.free rfl) (V.pick_false rfl rfl rfl) rfl ?_
 refine RL.nil ?_
 refine SG.cond_false rfl ?_
 refine SG.skip ?_
 refine SG.seq ?_
 refine SG.region ?_
 refine RL.val (Wanted.free rfl) (V.move rfl rfl) rfl ?_
 refine RL.val (Wanted.free rfl) (V.move rfl rfl) rfl ?_
 refine RL.val (Wanted.free rfl) (V.move rfl rfl) rfl ?_
 refine RL.val (Wanted.free rfl) (V.buildS [(0, _), (1, _), (2, _)] rfl bs30 (by exact ⟨rfl, ⟨_, rfl, rfl⟩, ⟨rfl, ⟨_, rfl, rfl⟩, ⟨rfl, ⟨_, rfl, rfl⟩, trivial⟩⟩⟩) rfl) rfl ?_
 refine RL.eff (Wanted.free rfl) (E.box [ptr b12 0, ptr b18 0, vI ((4 + q : Nat) : Int), .slice none 0 0, vI 0, vB false] rfl rfl rfl) rfl ?_
 rintro _ _ ⟨b31, rfl, rfl⟩
 refine RL.val (Wanted.free rfl) (V.assign rfl rfl) rfl ?_
 refine RL.nil ?_
 refine SG.ent (Buf.nil (T := Rep.slice R8) (e := 34)) ?_
 refine SG.retE (Ret.r1 Tryd.func4 rfl (.tmp rfl)) ?_ ⟨q, _, b18, b12, (lg0 1 ((4 + q : Nat) : Int) 1 0), _, by omega, hP0.mono (Nat.le_refl _) (by omega), hf2.calm, hf2.len.trans (fresh_len _), rfl, rfl, rfl, rfl⟩
 refine Past.ent (xa := none) (xn := 0) (xc := 0) ?_
 dsimp only [pc]
 rw [lg0_n, lg0_synced, lg0_recs]
 exact entX

end Go.Proofs.YtnbjonijlkjclaaDoor
