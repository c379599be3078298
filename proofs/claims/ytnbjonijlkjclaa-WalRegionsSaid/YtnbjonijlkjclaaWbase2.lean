/- Made-up bytes. -/
import Derived.Test.YtnbjonijlkjclaaWfail
namespace Go.Proofs.Ytnbjonijlkjclaa
open Go.Wk Go.Wl Go.Dsk

def bytesX (x : UInt32) : Nat → UInt32
  | 0 => x
  | n + 1 => bytesX x n * 1664525 + 1013904223
/-- n bytes made of a number. -/
def bytesV (x : UInt32) (n : Nat) : List UInt8 := (List.range n).map fun i => (bytesX x (i + 1) >>> 24).toUInt8
theorem bytesV_length (x : UInt32) (n : Nat) : (bytesV x n).length = n := by simp [bytesV]
theorem bytesV_step (x : UInt32) (n : Nat) : bytesV x (n + 1) = bytesV x n ++ [(bytesX x (n + 1) >>> 24).toUInt8] := by
  rw [bytesV, List.range_succ, List.map_append]; rfl
def seedV (s : Int) : UInt32 := UInt32.ofNat (s % 4294967296).toNat ||| 1

set_option maxRecDepth 100000 in
theorem bytes_ok {κ : World} {L : List Assn} {n : Nat} {s : Int} (hn : n ≤ 100000000) :
    Ctr Try.prog 25 #[vI (n : Int), vI s] κ L (fun v M => ∃ a c, v = .slice a n c ∧ M = Buf R8 5 a n c (bytesV (seedV s) n) :: L) := by
 refine Ctr.enter (vs := [vI (n : Int), vI s]) (m := 26) Try.func25 rfl rfl rfl ?_
 refine SG.ent (Buf.nil (T := R8) (e := 5)) ?_
 refine SG.seq ?_
 refine SG.region ?_
 refine RL.val (Wanted.free rfl) (V.assign rfl rfl) rfl ?_
 refine RL.nil ?_
 refine SG.seq ?_
 refine SG.region ?_
 refine RL.val (Wanted.free rfl) (V.assign rfl rfl) rfl ?_
 refine RL.nil ?_
 refine SG.seq ?_
 refine SG.region ?_
 refine RL.val (Wanted.free rfl) (V.move rfl rfl) rfl ?_
 refine RL.val (Wanted.free rfl) (V.to32 rfl ⟨_, ui3⟩ ui93 rfl) rfl ?_
 refine RL.val (Wanted.free rfl) (V.bin rfl rfl rfl (B.or32 (y := 1))) rfl ?_
 refine RL.val (Wanted.free rfl) (V.assign rfl rfl) rfl ?_
 refine RL.nil ?_
 refine SG.seq ?_
 refine SG.seq ?_
 refine SG.region ?_
 refine RL.val (Wanted.free rfl) (V.assign rfl rfl) rfl ?_
 refine RL.nil ?_
 refine SG.block ?_
 refine SG.weaken (SG.loop2 (fun m al M => ∃ (i : Nat) (a5 : Option Addr) (c5 : Nat), i ≤ n ∧ m = n - i ∧ al = [(0, vI n), (5, .slice a5 i c5), (6, v32 (bytesX (seedV s) i)), (7, vI i)] ∧ M = Buf R8 5 a5 i c5 (bytesV (seedV s) i) :: L) (m0 := _) ⟨0, none, 0, by omega, rfl, rfl, rfl⟩ ?_) ?_ ?_
 rotate_left
 ·
  repeat (first | exact EnvLe.nil _ | refine EnvLe.cons rfl ?_)
 ·
  exact entX
 rintro _ _ _ ⟨i, a5, c5, hi, rfl, rfl, rfl⟩ ih0
 refine SG.seq ?_
 refine SG.seq ?_
 refine SG.region ?_
 refine RL.val (Wanted.free rfl) (V.move rfl rfl) rfl ?_
 refine RL.val (Wanted.free rfl) (V.move rfl rfl) rfl ?_
 refine RL.cmp (Wanted.free rfl) (V.bin rfl rfl rfl B.lss) rfl (fun h10 => ?_) (fun h10 => ?_)
 ·
  refine RL.nil ?_
  refine SG.cond_true rfl ?_
  refine SG.skip ?_
  refine SG.seq ?_
  refine SG.block ?_
  refine SG.seq ?_
  refine SG.region ?_
  refine RL.val (Wanted.free rfl) (V.move rfl rfl) rfl ?_
  refine RL.val (Wanted.free rfl) (V.bin rfl rfl rfl (B.mul32 (y := 1664525))) rfl ?_
  refine RL.val (Wanted.free rfl) (V.bin rfl rfl rfl (B.add32 (y := 1013904223))) rfl ?_
  refine RL.val (Wanted.free rfl) (V.assign rfl rfl) rfl ?_
  refine RL.nil ?_
  refine SG.region ?_
  refine RL.val (Wanted.free rfl) (V.move rfl rfl) rfl ?_
  refine RL.val (Wanted.free rfl) (V.move rfl rfl) rfl ?_
  refine RL.val (Wanted.free rfl) (V.bin rfl rfl rfl (B.shr32 24 (by decide) (by decide) rfl)) rfl ?_
  refine RL.val (Wanted.free rfl) (V.to8 rfl ⟨_, ui93⟩ ui5 rfl) rfl ?_
  rw [u32to8]
  refine RL.eff (Wanted.free rfl) (E.lit1 _ rfl el35.slice ze5 rfl (by decide) (by decide) rfl rfl rfl) rfl ?_
  rintro _ _ ⟨b19, rfl, rfl⟩
  refine RL.eff (Wanted.free rfl) (E.append (T := R8) rfl rfl rfl el35 el35.noInt rfl rfl pickX (Src.lit (x := (bytesX (seedV s) (i + 1) >>> 24).toUInt8) pickX (by first | trivial | assumption | omega)) (by first | omega | (simp; omega)) (by first | omega | (simp; omega))) rfl ?_
  intro _ _ hK20
  try rw [List.nil_append] at hK20
  try rw [Nat.zero_add] at hK20
  rw [← bytesV_step] at hK20
  obtain ⟨a24, c24, rfl, rfl⟩ := hK20
  refine RL.val (Wanted.free rfl) (V.assign rfl rfl) rfl ?_
  refine RL.nil ?_
  refine SG.inBlock ?_
  refine SG.region ?_
  refine RL.val (Wanted.free rfl) (V.move rfl rfl) rfl ?_
  refine RL.val (Wanted.free rfl) (V.bin rfl rfl rfl (B.addI (by omega) (by omega))) rfl ?_
  refine RL.val (Wanted.free rfl) (V.assign rfl rfl) rfl ?_
  refine RL.nil ?_
  refine SG.weaken (ih0 _ _ _ ?_ ⟨i + 1, a24, c24, by omega, rfl, rfl, rfl⟩) ?_ ?_
  ·
   omega
  ·
   repeat (first | exact EnvLe.nil _ | refine EnvLe.cons rfl ?_)
  ·
   exact entX
 ·
  refine RL.nil ?_
  refine SG.cond_false rfl ?_
  refine SG.exit rfl ?_
  refine SG.seq ?_
  obtain rfl : i = n := by omega
  refine SG.region ?_
  refine RL.val (Wanted.free rfl) (V.move rfl rfl) rfl ?_
  refine RL.val (Wanted.free rfl) (V.assign rfl rfl) rfl ?_
  refine RL.nil ?_
  refine SG.retE (Ret.r1 Try.func25 rfl (.tmp rfl)) ?_ ⟨_, _, rfl, rfl⟩
  exact entX

theorem betw_full {rs l : List (List UInt8)} {s : Int} (h : betw rs s l) (hs : s = l.length) : rs = l := by
  have h1 := h.1; have h2 := h.2.1
  rw [h.2.2]; exact List.take_of_length_le (by omega)
theorem back_full {D : Dk} {f n : Int} {g : Lg} {rs : List (List UInt8)} (h : Back D f n g false rs) (hs : g.synced = g.recs.length) : rs = g.recs :=
  h.old.elim (fun h => betw_full h hs) fun h => absurd h.1 (by decide)
theorem appR_iff {n : Int} {rs : List (List UInt8)} {rec : List UInt8} (h : rec.length ≤ 4000) : appR n rs rec = 0 ↔ (rec.length : Int) ≤ roomR n rs := by
  unfold appR; rw [if_neg (by omega)]
  split
  · constructor
    · intro h; cases h
    · omega
  · exact ⟨fun _ => by omega, fun _ => rfl⟩
end Go.Proofs.Ytnbjonijlkjclaa
