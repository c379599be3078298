/- Leaves. -/
import Derived.Test.YtcbloadpffjkiaaDoorMlives
import Derived.Test.YtcbloadpffjkiaaDoorMfront
namespace Go.Proofs.YtcbloadpffjkiaaDoor
open Go.Wk Go.Mk Go.Sha

/-- The leaves of the first byte slices. -/
def leavesV (ls : List (List UInt8)) (most : Nat) : List Hs := (ls.take most).map leaf
theorem leaves_len (ls : List (List UInt8)) (most : Nat) : (leavesV ls most).length = min most ls.length := by simp [leavesV]
theorem leaves_succ {ls : List (List UInt8)} {i : Nat} {x : List UInt8} (h : ls[i]? = some x) : leavesV ls (i + 1) = leavesV ls i ++ [leaf x] := by simp [leavesV, List.take_add_one, h]
theorem leaves32 {ls : List (List UInt8)} {most : Nat} : ∀ x ∈ leavesV ls most, x.length = 32 := fun x hx => by
  obtain ⟨y, _, rfl⟩ := List.mem_map.1 hx
  exact leaf_length _
theorem leaves_all {ls : List (List UInt8)} {i most : Nat} (h1 : i ≤ ls.length) (h2 : i ≤ most) (h3 : ¬ (i < ls.length ∧ i < most)) : leavesV ls i = leavesV ls most := by
  unfold leavesV
  by_cases h : i < ls.length
  · rw [show i = most from by omega]
  · rw [List.take_of_length_le (by omega), List.take_of_length_le (by omega)]
set_option maxRecDepth 100000 in
set_option maxHeartbeats 1000000 in
theorem leaves_ok {κ : World} {L : List Assn} {a : Option Addr} {m c most : Nat} {ls : List (List UInt8)} (hm : Sl (Rep.slice R8) a m c ls ∈ L) (hb : ∀ x ∈ ls, x.length ≤ 140737488355000) (h40 : most ≤ 1000) :
    Ctr Tryd.prog 22 #[.slice a m c, vI (most : Int)] κ L (fun v M => ∃ a2 c2, v = .slice a2 (leavesV ls most).length c2 ∧ M = Sl (RArr8 32) a2 (leavesV ls most).length c2 (leavesV ls most) :: L) := by
 refine Ctr.enter (vs := [.slice a m c, vI (most : Int)]) (m := 27) Tryd.func22 rfl rfl rfl ?_
 refine SG.sl hm fun hn hc hc63 => ?_
 subst hn
 refine SG.ent (Buf.nil (T := RArr8 32) (e := 25)) ?_
 refine SG.seq ?_
 refine SG.region ?_
 refine RL.val (Wanted.free rfl) (V.assign rfl rfl) rfl ?_
 refine RL.nil ?_
 refine SG.seq ?_
 refine SG.region ?_
 refine RL.val (Wanted.free rfl) (V.assign rfl rfl) rfl ?_
 refine RL.nil ?_
 refine SG.seq ?_
 refine SG.seq ?_
 refine SG.region ?_
 refine RL.val (Wanted.free rfl) (V.assign rfl rfl) rfl ?_
 refine RL.nil ?_
 refine SG.block ?_
 refine SG.weaken (SG.loop2 (fun m0 al M => ∃ (i : Nat) (a5 : Option Addr) (c5 : Nat), i ≤ ls.length ∧ i ≤ most ∧ m0 = most + 1 - i ∧ al = [(0, .slice a ls.length c), (1, vI (most : Int)), (5, .slice a5 i c5), (6, vI i)] ∧ M = Buf (RArr8 32) 25 a5 i c5 (leavesV ls i) :: L) (m0 := _) ⟨0, none, 0, by omega, by omega, rfl, rfl, rfl⟩ ?_) ?_ ?_
 rotate_left
 ·
  repeat (first | exact EnvLe.nil _ | refine EnvLe.cons rfl ?_)
 ·
  exact entX
 rintro _ _ _ ⟨i, a5, c5, hi, hi2, rfl, rfl, rfl⟩ ih0
 refine SG.seq ?_
 refine SG.seq ?_
 refine SG.region ?_
 refine RL.val (Wanted.free rfl) (V.move rfl rfl) rfl ?_
 refine RL.val (Wanted.free rfl) (V.move rfl rfl) rfl ?_
 refine RL.val (Wanted.free rfl) (V.len rfl rfl el36.under rfl) rfl ?_
 refine RL.cmp (Wanted.free rfl) (V.bin rfl rfl rfl B.lss) rfl (fun h7 => ?_) (fun h7 => ?_)
 ·
  refine RL.val (Wanted.free rfl) (V.move rfl rfl) rfl ?_
  refine RL.val (Wanted.yes rfl rfl rfl rfl) (V.move rfl rfl) rfl ?_
  refine RL.val (Wanted.yes rfl rfl rfl rfl) (V.move rfl rfl) rfl ?_
  refine RL.cmp (Wanted.yes rfl rfl rfl rfl) (V.bin rfl rfl rfl B.lss) rfl (fun h11 => ?_) (fun h11 => ?_)
  ·
   refine RL.val (Wanted.free rfl) (V.pick_true rfl rfl rfl) rfl ?_
   refine RL.nil ?_
   refine SG.cond_true rfl ?_
   refine SG.skip ?_
   refine SG.seq ?_
   refine SG.block ?_
   obtain ⟨x, hx⟩ : ∃ x, ls[i]? = some x := ⟨_, List.getElem?_eq_getElem (by omega)⟩
   have hxb := hb x (List.mem_of_getElem? hx)
   have hll := leaves_len ls i
   refine SG.region ?_
   refine RL.val (Wanted.free rfl) (V.move rfl rfl) rfl ?_
   refine RL.val (Wanted.free rfl) (V.move rfl rfl) rfl ?_
   refine RL.val (Wanted.free rfl) (V.move rfl rfl) rfl ?_
   refine RL.val (Wanted.free rfl) (V.indexSl (j := i) rfl el36.slice rfl rfl memX (by first | rfl | omega) (by omega)) rfl ?_
   refine RL.eff (Wanted.free rfl) (E.loadSlSl rfl on62 rfl memX hx) rfl ?_
   rintro _ _ ⟨a22, m22, c22, rfl, rfl⟩
   refine RL.eff (Wanted.free rfl) (E.call rfl go44 rfl (rleaf_ok (l := x) memX hxb)) rfl ?_
   rintro _ _ ⟨rfl, rfl⟩
   refine RL.eff (Wanted.free rfl) (E.lit1 ((leaf x).map v8) rfl el22.slice ze25 (by simp) (by decide) (by decide) rfl rfl (by rw [List.length_map]; exact (leaf_length _))) rfl ?_
   rintro _ _ ⟨b24, rfl, rfl⟩
   refine RL.eff (Wanted.free rfl) (E.append (T := (RArr8 32)) rfl rfl rfl el22 el22.noInt rfl rfl pickX (Src.litDt (y := leaf x) pickX rfl (leaf_length _)) (by first | omega | (simp; omega)) (by first | omega | (simp; omega))) rfl ?_
   intro _ _ hK19
   try rw [List.nil_append] at hK19
   try rw [Nat.zero_add] at hK19
   rw [← leaves_succ hx] at hK19
   obtain ⟨a25, c25, rfl, rfl⟩ := hK19
   refine RL.val (Wanted.free rfl) (V.assign rfl rfl) rfl ?_
   refine RL.nil ?_
   refine SG.inBlock ?_
   refine SG.region ?_
   refine RL.val (Wanted.free rfl) (V.move rfl rfl) rfl ?_
   refine RL.val (Wanted.free rfl) (V.bin rfl rfl rfl (B.addI (by omega) (by omega))) rfl ?_
   refine RL.val (Wanted.free rfl) (V.assign rfl rfl) rfl ?_
   refine RL.nil ?_
   refine SG.weaken (ih0 _ _ _ ?_ ⟨i + 1, a25, c25, by omega, by omega, rfl, rfl, rfl⟩) ?_ ?_
   ·
    omega
   ·
    repeat (first | exact EnvLe.nil _ | refine EnvLe.cons rfl ?_)
   ·
    exact entX
  ·
   refine RL.val (Wanted.free rfl) (V.pick_true rfl rfl rfl) rfl ?_
   refine RL.nil ?_
   refine SG.cond_false rfl ?_
   refine SG.exit rfl ?_
   refine SG.seq ?_
   have hla := leaves_all (ls := ls) (i := i) (most := most) (by omega) (by omega) (by omega)
   have hll := leaves_len ls i
   have hli : (leavesV ls most).length = i := by rw [← hla]; omega
   rw [hla]
   refine SG.publish (T := RArr8 32) (a := a5) pickX ?_
   refine SG.region ?_
   refine RL.val (Wanted.free rfl) (V.move rfl rfl) rfl ?_
   refine RL.val (Wanted.free rfl) (V.assign rfl rfl) rfl ?_
   refine RL.nil ?_
   refine SG.retE (Ret.r1 Tryd.func22 rfl (.tmp rfl)) ?_ ⟨a5, c5, by rw [hli], by rw [hli]⟩
   exact entX
 ·
  refine RL.val (Wanted.free rfl) (V.move rfl rfl) rfl ?_
  refine RL.skip (Wanted.no rfl rfl rfl rfl rfl) rfl ?_
  refine RL.skip (Wanted.no rfl rfl rfl rfl rfl) rfl ?_
  refine RL.skip (Wanted.no rfl rfl rfl rfl rfl) rfl ?_
  refine RL.val (Wanted.free rfl) (V.pick_false rfl rfl rfl) rfl ?_
  refine RL.nil ?_
  refine SG.cond_false rfl ?_
  refine SG.exit rfl ?_
  refine SG.seq ?_
  have hla := leaves_all (ls := ls) (i := i) (most := most) (by omega) (by omega) (by omega)
  have hll := leaves_len ls i
  have hli : (leavesV ls most).length = i := by rw [← hla]; omega
  rw [hla]
  refine SG.publish (T := RArr8 32) (a := a5) pickX ?_
  refine SG.region ?_
  refine RL.val (Wanted.free rfl) (V.move rfl rfl) rfl ?_
  refine RL.val (Wanted.free rfl) (V.assign rfl rfl) rfl ?_
  refine RL.nil ?_
  refine SG.retE (Ret.r1 Tryd.func22 rfl (.tmp rfl)) ?_ ⟨a5, c5, by rw [hli], by rw [hli]⟩
  exact entX

end Go.Proofs.YtcbloadpffjkiaaDoor
