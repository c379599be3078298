/- Concat. -/
import Derived.Test.YtcbloadpffjkiaaDoorZTops
namespace Go.Proofs.YtcbloadpffjkiaaDoor
open Go.Wk Go.Sha

set_option maxRecDepth 100000 in
theorem grow_ok {κ : World} {L : List Assn} {k : Nat} (hk : k ≤ 1000000) :
    Ctr Tryd.prog 92 #[.slice none 0 0, vI (k : Int)] κ L (fun v M => ∃ a' c', v = .slice a' 0 c' ∧ M = Buf R8 5 a' 0 c' [] :: L) := by
 refine Ctr.enter (vs := [.slice none 0 0, vI (k : Int)]) (m := 27) Tryd.func92 rfl rfl rfl ?_
 refine SG.ent (Buf.nil (T := R8) (e := 5)) ?_
 refine SG.seq ?_
 refine SG.region ?_
 refine RL.val (Wanted.free rfl) (V.assign rfl rfl) rfl ?_
 refine RL.nil ?_
 refine SG.seq ?_
 refine SG.seq ?_
 refine SG.region ?_
 refine RL.val (Wanted.free rfl) (V.move rfl rfl) rfl ?_
 refine RL.cmpF (Wanted.free rfl) (V.bin rfl rfl rfl B.lss) rfl (by omega) ?_
 refine RL.nil ?_
 refine SG.cond_false rfl ?_
 refine SG.skip ?_
 refine SG.seq ?_
 refine SG.seq ?_
 refine SG.region ?_
 refine RL.val (Wanted.free rfl) (V.move rfl rfl) rfl ?_
 refine RL.val (Wanted.free rfl) (V.move rfl rfl) rfl ?_
 refine RL.val (Wanted.free rfl) (V.cap rfl rfl el62.under rfl) rfl ?_
 refine RL.val (Wanted.free rfl) (V.move rfl rfl) rfl ?_
 refine RL.val (Wanted.free rfl) (V.len rfl rfl el62.under rfl) rfl ?_
 refine RL.val (Wanted.free rfl) (V.bin rfl rfl rfl (B.subI (by omega) (by omega))) rfl ?_
 refine RL.val (Wanted.free rfl) (V.bin rfl rfl rfl (B.subI (by omega) (by omega))) rfl ?_
 refine RL.val (Wanted.free rfl) (V.assign rfl rfl) rfl ?_
 refine RL.nil ?_
 refine SG.seq ?_
 refine SG.region ?_
 refine RL.val (Wanted.free rfl) (V.move rfl rfl) rfl ?_
 refine RL.cmp (Wanted.free rfl) (V.bin rfl rfl rfl B.gtr) rfl (fun h12 => ?_) (fun h12 => ?_)
 ·
  refine RL.nil ?_
  refine SG.cond_true rfl ?_
  refine SG.region ?_
  refine RL.val (Wanted.free rfl) (V.move rfl rfl) rfl ?_
  refine RL.val (Wanted.free rfl) (V.move rfl rfl) rfl ?_
  refine RL.val (Wanted.free rfl) (V.cap rfl rfl el62.under rfl) rfl ?_
  refine RL.val (Wanted.free rfl) (V.sliceTo (hi := 0) rfl el62.slice rfl ⟨_, _, rfl, (by first | rfl | omega)⟩ (by omega)) rfl ?_
  refine RL.val (Wanted.free rfl) (V.move rfl rfl) rfl ?_
  refine RL.eff (Wanted.free rfl) (E.appendZ (k := k) rfl rfl rfl el62 ze5 ui3 us9 rfl rfl (by omega) pickX (by omega) (by omega) (by omega) (by omega)) rfl ?_
  intro _ _ hK18
  try rw [List.nil_append] at hK18
  try rw [Nat.zero_add] at hK18
  obtain ⟨a22, c22, rfl, rfl⟩ := hK18
  refine RL.buf (T := R8) (a := a22) Pick.here fun _ hc22 _ => ?_
  refine RL.ent (Buf.cut (Nat.zero_le _)) ?_
  refine RL.val (Wanted.free rfl) (V.move rfl rfl) rfl ?_
  refine RL.val (Wanted.free rfl) (V.len rfl rfl el62.under rfl) rfl ?_
  refine RL.val (Wanted.free rfl) (V.sliceTo (hi := 0) rfl el62.slice rfl ⟨_, _, rfl, (by first | rfl | omega)⟩ (by omega)) rfl ?_
  refine RL.val (Wanted.free rfl) (V.assign rfl rfl) rfl ?_
  refine RL.nil ?_
  refine SG.seq ?_
  refine SG.region ?_
  refine RL.val (Wanted.free rfl) (V.move rfl rfl) rfl ?_
  refine RL.val (Wanted.free rfl) (V.assign rfl rfl) rfl ?_
  refine RL.nil ?_
  refine SG.retE (Ret.r1 Tryd.func92 rfl (.tmp rfl)) ?_ ⟨_, _, rfl, rfl⟩
  exact entX
 ·
  refine RL.nil ?_
  refine SG.cond_false rfl ?_
  refine SG.skip ?_
  refine SG.seq ?_
  refine SG.region ?_
  refine RL.val (Wanted.free rfl) (V.move rfl rfl) rfl ?_
  refine RL.val (Wanted.free rfl) (V.assign rfl rfl) rfl ?_
  refine RL.nil ?_
  refine SG.retE (Ret.r1 Tryd.func92 rfl (.tmp rfl)) ?_ ⟨_, _, rfl, rfl⟩
  exact entX

theorem flat_step {ls : List (List UInt8)} {i : Nat} (h : i < ls.length) : (ls.take (i + 1)).flatten = (ls.take i).flatten ++ ls[i] := by
  have e : ls.take (i + 1) = ls.take i ++ [ls[i]] := by
    rw [List.take_add_one, List.getElem?_eq_getElem h]; rfl
  rw [e, List.flatten_append]; simp
theorem flat_le {ls : List (List UInt8)} {i : Nat} : (ls.take i).flatten.length ≤ ls.flatten.length := by
  have h : ls.flatten = (ls.take i).flatten ++ (ls.drop i).flatten := by rw [← List.flatten_append, List.take_append_drop]
  rw [h, List.length_append]; omega
set_option maxRecDepth 100000 in
theorem concat_ok {κ : World} {L : List Assn} {a : Option Addr} {n c : Nat} {ls : List (List UInt8)} (hm : Sl (Rep.slice R8) a n c ls ∈ L) (hb : ls.flatten.length ≤ 1000000) :
    Ctr Tryd.prog 79 #[.slice a n c] κ L (fun v M => ∃ a' c', v = .slice a' ls.flatten.length c' ∧ M = Buf R8 5 a' ls.flatten.length c' ls.flatten :: L) := by
 refine Ctr.enter (vs := [.slice a n c]) (m := 36) Tryd.func79 rfl rfl rfl ?_
 refine SG.sl hm fun hn hc hc63 => ?_
 subst hn
 refine SG.seq ?_
 refine SG.region ?_
 refine RL.val (Wanted.free rfl) (V.assign rfl rfl) rfl ?_
 refine RL.nil ?_
 refine SG.seq ?_
 refine SG.region ?_
 refine RL.val (Wanted.free rfl) (V.assign rfl rfl) rfl ?_
 refine RL.nil ?_
 refine SG.seq ?_
 refine SG.seq ?_
 refine SG.region ?_
 refine RL.val (Wanted.free rfl) (V.move rfl rfl) rfl ?_
 refine RL.val (Wanted.free rfl) (V.len rfl rfl el36.under rfl) rfl ?_
 refine RL.val (Wanted.free rfl) (V.move rfl rfl) rfl ?_
 refine RL.nil ?_
 refine SG.block ?_
 refine SG.weaken (SG.loop2 (fun m al M => ∃ i : Nat, i ≤ ls.length ∧ m = ls.length - i ∧ al = [(0, .slice a ls.length c), (3, vI ((ls.take i).flatten.length : Nat)), (9, .slice a ls.length c), (10, vI ls.length), (11, vI i)] ∧ M = L) (m0 := _) ⟨0, by omega, rfl, rfl, rfl⟩ ?_) ?_ ?_
 rotate_left
 ·
  repeat (first | exact EnvLe.nil _ | refine EnvLe.cons rfl ?_)
 ·
  exact entX
 rintro _ _ _ ⟨i, hi, rfl, rfl, hM⟩ ih0
 rw [hM]
 refine SG.seq ?_
 refine SG.region ?_
 refine RL.cmp (Wanted.free rfl) (V.bin rfl rfl rfl B.lss) rfl (fun h6 => ?_) (fun h6 => ?_)
 ·
  refine RL.nil ?_
  refine SG.seq ?_
  refine SG.cond_true rfl ?_
  refine SG.skip ?_
  refine SG.seq ?_
  refine SG.block ?_
  refine SG.seq ?_
  have hf1 := flat_step (ls := ls) (i := i) (by omega)
  have hf2 := flat_le (ls := ls) (i := i + 1)
  rw [hf1, List.length_append] at hf2
  refine SG.region ?_
  refine RL.val (Wanted.free rfl) (V.indexSl (j := i) rfl el36.slice rfl rfl memX (by first | rfl | omega) (by omega)) rfl ?_
  refine RL.eff (Wanted.free rfl) (E.loadSlSl rfl on62 rfl memX (List.getElem?_eq_getElem (by omega))) rfl ?_
  rintro _ _ ⟨a14, m14, c14, rfl, rfl⟩
  refine RL.sl (T := R8) (a := a14) (List.mem_cons_self ..) fun hl14 _ _ => ?_
  subst hl14
  refine RL.val (Wanted.free rfl) (V.assign rfl rfl) rfl ?_
  refine RL.nil ?_
  refine SG.seq ?_
  refine SG.region ?_
  refine RL.val (Wanted.free rfl) (V.move rfl rfl) rfl ?_
  refine RL.val (Wanted.free rfl) (V.move rfl rfl) rfl ?_
  refine RL.val (Wanted.free rfl) (V.len rfl rfl el62.under rfl) rfl ?_
  refine RL.val (Wanted.free rfl) (V.bin rfl rfl rfl (B.addI (by omega) (by omega))) rfl ?_
  refine RL.val (Wanted.free rfl) (V.assign rfl rfl) rfl ?_
  refine RL.nil ?_
  refine SG.seq ?_
  refine SG.region ?_
  refine RL.val (Wanted.free rfl) (V.move rfl rfl) rfl ?_
  refine RL.cmpF (Wanted.free rfl) (V.bin rfl rfl rfl B.lss) rfl (by omega) ?_
  refine RL.nil ?_
  refine SG.cond_false rfl ?_
  refine SG.skip ?_
  refine SG.inBlock ?_
  refine SG.region ?_
  refine RL.val (Wanted.free rfl) (V.bin rfl rfl rfl (B.addI (by omega) (by omega))) rfl ?_
  refine RL.val (Wanted.free rfl) (V.move rfl rfl) rfl ?_
  refine RL.nil ?_
  refine SG.weaken (ih0 _ _ _ ?_ ⟨i + 1, by omega, rfl, rfl, rfl⟩) ?_ ?_
  ·
   omega
  ·
   rw [hf1, List.length_append, Int.natCast_add]
   repeat (first | exact EnvLe.nil _ | refine EnvLe.cons rfl ?_)
  ·
   exact entX
 ·
  refine RL.nil ?_
  refine SG.seq ?_
  refine SG.cond_false rfl ?_
  refine SG.exit rfl ?_
  refine SG.seq ?_
  obtain rfl : i = ls.length := by omega
  rw [List.take_length]
  refine SG.region ?_
  refine RL.val (Wanted.free rfl) (V.move rfl rfl) rfl ?_
  refine RL.eff (Wanted.free rfl) (E.call rfl go92 rfl (grow_ok hb)) rfl ?_
  rintro _ _ ⟨a24, c24, rfl, rfl⟩
  refine RL.val (Wanted.free rfl) (V.assign rfl rfl) rfl ?_
  refine RL.nil ?_
  refine SG.seq ?_
  refine SG.seq ?_
  refine SG.region ?_
  refine RL.val (Wanted.free rfl) (V.move rfl rfl) rfl ?_
  refine RL.val (Wanted.free rfl) (V.len rfl rfl el36.under rfl) rfl ?_
  refine RL.val (Wanted.free rfl) (V.move rfl rfl) rfl ?_
  refine RL.nil ?_
  refine SG.block ?_
  refine SG.weaken (SG.loop2 (fun m al M => ∃ (i : Nat) (a6 : Option Addr) (c6 : Nat), i ≤ ls.length ∧ m = ls.length - i ∧ al = [(6, .slice a6 (ls.take i).flatten.length c6), (25, .slice a ls.length c), (26, vI ls.length), (27, vI i)] ∧ M = Buf R8 5 a6 (ls.take i).flatten.length c6 (ls.take i).flatten :: L) (m0 := _) ⟨0, a24, c24, by omega, rfl, rfl, rfl⟩ ?_) ?_ ?_
  rotate_left
  ·
   repeat (first | exact EnvLe.nil _ | refine EnvLe.cons rfl ?_)
  ·
   exact entX
  rintro _ _ _ ⟨i, a6, c6, hi, rfl, rfl, rfl⟩ ih1
  refine SG.seq ?_
  refine SG.region ?_
  refine RL.cmp (Wanted.free rfl) (V.bin rfl rfl rfl B.lss) rfl (fun h24 => ?_) (fun h24 => ?_)
  ·
   refine RL.nil ?_
   refine SG.seq ?_
   refine SG.cond_true rfl ?_
   refine SG.skip ?_
   refine SG.seq ?_
   refine SG.block ?_
   refine SG.seq ?_
   have hf1 := flat_step (ls := ls) (i := i) (by omega)
   have hf2 := flat_le (ls := ls) (i := i + 1)
   rw [hf1, List.length_append] at hf2
   refine SG.region ?_
   refine RL.val (Wanted.free rfl) (V.indexSl (j := i) rfl el36.slice rfl rfl memX (by first | rfl | omega) (by omega)) rfl ?_
   refine RL.eff (Wanted.free rfl) (E.loadSlSl rfl on62 rfl memX (List.getElem?_eq_getElem (by omega))) rfl ?_
   rintro _ _ ⟨a30, m30, c30, rfl, rfl⟩
   refine RL.sl (T := R8) (a := a30) (List.mem_cons_self ..) fun hl30 _ _ => ?_
   subst hl30
   refine RL.val (Wanted.free rfl) (V.assign rfl rfl) rfl ?_
   refine RL.nil ?_
   refine SG.region ?_
   refine RL.val (Wanted.free rfl) (V.move rfl rfl) rfl ?_
   refine RL.val (Wanted.free rfl) (V.move rfl rfl) rfl ?_
   refine RL.eff (Wanted.free rfl) (E.append (T := R8) rfl rfl rfl el62 el62.noInt rfl rfl pickX (Src.sl (by decide) memX) (by first | omega | (simp; omega)) (by first | omega | (simp; omega))) rfl ?_
   intro _ _ hK30
   try rw [List.nil_append] at hK30
   try rw [Nat.zero_add] at hK30
   obtain ⟨a33, c33, rfl, rfl⟩ := hK30
   rw [← List.length_append, ← hf1]
   refine RL.val (Wanted.free rfl) (V.assign rfl rfl) rfl ?_
   refine RL.nil ?_
   refine SG.inBlock ?_
   refine SG.region ?_
   refine RL.val (Wanted.free rfl) (V.bin rfl rfl rfl (B.addI (by omega) (by omega))) rfl ?_
   refine RL.val (Wanted.free rfl) (V.move rfl rfl) rfl ?_
   refine RL.nil ?_
   refine SG.weaken (ih1 _ _ _ ?_ ⟨i + 1, a33, c33, by omega, rfl, rfl, rfl⟩) ?_ ?_
   ·
    omega
   ·
    repeat (first | exact EnvLe.nil _ | refine EnvLe.cons rfl ?_)
   ·
    exact entX
  ·
   refine RL.nil ?_
   refine SG.seq ?_
   refine SG.cond_false rfl ?_
   refine SG.exit rfl ?_
   refine SG.seq ?_
   obtain rfl : i = ls.length := by omega
   rw [List.take_length]
   refine SG.region ?_
   refine RL.val (Wanted.free rfl) (V.move rfl rfl) rfl ?_
   refine RL.val (Wanted.free rfl) (V.assign rfl rfl) rfl ?_
   refine RL.nil ?_
   refine SG.retE (Ret.r1 Tryd.func79 rfl (.tmp rfl)) ?_ ⟨_, _, rfl, rfl⟩
   exact entX

end Go.Proofs.YtcbloadpffjkiaaDoor
