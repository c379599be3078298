/- Parts. -/
import Derived.Test.YtbljfilkdhgcnaaDoorConcat
namespace Go.Proofs.YtbljfilkdhgcnaaDoor
open Go.Wk Go.Sha

set_option maxRecDepth 100000 in
theorem all_ok {κ : World} {L : List Assn} {a : Option Addr} {n c : Nat} {ls : List (List UInt8)} (hm : Sl (Rep.slice R8) a n c ls ∈ L) (hb : ls.flatten.length ≤ 100000000) :
    Ctr Tryd.prog 21 #[.slice a n c] κ L (fun v M => ∃ a' c', v = .slice a' ls.flatten.length c' ∧ M = Buf R8 5 a' ls.flatten.length c' ls.flatten :: L) := by
  refine Ctr.enter (vs := [.slice a n c]) (m := 18) Tryd.func21 rfl rfl rfl ?_
  refine SG.sl hm fun hn hc hc63 => ?_
  subst hn
  refine SG.ent (Buf.nil (T := R8) (e := 5)) ?_
  refine SG.seq ?_
  refine SG.region ?_
  refine RL.val (Wanted.free rfl) (V.assign rfl rfl) rfl ?_
  refine RL.nil ?_
  refine SG.seq ?_
  refine SG.region ?_
  refine RL.val (Wanted.free rfl) (V.assign rfl rfl) rfl ?_
  refine RL.nil ?_
  refine SG.seq ?_
  refine SG.seq ?_
  refine SG.region ?_
  refine RL.val (Wanted.free rfl) (V.assign rfl rfl) rfl ?_
  refine RL.nil ?_
  refine SG.block ?_
  refine SG.weaken (SG.loop2 (fun m al M => ∃ (i : Nat) (a3 : Option Addr) (c3 : Nat), i ≤ ls.length ∧ m = ls.length - i ∧ al = [(0, .slice a ls.length c), (3, .slice a3 (ls.take i).flatten.length c3), (4, vI i)] ∧ M = Buf R8 5 a3 (ls.take i).flatten.length c3 (ls.take i).flatten :: L) (m0 := _) ⟨0, none, 0, by omega, rfl, rfl, rfl⟩ ?_) ?_ ?_
  rotate_left
  · repeat (first | exact EnvLe.nil _ | refine EnvLe.cons rfl ?_)
  · repeat (first | exact Ent.refl _ | (apply Ent.cons; (· repeat (first | exact Pick.here | (refine Pick.sl ?_; (· repeat (first | exact List.Mem.head _ | assumption | apply List.Mem.tail))) | apply Pick.there))) | (refine Ent.trans (Ent.drop _ _) ?_))
  rintro _ _ _ ⟨i, a3, c3, hi, rfl, rfl, rfl⟩ ih0
  refine SG.seq ?_
  refine SG.seq ?_
  refine SG.region ?_
  refine RL.val (Wanted.free rfl) (V.move rfl rfl) rfl ?_
  refine RL.val (Wanted.free rfl) (V.move rfl rfl) rfl ?_
  refine RL.val (Wanted.free rfl) (V.len rfl rfl el39.under rfl) rfl ?_
  refine RL.cmp (Wanted.free rfl) (V.bin rfl rfl rfl B.lss) rfl (fun h7 => ?_) (fun h7 => ?_)
  · skip
    refine RL.nil ?_
    refine SG.cond_true rfl ?_
    refine SG.skip ?_
    refine SG.seq ?_
    refine SG.block ?_
    have hf1 := flat_step (ls := ls) (i := i) (by omega)
    have hf2 := flat_le (ls := ls) (i := i + 1)
    rw [hf1, List.length_append] at hf2
    refine SG.region ?_
    refine RL.val (Wanted.free rfl) (V.move rfl rfl) rfl ?_
    refine RL.val (Wanted.free rfl) (V.move rfl rfl) rfl ?_
    refine RL.val (Wanted.free rfl) (V.move rfl rfl) rfl ?_
    refine RL.val (Wanted.free rfl) (V.indexSl (j := i) rfl el39.slice rfl rfl (by repeat (first | exact List.Mem.head _ | assumption | apply List.Mem.tail)) (by first | rfl | omega) (by omega)) rfl ?_
    refine RL.eff (Wanted.free rfl) (E.loadSlSl rfl on22 rfl (by repeat (first | exact List.Mem.head _ | assumption | apply List.Mem.tail)) (List.getElem?_eq_getElem (by omega))) rfl ?_
    rintro _ _ ⟨a15, m15, c15, rfl, rfl⟩
    refine RL.sl (T := R8) (a := a15) (List.mem_cons_self ..) fun hl15 _ _ => ?_
    subst hl15
    refine RL.eff (Wanted.free rfl) (E.append (T := R8) rfl rfl rfl el22 el22.noInt rfl rfl (by repeat (first | exact Pick.here | assumption | apply Pick.there)) (Src.sl (by decide) (by repeat (first | exact List.Mem.head _ | assumption | apply List.Mem.tail))) (by first | omega | (simp; omega)) (by first | omega | (simp; omega))) rfl ?_
    intro _ _ hK13
    try rw [List.nil_append] at hK13
    try rw [Nat.zero_add] at hK13
    obtain ⟨a16, c16, rfl, rfl⟩ := hK13
    rw [← List.length_append, ← hf1]
    refine RL.val (Wanted.free rfl) (V.assign rfl rfl) rfl ?_
    refine RL.nil ?_
    refine SG.inBlock ?_
    refine SG.region ?_
    refine RL.val (Wanted.free rfl) (V.move rfl rfl) rfl ?_
    refine RL.val (Wanted.free rfl) (V.bin rfl rfl rfl (B.addI (by omega) (by omega))) rfl ?_
    refine RL.val (Wanted.free rfl) (V.assign rfl rfl) rfl ?_
    refine RL.nil ?_
    refine SG.weaken (ih0 _ _ _ ?_ ⟨i + 1, a16, c16, by omega, rfl, rfl, rfl⟩) ?_ ?_
    · omega
    · repeat (first | exact EnvLe.nil _ | refine EnvLe.cons rfl ?_)
    · repeat (first | exact Ent.refl _ | (apply Ent.cons; (· repeat (first | exact Pick.here | (refine Pick.sl ?_; (· repeat (first | exact List.Mem.head _ | assumption | apply List.Mem.tail))) | apply Pick.there))) | (refine Ent.trans (Ent.drop _ _) ?_))
  · skip
    refine RL.nil ?_
    refine SG.cond_false rfl ?_
    refine SG.exit rfl ?_
    refine SG.seq ?_
    obtain rfl : i = ls.length := by omega
    rw [List.take_length]
    refine SG.region ?_
    refine RL.val (Wanted.free rfl) (V.move rfl rfl) rfl ?_
    refine RL.val (Wanted.free rfl) (V.assign rfl rfl) rfl ?_
    refine RL.nil ?_
    refine SG.retE (Ret.r1 Tryd.func21 rfl (.tmp rfl)) ?_ ⟨_, _, rfl, rfl⟩
    repeat (first | exact Ent.refl _ | (apply Ent.cons; (· repeat (first | exact Pick.here | (refine Pick.sl ?_; (· repeat (first | exact List.Mem.head _ | assumption | apply List.Mem.tail))) | apply Pick.there))) | (refine Ent.trans (Ent.drop _ _) ?_))

end Go.Proofs.YtbljfilkdhgcnaaDoor
