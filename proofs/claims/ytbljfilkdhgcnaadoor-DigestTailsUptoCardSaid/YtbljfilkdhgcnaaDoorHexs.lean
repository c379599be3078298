/- Digits. -/
import Derived.Test.YtbljfilkdhgcnaaDoorFacts
import Derived.Test.YtbljfilkdhgcnaaDoorHex
namespace Go.Proofs.YtbljfilkdhgcnaaDoor
open Go.Wk Go.Sha

set_option maxRecDepth 100000 in
theorem hex_ok {κ : World} {L : List Assn} {l : List UInt8} (hl : l.length = 32) :
    Ctr Tryd.prog 29 #[.agg (l.map v8).toArray] κ L (fun v M => v = vS (hex l) ∧ M = L) := by
  refine Ctr.enter (vs := [.agg (l.map v8).toArray]) (m := 23) Tryd.func29 rfl rfl rfl ?_
  refine SG.seq ?_
  refine SG.region ?_
  refine RL.eff (Wanted.free rfl) (E.box _ rfl rfl rfl) rfl ?_
  rintro _ _ ⟨b1, rfl, rfl⟩
  refine RL.val (Wanted.free rfl) (V.assign rfl rfl) rfl ?_
  refine RL.nil ?_
  refine SG.seq ?_
  refine SG.region ?_
  refine RL.eff (Wanted.free rfl) (E.make0 (T := R8) (m := 64) (z0 := .int .u8 0) (x0 := 0) rfl el22 ze5 rfl rfl rfl (by decide) (by decide) (fun _ => ⟨rfl, trivial⟩)) rfl ?_
  rintro _ _ ⟨b6, rfl, rfl⟩
  refine RL.val (Wanted.free rfl) (V.assign rfl rfl) rfl ?_
  refine RL.nil ?_
  refine SG.seq ?_
  refine SG.seq ?_
  refine SG.region ?_
  refine RL.val (Wanted.free rfl) (V.loadAgg (us := l.map v8) rfl ag24 rfl (by repeat (first | exact Pick.here | assumption | apply Pick.there)) (take8 hl) (by rw [List.length_map]; exact hl)) rfl ?_
  refine RL.val (Wanted.free rfl) (V.move rfl rfl) rfl ?_
  refine RL.nil ?_
  refine SG.block ?_
  refine SG.weaken (SG.loop2 (fun m al M => ∃ (i : Nat) (a3 : Option Addr) (c3 : Nat), i ≤ 32 ∧ m = 32 - i ∧ al = [(1, ptr b1 0), (3, .slice a3 (2 * i) c3), (7, .agg (l.map v8).toArray), (8, vI i)] ∧ M = Buf R8 5 a3 (2 * i) c3 (hex (l.take i)) :: Blk b1 24 (l.map v8) :: L) (m0 := _) ⟨0, some ⟨b6, 0, none⟩, 64, by omega, rfl, rfl, rfl⟩ ?_) ?_ ?_
  rotate_left
  · repeat (first | exact EnvLe.nil _ | refine EnvLe.cons rfl ?_)
  · repeat (first | exact Ent.refl _ | (apply Ent.cons; (· repeat (first | exact Pick.here | (refine Pick.sl ?_; (· repeat (first | exact List.Mem.head _ | assumption | apply List.Mem.tail))) | apply Pick.there))) | (refine Ent.trans (Ent.drop _ _) ?_))
  rintro _ _ _ ⟨i, a3, c3, hi, rfl, rfl, rfl⟩ ih0
  refine SG.seq ?_
  refine SG.region ?_
  refine RL.cmp (Wanted.free rfl) (V.bin rfl rfl rfl B.lss) rfl (fun h7 => ?_) (fun h7 => ?_)
  · skip
    refine RL.nil ?_
    refine SG.seq ?_
    refine SG.cond_true rfl ?_
    refine SG.skip ?_
    refine SG.seq ?_
    refine SG.block ?_
    refine SG.seq ?_
    refine SG.region ?_
    refine RL.val (Wanted.free rfl) (V.indexV8 (j := i) rfl ar24 on5 hl rfl rfl (by first | rfl | omega) (List.getElem?_eq_getElem (by omega))) rfl ?_
    refine RL.val (Wanted.free rfl) (V.assign rfl rfl) rfl ?_
    refine RL.nil ?_
    refine SG.drawN 10 10 (L) wide rfl rfl (by repeat (first | exact Ent.refl _ | (apply Ent.cons; (· repeat (first | exact Pick.here | (refine Pick.sl ?_; (· repeat (first | exact List.Mem.head _ | assumption | apply List.Mem.tail))) | apply Pick.there))) | (refine Ent.trans (Ent.drop _ _) ?_))) ?_
    refine RH.val 0 rfl (by kernel_rfl) (by kernel_rfl) (by kernel_rfl) (by kernel_rfl) (Wanted.free rfl) (V.move rfl rfl) rfl ?_
    refine RH.val 1 rfl (by kernel_rfl) (by kernel_rfl) (by kernel_rfl) (by kernel_rfl) (Wanted.free rfl) (V.move rfl rfl) rfl ?_
    refine RH.val 2 rfl (by kernel_rfl) (by kernel_rfl) (by kernel_rfl) (by kernel_rfl) (Wanted.free rfl) (V.bin rfl rfl rfl (B.quo8 (y := 16) (by decide))) rfl ?_
    refine RH.val 3 rfl (by kernel_rfl) (by kernel_rfl) (by kernel_rfl) (by kernel_rfl) (Wanted.free rfl) (V.indexS (j := (l[i] / 16).toNat) (s := digs) rfl us9 rfl rfl rfl (dig_get _ (by rw [UInt8.toNat_div]; have := (l[i]).toNat_lt; show _ / 16 < 16; omega))) rfl ?_
    refine RH.val 4 rfl (by kernel_rfl) (by kernel_rfl) (by kernel_rfl) (by kernel_rfl) (Wanted.free rfl) (V.move rfl rfl) rfl ?_
    refine RH.val 5 rfl (by kernel_rfl) (by kernel_rfl) (by kernel_rfl) (by kernel_rfl) (Wanted.free rfl) (V.bin rfl rfl rfl (B.rem8 (y := 16) (by decide))) rfl ?_
    refine RH.val 6 rfl (by kernel_rfl) (by kernel_rfl) (by kernel_rfl) (by kernel_rfl) (Wanted.free rfl) (V.indexS (j := (l[i] % 16).toNat) (s := digs) rfl us9 rfl rfl rfl (dig_get _ (by rw [UInt8.toNat_mod]; exact Nat.mod_lt _ (by decide)))) rfl ?_
    refine RH.one (i := 7) (by kernel_rfl) ?_
    refine RHone.eff rfl (Wanted.free rfl) (E.litN (xs := [.tmp 14, .tmp 17]) rfl rfl rfl el22.slice ze5 rfl (by decide) (by decide) rfl (by simp [Value.cells])) rfl ?_
    rintro _ _ ⟨b18, rfl, rfl⟩
    refine ⟨.inr (by repeat (first | exact Ent.refl _ | (apply Ent.cons; (· repeat (first | exact Pick.here | (refine Pick.sl ?_; (· repeat (first | exact List.Mem.head _ | assumption | apply List.Mem.tail))) | apply Pick.there))) | (refine Ent.trans (Ent.drop _ _) ?_))), ?_⟩
    refine RH.one (i := 8) (by kernel_rfl) ?_
    refine RHone.eff rfl (Wanted.free rfl) (E.append (T := R8) rfl rfl rfl el22 el22.noInt rfl rfl (by repeat (first | exact Pick.here | assumption | apply Pick.there)) (Src.blk8 (b := b18) (s := [hexd (l[i] / 16), hexd (l[i] % 16)]) rfl (by repeat (first | exact Pick.here | assumption | apply Pick.there))) (by first | omega | (simp; omega)) (by first | omega | (simp; omega))) rfl ?_
    intro _ _ hK18
    try rw [List.nil_append] at hK18
    try rw [Nat.zero_add] at hK18
    rw [← hex_step (by omega)] at hK18
    obtain ⟨a19, c19, rfl, rfl⟩ := hK18
    refine ⟨.inr (by repeat (first | exact Ent.refl _ | (apply Ent.cons; (· repeat (first | exact Pick.here | (refine Pick.sl ?_; (· repeat (first | exact List.Mem.head _ | assumption | apply List.Mem.tail))) | apply Pick.there))) | (refine Ent.trans (Ent.drop _ _) ?_))), ?_⟩
    refine RH.val 9 rfl (by kernel_rfl) (by kernel_rfl) (by kernel_rfl) (by kernel_rfl) (Wanted.free rfl) (V.assign rfl rfl) rfl ?_
    refine RH.done (by kernel_rfl) ?_
    refine SG.inBlock ?_
    refine SG.region ?_
    refine RL.val (Wanted.free rfl) (V.bin rfl rfl rfl (B.addI (by omega) (by omega))) rfl ?_
    refine RL.val (Wanted.free rfl) (V.move rfl rfl) rfl ?_
    refine RL.nil ?_
    refine SG.weaken (ih0 _ _ _ ?_ ⟨i + 1, a19, c19, by omega, rfl, rfl, rfl⟩) ?_ ?_
    · omega
    · repeat (first | exact EnvLe.nil _ | refine EnvLe.cons rfl ?_)
    · repeat (first | exact Ent.refl _ | (apply Ent.cons; (· repeat (first | exact Pick.here | (refine Pick.sl ?_; (· repeat (first | exact List.Mem.head _ | assumption | apply List.Mem.tail))) | apply Pick.there))) | (refine Ent.trans (Ent.drop _ _) ?_))
  · skip
    refine RL.nil ?_
    refine SG.seq ?_
    refine SG.cond_false rfl ?_
    refine SG.exit rfl ?_
    refine SG.seq ?_
    obtain rfl : i = 32 := by omega
    rw [List.take_of_length_le (by omega)]
    refine SG.publish (T := R8) (a := a3) Pick.here ?_
    refine SG.region ?_
    refine RL.val (Wanted.free rfl) (V.move rfl rfl) rfl ?_
    refine RL.val (Wanted.free rfl) (V.bytesToS rfl el22.under ui5 us9 rfl (by repeat (first | exact List.Mem.head _ | assumption | apply List.Mem.tail))) rfl ?_
    refine RL.val (Wanted.free rfl) (V.assign rfl rfl) rfl ?_
    refine RL.nil ?_
    refine SG.retE (Ret.r1 Tryd.func29 rfl (.tmp rfl)) ?_ ⟨rfl, rfl⟩
    repeat (first | exact Ent.refl _ | (apply Ent.cons; (· repeat (first | exact Pick.here | (refine Pick.sl ?_; (· repeat (first | exact List.Mem.head _ | assumption | apply List.Mem.tail))) | apply Pick.there))) | (refine Ent.trans (Ent.drop _ _) ?_))

set_option maxRecDepth 100000 in
theorem digit_ok {κ : World} {L : List Assn} {c : UInt8} :
    Ctr Tryd.prog 37 #[v8 c] κ L (fun v M => v = v8 (digitV c) ∧ M = L) := by
  refine Ctr.enter (vs := [v8 c]) (m := 13) Tryd.func37 rfl rfl rfl ?_
  refine SG.seq ?_
  refine SG.region ?_
  refine RL.val (Wanted.free rfl) (V.assign rfl rfl) rfl ?_
  refine RL.nil ?_
  refine SG.seq ?_
  refine SG.seq ?_
  refine SG.region ?_
  refine RL.val (Wanted.free rfl) (V.move rfl rfl) rfl ?_
  refine RL.nil ?_
  refine SG.block ?_
  refine SG.weaken (SG.loop2 (fun m al M => ∃ i : Nat, i ≤ 16 ∧ (∀ j, j < i → digs[j]? ≠ some c) ∧ m = 16 - i ∧ al = [(0, v8 c), (4, .int .u8 (i : Int))] ∧ M = L) (m0 := _) ⟨0, by omega, fun j h => by omega, rfl, rfl, rfl⟩ ?_) ?_ ?_
  rotate_left
  · repeat (first | exact EnvLe.nil _ | refine EnvLe.cons rfl ?_)
  · repeat (first | exact Ent.refl _ | (apply Ent.cons; (· repeat (first | exact Pick.here | (refine Pick.sl ?_; (· repeat (first | exact List.Mem.head _ | assumption | apply List.Mem.tail))) | apply Pick.there))) | (refine Ent.trans (Ent.drop _ _) ?_))
  rintro _ _ _ ⟨i, hi, hno, rfl, rfl, rfl⟩ ih0
  refine SG.seq ?_
  refine SG.region ?_
  refine RL.cmp (Wanted.free rfl) (V.bin rfl rfl rfl B.lss) rfl (fun h3 => ?_) (fun h3 => ?_)
  · skip
    refine RL.nil ?_
    refine SG.seq ?_
    refine SG.cond_true rfl ?_
    refine SG.skip ?_
    refine SG.seq ?_
    refine SG.block ?_
    refine SG.seq ?_
    refine SG.region ?_
    refine RL.val (Wanted.free rfl) (V.move rfl rfl) rfl ?_
    refine RL.val (Wanted.free rfl) (V.assign rfl rfl) rfl ?_
    refine RL.nil ?_
    refine SG.seq ?_
    refine SG.region ?_
    refine RL.val (Wanted.free rfl) (V.move rfl rfl) rfl ?_
    refine RL.val (Wanted.free rfl) (V.indexS (j := i) (s := digs) rfl us9 rfl rfl rfl (List.getElem?_eq_getElem (show i < 16 by omega))) rfl ?_
    refine RL.val (Wanted.free rfl) (V.move rfl rfl) rfl ?_
    refine RL.cmp (Wanted.free rfl) (V.bin rfl rfl rfl B.eql) rfl (fun h9 => ?_) (fun h9 => ?_)
    · skip
      have hc : digs[i]'(show i < 16 by omega) = c := UInt8.toNat_inj.1 (by omega)
      refine RL.nil ?_
      refine SG.cond_true rfl ?_
      refine SG.seq ?_
      refine SG.region ?_
      refine RL.val (Wanted.free rfl) (V.move rfl rfl) rfl ?_
      refine RL.val (Wanted.free rfl) (V.assign rfl rfl) rfl ?_
      refine RL.nil ?_
      refine SG.retE (Ret.r1 Tryd.func37 rfl (.tmp rfl)) ?_ ⟨by rw [show ((i : Nat) : Int) = ((digitV c).toNat : Int) from (dig_hit (by omega) (by rw [← hc]; exact List.getElem?_eq_getElem _)).symm], rfl⟩
      repeat (first | exact Ent.refl _ | (apply Ent.cons; (· repeat (first | exact Pick.here | (refine Pick.sl ?_; (· repeat (first | exact List.Mem.head _ | assumption | apply List.Mem.tail))) | apply Pick.there))) | (refine Ent.trans (Ent.drop _ _) ?_))
    · skip
      have hc : ¬ digs[i]'(show i < 16 by omega) = c := fun e => h9 (by rw [e])
      refine RL.nil ?_
      refine SG.cond_false rfl ?_
      refine SG.skip ?_
      refine SG.inBlock ?_
      refine SG.region ?_
      refine RL.val (Wanted.free rfl) (V.bin rfl rfl rfl (B.incU8 (by omega))) rfl ?_
      refine RL.val (Wanted.free rfl) (V.move rfl rfl) rfl ?_
      refine RL.nil ?_
      refine SG.weaken (ih0 _ _ _ ?_ ⟨i + 1, by omega, ?_, rfl, rfl, rfl⟩) ?_ ?_
      · omega
      · intro j hj
        by_cases e : j = i
        · subst e; rw [List.getElem?_eq_getElem (show j < 16 by omega)]; intro e2; exact hc (Option.some.inj e2)
        · exact hno j (by omega)
      · repeat (first | exact EnvLe.nil _ | refine EnvLe.cons rfl ?_)
      · repeat (first | exact Ent.refl _ | (apply Ent.cons; (· repeat (first | exact Pick.here | (refine Pick.sl ?_; (· repeat (first | exact List.Mem.head _ | assumption | apply List.Mem.tail))) | apply Pick.there))) | (refine Ent.trans (Ent.drop _ _) ?_))
  · skip
    refine RL.nil ?_
    refine SG.seq ?_
    refine SG.cond_false rfl ?_
    refine SG.exit rfl ?_
    refine SG.seq ?_
    refine SG.region ?_
    refine RL.val (Wanted.free rfl) (V.assign rfl rfl) rfl ?_
    refine RL.nil ?_
    refine SG.retE (Ret.r1 Tryd.func37 rfl (.tmp rfl)) ?_ ⟨by rw [dig_miss (fun j hj => hno j (by omega))]; rfl, rfl⟩
    repeat (first | exact Ent.refl _ | (apply Ent.cons; (· repeat (first | exact Pick.here | (refine Pick.sl ?_; (· repeat (first | exact List.Mem.head _ | assumption | apply List.Mem.tail))) | apply Pick.there))) | (refine Ent.trans (Ent.drop _ _) ?_))

end Go.Proofs.YtbljfilkdhgcnaaDoor
