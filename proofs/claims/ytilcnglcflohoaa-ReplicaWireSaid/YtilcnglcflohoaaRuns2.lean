/- Runs. -/
import Derived.Test.YtilcnglcflohoaaActs
namespace Go.Proofs.Ytilcnglcflohoaa
open Go.Wk Go.Rp

theorem max_one {N : Nat} (h : 1 ≤ N) : (if (1 : Int) < (N : Int) then (N : Int) else 1) = (N : Int) := by split <;> omega
theorem acts_step {N : Nat} {l : List Int} {i : Nat} (h : i < l.length) : (l.take (i + 1)).map (actOf N) = (l.take i).map (actOf N) ++ [actOf N l[i]] := by
  rw [List.take_add_one, List.getElem?_eq_getElem h, List.map_append]; rfl
theorem Sep.iok {κ w : World} {L : List Assn} {a : Option Addr} {m c : Nat} {l : List Int} (hs : Sep κ w L) (hm : Sl RI a m c l ∈ L) : ∀ x ∈ l, inInt x := by
  obtain ⟨z, _, h1, h2, h3, h4⟩ := hs.sl hm
  rcases h4 with h4 | ⟨b, o, cs, _, _, hr⟩
  · have : l = [] := List.eq_nil_of_length_eq_zero (by omega)
    rw [this]; simp
  · exact (rows_sc.1 hr).2

set_option maxRecDepth 100000 in
set_option maxHeartbeats 1000000 in
theorem acts_ok {κ : World} {L : List Assn} {a : Option Addr} {n cc N : Nat} {l : List Int} (hm : Sl RI a n cc l ∈ L) (hN : 1 ≤ N) (h5 : N ≤ 5) :
    Ctr Try.prog 55 #[.slice a n cc, vI N] κ L (fun v M => ∃ a' c', v = .slice a' (actsOf N l).length c' ∧ M = Sl RAct a' (actsOf N l).length c' (actsOf N l) :: L) := by
 refine Ctr.enter (vs := [.slice a n cc, vI N]) (m := 40) Try.func55 rfl rfl rfl ?_
 refine SG.sl hm fun hn _ _ => ?_
 refine SG.fact (fun w hs => Sep.iok hs hm) fun hall => ?_
 refine SG.ent (Buf.nil (T := RAct) (e := 90)) ?_
 refine SG.seq ?_
 refine SG.region ?_
 refine RL.val (Wanted.free rfl) (V.assign rfl rfl) rfl ?_
 refine RL.nil ?_
 refine SG.seq ?_
 refine SG.region ?_
 refine RL.val (Wanted.free rfl) (V.assign rfl rfl) rfl ?_
 refine RL.nil ?_
 refine SG.seq ?_
 refine SG.seq ?_
 refine SG.region ?_
 refine RL.val (Wanted.free rfl) (V.assign rfl rfl) rfl ?_
 refine RL.nil ?_
 refine SG.block ?_
 refine SG.weaken (SG.loop2 (fun m al M => ∃ (i : Nat) (a5 : Option Addr) (c5 : Nat), i ≤ l.length ∧ i ≤ 60 ∧ m = 60 - i ∧ al = [(0, .slice a n cc), (1, vI N), (4, .slice none 0 0), (5, .slice a5 i c5), (6, vI i)] ∧ M = Buf RAct 90 a5 i c5 ((l.take i).map (actOf N)) :: L) (m0 := _) ⟨0, none, 0, by omega, by omega, rfl, rfl, rfl⟩ ?_) ?_ ?_
 rotate_left
 ·
  repeat (first | exact EnvLe.nil _ | refine EnvLe.cons rfl ?_)
 ·
  exact entX
 rintro _ _ _ ⟨i, a5, c5, hi, hi60, rfl, rfl, rfl⟩ ih0
 refine SG.seq ?_
 refine SG.seq ?_
 refine SG.region ?_
 refine RL.val (Wanted.free rfl) (V.move rfl rfl) rfl ?_
 refine RL.val (Wanted.free rfl) (V.move rfl rfl) rfl ?_
 refine RL.val (Wanted.free rfl) (V.len rfl rfl el22.under rfl) rfl ?_
 refine RL.cmp (Wanted.free rfl) (V.bin rfl rfl rfl B.lss) rfl (fun h7 => ?_) (fun h7 => ?_)
 ·
  refine RL.val (Wanted.free rfl) (V.move rfl rfl) rfl ?_
  refine RL.val (Wanted.yes rfl rfl rfl rfl) (V.move rfl rfl) rfl ?_
  refine RL.cmp (Wanted.yes rfl rfl rfl rfl) (V.bin rfl rfl rfl B.lss) rfl (fun h10 => ?_) (fun h10 => ?_)
  ·
   refine RL.val (Wanted.free rfl) (V.pick_true rfl rfl rfl) rfl ?_
   refine RL.nil ?_
   refine SG.cond_true rfl ?_
   refine SG.skip ?_
   refine SG.seq ?_
   refine SG.block ?_
   refine SG.seq ?_
   have hil : i < l.length := by omega
   have hin := hall _ (List.getElem_mem hil)
   refine SG.region ?_
   refine RL.val (Wanted.free rfl) (V.move rfl rfl) rfl ?_
   refine RL.val (Wanted.free rfl) (V.move rfl rfl) rfl ?_
   refine RL.val (Wanted.free rfl) (V.indexSl (j := i) rfl el22.slice rfl rfl memX (by first | rfl | omega) hil) rfl ?_
   refine RL.val (Wanted.free rfl) (V.loadSc rfl on3 rfl memX (List.getElem?_eq_getElem hil)) rfl ?_
   refine RL.eff (Wanted.free rfl) (E.call rfl go29 rfl (around_ok _ _ hin.1 hin.2 (by omega))) rfl ?_
   rintro _ _ ⟨rfl, rfl⟩
   refine RL.val (Wanted.free rfl) (V.assign rfl rfl) rfl ?_
   refine RL.nil ?_
   obtain ⟨g1, g2⟩ := aroundV_bd (n := l[i]'hil) (most := 1000000) (by omega)
   obtain ⟨y, hy, hy0, hy4⟩ := kinds_get (k := (aroundV (l[i]'hil) 1000000 % 16).toNat) (by omega)
   generalize hv : aroundV (l[i]'hil) 1000000 = v at *
   refine SG.drawN 17 15 (Buf RAct 90 a5 i c5 ((l.take i).map (actOf N)) :: L) wide rfl rfl (by repeat (first | exact Ent.refl _ | (apply Ent.cons; (· repeat (first | exact Pick.here | (refine Pick.sl ?_; (· repeat (first | exact List.Mem.head _ | assumption | apply List.Mem.tail))) | apply Pick.there))) | (refine Ent.trans (Ent.drop _ _) ?_))) ?_
   refine RH.val 0 rfl krX krX krX krX (Wanted.free rfl) (V.move rfl rfl) rfl ?_
   refine RH.pure 2 rfl krX krX krX krX (Wanted.free rfl) (V.move rfl rfl) rfl ?_
   refine RH.pure 3 rfl krX krX krX krX (Wanted.free rfl) (V.bin rfl rfl rfl (B.remI (by omega) (by omega))) rfl ?_
   refine RH.pure 6 rfl krX krX krX krX (Wanted.free rfl) (V.move rfl rfl) rfl ?_
   refine RH.pure 7 rfl krX krX krX krX (Wanted.free rfl) (V.bin rfl rfl rfl (B.quoI (by omega) (by omega) (by omega))) rfl ?_
   refine RH.pure 8 rfl krX krX krX krX (Wanted.free rfl) (V.move rfl rfl) rfl ?_
   refine RH.pure 9 rfl krX krX krX krX (Wanted.free rfl) (V.max rfl rfl rfl rfl) rfl ?_
   rw [max_one hN]
   refine RH.pure 10 rfl krX krX krX krX (Wanted.free rfl) (V.bin rfl rfl rfl (B.remI (by omega) (by omega))) rfl ?_
   refine RH.pure 11 rfl krX krX krX krX (Wanted.free rfl) (V.move rfl rfl) rfl ?_
   refine RH.pure 12 rfl krX krX krX krX (Wanted.free rfl) (V.bin rfl rfl rfl (B.quoI (by omega) (by omega) (by omega))) rfl ?_
   refine RH.one (i := 1) krX ?_
   refine RHone.eff rfl (Wanted.free rfl) (E.litN (xs := [.const (.int .i64 (0)), .const (.int .i64 (1)), .const (.int .i64 (1)), .const (.int .i64 (2)), .const (.int .i64 (2)), .const (.int .i64 (4)), .const (.int .i64 (4)), .const (.int .i64 (4)), .const (.int .i64 (4)), .const (.int .i64 (4)), .const (.int .i64 (3)), .const (.int .i64 (4)), .const (.int .i64 (4)), .const (.int .i64 (4)), .const (.int .i64 (4)), .const (.int .i64 (2))]) rfl rfl rfl el22.slice ze3 rfl (by decide) (by decide) rfl (by simp [Value.cells])) rfl ?_
   rintro _ _ ⟨b24, rfl, rfl⟩
   refine ⟨.inr entX, ?_⟩
   refine RH.ent (Buf.of_els (T := RI) (b := b24) (e := 3) (m := 16) (l := kinds) Pick.here rfl rfl (by decide) (fun _ _ _ => rows_sc.2 ⟨rfl, fun w hw => (by have : ∀ w ∈ kinds, 0 ≤ w ∧ w ≤ 100 := (by decide); have := this w hw; unfold inInt; omega)⟩)) ?_
   refine RH.publish (T := RI) (a := some ⟨b24, 0, none⟩) Pick.here ?_
   refine RH.one (i := 4) krX ?_
   refine RHone.eff rfl (Wanted.free rfl) (E.val (V.indexSl (T := RI) (l := kinds) (a := some ⟨b24, 0, none⟩) (j := (v % 16).toNat) rfl el22.slice rfl rfl memX (by omega) (by show _ < 16; omega))) rfl ?_
   rintro _ _ ⟨rfl, rfl⟩
   refine ⟨.inr entX, ?_⟩
   refine RH.one (i := 5) krX ?_
   refine RHone.eff rfl (Wanted.free rfl) (E.val (V.loadSc (l := kinds) (y := y) (j := (v % 16).toNat) rfl on3 rfl memX hy)) rfl ?_
   rintro _ _ ⟨rfl, rfl⟩
   refine ⟨.inr entX, ?_⟩
   refine RH.pure 13 rfl krX krX krX krX (Wanted.free rfl) (V.buildS [(0, _), (1, _), (2, _)] rfl bs90 (by exact ⟨rfl, ⟨_, rfl, rfl⟩, ⟨rfl, ⟨_, rfl, rfl⟩, ⟨rfl, ⟨_, rfl, rfl⟩, trivial⟩⟩⟩) rfl) rfl ?_
   refine RH.one (i := 14) krX ?_
   refine RHone.eff rfl (Wanted.free rfl) (E.lit1 [vI y, vI (v / 16 % (N : Int)), vI (v / 128)] rfl el86.slice ze90 rfl (by decide) (by decide) rfl rfl rfl) rfl ?_
   rintro _ _ ⟨b37, rfl, rfl⟩
   refine ⟨.inr entX, ?_⟩
   refine RH.one (i := 15) krX ?_
   refine RHone.eff rfl (Wanted.free rfl) (E.append (T := RAct) rfl rfl rfl el86 el86.noInt rfl rfl pickX (Src.litDt (y := ⟨y, v / 16 % (N : Int), v / 128⟩) pickX rfl trivial) (by first | omega | (simp; omega)) (by first | omega | (simp; omega))) rfl ?_
   intro _ _ hK32
   try rw [List.nil_append] at hK32
   try rw [Nat.zero_add] at hK32
   obtain ⟨a38, c38, rfl, rfl⟩ := hK32
   refine ⟨.inl krX, ?_⟩
   refine RH.pure 16 rfl krX krX krX krX (Wanted.free rfl) (V.assign rfl rfl) rfl ?_
   refine RH.done krX ?_
   refine SG.inBlock ?_
   refine SG.region ?_
   refine RL.val (Wanted.free rfl) (V.move rfl rfl) rfl ?_
   refine RL.val (Wanted.free rfl) (V.bin rfl rfl rfl (B.addI (by omega) (by omega))) rfl ?_
   refine RL.val (Wanted.free rfl) (V.assign rfl rfl) rfl ?_
   refine RL.nil ?_
   have hact : actOf N (l[i]'hil) = ⟨y, v / 16 % (N : Int), v / 128⟩ := by
    unfold actOf; rw [hv, List.getD_eq_getElem?_getD, hy]; rfl
   refine SG.weaken (ih0 _ _ _ ?_ ⟨i + 1, a38, c38, by omega, by omega, rfl, rfl, rfl⟩) ?_ ?_
   ·
    omega
   ·
    repeat (first | exact EnvLe.nil _ | refine EnvLe.cons rfl ?_)
   ·
    rw [acts_step hil, hact]
    exact entX
  ·
   refine RL.val (Wanted.free rfl) (V.pick_true rfl rfl rfl) rfl ?_
   refine RL.nil ?_
   refine SG.cond_false rfl ?_
   refine SG.exit rfl ?_
   refine SG.seq ?_
   have hiL : i = (l.take 60).length := by rw [List.length_take]; omega
   have hfin : (l.take i).map (actOf N) = actsOf N l := by rw [actsOf, hiL, List.length_take]; congr 1; rw [List.take_eq_take_iff]; omega
   have hfl : i = (actsOf N l).length := by rw [actsOf, List.length_map]; exact hiL
   rw [hfin, hfl]
   refine SG.publish (T := RAct) (a := a5) pickX ?_
   refine SG.region ?_
   refine RL.val (Wanted.free rfl) (V.move rfl rfl) rfl ?_
   refine RL.val (Wanted.free rfl) (V.assign rfl rfl) rfl ?_
   refine RL.nil ?_
   refine SG.retE (Ret.r1 Try.func55 rfl (.tmp rfl)) ?_ ⟨_, _, rfl, rfl⟩
   exact entX
 ·
  refine RL.val (Wanted.free rfl) (V.move rfl rfl) rfl ?_
  refine RL.skip (Wanted.no rfl rfl rfl rfl rfl) rfl ?_
  refine RL.skip (Wanted.no rfl rfl rfl rfl rfl) rfl ?_
  refine RL.val (Wanted.free rfl) (V.pick_false rfl rfl rfl) rfl ?_
  refine RL.nil ?_
  refine SG.cond_false rfl ?_
  refine SG.exit rfl ?_
  refine SG.seq ?_
  have hiL : i = (l.take 60).length := by rw [List.length_take]; omega
  have hfin : (l.take i).map (actOf N) = actsOf N l := by rw [actsOf, hiL, List.length_take]; congr 1; rw [List.take_eq_take_iff]; omega
  have hfl : i = (actsOf N l).length := by rw [actsOf, List.length_map]; exact hiL
  rw [hfin, hfl]
  refine SG.publish (T := RAct) (a := a5) pickX ?_
  refine SG.region ?_
  refine RL.val (Wanted.free rfl) (V.move rfl rfl) rfl ?_
  refine RL.val (Wanted.free rfl) (V.assign rfl rfl) rfl ?_
  refine RL.nil ?_
  refine SG.retE (Ret.r1 Try.func55 rfl (.tmp rfl)) ?_ ⟨_, _, rfl, rfl⟩
  exact entX

end Go.Proofs.Ytilcnglcflohoaa
