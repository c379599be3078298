/- The closures of taker. -/
import Derived.Test.YtcbloadpffjkiaaDoorZMlives
namespace Go.Proofs.YtcbloadpffjkiaaDoor
open Go.Wk Go.Mk Go.Sha

theorem on82 : One Tryd.prog 82 := one_of krX
theorem sz82 : ∃ ti, Tryd.prog.info? 82 = some ti ∧ ti.size = 1 := size_of krX
theorem ze82 : Zero Tryd.prog 82 [.nilFunc] := zero_of krX
theorem on27 : One Tryd.prog 27 := one_of krX
theorem sz27 : ∃ ti, Tryd.prog.info? 27 = some ti ∧ ti.size = 1 := size_of krX
theorem ze27 : Zero Tryd.prog 27 [.nilFunc] := zero_of krX
theorem on85 : One Tryd.prog 85 := one_of krX
theorem sz85 : ∃ ti, Tryd.prog.info? 85 = some ti ∧ ti.size = 1 := size_of krX
theorem ze85 : Zero Tryd.prog 85 [.nilFunc] := zero_of krX
theorem on88 : One Tryd.prog 88 := one_of krX
theorem sz88 : ∃ ti, Tryd.prog.info? 88 = some ti ∧ ti.size = 1 := size_of krX
theorem ze88 : Zero Tryd.prog 88 [.nilFunc] := zero_of krX
/-- What the two closures of taker share. -/
def Tka (bl bm bp : Nat) (a : Option Addr) (m c : Nat) (t : Tk) : Assn := Ex fun (_ : Unit) => [Blk bl 3 [vI (t.left : Int)], Blk bm 4 [vB t.miss], Blk bp 22 [.slice a m c]]
section
variable {P : Program} {f : FuncId} {n : Nat} {κ : World} {K : Post} {k : List Item} {al : List (Nat × Value)} {L L1 : List Assn} {bl bm bp : Nat} {a : Option Addr} {m c : Nat} {t : Tk}
theorem SG.openTk (hp : Pick (Tka bl bm bp a m c t) L L1) (h : SG P f n κ K k al (Blk bl 3 [vI ((t).left : Int)] :: Blk bm 4 [vB (t).miss] :: Blk bp 22 [.slice a m c] :: L1)) : SG P f n κ K k al L := SG.openEx hp fun _ => h
theorem Ent.closeTk (h : Ent L (Blk bl 3 [vI ((t).left : Int)] :: Blk bm 4 [vB (t).miss] :: Blk bp 22 [.slice a m c] :: L1)) : Ent L (Tka bl bm bp a m c t :: L1) :=
  h.trans (Ex.close (A := fun (_ : Unit) => [Blk bl 3 [vI (t.left : Int)], Blk bm 4 [vB t.miss], Blk bp 22 [.slice a m c]]) ())
end
set_option maxRecDepth 100000 in
set_option maxHeartbeats 1000000 in
theorem taker_ok {κ : World} {L : List Assn} {a : Option Addr} {m c : Nat} :
    Ctr Tryd.prog 58 #[.slice a m c] κ L (fun v M => ∃ bl bm bp, v = .tuple #[.func (.func 83) #[] [ptr bl 0, ptr bm 0, ptr bp 0].toArray, .func (.func 84) #[] [ptr bl 0, ptr bm 0].toArray] ∧ M = Tka bl bm bp a m c ⟨m, false⟩ :: L) := by
 refine Ctr.enter (vs := [.slice a m c]) (m := 12) Tryd.func58 rfl rfl rfl ?_
 refine SG.seq ?_
 refine SG.region ?_
 refine RL.eff (Wanted.free rfl) (E.box [.slice a m c] rfl rfl rfl) rfl ?_
 rintro _ _ ⟨b1, rfl, rfl⟩
 refine RL.val (Wanted.free rfl) (V.assign rfl rfl) rfl ?_
 refine RL.val (Wanted.free rfl) (V.assign rfl rfl) rfl ?_
 refine RL.nil ?_
 refine SG.seq ?_
 refine SG.region ?_
 refine RL.val (Wanted.free rfl) (V.load rfl on22 rfl pickX rfl) rfl ?_
 refine RL.val (Wanted.free rfl) (V.len rfl rfl el22.under rfl) rfl ?_
 refine RL.eff (Wanted.free rfl) (E.alloc rfl ze3) rfl ?_
 rintro _ _ ⟨b4, rfl, rfl⟩
 refine RL.eff (Wanted.free rfl) (E.alloc rfl ze4) rfl ?_
 rintro _ _ ⟨b5, rfl, rfl⟩
 refine RL.eff (Wanted.free rfl) (E.store1 rfl rfl rfl rfl rfl sz3 pickX rfl) rfl ?_
 rintro _ _ rfl
 refine RL.eff (Wanted.free rfl) (E.store1 rfl rfl rfl rfl rfl sz4 pickX rfl) rfl ?_
 rintro _ _ rfl
 refine RL.nil ?_
 refine SG.seq ?_
 refine SG.region ?_
 refine RL.val (Wanted.free rfl) (V.makeFunc rfl rfl) rfl ?_
 refine RL.val (Wanted.free rfl) (V.assign rfl rfl) rfl ?_
 refine RL.nil ?_
 refine SG.seq ?_
 refine SG.region ?_
 refine RL.val (Wanted.free rfl) (V.move rfl rfl) rfl ?_
 refine RL.val (Wanted.free rfl) (V.makeFunc rfl rfl) rfl ?_
 refine RL.val (Wanted.free rfl) (V.assign rfl rfl) rfl ?_
 refine RL.val (Wanted.free rfl) (V.assign rfl rfl) rfl ?_
 refine RL.nil ?_
 refine SG.retE (Ret.r2 Tryd.func58 rfl (.tmp rfl) (.tmp rfl)) ?_ ⟨b4, b5, b1, rfl, rfl⟩
 refine Ent.closeTk ?_
 exact entX

set_option maxRecDepth 100000 in
set_option maxHeartbeats 1000000 in
theorem take_ok {κ : World} {L : List Assn} {L1 : List Assn} {bl bm bp : Nat} {a : Option Addr} {m c : Nat} {p : List Hs} {t : Tk} (hp : Pick (Tka bl bm bp a m c t) L L1) (hm : Sl (RArr8 32) a m c p ∈ L1) (ht : t.left ≤ m) :
    Ctr Tryd.prog 83 #[ptr bl 0, ptr bm 0, ptr bp 0] κ L (fun v M => v = .agg (((takeV p t).1).map v8).toArray ∧ M = Tka bl bm bp a m c (takeV p t).2 :: L1) := by
 refine Ctr.enter (vs := [ptr bl 0, ptr bm 0, ptr bp 0]) (m := 13) Tryd.func83 rfl rfl rfl ?_
 refine SG.openTk hp ?_
 refine SG.fact (fun w hs => Sep.slArr (a := a) (l := p) hs memX) fun h32 => ?_
 refine SG.sl (T := RArr8 32) (a := a) (l := p) memX fun hn hc hc63 => ?_
 subst hn
 refine SG.seq ?_
 refine SG.region ?_
 refine RL.eff (Wanted.free rfl) (E.alloc rfl ze25) rfl ?_
 rintro _ _ ⟨b3, rfl, rfl⟩
 refine RL.nil ?_
 refine SG.seq ?_
 refine SG.seq ?_
 refine SG.region ?_
 refine RL.val (Wanted.free rfl) (V.load rfl on3 rfl pickX rfl) rfl ?_
 refine RL.cmp (Wanted.free rfl) (V.bin rfl rfl rfl B.eql) rfl (fun h3 => ?_) (fun h3 => ?_)
 ·
  have h0 : t.left = 0 := by omega
  refine RL.nil ?_
  refine SG.cond_true rfl ?_
  refine SG.seq ?_
  refine SG.region ?_
  refine RL.eff (Wanted.free rfl) (E.store1 rfl rfl rfl rfl rfl sz4 pickX rfl) rfl ?_
  rintro _ _ rfl
  refine RL.nil ?_
  refine SG.seq ?_
  refine SG.region ?_
  refine RL.val (Wanted.free rfl) (V.buildA [] rfl ba25 (by exact trivial) rfl) rfl ?_
  rw [show (List.replicate 32 (Value.int IntKind.u8 0)) = zero32.map v8 from rfl]
  refine RL.eff (Wanted.free rfl) (E.storeWhole rfl rfl rfl (by rw [List.length_map]; exact zero32_len) sz25 pickX (one8 _) (by first | rfl | (rw [List.length_replicate]))) rfl ?_
  rintro _ _ rfl
  refine RL.nil ?_
  refine SG.retE (Ret.r1 Tryd.func83 rfl (.agg rfl ag25 pickX (take8 zero32_len) (by rw [List.length_map]; exact zero32_len))) ?_ ⟨by rw [take_zero h0], rfl⟩
  rw [take_zero h0, show (t.left : Int) = ((0 : Nat) : Int) from by omega]
  refine Ent.closeTk ?_
  dsimp only
  exact entX
 ·
  have h0 : t.left ≠ 0 := by omega
  refine RL.nil ?_
  refine SG.cond_false rfl ?_
  refine SG.skip ?_
  refine SG.seq ?_
  refine SG.region ?_
  refine RL.val (Wanted.free rfl) (V.load rfl on3 rfl pickX rfl) rfl ?_
  refine RL.val (Wanted.free rfl) (V.bin rfl rfl rfl (B.subI (by omega) (by omega))) rfl ?_
  refine RL.eff (Wanted.free rfl) (E.store1 rfl rfl rfl rfl rfl sz3 pickX rfl) rfl ?_
  rintro _ _ rfl
  refine RL.nil ?_
  refine SG.seq ?_
  obtain ⟨x, hx⟩ : ∃ x, p[t.left - 1]? = some x := ⟨_, List.getElem?_eq_getElem (by omega)⟩
  have hxl := h32 x (List.mem_of_getElem? hx)
  have hgx : p.getD (t.left - 1) [] = x := by rw [List.getD_eq_getElem?_getD, hx]; rfl
  refine SG.region ?_
  refine RL.val (Wanted.free rfl) (V.load rfl on22 rfl pickX rfl) rfl ?_
  refine RL.val (Wanted.free rfl) (V.load rfl on3 rfl pickX rfl) rfl ?_
  refine RL.val (Wanted.free rfl) (V.indexSl (j := (t.left - 1)) rfl el22.slice rfl rfl memX (by first | rfl | omega) (by omega)) rfl ?_
  refine RL.val (Wanted.free rfl) (V.loadSlDt rfl ag25 rfl memX hx) rfl ?_
  refine RL.eff (Wanted.free rfl) (E.storeWhole rfl rfl rfl (by rw [List.length_map]; exact hxl) sz25 pickX (one8 _) (by first | rfl | (rw [List.length_replicate]))) rfl ?_
  rintro _ _ rfl
  refine RL.nil ?_
  refine SG.retE (Ret.r1 Tryd.func83 rfl (.agg rfl ag25 pickX (take8 hxl) (by rw [List.length_map]; exact hxl))) ?_ ⟨by rw [take_pos h0, hgx], rfl⟩
  rw [take_pos h0]
  rw [show (t.left : Int) - 1 = ((t.left - 1 : Nat) : Int) from by omega]
  refine Ent.closeTk ?_
  dsimp only
  exact entX

set_option maxRecDepth 100000 in
set_option maxHeartbeats 1000000 in
theorem done_ok {κ : World} {L : List Assn} {L1 : List Assn} {bl bm bp : Nat} {a : Option Addr} {m c : Nat} {t : Tk} (hp : Pick (Tka bl bm bp a m c t) L L1) :
    Ctr Tryd.prog 84 #[ptr bl 0, ptr bm 0] κ L (fun v M => v = vB (doneV t) ∧ M = Tka bl bm bp a m c t :: L1) := by
 refine Ctr.enter (vs := [ptr bl 0, ptr bm 0]) (m := 9) Tryd.func84 rfl rfl rfl ?_
 refine SG.openTk hp ?_
 refine SG.seq ?_
 refine SG.region ?_
 refine RL.val (Wanted.free rfl) (V.assign rfl rfl) rfl ?_
 refine RL.nil ?_
 refine SG.seq ?_
 refine SG.region ?_
 refine RL.val (Wanted.free rfl) (V.load rfl on3 rfl pickX rfl) rfl ?_
 refine RL.cmp (Wanted.free rfl) (V.bin rfl rfl rfl B.eql) rfl (fun h3 => ?_) (fun h3 => ?_)
 ·
  have h0 : t.left = 0 := by omega
  refine RL.val (Wanted.free rfl) (V.move rfl rfl) rfl ?_
  refine RL.val (Wanted.yes rfl rfl rfl rfl) (V.load rfl on4 rfl pickX rfl) rfl ?_
  refine RL.val (Wanted.yes rfl rfl rfl rfl) (V.not rfl rfl) rfl ?_
  refine RL.val (Wanted.free rfl) (V.pick_true rfl rfl rfl) rfl ?_
  refine RL.val (Wanted.free rfl) (V.assign rfl rfl) rfl ?_
  refine RL.nil ?_
  refine SG.retE (Ret.r1 Tryd.func84 rfl (.tmp rfl)) ?_ ⟨by unfold doneV; simp [*], rfl⟩
  refine Ent.closeTk ?_
  exact entX
 ·
  have h0 : ¬ t.left = 0 := by omega
  refine RL.val (Wanted.free rfl) (V.move rfl rfl) rfl ?_
  refine RL.skip (Wanted.no rfl rfl rfl rfl rfl) rfl ?_
  refine RL.skip (Wanted.no rfl rfl rfl rfl rfl) rfl ?_
  refine RL.val (Wanted.free rfl) (V.pick_false rfl rfl rfl) rfl ?_
  refine RL.val (Wanted.free rfl) (V.assign rfl rfl) rfl ?_
  refine RL.nil ?_
  refine SG.retE (Ret.r1 Tryd.func84 rfl (.tmp rfl)) ?_ ⟨by unfold doneV; simp [*], rfl⟩
  refine Ent.closeTk ?_
  exact entX

end Go.Proofs.YtcbloadpffjkiaaDoor
