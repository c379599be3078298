/- Frontiers. -/
import Derived.Test.YtcbloadpffjkiaaDoorZMgrow
namespace Go.Proofs.YtcbloadpffjkiaaDoor
open Go.Wk Go.Mk Go.Sha

theorem ones_le : ∀ (N n : Nat), n ≤ N → ones n ≤ n
  | 0, n, h => by
    have : n = 0 := by omega
    subst this; rw [ones_zero]; exact Nat.le_refl _
  | N + 1, n, h => by
    by_cases h0 : n = 0
    · subst h0; rw [ones_zero]; exact Nat.le_refl _
    · have := ones_le N (n / 2) (by omega)
      rw [ones_step]; omega
theorem blocks_le (l : List Hs) : (blocksV l).length ≤ l.length := by rw [blocks_len _ l (Nat.le_refl _)]; exact ones_le _ _ (Nat.le_refl _)
theorem set_take {h : List Hs} {y : Hs} (h2 : 2 ≤ h.length) : (h.set (h.length - 2) y).take (h.length - 1) = h.take (h.length - 2) ++ [y] := by
  apply List.ext_getElem?
  intro k
  rw [List.getElem?_take, List.getElem?_append, List.length_take, List.getElem?_set, List.getElem?_take]
  by_cases h1 : k < h.length - 2
  · rw [if_pos (by omega), if_neg (by omega), if_pos (by omega), if_pos h1]
  · by_cases h3 : k = h.length - 2
    · subst h3
      rw [if_pos (by omega), if_pos rfl, if_pos (by omega), if_neg (by omega)]
      rw [show h.length - 2 - min (h.length - 2) h.length = 0 from by omega]; rfl
    · rw [if_neg (by omega), if_neg (by omega)]
      rw [List.getElem?_eq_none (by simp only [List.length_singleton]; omega)]
def someV (k : Nat) : List Hs := (List.range k).map fun (i : Nat) => leaf [UInt8.ofNat (((i : Int) / 256) % 256).toNat, UInt8.ofNat ((i : Int) % 256).toNat]
theorem some_len (k : Nat) : (someV k).length = k := by simp [someV]
theorem some_succ (k : Nat) : someV (k + 1) = someV k ++ [leaf [UInt8.ofNat (((k : Int) / 256) % 256).toNat, UInt8.ofNat ((k : Int) % 256).toNat]] := by simp [someV, List.range_succ]
theorem leaf_length (l : List UInt8) : (leaf l).length = 32 := by unfold leaf; exact sum_length _
set_option maxRecDepth 100000 in
set_option maxHeartbeats 1000000 in
theorem append_ok {κ : World} {L : List Assn} {a : Option Addr} {m c n : Nat} {f : List Hs} {x : Hs} (hm : Sl (RArr8 32) a m c f ∈ L) (hx : x.length = 32) (hT : Tab L) (hn : n ≤ 100000) (hf : f.length = ones n) :
    Ctr Tryd.prog 24 #[.agg #[vI (n : Int), .slice a m c], .agg ((x).map v8).toArray] κ L (fun v M => ∃ a2 c2, v = .agg #[vI ((n : Int) + 1), .slice a2 (mergeV n (f ++ [x])).length c2] ∧ M = Sl (RArr8 32) a2 (mergeV n (f ++ [x])).length c2 (mergeV n (f ++ [x])) :: L) := by
 refine Ctr.enter (vs := [.agg #[vI (n : Int), .slice a m c], .agg ((x).map v8).toArray]) (m := 45) Tryd.func24 rfl rfl rfl ?_
 unfold Tab at hT
 refine SG.sl hm fun hfm hc hc63 => ?_
 have hol := ones_le _ n (Nat.le_refl _)
 refine SG.seq ?_
 refine SG.region ?_
 refine RL.eff (Wanted.free rfl) (E.box [vI (n : Int), .slice a m c] rfl rfl rfl) rfl ?_
 rintro _ _ ⟨b2, rfl, rfl⟩
 refine RL.eff (Wanted.free rfl) (E.box (x.map v8) rfl rfl rfl) rfl ?_
 rintro _ _ ⟨b3, rfl, rfl⟩
 refine RL.eff (Wanted.free rfl) (E.alloc rfl ze39) rfl ?_
 rintro _ _ ⟨b4, rfl, rfl⟩
 refine RL.nil ?_
 refine SG.seq ?_
 refine SG.region ?_
 refine RL.val (Wanted.free rfl) (V.fieldAddr rfl rfl fo39_1) rfl ?_
 refine RL.val (Wanted.free rfl) (V.load rfl on22 rfl pickX rfl) rfl ?_
 refine RL.val (Wanted.free rfl) (V.loadAgg (us := x.map v8) rfl ag25 rfl pickX (take8 hx) (by rw [List.length_map]; exact hx)) rfl ?_
 refine RL.eff (Wanted.free rfl) (E.lit1 ((x).map v8) rfl el22.slice ze25 (by simp) (by decide) (by decide) rfl rfl (by rw [List.length_map]; exact hx)) rfl ?_
 rintro _ _ ⟨b11, rfl, rfl⟩
 refine RL.ent (Buf.lit1' (T := RArr8 32) (b := b11) (e := 25) (y := x) Pick.here (by rw [List.length_map]; exact hx) (fun _ => ⟨rfl, hx⟩)) ?_
 refine RL.publish (T := RArr8 32) Pick.here ?_
 refine RL.eff (Wanted.free rfl) (E.call rfl go56 rfl (with_ok (l := f) (l' := [x]) memX memX (by simp) (by omega) (by simp))) rfl ?_
 rintro _ _ ⟨a12, c12, rfl, rfl⟩
 refine RL.val (Wanted.free rfl) (V.assign rfl rfl) rfl ?_
 refine RL.nil ?_
 refine SG.seq ?_
 refine SG.seq ?_
 refine SG.region ?_
 refine RL.val (Wanted.free rfl) (V.fieldAddr rfl rfl fo39_0) rfl ?_
 refine RL.val (Wanted.free rfl) (V.load rfl on3 rfl pickX rfl) rfl ?_
 refine RL.val (Wanted.free rfl) (V.assign rfl rfl) rfl ?_
 refine RL.nil ?_
 refine SG.block ?_
 refine SG.weaken (SG.loop2 (fun m0 al M => ∃ (n2 : Nat) (h : List Hs) (a5 : Option Addr) (c5 : Nat), mergeV n2 h = mergeV n (f ++ [x]) ∧ h.length = ones n2 + 1 ∧ n2 ≤ 100000 ∧ m0 = n2 + 1 ∧ al = [(2, ptr b2 0), (4, ptr b4 0), (5, .slice a5 h.length c5), (6, vI (n2 : Int))] ∧ M = Buf (RArr8 32) 25 a5 (h).length c5 (h) :: Blk b2 39 [vI (n : Int), .slice a m c] :: Blk b3 25 (x.map v8) :: Blk b4 39 [vI 0, .slice none 0 0] :: L) (m0 := _) ⟨n, f ++ [x], a12, c12, rfl, by rw [List.length_append, List.length_singleton, hf], hn, rfl, rfl, rfl⟩ ?_) ?_ ?_
 rotate_left
 ·
  repeat (first | exact EnvLe.nil _ | refine EnvLe.cons rfl ?_)
 ·
  exact entX
 rintro _ _ _ ⟨n2, h, a5, c5, hme, hhl, hn2, rfl, rfl, rfl⟩ ih0
 refine SG.seq ?_
 refine SG.seq ?_
 refine SG.region ?_
 refine RL.val (Wanted.free rfl) (V.move rfl rfl) rfl ?_
 refine RL.val (Wanted.free rfl) (V.bin rfl rfl rfl (B.remI (by omega) (by omega))) rfl ?_
 refine RL.cmp (Wanted.free rfl) (V.bin rfl rfl rfl B.eql) rfl (fun h15 => ?_) (fun h15 => ?_)
 ·
  have hodd : n2 % 2 = 1 := by omega
  refine RL.nil ?_
  refine SG.cond_true rfl ?_
  refine SG.skip ?_
  refine SG.seq ?_
  refine SG.block ?_
  refine SG.seq ?_
  have hp := ones_pos hodd
  have hst := ones_step n2
  have ho2 := ones_le _ n2 (Nat.le_refl _)
  refine SG.region ?_
  refine RL.val (Wanted.free rfl) (V.move rfl rfl) rfl ?_
  refine RL.val (Wanted.free rfl) (V.len rfl rfl el22.under rfl) rfl ?_
  refine RL.val (Wanted.free rfl) (V.bin rfl rfl rfl (B.subI (by omega) (by omega))) rfl ?_
  rw [show (h.length : Int) - 1 = ((h.length - 1 : Nat) : Int) from by omega]
  refine RL.val (Wanted.free rfl) (V.assign rfl rfl) rfl ?_
  refine RL.nil ?_
  refine SG.seq ?_
  refine SG.fact (fun w hs => Sep.bufArr hs (a := a5) (l := h) pickX) fun hh32 => ?_
  refine SG.buf (T := RArr8 32) (a := a5) (l := h) pickX fun _ hc5 _ => ?_
  refine SG.bufAd (T := RArr8 32) (a := a5) pickX (by omega) fun ad had => ?_
  subst had
  obtain ⟨y, hy⟩ : ∃ y, h[h.length - 2]? = some y := ⟨_, List.getElem?_eq_getElem (by omega)⟩
  obtain ⟨z, hz⟩ : ∃ z, h[h.length - 1]? = some z := ⟨_, List.getElem?_eq_getElem (by omega)⟩
  have hyl := hh32 y (List.mem_of_getElem? hy)
  have hzl := hh32 z (List.mem_of_getElem? hz)
  have hmg : (h.set (h.length - 2) (node y z)).take (h.length - 1) = mrg h := by rw [set_take (by omega)]; unfold mrg; rw [getD_some' hy, getD_some' hz]
  have hml := mrg_len (h := h) (by omega)
  have hme2 : mergeV n2 h = mergeV (n2 / 2) (mrg h) := merge_odd hodd
  refine SG.drawL 15 14 wide rfl rfl ?_
  refine RH.val 0 rfl krX krX krX krX (Wanted.free rfl) (V.move rfl rfl) rfl ?_
  refine RH.val 1 rfl krX krX krX krX (Wanted.free rfl) (V.move rfl rfl) rfl ?_
  refine RH.val 2 rfl krX krX krX krX (Wanted.free rfl) (V.bin rfl rfl rfl (B.subI (by omega) (by omega))) rfl ?_
  rw [show ((h.length - 1 : Nat) : Int) - 1 = ((h.length - 2 : Nat) : Int) from by omega]
  refine RH.val 3 rfl krX krX krX krX (Wanted.free rfl) (V.move rfl rfl) rfl ?_
  refine RH.val 4 rfl krX krX krX krX (Wanted.free rfl) (V.move rfl rfl) rfl ?_
  refine RH.val 5 rfl krX krX krX krX (Wanted.free rfl) (V.bin rfl rfl rfl (B.subI (by omega) (by omega))) rfl ?_
  try rw [show ((h.length - 1 : Nat) : Int) - 1 = ((h.length - 2 : Nat) : Int) from by omega]
  refine RH.val 6 rfl krX krX krX krX (Wanted.free rfl) (V.indexAd (j := (h.length - 2)) rfl el22.slice rfl rfl (by first | rfl | omega) (by omega)) rfl ?_
  refine RH.val 7 rfl krX krX krX krX (Wanted.free rfl) (V.loadBufDt rfl ag25 rfl pickX hy) rfl ?_
  refine RH.val 8 rfl krX krX krX krX (Wanted.free rfl) (V.move rfl rfl) rfl ?_
  refine RH.val 9 rfl krX krX krX krX (Wanted.free rfl) (V.move rfl rfl) rfl ?_
  refine RH.val 10 rfl krX krX krX krX (Wanted.free rfl) (V.indexAd (j := (h.length - 1)) rfl el22.slice rfl rfl (by first | rfl | omega) (by omega)) rfl ?_
  refine RH.val 11 rfl krX krX krX krX (Wanted.free rfl) (V.loadBufDt rfl ag25 rfl pickX hz) rfl ?_
  refine RH.one (i := 12) krX ?_
  refine RHone.eff rfl (Wanted.free rfl) (E.call rfl go47 rfl (node_ok hyl hzl (by unfold Tab; repeat (first | exact List.Mem.head _ | assumption | apply List.Mem.tail)))) rfl ?_
  rintro _ _ ⟨rfl, rfl⟩
  refine ⟨.inr entX, ?_⟩
  refine RH.val 13 rfl krX krX krX krX (Wanted.free rfl) (V.indexAd (j := (h.length - 2)) rfl el22.slice rfl rfl (by first | rfl | omega) (by omega)) rfl ?_
  refine RH.one (i := 14) krX ?_
  refine RHone.eff rfl (Wanted.free rfl) (E.storeBuf (T := RArr8 32) (j := h.length - 2) (y := node y z) ((node y z).map v8) rfl sz25 rfl rfl rfl pickX (by omega) (fun _ _ _ => ⟨rfl, node_length _ _⟩)) rfl ?_
  rintro _ _ rfl
  refine ⟨.inl krX, ?_⟩
  refine RH.done krX ?_
  refine SG.region ?_
  refine RL.val (Wanted.free rfl) (V.move rfl rfl) rfl ?_
  refine RL.val (Wanted.free rfl) (V.move rfl rfl) rfl ?_
  refine RL.val (Wanted.free rfl) (V.sliceTo (hi := (h.length - 1)) rfl el22.slice rfl ⟨_, _, rfl, (by first | rfl | omega)⟩ (by omega)) rfl ?_
  refine RL.ent (Buf.cut (m' := h.length - 1) (by omega)) ?_
  rw [hmg, ← hml]
  refine RL.val (Wanted.free rfl) (V.assign rfl rfl) rfl ?_
  refine RL.nil ?_
  refine SG.inBlock ?_
  refine SG.region ?_
  refine RL.val (Wanted.free rfl) (V.move rfl rfl) rfl ?_
  refine RL.val (Wanted.free rfl) (V.bin rfl rfl rfl (B.quoI (by omega) (by omega) (by omega))) rfl ?_
  refine RL.val (Wanted.free rfl) (V.assign rfl rfl) rfl ?_
  refine RL.nil ?_
  refine SG.weaken (ih0 _ _ _ ?_ ⟨n2 / 2, mrg h, some ad, c5, by rw [← hme2]; exact hme, by omega, by omega, rfl, rfl, rfl⟩) ?_ ?_
  ·
   omega
  ·
   rw [show ((n2 / 2 : Nat) : Int) = (n2 : Int) / 2 from by omega]
   repeat (first | exact EnvLe.nil _ | refine EnvLe.cons rfl ?_)
  ·
   exact entX
 ·
  have hev : ¬ n2 % 2 = 1 := by omega
  refine RL.nil ?_
  refine SG.cond_false rfl ?_
  refine SG.exit rfl ?_
  refine SG.seq ?_
  rw [merge_even hev] at hme
  rw [hme]
  refine SG.publish (T := RArr8 32) (a := a5) pickX ?_
  refine SG.region ?_
  refine RL.val (Wanted.free rfl) (V.fieldAddr rfl rfl fo39_0) rfl ?_
  refine RL.val (Wanted.free rfl) (V.load rfl on3 rfl pickX rfl) rfl ?_
  refine RL.val (Wanted.free rfl) (V.bin rfl rfl rfl (B.addI (by omega) (by omega))) rfl ?_
  refine RL.val (Wanted.free rfl) (V.move rfl rfl) rfl ?_
  refine RL.val (Wanted.free rfl) (V.buildS [(0, _), (1, _)] rfl bs39 (by exact ⟨rfl, ⟨_, rfl, rfl⟩, ⟨rfl, ⟨_, rfl, rfl⟩, trivial⟩⟩) rfl) rfl ?_
  refine RL.eff (Wanted.free rfl) (E.storeWhole rfl rfl rfl (by rfl) sz39 pickX (by first | (simp [Value.oneCell']; done) | (simp [setAt, Value.oneCell']; done)) (by rfl)) rfl ?_
  rintro _ _ rfl
  refine RL.nil ?_
  refine SG.retE (Ret.r1 Tryd.func24 rfl (.agg rfl ag39 pickX rfl rfl)) ?_ ⟨_, _, rfl, rfl⟩
  exact entX

end Go.Proofs.YtcbloadpffjkiaaDoor
