/- Frontiers. -/
import Derived.Test.YtcbloadpffjkiaaDoorMrefs
namespace Go.Proofs.YtcbloadpffjkiaaDoor
open Go.Wk Go.Mk Go.Sha

theorem set_take {h : List Hs} {y : Hs} (h2 : 2 ≤ h.length) : (h.set (h.length - 2) y).take (h.length - 1) = h.take (h.length - 2) ++ [y] := by
  apply List.ext_getElem?
  intro k
  rw [List.getElem?_take, List.getElem?_append, List.length_take, List.getElem?_set, List.getElem?_take]
  by_cases h1 : k < h.length - 2
  · rw [if_pos (by omega), if_neg (by omega), if_pos (by omega), if_pos h1]
  · by_cases h3 : k = h.length - 2
    · subst h3
      rw [if_pos (by omega), if_pos rfl, if_pos (by omega), if_neg (by omega)]
      rw [show h.length - 2 - min (h.length - 2) h.length = 0 from by omega]; rfl
    · rw [if_neg (by omega), if_neg (by omega)]
      rw [List.getElem?_eq_none (by simp only [List.length_singleton]; omega)]
def someV (k : Nat) : List Hs := (List.range k).map fun (i : Nat) => leaf [UInt8.ofNat (((i : Int) / 256) % 256).toNat, UInt8.ofNat ((i : Int) % 256).toNat]
theorem some_len (k : Nat) : (someV k).length = k := by simp [someV]
theorem some_succ (k : Nat) : someV (k + 1) = someV k ++ [leaf [UInt8.ofNat (((k : Int) / 256) % 256).toNat, UInt8.ofNat ((k : Int) % 256).toNat]] := by simp [someV, List.range_succ]
theorem leaf_length (l : List UInt8) : (leaf l).length = 32 := by unfold leaf; exact sum_length _
set_option maxRecDepth 100000 in
set_option maxHeartbeats 1000000 in
theorem fblocks_ok {κ : World} {L : List Assn} {a : Option Addr} {m c : Nat} {l : List Hs} (hm : Sl (RArr8 32) a m c l ∈ L) (hT : Tab L) (hb : l.length ≤ 65536) :
    Ctr Tryd.prog 57 #[.slice a m c] κ L (fun v M => ∃ a2 c2, v = .slice a2 (blocksV l).length c2 ∧ M = Sl (RArr8 32) a2 (blocksV l).length c2 (blocksV l) :: L) := by
 refine Ctr.enter (vs := [.slice a m c]) (m := 23) Tryd.func57 rfl rfl rfl ?_
 unfold Tab at hT
 refine SG.fact (fun w hs => Sep.slArr hs hm) fun h32 => ?_
 refine SG.sl hm fun hn hc hc63 => ?_
 subst hn
 have hbl := blocks_le l
 refine SG.ent (Buf.nil (T := RArr8 32) (e := 25)) ?_
 refine SG.seq ?_
 refine SG.region ?_
 refine RL.val (Wanted.free rfl) (V.assign rfl rfl) rfl ?_
 refine RL.nil ?_
 refine SG.seq ?_
 refine SG.region ?_
 refine RL.val (Wanted.free rfl) (V.assign rfl rfl) rfl ?_
 refine RL.nil ?_
 refine SG.seq ?_
 refine SG.block ?_
 refine SG.weaken (SG.loop2 (fun m0 al M => ∃ (t : List Hs) (at_ : Option Addr) (mt ct : Nat) (out : List Hs) (a6 : Option Addr) (c6 : Nat), t.length = mt ∧ mt ≤ 65536 ∧ (∀ x ∈ t, x.length = 32) ∧ out ++ blocksV t = blocksV l ∧ m0 = mt + 1 ∧ al = [(0, .slice at_ mt ct), (3, .slice a6 out.length c6)] ∧ M = Sl (RArr8 32) at_ mt ct t :: Buf (RArr8 32) 25 a6 (out).length c6 (out) :: L) (m0 := _) ⟨l, a, l.length, c, [], none, 0, rfl, by omega, h32, by simp, rfl, rfl, rfl⟩ ?_) ?_ ?_
 rotate_left
 ·
  repeat (first | exact EnvLe.nil _ | refine EnvLe.cons rfl ?_)
 ·
  exact entX
 rintro _ _ _ ⟨t, at_, mt, ct, out, a6, c6, hml, hmb, ht32, hpe, rfl, rfl, rfl⟩ ih0
 refine SG.seq ?_
 refine SG.seq ?_
 refine SG.region ?_
 refine RL.val (Wanted.free rfl) (V.move rfl rfl) rfl ?_
 refine RL.val (Wanted.free rfl) (V.len rfl rfl el22.under rfl) rfl ?_
 refine RL.cmp (Wanted.free rfl) (V.bin rfl rfl rfl B.gtr) rfl (fun h5 => ?_) (fun h5 => ?_)
 ·
  refine RL.nil ?_
  refine SG.cond_true rfl ?_
  refine SG.skip ?_
  refine SG.block ?_
  refine SG.seq ?_
  obtain ⟨k, hk⟩ : ∃ k, spl (t.length + 1) = k := ⟨_, rfl⟩
  have hk1 := spl_lt (n := t.length + 1) (by omega)
  have hk2 := spl_pos (t.length + 1)
  rw [hk] at hk1 hk2
  have hol := congrArg List.length hpe
  simp only [List.length_append] at hol
  refine SG.sl (T := RArr8 32) (a := at_) memX fun hmt hct hct63 => ?_
  refine SG.region ?_
  refine RL.val (Wanted.free rfl) (V.move rfl rfl) rfl ?_
  refine RL.val (Wanted.free rfl) (V.len rfl rfl el22.under rfl) rfl ?_
  refine RL.val (Wanted.free rfl) (V.bin rfl rfl rfl (B.addI (by omega) (by omega))) rfl ?_
  rw [show (mt : Int) + 1 = ((mt + 1 : Nat) : Int) from by omega]
  refine RL.eff (Wanted.free rfl) (E.call rfl go49 rfl (rsplit_ok (n := mt + 1) (by omega) (by omega))) rfl ?_
  rintro _ _ ⟨rfl, rfl⟩
  rw [show spl (mt + 1) = k from by rw [← hml]; exact hk]
  refine RL.val (Wanted.free rfl) (V.assign rfl rfl) rfl ?_
  refine RL.nil ?_
  refine SG.seq ?_
  refine SG.cut (T := RArr8 32) (lo := k) (hi := mt) (l' := t.drop (k)) (a := at_) (l := t) memX (by omega) (by omega) (List.take_of_length_le (by rw [List.length_drop]; omega)) ?_
  refine SG.cut (T := RArr8 32) (lo := 0) (hi := k) (l' := t.take (k)) (a := at_) (l := t) memX (by omega) (by omega) (by rw [List.drop_zero, Nat.sub_zero]) ?_
  have h32y : (rootV (t.take k)).length = 32 := (root_len (fun x hx => ht32 x (List.mem_of_mem_take hx)))
  have hnew : out ++ [rootV (t.take k)] ++ blocksV (t.drop k) = blocksV l := by rw [← hpe, blocks_cons (l := t) (by omega), hk]; simp
  refine SG.region ?_
  refine RL.val (Wanted.free rfl) (V.move rfl rfl) rfl ?_
  refine RL.val (Wanted.free rfl) (V.move rfl rfl) rfl ?_
  refine RL.val (Wanted.free rfl) (V.move rfl rfl) rfl ?_
  refine RL.val (Wanted.free rfl) (V.slice (T := RArr8 32) (lo := 0) (hi := k) rfl el22.slice rfl rfl ⟨_, _, rfl, (by first | rfl | omega)⟩ (by omega) (by omega)) rfl ?_
  refine RL.eff (Wanted.free rfl) (E.call rfl go14 rfl (rroot_ok (l := t.take k) memX (by unfold Tab; repeat (first | exact List.Mem.head _ | assumption | apply List.Mem.tail)) (by rw [List.length_take]; omega))) rfl ?_
  rintro _ _ ⟨rfl, rfl⟩
  refine RL.eff (Wanted.free rfl) (E.lit1 ((rootV (t.take k)).map v8) rfl el22.slice ze25 (by simp) (by decide) (by decide) rfl rfl (by rw [List.length_map]; exact h32y)) rfl ?_
  rintro _ _ ⟨b17, rfl, rfl⟩
  refine RL.eff (Wanted.free rfl) (E.append (T := (RArr8 32)) rfl rfl rfl el22 el22.noInt rfl rfl pickX (Src.litDt (y := rootV (t.take k)) pickX rfl h32y) (by first | omega | (simp; omega)) (by first | omega | (simp; omega))) rfl ?_
  intro _ _ hK17
  try rw [List.nil_append] at hK17
  try rw [Nat.zero_add] at hK17
  obtain ⟨a18, c18, rfl, rfl⟩ := hK17
  refine RL.val (Wanted.free rfl) (V.assign rfl rfl) rfl ?_
  refine RL.nil ?_
  refine SG.region ?_
  refine RL.val (Wanted.free rfl) (V.move rfl rfl) rfl ?_
  refine RL.val (Wanted.free rfl) (V.move rfl rfl) rfl ?_
  refine RL.val (Wanted.free rfl) (V.slice (T := RArr8 32) (lo := k) (hi := mt) rfl el22.slice rfl ⟨_, _, rfl, (by first | rfl | omega)⟩ rfl (by omega) (by omega)) rfl ?_
  refine RL.val (Wanted.free rfl) (V.assign rfl rfl) rfl ?_
  refine RL.nil ?_
  refine SG.inBlock ?_
  refine SG.weaken (ih0 _ _ _ ?_ ⟨t.drop k, cutA at_ k (RArr8 32).sz ct, mt - k, ct - k, out ++ [rootV (t.take k)], a18, c18, by rw [List.length_drop]; omega, by omega, fun x hx => ht32 x (List.mem_of_mem_drop hx), hnew, rfl, rfl, rfl⟩) ?_ ?_
  ·
   omega
  ·
   rw [List.length_append]
   repeat (first | exact EnvLe.nil _ | refine EnvLe.cons rfl ?_)
  ·
   rw [List.length_append]
   exact entX
 ·
  refine RL.nil ?_
  refine SG.cond_false rfl ?_
  refine SG.exit rfl ?_
  refine SG.seq ?_
  have ht0 : t = [] := List.eq_nil_of_length_eq_zero (by omega)
  rw [ht0, blocks_nil, List.append_nil] at hpe
  rw [hpe]
  refine SG.publish (T := RArr8 32) (a := a6) pickX ?_
  refine SG.region ?_
  refine RL.val (Wanted.free rfl) (V.move rfl rfl) rfl ?_
  refine RL.val (Wanted.free rfl) (V.assign rfl rfl) rfl ?_
  refine RL.nil ?_
  refine SG.retE (Ret.r1 Tryd.func57 rfl (.tmp rfl)) ?_ ⟨_, _, rfl, rfl⟩
  exact entX

set_option maxRecDepth 100000 in
set_option maxHeartbeats 1000000 in
theorem frontier_ok {κ : World} {L : List Assn} {a : Option Addr} {m c : Nat} {l : List Hs} (hm : Sl (RArr8 32) a m c l ∈ L) (hT : Tab L) (hb : l.length ≤ 65536) :
    Ctr Tryd.prog 25 #[.slice a m c] κ L (fun v M => ∃ a2 c2, v = .agg #[vI (l.length : Int), .slice a2 (blocksV l).length c2] ∧ M = Sl (RArr8 32) a2 (blocksV l).length c2 (blocksV l) :: L) := by
 refine Ctr.enter (vs := [.slice a m c]) (m := 8) Tryd.func25 rfl rfl rfl ?_
 refine SG.sl hm fun hn hc hc63 => ?_
 subst hn
 refine SG.seq ?_
 refine SG.region ?_
 refine RL.eff (Wanted.free rfl) (E.alloc rfl ze39) rfl ?_
 rintro _ _ ⟨b1, rfl, rfl⟩
 refine RL.nil ?_
 refine SG.seq ?_
 refine SG.region ?_
 refine RL.val (Wanted.free rfl) (V.move rfl rfl) rfl ?_
 refine RL.val (Wanted.free rfl) (V.len rfl rfl el22.under rfl) rfl ?_
 refine RL.val (Wanted.free rfl) (V.move rfl rfl) rfl ?_
 refine RL.eff (Wanted.free rfl) (E.call rfl go57 rfl (fblocks_ok (l := l) memX (by unfold Tab; repeat (first | exact List.Mem.head _ | assumption | apply List.Mem.tail)) hb)) rfl ?_
 rintro _ _ ⟨a6, c6, rfl, rfl⟩
 refine RL.val (Wanted.free rfl) (V.buildS [(0, _), (1, _)] rfl bs39 (by exact ⟨rfl, ⟨_, rfl, rfl⟩, ⟨rfl, ⟨_, rfl, rfl⟩, trivial⟩⟩) rfl) rfl ?_
 refine RL.eff (Wanted.free rfl) (E.storeWhole rfl rfl rfl (by rfl) sz39 pickX (by first | (simp [Value.oneCell']; done) | (simp [setAt, Value.oneCell']; done)) (by rfl)) rfl ?_
 rintro _ _ rfl
 refine RL.nil ?_
 refine SG.retE (Ret.r1 Tryd.func25 rfl (.agg rfl ag39 pickX rfl rfl)) ?_ ⟨_, _, rfl, rfl⟩
 exact entX

set_option maxRecDepth 100000 in
set_option maxHeartbeats 1000000 in
theorem some_ok {κ : World} {L : List Assn} {n : Int} {most : Nat} (hi : inInt n) (hb : most ≤ 1000) (_ : Tab L) :
    Ctr Tryd.prog 12 #[vI n, vI (most : Int)] κ L (fun v M => ∃ (k : Nat) (a2 : Option Addr) (c2 : Nat), k ≤ most ∧ v = .slice a2 (someV k).length c2 ∧ M = Sl (RArr8 32) a2 (someV k).length c2 (someV k) :: L) := by
 refine Ctr.enter (vs := [vI n, vI (most : Int)]) (m := 26) Tryd.func12 rfl rfl rfl ?_
 obtain ⟨q, hq, hq2⟩ := aroundV_nat (n := n) (most := (most : Int) + 1) (by omega)
 unfold inInt at hi
 refine SG.ent (Buf.nil (T := RArr8 32) (e := 25)) ?_
 refine SG.seq ?_
 refine SG.region ?_
 refine RL.val (Wanted.free rfl) (V.assign rfl rfl) rfl ?_
 refine RL.nil ?_
 refine SG.seq ?_
 refine SG.region ?_
 refine RL.val (Wanted.free rfl) (V.assign rfl rfl) rfl ?_
 refine RL.nil ?_
 refine SG.seq ?_
 refine SG.seq ?_
 refine SG.region ?_
 refine RL.val (Wanted.free rfl) (V.assign rfl rfl) rfl ?_
 refine RL.nil ?_
 refine SG.block ?_
 refine SG.weaken (SG.loop2 (fun m0 al M => ∃ (i : Nat) (a5 : Option Addr) (c5 : Nat), i ≤ q ∧ m0 = q + 1 - i ∧ al = [(0, vI n), (1, vI (most : Int)), (5, .slice a5 i c5), (6, vI i)] ∧ M = Buf (RArr8 32) 25 a5 i c5 (someV i) :: L) (m0 := _) ⟨0, none, 0, by omega, rfl, rfl, rfl⟩ ?_) ?_ ?_
 rotate_left
 ·
  repeat (first | exact EnvLe.nil _ | refine EnvLe.cons rfl ?_)
 ·
  exact entX
 rintro _ _ _ ⟨i, a5, c5, hi2, rfl, rfl, rfl⟩ ih0
 refine SG.seq ?_
 refine SG.seq ?_
 refine SG.region ?_
 refine RL.val (Wanted.free rfl) (V.move rfl rfl) rfl ?_
 refine RL.val (Wanted.free rfl) (V.move rfl rfl) rfl ?_
 refine RL.val (Wanted.free rfl) (V.move rfl rfl) rfl ?_
 refine RL.val (Wanted.free rfl) (V.bin rfl rfl rfl (B.addI (by omega) (by omega))) rfl ?_
 refine RL.eff (Wanted.free rfl) (E.call rfl go16 rfl (around_ok _ _ hi.1 hi.2 (by omega))) rfl ?_
 rintro _ _ ⟨rfl, rfl⟩
 rw [hq]
 refine RL.cmp (Wanted.free rfl) (V.bin rfl rfl rfl B.lss) rfl (fun h9 => ?_) (fun h9 => ?_)
 ·
  refine RL.nil ?_
  refine SG.cond_true rfl ?_
  refine SG.skip ?_
  refine SG.seq ?_
  refine SG.block ?_
  have hsl := some_len i
  refine SG.region ?_
  refine RL.val (Wanted.free rfl) (V.move rfl rfl) rfl ?_
  refine RL.val (Wanted.free rfl) (V.move rfl rfl) rfl ?_
  refine RL.val (Wanted.free rfl) (V.bin rfl rfl rfl (B.quoI (by omega) (by omega) (by omega))) rfl ?_
  refine RL.val (Wanted.free rfl) (V.to8 rfl ⟨_, ui3⟩ ui5 rfl) rfl ?_
  refine RL.val (Wanted.free rfl) (V.move rfl rfl) rfl ?_
  refine RL.val (Wanted.free rfl) (V.to8 rfl ⟨_, ui3⟩ ui5 rfl) rfl ?_
  refine RL.eff (Wanted.free rfl) (E.litN (xs := [.tmp 18, .tmp 20]) rfl rfl rfl el62.slice ze5 rfl (by decide) (by decide) rfl (by simp [Value.cells])) rfl ?_
  rintro _ _ ⟨b21, rfl, rfl⟩
  refine RL.ent (Buf.of_els (T := R8) (b := b21) (e := 5) (m := 2) (l := [UInt8.ofNat (((i : Int) / 256) % 256).toNat, UInt8.ofNat ((i : Int) % 256).toNat]) Pick.here rfl rfl (by decide) (fun _ _ _ => rows_sc.2 ⟨rfl, fun _ _ => trivial⟩)) ?_
  refine RL.publish (T := R8) Pick.here ?_
  refine RL.eff (Wanted.free rfl) (E.call rfl go44 rfl (rleaf_ok (l := [UInt8.ofNat (((i : Int) / 256) % 256).toNat, UInt8.ofNat ((i : Int) % 256).toNat]) memX (by show 2 ≤ _; decide))) rfl ?_
  rintro _ _ ⟨rfl, rfl⟩
  refine RL.eff (Wanted.free rfl) (E.lit1 ((leaf [UInt8.ofNat (((i : Int) / 256) % 256).toNat, UInt8.ofNat ((i : Int) % 256).toNat]).map v8) rfl el22.slice ze25 (by simp) (by decide) (by decide) rfl rfl (by rw [List.length_map]; exact (leaf_length _))) rfl ?_
  rintro _ _ ⟨b23, rfl, rfl⟩
  refine RL.eff (Wanted.free rfl) (E.append (T := (RArr8 32)) rfl rfl rfl el22 el22.noInt rfl rfl pickX (Src.litDt (y := leaf [UInt8.ofNat (((i : Int) / 256) % 256).toNat, UInt8.ofNat ((i : Int) % 256).toNat]) pickX rfl (leaf_length _)) (by first | omega | (simp; omega)) (by first | omega | (simp; omega))) rfl ?_
  intro _ _ hK19
  try rw [List.nil_append] at hK19
  try rw [Nat.zero_add] at hK19
  rw [← some_succ] at hK19
  obtain ⟨a24, c24, rfl, rfl⟩ := hK19
  refine RL.val (Wanted.free rfl) (V.assign rfl rfl) rfl ?_
  refine RL.nil ?_
  refine SG.inBlock ?_
  refine SG.region ?_
  refine RL.val (Wanted.free rfl) (V.move rfl rfl) rfl ?_
  refine RL.val (Wanted.free rfl) (V.bin rfl rfl rfl (B.addI (by omega) (by omega))) rfl ?_
  refine RL.val (Wanted.free rfl) (V.assign rfl rfl) rfl ?_
  refine RL.nil ?_
  refine SG.weaken (ih0 _ _ _ ?_ ⟨i + 1, a24, c24, by omega, rfl, rfl, rfl⟩) ?_ ?_
  ·
   omega
  ·
   repeat (first | exact EnvLe.nil _ | refine EnvLe.cons rfl ?_)
  ·
   exact entX
 ·
  refine RL.nil ?_
  refine SG.cond_false rfl ?_
  refine SG.exit rfl ?_
  refine SG.seq ?_
  refine SG.publish (T := RArr8 32) (a := a5) pickX ?_
  have hsl := some_len i
  refine SG.region ?_
  refine RL.val (Wanted.free rfl) (V.move rfl rfl) rfl ?_
  refine RL.val (Wanted.free rfl) (V.assign rfl rfl) rfl ?_
  refine RL.nil ?_
  refine SG.retE (Ret.r1 Tryd.func12 rfl (.tmp rfl)) ?_ ⟨i, a5, c5, by omega, by rw [hsl], by rw [hsl]⟩
  exact entX

set_option maxRecDepth 100000 in
set_option maxHeartbeats 1000000 in
theorem append_ok {κ : World} {L : List Assn} {a : Option Addr} {m c n : Nat} {f : List Hs} {x : Hs} (hm : Sl (RArr8 32) a m c f ∈ L) (hx : x.length = 32) (hT : Tab L) (hn : n ≤ 100000) (hf : f.length = ones n) :
    Ctr Tryd.prog 24 #[.agg #[vI (n : Int), .slice a m c], .agg ((x).map v8).toArray] κ L (fun v M => ∃ a2 c2, v = .agg #[vI ((n : Int) + 1), .slice a2 (mergeV n (f ++ [x])).length c2] ∧ M = Sl (RArr8 32) a2 (mergeV n (f ++ [x])).length c2 (mergeV n (f ++ [x])) :: L) := by
 refine Ctr.enter (vs := [.agg #[vI (n : Int), .slice a m c], .agg ((x).map v8).toArray]) (m := 45) Tryd.func24 rfl rfl rfl ?_
 unfold Tab at hT
 refine SG.sl hm fun hfm hc hc63 => ?_
 have hol := ones_le _ n (Nat.le_refl _)
 refine SG.seq ?_
 refine SG.region ?_
 refine RL.eff (Wanted.free rfl) (E.box [vI (n : Int), .slice a m c] rfl rfl rfl) rfl ?_
 rintro _ _ ⟨b2, rfl, rfl⟩
 refine RL.eff (Wanted.free rfl) (E.box (x.map v8) rfl rfl rfl) rfl ?_
 rintro _ _ ⟨b3, rfl, rfl⟩
 refine RL.eff (Wanted.free rfl) (E.alloc rfl ze39) rfl ?_
 rintro _ _ ⟨b4, rfl, rfl⟩
 refine RL.nil ?_
 refine SG.seq ?_
 refine SG.region ?_
 refine RL.val (Wanted.free rfl) (V.fieldAddr rfl rfl fo39_1) rfl ?_
 refine RL.val (Wanted.free rfl) (V.load rfl on22 rfl pickX rfl) rfl ?_
 refine RL.val (Wanted.free rfl) (V.loadAgg (us := x.map v8) rfl ag25 rfl pickX (take8 hx) (by rw [List.length_map]; exact hx)) rfl ?_
 refine RL.eff (Wanted.free rfl) (E.lit1 ((x).map v8) rfl el22.slice ze25 (by simp) (by decide) (by decide) rfl rfl (by rw [List.length_map]; exact hx)) rfl ?_
 rintro _ _ ⟨b11, rfl, rfl⟩
 refine RL.ent (Buf.lit1' (T := RArr8 32) (b := b11) (e := 25) (y := x) Pick.here (by rw [List.length_map]; exact hx) (fun _ => ⟨rfl, hx⟩)) ?_
 refine RL.publish (T := RArr8 32) Pick.here ?_
 refine RL.eff (Wanted.free rfl) (E.call rfl go56 rfl (with_ok (l := f) (l' := [x]) memX memX (by simp) (by omega) (by simp))) rfl ?_
 rintro _ _ ⟨a12, c12, rfl, rfl⟩
 refine RL.val (Wanted.free rfl) (V.assign rfl rfl) rfl ?_
 refine RL.nil ?_
 refine SG.seq ?_
 refine SG.seq ?_
 refine SG.region ?_
 refine RL.val (Wanted.free rfl) (V.fieldAddr rfl rfl fo39_0) rfl ?_
 refine RL.val (Wanted.free rfl) (V.load rfl on3 rfl pickX rfl) rfl ?_
 refine RL.val (Wanted.free rfl) (V.assign rfl rfl) rfl ?_
 refine RL.nil ?_
 refine SG.block ?_
 refine SG.weaken (SG.loop2 (fun m0 al M => ∃ (n2 : Nat) (h : List Hs) (a5 : Option Addr) (c5 : Nat), mergeV n2 h = mergeV n (f ++ [x]) ∧ h.length = ones n2 + 1 ∧ n2 ≤ 100000 ∧ m0 = n2 + 1 ∧ al = [(2, ptr b2 0), (4, ptr b4 0), (5, .slice a5 h.length c5), (6, vI (n2 : Int))] ∧ M = Buf (RArr8 32) 25 a5 (h).length c5 (h) :: Blk b2 39 [vI (n : Int), .slice a m c] :: Blk b3 25 (x.map v8) :: Blk b4 39 [vI 0, .slice none 0 0] :: L) (m0 := _) ⟨n, f ++ [x], a12, c12, rfl, by rw [List.length_append, List.length_singleton, hf], hn, rfl, rfl, rfl⟩ ?_) ?_ ?_
 rotate_left
 ·
  repeat (first | exact EnvLe.nil _ | refine EnvLe.cons rfl ?_)
 ·
  exact entX
 rintro _ _ _ ⟨n2, h, a5, c5, hme, hhl, hn2, rfl, rfl, rfl⟩ ih0
 refine SG.seq ?_
 refine SG.seq ?_
 refine SG.region ?_
 refine RL.val (Wanted.free rfl) (V.move rfl rfl) rfl ?_
 refine RL.val (Wanted.free rfl) (V.bin rfl rfl rfl (B.remI (by omega) (by omega))) rfl ?_
 refine RL.cmp (Wanted.free rfl) (V.bin rfl rfl rfl B.eql) rfl (fun h15 => ?_) (fun h15 => ?_)
 ·
  have hodd : n2 % 2 = 1 := by omega
  refine RL.nil ?_
  refine SG.cond_true rfl ?_
  refine SG.skip ?_
  refine SG.seq ?_
  refine SG.block ?_
  refine SG.seq ?_
  have hp := ones_pos hodd
  have hst := ones_step n2
  have ho2 := ones_le _ n2 (Nat.le_refl _)
  refine SG.region ?_
  refine RL.val (Wanted.free rfl) (V.move rfl rfl) rfl ?_
  refine RL.val (Wanted.free rfl) (V.len rfl rfl el22.under rfl) rfl ?_
  refine RL.val (Wanted.free rfl) (V.bin rfl rfl rfl (B.subI (by omega) (by omega))) rfl ?_
  rw [show (h.length : Int) - 1 = ((h.length - 1 : Nat) : Int) from by omega]
  refine RL.val (Wanted.free rfl) (V.assign rfl rfl) rfl ?_
  refine RL.nil ?_
  refine SG.seq ?_
  refine SG.fact (fun w hs => Sep.bufArr hs (a := a5) (l := h) pickX) fun hh32 => ?_
  refine SG.buf (T := RArr8 32) (a := a5) (l := h) pickX fun _ hc5 _ => ?_
  refine SG.bufAd (T := RArr8 32) (a := a5) pickX (by omega) fun ad had => ?_
  subst had
  obtain ⟨y, hy⟩ : ∃ y, h[h.length - 2]? = some y := ⟨_, List.getElem?_eq_getElem (by omega)⟩
  obtain ⟨z, hz⟩ : ∃ z, h[h.length - 1]? = some z := ⟨_, List.getElem?_eq_getElem (by omega)⟩
  have hyl := hh32 y (List.mem_of_getElem? hy)
  have hzl := hh32 z (List.mem_of_getElem? hz)
  have hmg : (h.set (h.length - 2) (node y z)).take (h.length - 1) = mrg h := by rw [set_take (by omega)]; unfold mrg; rw [getD_some' hy, getD_some' hz]
  have hml := mrg_len (h := h) (by omega)
  have hme2 : mergeV n2 h = mergeV (n2 / 2) (mrg h) := merge_odd hodd
  refine SG.drawL 15 14 wide rfl rfl ?_
  refine RH.val 0 rfl krX krX krX krX (Wanted.free rfl) (V.move rfl rfl) rfl ?_
  refine RH.val 1 rfl krX krX krX krX (Wanted.free rfl) (V.move rfl rfl) rfl ?_
  refine RH.val 2 rfl krX krX krX krX (Wanted.free rfl) (V.bin rfl rfl rfl (B.subI (by omega) (by omega))) rfl ?_
  rw [show ((h.length - 1 : Nat) : Int) - 1 = ((h.length - 2 : Nat) : Int) from by omega]
  refine RH.val 3 rfl krX krX krX krX (Wanted.free rfl) (V.move rfl rfl) rfl ?_
  refine RH.val 4 rfl krX krX krX krX (Wanted.free rfl) (V.move rfl rfl) rfl ?_
  refine RH.val 5 rfl krX krX krX krX (Wanted.free rfl) (V.bin rfl rfl rfl (B.subI (by omega) (by omega))) rfl ?_
  try rw [show ((h.length - 1 : Nat) : Int) - 1 = ((h.length - 2 : Nat) : Int) from by omega]
  refine RH.val 6 rfl krX krX krX krX (Wanted.free rfl) (V.indexAd (j := (h.length - 2)) rfl el22.slice rfl rfl (by first | rfl | omega) (by omega)) rfl ?_
  refine RH.val 7 rfl krX krX krX krX (Wanted.free rfl) (V.loadBufDt rfl ag25 rfl pickX hy) rfl ?_
  refine RH.val 8 rfl krX krX krX krX (Wanted.free rfl) (V.move rfl rfl) rfl ?_
  refine RH.val 9 rfl krX krX krX krX (Wanted.free rfl) (V.move rfl rfl) rfl ?_
  refine RH.val 10 rfl krX krX krX krX (Wanted.free rfl) (V.indexAd (j := (h.length - 1)) rfl el22.slice rfl rfl (by first | rfl | omega) (by omega)) rfl ?_
  refine RH.val 11 rfl krX krX krX krX (Wanted.free rfl) (V.loadBufDt rfl ag25 rfl pickX hz) rfl ?_
  refine RH.one (i := 12) krX ?_
  refine RHone.eff rfl (Wanted.free rfl) (E.call rfl go47 rfl (node_ok hyl hzl (by unfold Tab; repeat (first | exact List.Mem.head _ | assumption | apply List.Mem.tail)))) rfl ?_
  rintro _ _ ⟨rfl, rfl⟩
  refine ⟨.inr entX, ?_⟩
  refine RH.val 13 rfl krX krX krX krX (Wanted.free rfl) (V.indexAd (j := (h.length - 2)) rfl el22.slice rfl rfl (by first | rfl | omega) (by omega)) rfl ?_
  refine RH.one (i := 14) krX ?_
  refine RHone.eff rfl (Wanted.free rfl) (E.storeBuf (T := RArr8 32) (j := h.length - 2) (y := node y z) ((node y z).map v8) rfl sz25 rfl rfl rfl pickX (by omega) (fun _ _ _ => ⟨rfl, node_length _ _⟩)) rfl ?_
  rintro _ _ rfl
  refine ⟨.inl krX, ?_⟩
  refine RH.done krX ?_
  refine SG.region ?_
  refine RL.val (Wanted.free rfl) (V.move rfl rfl) rfl ?_
  refine RL.val (Wanted.free rfl) (V.move rfl rfl) rfl ?_
  refine RL.val (Wanted.free rfl) (V.sliceTo (hi := (h.length - 1)) rfl el22.slice rfl ⟨_, _, rfl, (by first | rfl | omega)⟩ (by omega)) rfl ?_
  refine RL.ent (Buf.cut (m' := h.length - 1) (by omega)) ?_
  rw [hmg, ← hml]
  refine RL.val (Wanted.free rfl) (V.assign rfl rfl) rfl ?_
  refine RL.nil ?_
  refine SG.inBlock ?_
  refine SG.region ?_
  refine RL.val (Wanted.free rfl) (V.move rfl rfl) rfl ?_
  refine RL.val (Wanted.free rfl) (V.bin rfl rfl rfl (B.quoI (by omega) (by omega) (by omega))) rfl ?_
  refine RL.val (Wanted.free rfl) (V.assign rfl rfl) rfl ?_
  refine RL.nil ?_
  refine SG.weaken (ih0 _ _ _ ?_ ⟨n2 / 2, mrg h, some ad, c5, by rw [← hme2]; exact hme, by omega, by omega, rfl, rfl, rfl⟩) ?_ ?_
  ·
   omega
  ·
   rw [show ((n2 / 2 : Nat) : Int) = (n2 : Int) / 2 from by omega]
   repeat (first | exact EnvLe.nil _ | refine EnvLe.cons rfl ?_)
  ·
   exact entX
 ·
  have hev : ¬ n2 % 2 = 1 := by omega
  refine RL.nil ?_
  refine SG.cond_false rfl ?_
  refine SG.exit rfl ?_
  refine SG.seq ?_
  rw [merge_even hev] at hme
  rw [hme]
  refine SG.publish (T := RArr8 32) (a := a5) pickX ?_
  refine SG.region ?_
  refine RL.val (Wanted.free rfl) (V.fieldAddr rfl rfl fo39_0) rfl ?_
  refine RL.val (Wanted.free rfl) (V.load rfl on3 rfl pickX rfl) rfl ?_
  refine RL.val (Wanted.free rfl) (V.bin rfl rfl rfl (B.addI (by omega) (by omega))) rfl ?_
  refine RL.val (Wanted.free rfl) (V.move rfl rfl) rfl ?_
  refine RL.val (Wanted.free rfl) (V.buildS [(0, _), (1, _)] rfl bs39 (by exact ⟨rfl, ⟨_, rfl, rfl⟩, ⟨rfl, ⟨_, rfl, rfl⟩, trivial⟩⟩) rfl) rfl ?_
  refine RL.eff (Wanted.free rfl) (E.storeWhole rfl rfl rfl (by rfl) sz39 pickX (by first | (simp [Value.oneCell']; done) | (simp [setAt, Value.oneCell']; done)) (by rfl)) rfl ?_
  rintro _ _ rfl
  refine RL.nil ?_
  refine SG.retE (Ret.r1 Tryd.func24 rfl (.agg rfl ag39 pickX rfl rfl)) ?_ ⟨_, _, rfl, rfl⟩
  exact entX

end Go.Proofs.YtcbloadpffjkiaaDoor
