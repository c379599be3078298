/- Path. -/
import Derived.Test.YtcbloadpffjkiaaDoorZMroots
import Derived.Test.YtcbloadpffjkiaaDoorZMrev
namespace Go.Proofs.YtcbloadpffjkiaaDoor
open Go.Wk Go.Mk Go.Sha

def pathE (n : Nat) (i : Int) : Int := if i < 0 ∨ (n : Int) ≤ i then 5 else 0
def pathL (l : List Hs) (i : Int) : List Hs := if i < 0 ∨ (l.length : Int) ≤ i then [] else pathV l i.toNat
theorem pathL_bad {l : List Hs} {i : Int} (h : i < 0 ∨ (l.length : Int) ≤ i) : pathE l.length i = 5 ∧ pathL l i = [] := ⟨if_pos h, if_pos h⟩
theorem pathL_ok {l : List Hs} {i : Nat} (h : i < l.length) : pathE l.length (i : Int) = 0 ∧ pathL l (i : Int) = pathV l i := ⟨if_neg (by omega), if_neg (by omega)⟩
def growE (n : Nat) (m : Int) : Int := if m < 0 ∨ (n : Int) < m then 5 else 0
def growL (l : List Hs) (m : Int) : List Hs := if m < 1 ∨ (l.length : Int) < m then [] else growV m.toNat l true
theorem growL_bad {l : List Hs} {m : Int} (h : m < 0 ∨ (l.length : Int) < m) : growE l.length m = 5 ∧ growL l m = [] := ⟨if_pos h, if_pos (by omega)⟩
theorem growL_zero (l : List Hs) : growE l.length 0 = 0 ∧ growL l 0 = [] := ⟨if_neg (by omega), if_pos (by omega)⟩
theorem growL_ok {l : List Hs} {m : Nat} (h0 : 1 ≤ m) (h : m ≤ l.length) : growE l.length (m : Int) = 0 ∧ growL l (m : Int) = growV m l true := ⟨if_neg (by omega), if_neg (by omega)⟩
theorem Sep.bufArr {κ w : World} {L L1 : List Assn} {e : TypeId} {a : Option Addr} {m c k : Nat} {l : List Hs} (hs : Sep κ w L) (hp : Pick (Buf (RArr8 k) e a m c l) L L1) : ∀ x ∈ l, x.length = k := by
  obtain ⟨_, z, h, d1, _, _, H⟩ := hs
  obtain ⟨k1, _, _, k4⟩ := Seen.buf hp z h d1 H
  intro x hx
  obtain ⟨j, hj⟩ := List.getElem?_of_mem hx
  have hjl := (List.getElem?_eq_some_iff.1 hj).1
  rcases k4 with k4 | ⟨b, off, cs, _, _, hr⟩
  · omega
  · exact (hr.2 j x hj).2
set_option maxRecDepth 100000 in
set_option maxHeartbeats 1000000 in
theorem path_ok {κ : World} {L : List Assn} {a : Option Addr} {m c : Nat} {l : List Hs} {i : Int} (hm : Sl (RArr8 32) a m c l ∈ L) (hT : Tab L) (hb : l.length ≤ 65536) (hii : inInt i) :
    Ctr Tryd.prog 17 #[.slice a m c, vI i] κ L (fun v M => ∃ a2 c2, v = .tuple #[.slice a2 (pathL l i).length c2, vI (pathE l.length i)] ∧ M = Sl (RArr8 32) a2 (pathL l i).length c2 (pathL l i) :: L) := by
 refine Ctr.enter (vs := [.slice a m c, vI i]) (m := 51) Tryd.func17 rfl rfl rfl ?_
 unfold Tab at hT
 refine SG.fact (fun w hs => Sep.slArr hs hm) fun h32 => ?_
 refine SG.sl hm fun hn hc hc63 => ?_
 subst hn
 refine SG.seq ?_
 refine SG.region ?_
 refine RL.val (Wanted.free rfl) (V.assign rfl rfl) rfl ?_
 refine RL.val (Wanted.free rfl) (V.assign rfl rfl) rfl ?_
 refine RL.nil ?_
 refine SG.seq ?_
 refine SG.seq ?_
 refine SG.region ?_
 refine RL.val (Wanted.free rfl) (V.move rfl rfl) rfl ?_
 refine RL.cmp (Wanted.free rfl) (V.bin rfl rfl rfl B.lss) rfl (fun h4 => ?_) (fun h4 => ?_)
 ·
  refine RL.val (Wanted.free rfl) (V.move rfl rfl) rfl ?_
  refine RL.skip (Wanted.no rfl rfl rfl rfl rfl) rfl ?_
  refine RL.skip (Wanted.no rfl rfl rfl rfl rfl) rfl ?_
  refine RL.skip (Wanted.no rfl rfl rfl rfl rfl) rfl ?_
  refine RL.skip (Wanted.no rfl rfl rfl rfl rfl) rfl ?_
  refine RL.val (Wanted.free rfl) (V.pick_true rfl rfl rfl) rfl ?_
  refine RL.nil ?_
  refine SG.cond_true rfl ?_
  refine SG.seq ?_
  refine SG.region ?_
  refine RL.val (Wanted.free rfl) (V.assign rfl rfl) rfl ?_
  refine RL.val (Wanted.free rfl) (V.assign rfl rfl) rfl ?_
  refine RL.nil ?_
  obtain ⟨hb1, hb2⟩ := pathL_bad (l := l) (i := i) (by omega)
  refine SG.ent (Sl.nil (T := RArr8 32)) ?_
  refine SG.retE (Ret.r2 Tryd.func17 rfl (.tmp rfl) (.tmp rfl)) ?_ ⟨none, 0, by first | (rw [hb1, hb2]; done) | (rw [hb1, hb2]; rfl), by first | (rw [hb2]; done) | (rw [hb2]; rfl)⟩
  exact entX
 ·
  refine RL.val (Wanted.free rfl) (V.move rfl rfl) rfl ?_
  refine RL.val (Wanted.yes rfl rfl rfl rfl) (V.move rfl rfl) rfl ?_
  refine RL.val (Wanted.yes rfl rfl rfl rfl) (V.move rfl rfl) rfl ?_
  refine RL.val (Wanted.yes rfl rfl rfl rfl) (V.len rfl rfl el22.under rfl) rfl ?_
  refine RL.cmp (Wanted.yes rfl rfl rfl rfl) (V.bin rfl rfl rfl B.geq) rfl (fun h12 => ?_) (fun h12 => ?_)
  ·
   refine RL.val (Wanted.free rfl) (V.pick_false rfl rfl rfl) rfl ?_
   refine RL.nil ?_
   refine SG.cond_true rfl ?_
   refine SG.seq ?_
   refine SG.region ?_
   refine RL.val (Wanted.free rfl) (V.assign rfl rfl) rfl ?_
   refine RL.val (Wanted.free rfl) (V.assign rfl rfl) rfl ?_
   refine RL.nil ?_
   obtain ⟨hb1, hb2⟩ := pathL_bad (l := l) (i := i) (by omega)
   refine SG.ent (Sl.nil (T := RArr8 32)) ?_
   refine SG.retE (Ret.r2 Tryd.func17 rfl (.tmp rfl) (.tmp rfl)) ?_ ⟨none, 0, by first | (rw [hb1, hb2]; done) | (rw [hb1, hb2]; rfl), by first | (rw [hb2]; done) | (rw [hb2]; rfl)⟩
   exact entX
  ·
   refine RL.val (Wanted.free rfl) (V.pick_false rfl rfl rfl) rfl ?_
   refine RL.nil ?_
   refine SG.cond_false rfl ?_
   refine SG.skip ?_
   refine SG.seq ?_
   obtain ⟨q, rfl⟩ := Int.eq_ofNat_of_zero_le (show 0 ≤ i by omega)
   obtain ⟨hg1, hg2⟩ := pathL_ok (l := l) (i := q) (by omega)
   have hpl := path_len _ l q (Nat.le_refl _)
   refine SG.ent (Buf.nil (T := RArr8 32) (e := 25)) ?_
   refine SG.region ?_
   refine RL.val (Wanted.free rfl) (V.assign rfl rfl) rfl ?_
   refine RL.nil ?_
   refine SG.seq ?_
   refine SG.block ?_
   refine SG.weaken (SG.loop2 (fun m0 al M => ∃ (t : List Hs) (at_ : Option Addr) (mt ct j : Nat) (out : List Hs) (a6 : Option Addr) (c6 : Nat), t.length = mt ∧ j < mt ∧ mt ≤ 65536 ∧ (∀ x ∈ t, x.length = 32) ∧ out ++ (pathV t j).reverse = (pathV l q).reverse ∧ m0 = mt + 1 ∧ al = [(0, .slice at_ mt ct), (1, vI (j : Int)), (6, .slice a6 out.length c6)] ∧ M = Sl (RArr8 32) at_ mt ct t :: Buf (RArr8 32) 25 a6 (out).length c6 (out) :: L) (m0 := _) ⟨l, a, l.length, c, q, [], none, 0, rfl, by omega, by omega, h32, by simp, rfl, rfl, rfl⟩ ?_) ?_ ?_
   rotate_left
   ·
    repeat (first | exact EnvLe.nil _ | refine EnvLe.cons rfl ?_)
   ·
    exact entX
   rintro _ _ _ ⟨t, at_, mt, ct, j, out, a6, c6, hml, hj, hmb, ht32, hpe, rfl, rfl, rfl⟩ ih0
   refine SG.seq ?_
   refine SG.seq ?_
   refine SG.region ?_
   refine RL.val (Wanted.free rfl) (V.move rfl rfl) rfl ?_
   refine RL.val (Wanted.free rfl) (V.len rfl rfl el22.under rfl) rfl ?_
   refine RL.cmp (Wanted.free rfl) (V.bin rfl rfl rfl B.gtr) rfl (fun h18 => ?_) (fun h18 => ?_)
   ·
    refine RL.nil ?_
    refine SG.cond_true rfl ?_
    refine SG.skip ?_
    refine SG.block ?_
    refine SG.seq ?_
    obtain ⟨k, hk⟩ : ∃ k, spl t.length = k := ⟨_, rfl⟩
    have hk1 := spl_lt (n := t.length) (by omega)
    have hk2 := spl_pos t.length
    rw [hk] at hk1 hk2
    have hol := congrArg List.length hpe
    simp only [List.length_append, List.length_reverse] at hol
    refine SG.sl (T := RArr8 32) (a := at_) memX fun hmt hct hct63 => ?_
    refine SG.region ?_
    refine RL.val (Wanted.free rfl) (V.move rfl rfl) rfl ?_
    refine RL.val (Wanted.free rfl) (V.len rfl rfl el22.under rfl) rfl ?_
    refine RL.eff (Wanted.free rfl) (E.call rfl go46 rfl (split_ok (n := mt) (by omega) (by omega))) rfl ?_
    rintro _ _ ⟨rfl, rfl⟩
    rw [show spl mt = k from by rw [← hml]; exact hk]
    refine RL.val (Wanted.free rfl) (V.assign rfl rfl) rfl ?_
    refine RL.nil ?_
    refine SG.seq ?_
    refine SG.region ?_
    refine RL.val (Wanted.free rfl) (V.move rfl rfl) rfl ?_
    refine RL.val (Wanted.free rfl) (V.move rfl rfl) rfl ?_
    refine RL.cmp (Wanted.free rfl) (V.bin rfl rfl rfl B.lss) rfl (fun h25 => ?_) (fun h25 => ?_)
    ·
     refine RL.nil ?_
     refine SG.cond_true rfl ?_
     refine SG.seq ?_
     refine SG.cut (T := RArr8 32) (lo := k) (hi := mt) (l' := t.drop (k)) (a := at_) (l := t) memX (by omega) (by omega) (List.take_of_length_le (by rw [List.length_drop]; omega)) ?_
     refine SG.cut (T := RArr8 32) (lo := 0) (hi := k) (l' := t.take (k)) (a := at_) (l := t) memX (by omega) (by omega) (by rw [List.drop_zero, Nat.sub_zero]) ?_
     have h32y : (rootV (t.drop k)).length = 32 := (root_len (fun x hx => ht32 x (List.mem_of_mem_drop hx)))
     have hnew : out ++ [rootV (t.drop k)] ++ (pathV (t.take k) j).reverse = (pathV l q).reverse := by rw [← hpe, path_lo (l := t) (by omega) (by rw [hk]; omega), hk, List.reverse_append]; simp
     refine SG.region ?_
     refine RL.val (Wanted.free rfl) (V.move rfl rfl) rfl ?_
     refine RL.val (Wanted.free rfl) (V.move rfl rfl) rfl ?_
     refine RL.val (Wanted.free rfl) (V.move rfl rfl) rfl ?_
     refine RL.val (Wanted.free rfl) (V.slice (T := RArr8 32) (lo := k) (hi := mt) rfl el22.slice rfl ⟨_, _, rfl, (by first | rfl | omega)⟩ rfl (by omega) (by omega)) rfl ?_
     refine RL.eff (Wanted.free rfl) (E.call rfl go13 rfl (root_ok (l := t.drop k) memX (by unfold Tab; repeat (first | exact List.Mem.head _ | assumption | apply List.Mem.tail)) (by rw [List.length_drop]; omega))) rfl ?_
     rintro _ _ ⟨rfl, rfl⟩
     refine RL.eff (Wanted.free rfl) (E.lit1 ((rootV (t.drop k)).map v8) rfl el22.slice ze25 (by simp) (by decide) (by decide) rfl rfl (by rw [List.length_map]; exact h32y)) rfl ?_
     rintro _ _ ⟨b30, rfl, rfl⟩
     refine RL.eff (Wanted.free rfl) (E.append (T := (RArr8 32)) rfl rfl rfl el22 el22.noInt rfl rfl pickX (Src.litDt (y := rootV (t.drop k)) pickX rfl h32y) (by first | omega | (simp; omega)) (by first | omega | (simp; omega))) rfl ?_
     intro _ _ hK32
     try rw [List.nil_append] at hK32
     try rw [Nat.zero_add] at hK32
     obtain ⟨a31, c31, rfl, rfl⟩ := hK32
     refine RL.val (Wanted.free rfl) (V.assign rfl rfl) rfl ?_
     refine RL.nil ?_
     refine SG.region ?_
     refine RL.val (Wanted.free rfl) (V.move rfl rfl) rfl ?_
     refine RL.val (Wanted.free rfl) (V.move rfl rfl) rfl ?_
     refine RL.val (Wanted.free rfl) (V.slice (T := RArr8 32) (lo := 0) (hi := k) rfl el22.slice rfl rfl ⟨_, _, rfl, (by first | rfl | omega)⟩ (by omega) (by omega)) rfl ?_
     refine RL.val (Wanted.free rfl) (V.assign rfl rfl) rfl ?_
     refine RL.nil ?_
     refine SG.inBlock ?_
     refine SG.weaken (ih0 _ _ _ ?_ ⟨t.take k, cutA at_ 0 (RArr8 32).sz ct, k - 0, ct - 0, j, out ++ [rootV (t.drop k)], a31, c31, by rw [List.length_take]; omega, by omega, by omega, fun x hx => ht32 x (List.mem_of_mem_take hx), hnew, rfl, rfl, rfl⟩) ?_ ?_
     ·
      omega
     ·
      rw [List.length_append]
      repeat (first | exact EnvLe.nil _ | refine EnvLe.cons rfl ?_)
     ·
      rw [List.length_append]
      exact entX
    ·
     refine RL.nil ?_
     refine SG.cond_false rfl ?_
     refine SG.seq ?_
     refine SG.cut (T := RArr8 32) (lo := k) (hi := mt) (l' := t.drop (k)) (a := at_) (l := t) memX (by omega) (by omega) (List.take_of_length_le (by rw [List.length_drop]; omega)) ?_
     refine SG.cut (T := RArr8 32) (lo := 0) (hi := k) (l' := t.take (k)) (a := at_) (l := t) memX (by omega) (by omega) (by rw [List.drop_zero, Nat.sub_zero]) ?_
     have h32y : (rootV (t.take k)).length = 32 := (root_len (fun x hx => ht32 x (List.mem_of_mem_take hx)))
     have hnew : out ++ [rootV (t.take k)] ++ (pathV (t.drop k) (j - k)).reverse = (pathV l q).reverse := by rw [← hpe, path_hi (l := t) (by omega) (by rw [hk]; omega), hk, List.reverse_append]; simp
     refine SG.region ?_
     refine RL.val (Wanted.free rfl) (V.move rfl rfl) rfl ?_
     refine RL.val (Wanted.free rfl) (V.move rfl rfl) rfl ?_
     refine RL.val (Wanted.free rfl) (V.move rfl rfl) rfl ?_
     refine RL.val (Wanted.free rfl) (V.slice (T := RArr8 32) (lo := 0) (hi := k) rfl el22.slice rfl rfl ⟨_, _, rfl, (by first | rfl | omega)⟩ (by omega) (by omega)) rfl ?_
     refine RL.eff (Wanted.free rfl) (E.call rfl go13 rfl (root_ok (l := t.take k) memX (by unfold Tab; repeat (first | exact List.Mem.head _ | assumption | apply List.Mem.tail)) (by rw [List.length_take]; omega))) rfl ?_
     rintro _ _ ⟨rfl, rfl⟩
     refine RL.eff (Wanted.free rfl) (E.lit1 ((rootV (t.take k)).map v8) rfl el22.slice ze25 (by simp) (by decide) (by decide) rfl rfl (by rw [List.length_map]; exact h32y)) rfl ?_
     rintro _ _ ⟨b40, rfl, rfl⟩
     refine RL.eff (Wanted.free rfl) (E.append (T := (RArr8 32)) rfl rfl rfl el22 el22.noInt rfl rfl pickX (Src.litDt (y := rootV (t.take k)) pickX rfl h32y) (by first | omega | (simp; omega)) (by first | omega | (simp; omega))) rfl ?_
     intro _ _ hK44
     try rw [List.nil_append] at hK44
     try rw [Nat.zero_add] at hK44
     obtain ⟨a41, c41, rfl, rfl⟩ := hK44
     refine RL.val (Wanted.free rfl) (V.assign rfl rfl) rfl ?_
     refine RL.nil ?_
     refine SG.region ?_
     refine RL.val (Wanted.free rfl) (V.move rfl rfl) rfl ?_
     refine RL.val (Wanted.free rfl) (V.move rfl rfl) rfl ?_
     refine RL.val (Wanted.free rfl) (V.slice (T := RArr8 32) (lo := k) (hi := mt) rfl el22.slice rfl ⟨_, _, rfl, (by first | rfl | omega)⟩ rfl (by omega) (by omega)) rfl ?_
     refine RL.val (Wanted.free rfl) (V.move rfl rfl) rfl ?_
     refine RL.val (Wanted.free rfl) (V.move rfl rfl) rfl ?_
     refine RL.val (Wanted.free rfl) (V.bin rfl rfl rfl (B.subI (by omega) (by omega))) rfl ?_
     rw [show (j : Int) - (k : Int) = ((j - k : Nat) : Int) from by omega]
     refine RL.val (Wanted.free rfl) (V.assign rfl rfl) rfl ?_
     refine RL.val (Wanted.free rfl) (V.assign rfl rfl) rfl ?_
     refine RL.nil ?_
     refine SG.inBlock ?_
     refine SG.weaken (ih0 _ _ _ ?_ ⟨t.drop k, cutA at_ k (RArr8 32).sz ct, mt - k, ct - k, j - k, out ++ [rootV (t.take k)], a41, c41, by rw [List.length_drop]; omega, by omega, by omega, fun x hx => ht32 x (List.mem_of_mem_drop hx), hnew, rfl, rfl, rfl⟩) ?_ ?_
     ·
      omega
     ·
      rw [List.length_append]
      repeat (first | exact EnvLe.nil _ | refine EnvLe.cons rfl ?_)
     ·
      rw [List.length_append]
      exact entX
   ·
    refine RL.nil ?_
    refine SG.cond_false rfl ?_
    refine SG.exit rfl ?_
    refine SG.seq ?_
    rw [path_one (by omega), List.reverse_nil, List.append_nil] at hpe
    refine SG.fact (fun w hs => Sep.bufArr hs (a := a6) (l := out) pickX) fun ho32 => ?_
    have hol := congrArg List.length hpe
    rw [List.length_reverse] at hol
    refine SG.region ?_
    refine RL.val (Wanted.free rfl) (V.move rfl rfl) rfl ?_
    refine RL.eff (Wanted.free rfl) (E.call rfl go51 rfl (reverse_ok (l := out) ho32 pickX)) rfl ?_
    rintro _ _ ⟨rfl, rfl⟩
    rw [hol, hpe, List.reverse_reverse]
    refine RL.publish (T := RArr8 32) (a := a6) Pick.here ?_
    refine RL.nil ?_
    refine SG.seq ?_
    refine SG.region ?_
    refine RL.val (Wanted.free rfl) (V.move rfl rfl) rfl ?_
    refine RL.val (Wanted.free rfl) (V.assign rfl rfl) rfl ?_
    refine RL.val (Wanted.free rfl) (V.assign rfl rfl) rfl ?_
    refine RL.nil ?_
    refine SG.retE (Ret.r2 Tryd.func17 rfl (.tmp rfl) (.tmp rfl)) ?_ ⟨_, _, by rw [hg1, hg2], by rw [hg2]⟩
    exact entX

end Go.Proofs.YtcbloadpffjkiaaDoor
