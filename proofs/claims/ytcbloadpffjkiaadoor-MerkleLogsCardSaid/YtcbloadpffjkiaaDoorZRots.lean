/- Rotations. -/
import Derived.Test.YtcbloadpffjkiaaDoorFacts
import Derived.Test.YtcbloadpffjkiaaDoorZPlm
namespace Go.Proofs.YtcbloadpffjkiaaDoor
open Go.Wk Go.Sha


/-- The table of the program, behind its global. -/
def Tab (L : List Assn) : Prop := At (some ⟨0, 0, none⟩) 0 (KK.map v32) ∈ L
theorem Tab.mono {A : Assn} {L : List Assn} (h : Tab L) : Tab (A :: L) := List.Mem.tail _ h
theorem Tab.mono2 {A B : Assn} {L : List Assn} (h : Tab L) : Tab (A :: B :: L) := h.mono.mono
theorem Tab.mono3 {A B C : Assn} {L : List Assn} (h : Tab L) : Tab (A :: B :: C :: L) := h.mono2.mono
theorem getD_some {α : Type} {l : List α} {j : Nat} (d : α) (h : j < l.length) : l[j]? = some (l.getD j d) := by
  rw [List.getElem?_eq_getElem h, List.getD_eq_getElem?_getD, List.getElem?_eq_getElem h]; rfl
/-- The array of the schedule after t words. -/
def wz (b : List UInt8) (t : Nat) : List UInt32 := ws b t ++ List.replicate (64 - t) 0
theorem wz_length {b : List UInt8} {t : Nat} (h : t ≤ 64) : (wz b t).length = 64 := by
  rw [wz, List.length_append, ws_length, List.length_replicate]; omega
theorem wz_full (b : List UInt8) : wz b 64 = ws b 64 := by simp [wz]
theorem wz_getD {b : List UInt8} {t j : Nat} (h : j < t) : (wz b t).getD j 0 = (ws b t).getD j 0 := by
  rw [wz, List.getD_eq_getElem?_getD, List.getD_eq_getElem?_getD, List.getElem?_append_left (by rw [ws_length]; exact h)]
/-- The array when the first t words stand, and word t is x. -/
def wx (b : List UInt8) (t : Nat) (x : UInt32) : List UInt32 := ws b t ++ x :: List.replicate (63 - t) 0
theorem wx_length {b : List UInt8} {t : Nat} {x : UInt32} (h : t < 64) : (wx b t x).length = 64 := by
  rw [wx, List.length_append, ws_length, List.length_cons, List.length_replicate]; omega
theorem wz_wx {b : List UInt8} {t : Nat} (h : t < 64) : wz b t = wx b t 0 := by
  rw [wz, wx, show 64 - t = (63 - t) + 1 from by omega, List.replicate_succ]
theorem wx_set {b : List UInt8} {t : Nat} {x y : UInt32} : (wx b t x).set t y = wx b t y := by
  rw [wx, wx, List.set_append_right _ _ (by rw [ws_length]; omega), ws_length, Nat.sub_self]; rfl
theorem wx_at {b : List UInt8} {t : Nat} {x : UInt32} : (wx b t x)[t]? = some x := by
  rw [wx, List.getElem?_append_right (by rw [ws_length]; omega), ws_length, Nat.sub_self]; rfl
theorem wx_get {b : List UInt8} {t j : Nat} {x : UInt32} (h : j < t) : (wx b t x)[j]? = some ((ws b t).getD j 0) := by
  rw [wx, List.getElem?_append_left (by rw [ws_length]; exact h)]
  exact getD_some 0 (by rw [ws_length]; exact h)
theorem wx_done {b : List UInt8} {t : Nat} {x : UInt32} (h : t < 64) (hx : x = nxt b (ws b t) t) : wx b t x = wz b (t + 1) := by
  rw [wx, wz, ws, push, hx, List.append_assoc, show 64 - (t + 1) = 63 - t from by omega]; rfl
theorem nxt_hi {b : List UInt8} {l : List UInt32} {t : Nat} (h : 16 ≤ t) : nxt b l t = l.getD (t - 16) 0 + s0 (l.getD (t - 15) 0) + l.getD (t - 7) 0 + s1 (l.getD (t - 2) 0) := by
  rw [nxt, if_neg (by omega)]
theorem nxt_lo {b : List UInt8} {l : List UInt32} {t : Nat} (h : t < 16) : nxt b l t = be ((b.drop (4 * t)).take 4) := by
  rw [nxt, if_pos h]
theorem be_step {l : List UInt8} {p k : Nat} (_ : k < 4) (h : k < ((l.drop p).take 4).length) : be ((l.drop p).take k) <<< 8 ||| (((l.drop p).take 4)[k]'h).toUInt32 = be ((l.drop p).take (k + 1)) := by
  have h2 : k < (l.drop p).length := by rw [List.length_take] at h; omega
  have e : ((l.drop p).take 4)[k]'h = (l.drop p)[k]'h2 := List.getElem_take
  have e2 : (l.drop p).take (k + 1) = (l.drop p).take k ++ [(l.drop p)[k]'h2] := by
    rw [List.take_add_one, List.getElem?_eq_getElem h2]; rfl
  rw [e, e2, be_snoc]
theorem Blk.eqw {b E : Nat} {l l' : List UInt32} {L : List Assn} (h : l = l') : Ent (Blk b E (l.map v32) :: L) (Blk b E (l'.map v32) :: L) := by subst h; exact Ent.refl _
/-- h after i of the sums. -/
def mix (h v : List UInt32) (i : Nat) : List UInt32 := (List.zipWith (· + ·) h v).take i ++ h.drop i
theorem mix_length {h v : List UInt32} {i : Nat} (hh : h.length = 8) (hv : v.length = 8) (hi : i ≤ 8) : (mix h v i).length = 8 := by
  rw [mix, List.length_append, List.length_take, List.length_zipWith, List.length_drop]; omega
theorem mix_step {h v : List UInt32} {i : Nat} (hh : h.length = 8) (hv : v.length = 8) (hi : i < 8) : (mix h v i).set i ((mix h v i).getD i 0 + v.getD i 0) = mix h v (i + 1) := by
  obtain ⟨a, b, c, d, e, f, g, j, rfl⟩ := eight hh
  obtain ⟨a', b', c', d', e', f', g', j', rfl⟩ := eight hv
  match i, hi with
  | 0, _ => rfl
  | 1, _ => rfl
  | 2, _ => rfl
  | 3, _ => rfl
  | 4, _ => rfl
  | 5, _ => rfl
  | 6, _ => rfl
  | 7, _ => rfl
theorem mix_all {h v : List UInt32} (hh : h.length = 8) (hv : v.length = 8) : mix h v 8 = List.zipWith (· + ·) h v := by
  rw [mix, List.drop_eq_nil_of_le (by omega), List.append_nil, List.take_of_length_le (by rw [List.length_zipWith]; omega)]
theorem take_all {l : List UInt32} {m : Nat} (h : l.length = m) : ((l.map v32).drop 0).take m = l.map v32 := by
  rw [List.drop_zero]; exact List.take_of_length_le (by rw [List.length_map]; omega)
theorem one32 (l : List UInt32) : ∀ u ∈ l.map v32, u.oneCell' = true := fun u hu => by
  obtain ⟨x, _, rfl⟩ := List.mem_map.1 hu; rfl
theorem u8to32 (c : UInt8) : UInt32.ofNat (((c.toNat : Int)) % 4294967296).toNat = c.toUInt32 := by
  apply UInt32.toNat_inj.1
  have := c.toNat_lt
  rw [UInt32.toNat_ofNat', UInt8.toNat_toUInt32]; omega

set_option maxRecDepth 100000 in
theorem rotl_ok {κ : World} {L : List Assn} {x r : UInt32} (h0 : 0 < r.toNat) (h1 : r.toNat < 32) (h2 : (32 - r : UInt32).toNat = 32 - r.toNat) (h3 : (UInt64.ofNat ((-(r.toNat : Int)) % 18446744073709551616).toNat &&& 31).toNat = 32 - r.toNat) (h4 : (32 - (UInt64.ofNat ((-(r.toNat : Int)) % 18446744073709551616).toNat &&& 31)).toNat = r.toNat) :
    Ctr Tryd.prog 95 #[v32 x, vI (-(r.toNat : Int))] κ L (fun v M => v = v32 (rotr x r) ∧ M = L) := by
 refine Ctr.enter (vs := [v32 x, vI (-(r.toNat : Int))]) (m := 17) Tryd.func95 rfl rfl rfl ?_
 refine SG.seq ?_
 refine SG.region ?_
 refine RL.val (Wanted.free rfl) (V.assign rfl rfl) rfl ?_
 refine RL.nil ?_
 refine SG.seq ?_
 refine SG.region ?_
 refine RL.val (Wanted.free rfl) (V.move rfl rfl) rfl ?_
 refine RL.val (Wanted.free rfl) (V.to64 rfl ⟨_, ui3⟩ ui124 rfl) rfl ?_
 refine RL.val (Wanted.free rfl) (V.bin rfl rfl rfl (B.and64 (y := 31))) rfl ?_
 refine RL.val (Wanted.free rfl) (V.assign rfl rfl) rfl ?_
 refine RL.nil ?_
 refine SG.seq ?_
 refine SG.region ?_
 refine RL.val (Wanted.free rfl) (V.move rfl rfl) rfl ?_
 refine RL.val (Wanted.free rfl) (V.move rfl rfl) rfl ?_
 refine RL.val (Wanted.free rfl) (V.bin rfl rfl rfl (B.shl32 (32 - r) (by omega) (by omega) (by omega))) rfl ?_
 refine RL.val (Wanted.free rfl) (V.move rfl rfl) rfl ?_
 refine RL.val (Wanted.free rfl) (V.move rfl rfl) rfl ?_
 refine RL.val (Wanted.free rfl) (V.bin rfl rfl rfl (B.sub64 (x := 32))) rfl ?_
 refine RL.val (Wanted.free rfl) (V.bin rfl rfl rfl (B.shr32 r (by omega) (by omega) (by omega))) rfl ?_
 refine RL.val (Wanted.free rfl) (V.bin rfl rfl rfl (B.or32)) rfl ?_
 refine RL.val (Wanted.free rfl) (V.assign rfl rfl) rfl ?_
 refine RL.nil ?_
 refine SG.retE (Ret.r1 Tryd.func95 rfl (.tmp rfl)) ?_ ⟨by rw [rotr_comm], rfl⟩
 exact entX

set_option maxRecDepth 100000 in
theorem rot_ok {κ : World} {L : List Assn} {x r : UInt32} (h0 : 0 < r.toNat) (h1 : r.toNat < 32) (h2 : (32 - r : UInt32).toNat = 32 - r.toNat) :
    Ctr Tryd.prog 99 #[v32 x, vI (r.toNat : Int)] κ L (fun v M => v = v32 (rotr x r) ∧ M = L) := by
 refine Ctr.enter (vs := [v32 x, vI (r.toNat : Int)]) (m := 13) Tryd.func99 rfl rfl rfl ?_
 refine SG.seq ?_
 refine SG.region ?_
 refine RL.val (Wanted.free rfl) (V.assign rfl rfl) rfl ?_
 refine RL.nil ?_
 refine SG.seq ?_
 refine SG.drawL 9 9 wide rfl rfl ?_
 refine RH.val 0 rfl krX krX krX krX (Wanted.free rfl) (V.move rfl rfl) rfl ?_
 refine RH.val 1 rfl krX krX krX krX (Wanted.free rfl) (V.move rfl rfl) rfl ?_
 refine RH.val 2 rfl krX krX krX krX (Wanted.free rfl) (V.bin rfl rfl rfl (B.shr32 r (by omega) (by omega) rfl)) rfl ?_
 refine RH.val 3 rfl krX krX krX krX (Wanted.free rfl) (V.move rfl rfl) rfl ?_
 refine RH.val 4 rfl krX krX krX krX (Wanted.free rfl) (V.move rfl rfl) rfl ?_
 refine RH.val 5 rfl krX krX krX krX (Wanted.free rfl) (V.bin rfl rfl rfl (B.subI (by omega) (by omega))) rfl ?_
 refine RH.val 6 rfl krX krX krX krX (Wanted.free rfl) (V.bin rfl rfl rfl (B.shl32 (32 - r) (by omega) (by omega) (by omega))) rfl ?_
 refine RH.val 7 rfl krX krX krX krX (Wanted.free rfl) (V.bin rfl rfl rfl (B.or32)) rfl ?_
 refine RH.val 8 rfl krX krX krX krX (Wanted.free rfl) (V.assign rfl rfl) rfl ?_
 refine RH.done krX ?_
 refine SG.retE (Ret.r1 Tryd.func99 rfl (.tmp rfl)) ?_ ⟨rfl, rfl⟩
 exact entX

end Go.Proofs.YtcbloadpffjkiaaDoor
