/- Numbers, sectors, regions. -/
import Derived.Test.YtcbloadpffjkiaaDoorZDisk
import Derived.Test.YtcbloadpffjkiaaDoorZBack
import Derived.Test.YtcbloadpffjkiaaDoorZPlw
namespace Go.Proofs.YtcbloadpffjkiaaDoor
open Go.Wk Go.Wl Go.Dsk

section
variable {P : Program} {L L1 : List Assn} {e : TypeId} {a : Option Addr} {m c lo hi : Nat} {l : List UInt8}
theorem Src.bufCut (hp : Pick (Buf R8 e a m c l) L L1) (hlo : lo ≤ hi) (hhi : hi ≤ m) : Src P L R8 (.slice (cutA a lo 1 c) (hi - lo) (c - lo)) ((l.drop lo).take (hi - lo)) := fun z h H => by
  obtain ⟨h1, h2, z1, g1, g2, g3, g4, ⟨k1, k2, k3, k4⟩, _⟩ := hp z h H
  have hlen : ((l.drop lo).take (hi - lo)).length = hi - lo := by rw [List.length_take, List.length_drop]; omega
  by_cases h0 : hi - lo = 0
  · have e : (l.drop lo).take (hi - lo) = [] := by rw [h0]; rfl
    rw [e, h0]
    refine ⟨[], Rep.rows.nil R8 z, fun u hu => by simp at hu, fun w hz hh => ⟨fun k hk => ?_, by simp [Builtin.lenOf]⟩⟩
    simp at hk; subst hk
    cases cutA a lo 1 c with
    | none => simp [Builtin.firstCells]
    | some p => simp [Builtin.firstCells, loadCells, loadCellsFrom]
  rcases k4 with ⟨rfl, rfl, rfl⟩ | ⟨b, pre, cs, rest, fz, rfl, hb, hf, hr, hl⟩
  · omega
  · obtain ⟨rfl, _⟩ := rows_sc.1 hr
    have e : cutA (some ⟨b, pre.length, none⟩) lo 1 c = some ⟨b, pre.length + lo, none⟩ := by simp [cutA, addr_add]; omega
    rw [e]
    refine ⟨((l.drop lo).take (hi - lo)).map v8, rows_sc.2 ⟨rfl, fun _ _ => trivial⟩, fun u hu => by obtain ⟨x, _, rfl⟩ := List.mem_map.1 hu; rfl, fun w hz hh => ⟨fun k hk => ?_, by simp [Builtin.lenOf, hlen]⟩⟩
    have hrow : Row h1 b pre.length (l.map v8) := fun i u hu => by
      have hi : i < (l.map v8).length := (List.getElem?_eq_some_iff.1 hu).1
      simp only [cellAt, hb]
      simp only [List.getElem?_toArray]
      rw [List.getElem?_append_right (by omega), Nat.add_sub_cancel_left, List.getElem?_append_left hi, hu]
    have hsub := hrow.sub lo (hi - lo)
    have hmap : ((l.drop lo).take (hi - lo)).map v8 = ((l.map v8).drop lo).take (hi - lo) := by rw [List.map_take, List.map_drop]
    rw [hmap]
    exact run_firstCells_row (g3.trans hh) hsub (by rw [← hmap, List.length_map]; have hsz : R8.sz = 1 := rfl; rw [hsz]; omega)
end
theorem leb_snoc : ∀ (k n : Nat), leb (k + 1) n = leb k n ++ [UInt8.ofNat (n / 256 ^ k)]
  | 0, n => by simp [leb]
  | k + 1, n => by
    rw [leb, leb_snoc k (n / 256), leb, Nat.div_div_eq_div_mul, Nat.pow_succ, Nat.mul_comm 256]; rfl
theorem sec_copy {l : List UInt8} (h : l.length ≤ 64) : l.take (min l.length 64) ++ (List.replicate 64 (0 : UInt8)).drop (min l.length 64) = sec l := by
  rw [Nat.min_eq_left h, List.take_of_length_le (Nat.le_refl _), List.drop_replicate, sec, List.take_append, List.take_of_length_le h, List.take_replicate]
  congr 2; omega
theorem byte_of {x : UInt64} {n : Nat} (h : x.toNat = n) : UInt8.ofNat ((x.toNat : Int) % 256).toNat = UInt8.ofNat n := by
  rw [h]; apply UInt8.toNat_inj.1; rw [UInt8.toNat_ofNat', UInt8.toNat_ofNat']; omega

set_option maxRecDepth 100000 in
set_option maxHeartbeats 1000000 in
theorem number_ok {κ : World} {L : List Assn} {L1 : List Assn} {a : Option Addr} {m c : Nat} {l : List UInt8} (n : UInt64) {k : Nat} (hp : Pick (Buf R8 5 a m c l) L L1) (hm : m ≤ 1000000000) (hk : k ≤ 8) :
    Ctr Tryd.prog 69 #[.slice a m c, v64 n, vI k] κ L (fun v M => ∃ a' c', v = .slice a' (m + k) c' ∧ M = Buf R8 5 a' (m + k) c' (l ++ leb k n.toNat) :: L1) := by
 refine Ctr.enter (vs := [.slice a m c, v64 n, vI k]) (m := 19) Tryd.func69 rfl rfl rfl ?_
 refine SG.ent hp ?_
 refine SG.seq ?_
 refine SG.region ?_
 refine RL.val (Wanted.free rfl) (V.assign rfl rfl) rfl ?_
 refine RL.nil ?_
 refine SG.seq ?_
 refine SG.seq ?_
 refine SG.region ?_
 refine RL.val (Wanted.free rfl) (V.move rfl rfl) rfl ?_
 refine RL.val (Wanted.free rfl) (V.move rfl rfl) rfl ?_
 refine RL.nil ?_
 refine SG.block ?_
 refine SG.weaken (SG.loop2 (fun m0 al M => ∃ (i : Nat) (x : UInt64) (a2 : Option Addr) (c2 : Nat), i ≤ k ∧ x.toNat = n.toNat / 256 ^ i ∧ m0 = k - i ∧ al = [(0, .slice a2 (m + i) c2), (1, v64 x), (7, vI k), (8, vI i)] ∧ M = Buf R8 5 a2 (m + i) c2 (l ++ leb i n.toNat) :: L1) (m0 := _) ⟨0, n, a, c, by omega, by simp, rfl, rfl, rfl⟩ ?_) ?_ ?_
 rotate_left
 ·
  repeat (first | exact EnvLe.nil _ | refine EnvLe.cons rfl ?_)
 ·
  rw [show leb 0 n.toNat = [] from rfl, List.append_nil, Nat.add_zero]
  exact entX
 rintro _ _ _ ⟨i, x, a3, c3, hi, hx, rfl, rfl, rfl⟩ ih0
 refine SG.seq ?_
 refine SG.region ?_
 refine RL.cmp (Wanted.free rfl) (V.bin rfl rfl rfl B.lss) rfl (fun h4 => ?_) (fun h4 => ?_)
 ·
  refine RL.nil ?_
  refine SG.seq ?_
  refine SG.cond_true rfl ?_
  refine SG.skip ?_
  refine SG.seq ?_
  refine SG.block ?_
  refine SG.seq ?_
  refine SG.region ?_
  refine RL.val (Wanted.free rfl) (V.move rfl rfl) rfl ?_
  refine RL.val (Wanted.free rfl) (V.move rfl rfl) rfl ?_
  refine RL.val (Wanted.free rfl) (V.to8 rfl ⟨_, ui99⟩ ui5 rfl) rfl ?_
  rw [byte_of hx]
  refine RL.eff (Wanted.free rfl) (E.lit1 _ rfl el62.slice ze5 rfl (by decide) (by decide) rfl rfl rfl) rfl ?_
  rintro _ _ ⟨b8, rfl, rfl⟩
  refine RL.eff (Wanted.free rfl) (E.append (T := R8) rfl rfl rfl el62 el62.noInt rfl rfl pickX (Src.lit (x := (UInt8.ofNat (n.toNat / 256 ^ i))) pickX (by first | trivial | assumption | omega)) (by first | omega | (simp; omega)) (by first | omega | (simp; omega))) rfl ?_
  intro _ _ hK9
  try rw [List.nil_append] at hK9
  try rw [Nat.zero_add] at hK9
  rw [List.append_assoc, ← leb_snoc] at hK9
  obtain ⟨a2, c2, rfl, rfl⟩ := hK9
  refine RL.val (Wanted.free rfl) (V.assign rfl rfl) rfl ?_
  refine RL.nil ?_
  refine SG.region ?_
  refine RL.val (Wanted.free rfl) (V.move rfl rfl) rfl ?_
  refine RL.val (Wanted.free rfl) (V.bin rfl rfl rfl (B.shr64 256 (by decide) (by decide))) rfl ?_
  refine RL.val (Wanted.free rfl) (V.assign rfl rfl) rfl ?_
  refine RL.nil ?_
  refine SG.inBlock ?_
  refine SG.region ?_
  refine RL.val (Wanted.free rfl) (V.bin rfl rfl rfl (B.addI (by omega) (by omega))) rfl ?_
  refine RL.val (Wanted.free rfl) (V.move rfl rfl) rfl ?_
  refine RL.nil ?_
  refine SG.weaken (ih0 _ _ _ ?_ ⟨i + 1, x / 256, a2, c2, by omega, by rw [UInt64.toNat_div, hx, Nat.div_div_eq_div_mul, Nat.pow_succ]; rfl, rfl, rfl, rfl⟩) ?_ ?_
  ·
   omega
  ·
   repeat (first | exact EnvLe.nil _ | refine EnvLe.cons rfl ?_)
  ·
   exact entX
 ·
  refine RL.nil ?_
  refine SG.seq ?_
  refine SG.cond_false rfl ?_
  refine SG.exit rfl ?_
  refine SG.seq ?_
  refine SG.region ?_
  refine RL.val (Wanted.free rfl) (V.move rfl rfl) rfl ?_
  refine RL.val (Wanted.free rfl) (V.assign rfl rfl) rfl ?_
  refine RL.nil ?_
  obtain rfl : i = k := by omega
  refine SG.retE (Ret.r1 Tryd.func69 rfl (.tmp rfl)) ?_ ⟨_, _, rfl, rfl⟩
  exact entX

set_option maxRecDepth 100000 in
set_option maxHeartbeats 1000000 in
theorem sector_ok {κ : World} {L : List Assn} {a : Option Addr} {m c : Nat} {l : List UInt8} (hsrc : Src Tryd.prog L R8 (.slice a m c) l) (hl : l.length ≤ 64) :
    Ctr Tryd.prog 65 #[.slice a m c] κ L (fun v M => ∃ a' c', v = .slice a' 64 c' ∧ M = Buf R8 5 a' 64 c' (sec l) :: L) := by
 refine Ctr.enter (vs := [.slice a m c]) (m := 9) Tryd.func65 rfl rfl rfl ?_
 refine SG.seq ?_
 refine SG.region ?_
 refine RL.val (Wanted.free rfl) (V.assign rfl rfl) rfl ?_
 refine RL.nil ?_
 refine SG.seq ?_
 refine SG.region ?_
 refine RL.eff (Wanted.free rfl) (E.make (T := R8) (m := 64) (z0 := .int .u8 0) (x0 := 0) rfl el62 ze5 rfl rfl rfl (by decide) (by decide) (fun _ => ⟨rfl, trivial⟩)) rfl ?_
 rintro _ _ ⟨b4, rfl, rfl⟩
 refine RL.val (Wanted.free rfl) (V.assign rfl rfl) rfl ?_
 refine RL.nil ?_
 refine SG.seq ?_
 refine SG.region ?_
 refine RL.val (Wanted.free rfl) (V.move rfl rfl) rfl ?_
 refine RL.val (Wanted.free rfl) (V.move rfl rfl) rfl ?_
 refine RL.eff (Wanted.free rfl) (E.copyBuf (l := List.replicate 64 0) (l2 := l) rfl rfl rfl el62 rfl rfl pickX (hsrc.weaken (Ent.drop _ _))) rfl ?_
 rintro _ _ ⟨rfl, rfl⟩
 rw [sec_copy hl]
 refine RL.nil ?_
 refine SG.seq ?_
 refine SG.region ?_
 refine RL.val (Wanted.free rfl) (V.move rfl rfl) rfl ?_
 refine RL.val (Wanted.free rfl) (V.assign rfl rfl) rfl ?_
 refine RL.nil ?_
 refine SG.retE (Ret.r1 Tryd.func65 rfl (.tmp rfl)) ?_ ⟨_, _, rfl, rfl⟩
 exact entX

set_option maxRecDepth 100000 in
set_option maxHeartbeats 1000000 in
theorem check_ok {κ : World} {L : List Assn} {L1 : List Assn} {db : Nat} {D : Dk} {m0 : Nat} (hD : D.ok m0) (hp : Pick (Dsk db D) L L1) {f n : Int} (_ : inInt f) (_ : inInt n) :
    Ctr Tryd.prog 63 #[ptr db 0, vI f, vI n] κ L (fun v M => v = vI (checkV D f n) ∧ M = Dsk db D :: L1) := by
 refine Ctr.enter (vs := [ptr db 0, vI f, vI n]) (m := 30) Tryd.func63 rfl rfl rfl ?_
 refine SG.ent hp ?_
 have hlen := hD.len
 refine SG.seq ?_
 refine SG.region ?_
 refine RL.val (Wanted.free rfl) (V.assign rfl rfl) rfl ?_
 refine RL.nil ?_
 refine SG.seq ?_
 refine SG.seq ?_
 refine SG.region ?_
 refine RL.val (Wanted.free rfl) (V.move rfl rfl) rfl ?_
 refine RL.cmp (Wanted.free rfl) (V.bin rfl rfl rfl B.lss) rfl (fun h3 => ?_) (fun h3 => ?_)
 ·
  refine RL.val (Wanted.free rfl) (V.move rfl rfl) rfl ?_
  refine RL.skip (Wanted.no rfl rfl rfl rfl rfl) rfl ?_
  refine RL.skip (Wanted.no rfl rfl rfl rfl rfl) rfl ?_
  refine RL.val (Wanted.free rfl) (V.pick_true rfl rfl rfl) rfl ?_
  refine RL.val (Wanted.free rfl) (V.move rfl rfl) rfl ?_
  refine RL.skip (Wanted.no rfl rfl rfl rfl rfl) rfl ?_
  refine RL.skip (Wanted.no rfl rfl rfl rfl rfl) rfl ?_
  refine RL.skip (Wanted.no rfl rfl rfl rfl rfl) rfl ?_
  refine RL.skip (Wanted.no rfl rfl rfl rfl rfl) rfl ?_
  refine RL.val (Wanted.free rfl) (V.pick_true rfl rfl rfl) rfl ?_
  refine RL.val (Wanted.free rfl) (V.move rfl rfl) rfl ?_
  refine RL.skip (Wanted.no rfl rfl rfl rfl rfl) rfl ?_
  refine RL.skip (Wanted.no rfl rfl rfl rfl rfl) rfl ?_
  refine RL.skip (Wanted.no rfl rfl rfl rfl rfl) rfl ?_
  refine RL.skip (Wanted.no rfl rfl rfl rfl rfl) rfl ?_
  refine RL.skip (Wanted.no rfl rfl rfl rfl rfl) rfl ?_
  refine RL.skip (Wanted.no rfl rfl rfl rfl rfl) rfl ?_
  refine RL.val (Wanted.free rfl) (V.pick_true rfl rfl rfl) rfl ?_
  refine RL.nil ?_
  refine SG.cond_true rfl ?_
  refine SG.seq ?_
  refine SG.region ?_
  refine RL.val (Wanted.free rfl) (V.assign rfl rfl) rfl ?_
  refine RL.nil ?_
  refine SG.retE (Ret.r1 Tryd.func63 rfl (.tmp rfl)) ?_ ⟨by unfold checkV; first | (rw [if_pos (by omega)]) | (rw [if_neg (by omega), if_pos hoff]) | (rw [if_neg (by omega), if_neg (by rw [hoff]; decide)]), rfl⟩
  exact entX
 ·
  refine RL.val (Wanted.free rfl) (V.move rfl rfl) rfl ?_
  refine RL.val (Wanted.yes rfl rfl rfl rfl) (V.move rfl rfl) rfl ?_
  refine RL.cmp (Wanted.yes rfl rfl rfl rfl) (V.bin rfl rfl rfl B.lss) rfl (fun h10 => ?_) (fun h10 => ?_)
  ·
   refine RL.val (Wanted.free rfl) (V.pick_false rfl rfl rfl) rfl ?_
   refine RL.val (Wanted.free rfl) (V.move rfl rfl) rfl ?_
   refine RL.skip (Wanted.no rfl rfl rfl rfl rfl) rfl ?_
   refine RL.skip (Wanted.no rfl rfl rfl rfl rfl) rfl ?_
   refine RL.skip (Wanted.no rfl rfl rfl rfl rfl) rfl ?_
   refine RL.skip (Wanted.no rfl rfl rfl rfl rfl) rfl ?_
   refine RL.val (Wanted.free rfl) (V.pick_true rfl rfl rfl) rfl ?_
   refine RL.val (Wanted.free rfl) (V.move rfl rfl) rfl ?_
   refine RL.skip (Wanted.no rfl rfl rfl rfl rfl) rfl ?_
   refine RL.skip (Wanted.no rfl rfl rfl rfl rfl) rfl ?_
   refine RL.skip (Wanted.no rfl rfl rfl rfl rfl) rfl ?_
   refine RL.skip (Wanted.no rfl rfl rfl rfl rfl) rfl ?_
   refine RL.skip (Wanted.no rfl rfl rfl rfl rfl) rfl ?_
   refine RL.skip (Wanted.no rfl rfl rfl rfl rfl) rfl ?_
   refine RL.val (Wanted.free rfl) (V.pick_true rfl rfl rfl) rfl ?_
   refine RL.nil ?_
   refine SG.cond_true rfl ?_
   refine SG.seq ?_
   refine SG.region ?_
   refine RL.val (Wanted.free rfl) (V.assign rfl rfl) rfl ?_
   refine RL.nil ?_
   refine SG.retE (Ret.r1 Tryd.func63 rfl (.tmp rfl)) ?_ ⟨by unfold checkV; first | (rw [if_pos (by omega)]) | (rw [if_neg (by omega), if_pos hoff]) | (rw [if_neg (by omega), if_neg (by rw [hoff]; decide)]), rfl⟩
   exact entX
  ·
   refine RL.val (Wanted.free rfl) (V.pick_false rfl rfl rfl) rfl ?_
   refine RL.val (Wanted.free rfl) (V.move rfl rfl) rfl ?_
   refine RL.val (Wanted.yes rfl rfl rfl rfl) (V.move rfl rfl) rfl ?_
   refine RL.val (Wanted.yes rfl rfl rfl rfl) (V.move rfl rfl) rfl ?_
   refine RL.eff (Wanted.yes rfl rfl rfl rfl) (E.call rfl go85 rfl (dLen_ok hD pickX)) rfl ?_
   rintro _ _ ⟨rfl, rfl⟩
   refine RL.cmp (Wanted.yes rfl rfl rfl rfl) (V.bin rfl rfl rfl B.gtr) rfl (fun h18 => ?_) (fun h18 => ?_)
   ·
    refine RL.val (Wanted.free rfl) (V.pick_false rfl rfl rfl) rfl ?_
    refine RL.val (Wanted.free rfl) (V.move rfl rfl) rfl ?_
    refine RL.skip (Wanted.no rfl rfl rfl rfl rfl) rfl ?_
    refine RL.skip (Wanted.no rfl rfl rfl rfl rfl) rfl ?_
    refine RL.skip (Wanted.no rfl rfl rfl rfl rfl) rfl ?_
    refine RL.skip (Wanted.no rfl rfl rfl rfl rfl) rfl ?_
    refine RL.skip (Wanted.no rfl rfl rfl rfl rfl) rfl ?_
    refine RL.skip (Wanted.no rfl rfl rfl rfl rfl) rfl ?_
    refine RL.val (Wanted.free rfl) (V.pick_true rfl rfl rfl) rfl ?_
    refine RL.nil ?_
    refine SG.cond_true rfl ?_
    refine SG.seq ?_
    refine SG.region ?_
    refine RL.val (Wanted.free rfl) (V.assign rfl rfl) rfl ?_
    refine RL.nil ?_
    refine SG.retE (Ret.r1 Tryd.func63 rfl (.tmp rfl)) ?_ ⟨by unfold checkV; first | (rw [if_pos (by omega)]) | (rw [if_neg (by omega), if_pos hoff]) | (rw [if_neg (by omega), if_neg (by rw [hoff]; decide)]), rfl⟩
    exact entX
   ·
    refine RL.val (Wanted.free rfl) (V.pick_false rfl rfl rfl) rfl ?_
    refine RL.val (Wanted.free rfl) (V.move rfl rfl) rfl ?_
    refine RL.val (Wanted.yes rfl rfl rfl rfl) (V.move rfl rfl) rfl ?_
    refine RL.val (Wanted.yes rfl rfl rfl rfl) (V.move rfl rfl) rfl ?_
    refine RL.eff (Wanted.yes rfl rfl rfl rfl) (E.call rfl go85 rfl (dLen_ok hD pickX)) rfl ?_
    rintro _ _ ⟨rfl, rfl⟩
    refine RL.val (Wanted.yes rfl rfl rfl rfl) (V.move rfl rfl) rfl ?_
    refine RL.val (Wanted.yes rfl rfl rfl rfl) (V.bin rfl rfl rfl (B.subI (by omega) (by omega))) rfl ?_
    refine RL.cmp (Wanted.yes rfl rfl rfl rfl) (V.bin rfl rfl rfl B.gtr) rfl (fun h27 => ?_) (fun h27 => ?_)
    ·
     refine RL.val (Wanted.free rfl) (V.pick_false rfl rfl rfl) rfl ?_
     refine RL.nil ?_
     refine SG.cond_true rfl ?_
     refine SG.seq ?_
     refine SG.region ?_
     refine RL.val (Wanted.free rfl) (V.assign rfl rfl) rfl ?_
     refine RL.nil ?_
     refine SG.retE (Ret.r1 Tryd.func63 rfl (.tmp rfl)) ?_ ⟨by unfold checkV; first | (rw [if_pos (by omega)]) | (rw [if_neg (by omega), if_pos hoff]) | (rw [if_neg (by omega), if_neg (by rw [hoff]; decide)]), rfl⟩
     exact entX
    ·
     refine RL.val (Wanted.free rfl) (V.pick_false rfl rfl rfl) rfl ?_
     refine RL.nil ?_
     refine SG.cond_false rfl ?_
     refine SG.skip ?_
     refine SG.seq ?_
     refine SG.seq ?_
     refine SG.region ?_
     refine RL.val (Wanted.free rfl) (V.move rfl rfl) rfl ?_
     refine RL.eff (Wanted.free rfl) (E.call rfl go35 rfl (dOn_ok hD pickX)) rfl ?_
     rintro _ _ ⟨rfl, rfl⟩
     refine RL.val (Wanted.free rfl) (V.not rfl rfl) rfl ?_
     refine RL.nil ?_
     refine SG.cond rfl (fun h31 => ?_) (fun h31 => ?_)
     ·
      have hoff : D.off = true := by simpa using h31
      refine SG.seq ?_
      refine SG.region ?_
      refine RL.val (Wanted.free rfl) (V.assign rfl rfl) rfl ?_
      refine RL.nil ?_
      refine SG.retE (Ret.r1 Tryd.func63 rfl (.tmp rfl)) ?_ ⟨by unfold checkV; first | (rw [if_pos (by omega)]) | (rw [if_neg (by omega), if_pos hoff]) | (rw [if_neg (by omega), if_neg (by rw [hoff]; decide)]), rfl⟩
      exact entX
     ·
      have hoff : D.off = false := by simpa using h31
      refine SG.skip ?_
      refine SG.seq ?_
      refine SG.region ?_
      refine RL.val (Wanted.free rfl) (V.assign rfl rfl) rfl ?_
      refine RL.nil ?_
      refine SG.retE (Ret.r1 Tryd.func63 rfl (.tmp rfl)) ?_ ⟨by unfold checkV; first | (rw [if_pos (by omega)]) | (rw [if_neg (by omega), if_pos hoff]) | (rw [if_neg (by omega), if_neg (by rw [hoff]; decide)]), rfl⟩
      exact entX

end Go.Proofs.YtcbloadpffjkiaaDoor
