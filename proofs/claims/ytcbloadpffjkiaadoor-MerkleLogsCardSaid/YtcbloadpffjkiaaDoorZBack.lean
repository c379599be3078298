/- slices.Backward. -/
import Derived.Test.YtcbloadpffjkiaaDoorFacts
import Derived.Test.YtcbloadpffjkiaaDoorZPlw
import Derived.RangeFuncBox
import Derived.RangeFuncLeaves
import Derived.Shelf.Abstract
import Derived.OwnWalkIn
import Derived.TacticsInMore
import Derived.LoopNIn
import Derived.LoopIn
namespace Go.Proofs.YtcbloadpffjkiaaDoor
open Go.Wk Go.RowKit Go.Shelf Go.Wl

attribute [local go_sem] Oper.semAt_some
/-- What has come when k rounds are over. -/
def uptoW (zs : List UInt8) (k : Nat) : List (Int × UInt8) := (List.range k).map fun (j : Nat) => ((zs.length : Int) - 1 - j, zs[zs.length - 1 - j]?.getD 0)
theorem upto_succW (zs : List UInt8) (k : Nat) : uptoW zs (k + 1) = uptoW zs k ++ [((zs.length : Int) - 1 - k, zs[zs.length - 1 - k]?.getD 0)] := by simp [uptoW, List.range_succ]
theorem upto_lengthW (zs : List UInt8) (k : Nat) : (uptoW zs k).length = k := by simp [uptoW]
def KbW (n₀ Bs : Nat) (W W' : World) : Prop := Below n₀ W W' ∧ W'.heap[Bs]? = W.heap[Bs]?
theorem KbW.refl (n₀ Bs : Nat) (W : World) : KbW n₀ Bs W W := ⟨Below.refl _ _, rfl⟩
theorem KbW.trans {n₀ Bs : Nat} {A B C : World} (h : KbW n₀ Bs A B) (k : KbW n₀ Bs B C) : KbW n₀ Bs A C := ⟨h.1.trans k.1, k.2.trans h.2⟩
theorem kb_bW {n₀ Bs : Nat} {w : World} (hn : n₀ ≤ w.heap.size) (hB : Bs < w.heap.size) (W : World) (l : Nat) (o o' : Obj) (hl : w.heap.size ≤ l) (h : W.heap[l]? = some o) (h1 : o.isCells = false) (h2 : o.isWalk = false) : KbW n₀ Bs W (W.putObj l o') :=
  ⟨belowK_b hn W l o o' hl h h1 h2, (belowK_b (Nat.le_refl _) W l o o' hl h h1 h2).block Bs hB⟩
set_option maxRecDepth 100000 in
set_option maxHeartbeats 2000000 in
theorem back1_inW (F : Fence) (n : Nat) (h7 : F.fn 96) (hro : F.round = none) (hn : 1 ≤ n) (l Bs n₀ b off cap : Nat) (zs : List UInt8) (hreach : zs.length ≤ 9000000000) (hb : b < n₀) (J Jx : List (Int × UInt8) → World → Prop)
    (hY : ∀ pre x W, J pre W → pre.length < zs.length → YieldAt F (n - 1) Tryd.prog l #[.int .i64 x.1, .int .u8 (x.2.toNat : Int)] W fun e W' =>
      (e = .returned (.bool true) ∧ J (pre ++ [x]) W' ∧ KbW n₀ Bs W W') ∨ (e = .returned (.bool false) ∧ Jx (pre ++ [x]) W'))
    (W : World) (hBs : W.cell? ⟨Bs, 0, none⟩ = some (.slice (some ⟨b, off, none⟩) zs.length cap)) (hc : ∀ j, j < zs.length → W.cell? ⟨b, off + j, none⟩ = some (.int .u8 ((zs[j]?.getD 0).toNat : Int))) (h0 : J [] W) :
    CallsIn F n Tryd.prog 96 #[.func (.yield l) #[] #[], .pointer (some ⟨Bs, 0, none⟩)] W fun e W' => (∃ v, e = .returned v) ∧
      ((∃ ys, ys = uptoW zs zs.length ∧ J ys W') ∨ (∃ pre, (∃ k, k ≤ zs.length ∧ pre = uptoW zs k) ∧ Jx pre W')) := by
  refine callsIn_of_wp Tryd.func96 rfl h7 ?_ hro
  simp only [Tryd.ntmps96, List.size_toArray, List.length_cons, List.length_nil, Nat.reduceAdd, Nat.reduceSub, Array.replicate_succ, Array.replicate_zero, List.push_toArray, List.append_toArray, List.nil_append, List.cons_append]
  gi_wp2
  gi_loopw [3] (fun i wr => ∃ k : Nat, k ≤ zs.length ∧ i = .int .i64 ((zs.length : Int) - 1 - k) ∧ J (uptoW zs k) wr ∧ KbW n₀ Bs W wr)
    (fun i _ => (intOf i + 1).toNat)
  case atStart => exact ⟨0, Nat.zero_le _, by simp, h0, KbW.refl _ _ _⟩
  case round =>
    obtain ⟨k, hk, rfl, hJs, hnx⟩ := hrel
    have hbs : wr.cell? ⟨Bs, 0, none⟩ = _ := (World.cell?_of_block (w := W) hnx.2).trans hBs
    by_cases hlt : k < zs.length
    · have hcx : wr.cell? ⟨b, off + (zs.length - 1 - k), none⟩ = some (.int .u8 ((zs[zs.length - 1 - k]?.getD 0).toNat : Int)) := (hnx.1.cell (p := ⟨b, off + (zs.length - 1 - k), none⟩) hb).trans (hc _ (by omega))
      obtain ⟨fn, tmps, assign, body, hy, hR⟩ := hY _ ((zs.length : Int) - 1 - k, zs[zs.length - 1 - k]?.getD 0) wr hJs (by rw [upto_lengthW]; exact hlt)
      dsimp only at hy
      obtain ⟨q, hq⟩ : ∃ q : Nat, zs.length - 1 - k = q := ⟨_, rfl⟩
      have hq2 : (zs.length : Int) - 1 - k = (q : Int) := by omega
      rw [hq] at hcx hy hR
      rw [hq2] at hy hR ⊢
      gi_wp2
      refine hR.mono ?_
      rintro e W3 (⟨rfl, hJ3, hk3⟩ | ⟨rfl, hJx3⟩)
      · gi_wp2
        go_roundw
        case rel =>
          exact ⟨k + 1, by omega, by (first | (simp; done) | (simp; omega)), by rw [upto_succW, hq, hq2]; exact hJ3, hnx.trans hk3⟩
        case measure => first | (simp [intOf]; done) | (simp [intOf]; omega)
      · gi_wp2
        refine bodyPost_ret (results_none rfl _ _ _) rfl ?_
        exact ⟨⟨_, rfl⟩, .inr ⟨_, ⟨k + 1, by omega, by rw [upto_succW, hq, hq2]⟩, hJx3⟩⟩
    · obtain rfl : k = zs.length := by omega
      gi_wp2
      go_end0
      exact ⟨⟨_, rfl⟩, .inl ⟨_, rfl, hJs⟩⟩
/-- The slice value holds these bytes in a block below n₀; or it is nil and there are none. -/
def Bytes8 (n₀ : Nat) (W : World) (sv : Value) (zs : List UInt8) : Prop :=
  (sv = .slice none 0 0 ∧ zs = []) ∨ ∃ b off cap, sv = .slice (some ⟨b, off, none⟩) zs.length cap ∧ b < n₀ ∧ ∀ j, j < zs.length → W.cell? ⟨b, off + j, none⟩ = some (.int .u8 ((zs[j]?.getD 0).toNat : Int))
theorem Bytes8.below {n₀ : Nat} {A B : World} (h : Below n₀ A B) {sv : Value} {zs : List UInt8} : Bytes8 n₀ A sv zs → Bytes8 n₀ B sv zs
  | .inl e => .inl e
  | .inr ⟨b, off, cap, e, hb, hc⟩ => .inr ⟨b, off, cap, e, hb, fun j hj => (h.cell (p := ⟨b, off + j, none⟩) hb).trans (hc j hj)⟩
set_option maxRecDepth 100000 in
set_option maxHeartbeats 1000000 in
theorem back1_nil_inW (F : Fence) (n : Nat) (h7 : F.fn 96) (hro : F.round = none) (l Bs : Nat) (J : List (Int × UInt8) → World → Prop) (W : World) (hBs : W.cell? ⟨Bs, 0, none⟩ = some (.slice none 0 0)) (h0 : J [] W) :
    CallsIn F n Tryd.prog 96 #[.func (.yield l) #[] #[], .pointer (some ⟨Bs, 0, none⟩)] W fun e W' => (∃ v, e = .returned v) ∧ J [] W' := by
  refine callsIn_of_wp Tryd.func96 rfl h7 ?_ hro
  simp only [Tryd.ntmps96, List.size_toArray, List.length_cons, List.length_nil, Nat.reduceAdd, Nat.reduceSub, Array.replicate_succ, Array.replicate_zero, List.push_toArray, List.append_toArray, List.nil_append, List.cons_append]
  gi_wp2
  gi_loopw [3] (fun i wr => i = .int .i64 (-1) ∧ J [] wr) (fun _ _ => 0)
  case atStart => exact ⟨by simp, h0⟩
  case round =>
    obtain ⟨rfl, hJs⟩ := hrel
    gi_wp2
    go_end0
    exact ⟨⟨_, rfl⟩, hJs⟩
set_option maxHeartbeats 1000000 in
theorem back_inW (F : Fence) (n : Nat) (h5 : F.fn 89) (hro : F.round = none) (a : Option Addr) (len cap : Nat) (w : World) :
    CallsIn F n Tryd.prog 89 #[.slice a len cap] w fun e w' => e = .returned (.func (.func 96) #[] #[.pointer (some ⟨w.heap.size, 0, none⟩)]) ∧ w' = w.alloc (.cells #[.slice a len cap] 62) := by
  refine callsIn_of_wp Tryd.func89 rfl h5 ?_ hro
  simp only [Tryd.ntmps89, List.size_toArray, List.length_cons, List.length_nil, Nat.reduceAdd, Nat.reduceSub, Array.replicate_succ, Array.replicate_zero, List.push_toArray, List.append_toArray, List.nil_append, List.cons_append]
  gi_wp2
  go_ret
  exact ⟨rfl, rfl⟩
theorem back_stopsW (F : Fence) (n : Nat) (h7 : F.fn 96) (hro : F.round = none) (hn : 1 ≤ n) (Bs n₀ : Nat) (sv : Value) (zs : List UInt8) (hreach : zs.length ≤ 9000000000) (w : World) (hBs : Bs < w.heap.size) (hn₀ : n₀ ≤ w.heap.size)
    (hc : w.cell? ⟨Bs, 0, none⟩ = some sv) (hI : Bytes8 n₀ w sv zs) :
    SeqStopsK F n Tryd.prog 96 #[.pointer (some ⟨Bs, 0, none⟩)] (fun x : Int × UInt8 => #[Value.int .i64 x.1, Value.int .u8 (x.2.toNat : Int)]) (KbW n₀ Bs) (fun ys => ys = uptoW zs zs.length)
      (fun pre => ∃ k, k ≤ zs.length ∧ pre = uptoW zs k) zs.length w := fun l J Jx W hW _ _ hY h0 => by
  have hc' := (hW.cell (p := ⟨Bs, 0, none⟩) hBs).trans hc
  rcases hI.below (hW.mono hn₀) with ⟨rfl, rfl⟩ | ⟨b, off, cap, rfl, hb, hcs⟩
  · exact (back1_nil_inW F n h7 hro l Bs J W hc' h0).mono fun e W' ⟨he, hj⟩ => ⟨he, .inl ⟨_, rfl, hj⟩⟩
  · exact back1_inW F n h7 hro hn l Bs n₀ b off cap zs hreach hb J Jx hY W hc' hcs h0

def gstep (n : Int) (c : UInt8) : Int := bits BinOp.or IntKind.u64 (IntKind.u64.wrap (n * 256)) (IntKind.u64.wrap (c.toNat : Int))
/-- What value has gathered when these have come. -/
def gath (pre : List (Int × UInt8)) : Int := pre.foldl (fun n x => gstep n x.2) 0
theorem gath_snoc (pre : List (Int × UInt8)) (x : Int × UInt8) : gath (pre ++ [x]) = gstep (gath pre) x.2 := by simp [gath]
set_option maxRecDepth 100000 in
set_option maxHeartbeats 2000000 in
theorem value_in (F : Fence) (n : Nat) (h3 : F.fn 77) (h5 : F.fn 89) (h7 : F.fn 96) (hro : F.round = none) (hn : 3 ≤ n) (a : Option Addr) (len cap : Nat) (zs : List UInt8) (hreach : zs.length ≤ 9000000000) (w : World) (hI : Bytes8 w.heap.size w (.slice a len cap) zs) :
    CallsIn F n Tryd.prog 77 #[.slice a len cap] w fun e W' => e = .returned (.int .u64 (gath (uptoW zs zs.length))) ∧ Below w.heap.size w W' := by
  have h1 : 1 ≤ n := by omega
  refine callsIn_of_wp_marks Tryd.func77 rfl h3 ?_ hro
  simp only [Tryd.ntmps77, List.size_toArray, List.length_cons, List.length_nil, Nat.reduceAdd, Nat.reduceSub, Array.replicate_succ, Array.replicate_zero, List.push_toArray, List.append_toArray, List.nil_append, List.cons_append]
  gi_wp2_with (gi_at_call 89; refine (back_inW F (n - 1) h5 hro _ _ _ _).mono ?_; rintro e w' ⟨rfl, rfl⟩)
  have bS := Boxed.new w 99 (.int .u64 0)
  have bN := Boxed.new (w.alloc (.cells #[.int .u64 0] 99)) 62 (.slice a len cap)
  rw [World.size_alloc] at bN
  have hB0 : Below w.heap.size w ((w.alloc (.cells #[.int .u64 0] 99)).alloc (.cells #[.slice a len cap] 62)) := ((Below.refl _ w).alloc (Nat.le_refl _) _).alloc (by simp) _
  have hne : w.heap.size + 1 ≠ w.heap.size := by omega
  refine wpIn_rangeFunc_ownG hro h1 (gf := 96) (lb := #[.pointer (some ⟨w.heap.size + 1, 0, none⟩)]) rfl h7 (enters_of Tryd.func96 krX rfl)
    (back_stopsW F (n - 1) h7 hro (by omega) (w.heap.size + 1) w.heap.size _ zs hreach _ (by simp) (by simp; omega) bN.cell (hI.below hB0)) (fun h k => KbW.trans h k) (kb_bW (by simp; omega) (by simp)) (Below.refl _ _) (fun _ => rfl)
    (fun pre W => (W.cell? ⟨w.heap.size, 0, none⟩ = some (.int .u64 (gath pre)) ∧ W.frozen? ⟨w.heap.size, 0, none⟩ = false) ∧ Below w.heap.size w W)
    (fun _ _ _ => False)
    (OwnFrom.and (Own.from (fun s A B row hs hg hr => ⟨cell_kept hs.1 hg hr, (frozen_kept hs.1 hg hr).trans hs.2⟩) _) (ownFrom_below (Nat.le_refl _) (by simp; omega)))
    (fun _ _ _ _ _ hs _ _ => hs)
    ⟨⟨(bS.alloc _).cell, (bS.alloc _).frozen⟩, hB0⟩
    (fun x => { tmps := #[.slice a len cap, undef, .int .u64 0, .pointer (some ⟨w.heap.size, 0, none⟩), undef, .int .u8 (x.2.toNat : Int), .slice a len cap, .func (.func 96) #[] #[.pointer (some ⟨w.heap.size + 1, 0, none⟩)], .int .i64 x.1, .int .u8 (x.2.toNat : Int), undef, undef, undef, undef, undef, undef], defers := [] }) ?assign ?body ?done ?stop
  case assign =>
    intro l x W K hK
    gi_wp2
    exact hK
  case body =>
    rintro l pre x W ⟨⟨hc, hf⟩, hB⟩ _
    gi_wp2
    exact ⟨(KeepsOthers.setCell _ _ _).from _, ⟨(Below.refl w.heap.size W).setCell (p := ⟨w.heap.size, 0, none⟩) (Nat.le_refl _) _, Below.heap_setCell _ _ _ _ hne⟩, ⟨by rw [gath_snoc]; exact World.cell?_setCell_same' _ _ _ (by rw [hc]; rfl), by rw [World.frozen?_setCell]; exact hf⟩, hB.setCell (p := ⟨w.heap.size, 0, none⟩) (Nat.le_refl _) _⟩
  case done =>
    rintro D ys W hD rfl ⟨⟨hc, _⟩, hB⟩ hK
    gi_wp2
    refine ⟨by simp, .inl ⟨_, _, rfl, run_takeDeferred hK, ?_⟩⟩
    exact ⟨_, results_tmp rfl _ _ _, rfl, hB.trans (belowK_b (w := w) (Nat.le_refl _) W D _ _ (by simp at hD; omega) hK rfl rfl)⟩
  case stop =>
    rintro D c pre W _ _ h _
    exact h.elim
theorem gstep_lev (l : List UInt8) (c : UInt8) (h : l.length < 8) : gstep ((lev l : Nat) : Int) c = ((lev (c :: l) : Nat) : Int) := by
  have h1 := lev_lt l
  have h2 : 256 ^ l.length ≤ 256 ^ 7 := Nat.pow_le_pow_right (by decide) (by omega)
  have hc := c.toNat_lt
  unfold gstep
  have e1 : IntKind.u64.wrap (((lev l : Nat) : Int) * 256) = ((lev l * 256 : Nat) : Int) := by simp [IntKind.wrap, IntKind.bits, IntKind.signed]; omega
  have e2 : IntKind.u64.wrap (c.toNat : Int) = ((c.toNat : Nat) : Int) := by simp [IntKind.wrap, IntKind.bits, IntKind.signed]; omega
  rw [e1, e2, lev]
  have e3 : (BitVec.ofInt 64 ((lev l * 256 : Nat) : Int) ||| BitVec.ofInt 64 ((c.toNat : Nat) : Int)).toNat = c.toNat + 256 * lev l := by
    have a1 : (BitVec.ofInt 64 ((lev l * 256 : Nat) : Int)).toNat = lev l * 256 := by rw [BitVec.toNat_ofInt]; omega
    have a2 : (BitVec.ofInt 64 ((c.toNat : Nat) : Int)).toNat = c.toNat := by rw [BitVec.toNat_ofInt]; omega
    rw [BitVec.toNat_or, a1, a2]
    have h5 := Nat.shiftLeft_add_eq_or_of_lt (a := lev l) (b := c.toNat) (i := 8) (by omega)
    rw [Nat.shiftLeft_eq, show (2 : Nat) ^ 8 = 256 from rfl] at h5
    omega
  show IntKind.u64.wrap (((BitVec.ofInt 64 ((lev l * 256 : Nat) : Int) ||| BitVec.ofInt 64 ((c.toNat : Nat) : Int)).toNat : Nat) : Int) = _
  rw [e3]
  simp [IntKind.wrap, IntKind.bits, IntKind.signed]; omega
theorem Sep.blw {κ w w' : World} {L : List Assn} (hs : Sep κ w L) (h : Below w.heap.size w w') : Sep κ w' L := by
  obtain ⟨s, z, x, a, b, c, d⟩ := hs
  have hup : ∀ {f : Frag}, f.le (Frag.of w) → f.le (Frag.of w') := fun {f} hf j o' e => by
    have hj := hf j o' e
    simp only [Frag.of] at hj ⊢
    rw [h.block j (Array.getElem?_eq_some_iff.1 hj).1]; exact hj
  exact ⟨⟨h.os.trans s.os, h.tape.trans s.tape, h.output.trans s.output⟩, z, x, a, hup b, hup c, d⟩
theorem gath_lev (zs : List UInt8) (h : zs.length ≤ 8) : ∀ k, k ≤ zs.length → gath (uptoW zs k) = ((lev (zs.drop (zs.length - k)) : Nat) : Int)
  | 0, _ => by simp [uptoW, gath, lev]
  | k + 1, hk => by
    have hl : zs.length - (k + 1) < zs.length := by omega
    rw [upto_succW, gath_snoc, gath_lev zs h k (by omega), gstep_lev _ _ (by rw [List.length_drop]; omega)]
    rw [List.drop_eq_getElem_cons hl, show zs.length - (k + 1) + 1 = zs.length - k from by omega, show zs.length - 1 - k = zs.length - (k + 1) from by omega, List.getElem?_eq_getElem hl]; rfl
theorem value_ok {κ : World} {L : List Assn} {a : Option Addr} {m c : Nat} {l : List UInt8} (hm : Sl R8 a m c l ∈ L) (h0 : 0 < l.length) (h8 : l.length ≤ 8) : Ctr Tryd.prog 77 #[.slice a m c] κ L (fun v M => v = .int .u64 ((lev l : Nat) : Int) ∧ M = L) := fun w hs => by
  obtain ⟨z, hz, k1, k2, k3, k4⟩ := hs.sl hm
  subst k1
  have hI : Bytes8 w.heap.size w (.slice a l.length c) l := by
    rcases k4 with k4 | ⟨b, o, cs, rfl, hr, ht⟩
    · omega
    · obtain ⟨rfl, _⟩ := rows_sc.1 ht
      refine .inr ⟨b, o, c, rfl, ?_, fun j hj => ?_⟩
      · have hcell := Go.Wk.cell_of_row (u := v8 (l[0]?.getD 0)) (i := 0) hz hr (by rw [List.getElem?_map, List.getElem?_eq_getElem h0]; rfl)
        unfold World.cell? at hcell
        simp only at hcell
        split at hcell
        · rename_i hh; exact (Array.getElem?_eq_some_iff.1 hh).1
        · cases hcell
      · rw [Go.Wk.cell_of_row (u := v8 (l[j]?.getD 0)) hz hr (by rw [List.getElem?_map, List.getElem?_eq_getElem hj]; rfl)]
  refine Calls.mono (callsIn_wide.1 (value_in Fence.wide 3 trivial trivial trivial rfl (by omega) a l.length c l (by omega) w hI)) ?_
  rintro e w' ⟨rfl, hB⟩
  exact ⟨_, by rw [gath_lev l h8 _ (Nat.le_refl _), Nat.sub_self, List.drop_zero], L, ⟨rfl, rfl⟩, Sep.blw hs hB⟩
theorem value_okU {κ : World} {L : List Assn} {a : Option Addr} {m c : Nat} {l : List UInt8} (hm : Sl R8 a m c l ∈ L) (h0 : 0 < l.length) (h8 : l.length ≤ 8) : Ctr Tryd.prog 77 #[.slice a m c] κ L (fun v M => v = v64 (UInt64.ofNat (lev l)) ∧ M = L) :=
  (value_ok hm h0 h8).mono (Ent.refl _) fun v M h => ⟨by
    have h1 := lev_lt l
    have h2 : 256 ^ l.length ≤ 256 ^ 8 := Nat.pow_le_pow_right (by decide) h8
    rw [h.1]
    show _ = Value.int .u64 ((UInt64.ofNat (lev l)).toNat : Int)
    rw [UInt64.toNat_ofNat', Nat.mod_eq_of_lt (by omega)], h.2⟩
end Go.Proofs.YtcbloadpffjkiaaDoor
