/- slices.Backward. -/
import Derived.Test.YtcbloadpffjkiaaDoorZMfront
import Derived.RangeFuncBox
import Derived.RangeFuncLeaves
import Derived.Shelf.Abstract
import Derived.OwnWalkIn
import Derived.TacticsInMore
import Derived.LoopNIn
import Derived.LoopIn
namespace Go.Proofs.YtcbloadpffjkiaaDoor
open Go.Wk Go.RowKit Go.Shelf Go.Mk Go.Sha

theorem wpListIn_loadA {F : Fence} {n : Nat} {P : Program} {ops : Array Oper} {rest : List Oper} {o : Oper} {a : Act} {w : World} {Q : Exit → Act → World → Prop} (hg : o.guard = none) (T : TypeId) (x : Operand) (hop : o.op = .load T x) (ad : Addr) (hx : a.eval x = .pointer (some ad)) (v : Value) (hrun : (loadVar T ad).run P w = .ok v w)
    (hK : wpListIn F n P ops Q rest (a.put o.dst v) w) : wpListIn F n P ops Q (o :: rest) a w := by
  refine wpListIn_plain hg fun K hK' => ?_
  refine ⟨?_, ?_⟩
  · simp [Oper.about, hop]
  · rw [Oper.semAt_plain F _ _ (by rw [hop]; intro c hc'; cases hc')]
    simp [execOp, hop, Instr.loadAt, Instr.sureAddr, hx, hrun]
    exact hK' _ _ hK
/-- A hash value, whatever is asked: 32 bytes. -/
def nrm (y : Hs) : Hs := if y.length = 32 then y else List.replicate 32 0
theorem nrm_len (y : Hs) : (nrm y).length = 32 := by
  unfold nrm
  split
  · assumption
  · exact List.length_replicate
theorem nrm_of {y : Hs} (h : y.length = 32) : nrm y = y := if_pos h
def Rows32 (W : World) (b off : Nat) (zs : List Hs) : Prop := ∀ j x, zs[j]? = some x → x.length = 32 ∧ ∀ i u, (x.map v8)[i]? = some u → W.cell? ⟨b, off + j * 32 + i, none⟩ = some u
theorem Rows32.keep {A B : World} {b off : Nat} {zs : List Hs} (h : Rows32 A b off zs) (hb : B.heap[b]? = A.heap[b]?) : Rows32 B b off zs :=
  fun j x hj => ⟨(h j x hj).1, fun i u hi => by rw [← (h j x hj).2 i u hi]; simp only [World.cell?, hb]⟩
theorem Rows32.load {P : Program} {T : TypeId} {W : World} {b off j : Nat} {zs : List Hs} (h : Rows32 W b off zs) (hj : j < zs.length) (hT : Agg P T 32) : (loadVar T ⟨b, off + j * 32, none⟩).run P W = .ok (.agg ((nrm (zs[j]?.getD [])).map v8).toArray) W := by
  obtain ⟨h1, h2⟩ := h j _ (List.getElem?_eq_getElem hj)
  rw [List.getElem?_eq_getElem hj, Option.getD_some, nrm_of h1]
  have hl : (loadCells ⟨b, off + j * 32, none⟩ 32).run P W = .ok ((zs[j].map v8).toArray) W := by
    have := run_loadCells_list (P := P) W ⟨b, off + j * 32, none⟩ (zs[j].map v8) fun i u hi => by rw [addr_add]; exact h2 i u hi
    rwa [List.length_map, h1] at this
  obtain ⟨_, ti, _, _, q1, q2⟩ := id hT
  simp [loadVar, hT.agg W, run_sizeOf_info q1, q2, hl]

attribute [local go_sem] Oper.semAt_some
/-- What has come when k rounds are over. -/
def upto (zs : List Hs) (k : Nat) : List (Int × Hs) := (List.range k).map fun (j : Nat) => ((zs.length : Int) - 1 - j, zs[zs.length - 1 - j]?.getD [])
theorem upto_succ (zs : List Hs) (k : Nat) : upto zs (k + 1) = upto zs k ++ [((zs.length : Int) - 1 - k, zs[zs.length - 1 - k]?.getD [])] := by simp [upto, List.range_succ]
theorem upto_length (zs : List Hs) (k : Nat) : (upto zs k).length = k := by simp [upto]
def Kb (n₀ Bs : Nat) (W W' : World) : Prop := W'.heap[n₀]? = W.heap[n₀]? ∧ W'.heap[Bs]? = W.heap[Bs]?
theorem Kb.refl (n₀ Bs : Nat) (W : World) : Kb n₀ Bs W W := ⟨rfl, rfl⟩
theorem Kb.trans {n₀ Bs : Nat} {A B C : World} (h : Kb n₀ Bs A B) (k : Kb n₀ Bs B C) : Kb n₀ Bs A C := ⟨k.1.trans h.1, k.2.trans h.2⟩
theorem kb_b {n₀ Bs : Nat} {w : World} (hn : n₀ < w.heap.size) (hB : Bs < w.heap.size) (W : World) (l : Nat) (o o' : Obj) (hl : w.heap.size ≤ l) (_ : W.heap[l]? = some o) (_ : o.isCells = false) (_ : o.isWalk = false) : Kb n₀ Bs W (W.putObj l o') := ⟨World.putObj_heap_other (by omega), World.putObj_heap_other (by omega)⟩
set_option maxRecDepth 100000 in
set_option maxHeartbeats 2000000 in
theorem back1_in (F : Fence) (n : Nat) (h7 : F.fn 81) (hro : F.round = none) (hn : 1 ≤ n) (l Bs n₀ b off cap : Nat) (zs : List Hs) (hreach : zs.length ≤ 9000000000) (hb : b = n₀) (J Jx : List (Int × Hs) → World → Prop)
    (hY : ∀ pre x W, J pre W → pre.length < zs.length → YieldAt F (n - 1) Tryd.prog l #[.int .i64 x.1, .agg ((nrm x.2).map v8).toArray] W fun e W' =>
      (e = .returned (.bool true) ∧ J (pre ++ [x]) W' ∧ Kb n₀ Bs W W') ∨ (e = .returned (.bool false) ∧ Jx (pre ++ [x]) W'))
    (W : World) (hBs : W.cell? ⟨Bs, 0, none⟩ = some (.slice (some ⟨b, off, none⟩) zs.length cap)) (hc : Rows32 W b off zs) (h0 : J [] W) :
    CallsIn F n Tryd.prog 81 #[.func (.yield l) #[] #[], .pointer (some ⟨Bs, 0, none⟩)] W fun e W' => (∃ v, e = .returned v) ∧
      ((∃ ys, ys = upto zs zs.length ∧ J ys W') ∨ (∃ pre, (∃ k, k ≤ zs.length ∧ pre = upto zs k) ∧ Jx pre W')) := by
  refine callsIn_of_wp Tryd.func81 rfl h7 ?_ hro
  simp only [Tryd.ntmps81, List.size_toArray, List.length_cons, List.length_nil, Nat.reduceAdd, Nat.reduceSub, Array.replicate_succ, Array.replicate_zero, List.push_toArray, List.append_toArray, List.nil_append, List.cons_append]
  gi_wp2
  gi_loopw [3] (fun i wr => ∃ k : Nat, k ≤ zs.length ∧ i = .int .i64 ((zs.length : Int) - 1 - k) ∧ J (upto zs k) wr ∧ Kb n₀ Bs W wr)
    (fun i _ => (intOf i + 1).toNat)
  case atStart => exact ⟨0, Nat.zero_le _, by simp, h0, Kb.refl _ _ _⟩
  case round =>
    obtain ⟨k, hk, rfl, hJs, hnx⟩ := hrel
    have hbs : wr.cell? ⟨Bs, 0, none⟩ = _ := (World.cell?_of_block (w := W) hnx.2).trans hBs
    by_cases hlt : k < zs.length
    · have hcx := Rows32.load (P := Tryd.prog) (T := 25) (hc.keep (B := wr) (by rw [hb, hnx.1])) (j := zs.length - 1 - k) (by omega) ag25
      clear hb
      obtain ⟨fn, tmps, assign, body, hy, hR⟩ := hY _ ((zs.length : Int) - 1 - k, zs[zs.length - 1 - k]?.getD []) wr hJs (by rw [upto_length]; exact hlt)
      dsimp only at hy
      obtain ⟨q, hq⟩ : ∃ q : Nat, zs.length - 1 - k = q := ⟨_, rfl⟩
      have hq2 : (zs.length : Int) - 1 - k = (q : Int) := by omega
      rw [hq] at hcx hy hR
      rw [hq2] at hy hR ⊢
      gi_wp2_with (refine wpListIn_loadA rfl 25 _ rfl _ rfl _ hcx ?_)
      refine hR.mono ?_
      rintro e W3 (⟨rfl, hJ3, hk3⟩ | ⟨rfl, hJx3⟩)
      · gi_wp2
        go_roundw
        case rel =>
          exact ⟨k + 1, by omega, by (first | (simp; done) | (simp; omega)), by rw [upto_succ, hq, hq2]; exact hJ3, hnx.trans hk3⟩
        case measure => first | (simp [intOf]; done) | (simp [intOf]; omega)
      · gi_wp2
        refine bodyPost_ret (results_none rfl _ _ _) rfl ?_
        exact ⟨⟨_, rfl⟩, .inr ⟨_, ⟨k + 1, by omega, by rw [upto_succ, hq, hq2]⟩, hJx3⟩⟩
    · obtain rfl : k = zs.length := by omega
      gi_wp2
      go_end0
      exact ⟨⟨_, rfl⟩, .inl ⟨_, rfl, hJs⟩⟩
/-- The slice value holds these bytes in a block below n₀; or it is nil and there are none. -/
def Hashes (n₀ : Nat) (W : World) (sv : Value) (zs : List Hs) : Prop :=
  ((∃ a c, sv = .slice a 0 c) ∧ zs = []) ∨ ∃ b off cap, sv = .slice (some ⟨b, off, none⟩) zs.length cap ∧ b = n₀ ∧ Rows32 W b off zs
theorem Hashes.keep {n₀ : Nat} {A B : World} (h : B.heap[n₀]? = A.heap[n₀]?) {sv : Value} {zs : List Hs} : Hashes n₀ A sv zs → Hashes n₀ B sv zs
  | .inl e => .inl e
  | .inr ⟨b, off, cap, e, hb, hc⟩ => .inr ⟨b, off, cap, e, hb, hc.keep (by rw [hb]; exact h)⟩
set_option maxRecDepth 100000 in
set_option maxHeartbeats 1000000 in
theorem back1_nil_in (F : Fence) (n : Nat) (h7 : F.fn 81) (hro : F.round = none) (l Bs : Nat) (J : List (Int × Hs) → World → Prop) (W : World) (a₀ : Option Addr) (c₀ : Nat) (hBs : W.cell? ⟨Bs, 0, none⟩ = some (.slice a₀ 0 c₀)) (h0 : J [] W) :
    CallsIn F n Tryd.prog 81 #[.func (.yield l) #[] #[], .pointer (some ⟨Bs, 0, none⟩)] W fun e W' => (∃ v, e = .returned v) ∧ J [] W' := by
  refine callsIn_of_wp Tryd.func81 rfl h7 ?_ hro
  simp only [Tryd.ntmps81, List.size_toArray, List.length_cons, List.length_nil, Nat.reduceAdd, Nat.reduceSub, Array.replicate_succ, Array.replicate_zero, List.push_toArray, List.append_toArray, List.nil_append, List.cons_append]
  gi_wp2
  gi_loopw [3] (fun i wr => i = .int .i64 (-1) ∧ J [] wr) (fun _ _ => 0)
  case atStart => exact ⟨by simp, h0⟩
  case round =>
    obtain ⟨rfl, hJs⟩ := hrel
    gi_wp2
    go_end0
    exact ⟨⟨_, rfl⟩, hJs⟩
set_option maxHeartbeats 1000000 in
theorem back_in (F : Fence) (n : Nat) (h5 : F.fn 55) (hro : F.round = none) (a : Option Addr) (len cap : Nat) (w : World) :
    CallsIn F n Tryd.prog 55 #[.slice a len cap] w fun e w' => e = .returned (.func (.func 81) #[] #[.pointer (some ⟨w.heap.size, 0, none⟩)]) ∧ w' = w.alloc (.cells #[.slice a len cap] 22) := by
  refine callsIn_of_wp Tryd.func55 rfl h5 ?_ hro
  simp only [Tryd.ntmps55, List.size_toArray, List.length_cons, List.length_nil, Nat.reduceAdd, Nat.reduceSub, Array.replicate_succ, Array.replicate_zero, List.push_toArray, List.append_toArray, List.nil_append, List.cons_append]
  gi_wp2
  go_ret
  exact ⟨rfl, rfl⟩
theorem back_stops (F : Fence) (n : Nat) (h7 : F.fn 81) (hro : F.round = none) (hn : 1 ≤ n) (Bs n₀ : Nat) (sv : Value) (zs : List Hs) (hreach : zs.length ≤ 9000000000) (w : World) (hBs : Bs < w.heap.size) (hn₀ : n₀ < w.heap.size)
    (hc : w.cell? ⟨Bs, 0, none⟩ = some sv) (hI : Hashes n₀ w sv zs) :
    SeqStopsK F n Tryd.prog 81 #[.pointer (some ⟨Bs, 0, none⟩)] (fun x : Int × Hs => #[Value.int .i64 x.1, Value.agg ((nrm x.2).map v8).toArray]) (Kb n₀ Bs) (fun ys => ys = upto zs zs.length)
      (fun pre => ∃ k, k ≤ zs.length ∧ pre = upto zs k) zs.length w := fun l J Jx W hW _ _ hY h0 => by
  have hc' := (hW.cell (p := ⟨Bs, 0, none⟩) hBs).trans hc
  rcases hI.keep (hW.block n₀ hn₀) with ⟨⟨a₀, c₀, rfl⟩, rfl⟩ | ⟨b, off, cap, rfl, hb, hcs⟩
  · exact (back1_nil_in F n h7 hro l Bs J W a₀ c₀ hc' h0).mono fun e W' ⟨he, hj⟩ => ⟨he, .inl ⟨_, rfl, hj⟩⟩
  · exact back1_in F n h7 hro hn l Bs n₀ b off cap zs hreach hb J Jx hY W hc' hcs h0

end Go.Proofs.YtcbloadpffjkiaaDoor
