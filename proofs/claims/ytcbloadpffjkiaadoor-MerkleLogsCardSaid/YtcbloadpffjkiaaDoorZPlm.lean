/- Digests and hash trees, in plain Lean. -/
import Derived.Test.YtcbloadpffjkiaaDoorKernB
import Derived.KernelRfl
import Derived.RangeFuncNested
import Derived.RangeFuncBox
import Derived.RangeFuncLeaves
import Derived.OwnWalkIn
import Derived.TacticsIn
namespace Go.Sha
open Go.Wk
def rotr (x r : UInt32) : UInt32 := x >>> r ||| x <<< (32 - r)
def be (l : List UInt8) : UInt32 := l.foldl (fun x c => x <<< 8 ||| c.toUInt32) 0
def s0 (x : UInt32) : UInt32 := rotr x 7 ^^^ rotr x 18 ^^^ x >>> 3
def s1 (x : UInt32) : UInt32 := rotr x 17 ^^^ rotr x 19 ^^^ x >>> 10
def nxt (b : List UInt8) (l : List UInt32) (t : Nat) : UInt32 :=
  if t < 16 then be ((b.drop (4 * t)).take 4) else l.getD (t - 16) 0 + s0 (l.getD (t - 15) 0) + l.getD (t - 7) 0 + s1 (l.getD (t - 2) 0)
def push (b : List UInt8) (t : Nat) (l : List UInt32) : List UInt32 := l ++ [nxt b l t]
def ws (b : List UInt8) : Nat → List UInt32
  | 0 => []
  | t + 1 => push b t (ws b t)
def ch (e f g : UInt32) : UInt32 := e &&& f ^^^ ~~~e &&& g
def maj (a b c : UInt32) : UInt32 := a &&& b ^^^ a &&& c ^^^ b &&& c
def S1 (e : UInt32) : UInt32 := rotr e 6 ^^^ rotr e 11 ^^^ rotr e 25
def S0 (a : UInt32) : UInt32 := rotr a 2 ^^^ rotr a 13 ^^^ rotr a 22
def t1 (e f g h k w : UInt32) : UInt32 := h + S1 e + ch e f g + k + w
def t2 (a b c : UInt32) : UInt32 := S0 a + maj a b c
def rnd : List UInt32 → UInt32 → UInt32 → List UInt32
  | [a, b, c, d, e, f, g, h], k, w => [t1 e f g h k w + t2 a b c, a, b, c, d + t1 e f g h k w, e, f, g]
  | l, _, _ => l
def KK : List UInt32 := [1116352408, 1899447441, 3049323471, 3921009573, 961987163, 1508970993, 2453635748, 2870763221, 3624381080, 310598401, 607225278, 1426881987, 1925078388, 2162078206, 2614888103, 3248222580, 3835390401, 4022224774, 264347078, 604807628, 770255983, 1249150122, 1555081692, 1996064986, 2554220882, 2821834349, 2952996808, 3210313671, 3336571891, 3584528711, 113926993, 338241895, 666307205, 773529912, 1294757372, 1396182291, 1695183700, 1986661051, 2177026350, 2456956037, 2730485921, 2820302411, 3259730800, 3345764771, 3516065817, 3600352804, 4094571909, 275423344, 430227734, 506948616, 659060556, 883997877, 958139571, 1322822218, 1537002063, 1747873779, 1955562222, 2024104815, 2227730452, 2361852424, 2428436474, 2756734187, 3204031479, 3329325298]
def run (h W : List UInt32) : Nat → List UInt32
  | 0 => h
  | t + 1 => rnd (run h W t) (KK.getD t 0) (W.getD t 0)
def block (h : List UInt32) (b : List UInt8) : List UInt32 := List.zipWith (· + ·) h (run h (ws b 64) 64)
def blocks : Nat → List UInt32 → List UInt8 → List UInt32
  | 0, h, _ => h
  | n + 1, h, l => blocks n (block h l) (l.drop 64)
def feed (h : List UInt32) (l : List UInt8) : List UInt32 := blocks (l.length / 64) h l
def tail (l : List UInt8) : List UInt8 := l.drop (l.length / 64 * 64)
def first : List UInt32 := [0x6a09e667, 0xbb67ae85, 0x3c6ef372, 0xa54ff53a, 0x510e527f, 0x9b05688c, 0x1f83d9ab, 0x5be0cd19]
def len8 (n : UInt64) : List UInt8 := [(n >>> 56).toUInt8, (n >>> 48).toUInt8, (n >>> 40).toUInt8, (n >>> 32).toUInt8, (n >>> 24).toUInt8, (n >>> 16).toUInt8, (n >>> 8).toUInt8, (n >>> 0).toUInt8]
def ends (n : Nat) : List UInt8 := 128 :: List.replicate ((119 - n % 64) % 64) 0 ++ len8 (UInt64.ofNat n * 8)
def out4 (x : UInt32) : List UInt8 := [(x >>> 24).toUInt8, (x >>> 16).toUInt8, (x >>> 8).toUInt8, (x >>> 0).toUInt8]
def out (h : List UInt32) : List UInt8 := h.flatMap out4
def sum (l : List UInt8) : List UInt8 := out (feed first (l ++ ends l.length))

theorem ws_length (b : List UInt8) : ∀ t, (ws b t).length = t
  | 0 => rfl
  | t + 1 => by rw [ws, push, List.length_append, ws_length b t]; rfl
theorem rnd_length (l : List UInt32) (k w : UInt32) (h : l.length = 8) : (rnd l k w).length = 8 := by
  match l, h with
  | [_, _, _, _, _, _, _, _], _ => rfl
theorem run_length (h W : List UInt32) (h8 : h.length = 8) : ∀ t, (run h W t).length = 8
  | 0 => h8
  | t + 1 => rnd_length _ _ _ (run_length h W h8 t)
theorem block_length (h : List UInt32) (b : List UInt8) (h8 : h.length = 8) : (block h b).length = 8 := by
  rw [block, List.length_zipWith, run_length _ _ h8, h8]; rfl
theorem blocks_length : ∀ (n : Nat) (h : List UInt32) (l : List UInt8), h.length = 8 → (blocks n h l).length = 8
  | 0, _, _, h8 => h8
  | n + 1, h, l, h8 => blocks_length n _ _ (block_length h l h8)
theorem feed_length (h : List UInt32) (l : List UInt8) (h8 : h.length = 8) : (feed h l).length = 8 := blocks_length _ _ _ h8
theorem first_length : first.length = 8 := rfl
theorem eight {l : List UInt32} (h : l.length = 8) : ∃ a b c d e f g i, l = [a, b, c, d, e, f, g, i] := by
  match l, h with
  | [a, b, c, d, e, f, g, i], _ => exact ⟨a, b, c, d, e, f, g, i, rfl⟩

/- a block looks at 64 bytes only -/
theorem nxt_take (b : List UInt8) (l : List UInt32) (t : Nat) : nxt (b.take 64) l t = nxt b l t := by
  unfold nxt
  split
  · rw [List.drop_take, List.take_take, Nat.min_eq_left (by omega)]
  · rfl
theorem ws_take (b : List UInt8) : ∀ t, ws (b.take 64) t = ws b t
  | 0 => rfl
  | t + 1 => by rw [ws, ws, push, push, ws_take b t, nxt_take]
theorem block_take (h : List UInt32) (b : List UInt8) : block h (b.take 64) = block h b := by
  rw [block, block, ws_take]

/- states -/
theorem blocks_add : ∀ (n m : Nat) (h : List UInt32) (l : List UInt8), blocks (n + m) h l = blocks m (blocks n h l) (l.drop (64 * n))
  | 0, m, h, l => by simp [blocks]
  | n + 1, m, h, l => by
    rw [show n + 1 + m = (n + m) + 1 from by omega, blocks, blocks_add n m, blocks, List.drop_drop, show 64 + 64 * n = 64 * (n + 1) from by omega]
theorem block_app (h : List UInt32) (l l' : List UInt8) (hl : 64 ≤ l.length) : block h (l ++ l') = block h l := by
  rw [← block_take h (l ++ l'), ← block_take h l, List.take_append_of_le_length hl]
theorem blocks_app : ∀ (n : Nat) (h : List UInt32) (l l' : List UInt8), 64 * n ≤ l.length → blocks n h (l ++ l') = blocks n h l
  | 0, _, _, _, _ => rfl
  | n + 1, h, l, l', hl => by
    rw [blocks, blocks, block_app h l l' (by omega), List.drop_append_of_le_length (by omega), blocks_app n _ _ _ (by simp; omega)]
theorem tail_length (l : List UInt8) : (tail l).length = l.length % 64 := by
  rw [tail, List.length_drop]; omega
theorem split_len (l l' : List UInt8) : (l ++ l').length / 64 = l.length / 64 + (tail l ++ l').length / 64 := by
  simp only [List.length_append, tail_length]; omega
theorem drop_app (l l' : List UInt8) : (l ++ l').drop (64 * (l.length / 64)) = tail l ++ l' := by
  rw [List.drop_append_of_le_length (by omega), Nat.mul_comm 64]; rfl
theorem feed_app (h : List UInt32) (l l' : List UInt8) : feed (feed h l) (tail l ++ l') = feed h (l ++ l') := by
  have e := split_len l l'
  have e1 : blocks (l.length / 64) h (l ++ l') = feed h l := blocks_app _ _ _ _ (by omega)
  show _ = blocks ((l ++ l').length / 64) h (l ++ l')
  rw [e, blocks_add, e1, drop_app]; rfl
theorem tail_app (l l' : List UInt8) : tail (tail l ++ l') = tail (l ++ l') := by
  have e := split_len l l'
  show _ = (l ++ l').drop ((l ++ l').length / 64 * 64)
  rw [e, Nat.add_mul, ← List.drop_drop, Nat.mul_comm (l.length / 64) 64, drop_app]; rfl
theorem feed_nil (h : List UInt32) : feed h [] = h := rfl
theorem tail_nil : tail [] = [] := rfl
theorem feed_step (h : List UInt32) (l : List UInt8) (hl : 64 ≤ l.length) : feed h l = feed (block h l) (l.drop 64) := by
  unfold feed
  rw [show l.length / 64 = (l.drop 64).length / 64 + 1 from by rw [List.length_drop]; omega, blocks]
theorem tail_step (l : List UInt8) (hl : 64 ≤ l.length) : tail l = tail (l.drop 64) := by
  unfold tail
  rw [List.drop_drop, List.length_drop]
  congr 1; omega
theorem feed_short (h : List UInt32) (l : List UInt8) (hl : l.length < 64) : feed h l = h := by
  unfold feed; rw [show l.length / 64 = 0 from by omega]; rfl
theorem tail_short (l : List UInt8) (hl : l.length < 64) : tail l = l := by
  unfold tail; rw [show l.length / 64 = 0 from by omega]; simp

/- the two ways to write the same -/
theorem shl_bv (x d : UInt32) (k : Nat) (hd : d.toNat = k) (hk : k < 32) : (x <<< d).toBitVec = x.toBitVec <<< k := by
  apply BitVec.eq_of_toNat_eq
  have h := UInt32.toNat_shiftLeft x d
  rw [hd, Nat.mod_eq_of_lt hk] at h
  rw [BitVec.toNat_shiftLeft]
  exact h
theorem be_four (a b c d : UInt8) : a.toUInt32 <<< 24 ||| b.toUInt32 <<< 16 ||| c.toUInt32 <<< 8 ||| d.toUInt32 = be [a, b, c, d] := by
  simp only [be, List.foldl]
  apply UInt32.toBitVec_inj.1
  simp only [UInt32.toBitVec_or]
  simp only [shl_bv _ 24 24 rfl (by decide), shl_bv _ 16 16 rfl (by decide), shl_bv _ 8 8 rfl (by decide), UInt32.toBitVec_or]
  simp only [BitVec.shiftLeft_or_distrib, ← BitVec.shiftLeft_add]
  simp
theorem be_snoc (l : List UInt8) (c : UInt8) : be (l ++ [c]) = be l <<< 8 ||| c.toUInt32 := by
  rw [be, List.foldl_append]; rfl
theorem ch_eq (e f g : UInt32) : g ^^^ e &&& (f ^^^ g) = ch e f g := by
  unfold ch
  apply UInt32.toBitVec_inj.1
  simp only [UInt32.toBitVec_xor, UInt32.toBitVec_and, UInt32.toBitVec_not]
  apply BitVec.eq_of_getLsbD_eq
  intro i hi
  simp only [BitVec.getLsbD_xor, BitVec.getLsbD_and, BitVec.getLsbD_not, hi, decide_true, Bool.true_and]
  cases e.toBitVec.getLsbD i <;> cases f.toBitVec.getLsbD i <;> cases g.toBitVec.getLsbD i <;> rfl
theorem maj_eq (a b c : UInt32) : a &&& b ||| c &&& (a ||| b) = maj a b c := by
  unfold maj
  apply UInt32.toBitVec_inj.1
  simp only [UInt32.toBitVec_xor, UInt32.toBitVec_and, UInt32.toBitVec_or]
  apply BitVec.eq_of_getLsbD_eq
  intro i hi
  simp only [BitVec.getLsbD_xor, BitVec.getLsbD_and, BitVec.getLsbD_or]
  cases a.toBitVec.getLsbD i <;> cases b.toBitVec.getLsbD i <;> cases c.toBitVec.getLsbD i <;> rfl
theorem rotr_comm (x r : UInt32) : x <<< (32 - r) ||| x >>> r = rotr x r := UInt32.or_comm _ _
end Go.Sha

namespace Go.Sha
open Go.Wk
section
variable {H H' : List UInt32} {s t s' t' : Value} {L : List Assn}
theorem Blk.eqc {b E : Nat} {cs cs' : List Value} (h : cs = cs') : Ent (Blk b E cs :: L) (Blk b E cs' :: L) := by subst h; exact Ent.refl _
theorem Buf.eqc {a : Option Addr} {m c e : Nat} {l l' : List UInt8} (h : l = l') : Ent (Buf R8 e a m c l :: L) (Buf R8 e a m c l' :: L) := by subst h; exact Ent.refl _
/-- The cells of a state. -/
def dg (H : List UInt32) (s t : Value) : List Value := H.map v32 ++ [s, t]
theorem dg_len (hH : H.length = 8) : (dg H s t).length = 10 := by simp [dg, hH]
theorem dg_8 (hH : H.length = 8) : (dg H s t)[8]? = some s := by
  rw [dg, List.getElem?_append_right (by simp [hH])]; simp [hH]
theorem dg_9 (hH : H.length = 8) : (dg H s t)[9]? = some t := by
  rw [dg, List.getElem?_append_right (by simp [hH])]; simp [hH]
theorem dg_set8 (hH : H.length = 8) : (dg H s t).set 8 s' = dg H s' t := by
  rw [dg, dg, List.set_append_right _ _ (by simp [hH])]; simp [hH]
theorem dg_set9 (hH : H.length = 8) : (dg H s t).set 9 t' = dg H s t' := by
  rw [dg, dg, List.set_append_right _ _ (by simp [hH])]; simp [hH]
theorem dg_H (hH : H.length = 8) : ((dg H s t).drop 0).take 8 = H.map v32 := by
  rw [dg, List.drop_zero]; exact List.take_left' (by simp [hH])
theorem dg_setH (hH : H.length = 8) (hH' : H'.length = 8) : setAt (dg H s t) 0 (H'.map v32) = dg H' s t := by
  have := setAt_mid (H'.map v32) [] (H.map v32) [s, t] (by simp [hH, hH'])
  simpa [dg] using this
theorem dg_all (hH : H.length = 8) : ((dg H s t).drop 0).take 10 = dg H s t := by
  rw [List.drop_zero]; exact List.take_of_length_le (by rw [dg_len hH]; omega)
theorem dg_one (hs : s.oneCell' = true) (ht : t.oneCell' = true) : ∀ u ∈ dg H s t, u.oneCell' = true := fun u hu => by
  rcases List.mem_append.1 hu with hu | hu
  · obtain ⟨x, _, rfl⟩ := List.mem_map.1 hu; rfl
  · simp only [List.mem_cons, List.not_mem_nil, or_false] at hu
    rcases hu with rfl | rfl <;> assumption
end
/- the bytes of a hash value -/
theorem out_length {h : List UInt32} (hh : h.length = 8) : (out h).length = 32 := by
  obtain ⟨a, b, c, d, e, f, g, i, rfl⟩ := eight hh; rfl
theorem out_get {h : List UInt32} (hh : h.length = 8) {j : Nat} (hj : j < 32) : (out h)[j]? = some ((h.getD (j / 4) 0 >>> UInt32.ofNat (24 - j % 4 * 8)).toUInt8) := by
  obtain ⟨a, b, c, d, e, f, g, i, rfl⟩ := eight hh
  match j, hj with
  | 0, _ => rfl
  | 1, _ => rfl
  | 2, _ => rfl
  | 3, _ => rfl
  | 4, _ => rfl
  | 5, _ => rfl
  | 6, _ => rfl
  | 7, _ => rfl
  | 8, _ => rfl
  | 9, _ => rfl
  | 10, _ => rfl
  | 11, _ => rfl
  | 12, _ => rfl
  | 13, _ => rfl
  | 14, _ => rfl
  | 15, _ => rfl
  | 16, _ => rfl
  | 17, _ => rfl
  | 18, _ => rfl
  | 19, _ => rfl
  | 20, _ => rfl
  | 21, _ => rfl
  | 22, _ => rfl
  | 23, _ => rfl
  | 24, _ => rfl
  | 25, _ => rfl
  | 26, _ => rfl
  | 27, _ => rfl
  | 28, _ => rfl
  | 29, _ => rfl
  | 30, _ => rfl
  | 31, _ => rfl
  | j + 32, hj => exact absurd hj (by omega)
theorem out_get2 {h : List UInt32} (hh : h.length = 8) {i k : Nat} (hi : i < 8) (hk : k < 4) : (out h)[4 * i + k]? = some ((h.getD i 0 >>> UInt32.ofNat (24 - 8 * k)).toUInt8) := by
  have h1 := out_get hh (j := 4 * i + k) (by omega)
  rw [show (4 * i + k) / 4 = i from by omega, show 24 - (4 * i + k) % 4 * 8 = 24 - 8 * k from by omega] at h1
  exact h1
/-- The array after j of these bytes. -/
def oz (O : List UInt8) (j : Nat) : List UInt8 := O.take j ++ List.replicate (32 - j) 0
theorem oz_length {O : List UInt8} (hO : O.length = 32) {j : Nat} (hj : j ≤ 32) : (oz O j).length = 32 := by
  rw [oz, List.length_append, List.length_take, List.length_replicate]; omega
theorem oz_step {O : List UInt8} {x : UInt8} {j : Nat} (hO : O.length = 32) (hj : j < 32) (hx : O[j]? = some x) : (oz O j).set j x = oz O (j + 1) := by
  rw [oz, oz, List.set_append_right _ _ (by rw [List.length_take]; omega), List.length_take, Nat.min_eq_left (by omega), Nat.sub_self, List.take_add_one, hx, show 32 - j = (32 - (j + 1)) + 1 from by omega, List.replicate_succ]
  simp
theorem oz_zero (O : List UInt8) : List.replicate 32 (Value.int .u8 0) = (oz O 0).map v8 := by
  rw [oz, List.take_zero, List.nil_append, List.map_replicate]; rfl
theorem oz_all {O : List UInt8} (hO : O.length = 32) : oz O 32 = O := by
  rw [oz, List.take_of_length_le (by omega)]; simp
theorem take8 {O : List UInt8} {m : Nat} (hO : O.length = m) : ((O.map v8).drop 0).take m = O.map v8 := by
  rw [List.drop_zero]; exact List.take_of_length_le (by rw [List.length_map]; omega)
theorem one8 (l : List UInt8) : ∀ u ∈ l.map v8, u.oneCell' = true := fun u hu => by
  obtain ⟨x, _, rfl⟩ := List.mem_map.1 hu; rfl
theorem sum_length (l : List UInt8) : (sum l).length = 32 := out_length (feed_length _ _ first_length)
/-- The hash value, of a state. -/
theorem close_eq (X : List UInt8) : out (feed (feed first X) (tail X ++ ends X.length)) = sum X := by rw [feed_app]; rfl
/-- The padding's bytes, one after the other: after q of the last eight. -/
def e8 (n : UInt64) (q : Nat) : List UInt8 := (len8 n).take q
theorem e8_step (n : UInt64) {q : Nat} (hq : q < 8) : e8 n (q + 1) = e8 n q ++ [(n >>> UInt64.ofNat (56 - 8 * q)).toUInt8] := by
  match q, hq with
  | 0, _ => rfl
  | 1, _ => rfl
  | 2, _ => rfl
  | 3, _ => rfl
  | 4, _ => rfl
  | 5, _ => rfl
  | 6, _ => rfl
  | 7, _ => rfl
theorem e8_all (n : UInt64) : e8 n 8 = len8 n := rfl
end Go.Sha

namespace Go.Sha
def hexd (c : UInt8) : UInt8 := if c < 10 then 48 + c else 87 + c
def hex (l : List UInt8) : List UInt8 := l.flatMap fun c => [hexd (c / 16), hexd (c % 16)]
def leaf (l : List UInt8) : List UInt8 := sum (0 :: l)
def node (a b : List UInt8) : List UInt8 := sum (1 :: a ++ b)
theorem ex_none : hex (sum []) = "e3b0c44298fc1c149afbf4c8996fb92427ae41e4649b934ca495991b7852b855".toUTF8.data.toList := by kernel_rfl
end Go.Sha

namespace Go.Mk
open Go.Wk Go.Sha

abbrev Hs := List UInt8
/-- The greatest power of two that is less than n. -/
def spl (n : Nat) : Nat := 2 ^ Nat.log2 (n - 1)
theorem spl_pos (n : Nat) : 0 < spl n := Nat.pow_pos (by decide)
theorem spl_lt {n : Nat} (h : 2 ≤ n) : spl n < n := by
  have := Nat.log2_self_le (n := n - 1) (by omega)
  unfold spl; omega
theorem spl_le {n : Nat} (h : 2 ≤ n) : n ≤ 2 * spl n := by
  have := Nat.lt_log2_self (n := n - 1)
  rw [Nat.pow_succ] at this
  unfold spl; omega
theorem spl_of {n e : Nat} (h1 : 2 ^ e < n) (h2 : n ≤ 2 ^ (e + 1)) : spl n = 2 ^ e := by
  have hn : n - 1 ≠ 0 := by have := Nat.pow_pos (a := 2) (n := e) (by decide); omega
  have : Nat.log2 (n - 1) = e := (Nat.log2_eq_iff hn).2 ⟨by omega, by omega⟩
  unfold spl; rw [this]
theorem spl_exp (n : Nat) : ∃ e, spl n = 2 ^ e := ⟨_, rfl⟩

def rootV (l : List Hs) : Hs := if l.length < 2 then (match l with | [] => sum [] | x :: _ => x) else node (rootV (l.take (spl l.length))) (rootV (l.drop (spl l.length)))
termination_by l.length
decreasing_by
  · rw [List.length_take]; have := spl_lt (n := l.length) (by omega); omega
  · rw [List.length_drop]; have := spl_pos l.length; omega
theorem root_nil : rootV [] = sum [] := by unfold rootV; rfl
theorem root_one (x : Hs) : rootV [x] = x := by unfold rootV; rfl
theorem root_two {l : List Hs} (h : 2 ≤ l.length) : rootV l = node (rootV (l.take (spl l.length))) (rootV (l.drop (spl l.length))) := by
  conv => lhs; unfold rootV
  rw [if_neg (by omega)]
theorem node_length (x y : Hs) : (node x y).length = 32 := by unfold node; exact sum_length _
theorem root_len {l : List Hs} (h : ∀ x ∈ l, x.length = 32) : (rootV l).length = 32 := by
  by_cases h2 : 2 ≤ l.length
  · rw [root_two h2]; exact node_length _ _
  · match l, h2 with
    | [], _ => rw [root_nil]; exact sum_length _
    | [x], _ => rw [root_one]; exact h x (List.mem_singleton.2 rfl)
    | _ :: _ :: _, h2 => simp at h2

def pathV (l : List Hs) (i : Nat) : List Hs := if l.length < 2 then [] else if i < spl l.length then pathV (l.take (spl l.length)) i ++ [rootV (l.drop (spl l.length))] else pathV (l.drop (spl l.length)) (i - spl l.length) ++ [rootV (l.take (spl l.length))]
termination_by l.length
decreasing_by
  · rw [List.length_take]; have := spl_lt (n := l.length) (by omega); omega
  · rw [List.length_drop]; have := spl_pos l.length; omega
theorem path_one {l : List Hs} {i : Nat} (h : l.length < 2) : pathV l i = [] := by rw [pathV, if_pos h]
theorem path_lo {l : List Hs} {i : Nat} (h : 2 ≤ l.length) (hi : i < spl l.length) : pathV l i = pathV (l.take (spl l.length)) i ++ [rootV (l.drop (spl l.length))] := by rw [pathV, if_neg (by omega), if_pos hi]
theorem path_hi {l : List Hs} {i : Nat} (h : 2 ≤ l.length) (hi : ¬ i < spl l.length) : pathV l i = pathV (l.drop (spl l.length)) (i - spl l.length) ++ [rootV (l.take (spl l.length))] := by rw [pathV, if_neg (by omega), if_neg hi]

def growV (m : Nat) (l : List Hs) (whole : Bool) : List Hs := if m = l.length then (if whole then [] else [rootV l]) else if l.length < 2 then [] else if m ≤ spl l.length then growV m (l.take (spl l.length)) whole ++ [rootV (l.drop (spl l.length))] else growV (m - spl l.length) (l.drop (spl l.length)) false ++ [rootV (l.take (spl l.length))]
termination_by l.length
decreasing_by
  · rw [List.length_take]; have := spl_lt (n := l.length) (by omega); omega
  · rw [List.length_drop]; have := spl_pos l.length; omega
theorem grow_whole {l : List Hs} : growV l.length l true = [] := by rw [growV, if_pos rfl]; rfl
theorem grow_part {l : List Hs} : growV l.length l false = [rootV l] := by rw [growV, if_pos rfl]; rfl
theorem grow_lo {m : Nat} {l : List Hs} {w : Bool} (hm : m ≠ l.length) (h : 2 ≤ l.length) (hk : m ≤ spl l.length) : growV m l w = growV m (l.take (spl l.length)) w ++ [rootV (l.drop (spl l.length))] := by rw [growV, if_neg hm, if_neg (by omega), if_pos hk]
theorem grow_hi {m : Nat} {l : List Hs} {w : Bool} (hm : m ≠ l.length) (h : 2 ≤ l.length) (hk : ¬ m ≤ spl l.length) : growV m l w = growV (m - spl l.length) (l.drop (spl l.length)) false ++ [rootV (l.take (spl l.length))] := by rw [growV, if_neg hm, if_neg (by omega), if_neg hk]

/- BLOCKS -/
def blocksV (l : List Hs) : List Hs := if l.length = 0 then [] else rootV (l.take (spl (l.length + 1))) :: blocksV (l.drop (spl (l.length + 1)))
termination_by l.length
decreasing_by
  rw [List.length_drop]; have := spl_pos (l.length + 1); omega
theorem blocks_nil : blocksV [] = [] := by rw [blocksV]; rfl
theorem blocks_cons {l : List Hs} (h : 0 < l.length) : blocksV l = rootV (l.take (spl (l.length + 1))) :: blocksV (l.drop (spl (l.length + 1))) := by rw [blocksV, if_neg (by omega)]
/-- The number of ones. -/
def ones (n : Nat) : Nat := if n = 0 then 0 else n % 2 + ones (n / 2)
theorem ones_zero : ones 0 = 0 := by rw [ones]; rfl
theorem ones_step (n : Nat) : ones n = n % 2 + ones (n / 2) := by
  by_cases h : n = 0
  · subst h; simp [ones_zero]
  · rw [ones, if_neg h]
theorem ones_pow : ∀ (e b : Nat), b < 2 ^ e → ones (2 ^ e + b) = 1 + ones b
  | 0, b, h => by
    have : b = 0 := by simpa using h
    subst this; rw [ones_step]
  | e + 1, b, h => by
    rw [Nat.pow_succ] at h
    rw [ones_step, ones_step b]
    have h1 : (2 ^ (e + 1) + b) % 2 = b % 2 := by rw [Nat.pow_succ]; omega
    have h2 : (2 ^ (e + 1) + b) / 2 = 2 ^ e + b / 2 := by rw [Nat.pow_succ]; omega
    rw [h1, h2, ones_pow e (b / 2) (by omega)]; omega
theorem ones_pos {n : Nat} (h : n % 2 = 1) : 1 ≤ ones n := by rw [ones_step]; omega
/-- The last two are merged as long as n is odd. -/
def mergeV (n : Nat) (h : List Hs) : List Hs := if n % 2 = 1 then mergeV (n / 2) (h.take (h.length - 2) ++ [node (h.getD (h.length - 2) []) (h.getD (h.length - 1) [])]) else h
termination_by n
theorem merge_even {n : Nat} {h : List Hs} (hn : ¬ n % 2 = 1) : mergeV n h = h := by rw [mergeV, if_neg hn]
theorem merge_odd {n : Nat} {h : List Hs} (hn : n % 2 = 1) : mergeV n h = mergeV (n / 2) (h.take (h.length - 2) ++ [node (h.getD (h.length - 2) []) (h.getD (h.length - 1) [])]) := by rw [mergeV, if_pos hn]
def mrg (h : List Hs) : List Hs := h.take (h.length - 2) ++ [node (h.getD (h.length - 2) []) (h.getD (h.length - 1) [])]
theorem mrg_len {h : List Hs} (h2 : 2 ≤ h.length) : (mrg h).length = h.length - 1 := by unfold mrg; rw [List.length_append, List.length_take]; simp only [List.length_singleton]; omega
theorem mrg_cons {a : Hs} {h : List Hs} (h2 : 2 ≤ h.length) : mrg (a :: h) = a :: mrg h := by
  unfold mrg
  rw [List.length_cons, show h.length + 1 - 2 = (h.length - 2) + 1 from by omega, show h.length + 1 - 1 = (h.length - 1) + 1 from by omega]
  simp
theorem merge_cons : ∀ (e b : Nat) (a : Hs) (h : List Hs), b + 1 < 2 ^ e → h.length = ones b + 1 → mergeV (2 ^ e + b) (a :: h) = a :: mergeV b h
  | 0, b, _, _, hb, _ => by simp at hb
  | e + 1, b, a, h, hb, hl => by
    rw [Nat.pow_succ] at hb
    have h1 : (2 ^ (e + 1) + b) % 2 = b % 2 := by rw [Nat.pow_succ]; omega
    have h2 : (2 ^ (e + 1) + b) / 2 = 2 ^ e + b / 2 := by rw [Nat.pow_succ]; omega
    by_cases ho : b % 2 = 1
    · have hp := ones_pos ho
      have hst := ones_step b
      rw [merge_odd (by rw [h1]; exact ho), merge_odd ho, h2]
      change mergeV _ (mrg (a :: h)) = a :: mergeV _ (mrg h)
      rw [mrg_cons (by omega)]
      exact merge_cons e (b / 2) a (mrg h) (by omega) (by rw [mrg_len (by omega)]; omega)
    · rw [merge_even (by rw [h1]; exact ho), merge_even ho]
theorem ones_full : ∀ e, ones (2 ^ e - 1) = e
  | 0 => ones_zero
  | e + 1 => by
    have hp := Nat.pow_pos (a := 2) (n := e) (by decide)
    rw [ones_step, show (2 ^ (e + 1) - 1) % 2 = 1 from by rw [Nat.pow_succ]; omega, show (2 ^ (e + 1) - 1) / 2 = 2 ^ e - 1 from by rw [Nat.pow_succ]; omega, ones_full e]; omega
theorem merge_full : ∀ (e : Nat) (a z : Hs) (h : List Hs), h.length = e + 1 → mergeV (2 ^ e - 1) h = [z] → mergeV (2 ^ (e + 1) - 1) (a :: h) = [node a z]
  | 0, a, z, h, _, hm => by
    rw [merge_even (by decide)] at hm
    subst hm
    rw [show 2 ^ (0 + 1) - 1 = 1 from rfl, merge_odd (by decide), merge_even (by decide)]; rfl
  | e + 1, a, z, h, hl, hm => by
    have hp := Nat.pow_pos (a := 2) (n := e) (by decide)
    have o1 : (2 ^ (e + 1) - 1) % 2 = 1 := by rw [Nat.pow_succ]; omega
    have d1 : (2 ^ (e + 1) - 1) / 2 = 2 ^ e - 1 := by rw [Nat.pow_succ]; omega
    have o2 : (2 ^ (e + 1 + 1) - 1) % 2 = 1 := by rw [Nat.pow_succ]; omega
    have d2 : (2 ^ (e + 1 + 1) - 1) / 2 = 2 ^ (e + 1) - 1 := by rw [Nat.pow_succ 2 (e + 1)]; omega
    rw [merge_odd o1, d1] at hm
    rw [merge_odd o2, d2]
    change mergeV _ (mrg h) = [z] at hm
    change mergeV _ (mrg (a :: h)) = _
    rw [mrg_cons (by omega)]
    exact merge_full e a z (mrg h) (by rw [mrg_len (by omega)]; omega) hm
/-- n's greatest power of two. -/
theorem top_pow {n : Nat} (h : 0 < n) : ∃ e, spl (n + 1) = 2 ^ e ∧ 2 ^ e ≤ n ∧ n < 2 * 2 ^ e := by
  have h1 := spl_lt (n := n + 1) (by omega)
  have h2 := spl_le (n := n + 1) (by omega)
  obtain ⟨e, he⟩ := spl_exp (n + 1)
  exact ⟨e, he, by omega, by omega⟩
theorem blocks_len : ∀ (N : Nat) (l : List Hs), l.length ≤ N → (blocksV l).length = ones l.length
  | 0, l, h => by
    have : l = [] := List.eq_nil_of_length_eq_zero (by omega)
    subst this; rw [blocks_nil]; exact ones_zero.symm
  | N + 1, l, h => by
    by_cases h0 : 0 < l.length
    · obtain ⟨e, he, h1, h2⟩ := top_pow h0
      have hd : (l.drop (2 ^ e)).length = l.length - 2 ^ e := List.length_drop
      have hp := Nat.pow_pos (a := 2) (n := e) (by decide)
      rw [blocks_cons h0, he, List.length_cons, blocks_len N _ (by omega), hd]
      have := ones_pow e (l.length - 2 ^ e) (by omega)
      rw [show 2 ^ e + (l.length - 2 ^ e) = l.length from by omega] at this
      omega
    · have : l = [] := List.eq_nil_of_length_eq_zero (by omega)
      subst this; rw [blocks_nil]; exact ones_zero.symm
/-- The blocks after a further leaf; and their root where they are one block. -/
theorem blocks_snoc : ∀ (N : Nat) (l : List Hs) (x : Hs), l.length ≤ N → mergeV l.length (blocksV l ++ [x]) = blocksV (l ++ [x])
  | 0, l, x, h => by
    have : l = [] := List.eq_nil_of_length_eq_zero (by omega)
    subst this
    rw [blocks_nil, merge_even (by decide), List.nil_append, blocks_cons (by simp)]
    have : spl ([x].length + 1) = 1 := rfl
    rw [this]
    show [x] = rootV [x] :: blocksV []
    rw [root_one, blocks_nil]
  | N + 1, l, x, h => by
    by_cases h0 : 0 < l.length
    · obtain ⟨e, he, h1, h2⟩ := top_pow h0
      have hp := Nat.pow_pos (a := 2) (n := e) (by decide)
      have hd : (l.drop (2 ^ e)).length = l.length - 2 ^ e := List.length_drop
      have ih := blocks_snoc N (l.drop (2 ^ e)) x (by omega)
      have hbl := blocks_len _ (l.drop (2 ^ e)) (Nat.le_refl _)
      rw [hd] at ih hbl
      have hlen : (l ++ [x]).length = l.length + 1 := by simp
      have hdx : (l ++ [x]).drop (2 ^ e) = l.drop (2 ^ e) ++ [x] := List.drop_append_of_le_length (by omega)
      have htx : (l ++ [x]).take (2 ^ e) = l.take (2 ^ e) := List.take_append_of_le_length (by omega)
      rw [blocks_cons h0, he, List.cons_append]
      have hb : l.length = 2 ^ e + (l.length - 2 ^ e) := by omega
      by_cases hf : l.length + 1 < 2 * 2 ^ e
      · have e2 : spl ((l ++ [x]).length + 1) = 2 ^ e := by rw [hlen]; exact spl_of (by omega) (by rw [Nat.pow_succ]; omega)
        rw [blocks_cons (l := l ++ [x]) (by omega), e2, hdx, htx, ← ih]
        conv => lhs; rw [hb]
        exact merge_cons e _ _ _ (by omega) (by rw [List.length_append, List.length_singleton, hbl])
      · have hk : l.length - 2 ^ e = 2 ^ e - 1 := by omega
        have hn : l.length = 2 ^ (e + 1) - 1 := by rw [Nat.pow_succ]; omega
        have e2 : spl ((l ++ [x]).length + 1) = 2 ^ (e + 1) := by rw [hlen]; exact spl_of (by rw [Nat.pow_succ]; omega) (by rw [Nat.pow_succ, Nat.pow_succ]; omega)
        have e3 : spl (l ++ [x]).length = 2 ^ e := by rw [hlen]; exact spl_of (by omega) (by rw [Nat.pow_succ]; omega)
        have hone : ∀ {y : List Hs}, y.length = 2 ^ e → blocksV y = [rootV y] := fun {y} hy => by
          have e4 : spl (y.length + 1) = 2 ^ e := spl_of (by omega) (by rw [Nat.pow_succ]; omega)
          rw [blocks_cons (by omega), e4, List.take_of_length_le (by omega), List.drop_of_length_le (by omega), blocks_nil]
        rw [hk, hone (y := l.drop (2 ^ e) ++ [x]) (by rw [List.length_append, List.length_singleton, hd]; omega)] at ih
        rw [blocks_cons (l := l ++ [x]) (by omega), e2, List.take_of_length_le (l := l ++ [x]) (by rw [hlen]; omega), List.drop_of_length_le (l := l ++ [x]) (by rw [hlen]; omega), blocks_nil, root_two (l := l ++ [x]) (by omega), e3, hdx, htx]
        rw [hn]
        exact merge_full e _ _ _ (by rw [List.length_append, List.length_singleton, hbl, hk, ones_full]) ih
    · have : l = [] := List.eq_nil_of_length_eq_zero (by omega)
      subst this
      exact blocks_snoc 0 [] x (by simp)
/-- The root of the tree of a frontier. -/
def topV : List Hs → Hs
  | [] => sum []
  | [x] => x
  | x :: r => node x (topV r)
theorem top_cons {x : Hs} {r : List Hs} (h : r ≠ []) : topV (x :: r) = node x (topV r) := by
  cases r with
  | nil => exact absurd rfl h
  | cons y r => rfl
theorem top_blocks : ∀ (N : Nat) (l : List Hs), l.length ≤ N → topV (blocksV l) = rootV l
  | 0, l, h => by
    have : l = [] := List.eq_nil_of_length_eq_zero (by omega)
    subst this; rw [blocks_nil, root_nil]; rfl
  | N + 1, l, h => by
    by_cases h0 : 0 < l.length
    · obtain ⟨e, he, h1, h2⟩ := top_pow h0
      have hp := Nat.pow_pos (a := 2) (n := e) (by decide)
      have hd : (l.drop (2 ^ e)).length = l.length - 2 ^ e := List.length_drop
      have ih := top_blocks N (l.drop (2 ^ e)) (by omega)
      rw [blocks_cons h0, he]
      by_cases hb : l.length = 2 ^ e
      · rw [List.drop_of_length_le (by omega), blocks_nil, List.take_of_length_le (by omega)]; rfl
      · have hs : spl l.length = 2 ^ e := spl_of (by omega) (by rw [Nat.pow_succ]; omega)
        have hne : blocksV (l.drop (2 ^ e)) ≠ [] := by rw [blocks_cons (by omega)]; simp
        rw [top_cons hne, ih, root_two (l := l) (by omega), hs]
    · have : l = [] := List.eq_nil_of_length_eq_zero (by omega)
      subst this; rw [blocks_nil, root_nil]; rfl
end Go.Mk

namespace Go.Wk
section
variable {P : Program} {n : Nat} {κ : World} {al : List (Nat × Value)} {L L1 : List Assn} {o : Oper} {v : Value} {α : Type} {T : Rep α} {a : Option Addr} {m c : Nat} {l l' : List α} {e : TypeId}
theorem cutA_zero (a : Option Addr) (sz c : Nat) : cutA a 0 sz c = a := by
  unfold cutA
  split
  · rfl
  · cases a with
    | none => rfl
    | some p => simp only [Option.map_some, Nat.zero_mul]; unfold Addr.add; simp
theorem Sl.clip (hm : Sl T a m c l ∈ L) : Ent L (Sl T a m m l :: L) :=
  Ent.ro_mk hm fun _ ⟨h1, h2, h3, h4⟩ => ⟨h1, Nat.le_refl _, by omega, h4⟩
/-- A slice's first m, with room for no more. -/
theorem E.clip {T' E : Nat} {x y y' : Operand} {k k' : IntKind} {i i' : Int} (ho : o.op = .slice T' x none (some y) (some y')) (hT : SliceTy P T' E T.sz) (hx : ev al x = some (.slice a m c)) (hm : Sl T a m c l ∈ L) (hy : ev al y = some (.int k i)) (hi : i = (m : Int)) (hy' : ev al y' = some (.int k' i')) (hi' : i' = (m : Int)) :
    OpE P n κ al L o fun v M => v = .slice a m m ∧ M = Sl T a m m l :: L := OpE.of_run fun a' w he hs => by
  obtain ⟨_, _, _, g2, _⟩ := hs.sl hm
  obtain ⟨ti, h5, h6, h7⟩ := hT
  subst hi; subst hi'
  refine ⟨_, w, _, .inl ?_, ⟨rfl, rfl⟩, hs.ent (Sl.clip hm)⟩
  have hc := cutA_zero a ti.size m
  unfold cutA at hc
  simp [execOp, ho, Instr.sliceAt, Instr.slice, Instr.sliceBounds, he.ev hx, he.ev hy, he.ev hy', run_underlying h5, run_sliceBound g2, run_sliceBound (Nat.le_refl m), run_sizeOf_info h6]
  simpa using hc
/-- append to a slice that is not ours and has no room. -/
theorem sep_appendS {T1 T2 ty bytes : Nat} {xv : Value} {w : World} (hsz : 0 < T.sz) (hT : ElemTy P T1 e T.sz bytes) (hT2 : NoInt P T2)
    (hm : Sl T a m m l ∈ L) (hsrc : Src P L T xv l') (h0 : 0 < l'.length) (h47 : (m + l'.length) * bytes ≤ 140737488355328) (h63 : m + l'.length ≤ 9223372036854775807) (hs : Sep κ w L) :
    ∃ a' c' w', (Builtin.append_ #[T1, T2] ty #[.slice a m m, xv]).run P w = .ok (.slice a' (m + l'.length) c') w' ∧ Sep κ w' (Buf T e a' (m + l'.length) c' (l ++ l') :: L) := by
  obtain ⟨s, z, h, d1, d2, d3, H⟩ := hs
  obtain ⟨cs2, hrows2, hone, hread⟩ := hsrc z h H
  obtain ⟨hfirst, hlen⟩ := hread w d2 d3
  obtain ⟨hfirst', _⟩ := hread w.drew d2 d3
  obtain ⟨cs, hrows, hone1, hread1⟩ := Src.sl (P := P) hsz hm z h H
  obtain ⟨hold, _⟩ := hread1 w.drew d2 d3
  have hs : Sep κ w L := ⟨s, z, h, d1, d2, d3, H⟩
  obtain ⟨_, _, hlm, _, hc63, _⟩ := hs.sl hm
  have hl2 : cs2.length = l'.length * T.sz := hrows2.1
  have hcl : cs.length = l.length * T.sz := hrows.1
  have hf2 := hfirst' l'.length (Nat.le_refl _)
  rw [← hl2, List.take_length] at hf2
  have hof := hold l.length (Nat.le_refl _)
  rw [← hcl, List.take_length, hlm] at hof
  have hsep : Sep κ w (ro (fun z => T.rows z cs l) :: ro (fun z => T.rows z cs2 l') :: L) :=
    ⟨s, z, h, d1, d2, d3, Holds.add_ro hrows (Holds.add_ro hrows2 H)⟩
  obtain ⟨zs, hzs, hr⟩ := run_append_more (P := P) (ty := ty) (c := m) hT hT2 hlen hf2 hof (by omega) h47 h63
  have hge := grownCap_ge w (m + l'.length) m e
  have hle := grownCap_le_maxLen w (m + l'.length) m e (by unfold maxLen; omega)
  generalize hC : grownCap w (m + l'.length) m e = C at *
  generalize hR : (Builtin.zeroCells zs (C - (m + l'.length))).toList = rest
  have hrl : rest.length = (C - (m + l'.length)) * T.sz := by rw [← hR]; simp [size_zeroCells', hzs]
  refine ⟨_, _, _, hr, ?_⟩
  have hs3 : Sep κ w.drew (ro (fun z => T.rows z cs l) :: ro (fun z => T.rows z cs2 l') :: L) := hsep.drew _
  have hs4 := hs3.new (A := BlkF w.heap.size e ((cs ++ cs2) ++ rest) (0, 0)) (o := .cells ((cs ++ cs2) ++ rest).toArray e (0, 0)) (fun _ => by show Frag.one w.heap.size _ w.heap.size = some _; simp [Frag.one])
  have hcells : (cs.toArray ++ cs2.toArray ++ Builtin.zeroCells zs (C - (m + l'.length))) = ((cs ++ cs2) ++ rest).toArray := by
    apply Array.ext'; simp [← hR]
  rw [hcells]
  refine hs4.ent ?_
  refine Ent.trans (Ent.frame _ (?_ : Ent _ (ro (fun z => T.rows z (cs ++ cs2) (l ++ l')) :: L))) (Buf.close (by simp [hlm]) hge (by simpa [maxLen] using hle) (fun i _ => by omega) ?_)
  · rintro z h ⟨h1, h2, z1, g1, g2, g3, g4, q, h3, h4, z2, g1', g2', g3', g4', q', H'⟩
    exact Holds.add_ro (Rep.rows.append (q.mono g1) (q'.mono g1')) (Holds.mono (Frag.le.refl _) (g4'.trans g4) H')
  · simp only [List.length_append, hcl, hl2, hrl, hlm]
    rw [← Nat.add_mul, ← Nat.add_mul]; congr 1; omega
theorem E.appendS {T1 T2 bytes : Nat} {xs : Array Operand} {ts : Array TypeId} {sx xx : Operand} {xv : Value} (hsz : 0 < T.sz) (ho : o.op = .call ⟨.builtin .append, xs, ts⟩) (hxs : xs = #[sx, xx]) (hts : ts = #[T1, T2]) (hT : ElemTy P T1 e T.sz bytes) (hT2 : NoInt P T2)
    (hx : ev al sx = some (.slice a m m)) (hy : ev al xx = some xv) (hm : Sl T a m m l ∈ L) (hsrc : Src P L T xv l') (h0 : 0 < l'.length) (h47 : (m + l'.length) * bytes ≤ 140737488355328) (h63 : m + l'.length ≤ 9223372036854775807) :
    OpE P n κ al L o fun v M => ∃ a' c', v = .slice a' (m + l'.length) c' ∧ M = Buf T e a' (m + l'.length) c' (l ++ l') :: L := OpE.of_run fun a' w he hs => by
  subst hxs; subst hts
  obtain ⟨a2, c2, w', hr, hs'⟩ := sep_appendS (ty := o.type) hsz hT hT2 hm hsrc h0 h47 h63 hs
  refine ⟨_, w', _, .inl ?_, ⟨a2, c2, rfl, rfl⟩, hs'⟩
  simp [execOp, ho, resolve, invoke, builtin, he.ev hx, he.ev hy, hr]
/-- What lies in a slice of arrays has their length. -/
theorem Sep.slArr {k : Nat} {w : World} {l : List (List UInt8)} (hs : Sep κ w L) (hm : Sl (RArr8 k) a m c l ∈ L) : ∀ x ∈ l, x.length = k := by
  obtain ⟨z, _, k1, _, _, k4⟩ := hs.sl hm
  intro x hx
  obtain ⟨j, hj⟩ := List.getElem?_of_mem hx
  have hjl := (List.getElem?_eq_some_iff.1 hj).1
  rcases k4 with k4 | ⟨b, off, cs, _, _, hr⟩
  · omega
  · exact (hr.2 j x hj).2
theorem B.shl1 {P : Program} {k' : IntKind} {k : Nat} (hk : k ≤ 40) : BinRun P .shl (vI 1) (.int k' (k : Int)) (vI ((2 ^ k : Nat) : Int)) := by
  have h := B.shl (P := P) (k := .i64) (k' := k') (x := 1) (y := (k : Int)) (by omega)
  have e : IntKind.i64.wrap (1 * 2 ^ (min ((k : Int)).toNat IntKind.i64.bits)) = ((2 ^ k : Nat) : Int) := by
    have h2 : 2 ^ k ≤ 2 ^ 40 := Nat.pow_le_pow_right (by decide) hk
    have h3 : min ((k : Int)).toNat IntKind.i64.bits = k := by simp [IntKind.bits]; omega
    rw [h3, Int.one_mul]
    have h4 : (2 : Int) ^ k = ((2 ^ k : Nat) : Int) := by simp
    rw [h4]
    generalize 2 ^ k = q at h2 ⊢
    simp [IntKind.wrap, IntKind.bits, IntKind.signed]; omega
  rwa [e] at h
end
end Go.Wk

namespace Go.Wk
open Go.RowKit
section
variable {P : Program} {n m : Nat} {κ : World} {al al' : List (Nat × Value)} {L L' : List Assn} {o : Oper} {v : Value} {ro : Option Nat} {Q : Exit → Act → World → Prop} {ops : Array Oper} {rest : List Oper} {ds : List Deferred}
def Fw (ro : Option Nat) : Fence := { Fence.wide with round := ro }
theorem callsFw {f : FuncId} {args : Array Value} {w : World} {R : Ending → World → Prop} (h : Calls P f args w R) : CallsIn (Fw ro) m P f args w R := callsIn_wide (n := m).2 h
theorem rowsFw {row : String} {args : Array Value} {w : World} {R : Value → World → Prop} (h : Rows P row args w R) : RowsIn (Fw ro) m P row args w R :=
  fun c cs _ => let ⟨v, w', r, s⟩ := h c cs; ⟨v, w', r, stepsIn_wide.2 s⟩
theorem put_defers (a : Act) (d : Option Tmp) (v : Value) : (a.put d v).defers = a.defers := by cases d <;> rfl
theorem put_clear (a : Act) (d : Option Tmp) (v : Value) : ({ a.put d v with defers := [] } : Act) = ({ a with defers := [] } : Act).put d v := by cases d <;> rfl
theorem put_inj {a : Act} {d : Option Tmp} {v v' : Value} (h : ({ a with defers := [] } : Act).put d v = ({ a with defers := [] } : Act).put d v') : a.put d v = a.put d v' := by
  cases d with
  | none => rfl
  | some d =>
    simp only [Act.put, Act.mk.injEq, and_true] at h ⊢
    exact h
theorem wpIn_opV {a : Act} {w : World} {next : Act → World → Prop} (hd : ∀ c, o.op ≠ .defer c) (hv : OpV P n κ al L o v) (he : Env n al { a with defers := [] }) (hs : Sep κ w L) (h : next (a.put o.dst v) w) : o.wpIn (Fw ro) m P a w next Q := by
  refine ⟨fun _ _ => trivial, ?_⟩
  rw [Oper.semAt_eq _ _ _ hd]
  have := hv _ w he hs
  change (execOp a.eval o).run P w = _ at this
  rw [this]; exact h
theorem wpIn_opE {K : Post} {a : Act} {w : World} {next : Act → World → Prop} (hd : ∀ c, o.op ≠ .defer c) (hv : OpE P n κ al L o K) (he : Env n al { a with defers := [] }) (hs : Sep κ w L) (h : ∀ v w', K.at κ v w' → next (a.put o.dst v) w') : o.wpIn (Fw ro) m P a w next Q := by
  refine ⟨fun _ _ => trivial, ?_⟩
  rw [Oper.semAt_eq _ _ _ hd]
  have hw := hv _ w he hs
  unfold Oper.wp at hw
  change Oper.upon P o _ _ _ ((execOp a.eval o).run P w) at hw
  generalize (execOp a.eval o).run P w = r at hw ⊢
  cases r with
  | ok x w' =>
    cases x with
    | value u =>
      obtain ⟨v, e, hK⟩ := hw
      show next (a.put o.dst u) w'
      rw [put_inj e]; exact h v w' hK
    | skip =>
      obtain ⟨v, e, hK⟩ := hw
      show next (a.put o.dst undef) w'
      rw [put_inj e]; exact h v w' hK
    | defer d =>
      obtain ⟨v, e, hK⟩ := hw
      have := congrArg Act.defers e
      rw [put_defers, put_defers] at this
      cases this
    | enter f args =>
      refine ⟨fun hh => by simp [Fw, Fence.wide] at hh, callsFw (Calls.mono hw ?_)⟩
      intro e w'' hh
      cases e with
      | returned u =>
        obtain ⟨v, e, hK⟩ := hh
        show next (a.put o.dst u) w''
        rw [put_inj e]; exact h v w'' hK
      | panicked c => exact hh.elim
      | outgrown =>
        obtain ⟨_, _, q⟩ := hh
        exact q.elim
    | row r args =>
      refine ⟨fun hh => by simp [Fw, Fence.wide] at hh, rowsFw (Rows.mono hw ?_)⟩
      rintro u w'' ⟨v, e, hK⟩
      show next (a.put o.dst u) w''
      rw [put_inj e]; exact h v w'' hK
    | _ => exact hw.elim
  | halt x w' =>
    cases x <;> exact hw.elim
/-- The region's operations, within the kit's judgement. -/
def WL (P : Program) (ro : Option Nat) (m n : Nat) (κ : World) (ds : List Deferred) (Q : Exit → Act → World → Prop) (ops : Array Oper) (rest : List Oper) (al : List (Nat × Value)) (L : List Assn) : Prop :=
  ∀ a w, a.defers = ds → Env n al { a with defers := [] } → Sep κ w L → wpListIn (Fw ro) m P ops Q rest a w
theorem WL.nil (h : ∀ a w, a.defers = ds → Env n al { a with defers := [] } → Sep κ w L → Q .normal a w) : WL P ro m n κ ds Q ops [] al L := h
theorem WL.val (hd : ∀ c, o.op ≠ .defer c) (hw : Wanted n ops o al true) (hv : OpV P n κ al L o v) (hf : fits n o.dst = true) (h : WL P ro m n κ ds Q ops rest (upd al o.dst v) L) : WL P ro m n κ ds Q ops (o :: rest) al L := by
  intro a w ha he hs
  refine wpListIn_step fun K' hK' => ?_
  have := hw _ he
  change Region.wanted o (yielded ops a.tmps) = true at this
  rw [if_pos this]
  refine wpIn_opV hd hv he hs (hK' _ _ (h _ w ?_ ?_ hs))
  · rw [put_defers]; exact ha
  · rw [put_clear]; exact he.put v hf
theorem WL.eff {K : Post} (hd : ∀ c, o.op ≠ .defer c) (hw : Wanted n ops o al true) (hv : OpE P n κ al L o K) (hf : fits n o.dst = true) (h : ∀ v L', K v L' → WL P ro m n κ ds Q ops rest (upd al o.dst v) L') : WL P ro m n κ ds Q ops (o :: rest) al L := by
  intro a w ha he hs
  refine wpListIn_step fun K' hK' => ?_
  have := hw _ he
  change Region.wanted o (yielded ops a.tmps) = true at this
  rw [if_pos this]
  refine wpIn_opE hd hv he hs fun v w' ⟨M, hM, hs'⟩ => hK' _ _ (h v M hM _ w' ?_ ?_ hs')
  · rw [put_defers]; exact ha
  · rw [put_clear]; exact he.put v hf
theorem WL.ent (hL : Ent L L') (h : WL P ro m n κ ds Q ops rest al L') : WL P ro m n κ ds Q ops rest al L := fun a w ha he hs => h a w ha he (hs.ent hL)
/-- Code, within the kit's judgement. -/
def WG (P : Program) (ro : Option Nat) (m n : Nat) (κ : World) (ds : List Deferred) (Q : Exit → Act → World → Prop) (c : Code) (al : List (Nat × Value)) (L : List Assn) : Prop :=
  ∀ a w, a.defers = ds → Env n al { a with defers := [] } → Sep κ w L → c.wpIn (Fw ro) m P Q a w
theorem WG.seq {x y : Code} (h : WG P ro m n κ ds (Exit.then (y.wpIn (Fw ro) m P Q) Q) x al L) : WG P ro m n κ ds Q (.seq x y) al L := fun a w ha he hs => wpIn_seq (h a w ha he hs)
theorem WG.region {id : Nat} {l : List Oper} (h : WL P ro m n κ ds Q l.toArray l al L) : WG P ro m n κ ds Q (.region id l.toArray false) al L := fun a w ha he hs => wpIn_region_lit (h a w ha he hs)
theorem WG.block {id : Nat} {c : Code} (h : WG P ro m n κ ds (Exit.inBlock id Q) c al L) : WG P ro m n κ ds Q (.block id c) al L := fun a w ha he hs => wpIn_block (h a w ha he hs)
theorem WG.skip (h : ∀ a w, a.defers = ds → Env n al { a with defers := [] } → Sep κ w L → Q .normal a w) : WG P ro m n κ ds Q .skip al L := fun a w ha he hs => wpIn_skip (h a w ha he hs)
theorem WG.ret (h : ∀ a w, a.defers = ds → Env n al { a with defers := [] } → Sep κ w L → Q .ret a w) : WG P ro m n κ ds Q .ret al L := fun a w ha he hs => wpIn_ret (h a w ha he hs)
theorem WG.cond {c : Operand} {x y : Code} {t : Bool} (hc : ev al c = some (.bool t)) (h1 : t = true → WG P ro m n κ ds Q x al L) (h2 : t = false → WG P ro m n κ ds Q y al L) : WG P ro m n κ ds Q (.cond c x y) al L := fun a w ha he hs =>
  wpIn_cond_split (t := t) (by have := he.ev hc; exact this) (fun e => h1 e a w ha he hs) (fun e => h2 e a w ha he hs)
/-- Behind a first part the second one. -/
theorem WL.then {y : Code} (h : WG P ro m n κ ds Q y al L) : WL P ro m n κ ds (Exit.then (y.wpIn (Fw ro) m P Q) Q) ops [] al L := fun a w ha he hs => h a w ha he hs
theorem WG.then {y : Code} (h : WG P ro m n κ ds Q y al L) : WG P ro m n κ ds (Exit.then (y.wpIn (Fw ro) m P Q) Q) .skip al L := fun a w ha he hs => wpIn_skip (h a w ha he hs)
end
section
variable {κ w w' : World} {L : List Assn} {b : Nat} {T : TypeId} {cs cs' : List Value}
/-- A block of ours is another one now; the rest of what was there is as it was. -/
theorem Sep.turn (hs : Sep κ w (Blk b T cs :: L)) (hb : b < w.heap.size) (h : Below w.heap.size (w.putObj b (.cells cs'.toArray T (0, 0))) w') : Sep κ w' (Blk b T cs' :: L) := by
  obtain ⟨s, z, x, a, hz, hx, h1, h2, z1, e, f, g, i, j, k⟩ := hs
  have hbx : h1 b = some (.cells cs.toArray T (0, 0)) := j
  have hzn : z b = none := by
    rcases a b with h' | h'
    · exact h'
    · have := g b _ hbx; rw [h'] at this; cases this
  have h2n : h2 b = none := by
    rcases f b with h' | h'
    · rw [hbx] at h'; cases h'
    · exact h'
  have hold : ∀ k o, w.heap[k]? = some o → k ≠ b → w'.heap[k]? = some o := fun k o hk hne => by
    have hlt := (Array.getElem?_eq_some_iff.1 hk).1
    rw [h.block k hlt, World.putObj_heap_other hne]; exact hk
  have hnew : w'.heap[b]? = some (.cells cs'.toArray T (0, 0)) := by
    rw [h.block b hb]
    exact World.putObj_heap_same hb
  have hos : w'.os = κ.os := h.os.trans s.os
  have hta : w'.tape = κ.tape := h.tape.trans s.tape
  have hou : w'.output = κ.output := h.output.trans s.output
  have d1 : (Frag.one b (.cells cs'.toArray T (0, 0))).disj h2 := fun k => by
    by_cases e : k = b
    · subst e; exact .inr h2n
    · left; simp [Frag.one, e]
  refine ⟨⟨hos, hta, hou⟩, z, (Frag.one b (.cells cs'.toArray T (0, 0))).un h2, ?_, ?_, ?_, Frag.one b (.cells cs'.toArray T (0, 0)), h2, z1, e, d1, Frag.le_un_left _ _, Frag.le_un_right d1, ?_, k⟩
  · refine (Frag.un_disj (fun k => ?_) ((a.mono (Frag.le.refl _) i).symm)).symm
    by_cases e : k = b
    · subst e; exact .inr hzn
    · left; simp [Frag.one, e]
  · intro k o hk
    have hne : k ≠ b := fun e => by subst e; rw [hzn] at hk; cases hk
    exact hold k o (hz k o hk) hne
  · refine Frag.un_le (fun k o hk => ?_) (fun k o hk => ?_)
    · simp only [Frag.one] at hk
      split at hk
      · rename_i e; subst e; cases hk; exact hnew
      · cases hk
    · have hne : k ≠ b := fun e => by subst e; rw [h2n] at hk; cases hk
      exact hold k o (hx k o (i k o hk)) hne
  · show Frag.one b _ b = _
    simp [Frag.one]
/-- An object that is not cells is of our own. -/
def ObjO (D : Nat) (o : Obj) : Assn := fun _ h => h D = some o
theorem Sep.obj {D : Nat} {o : Obj} (hs : Sep κ w (ObjO D o :: L)) : w.heap[D]? = some o := by
  obtain ⟨_, z, x, _, _, c, h1, _, _, _, _, g, _, j, _⟩ := hs
  exact c D _ (g D _ j)
end
end Go.Wk
namespace Go.Wk
open Go.RowKit
section
variable {P : Program} {n m : Nat} {κ : World} {al : List (Nat × Value)} {L : List Assn} {o : Oper} {ro : Option Nat} {Q : Exit → Act → World → Prop} {ops : Array Oper} {rest : List Oper} {ds : List Deferred}
theorem WL.cmp {p : Prop} [Decidable p] (hd : ∀ c, o.op ≠ .defer c) (hw : Wanted n ops o al true) (hv : OpV P n κ al L o (.bool (decide p))) (hf : fits n o.dst = true) (h1 : p → WL P ro m n κ ds Q ops rest (upd al o.dst (.bool true)) L) (h2 : ¬ p → WL P ro m n κ ds Q ops rest (upd al o.dst (.bool false)) L) : WL P ro m n κ ds Q ops (o :: rest) al L := by
  by_cases hp : p
  · exact WL.val hd hw (by rwa [decide_eq_true hp] at hv) hf (h1 hp)
  · exact WL.val hd hw (by rwa [decide_eq_false hp] at hv) hf (h2 hp)
end
section
variable {κ w w' : World} {L : List Assn} {b : Nat} {T : TypeId} {cs cs' : List Value}
theorem Sep.turnD {D : Nat} {o : Obj} (hs : Sep κ w (Blk b T cs :: L)) (hb : b < w.heap.size) (h : Below w.heap.size (w.putObj b (.cells cs'.toArray T (0, 0))) w') (hD : w.heap.size ≤ D) (ho : w'.heap[D]? = some o) : Sep κ w' (ObjO D o :: Blk b T cs' :: L) := by
  obtain ⟨s, z, x, a, hz, hx, h1, h2, z1, e, f, g, i, j, k⟩ := hs
  have hbx : h1 b = some (.cells cs.toArray T (0, 0)) := j
  have hzn : z b = none := by
    rcases a b with h' | h'
    · exact h'
    · have := g b _ hbx; rw [h'] at this; cases this
  have h2n : h2 b = none := by
    rcases f b with h' | h'
    · rw [hbx] at h'; cases h'
    · exact h'
  have dom : ∀ {F : Frag}, F.le (Frag.of w) → F D = none := fun {F} hF => by
    cases hFD : F D with
    | none => rfl
    | some o' => have := (Array.getElem?_eq_some_iff.1 (hF D _ hFD)).1; omega
  have hne : D ≠ b := by omega
  have hold : ∀ k o, w.heap[k]? = some o → k ≠ b → w'.heap[k]? = some o := fun k o hk hne => by
    have hlt := (Array.getElem?_eq_some_iff.1 hk).1
    rw [h.block k hlt, World.putObj_heap_other hne]; exact hk
  have hnew : w'.heap[b]? = some (.cells cs'.toArray T (0, 0)) := by
    rw [h.block b hb]
    exact World.putObj_heap_same hb
  have d1 : (Frag.one b (.cells cs'.toArray T (0, 0))).disj h2 := fun k => by
    by_cases e : k = b
    · subst e; exact .inr h2n
    · left; simp [Frag.one, e]
  have hrest : ((Frag.one b (.cells cs'.toArray T (0, 0))).un h2).le (Frag.of w') := Frag.un_le (fun k o hk => by
      simp only [Frag.one] at hk
      split at hk
      · rename_i e; subst e; cases hk; exact hnew
      · cases hk) (fun k o hk => hold k o (hx k o (i k o hk)) fun e => by subst e; rw [h2n] at hk; cases hk)
  have d2 : (Frag.one D o).disj ((Frag.one b (.cells cs'.toArray T (0, 0))).un h2) := fun k => by
    by_cases e : k = D
    · subst e; right
      have := dom (i.trans hx)
      simp [Frag.un, Frag.one, hne, this]
    · left; simp [Frag.one, e]
  have dz : z.disj ((Frag.one b (.cells cs'.toArray T (0, 0))).un h2) := (Frag.un_disj (fun k => by
    by_cases e : k = b
    · subst e; exact .inr hzn
    · left; simp [Frag.one, e]) ((a.mono (Frag.le.refl _) i).symm)).symm
  refine ⟨⟨h.os.trans s.os, h.tape.trans s.tape, h.output.trans s.output⟩, z, (Frag.one D o).un ((Frag.one b (.cells cs'.toArray T (0, 0))).un h2), ?_, ?_, ?_, Frag.one D o, (Frag.one b (.cells cs'.toArray T (0, 0))).un h2, Frag.emp, Frag.emp_le _, d2, Frag.le_un_left _ _, Frag.le_un_right d2, ?_, Frag.one b (.cells cs'.toArray T (0, 0)), h2, z1, e, d1, Frag.le_un_left _ _, Frag.le_un_right d1, ?_, k⟩
  · refine (Frag.un_disj (fun k => ?_) dz.symm).symm
    by_cases e : k = D
    · subst e; exact .inr (dom hz)
    · left; simp [Frag.one, e]
  · intro k o hk
    have hne : k ≠ b := fun e => by subst e; rw [hzn] at hk; cases hk
    exact hold k o (hz k o hk) hne
  · refine Frag.un_le (fun k o' hk => ?_) hrest
    simp only [Frag.one] at hk
    split at hk
    · rename_i e; subst e; cases hk; exact ho
    · cases hk
  · show Frag.one D _ D = _
    simp [Frag.one]
  · show Frag.one b _ b = _
    simp [Frag.one]
theorem Sep.dropObj {D : Nat} {o o' : Obj} (hs : Sep κ w (ObjO D o :: L)) : Sep κ (w.putObj D o') L := by
  obtain ⟨s, z, x, a, hz, hx, h1, h2, z1, e, f, g, i, j, k⟩ := hs
  have hj : h1 D = some o := j
  have hzn : z D = none := by
    rcases a D with h' | h'
    · exact h'
    · have := g D _ hj; rw [h'] at this; cases this
  have h2n : h2 D = none := by
    rcases f D with h' | h'
    · rw [hj] at h'; cases h'
    · exact h'
  refine ⟨⟨s.os, s.tape, s.output⟩, z, h2, a.mono (Frag.le.refl _) i, fun k o hk => ?_, fun k o hk => ?_, k⟩
  · show (w.putObj D o').heap[k]? = some o
    rw [World.putObj_heap_other (fun e => by subst e; rw [hzn] at hk; cases hk)]; exact hz k o hk
  · show (w.putObj D o').heap[k]? = some o
    rw [World.putObj_heap_other (fun e => by subst e; rw [h2n] at hk; cases hk)]; exact hx k o (i k o hk)
/-- All but two blocks and block 0, as they are in W. -/
def OldX (W : World) (b b' : Nat) : Assn := fun _ h => ∀ j o, j ≠ b → j ≠ b' → j ≠ 0 → W.heap[j]? = some o → h j = some o
theorem Sep.old {W : World} {b b' : Nat} (hs : Sep κ w (OldX W b b' :: L)) {j : Nat} {o : Obj} (h1 : j ≠ b) (h2 : j ≠ b') (h3 : j ≠ 0) (hj : W.heap[j]? = some o) : w.heap[j]? = some o := by
  obtain ⟨_, z, x, _, _, c, h1', _, _, _, _, g, _, hO, _⟩ := hs
  exact c j _ (g j _ (hO j o h1 h2 h3 hj))
/-- A world, as what is ours of it: two blocks, the rest, and block 0 that does not change. -/
theorem Sep.here {W : World} {b b' : Nat} {T T' : TypeId} {cs cs' : List Value} (h0 : b ≠ 0) (h0' : b' ≠ 0) (hne : b ≠ b') (hb : W.heap[b]? = some (.cells cs.toArray T (0, 0))) (hb' : W.heap[b']? = some (.cells cs'.toArray T' (0, 0))) : Sep W W [Blk b T cs, Blk b' T' cs', OldX W b b', ro (fun z => z 0 = W.heap[0]?)] := by
  refine ⟨⟨rfl, rfl, rfl⟩, (fun j => if j = 0 then W.heap[0]? else none), (fun j => if j = 0 then none else W.heap[j]?), fun j => ?_, fun j o hj => ?_, fun j o hj => ?_, ?_⟩
  · by_cases e : j = 0
    · right; simp [e]
    · left; simp [e]
  · change (if j = 0 then W.heap[0]? else none) = some o at hj
    split at hj
    · rename_i e; subst e; exact hj
    · cases hj
  · change (if j = 0 then none else W.heap[j]?) = some o at hj
    split at hj
    · cases hj
    · exact hj
  · refine ⟨Frag.one b (.cells cs.toArray T (0, 0)), (fun j => if j = 0 ∨ j = b then none else W.heap[j]?), Frag.emp, Frag.emp_le _, fun j => ?_, fun j o hj => ?_, fun j o hj => ?_, by show Frag.one b _ b = _; simp [Frag.one], ?_⟩
    · by_cases e : j = b
      · right; simp [e]
      · left; simp [Frag.one, e]
    · simp only [Frag.one] at hj
      split at hj
      · rename_i e; subst e; cases hj; simp [h0, hb]
      · cases hj
    · simp only at hj ⊢
      split at hj
      · cases hj
      · rename_i e; rw [if_neg (fun e' => e (.inl e'))]; exact hj
    · refine ⟨Frag.one b' (.cells cs'.toArray T' (0, 0)), (fun j => if j = 0 ∨ j = b ∨ j = b' then none else W.heap[j]?), Frag.emp, Frag.emp_le _, fun j => ?_, fun j o hj => ?_, fun j o hj => ?_, by show Frag.one b' _ b' = _; simp [Frag.one], ?_⟩
      · by_cases e : j = b'
        · right; simp [e]
        · left; simp [Frag.one, e]
      · simp only [Frag.one] at hj
        split at hj
        · rename_i e; subst e; cases hj; simp [h0', hb', Ne.symm hne]
        · cases hj
      · simp only at hj ⊢
        split at hj
        · cases hj
        · rename_i e; rw [if_neg (fun e' => e (e'.elim .inl fun x => .inr (.inl x)))]; exact hj
      · refine ⟨(fun j => if j = 0 ∨ j = b ∨ j = b' then none else W.heap[j]?), Frag.emp, Frag.emp, Frag.emp_le _, fun _ => .inr rfl, Frag.le.refl _, Frag.emp_le _, fun j o k1 k2 k3 hj => ?_, ?_⟩
        · simp only; rw [if_neg (fun e => e.elim k3 fun e => e.elim k1 k2)]; exact hj
        · exact ⟨Frag.emp, Frag.emp, _, Frag.le.refl _, fun _ => .inl rfl, Frag.le.refl _, Frag.le.refl _, by show (if (0 : Nat) = 0 then W.heap[0]? else none) = _; rw [if_pos rfl], trivial⟩
theorem Sep.zero {W : World} (hs : Sep κ w (ro (fun z => z 0 = W.heap[0]?) :: L)) {o : Obj} (h : W.heap[0]? = some o) : w.heap[0]? = some o := by
  obtain ⟨z, hz, e⟩ := hs.get_ro (List.Mem.head _)
  exact hz 0 o (e.trans h)
end
end Go.Wk
namespace Go.Wk
open Go.RowKit
section
variable {P : Program} {f : FuncId} {k m : Nat} {κ : World} {K : Post} {al : List (Nat × Value)} {L L' : List Assn} {v : Value} {fn : Func} {c : Code}
/-- What a call comes to. -/
def RK (κ : World) (K : Post) : Ending → World → Prop := fun e w' => ∃ v, e = .returned v ∧ K.at κ v w'
theorem WG.enter {vs : List Value} (m : Nat) (hf : P.funcs[f]? = some fn) (hb : fn.body = some c) (hal : zipAl 0 vs = al) (hm : vs.length + (fn.ntmps - vs.length) = k)
    (h : WG P none m k κ [] (bodyPostM (Fw none) m P fn (RK κ K)) c al L) : Ctr P f vs.toArray κ L K := by
  subst hal; subst hm
  intro w hw
  refine (callsIn_wide (n := m)).1 (callsIn_of_wp_marks hf hb trivial (h _ w rfl ?_ hw) rfl)
  have hm' : vs.toArray.size + (fn.ntmps - vs.toArray.size) = vs.length + (fn.ntmps - vs.length) := by simp
  rw [← hm']
  exact Env.enter fun t v ht => by
    have := (look_zipAl vs 0 t v ht).2
    simpa using this
theorem ret_mark0 (hR : ReturnsOf P f k κ al L v) (hf : P.funcs[f]? = some fn) (hK : K v L') (hE : Ent L L') (a : Act) (w : World) (hd : a.defers = []) (he : Env k al { a with defers := [] }) (hs : Sep κ w L) : bodyPostM (Fw none) m P fn (RK κ K) .ret a w := by
  obtain ⟨fn', hf', h⟩ := hR
  cases hf.symm.trans hf'
  show LeavesInM (Fw none) m P fn a.tmps (RK κ K) a.defers .returning w
  rw [hd]
  exact ⟨v, h { a with defers := [] } w he hs, v, rfl, L', hK, hs.ent hE⟩
theorem ret_mark1 {D : Nat} (hR : ReturnsOf P f k κ al L v) (hf : P.funcs[f]? = some fn) (hK : K v L') (hE : Ent L L') (a : Act) (w : World) (hd : a.defers = [{ target := .collected D, args := #[] }]) (he : Env k al { a with defers := [] })
    (hs : Sep κ w (ObjO D (.deferred (some [])) :: L)) : bodyPostM (Fw none) m P fn (RK κ K) .ret a w := by
  obtain ⟨fn', hf', h⟩ := hR
  cases hf.symm.trans hf'
  show LeavesInM (Fw none) m P fn a.tmps (RK κ K) a.defers .returning w
  rw [hd]
  have hs' : Sep κ (w.putObj D (.deferred none)) L := hs.dropObj
  exact ⟨by simp, .inl ⟨D, _, rfl, run_takeDeferred hs.obj, v, h { a with defers := [] } _ he hs', v, rfl, L', hK, hs'.ent hE⟩⟩
end
end Go.Wk

namespace Go.Wk
section
variable {P : Program} {n : Nat} {κ : World} {K K' : Post} {al : List (Nat × Value)} {L L1 : List Assn} {o : Oper} {v : Value} {k : Nat}
theorem OpE.imp (h : OpE P n κ al L o K) (hK : ∀ v M, K v M → ∃ M', K' v M' ∧ ∀ w, Sep κ w M → Sep κ w M') : OpE P n κ al L o K' := fun a w he hs =>
  Oper.wp_imp (fun _ _ ⟨v, e, M, q, s⟩ => let ⟨M', q', f⟩ := hK v M q; ⟨v, e, M', q', f _ s⟩) (fun _ _ _ h => h) (h a w he hs)
theorem Ent.litA {b e m : Nat} {cs : List Value} {l : List (List UInt8)} (hl : l.length = m) (hc : cs.length = m * k) (hb : m ≤ 9223372036854775807) (hR : ∀ z, (RArr8 k).rows z cs l) : ∀ w, Sep κ w (Blk b e cs :: L) → Sep κ w (Sl (RArr8 k) (some ⟨b, 0, none⟩) m m l :: L) :=
  fun w hs => Buf.publish (L1 := L) (fun h => h) w (hs.ent (Buf.of_els (T := RArr8 k) Pick.here hc hl hb fun z _ _ => hR z))
theorem rowA {z : Frag} {x : List UInt8} (h : x.length = k) : (RArr8 k).rows z (x.map v8) [x] := Rep.rows.single ⟨rfl, h⟩
theorem E.litA1 {T' E0 : Nat} {p : Operand} {zE : List Value} (x : List UInt8) (ho : o.op = .buildSlice T' 1 #[(0, p)]) (hT : SliceTy P T' E0 k) (hz : Zero P E0 zE) (hlen : zE.length = k) (hsz : 0 < k) (h24 : k ≤ 16777216) (hx : ev al p = some (.agg (x.map v8).toArray)) (hxl : x.length = k) :
    OpE P n κ al L o fun v M => ∃ b, v = .slice (some ⟨b, 0, none⟩) 1 1 ∧ M = Sl (RArr8 k) (some ⟨b, 0, none⟩) 1 1 [x] :: L :=
  (E.lit1 (x.map v8) ho hT hz hlen hsz h24 hx rfl (by simpa using hxl)).imp fun _ _ ⟨b, e1, e2⟩ => ⟨_, ⟨b, e1, rfl⟩, e2 ▸ Ent.litA rfl (by simpa using hxl) (by decide) fun _ => rowA hxl⟩
theorem E.litA2 {T' E0 : Nat} {p q : Operand} {zE : List Value} (x y : List UInt8) (ho : o.op = .buildSlice T' 2 #[(0, p), (1, q)]) (hT : SliceTy P T' E0 k) (hz : Zero P E0 zE) (hlen : zE.length = k) (hsz : 0 < k) (h24 : 2 * k ≤ 16777216) (hx : ev al p = some (.agg (x.map v8).toArray)) (hxl : x.length = k) (hy : ev al q = some (.agg (y.map v8).toArray)) (hyl : y.length = k) :
    OpE P n κ al L o fun v M => ∃ b, v = .slice (some ⟨b, 0, none⟩) 2 2 ∧ M = Sl (RArr8 k) (some ⟨b, 0, none⟩) 2 2 [x, y] :: L :=
  (E.lit2 (x.map v8) (y.map v8) ho hT hz hlen hsz h24 hx rfl (by simpa using hxl) hy rfl (by simpa using hyl)).imp fun _ _ ⟨b, e1, e2⟩ => ⟨_, ⟨b, e1, rfl⟩, e2 ▸ Ent.litA rfl (by simp; omega) (by decide) fun _ => Rep.rows.append (l := [x]) (l' := [y]) (rowA hxl) (rowA hyl)⟩
theorem E.lit3 {T' E0 sz : Nat} {x y t : Operand} {u v u' : Value} {zE : List Value} (us vs ws : List Value) (ho : o.op = .buildSlice T' 3 #[(0, x), (1, y), (2, t)]) (hT : SliceTy P T' E0 sz) (hz : Zero P E0 zE) (hlen : zE.length = sz) (hsz : 0 < sz) (h24 : 3 * sz ≤ 16777216) (hx : ev al x = some u) (hu : u.cells = us.toArray) (hul : us.length = sz) (hy : ev al y = some v) (hv : v.cells = vs.toArray) (hvl : vs.length = sz) (ht : ev al t = some u') (hw : u'.cells = ws.toArray) (hwl : ws.length = sz) :
    OpE P n κ al L o fun v M => ∃ b, v = .slice (some ⟨b, 0, none⟩) 3 3 ∧ M = Blk b E0 (us ++ (vs ++ ws)) :: L := by
  have hs : ∃ i, P.info? E0 = some i ∧ i.size = sz := let ⟨i, _, a, b⟩ := hT; ⟨i, a, b⟩
  refine E.buildSlice (sz := sz) [(0, us), (1, vs), (2, ws)] ho hT (bl_of hz hs hlen rfl hsz) hsz h24 (by omega) ⟨rfl, ⟨u, hx, hu⟩, rfl, ⟨v, hy, hv⟩, rfl, ⟨u', ht, hw⟩, trivial⟩ ?_
  have := fillL_full (sz := sz) [us, vs, ws] 0 [] ((List.range (3 * sz)).map fun j => zE.getD (j % sz) undef) (by simp) (by simp) (by simp [hul, hvl, hwl])
  simpa [enumQ] using this
theorem E.litA3 {T' E0 : Nat} {p q r : Operand} {zE : List Value} (x y t : List UInt8) (ho : o.op = .buildSlice T' 3 #[(0, p), (1, q), (2, r)]) (hT : SliceTy P T' E0 k) (hz : Zero P E0 zE) (hlen : zE.length = k) (hsz : 0 < k) (h24 : 3 * k ≤ 16777216) (hx : ev al p = some (.agg (x.map v8).toArray)) (hxl : x.length = k) (hy : ev al q = some (.agg (y.map v8).toArray)) (hyl : y.length = k) (ht : ev al r = some (.agg (t.map v8).toArray)) (htl : t.length = k) :
    OpE P n κ al L o fun v M => ∃ b, v = .slice (some ⟨b, 0, none⟩) 3 3 ∧ M = Sl (RArr8 k) (some ⟨b, 0, none⟩) 3 3 [x, y, t] :: L :=
  (E.lit3 (x.map v8) (y.map v8) (t.map v8) ho hT hz hlen hsz h24 hx rfl (by simpa using hxl) hy rfl (by simpa using hyl) ht rfl (by simpa using htl)).imp fun _ _ ⟨b, e1, e2⟩ => ⟨_, ⟨b, e1, rfl⟩, e2 ▸ Ent.litA rfl (by simp; omega) (by decide) fun _ => Rep.rows.append (l := [x]) (l' := [y, t]) (rowA hxl) (Rep.rows.append (l := [y]) (l' := [t]) (rowA hyl) (rowA htl))⟩
end
end Go.Wk

namespace Go.Wk
section
variable {P : Program} {n : Nat} {κ : World} {al : List (Nat × Value)} {L : List Assn} {o : Oper}
/-- A function value that captures what lies in these slots. -/
theorem V.makeFunc {f : FuncId} {cs : Array Operand} {vs : List Value} (ho : o.op = .makeFunc (.func f) #[] cs) (hx : evs al cs.toList = some vs) : OpV P n κ al L o (.func (.func f) #[] vs.toArray) := V.of_run fun a w he => by
  have hm : cs.map a.eval = vs.toArray := by
    rw [← he.evs hx]; apply Array.ext'; simp
  simp [execOp, ho, Instr.makeFunc, hm]
/-- A call of such a value: what was captured comes behind the arguments. -/
theorem E.callC {f : FuncId} {xs : Array Operand} {ts : Array TypeId} {vs cap : List Value} {K : Post} {x : Operand} (ho : o.op = .call ⟨.value x, xs, ts⟩) (hfx : ev al x = some (.func (.func f) #[] cap.toArray)) (hf : IsGo P f) (hx : evs al xs.toList = some vs) (hc : Ctr P f (vs ++ cap).toArray κ L K) : OpE P n κ al L o K := fun a w he hs => by
  have hm : xs.map a.eval = vs.toArray := by
    rw [← he.evs hx]; apply Array.ext'; simp
  have hr : (execOp a.eval o).run P w = .ok (.enter f (vs ++ cap).toArray) w := by
    simp [execOp, ho, resolve, he.ev hfx, Deferred.ofValue, invoke, hm, run_callFunc hf]
  unfold Oper.wp
  rw [hr]
  refine Calls.mono (hc w hs) ?_
  rintro e w' ⟨v, rfl, hK⟩
  exact ⟨v, rfl, hK⟩
end
end Go.Wk

namespace Go.Wk
open Go.WideShapes
section
variable {P : Program} {H : Type} {enc : TypeId × Value → H} {W : World}
theorem weightsAll_mem {e : TypeId} : ∀ {l : List (DataW H)} {d : DataW H}, d ∈ l → ∀ n ∈ d.weights P e, n ∈ DataW.weightsAll P e l
  | d0 :: l, d, hd, n, hn => by
    rw [DataW.weightsAll, List.mem_append]
    rcases List.mem_cons.1 hd with rfl | hd
    · exact .inl hn
    · exact .inr (weightsAll_mem hd n hn)
theorem bytes_sized {t e : TypeId} (ht : P.underlying t = some (.slice e)) (hb : P.bytesOf e = 1) (O : Opens P t (Rep.slice R8)) {R n : Nat} {cs : List Value} {x : DataW H × List MemPlace} (h : DataW.trod enc P W 0 (fun _ => true) true n t cs = some x) (hw : ∀ k ∈ x.1.weights P t, k ≤ R) : ∃ y : List UInt8, (Rep.slice R8).rep (Frag.of W) cs y ∧ y.length ≤ R := by
  obtain ⟨y, hy⟩ := O.op h
  refine ⟨y, hy, ?_⟩
  obtain ⟨a, m, c, e1, hl, hc, hc63, k⟩ := hy
  rcases DataW.trod_slice ht h with ⟨rfl, _⟩ | ⟨a', len, cap, elems, rest, n', _, rfl, rfl, _, _, _, hel, _, _, _⟩
  · cases e1; omega
  · have hm : m = len := by cases e1; rfl
    have := hw ((elems.length + rest.length) * P.bytesOf e) (by
      simp only [DataW.weights, ht, List.length_map]
      exact List.Mem.head _)
    rw [hb] at this
    omega
/-- A slice of byte slices, each at most R long. -/
theorem opens_each {t u e : TypeId} (ht : P.underlying t = some (.slice u)) (hu : P.underlying u = some (.slice e)) (hsz : P.cellsOf u = 1) (hb : P.bytesOf e = 1) (O : Opens P u (Rep.slice R8)) {R n : Nat} {cs : List Value} {x : DataW H × List MemPlace}
    (h : DataW.trod enc P W 0 (fun _ => true) true n t cs = some x) (hw : ∀ k ∈ x.1.weights P t, k ≤ R) : ∃ y : List (List UInt8), (Rep.slice (Rep.slice R8)).rep (Frag.of W) cs y ∧ ∀ z ∈ y, z.length ≤ R := by
  rcases DataW.trod_slice ht h with ⟨rfl, rfl⟩ | ⟨a, len, cap, elems, rest, n', _, rfl, rfl, _, hlc, hcm, hel, hget, _, _⟩
  · exact ⟨[], ⟨none, 0, 0, rfl, rfl, Nat.le_refl _, by omega, .inl rfl⟩, fun _ h => by cases h⟩
  · have hsz' : P.cellsOf u = (Rep.slice R8).sz := hsz
    have h0 : 0 < (Rep.slice R8).sz := by decide
    rw [hsz'] at hget
    have hwe : ∀ d ∈ elems, ∀ k ∈ d.1.weights P u, k ≤ R := fun d hd k hk => hw k (by
      simp only [DataW.weights, ht]
      refine List.Mem.tail _ (List.mem_append_left _ ?_)
      exact weightsAll_mem (List.mem_map_of_mem hd) k hk)
    have key : ∀ k, k ≤ len → ∃ (cs : List Value) (l : List (List UInt8)), l.length = k ∧ (Rep.slice R8).rows (Frag.of W) cs l ∧ (0 < k → a.spot = none) ∧ Row (Frag.of W) a.block a.off cs ∧ ∀ z ∈ l, z.length ≤ R := by
      intro k
      induction k with
      | zero => exact fun _ => ⟨[], [], rfl, Rep.rows.nil _ _, fun h => absurd h (by omega), fun i u hu => by simp at hu, fun _ h => by cases h⟩
      | succ k ih =>
        intro hk
        obtain ⟨cs, l, e1, e2, e3, e4, e5⟩ := ih (by omega)
        have hy := hget k (by omega)
        have hke : k < elems.length := by omega
        rw [List.getElem?_eq_getElem hke] at hy
        cases hcs : W.cells? 0 (a.add (k * (Rep.slice R8).sz)) (Rep.slice R8).sz with
        | none => rw [hcs] at hy; cases hy
        | some us =>
          rw [hcs] at hy
          obtain ⟨d, hd, hd2⟩ := bytes_sized hu hb O hy (hwe _ (List.getElem_mem _))
          obtain ⟨f1, f2⟩ := cells_row hcs h0
          have hcl : cs.length = k * (Rep.slice R8).sz := by rw [e2.1, e1]
          rw [add_block, add_off] at f2
          have f3 : a.spot = none := by
            by_cases hk0 : k = 0
            · subst hk0
              rw [Nat.zero_mul] at f1
              exact f1
            · exact e3 (by omega)
          refine ⟨cs ++ us, l ++ [d], by simp [e1], Rep.rows.append e2 (Rep.rows.single hd), fun _ => f3, e4.join ?_, ?_⟩
          · rw [hcl]; exact f2
          · intro z hz
            rcases List.mem_append.1 hz with hz | hz
            · exact e5 z hz
            · rw [List.mem_singleton.1 hz]; exact hd2
    obtain ⟨cs, l, e1, e2, e3, e4, e5⟩ := key len (Nat.le_refl _)
    refine ⟨l, ⟨some a, len, cap, rfl, e1, hlc, by have hm : maxLen = 9223372036854775807 := rfl; omega, ?_⟩, e5⟩
    by_cases hl : len = 0
    · exact .inl hl
    · refine .inr ⟨a.block, a.off, cs, ?_, e4, e2⟩
      have := e3 (by omega)
      cases a; simp at this; subst this; rfl
theorem arg_each {ts : List TypeId} {ds : List (DataW H)} (hz : (DataW.weightsEach P ts ds).all (· ≤ reachBytes) = true) {j : Nat} {t u e : TypeId} {r : Reach} {base : Nat} {v : Value} {d : DataW H} {ps : List MemPlace}
    (htj : ts[j]? = some t) (hdj : ds[j]? = some d) (ht : P.underlying t = some (.slice u)) (hu : P.underlying u = some (.slice e)) (hsz : P.cellsOf u = 1) (hb : P.bytesOf e = 1) (O : Opens P u (Rep.slice R8)) (hval : Value.okWide P W r base t v) (h : DataW.Trod enc P W 0 (fun _ => true) true t v d ps) :
    ∃ y a m c, v = .slice a m c ∧ SlP (Rep.slice R8) a m c y (Frag.of W) ∧ ∀ z ∈ y, z.length ≤ reachBytes := by
  obtain ⟨n, hn⟩ := h
  have hall := List.all_eq_true.1 hz
  obtain ⟨y, hy, hR⟩ := opens_each ht hu hsz hb O (R := reachBytes) hn (fun k hk => by
    have := hall k (DataW.weights_mem_each htj hdj k hk)
    simpa using this)
  have hv : v.cells = #[v] := by
    cases v with
    | agg cs =>
      exfalso
      unfold Value.okWide at hval
      split at hval
      · rename_i fs hf; rw [ht] at hf; cases hf
      · rename_i m e' hf; rw [ht] at hf; cases hf
      · unfold Cell.okWide at hval
        split at hval <;> try (rename_i h1; cases h1)
        unfold Cell.ok at hval
        split at hval <;> simp_all
    | _ => rfl
  rw [hv] at hy
  obtain ⟨a, m, c, e1, h2⟩ := hy
  have e1' : v = .slice a m c := by simpa using e1
  exact ⟨y, a, m, c, e1', h2, hR⟩
end
end Go.Wk

namespace Go.Mk
open Go.Wk Go.Sha
def zero32 : Hs := List.replicate 32 0
theorem zero32_len : zero32.length = 32 := by decide
/-- What is left of a path, and whether more was taken than it had. -/
structure Tk where
  left : Nat
  miss : Bool
def takeV (p : List Hs) (t : Tk) : Hs × Tk := if t.left = 0 then (zero32, ⟨0, true⟩) else (p.getD (t.left - 1) [], ⟨t.left - 1, t.miss⟩)
def doneV (t : Tk) : Bool := decide (t.left = 0) && !t.miss
theorem take_zero {p : List Hs} {t : Tk} (h : t.left = 0) : takeV p t = (zero32, ⟨0, true⟩) := if_pos h
theorem take_pos {p : List Hs} {t : Tk} (h : t.left ≠ 0) : takeV p t = (p.getD (t.left - 1) [], ⟨t.left - 1, t.miss⟩) := if_neg h
theorem take_left (p : List Hs) (t : Tk) : (takeV p t).2.left ≤ t.left := by
  by_cases h : t.left = 0
  · rw [take_zero h]; exact Nat.zero_le _
  · rw [take_pos h]; exact Nat.sub_le _ _
theorem take_len {p : List Hs} {t : Tk} (h : ∀ x ∈ p, x.length = 32) (hl : t.left ≤ p.length) : (takeV p t).1.length = 32 := by
  by_cases h0 : t.left = 0
  · rw [take_zero h0]; exact zero32_len
  · rw [take_pos h0]
    show (p.getD (t.left - 1) []).length = 32
    rw [List.getD_eq_getElem?_getD, List.getElem?_eq_getElem (by omega)]
    exact h _ (List.getElem_mem _)

/- INCLUSION -/
def climbV (leaf : Hs) (p : List Hs) (n i : Nat) (t : Tk) : Hs × Tk := if n < 2 then (leaf, t) else if i < spl n then (node (climbV leaf p (spl n) i (takeV p t).2).1 (takeV p t).1, (climbV leaf p (spl n) i (takeV p t).2).2) else (node (takeV p t).1 (climbV leaf p (n - spl n) (i - spl n) (takeV p t).2).1, (climbV leaf p (n - spl n) (i - spl n) (takeV p t).2).2)
termination_by n
decreasing_by
  all_goals (have h1 := spl_lt (n := n) (by omega); have h2 := spl_pos n; omega)
theorem climb_one {leaf : Hs} {p : List Hs} {n i : Nat} {t : Tk} (h : n < 2) : climbV leaf p n i t = (leaf, t) := by rw [climbV, if_pos h]
theorem climb_lo {leaf : Hs} {p : List Hs} {n i : Nat} {t : Tk} (h : ¬ n < 2) (hi : i < spl n) : climbV leaf p n i t = (node (climbV leaf p (spl n) i (takeV p t).2).1 (takeV p t).1, (climbV leaf p (spl n) i (takeV p t).2).2) := by rw [climbV, if_neg h, if_pos hi]
theorem climb_hi {leaf : Hs} {p : List Hs} {n i : Nat} {t : Tk} (h : ¬ n < 2) (hi : ¬ i < spl n) : climbV leaf p n i t = (node (takeV p t).1 (climbV leaf p (n - spl n) (i - spl n) (takeV p t).2).1, (climbV leaf p (n - spl n) (i - spl n) (takeV p t).2).2) := by rw [climbV, if_neg h, if_neg hi]
theorem climb_len {leaf : Hs} {p : List Hs} {n i : Nat} {t : Tk} (h : leaf.length = 32) : (climbV leaf p n i t).1.length = 32 := by
  by_cases h2 : n < 2
  · rw [climb_one h2]; exact h
  · by_cases hi : i < spl n
    · rw [climb_lo h2 hi]; exact node_length _ _
    · rw [climb_hi h2 hi]; exact node_length _ _
/-- The reference. -/
def rclimbV (leaf : Hs) (n i : Nat) (p : List Hs) : Hs × Bool := if n < 2 then (leaf, decide (p.length = 0)) else if p.length = 0 then (zero32, false) else if i < spl n then (node (rclimbV leaf (spl n) i (p.take (p.length - 1))).1 (p.getD (p.length - 1) []), (rclimbV leaf (spl n) i (p.take (p.length - 1))).2) else (node (p.getD (p.length - 1) []) (rclimbV leaf (n - spl n) (i - spl n) (p.take (p.length - 1))).1, (rclimbV leaf (n - spl n) (i - spl n) (p.take (p.length - 1))).2)
termination_by n
decreasing_by
  all_goals (have h1 := spl_lt (n := n) (by omega); have h2 := spl_pos n; omega)
theorem rclimb_one {leaf : Hs} {n i : Nat} {p : List Hs} (h : n < 2) : rclimbV leaf n i p = (leaf, decide (p.length = 0)) := by rw [rclimbV, if_pos h]
theorem rclimb_nil {leaf : Hs} {n i : Nat} {p : List Hs} (h : ¬ n < 2) (h0 : p.length = 0) : rclimbV leaf n i p = (zero32, false) := by rw [rclimbV, if_neg h, if_pos h0]
theorem rclimb_lo {leaf : Hs} {n i : Nat} {p : List Hs} (h : ¬ n < 2) (h0 : ¬ p.length = 0) (hi : i < spl n) : rclimbV leaf n i p = (node (rclimbV leaf (spl n) i (p.take (p.length - 1))).1 (p.getD (p.length - 1) []), (rclimbV leaf (spl n) i (p.take (p.length - 1))).2) := by rw [rclimbV, if_neg h, if_neg h0, if_pos hi]
theorem rclimb_hi {leaf : Hs} {n i : Nat} {p : List Hs} (h : ¬ n < 2) (h0 : ¬ p.length = 0) (hi : ¬ i < spl n) : rclimbV leaf n i p = (node (p.getD (p.length - 1) []) (rclimbV leaf (n - spl n) (i - spl n) (p.take (p.length - 1))).1, (rclimbV leaf (n - spl n) (i - spl n) (p.take (p.length - 1))).2) := by rw [rclimbV, if_neg h, if_neg h0, if_neg hi]
theorem rclimb_len {leaf : Hs} {n i : Nat} {p : List Hs} (h : leaf.length = 32) : (rclimbV leaf n i p).1.length = 32 := by
  by_cases h2 : n < 2
  · rw [rclimb_one h2]; exact h
  · by_cases h0 : p.length = 0
    · rw [rclimb_nil h2 h0]; exact zero32_len
    · by_cases hi : i < spl n
      · rw [rclimb_lo h2 h0 hi]; exact node_length _ _
      · rw [rclimb_hi h2 h0 hi]; exact node_length _ _
theorem climb_miss {leaf : Hs} {p : List Hs} : ∀ (N n i : Nat) (t : Tk), n ≤ N → t.miss = true → (climbV leaf p n i t).2.miss = true
  | 0, n, i, t, h, ht => by rw [climb_one (by omega)]; exact ht
  | N + 1, n, i, t, h, ht => by
    by_cases h2 : n < 2
    · rw [climb_one h2]; exact ht
    · have k1 := spl_lt (n := n) (by omega)
      have k2 := spl_pos n
      have hm : (takeV p t).2.miss = true := by
        by_cases h0 : t.left = 0
        · rw [take_zero h0]
        · rw [take_pos h0]; exact ht
      by_cases hi : i < spl n
      · rw [climb_lo h2 hi]; exact climb_miss N _ _ _ (by omega) hm
      · rw [climb_hi h2 hi]; exact climb_miss N _ _ _ (by omega) hm
theorem take_of_take (p : List Hs) {k : Nat} (hk : k ≠ 0) (hl : k ≤ p.length) : (p.take k).length = k ∧ (p.take k).take ((p.take k).length - 1) = p.take (k - 1) ∧ (p.take k).getD ((p.take k).length - 1) [] = p.getD (k - 1) [] := by
  have h1 : (p.take k).length = k := by rw [List.length_take]; omega
  refine ⟨h1, ?_, ?_⟩
  · rw [h1, List.take_take]; congr 1; omega
  · rw [h1, List.getD_eq_getElem?_getD, List.getD_eq_getElem?_getD, List.getElem?_take, if_pos (by omega)]
theorem climb_same {leaf : Hs} {p : List Hs} : ∀ (N n i : Nat) (t : Tk), n ≤ N → t.miss = false → t.left ≤ p.length → (rclimbV leaf n i (p.take t.left)).2 = doneV (climbV leaf p n i t).2 ∧ ((rclimbV leaf n i (p.take t.left)).2 = true → (rclimbV leaf n i (p.take t.left)).1 = (climbV leaf p n i t).1)
  | N, n, i, t, h, ht, hl => by
    have hpl : (p.take t.left).length = t.left := by rw [List.length_take]; omega
    by_cases h2 : n < 2
    · rw [climb_one h2, rclimb_one h2]
      refine ⟨?_, fun _ => rfl⟩
      show decide _ = doneV t
      unfold doneV
      rw [ht, hpl]; simp
    · have k1 := spl_lt (n := n) (by omega)
      have k2 := spl_pos n
      by_cases h0 : t.left = 0
      · rw [rclimb_nil h2 (by omega)]
        refine ⟨?_, fun h => by cases h⟩
        have hm : (climbV leaf p n i t).2.miss = true := by
          by_cases hi : i < spl n
          · rw [climb_lo h2 hi, take_zero h0]; exact climb_miss _ _ _ _ (Nat.le_refl _) rfl
          · rw [climb_hi h2 hi, take_zero h0]; exact climb_miss _ _ _ _ (Nat.le_refl _) rfl
        unfold doneV
        rw [hm]; simp
      · obtain ⟨e1, e2, e3⟩ := take_of_take p h0 hl
        match N with
        | 0 => omega
        | N + 1 =>
          by_cases hi : i < spl n
          · obtain ⟨q1, q2⟩ := climb_same N (spl n) i (takeV p t).2 (by omega) (by rw [take_pos h0]; exact ht) (Nat.le_trans (take_left p t) hl)
            rw [climb_lo h2 hi, rclimb_lo h2 (by omega) hi, e2, e3]
            rw [take_pos h0] at q1 q2 ⊢
            dsimp only at q1 q2 ⊢
            exact ⟨q1, fun h => by rw [q2 h]⟩
          · obtain ⟨q1, q2⟩ := climb_same N (n - spl n) (i - spl n) (takeV p t).2 (by omega) (by rw [take_pos h0]; exact ht) (Nat.le_trans (take_left p t) hl)
            rw [climb_hi h2 hi, rclimb_hi h2 (by omega) hi, e2, e3]
            rw [take_pos h0] at q1 q2 ⊢
            dsimp only at q1 q2 ⊢
            exact ⟨q1, fun h => by rw [q2 h]⟩
/-- What Includes decides; and the reference. -/
def inclV (root : Hs) (n i : Int) (leaf : Hs) (p : List Hs) : Bool := if i < 0 ∨ n ≤ i ∨ 65536 < n then false else decide ((climbV leaf p n.toNat i.toNat ⟨p.length, false⟩).1 = root) && doneV (climbV leaf p n.toNat i.toNat ⟨p.length, false⟩).2
def rinclV (root : Hs) (n i : Int) (leaf : Hs) (p : List Hs) : Bool := if i < 0 ∨ n ≤ i ∨ 65536 < n then false else (rclimbV leaf n.toNat i.toNat p).2 && decide ((rclimbV leaf n.toNat i.toNat p).1 = root)
theorem incl_bad {root : Hs} {n i : Int} {leaf : Hs} {p : List Hs} (h : i < 0 ∨ n ≤ i ∨ 65536 < n) : inclV root n i leaf p = false := if_pos h
theorem incl_ok {root : Hs} {n i : Nat} {leaf : Hs} {p : List Hs} (h1 : i < n) (h2 : n ≤ 65536) : inclV root n i leaf p = (decide ((climbV leaf p n i ⟨p.length, false⟩).1 = root) && doneV (climbV leaf p n i ⟨p.length, false⟩).2) := if_neg (by omega)
theorem rincl_bad {root : Hs} {n i : Int} {leaf : Hs} {p : List Hs} (h : i < 0 ∨ n ≤ i ∨ 65536 < n) : rinclV root n i leaf p = false := if_pos h
theorem rincl_ok {root : Hs} {n i : Nat} {leaf : Hs} {p : List Hs} (h1 : i < n) (h2 : n ≤ 65536) : rinclV root n i leaf p = ((rclimbV leaf n i p).2 && decide ((rclimbV leaf n i p).1 = root)) := if_neg (by omega)
theorem incl_same (root : Hs) (n i : Int) (leaf : Hs) (p : List Hs) : rinclV root n i leaf p = inclV root n i leaf p := by
  by_cases h : i < 0 ∨ n ≤ i ∨ 65536 < n
  · rw [incl_bad h, rincl_bad h]
  · unfold inclV rinclV
    rw [if_neg h, if_neg h]
    obtain ⟨q1, q2⟩ := climb_same (leaf := leaf) (p := p) _ n.toNat i.toNat ⟨p.length, false⟩ (Nat.le_refl _) rfl (Nat.le_refl _)
    rw [List.take_length] at q1 q2
    rw [← q1]
    cases hb : (rclimbV leaf n.toNat i.toNat p).2 with
    | false => simp
    | true => rw [q2 hb]; simp
/-- A path is accepted for its leaf. -/
theorem climb_path : ∀ (N : Nat) (l : List Hs) (i : Nat) (x : Hs), l.length ≤ N → l[i]? = some x → rclimbV x l.length i (pathV l i) = (rootV l, true)
  | N, l, i, x, h, hx => by
    have hi := (List.getElem?_eq_some_iff.1 hx).1
    by_cases h2 : l.length < 2
    · rw [rclimb_one h2, path_one h2]
      have : l = [x] := by
        match l, h2, hi, hx with
        | [y], _, hi, hx =>
          have : i = 0 := by simpa using hi
          subst this
          simpa using hx
      subst this
      rw [root_one]; rfl
    · have k1 := spl_lt (n := l.length) (by omega)
      have k2 := spl_pos l.length
      match N with
      | 0 => omega
      | N + 1 =>
        by_cases hk : i < spl l.length
        · have e1 : (l.take (spl l.length)).length = spl l.length := by rw [List.length_take]; omega
          have ih := climb_path N (l.take (spl l.length)) i x (by omega) (by rw [List.getElem?_take, if_pos hk]; exact hx)
          rw [e1] at ih
          rw [path_lo (by omega) hk, rclimb_lo h2 (by simp) hk]
          rw [show (pathV (l.take (spl l.length)) i ++ [rootV (l.drop (spl l.length))]).length - 1 = (pathV (l.take (spl l.length)) i).length from by simp]
          rw [List.take_left' rfl, ih, List.getD_eq_getElem?_getD, List.getElem?_append_right (Nat.le_refl _)]
          simp only [Nat.sub_self, List.getElem?_cons_zero, Option.getD_some]
          rw [root_two (l := l) (by omega)]
        · have e1 : (l.drop (spl l.length)).length = l.length - spl l.length := List.length_drop
          have ih := climb_path N (l.drop (spl l.length)) (i - spl l.length) x (by omega) (by rw [List.getElem?_drop, show spl l.length + (i - spl l.length) = i from by omega]; exact hx)
          rw [e1] at ih
          rw [path_hi (by omega) hk, rclimb_hi h2 (by simp) hk]
          rw [show (pathV (l.drop (spl l.length)) (i - spl l.length) ++ [rootV (l.take (spl l.length))]).length - 1 = (pathV (l.drop (spl l.length)) (i - spl l.length)).length from by simp]
          rw [List.take_left' rfl, ih, List.getD_eq_getElem?_getD, List.getElem?_append_right (Nat.le_refl _)]
          simp only [Nat.sub_self, List.getElem?_cons_zero, Option.getD_some]
          rw [root_two (l := l) (by omega)]
theorem incl_path {l : List Hs} {i : Nat} {x : Hs} (h : l.length ≤ 65536) (hx : l[i]? = some x) : inclV (rootV l) l.length i x (pathV l i) = true := by
  have hi := (List.getElem?_eq_some_iff.1 hx).1
  rw [← incl_same, rincl_ok hi h, climb_path _ l i x (Nat.le_refl _) hx]; simp

/- EXTENSION -/
def climbE (old : Hs) (p : List Hs) (m n : Nat) (w : Bool) (t : Tk) : Hs × Hs × Tk := if m = n ∧ w = true then (old, old, t) else if m = n ∨ n < 2 then ((takeV p t).1, (takeV p t).1, (takeV p t).2) else if m ≤ spl n then ((climbE old p m (spl n) w (takeV p t).2).1, node (climbE old p m (spl n) w (takeV p t).2).2.1 (takeV p t).1, (climbE old p m (spl n) w (takeV p t).2).2.2) else (node (takeV p t).1 (climbE old p (m - spl n) (n - spl n) false (takeV p t).2).1, node (takeV p t).1 (climbE old p (m - spl n) (n - spl n) false (takeV p t).2).2.1, (climbE old p (m - spl n) (n - spl n) false (takeV p t).2).2.2)
termination_by n
decreasing_by
  all_goals (have h1 := spl_lt (n := n) (by omega); have h2 := spl_pos n; omega)
section
variable {old : Hs} {p : List Hs} {m n : Nat} {w : Bool} {t : Tk}
theorem climbE_whole : climbE old p n n true t = (old, old, t) := by rw [climbE, if_pos ⟨rfl, rfl⟩]
theorem climbE_part : climbE old p n n false t = ((takeV p t).1, (takeV p t).1, (takeV p t).2) := by rw [climbE, if_neg (fun h => by cases h.2), if_pos (.inl rfl)]
theorem climbE_lo (h : m ≠ n) (h2 : ¬ n < 2) (hk : m ≤ spl n) : climbE old p m n w t = ((climbE old p m (spl n) w (takeV p t).2).1, node (climbE old p m (spl n) w (takeV p t).2).2.1 (takeV p t).1, (climbE old p m (spl n) w (takeV p t).2).2.2) := by rw [climbE, if_neg (fun q => h q.1), if_neg (fun q => q.elim h h2), if_pos hk]
theorem climbE_hi (h : m ≠ n) (h2 : ¬ n < 2) (hk : ¬ m ≤ spl n) : climbE old p m n w t = (node (takeV p t).1 (climbE old p (m - spl n) (n - spl n) false (takeV p t).2).1, node (takeV p t).1 (climbE old p (m - spl n) (n - spl n) false (takeV p t).2).2.1, (climbE old p (m - spl n) (n - spl n) false (takeV p t).2).2.2) := by rw [climbE, if_neg (fun q => h q.1), if_neg (fun q => q.elim h h2), if_neg hk]
end
theorem climbE_len {old : Hs} {p : List Hs} (ho : old.length = 32) (hp : ∀ x ∈ p, x.length = 32) : ∀ (N m n : Nat) (w : Bool) (t : Tk), n ≤ N → t.left ≤ p.length → (climbE old p m n w t).1.length = 32 ∧ (climbE old p m n w t).2.1.length = 32
  | N, m, n, w, t, h, hl => by
    have ht := take_len hp hl
    have htl := take_left p t
    by_cases hm : m = n
    · subst hm
      cases w
      · rw [climbE_part]; exact ⟨ht, ht⟩
      · rw [climbE_whole]; exact ⟨ho, ho⟩
    · by_cases h2 : n < 2
      · rw [climbE, if_neg (fun q => hm q.1), if_pos (.inr h2)]; exact ⟨ht, ht⟩
      · have k1 := spl_lt (n := n) (by omega)
        have k2 := spl_pos n
        match N with
        | 0 => omega
        | N + 1 =>
          by_cases hk : m ≤ spl n
          · rw [climbE_lo hm h2 hk]
            exact ⟨(climbE_len ho hp N _ _ _ _ (by omega) (by omega)).1, node_length _ _⟩
          · rw [climbE_hi hm h2 hk]; exact ⟨node_length _ _, node_length _ _⟩
def valuesV (m n : Nat) (w : Bool) (old : Hs) (p : List Hs) : Hs × Hs × Bool := if m = n ∧ w = true then (old, old, decide (p.length = 0)) else if p.length = 0 then (zero32, zero32, false) else if m = n ∨ n < 2 then (p.getD (p.length - 1) [], p.getD (p.length - 1) [], decide (p.length - 1 = 0)) else if m ≤ spl n then ((valuesV m (spl n) w old (p.take (p.length - 1))).1, node (valuesV m (spl n) w old (p.take (p.length - 1))).2.1 (p.getD (p.length - 1) []), (valuesV m (spl n) w old (p.take (p.length - 1))).2.2) else (node (p.getD (p.length - 1) []) (valuesV (m - spl n) (n - spl n) false old (p.take (p.length - 1))).1, node (p.getD (p.length - 1) []) (valuesV (m - spl n) (n - spl n) false old (p.take (p.length - 1))).2.1, (valuesV (m - spl n) (n - spl n) false old (p.take (p.length - 1))).2.2)
termination_by n
decreasing_by
  all_goals (have h1 := spl_lt (n := n) (by omega); have h2 := spl_pos n; omega)
section
variable {old : Hs} {p : List Hs} {m n : Nat} {w : Bool}
theorem values_whole : valuesV n n true old p = (old, old, decide (p.length = 0)) := by rw [valuesV, if_pos ⟨rfl, rfl⟩]
theorem values_nil (h : ¬ (m = n ∧ w = true)) (h0 : p.length = 0) : valuesV m n w old p = (zero32, zero32, false) := by rw [valuesV, if_neg h, if_pos h0]
theorem values_part (h0 : ¬ p.length = 0) : valuesV n n false old p = (p.getD (p.length - 1) [], p.getD (p.length - 1) [], decide (p.length - 1 = 0)) := by rw [valuesV, if_neg (fun h => by cases h.2), if_neg h0, if_pos (.inl rfl)]
theorem values_lo (h : m ≠ n) (h0 : ¬ p.length = 0) (h2 : ¬ n < 2) (hk : m ≤ spl n) : valuesV m n w old p = ((valuesV m (spl n) w old (p.take (p.length - 1))).1, node (valuesV m (spl n) w old (p.take (p.length - 1))).2.1 (p.getD (p.length - 1) []), (valuesV m (spl n) w old (p.take (p.length - 1))).2.2) := by rw [valuesV, if_neg (fun q => h q.1), if_neg h0, if_neg (fun q => q.elim h h2), if_pos hk]
theorem values_hi (h : m ≠ n) (h0 : ¬ p.length = 0) (h2 : ¬ n < 2) (hk : ¬ m ≤ spl n) : valuesV m n w old p = (node (p.getD (p.length - 1) []) (valuesV (m - spl n) (n - spl n) false old (p.take (p.length - 1))).1, node (p.getD (p.length - 1) []) (valuesV (m - spl n) (n - spl n) false old (p.take (p.length - 1))).2.1, (valuesV (m - spl n) (n - spl n) false old (p.take (p.length - 1))).2.2) := by rw [valuesV, if_neg (fun q => h q.1), if_neg h0, if_neg (fun q => q.elim h h2), if_neg hk]
end
theorem getD_last {p : List Hs} (hp : ∀ x ∈ p, x.length = 32) (h0 : ¬ p.length = 0) : (p.getD (p.length - 1) []).length = 32 := by
  rw [List.getD_eq_getElem?_getD, List.getElem?_eq_getElem (by omega)]
  exact hp _ (List.getElem_mem _)
theorem values_len {old : Hs} (ho : old.length = 32) : ∀ (N m n : Nat) (w : Bool) (p : List Hs), (∀ x ∈ p, x.length = 32) → n ≤ N → (valuesV m n w old p).1.length = 32 ∧ (valuesV m n w old p).2.1.length = 32
  | N, m, n, w, p, hp, h => by
    by_cases hw : m = n ∧ w = true
    · obtain ⟨rfl, rfl⟩ := hw
      rw [values_whole]; exact ⟨ho, ho⟩
    · by_cases h0 : p.length = 0
      · rw [values_nil hw h0]; exact ⟨zero32_len, zero32_len⟩
      · have hs := getD_last hp h0
        by_cases hm : m = n
        · subst hm
          have hwf : w = false := by
            cases w
            · rfl
            · exact absurd ⟨rfl, rfl⟩ hw
          subst hwf
          rw [values_part h0]; exact ⟨hs, hs⟩
        · by_cases h2 : n < 2
          · rw [valuesV, if_neg hw, if_neg h0, if_pos (.inr h2)]; exact ⟨hs, hs⟩
          · have k1 := spl_lt (n := n) (by omega)
            have k2 := spl_pos n
            match N with
            | 0 => omega
            | N + 1 =>
              by_cases hk : m ≤ spl n
              · rw [values_lo hm h0 h2 hk]
                exact ⟨(values_len ho N _ _ _ _ (fun x hx => hp x (List.mem_of_mem_take hx)) (by omega)).1, node_length _ _⟩
              · rw [values_hi hm h0 h2 hk]; exact ⟨node_length _ _, node_length _ _⟩
theorem climbE_miss {old : Hs} {p : List Hs} : ∀ (N m n : Nat) (w : Bool) (t : Tk), n ≤ N → t.miss = true → (climbE old p m n w t).2.2.miss = true
  | N, m, n, w, t, h, ht => by
    have hm' : (takeV p t).2.miss = true := by
      by_cases h0 : t.left = 0
      · rw [take_zero h0]
      · rw [take_pos h0]; exact ht
    by_cases hm : m = n
    · subst hm
      cases w
      · rw [climbE_part]; exact hm'
      · rw [climbE_whole]; exact ht
    · by_cases h2 : n < 2
      · rw [climbE, if_neg (fun q => hm q.1), if_pos (.inr h2)]; exact hm'
      · have k1 := spl_lt (n := n) (by omega)
        have k2 := spl_pos n
        match N with
        | 0 => omega
        | N + 1 =>
          by_cases hk : m ≤ spl n
          · rw [climbE_lo hm h2 hk]; exact climbE_miss N _ _ _ _ (by omega) hm'
          · rw [climbE_hi hm h2 hk]; exact climbE_miss N _ _ _ _ (by omega) hm'
theorem values_same {old : Hs} {p : List Hs} : ∀ (N m n : Nat) (w : Bool) (t : Tk), n ≤ N → 1 ≤ m → m ≤ n → t.miss = false → t.left ≤ p.length → (valuesV m n w old (p.take t.left)).2.2 = doneV (climbE old p m n w t).2.2 ∧ ((valuesV m n w old (p.take t.left)).2.2 = true → (valuesV m n w old (p.take t.left)).1 = (climbE old p m n w t).1 ∧ (valuesV m n w old (p.take t.left)).2.1 = (climbE old p m n w t).2.1)
  | N, m, n, w, t, h, h1, hmn, ht, hl => by
    have hpl : (p.take t.left).length = t.left := by rw [List.length_take]; omega
    by_cases hw : m = n ∧ w = true
    · obtain ⟨rfl, rfl⟩ := hw
      rw [climbE_whole, values_whole]
      refine ⟨?_, fun _ => ⟨rfl, rfl⟩⟩
      show decide _ = doneV t
      unfold doneV
      rw [ht, hpl]; simp
    · by_cases h0 : t.left = 0
      · rw [values_nil hw (by omega)]
        refine ⟨?_, fun h => by cases h⟩
        have hm : (climbE old p m n w t).2.2.miss = true := by
          by_cases hm : m = n
          · subst hm
            cases w
            · rw [climbE_part, take_zero h0]
            · exact absurd ⟨rfl, rfl⟩ hw
          · by_cases hk : m ≤ spl n
            · rw [climbE_lo hm (by omega) hk, take_zero h0]; exact climbE_miss _ _ _ _ _ (Nat.le_refl _) rfl
            · rw [climbE_hi hm (by omega) hk, take_zero h0]; exact climbE_miss _ _ _ _ _ (Nat.le_refl _) rfl
        unfold doneV
        rw [hm]; simp
      · obtain ⟨e1, e2, e3⟩ := take_of_take p h0 hl
        by_cases hm : m = n
        · subst hm
          have hwf : w = false := by
            cases w
            · rfl
            · exact absurd ⟨rfl, rfl⟩ hw
          subst hwf
          rw [climbE_part, values_part (by omega), e3, take_pos h0]
          refine ⟨?_, fun _ => ⟨rfl, rfl⟩⟩
          show decide _ = doneV ⟨t.left - 1, t.miss⟩
          unfold doneV
          rw [ht, hpl]; simp
        · have k1 := spl_lt (n := n) (by omega)
          have k2 := spl_pos n
          match N with
          | 0 => omega
          | N + 1 =>
            by_cases hk : m ≤ spl n
            · obtain ⟨q1, q2⟩ := values_same N m (spl n) w (takeV p t).2 (by omega) h1 hk (by rw [take_pos h0]; exact ht) (Nat.le_trans (take_left p t) hl)
              rw [climbE_lo hm (by omega) hk, values_lo hm (by omega) (by omega) hk, e2, e3]
              rw [take_pos h0] at q1 q2 ⊢
              dsimp only at q1 q2 ⊢
              exact ⟨q1, fun h => ⟨(q2 h).1, by rw [(q2 h).2]⟩⟩
            · obtain ⟨q1, q2⟩ := values_same N (m - spl n) (n - spl n) false (takeV p t).2 (by omega) (by omega) (by omega) (by rw [take_pos h0]; exact ht) (Nat.le_trans (take_left p t) hl)
              rw [climbE_hi hm (by omega) hk, values_hi hm (by omega) (by omega) hk, e2, e3]
              rw [take_pos h0] at q1 q2 ⊢
              dsimp only at q1 q2 ⊢
              exact ⟨q1, fun h => ⟨by rw [(q2 h).1], by rw [(q2 h).2]⟩⟩
def extZ (old root : Hs) (n : Int) (p : List Hs) : Bool := decide (old = rootV []) && decide (p.length = 0) && (decide (0 < n) || decide (root = old))
def extV (old : Hs) (m : Int) (root : Hs) (n : Int) (p : List Hs) : Bool := if m < 0 ∨ n < m ∨ 65536 < n then false else if m = 0 then extZ old root n p else decide ((climbE old p m.toNat n.toNat true ⟨p.length, false⟩).1 = old) && decide ((climbE old p m.toNat n.toNat true ⟨p.length, false⟩).2.1 = root) && doneV (climbE old p m.toNat n.toNat true ⟨p.length, false⟩).2.2
def rextV (old : Hs) (m : Int) (root : Hs) (n : Int) (p : List Hs) : Bool := if m < 0 ∨ n < m ∨ 65536 < n then false else if m = 0 then extZ old root n p else (valuesV m.toNat n.toNat true old p).2.2 && decide ((valuesV m.toNat n.toNat true old p).1 = old) && decide ((valuesV m.toNat n.toNat true old p).2.1 = root)
section
variable {old root : Hs} {p : List Hs}
theorem ext_bad {m n : Int} (h : m < 0 ∨ n < m ∨ 65536 < n) : extV old m root n p = false := if_pos h
theorem rext_bad {m n : Int} (h : m < 0 ∨ n < m ∨ 65536 < n) : rextV old m root n p = false := if_pos h
theorem ext_zero {n : Int} (h : ¬ ((0 : Int) < 0 ∨ n < 0 ∨ 65536 < n)) : extV old 0 root n p = extZ old root n p := by unfold extV; rw [if_neg h, if_pos rfl]
theorem rext_zero {n : Int} (h : ¬ ((0 : Int) < 0 ∨ n < 0 ∨ 65536 < n)) : rextV old 0 root n p = extZ old root n p := by unfold rextV; rw [if_neg h, if_pos rfl]
theorem ext_ok {m n : Nat} (h0 : 1 ≤ m) (h1 : m ≤ n) (h2 : n ≤ 65536) : extV old m root n p = (decide ((climbE old p m n true ⟨p.length, false⟩).1 = old) && decide ((climbE old p m n true ⟨p.length, false⟩).2.1 = root) && doneV (climbE old p m n true ⟨p.length, false⟩).2.2) := by unfold extV; rw [if_neg (by omega), if_neg (by omega)]; rfl
theorem rext_ok {m n : Nat} (h0 : 1 ≤ m) (h1 : m ≤ n) (h2 : n ≤ 65536) : rextV old m root n p = ((valuesV m n true old p).2.2 && decide ((valuesV m n true old p).1 = old) && decide ((valuesV m n true old p).2.1 = root)) := by unfold rextV; rw [if_neg (by omega), if_neg (by omega)]; rfl
end
theorem ext_same (old : Hs) (m : Int) (root : Hs) (n : Int) (p : List Hs) : rextV old m root n p = extV old m root n p := by
  by_cases h : m < 0 ∨ n < m ∨ 65536 < n
  · rw [ext_bad h, rext_bad h]
  · by_cases h0 : m = 0
    · subst h0
      rw [ext_zero h, rext_zero h]
    · unfold extV rextV
      rw [if_neg h, if_neg h, if_neg h0, if_neg h0]
      obtain ⟨q1, q2⟩ := values_same (old := old) (p := p) _ m.toNat n.toNat true ⟨p.length, false⟩ (Nat.le_refl _) (by omega) (by omega) rfl (Nat.le_refl _)
      rw [List.take_length] at q1 q2
      rw [← q1]
      cases hb : (valuesV m.toNat n.toNat true old p).2.2 with
      | false => simp
      | true => rw [(q2 hb).1, (q2 hb).2]; simp
/-- A growth is accepted. -/
theorem values_grow {old : Hs} : ∀ (N : Nat) (l : List Hs) (m : Nat) (w : Bool), l.length ≤ N → 1 ≤ m → m ≤ l.length → (w = true → old = rootV (l.take m)) → valuesV m l.length w old (growV m l w) = (rootV (l.take m), rootV l, true)
  | N, l, m, w, h, h1, hml, ho => by
    by_cases hm : m = l.length
    · subst hm
      rw [List.take_length] at ho ⊢
      cases w
      · rw [grow_part, values_part (by simp)]; rfl
      · rw [grow_whole, values_whole, ho rfl]; rfl
    · have k1 := spl_lt (n := l.length) (by omega)
      have k2 := spl_pos l.length
      have k3 := spl_le (n := l.length) (by omega)
      match N with
      | 0 => omega
      | N + 1 =>
        have last : ∀ (q : List Hs) (y : Hs), (q ++ [y]).take ((q ++ [y]).length - 1) = q ∧ (q ++ [y]).getD ((q ++ [y]).length - 1) [] = y := fun q y => by
          rw [show (q ++ [y]).length - 1 = q.length from by simp]
          refine ⟨List.take_left' rfl, ?_⟩
          rw [List.getD_eq_getElem?_getD, List.getElem?_append_right (Nat.le_refl _)]
          simp
        by_cases hk : m ≤ spl l.length
        · have e1 : (l.take (spl l.length)).length = spl l.length := by rw [List.length_take]; omega
          have e2 : (l.take (spl l.length)).take m = l.take m := by rw [List.take_take]; congr 1; omega
          have ih := values_grow (old := old) N (l.take (spl l.length)) m w (by omega) h1 (by omega) (fun hw => by rw [e2]; exact ho hw)
          rw [e1, e2] at ih
          rw [grow_lo hm (by omega) hk, values_lo hm (by simp) (by omega) hk, (last _ _).1, (last _ _).2, ih, root_two (l := l) (by omega)]
        · have e1 : (l.drop (spl l.length)).length = l.length - spl l.length := List.length_drop
          have ih := values_grow (old := old) N (l.drop (spl l.length)) (m - spl l.length) false (by omega) (by omega) (by omega) (fun hw => by cases hw)
          rw [e1] at ih
          have e3 : spl (l.take m).length = spl l.length := by
            rw [List.length_take, Nat.min_eq_left hml]
            obtain ⟨e, he⟩ := spl_exp l.length
            rw [he] at hk k3 ⊢
            exact spl_of (by omega) (by rw [Nat.pow_succ]; omega)
          have e4 : rootV (l.take m) = node (rootV (l.take (spl l.length))) (rootV ((l.drop (spl l.length)).take (m - spl l.length))) := by
            rw [root_two (l := l.take m) (by rw [List.length_take]; omega), e3, List.take_take, List.drop_take, show min (spl l.length) m = spl l.length from by omega]
          rw [grow_hi hm (by omega) hk, values_hi hm (by simp) (by omega) hk, (last _ _).1, (last _ _).2, ih, e4, root_two (l := l) (by omega)]
theorem ext_grow {l : List Hs} {m : Nat} (h : l.length ≤ 65536) (h1 : 1 ≤ m) (hm : m ≤ l.length) : extV (rootV (l.take m)) m (rootV l) l.length (growV m l true) = true := by
  rw [← ext_same, rext_ok h1 hm h, values_grow _ l m true (Nat.le_refl _) h1 hm (fun _ => rfl)]; simp
end Go.Mk
