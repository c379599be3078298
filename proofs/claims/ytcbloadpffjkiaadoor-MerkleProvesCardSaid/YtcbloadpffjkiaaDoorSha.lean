/- SHA-256 in plain Lean. -/
import Derived.Test.YtcbloadpffjkiaaDoorKernB
namespace Go.Sha
open Go.Wk
def rotr (x r : UInt32) : UInt32 := x >>> r ||| x <<< (32 - r)
def be (l : List UInt8) : UInt32 := l.foldl (fun x c => x <<< 8 ||| c.toUInt32) 0
def s0 (x : UInt32) : UInt32 := rotr x 7 ^^^ rotr x 18 ^^^ x >>> 3
def s1 (x : UInt32) : UInt32 := rotr x 17 ^^^ rotr x 19 ^^^ x >>> 10
def nxt (b : List UInt8) (l : List UInt32) (t : Nat) : UInt32 :=
  if t < 16 then be ((b.drop (4 * t)).take 4) else l.getD (t - 16) 0 + s0 (l.getD (t - 15) 0) + l.getD (t - 7) 0 + s1 (l.getD (t - 2) 0)
def push (b : List UInt8) (t : Nat) (l : List UInt32) : List UInt32 := l ++ [nxt b l t]
def ws (b : List UInt8) : Nat → List UInt32
  | 0 => []
  | t + 1 => push b t (ws b t)
def ch (e f g : UInt32) : UInt32 := e &&& f ^^^ ~~~e &&& g
def maj (a b c : UInt32) : UInt32 := a &&& b ^^^ a &&& c ^^^ b &&& c
def S1 (e : UInt32) : UInt32 := rotr e 6 ^^^ rotr e 11 ^^^ rotr e 25
def S0 (a : UInt32) : UInt32 := rotr a 2 ^^^ rotr a 13 ^^^ rotr a 22
def t1 (e f g h k w : UInt32) : UInt32 := h + S1 e + ch e f g + k + w
def t2 (a b c : UInt32) : UInt32 := S0 a + maj a b c
def rnd : List UInt32 → UInt32 → UInt32 → List UInt32
  | [a, b, c, d, e, f, g, h], k, w => [t1 e f g h k w + t2 a b c, a, b, c, d + t1 e f g h k w, e, f, g]
  | l, _, _ => l
def KK : List UInt32 := [1116352408, 1899447441, 3049323471, 3921009573, 961987163, 1508970993, 2453635748, 2870763221, 3624381080, 310598401, 607225278, 1426881987, 1925078388, 2162078206, 2614888103, 3248222580, 3835390401, 4022224774, 264347078, 604807628, 770255983, 1249150122, 1555081692, 1996064986, 2554220882, 2821834349, 2952996808, 3210313671, 3336571891, 3584528711, 113926993, 338241895, 666307205, 773529912, 1294757372, 1396182291, 1695183700, 1986661051, 2177026350, 2456956037, 2730485921, 2820302411, 3259730800, 3345764771, 3516065817, 3600352804, 4094571909, 275423344, 430227734, 506948616, 659060556, 883997877, 958139571, 1322822218, 1537002063, 1747873779, 1955562222, 2024104815, 2227730452, 2361852424, 2428436474, 2756734187, 3204031479, 3329325298]
def run (h W : List UInt32) : Nat → List UInt32
  | 0 => h
  | t + 1 => rnd (run h W t) (KK.getD t 0) (W.getD t 0)
def block (h : List UInt32) (b : List UInt8) : List UInt32 := List.zipWith (· + ·) h (run h (ws b 64) 64)
def blocks : Nat → List UInt32 → List UInt8 → List UInt32
  | 0, h, _ => h
  | n + 1, h, l => blocks n (block h l) (l.drop 64)
def feed (h : List UInt32) (l : List UInt8) : List UInt32 := blocks (l.length / 64) h l
def tail (l : List UInt8) : List UInt8 := l.drop (l.length / 64 * 64)
def first : List UInt32 := [0x6a09e667, 0xbb67ae85, 0x3c6ef372, 0xa54ff53a, 0x510e527f, 0x9b05688c, 0x1f83d9ab, 0x5be0cd19]
def len8 (n : UInt64) : List UInt8 := [(n >>> 56).toUInt8, (n >>> 48).toUInt8, (n >>> 40).toUInt8, (n >>> 32).toUInt8, (n >>> 24).toUInt8, (n >>> 16).toUInt8, (n >>> 8).toUInt8, (n >>> 0).toUInt8]
def ends (n : Nat) : List UInt8 := 128 :: List.replicate ((119 - n % 64) % 64) 0 ++ len8 (UInt64.ofNat n * 8)
def out4 (x : UInt32) : List UInt8 := [(x >>> 24).toUInt8, (x >>> 16).toUInt8, (x >>> 8).toUInt8, (x >>> 0).toUInt8]
def out (h : List UInt32) : List UInt8 := h.flatMap out4
def sum (l : List UInt8) : List UInt8 := out (feed first (l ++ ends l.length))

theorem ws_length (b : List UInt8) : ∀ t, (ws b t).length = t
  | 0 => rfl
  | t + 1 => by rw [ws, push, List.length_append, ws_length b t]; rfl
theorem rnd_length (l : List UInt32) (k w : UInt32) (h : l.length = 8) : (rnd l k w).length = 8 := by
  match l, h with
  | [_, _, _, _, _, _, _, _], _ => rfl
theorem run_length (h W : List UInt32) (h8 : h.length = 8) : ∀ t, (run h W t).length = 8
  | 0 => h8
  | t + 1 => rnd_length _ _ _ (run_length h W h8 t)
theorem block_length (h : List UInt32) (b : List UInt8) (h8 : h.length = 8) : (block h b).length = 8 := by
  rw [block, List.length_zipWith, run_length _ _ h8, h8]; rfl
theorem blocks_length : ∀ (n : Nat) (h : List UInt32) (l : List UInt8), h.length = 8 → (blocks n h l).length = 8
  | 0, _, _, h8 => h8
  | n + 1, h, l, h8 => blocks_length n _ _ (block_length h l h8)
theorem feed_length (h : List UInt32) (l : List UInt8) (h8 : h.length = 8) : (feed h l).length = 8 := blocks_length _ _ _ h8
theorem first_length : first.length = 8 := rfl
theorem eight {l : List UInt32} (h : l.length = 8) : ∃ a b c d e f g i, l = [a, b, c, d, e, f, g, i] := by
  match l, h with
  | [a, b, c, d, e, f, g, i], _ => exact ⟨a, b, c, d, e, f, g, i, rfl⟩

/- a block looks at 64 bytes only -/
theorem nxt_take (b : List UInt8) (l : List UInt32) (t : Nat) : nxt (b.take 64) l t = nxt b l t := by
  unfold nxt
  split
  · rw [List.drop_take, List.take_take, Nat.min_eq_left (by omega)]
  · rfl
theorem ws_take (b : List UInt8) : ∀ t, ws (b.take 64) t = ws b t
  | 0 => rfl
  | t + 1 => by rw [ws, ws, push, push, ws_take b t, nxt_take]
theorem block_take (h : List UInt32) (b : List UInt8) : block h (b.take 64) = block h b := by
  rw [block, block, ws_take]

/- states -/
theorem blocks_add : ∀ (n m : Nat) (h : List UInt32) (l : List UInt8), blocks (n + m) h l = blocks m (blocks n h l) (l.drop (64 * n))
  | 0, m, h, l => by simp [blocks]
  | n + 1, m, h, l => by
    rw [show n + 1 + m = (n + m) + 1 from by omega, blocks, blocks_add n m, blocks, List.drop_drop, show 64 + 64 * n = 64 * (n + 1) from by omega]
theorem block_app (h : List UInt32) (l l' : List UInt8) (hl : 64 ≤ l.length) : block h (l ++ l') = block h l := by
  rw [← block_take h (l ++ l'), ← block_take h l, List.take_append_of_le_length hl]
theorem blocks_app : ∀ (n : Nat) (h : List UInt32) (l l' : List UInt8), 64 * n ≤ l.length → blocks n h (l ++ l') = blocks n h l
  | 0, _, _, _, _ => rfl
  | n + 1, h, l, l', hl => by
    rw [blocks, blocks, block_app h l l' (by omega), List.drop_append_of_le_length (by omega), blocks_app n _ _ _ (by simp; omega)]
theorem tail_length (l : List UInt8) : (tail l).length = l.length % 64 := by
  rw [tail, List.length_drop]; omega
theorem split_len (l l' : List UInt8) : (l ++ l').length / 64 = l.length / 64 + (tail l ++ l').length / 64 := by
  simp only [List.length_append, tail_length]; omega
theorem drop_app (l l' : List UInt8) : (l ++ l').drop (64 * (l.length / 64)) = tail l ++ l' := by
  rw [List.drop_append_of_le_length (by omega), Nat.mul_comm 64]; rfl
theorem feed_app (h : List UInt32) (l l' : List UInt8) : feed (feed h l) (tail l ++ l') = feed h (l ++ l') := by
  have e := split_len l l'
  have e1 : blocks (l.length / 64) h (l ++ l') = feed h l := blocks_app _ _ _ _ (by omega)
  show _ = blocks ((l ++ l').length / 64) h (l ++ l')
  rw [e, blocks_add, e1, drop_app]; rfl
theorem tail_app (l l' : List UInt8) : tail (tail l ++ l') = tail (l ++ l') := by
  have e := split_len l l'
  show _ = (l ++ l').drop ((l ++ l').length / 64 * 64)
  rw [e, Nat.add_mul, ← List.drop_drop, Nat.mul_comm (l.length / 64) 64, drop_app]; rfl
theorem feed_nil (h : List UInt32) : feed h [] = h := rfl
theorem tail_nil : tail [] = [] := rfl
theorem feed_step (h : List UInt32) (l : List UInt8) (hl : 64 ≤ l.length) : feed h l = feed (block h l) (l.drop 64) := by
  unfold feed
  rw [show l.length / 64 = (l.drop 64).length / 64 + 1 from by rw [List.length_drop]; omega, blocks]
theorem tail_step (l : List UInt8) (hl : 64 ≤ l.length) : tail l = tail (l.drop 64) := by
  unfold tail
  rw [List.drop_drop, List.length_drop]
  congr 1; omega
theorem feed_short (h : List UInt32) (l : List UInt8) (hl : l.length < 64) : feed h l = h := by
  unfold feed; rw [show l.length / 64 = 0 from by omega]; rfl
theorem tail_short (l : List UInt8) (hl : l.length < 64) : tail l = l := by
  unfold tail; rw [show l.length / 64 = 0 from by omega]; simp

/- the two ways to write the same -/
theorem shl_bv (x d : UInt32) (k : Nat) (hd : d.toNat = k) (hk : k < 32) : (x <<< d).toBitVec = x.toBitVec <<< k := by
  apply BitVec.eq_of_toNat_eq
  have h := UInt32.toNat_shiftLeft x d
  rw [hd, Nat.mod_eq_of_lt hk] at h
  rw [BitVec.toNat_shiftLeft]
  exact h
theorem be_four (a b c d : UInt8) : a.toUInt32 <<< 24 ||| b.toUInt32 <<< 16 ||| c.toUInt32 <<< 8 ||| d.toUInt32 = be [a, b, c, d] := by
  simp only [be, List.foldl]
  apply UInt32.toBitVec_inj.1
  simp only [UInt32.toBitVec_or]
  simp only [shl_bv _ 24 24 rfl (by decide), shl_bv _ 16 16 rfl (by decide), shl_bv _ 8 8 rfl (by decide), UInt32.toBitVec_or]
  simp only [BitVec.shiftLeft_or_distrib, ← BitVec.shiftLeft_add]
  simp
theorem be_snoc (l : List UInt8) (c : UInt8) : be (l ++ [c]) = be l <<< 8 ||| c.toUInt32 := by
  rw [be, List.foldl_append]; rfl
theorem ch_eq (e f g : UInt32) : g ^^^ e &&& (f ^^^ g) = ch e f g := by
  unfold ch
  apply UInt32.toBitVec_inj.1
  simp only [UInt32.toBitVec_xor, UInt32.toBitVec_and, UInt32.toBitVec_not]
  apply BitVec.eq_of_getLsbD_eq
  intro i hi
  simp only [BitVec.getLsbD_xor, BitVec.getLsbD_and, BitVec.getLsbD_not, hi, decide_true, Bool.true_and]
  cases e.toBitVec.getLsbD i <;> cases f.toBitVec.getLsbD i <;> cases g.toBitVec.getLsbD i <;> rfl
theorem maj_eq (a b c : UInt32) : a &&& b ||| c &&& (a ||| b) = maj a b c := by
  unfold maj
  apply UInt32.toBitVec_inj.1
  simp only [UInt32.toBitVec_xor, UInt32.toBitVec_and, UInt32.toBitVec_or]
  apply BitVec.eq_of_getLsbD_eq
  intro i hi
  simp only [BitVec.getLsbD_xor, BitVec.getLsbD_and, BitVec.getLsbD_or]
  cases a.toBitVec.getLsbD i <;> cases b.toBitVec.getLsbD i <;> cases c.toBitVec.getLsbD i <;> rfl
theorem rotr_comm (x r : UInt32) : x <<< (32 - r) ||| x >>> r = rotr x r := UInt32.or_comm _ _
end Go.Sha
