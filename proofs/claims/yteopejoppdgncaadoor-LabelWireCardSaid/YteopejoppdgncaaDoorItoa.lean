/- strconv.Itoa. -/
import Derived.Test.YteopejoppdgncaaDoorFacts
import Derived.Test.YteopejoppdgncaaDoorKernB
import Derived.Shelf.LaysM
import Derived.Shelf.Strconv.Itoa3
namespace Go.Proofs.YteopejoppdgncaaDoor
open Go.Wk Go.Shelf

def itoaRen : Go.Shelf.Ren := ⟨fun | 171 => 32 | 243 => 41 | 246 => 44 | 283 => 45 | 284 => 46 | 285 => 47 | 286 => 48 | 129 => 50 | 317 => 49 | 318 => 51 | 319 => 52 | 320 => 53 | 337 => 54 | 338 => 55 | n => n, fun | 3 => 3 | 9 => 9 | 2 => 2 | 4 => 4 | 171 => 74 | 0 => 0 | 53 => 60 | 37 => 42 | 5 => 5 | 173 => 77 | 212 => 80 | 51 => 81 | 20 => 20 | 213 => 82 | 46 => 70 | 232 => 85 | 233 => 86 | n => n, fun | 17 => 0 | 18 => 1 | 19 => 2 | n => n⟩
theorem itoaLays : LaysM.n171 Tryd.prog itoaRen := {
  mixed := by kernel_rfl,
  f129 := Tryd.func50.trans (congrArg some krX),
  f171 := Tryd.func32.trans (congrArg some krX),
  f243 := Tryd.func41.trans (congrArg some krX),
  f246 := Tryd.func44.trans (congrArg some krX),
  f283 := Tryd.func45.trans (congrArg some krX),
  f284 := Tryd.func46.trans (congrArg some krX),
  f285 := Tryd.func47.trans (congrArg some krX),
  f286 := Tryd.func48.trans (congrArg some krX),
  f317 := Tryd.func49.trans (congrArg some krX),
  f318 := Tryd.func51.trans (congrArg some krX),
  f319 := Tryd.func52.trans (congrArg some krX),
  f320 := Tryd.func53.trans (congrArg some krX),
  f337 := Tryd.func54.trans (congrArg some krX),
  f338 := Tryd.func55.trans (congrArg some krX),
  t0 := Tryd.underlying0,
  a0 := Tryd.isAgg0,
  z0 := Tryd.sizeOf0,
  v0 := Tryd.zeroValue0,
  t2 := Tryd.underlying2,
  a2 := Tryd.isAgg2,
  z2 := Tryd.sizeOf2,
  v2 := Tryd.zeroValue2,
  t3 := Tryd.underlying3,
  a3 := Tryd.isAgg3,
  z3 := Tryd.sizeOf3,
  v3 := Tryd.zeroValue3,
  t4 := Tryd.underlying4,
  a4 := Tryd.isAgg4,
  z4 := Tryd.sizeOf4,
  v4 := Tryd.zeroValue4,
  t5 := Tryd.underlying5,
  a5 := Tryd.isAgg5,
  z5 := Tryd.sizeOf5,
  v5 := Tryd.zeroValue5,
  t9 := Tryd.underlying9,
  a9 := Tryd.isAgg9,
  z9 := Tryd.sizeOf9,
  v9 := Tryd.zeroValue9,
  t20 := Tryd.underlying20,
  a20 := Tryd.isAgg20,
  z20 := Tryd.sizeOf20,
  v20 := Tryd.zeroValue20,
  t37 := Tryd.underlying42,
  a37 := Tryd.isAgg42,
  z37 := Tryd.sizeOf42,
  v37 := Tryd.zeroValue42,
  t46 := Tryd.underlying70,
  a46 := Tryd.isAgg70,
  z46 := Tryd.sizeOf70,
  v46 := Tryd.zeroValue70,
  t51 := Tryd.underlying81,
  a51 := Tryd.isAgg81,
  z51 := Tryd.sizeOf81,
  v51 := Tryd.zeroValue81,
  t53 := Tryd.underlying60,
  a53 := Tryd.isAgg60,
  z53 := Tryd.sizeOf60,
  v53 := Tryd.zeroValue60,
  t171 := Tryd.underlying74,
  a171 := Tryd.isAgg74,
  z171 := Tryd.sizeOf74,
  v171 := Tryd.zeroValue74,
  t173 := Tryd.underlying77,
  a173 := Tryd.isAgg77,
  z173 := Tryd.sizeOf77,
  v173 := Tryd.zeroValue77,
  t212 := Tryd.underlying80,
  a212 := Tryd.isAgg80,
  z212 := Tryd.sizeOf80,
  v212 := Tryd.zeroValue80,
  t213 := Tryd.underlying82,
  a213 := Tryd.isAgg82,
  z213 := Tryd.sizeOf82,
  t232 := Tryd.underlying85,
  a232 := Tryd.isAgg85,
  z232 := Tryd.sizeOf85,
  v232 := Tryd.zeroValue85,
  t233 := Tryd.underlying86,
  a233 := Tryd.isAgg86,
  z233 := Tryd.sizeOf86,
  v233 := Tryd.zeroValue86,
  g17 := by kernel_rfl,
  g18 := by kernel_rfl,
  g19 := by kernel_rfl,
  i0 := by kernel_rfl,
  i2 := by kernel_rfl,
  i3 := by kernel_rfl,
  i4 := by kernel_rfl,
  i5 := by kernel_rfl,
  i9 := by kernel_rfl,
  i20 := by kernel_rfl,
  i37 := by kernel_rfl,
  i46 := by kernel_rfl,
  i51 := by kernel_rfl,
  i53 := by kernel_rfl,
  i171 := by kernel_rfl,
  i173 := by kernel_rfl,
  i212 := by kernel_rfl,
  i232 := by kernel_rfl,
  i233 := by kernel_rfl,
  m17 := by kernel_rfl,
  m18 := by kernel_rfl,
  m19 := by kernel_rfl }
def pows : List Value := Lib.pow10Tab.map fun z => Value.int .u64 z
def Tab (L : List Assn) : Prop := Glob 0 pows ∈ L
theorem itoa_nat (n : Nat) : Lib.itoa (n : Int) = Lib.decDigits n := by
  unfold Lib.itoa; rw [if_neg (by omega), Int.toNat_natCast]
theorem itoa_ok {κ : World} {L : List Assn} (hT : Glob 0 pows ∈ L) {n : Int} (h0 : 0 ≤ n) (h1 : n ≤ 9223372036854775807) : Ctr Tryd.prog 32 #[vI n] κ L (fun v M => v = vS (Lib.decDigits n.toNat) ∧ M = L) := fun w hs => by
  obtain ⟨N, rfl⟩ := Int.eq_ofNat_of_zero_le h0
  obtain ⟨T, fr, hg⟩ := hs.glob hT
  refine Calls.mono (Any.strconv_Itoa itoaLays (N : Int) (by omega) h1 w ?_) ?_
  · unfold Lib.TabIs World.var?
    rw [itoaLays.m17]
    show (match w.heap[0]? with | some (.cells cs _ _) => some cs | _ => none) = _
    rw [hg]; rfl
  · rintro e w' ⟨rfl, k, os, rfl⟩
    exact ⟨vS (Lib.decDigits N), by rw [itoa_nat], L, ⟨rfl, rfl⟩, hs.grow k os⟩
end Go.Proofs.YteopejoppdgncaaDoor
