/- Encodings by the reference. -/
import Derived.Test.YtdccpcnahbhfcaaRefs
namespace Go.Proofs.Ytdccpcnahbhfcaa
open Go.Wk Go.Wire

set_option maxRecDepth 100000 in
theorem refUint_ok {κ : World} {L : List Assn} (n : UInt64) :
    Ctr Try.prog 35 #[v64 n] κ L (fun v M => ∃ a' k' c', v = .slice a' k' c' ∧ M = Buf R8 5 a' k' c' (enc n) :: L) := by
  refine Ctr.enter (vs := [v64 n]) (m := 20) Try.func35 rfl rfl rfl ?_
  refine SG.seq ?_
  refine SG.region ?_
  refine RL.val (Wanted.free rfl) (V.assign rfl rfl) rfl ?_
  refine RL.nil ?_
  refine SG.seq ?_
  refine SG.region ?_
  refine RL.val (Wanted.free rfl) (V.assign rfl rfl) rfl ?_
  refine RL.nil ?_
  refine SG.seq ?_
  refine SG.block ?_
  refine SG.ent (Buf.nil (T := R8) (e := 5)) ?_
  refine SG.weaken (SG.loop2 (fun m al M => ∃ (x : UInt64) (g : Nat) (a : Option Addr) (k c : Nat) (l : List UInt8), m = g ∧ x.toNat < 128 ^ (g + 1) ∧ l.length + g ≤ 9 ∧ l ++ uv g x.toNat = enc n ∧ al = [(0, v64 x), (3, .slice a k c)] ∧ M = Buf R8 5 a k c l :: L) (m0 := _) ⟨n, 9, none, 0, 0, [], rfl, lt_pow n, by simp, rfl, rfl, rfl⟩ ?_) ?_ ?_
  rotate_left
  · repeat (first | exact EnvLe.nil _ | refine EnvLe.cons rfl ?_)
  · repeat (first | exact Ent.refl _ | (apply Ent.cons; (· repeat (first | exact Pick.here | (refine Pick.sl ?_; (· repeat (first | exact List.Mem.head _ | assumption | apply List.Mem.tail))) | apply Pick.there))) | (refine Ent.trans (Ent.drop _ _) ?_))
  rintro _ _ _ ⟨x, g, a, k, c, l, rfl, hx, hlg, hl, rfl, rfl⟩ ih0
  refine SG.buf (by repeat (first | exact Pick.here | apply Pick.there)) fun hk _ _ => ?_
  refine SG.seq ?_
  refine SG.seq ?_
  refine SG.region ?_
  refine RL.val (Wanted.free rfl) (V.move rfl rfl) rfl ?_
  refine RL.cmp (Wanted.free rfl) (V.bin rfl rfl rfl B.geq) rfl (fun h4 => ?_) (fun h4 => ?_)
  · skip
    refine RL.nil ?_
    refine SG.cond_true rfl ?_
    refine SG.skip ?_
    refine SG.block ?_
    refine SG.seq ?_
    refine SG.region ?_
    refine RL.val (Wanted.free rfl) (V.move rfl rfl) rfl ?_
    refine RL.val (Wanted.free rfl) (V.move rfl rfl) rfl ?_
    refine RL.val (Wanted.free rfl) (V.bin rfl rfl rfl (B.rem64 (y := 128) (by decide))) rfl ?_
    refine RL.val (Wanted.free rfl) (V.bin rfl rfl rfl (B.add64 (x := 128))) rfl ?_
    refine RL.val (Wanted.free rfl) (V.to8 rfl ⟨_, ui31⟩ ui5 rfl) rfl ?_
    refine RL.eff (Wanted.free rfl) (E.lit1 _ rfl el23.slice ze5 rfl (by decide) (by decide) rfl rfl rfl) rfl ?_
    rintro _ _ ⟨b10, rfl, rfl⟩
    refine RL.eff (Wanted.free rfl) (E.append (T := R8) rfl rfl rfl el23 el23.noInt rfl rfl (by repeat (first | exact Pick.here | apply Pick.there)) (Src.lit (by repeat (first | exact Pick.here | apply Pick.there)) (by first | trivial | assumption | omega)) (by first | omega | (simp; omega)) (by first | omega | (simp; omega))) rfl ?_
    intro _ _ hK11
    try rw [List.nil_append] at hK11
    try rw [Nat.zero_add] at hK11
    rw [byte_hi] at hK11
    obtain ⟨a2, c2, rfl, rfl⟩ := hK11
    refine RL.val (Wanted.free rfl) (V.assign rfl rfl) rfl ?_
    refine RL.nil ?_
    refine SG.region ?_
    refine RL.val (Wanted.free rfl) (V.move rfl rfl) rfl ?_
    refine RL.val (Wanted.free rfl) (V.bin rfl rfl rfl (B.quo64 (y := 128) (by decide))) rfl ?_
    refine RL.val (Wanted.free rfl) (V.assign rfl rfl) rfl ?_
    refine RL.nil ?_
    refine SG.inBlock ?_
    obtain ⟨g', rfl, hx', hu⟩ := uv_big (by omega) hx
    refine SG.weaken (ih0 _ _ _ ?_ ⟨x / 128, g', a2, k + 1, c2, l ++ [UInt8.ofNat (128 + x.toNat % 128)], rfl, ?_, ?_, ?_, rfl, rfl⟩) ?_ ?_
    · omega
    · rw [UInt64.toNat_div]; exact hx'
    · simp; omega
    · rw [UInt64.toNat_div, ← hl, hu]; simp
    · repeat (first | exact EnvLe.nil _ | refine EnvLe.cons rfl ?_)
    · repeat (first | exact Ent.refl _ | (apply Ent.cons; (· repeat (first | exact Pick.here | (refine Pick.sl ?_; (· repeat (first | exact List.Mem.head _ | assumption | apply List.Mem.tail))) | apply Pick.there))) | (refine Ent.trans (Ent.drop _ _) ?_))
  · skip
    refine RL.nil ?_
    refine SG.cond_false rfl ?_
    refine SG.exit rfl ?_
    refine SG.seq ?_
    refine SG.region ?_
    refine RL.val (Wanted.free rfl) (V.move rfl rfl) rfl ?_
    refine RL.val (Wanted.free rfl) (V.move rfl rfl) rfl ?_
    refine RL.val (Wanted.free rfl) (V.to8 rfl ⟨_, ui31⟩ ui5 rfl) rfl ?_
    refine RL.eff (Wanted.free rfl) (E.lit1 _ rfl el23.slice ze5 rfl (by decide) (by decide) rfl rfl rfl) rfl ?_
    rintro _ _ ⟨b19, rfl, rfl⟩
    refine RL.eff (Wanted.free rfl) (E.append (T := R8) rfl rfl rfl el23 el23.noInt rfl rfl (by repeat (first | exact Pick.here | apply Pick.there)) (Src.lit (by repeat (first | exact Pick.here | apply Pick.there)) (by first | trivial | assumption | omega)) (by first | omega | (simp; omega)) (by first | omega | (simp; omega))) rfl ?_
    intro _ _ hK20
    try rw [List.nil_append] at hK20
    try rw [Nat.zero_add] at hK20
    rw [byte_lo, show l ++ [UInt8.ofNat x.toNat] = enc n from by rw [← hl, uv_small (by omega)]] at hK20
    obtain ⟨a2, c2, rfl, rfl⟩ := hK20
    refine RL.val (Wanted.free rfl) (V.assign rfl rfl) rfl ?_
    refine RL.nil ?_
    refine SG.retE (Ret.r1 Try.func35 rfl (.tmp rfl)) ?_ ⟨_, _, _, rfl, rfl⟩
    repeat (first | exact Ent.refl _ | (apply Ent.cons; (· repeat (first | exact Pick.here | (refine Pick.sl ?_; (· repeat (first | exact List.Mem.head _ | assumption | apply List.Mem.tail))) | apply Pick.there))) | (refine Ent.trans (Ent.drop _ _) ?_))

set_option maxRecDepth 100000 in
theorem refZig_ok {κ : World} {L : List Assn} (n : Int) (h1 : -9223372036854775808 ≤ n) (h2 : n ≤ 9223372036854775807) :
    Ctr Try.prog 52 #[vI n] κ L (fun v M => v = v64 (zig n) ∧ M = L) := by
  refine Ctr.enter (vs := [vI n]) (m := 14) Try.func52 rfl rfl rfl ?_
  refine SG.seq ?_
  refine SG.region ?_
  refine RL.val (Wanted.free rfl) (V.assign rfl rfl) rfl ?_
  refine RL.nil ?_
  refine SG.seq ?_
  refine SG.seq ?_
  refine SG.region ?_
  refine RL.val (Wanted.free rfl) (V.move rfl rfl) rfl ?_
  refine RL.cmp (Wanted.free rfl) (V.bin rfl rfl rfl B.lss) rfl (fun h3 => ?_) (fun h3 => ?_)
  · skip
    refine RL.nil ?_
    refine SG.cond_true rfl ?_
    refine SG.seq ?_
    refine SG.region ?_
    refine RL.val (Wanted.free rfl) (V.move rfl rfl) rfl ?_
    refine RL.val (Wanted.free rfl) (V.bin rfl rfl rfl (B.addI (by omega) (by omega))) rfl ?_
    refine RL.val (Wanted.free rfl) (V.negI rfl rfl (by omega) (by omega)) rfl ?_
    refine RL.val (Wanted.free rfl) (V.to64 rfl ⟨_, ui3⟩ ui31 rfl) rfl ?_
    refine RL.val (Wanted.free rfl) (V.bin rfl rfl rfl (B.mul64 (x := 2))) rfl ?_
    refine RL.val (Wanted.free rfl) (V.bin rfl rfl rfl (B.add64 (y := 1))) rfl ?_
    rw [zig_neg (by omega) h1]
    refine RL.val (Wanted.free rfl) (V.assign rfl rfl) rfl ?_
    refine RL.nil ?_
    refine SG.retE (Ret.r1 Try.func52 rfl (.tmp rfl)) ?_ ⟨rfl, rfl⟩
    repeat (first | exact Ent.refl _ | (apply Ent.cons; (· repeat (first | exact Pick.here | (refine Pick.sl ?_; (· repeat (first | exact List.Mem.head _ | assumption | apply List.Mem.tail))) | apply Pick.there))) | (refine Ent.trans (Ent.drop _ _) ?_))
  · skip
    refine RL.nil ?_
    refine SG.cond_false rfl ?_
    refine SG.skip ?_
    refine SG.seq ?_
    refine SG.region ?_
    refine RL.val (Wanted.free rfl) (V.move rfl rfl) rfl ?_
    refine RL.val (Wanted.free rfl) (V.to64 rfl ⟨_, ui3⟩ ui31 rfl) rfl ?_
    refine RL.val (Wanted.free rfl) (V.bin rfl rfl rfl (B.mul64 (x := 2))) rfl ?_
    rw [zig_pos (by omega) h2]
    refine RL.val (Wanted.free rfl) (V.assign rfl rfl) rfl ?_
    refine RL.nil ?_
    refine SG.retE (Ret.r1 Try.func52 rfl (.tmp rfl)) ?_ ⟨rfl, rfl⟩
    repeat (first | exact Ent.refl _ | (apply Ent.cons; (· repeat (first | exact Pick.here | (refine Pick.sl ?_; (· repeat (first | exact List.Mem.head _ | assumption | apply List.Mem.tail))) | apply Pick.there))) | (refine Ent.trans (Ent.drop _ _) ?_))

set_option maxRecDepth 100000 in
theorem refInt_ok {κ : World} {L : List Assn} (n : Int) (h1 : -9223372036854775808 ≤ n) (h2 : n ≤ 9223372036854775807) :
    Ctr Try.prog 36 #[vI n] κ L (fun v M => ∃ a' k' c', v = .slice a' k' c' ∧ M = Buf R8 5 a' k' c' (enc (zig n)) :: L) := by
  refine Ctr.enter (vs := [vI n]) (m := 6) Try.func36 rfl rfl rfl ?_
  refine SG.seq ?_
  refine SG.region ?_
  refine RL.val (Wanted.free rfl) (V.assign rfl rfl) rfl ?_
  refine RL.nil ?_
  refine SG.seq ?_
  refine SG.region ?_
  refine RL.val (Wanted.free rfl) (V.move rfl rfl) rfl ?_
  refine RL.eff (Wanted.free rfl) (E.call rfl go52 rfl (refZig_ok _ (by omega) (by omega))) rfl ?_
  rintro _ _ ⟨rfl, rfl⟩
  refine RL.eff (Wanted.free rfl) (E.call rfl go35 rfl (refUint_ok _)) rfl ?_
  rintro _ _ ⟨a4, k4, c4, rfl, rfl⟩
  refine RL.val (Wanted.free rfl) (V.assign rfl rfl) rfl ?_
  refine RL.nil ?_
  refine SG.retE (Ret.r1 Try.func36 rfl (.tmp rfl)) ?_ ⟨_, _, _, rfl, rfl⟩
  repeat (first | exact Ent.refl _ | (apply Ent.cons; (· repeat (first | exact Pick.here | (refine Pick.sl ?_; (· repeat (first | exact List.Mem.head _ | assumption | apply List.Mem.tail))) | apply Pick.there))) | (refine Ent.trans (Ent.drop _ _) ?_))

set_option maxRecDepth 100000 in
theorem refBool_ok {κ : World} {L : List Assn} (b : Bool) :
    Ctr Try.prog 37 #[vB b] κ L (fun v M => ∃ a' k' c', v = .slice a' k' c' ∧ M = Buf R8 5 a' k' c' (encBool b) :: L) := by
  refine Ctr.enter (vs := [vB b]) (m := 6) Try.func37 rfl rfl rfl ?_
  refine SG.seq ?_
  refine SG.region ?_
  refine RL.val (Wanted.free rfl) (V.assign rfl rfl) rfl ?_
  refine RL.nil ?_
  refine SG.seq ?_
  refine SG.seq ?_
  refine SG.region ?_
  refine RL.val (Wanted.free rfl) (V.move rfl rfl) rfl ?_
  refine RL.nil ?_
  refine SG.cond rfl (fun h3 => ?_) (fun h3 => ?_)
  · skip
    have h1 := h3
    refine SG.seq ?_
    refine SG.region ?_
    refine RL.eff (Wanted.free rfl) (E.lit1 _ rfl el23.slice ze5 rfl (by decide) (by decide) rfl rfl rfl) rfl ?_
    rintro _ _ ⟨b4, rfl, rfl⟩
    refine RL.ent (Buf.of_blk (T := R8) (l := encBool b) (c := 1) rfl rfl (by omega) (fun z => rows_sc.2 ⟨by rw [h1]; rfl, fun _ _ => trivial⟩)) ?_
    refine RL.val (Wanted.free rfl) (V.assign rfl rfl) rfl ?_
    refine RL.nil ?_
    refine SG.retE (Ret.r1 Try.func37 rfl (.tmp rfl)) ?_ ⟨_, _, _, rfl, rfl⟩
    repeat (first | exact Ent.refl _ | (apply Ent.cons; (· repeat (first | exact Pick.here | (refine Pick.sl ?_; (· repeat (first | exact List.Mem.head _ | assumption | apply List.Mem.tail))) | apply Pick.there))) | (refine Ent.trans (Ent.drop _ _) ?_))
  · skip
    have h1 := h3
    refine SG.skip ?_
    refine SG.seq ?_
    refine SG.region ?_
    refine RL.eff (Wanted.free rfl) (E.lit1 _ rfl el23.slice ze5 rfl (by decide) (by decide) rfl rfl rfl) rfl ?_
    rintro _ _ ⟨b6, rfl, rfl⟩
    refine RL.ent (Buf.of_blk (T := R8) (l := encBool b) (c := 1) rfl rfl (by omega) (fun z => rows_sc.2 ⟨by rw [h1]; rfl, fun _ _ => trivial⟩)) ?_
    refine RL.val (Wanted.free rfl) (V.assign rfl rfl) rfl ?_
    refine RL.nil ?_
    refine SG.retE (Ret.r1 Try.func37 rfl (.tmp rfl)) ?_ ⟨_, _, _, rfl, rfl⟩
    repeat (first | exact Ent.refl _ | (apply Ent.cons; (· repeat (first | exact Pick.here | (refine Pick.sl ?_; (· repeat (first | exact List.Mem.head _ | assumption | apply List.Mem.tail))) | apply Pick.there))) | (refine Ent.trans (Ent.drop _ _) ?_))

set_option maxRecDepth 100000 in
theorem refText_ok {κ : World} {L : List Assn} (s : List UInt8) (hs : s.length ≤ 1000000) :
    Ctr Try.prog 38 #[vS s] κ L (fun v M => ∃ a' k' c', v = .slice a' k' c' ∧ M = Buf R8 5 a' k' c' (encText s) :: L) := by
  refine Ctr.enter (vs := [vS s]) (m := 9) Try.func38 rfl rfl rfl ?_
  refine SG.seq ?_
  refine SG.region ?_
  refine RL.val (Wanted.free rfl) (V.assign rfl rfl) rfl ?_
  refine RL.nil ?_
  refine SG.seq ?_
  refine SG.region ?_
  refine RL.val (Wanted.free rfl) (V.move rfl rfl) rfl ?_
  refine RL.val (Wanted.free rfl) (V.lenS rfl rfl us9 rfl) rfl ?_
  refine RL.val (Wanted.free rfl) (V.to64 rfl ⟨_, ui3⟩ ui31 rfl) rfl ?_
  rw [len64]
  refine RL.eff (Wanted.free rfl) (E.call rfl go35 rfl (refUint_ok _)) rfl ?_
  rintro _ _ ⟨a5, k5, c5, rfl, rfl⟩
  refine RL.val (Wanted.free rfl) (V.move rfl rfl) rfl ?_
  refine RL.buf (by repeat (first | exact Pick.here | apply Pick.there)) fun hk _ _ => ?_
  have hle := enc_length (UInt64.ofNat s.length)
  refine RL.eff (Wanted.free rfl) (E.append (T := R8) rfl rfl rfl el23 ni9 rfl rfl (by repeat (first | exact Pick.here | apply Pick.there)) Src.str (by first | omega | (simp; omega)) (by first | omega | (simp; omega))) rfl ?_
  intro _ _ hK7
  try rw [List.nil_append] at hK7
  try rw [Nat.zero_add] at hK7
  obtain ⟨a7, c7, rfl, rfl⟩ := hK7
  refine RL.val (Wanted.free rfl) (V.assign rfl rfl) rfl ?_
  refine RL.nil ?_
  refine SG.retE (Ret.r1 Try.func38 rfl (.tmp rfl)) ?_ ⟨_, _, _, rfl, rfl⟩
  repeat (first | exact Ent.refl _ | (apply Ent.cons; (· repeat (first | exact Pick.here | (refine Pick.sl ?_; (· repeat (first | exact List.Mem.head _ | assumption | apply List.Mem.tail))) | apply Pick.there))) | (refine Ent.trans (Ent.drop _ _) ?_))

set_option maxRecDepth 100000 in
theorem refInts_ok {κ : World} {L : List Assn} {a : Option Addr} {m c : Nat} {l : List Int} (hm : Sl RI a m c l ∈ L) (hi : ∀ x ∈ l, inInt x) (hs : l.length ≤ 1000000) :
    Ctr Try.prog 39 #[.slice a m c] κ L (fun v M => ∃ a' k' c', v = .slice a' k' c' ∧ M = Buf R8 5 a' k' c' (encInts l) :: L) := by
  refine Ctr.enter (vs := [.slice a m c]) (m := 23) Try.func39 rfl rfl rfl ?_
  refine SG.sl hm fun hl _ _ => ?_
  subst hl
  have hle := enc_length (UInt64.ofNat l.length)
  refine SG.seq ?_
  refine SG.region ?_
  refine RL.val (Wanted.free rfl) (V.assign rfl rfl) rfl ?_
  refine RL.nil ?_
  refine SG.seq ?_
  refine SG.region ?_
  refine RL.val (Wanted.free rfl) (V.move rfl rfl) rfl ?_
  refine RL.val (Wanted.free rfl) (V.len rfl rfl el32.under rfl) rfl ?_
  refine RL.val (Wanted.free rfl) (V.to64 rfl ⟨_, ui3⟩ ui31 rfl) rfl ?_
  rw [len64]
  refine RL.eff (Wanted.free rfl) (E.call rfl go35 rfl (refUint_ok _)) rfl ?_
  rintro _ _ ⟨a1, k1, c1, rfl, rfl⟩
  refine RL.val (Wanted.free rfl) (V.assign rfl rfl) rfl ?_
  refine RL.nil ?_
  refine SG.seq ?_
  refine SG.seq ?_
  refine SG.region ?_
  refine RL.val (Wanted.free rfl) (V.assign rfl rfl) rfl ?_
  refine RL.nil ?_
  refine SG.block ?_
  refine SG.weaken (SG.loop2 (fun m al M => ∃ (i : Nat) (a' : Option Addr) (k' c' : Nat), i ≤ l.length ∧ m = l.length - i ∧ al = [(0, .slice a l.length c), (3, .slice a' k' c'), (4, vI i)] ∧ M = Buf R8 5 a' k' c' (enc (UInt64.ofNat l.length) ++ encList (l.take i)) :: L) (m0 := _) ⟨0, a1, k1, c1, by omega, rfl, rfl, by simp [encList]; rfl⟩ ?_) ?_ ?_
  rotate_left
  · repeat (first | exact EnvLe.nil _ | refine EnvLe.cons rfl ?_)
  · repeat (first | exact Ent.refl _ | (apply Ent.cons; (· repeat (first | exact Pick.here | (refine Pick.sl ?_; (· repeat (first | exact List.Mem.head _ | assumption | apply List.Mem.tail))) | apply Pick.there))) | (refine Ent.trans (Ent.drop _ _) ?_))
  rintro _ _ _ ⟨i, a', k', c', hil, rfl, rfl, rfl⟩ ih0
  refine SG.buf (by repeat (first | exact Pick.here | apply Pick.there)) fun hk _ _ => ?_
  have hel := encList_length (l.take i)
  simp only [List.length_append, List.length_take] at hk hel
  refine SG.seq ?_
  refine SG.seq ?_
  refine SG.region ?_
  refine RL.val (Wanted.free rfl) (V.move rfl rfl) rfl ?_
  refine RL.val (Wanted.free rfl) (V.move rfl rfl) rfl ?_
  refine RL.val (Wanted.free rfl) (V.len rfl rfl el32.under rfl) rfl ?_
  refine RL.cmp (Wanted.free rfl) (V.bin rfl rfl rfl B.lss) rfl (fun h11 => ?_) (fun h11 => ?_)
  · skip
    refine RL.nil ?_
    refine SG.cond_true rfl ?_
    refine SG.skip ?_
    refine SG.seq ?_
    refine SG.block ?_
    refine SG.region ?_
    refine RL.val (Wanted.free rfl) (V.move rfl rfl) rfl ?_
    refine RL.val (Wanted.free rfl) (V.move rfl rfl) rfl ?_
    refine RL.val (Wanted.free rfl) (V.move rfl rfl) rfl ?_
    refine RL.val (Wanted.free rfl) (V.indexSl rfl el32.slice rfl rfl (by repeat (first | exact List.Mem.head _ | assumption | apply List.Mem.tail)) (by first | rfl | omega) (by omega)) rfl ?_
    refine RL.val (Wanted.free rfl) (V.loadSc rfl on3 rfl (by repeat (first | exact List.Mem.head _ | assumption | apply List.Mem.tail)) (List.getElem?_eq_getElem (by omega))) rfl ?_
    have hin := hi l[i] (List.getElem_mem _)
    have hle2 := enc_length (zig l[i])
    refine RL.eff (Wanted.free rfl) (E.call rfl go36 rfl (refInt_ok _ hin.1 hin.2)) rfl ?_
    rintro _ _ ⟨a4, k4, c4, rfl, rfl⟩
    refine RL.eff (Wanted.free rfl) (E.append (T := R8) rfl rfl rfl el23 el23.noInt rfl rfl (by repeat (first | exact Pick.here | apply Pick.there)) (Src.buf (by decide) (by repeat (first | exact Pick.here (A := Buf R8 5 a4 k4 c4 _) | apply Pick.there))) (by first | omega | (simp; omega)) (by first | omega | (simp; omega))) rfl ?_
    intro _ _ hK18
    try rw [List.nil_append] at hK18
    try rw [Nat.zero_add] at hK18
    obtain ⟨a5, c5, rfl, rfl⟩ := hK18
    refine RL.val (Wanted.free rfl) (V.assign rfl rfl) rfl ?_
    refine RL.nil ?_
    refine SG.inBlock ?_
    refine SG.region ?_
    refine RL.val (Wanted.free rfl) (V.move rfl rfl) rfl ?_
    refine RL.val (Wanted.free rfl) (V.bin rfl rfl rfl (B.addI (by omega) (by omega))) rfl ?_
    refine RL.val (Wanted.free rfl) (V.assign rfl rfl) rfl ?_
    refine RL.nil ?_
    refine SG.weaken (ih0 _ _ _ ?_ ⟨i + 1, a5, k' + (enc (zig l[i])).length, c5, by omega, rfl, rfl, rfl⟩) ?_ ?_
    · omega
    · repeat (first | exact EnvLe.nil _ | refine EnvLe.cons rfl ?_)
    · rw [show enc (UInt64.ofNat l.length) ++ encList (l.take (i + 1)) = enc (UInt64.ofNat l.length) ++ encList (l.take i) ++ enc (zig l[i]) from by rw [List.take_add_one, List.getElem?_eq_getElem (by omega), Option.toList_some, encList_snoc, List.append_assoc]]
      repeat (first | exact Ent.refl _ | (apply Ent.cons; (· repeat (first | exact Pick.here | (refine Pick.sl ?_; (· repeat (first | exact List.Mem.head _ | assumption | apply List.Mem.tail))) | apply Pick.there))) | (refine Ent.trans (Ent.drop _ _) ?_))
  · skip
    refine RL.nil ?_
    refine SG.cond_false rfl ?_
    refine SG.exit rfl ?_
    refine SG.seq ?_
    refine SG.region ?_
    refine RL.val (Wanted.free rfl) (V.move rfl rfl) rfl ?_
    refine RL.val (Wanted.free rfl) (V.assign rfl rfl) rfl ?_
    refine RL.nil ?_
    rw [show i = l.length from by omega, List.take_length]
    refine SG.retE (Ret.r1 Try.func39 rfl (.tmp rfl)) ?_ ⟨_, _, _, rfl, rfl⟩
    repeat (first | exact Ent.refl _ | (apply Ent.cons; (· repeat (first | exact Pick.here | (refine Pick.sl ?_; (· repeat (first | exact List.Mem.head _ | assumption | apply List.Mem.tail))) | apply Pick.there))) | (refine Ent.trans (Ent.drop _ _) ?_))

end Go.Proofs.Ytdccpcnahbhfcaa
