/- The laws DigestDigits and DigestParses. -/
import Derived.Test.YtbljfilkdhgcnaaDoorRest2
import Derived.Test.YtbljfilkdhgcnaaDoorLives
import Derived.Test.YtbljfilkdhgcnaaDoorRest1
namespace Go.Proofs.YtbljfilkdhgcnaaDoor
open Go.Wk Go.Sha


theorem hexd_digit {c : UInt8} (h : (digitV c).toNat ≤ 15) : hexd (digitV c) = c := by
  have key : ∀ n, n < 256 → (digitV (UInt8.ofNat n)).toNat ≤ 15 → hexd (digitV (UInt8.ofNat n)) = UInt8.ofNat n := by decide +kernel
  have := key c.toNat c.toNat_lt
  simp only [UInt8.ofNat_toNat] at this
  exact this h
theorem digit_hexd (x : UInt8) (h : x.toNat < 16) : digitV (hexd x) = x := by
  have key : ∀ n, n < 16 → digitV (hexd (UInt8.ofNat n)) = UInt8.ofNat n := by decide +kernel
  have := key x.toNat h
  simpa using this
theorem pv_div {s : List UInt8} {k : Nat} (h : pg s k = true) : pv s k / 16 = digitV (s.getD (2 * k) 0) ∧ pv s k % 16 = digitV (s.getD (2 * k + 1) 0) := by
  obtain ⟨h1, h2⟩ := pg_iff.1 h
  have e : (pv s k).toNat = 16 * (digitV (s.getD (2 * k) 0)).toNat + (digitV (s.getD (2 * k + 1) 0)).toNat := by
    rw [pv, UInt8.toNat_add, UInt8.toNat_mul, show (16 : UInt8).toNat = 16 from rfl]; omega
  constructor
  · apply UInt8.toNat_inj.1; rw [UInt8.toNat_div, e, show (16 : UInt8).toNat = 16 from rfl]; omega
  · apply UInt8.toNat_inj.1; rw [UInt8.toNat_mod, e, show (16 : UInt8).toNat = 16 from rfl]; omega
theorem hex_pl {s : List UInt8} (hs : s.length = 64) : ∀ i, i ≤ 32 → (∀ k, k < i → pg s k = true) → hex (pl s i) = s.take (2 * i)
  | 0, _, _ => rfl
  | i + 1, hi, hg => by
    have ih := hex_pl hs i (by omega) fun k hk => hg k (by omega)
    obtain ⟨h1, h2⟩ := pv_div (hg i (by omega))
    obtain ⟨g1, g2⟩ := pg_iff.1 (hg i (by omega))
    have e : pl s (i + 1) = pl s i ++ [pv s i] := by rw [pl, List.range_succ, List.map_append]; rfl
    have e2 : hex (pl s i ++ [pv s i]) = hex (pl s i) ++ [hexd (pv s i / 16), hexd (pv s i % 16)] := by rw [hex, List.flatMap_append]; rfl
    rw [e, e2, ih, h1, h2, hexd_digit g1, hexd_digit g2, show 2 * (i + 1) = 2 * i + 1 + 1 from by omega, List.take_add_one, List.take_add_one, getD_s (by omega), getD_s (by omega), List.append_assoc]; rfl
/-- What Parse accepts is Hex of it. -/
theorem hex_parse {s : List UInt8} (h : (parseV s).2 = 0) : hex (parseV s).1 = s := by
  unfold parseV at h ⊢
  split at h
  · rename_i hc
    rw [if_pos hc, hex_pl hc.1 32 (by omega) fun k hk => List.all_eq_true.1 hc.2 k (List.mem_range.2 hk)]
    exact List.take_of_length_le (by omega)
  · cases h
theorem hex_at {l : List UInt8} : ∀ {k : Nat}, k < l.length → (hex l).getD (2 * k) 0 = hexd (l.getD k 0 / 16) ∧ (hex l).getD (2 * k + 1) 0 = hexd (l.getD k 0 % 16) := by
  induction l with
  | nil => intro k hk; simp at hk
  | cons x l ih =>
    intro k hk
    have e : hex (x :: l) = hexd (x / 16) :: hexd (x % 16) :: hex l := rfl
    rw [e]
    match k, hk with
    | 0, _ => exact ⟨rfl, rfl⟩
    | k + 1, hk =>
      have := ih (k := k) (by simpa using hk)
      rw [show 2 * (k + 1) = 2 * k + 1 + 1 from by omega]
      exact this
/-- Parse of Hex. -/
theorem parse_hex {l : List UInt8} (h : l.length = 32) : parseV (hex l) = (l, 0) := by
  have hd : ∀ c : UInt8, digitV (hexd (c / 16)) = c / 16 ∧ digitV (hexd (c % 16)) = c % 16 ∧ (c / 16).toNat ≤ 15 ∧ (c % 16).toNat ≤ 15 ∧ 16 * (c / 16) + c % 16 = c := fun c => by
    have hc := c.toNat_lt
    have h1 : (c / 16).toNat ≤ 15 := by rw [UInt8.toNat_div, show (16 : UInt8).toNat = 16 from rfl]; omega
    have h2 : (c % 16).toNat ≤ 15 := by rw [UInt8.toNat_mod, show (16 : UInt8).toNat = 16 from rfl]; omega
    refine ⟨digit_hexd _ (by omega), digit_hexd _ (by omega), h1, h2, ?_⟩
    apply UInt8.toNat_inj.1
    rw [UInt8.toNat_add, UInt8.toNat_mul, UInt8.toNat_div, UInt8.toNat_mod, show (16 : UInt8).toNat = 16 from rfl]; omega
  have hg : ∀ k, k < 32 → pg (hex l) k = true := fun k hk => by
    obtain ⟨a, b⟩ := hex_at (l := l) (k := k) (by omega)
    rw [pg_iff, a, b]
    obtain ⟨c1, c2, c3, c4, _⟩ := hd (l.getD k 0)
    rw [c1, c2]; exact ⟨c3, c4⟩
  rw [parse_good (by rw [hex_length]; omega) hg]
  congr 1
  apply List.ext_getElem (by rw [pl_length, h])
  intro k h1 h2
  rw [pl_length] at h1
  obtain ⟨a, b⟩ := hex_at (l := l) (k := k) (by omega)
  obtain ⟨c1, c2, _, _, c5⟩ := hd (l.getD k 0)
  have e : (pl (hex l) 32)[k]'(by rw [pl_length]; exact h1) = pv (hex l) k := by simp [pl]
  rw [e, pv, a, b, c1, c2, c5, List.getD_eq_getElem?_getD, List.getElem?_eq_getElem h2]; rfl

set_option maxRecDepth 100000 in
theorem digits_law {κ : World} {L : List Assn} {l : List UInt8} (hl : l.length = 32) (hT : Tab L) :
    Ctr Tryd.prog 10 #[.agg (l.map v8).toArray] κ L (fun v M => v = vB true ∧ M = L) := by
  refine Ctr.enter (vs := [.agg (l.map v8).toArray]) (m := 29) Tryd.func10 rfl rfl rfl ?_
  unfold Tab at hT
  have hp := parse_hex hl
  refine SG.seq ?_
  refine SG.region ?_
  refine RL.eff (Wanted.free rfl) (E.box _ rfl rfl rfl) rfl ?_
  rintro _ _ ⟨b1, rfl, rfl⟩
  refine RL.val (Wanted.free rfl) (V.assign rfl rfl) rfl ?_
  refine RL.nil ?_
  refine SG.seq ?_
  refine SG.region ?_
  refine RL.val (Wanted.free rfl) (V.loadAgg (us := l.map v8) rfl ag24 rfl (by repeat (first | exact Pick.here | assumption | apply Pick.there)) (take8 hl) (by rw [List.length_map]; exact hl)) rfl ?_
  refine RL.eff (Wanted.free rfl) (E.call rfl go29 rfl (hex_ok hl)) rfl ?_
  rintro _ _ ⟨rfl, rfl⟩
  refine RL.val (Wanted.free rfl) (V.assign rfl rfl) rfl ?_
  refine RL.nil ?_
  refine SG.seq ?_
  refine SG.region ?_
  refine RL.val (Wanted.free rfl) (V.move rfl rfl) rfl ?_
  refine RL.eff (Wanted.free rfl) (E.call rfl go30 rfl (parse_ok (s := hex l))) rfl ?_
  rintro _ _ ⟨rfl, rfl⟩
  rw [hp]
  refine RL.val (Wanted.free rfl) (V.move rfl rfl) rfl ?_
  refine RL.val (Wanted.free rfl) (V.extract rfl rfl rfl) rfl ?_
  refine RL.val (Wanted.free rfl) (V.extract rfl rfl rfl) rfl ?_
  refine RL.eff (Wanted.free rfl) (E.alloc rfl ze24) rfl ?_
  rintro _ _ ⟨b4, rfl, rfl⟩
  refine RL.eff (Wanted.free rfl) (E.storeWhole rfl rfl rfl (by rw [List.length_map]; exact hl) sz24 (by repeat (first | exact Pick.here | assumption | apply Pick.there)) (one8 _) (by rw [List.length_replicate])) rfl ?_
  rintro _ _ rfl
  refine RL.val (Wanted.free rfl) (V.assign rfl rfl) rfl ?_
  refine RL.nil ?_
  refine SG.seq ?_
  refine SG.region ?_
  refine RL.val (Wanted.free rfl) (V.move rfl rfl) rfl ?_
  refine RL.val (Wanted.free rfl) (V.loadAgg (us := l.map v8) rfl ag24 rfl (by repeat (first | exact Pick.here | assumption | apply Pick.there)) (take8 hl) (by rw [List.length_map]; exact hl)) rfl ?_
  refine RL.eff (Wanted.free rfl) (E.call rfl go31 rfl (rhex_ok hl)) rfl ?_
  rintro _ _ ⟨rfl, rfl⟩
  refine RL.cmpT (Wanted.free rfl) (V.bin rfl rfl rfl B.eqlS) rfl rfl ?_
  refine RL.val (Wanted.free rfl) (V.move rfl rfl) rfl ?_
  refine RL.val (Wanted.yes rfl rfl rfl rfl) (V.loadAgg (us := l.map v8) rfl ag24 rfl (by repeat (first | exact Pick.here | assumption | apply Pick.there)) (take8 hl) (by rw [List.length_map]; exact hl)) rfl ?_
  refine RL.val (Wanted.yes rfl rfl rfl rfl) (V.loadAgg (us := l.map v8) rfl ag24 rfl (by repeat (first | exact Pick.here | assumption | apply Pick.there)) (take8 hl) (by rw [List.length_map]; exact hl)) rfl ?_
  refine RL.cmpT (Wanted.yes rfl rfl rfl rfl) (V.eqlArr rfl ar24 on5 ui5 ce24 eg24 inj8 hl hl rfl rfl) rfl rfl ?_
  refine RL.val (Wanted.free rfl) (V.pick_true rfl rfl rfl) rfl ?_
  refine RL.val (Wanted.free rfl) (V.move rfl rfl) rfl ?_
  refine RL.val (Wanted.yes rfl rfl rfl rfl) (V.move rfl rfl) rfl ?_
  refine RL.cmpT (Wanted.yes rfl rfl rfl rfl) (V.bin rfl rfl rfl B.eql) rfl rfl ?_
  refine RL.val (Wanted.free rfl) (V.pick_true rfl rfl rfl) rfl ?_
  refine RL.val (Wanted.free rfl) (V.move rfl rfl) rfl ?_
  refine RL.eff (Wanted.yes rfl rfl rfl rfl) (E.call rfl go14 rfl (lives_ok (by unfold Tab; repeat (first | exact List.Mem.head _ | assumption | apply List.Mem.tail)))) rfl ?_
  rintro _ _ ⟨rfl, rfl⟩
  refine RL.val (Wanted.free rfl) (V.pick_true rfl rfl rfl) rfl ?_
  refine RL.val (Wanted.free rfl) (V.assign rfl rfl) rfl ?_
  refine RL.nil ?_
  refine SG.retE (Ret.r1 Tryd.func10 rfl (.tmp rfl)) ?_ ⟨rfl, rfl⟩
  repeat (first | exact Ent.refl _ | (apply Ent.cons; (· repeat (first | exact Pick.here | (refine Pick.sl ?_; (· repeat (first | exact List.Mem.head _ | assumption | apply List.Mem.tail))) | apply Pick.there))) | (refine Ent.trans (Ent.drop _ _) ?_))

set_option maxRecDepth 100000 in
theorem parses_law {κ : World} {L : List Assn} {s l : List UInt8} {n : Int} {ch : UInt8} (hl : l.length = 32) (hs : s.length ≤ 9223372036854775807) (hT : Tab L) (h1 : -9223372036854775808 ≤ n) (h2 : n ≤ 9223372036854775807) :
    Ctr Tryd.prog 11 #[vS s, .agg (l.map v8).toArray, vI n, v8 ch] κ L (fun v M => v = vB true ∧ M = L) := by
  refine Ctr.enter (vs := [vS s, .agg (l.map v8).toArray, vI n, v8 ch]) (m := 70) Tryd.func11 rfl rfl rfl ?_
  unfold Tab at hT
  obtain ⟨q, hq, hq2⟩ := aroundV_nat (n := n) (most := 64) (by omega)
  have hxl : (hex l).length = 64 := by rw [hex_length]; omega
  refine SG.seq ?_
  refine SG.region ?_
  refine RL.eff (Wanted.free rfl) (E.box _ rfl rfl rfl) rfl ?_
  rintro _ _ ⟨b5, rfl, rfl⟩
  refine RL.val (Wanted.free rfl) (V.assign rfl rfl) rfl ?_
  refine RL.nil ?_
  refine SG.seq ?_
  refine SG.region ?_
  refine RL.val (Wanted.free rfl) (V.loadAgg (us := l.map v8) rfl ag24 rfl (by repeat (first | exact Pick.here | assumption | apply Pick.there)) (take8 hl) (by rw [List.length_map]; exact hl)) rfl ?_
  refine RL.eff (Wanted.free rfl) (E.call rfl go31 rfl (rhex_ok hl)) rfl ?_
  rintro _ _ ⟨rfl, rfl⟩
  refine RL.eff (Wanted.free rfl) (E.sToBytes rfl us9 el22 ui5 rfl (by omega)) rfl ?_
  rintro _ _ ⟨a18, c18, rfl, rfl⟩
  refine RL.val (Wanted.free rfl) (V.assign rfl rfl) rfl ?_
  refine RL.nil ?_
  refine SG.seq ?_
  refine SG.region ?_
  refine RL.val (Wanted.free rfl) (V.move rfl rfl) rfl ?_
  refine RL.val (Wanted.free rfl) (V.move rfl rfl) rfl ?_
  refine RL.eff (Wanted.free rfl) (E.call rfl go16 rfl (around_ok _ _ h1 h2 (by omega))) rfl ?_
  rintro _ _ ⟨rfl, rfl⟩
  rw [hq]
  refine RL.val (Wanted.free rfl) (V.move rfl rfl) rfl ?_
  refine RL.val (Wanted.free rfl) (V.indexBuf (j := q) rfl el22.slice rfl rfl (by repeat (first | exact Pick.here | assumption | apply Pick.there)) (by first | rfl | omega) (by omega)) rfl ?_
  refine RL.eff (Wanted.free rfl) (E.storeBuf [v8 ch] rfl sz5 rfl rfl rfl (by repeat (first | exact Pick.here | assumption | apply Pick.there)) (by omega) (fun _ _ _ => ⟨rfl, trivial⟩)) rfl ?_
  rintro _ _ rfl
  refine RL.nil ?_
  refine SG.seq ?_
  refine SG.publish (T := R8) (a := a18) (by repeat (first | exact Pick.here | assumption | apply Pick.there)) ?_
  have hsl : ((hex l).set q ch).length = 64 := by rw [List.length_set]; exact hxl
  rw [show (hex l).length = ((hex l).set q ch).length from (List.length_set ..).symm]
  refine SG.region ?_
  refine RL.val (Wanted.free rfl) (V.move rfl rfl) rfl ?_
  refine RL.val (Wanted.free rfl) (V.move rfl rfl) rfl ?_
  refine RL.val (Wanted.free rfl) (V.bytesToS rfl el22.under ui5 us9 rfl (by repeat (first | exact List.Mem.head _ | assumption | apply List.Mem.tail))) rfl ?_
  refine RL.eff (Wanted.free rfl) (E.litN (xs := [.tmp 24, .tmp 26]) rfl rfl rfl el55.slice ze9 rfl (by decide) (by decide) rfl (by simp [Value.cells])) rfl ?_
  rintro _ _ ⟨b27, rfl, rfl⟩
  refine RL.ent (Buf.of_els (T := RS) (b := b27) (e := 9) (m := 2) (l := [s, (hex l).set q ch]) Pick.here rfl rfl (by decide) (fun _ _ _ => rows_sc.2 ⟨rfl, fun w hw => ?_⟩)) ?_
  · simp only [List.mem_cons, List.not_mem_nil, or_false] at hw
    rcases hw with rfl | rfl
    · exact hs
    · show List.length _ ≤ _; omega
  refine RL.publish (T := RS) (a := some ⟨b27, 0, none⟩) Pick.here ?_
  refine RL.val (Wanted.free rfl) (V.assign rfl rfl) rfl ?_
  refine RL.nil ?_
  refine SG.seq ?_
  refine SG.seq ?_
  refine SG.region ?_
  refine RL.val (Wanted.free rfl) (V.assign rfl rfl) rfl ?_
  refine RL.nil ?_
  refine SG.block ?_
  refine SG.weaken (SG.loop2 (fun m al M => ∃ i : Nat, i ≤ 2 ∧ m = 2 - i ∧ al = [(10, .slice (some ⟨b27, 0, none⟩) 2 2), (11, vI i)] ∧ M = Sl RS (some ⟨b27, 0, none⟩) 2 2 [s, (hex l).set q ch] :: L) (m0 := _) ⟨0, by omega, rfl, rfl, rfl⟩ ?_) ?_ ?_
  rotate_left
  · repeat (first | exact EnvLe.nil _ | refine EnvLe.cons rfl ?_)
  · repeat (first | exact Ent.refl _ | (apply Ent.cons; (· repeat (first | exact Pick.here | (refine Pick.sl ?_; (· repeat (first | exact List.Mem.head _ | assumption | apply List.Mem.tail))) | apply Pick.there))) | (refine Ent.trans (Ent.drop _ _) ?_))
  rintro _ _ _ ⟨i, hi, rfl, rfl, rfl⟩ ih0
  refine SG.seq ?_
  refine SG.seq ?_
  refine SG.region ?_
  refine RL.val (Wanted.free rfl) (V.move rfl rfl) rfl ?_
  refine RL.cmp (Wanted.free rfl) (V.bin rfl rfl rfl B.lss) rfl (fun h20 => ?_) (fun h20 => ?_)
  · skip
    refine RL.nil ?_
    refine SG.cond_true rfl ?_
    refine SG.skip ?_
    refine SG.seq ?_
    refine SG.block ?_
    refine SG.seq ?_
    refine SG.region ?_
    refine RL.val (Wanted.free rfl) (V.move rfl rfl) rfl ?_
    refine RL.val (Wanted.free rfl) (V.move rfl rfl) rfl ?_
    refine RL.val (Wanted.free rfl) (V.indexSl (j := i) rfl el55.slice rfl rfl (by repeat (first | exact List.Mem.head _ | assumption | apply List.Mem.tail)) (by first | rfl | omega) (by show _ < 2; omega)) rfl ?_
    refine RL.val (Wanted.free rfl) (V.loadSc rfl on9 rfl (by repeat (first | exact List.Mem.head _ | assumption | apply List.Mem.tail)) (List.getElem?_eq_getElem (show i < 2 by omega))) rfl ?_
    refine RL.eff (Wanted.free rfl) (E.call rfl go30 rfl (parse_ok (s := ([s, (hex l).set q ch][i]'(by show i < 2; omega))))) rfl ?_
    rintro _ _ ⟨rfl, rfl⟩
    refine RL.val (Wanted.free rfl) (V.move rfl rfl) rfl ?_
    refine RL.val (Wanted.free rfl) (V.extract rfl rfl rfl) rfl ?_
    refine RL.val (Wanted.free rfl) (V.extract rfl rfl rfl) rfl ?_
    refine RL.eff (Wanted.free rfl) (E.alloc rfl ze24) rfl ?_
    rintro _ _ ⟨b12, rfl, rfl⟩
    refine RL.eff (Wanted.free rfl) (E.storeWhole rfl rfl rfl (by rw [List.length_map]; exact parse_length _) sz24 (by repeat (first | exact Pick.here | assumption | apply Pick.there)) (one8 _) (by rw [List.length_replicate])) rfl ?_
    rintro _ _ rfl
    refine RL.val (Wanted.free rfl) (V.assign rfl rfl) rfl ?_
    refine RL.nil ?_
    refine SG.seq ?_
    refine SG.region ?_
    refine RL.val (Wanted.free rfl) (V.move rfl rfl) rfl ?_
    refine RL.val (Wanted.free rfl) (V.move rfl rfl) rfl ?_
    refine RL.val (Wanted.free rfl) (V.indexSl (j := i) rfl el55.slice rfl rfl (by repeat (first | exact List.Mem.head _ | assumption | apply List.Mem.tail)) (by first | rfl | omega) (by show _ < 2; omega)) rfl ?_
    refine RL.val (Wanted.free rfl) (V.loadSc rfl on9 rfl (by repeat (first | exact List.Mem.head _ | assumption | apply List.Mem.tail)) (List.getElem?_eq_getElem (show i < 2 by omega))) rfl ?_
    refine RL.eff (Wanted.free rfl) (E.call rfl go32 rfl (rparse_ok (s := ([s, (hex l).set q ch][i]'(by show i < 2; omega))))) rfl ?_
    rintro _ _ ⟨rfl, rfl⟩
    refine RL.val (Wanted.free rfl) (V.move rfl rfl) rfl ?_
    refine RL.val (Wanted.free rfl) (V.extract rfl rfl rfl) rfl ?_
    refine RL.val (Wanted.free rfl) (V.extract rfl rfl rfl) rfl ?_
    refine RL.eff (Wanted.free rfl) (E.alloc rfl ze24) rfl ?_
    rintro _ _ ⟨b14, rfl, rfl⟩
    refine RL.eff (Wanted.free rfl) (E.storeWhole rfl rfl rfl (by rw [List.length_map]; exact parse_length _) sz24 (by repeat (first | exact Pick.here | assumption | apply Pick.there)) (one8 _) (by rw [List.length_replicate])) rfl ?_
    rintro _ _ rfl
    refine RL.val (Wanted.free rfl) (V.assign rfl rfl) rfl ?_
    refine RL.nil ?_
    refine SG.seq ?_
    refine SG.drawL 21 21 wide rfl rfl ?_
    refine RH.val 0 rfl (by kernel_rfl) (by kernel_rfl) (by kernel_rfl) (by kernel_rfl) (Wanted.free rfl) (V.loadAgg (us := (parseV ([s, (hex l).set q ch][i]'(by show i < 2; omega))).1.map v8) rfl ag24 rfl (by repeat (first | exact Pick.here | assumption | apply Pick.there)) (take8 (parse_length _)) (by rw [List.length_map]; exact parse_length _)) rfl ?_
    refine RH.val 1 rfl (by kernel_rfl) (by kernel_rfl) (by kernel_rfl) (by kernel_rfl) (Wanted.free rfl) (V.loadAgg (us := (parseV ([s, (hex l).set q ch][i]'(by show i < 2; omega))).1.map v8) rfl ag24 rfl (by repeat (first | exact Pick.here | assumption | apply Pick.there)) (take8 (parse_length _)) (by rw [List.length_map]; exact parse_length _)) rfl ?_
    refine RH.cmpF 2 rfl (by kernel_rfl) (by kernel_rfl) (by kernel_rfl) (by kernel_rfl) (Wanted.free rfl) (V.neqArr rfl ar24 on5 ui5 ce24 eg24 inj8 (parse_length _) (parse_length _) rfl rfl) rfl (by simp) ?_
    refine RH.val 3 rfl (by kernel_rfl) (by kernel_rfl) (by kernel_rfl) (by kernel_rfl) (Wanted.free rfl) (V.move rfl rfl) rfl ?_
    refine RH.val 4 rfl (by kernel_rfl) (by kernel_rfl) (by kernel_rfl) (by kernel_rfl) (Wanted.yes rfl rfl rfl rfl) (V.move rfl rfl) rfl ?_
    refine RH.val 5 rfl (by kernel_rfl) (by kernel_rfl) (by kernel_rfl) (by kernel_rfl) (Wanted.yes rfl rfl rfl rfl) (V.move rfl rfl) rfl ?_
    refine RH.cmpF 6 rfl (by kernel_rfl) (by kernel_rfl) (by kernel_rfl) (by kernel_rfl) (Wanted.yes rfl rfl rfl rfl) (V.bin rfl rfl rfl B.neq) rfl (by simp) ?_
    refine RH.pure 7 rfl (by kernel_rfl) (by kernel_rfl) (by kernel_rfl) (by kernel_rfl) (Wanted.free rfl) (V.pick_false rfl rfl rfl) rfl ?_
    refine RH.val 8 rfl (by kernel_rfl) (by kernel_rfl) (by kernel_rfl) (by kernel_rfl) (Wanted.free rfl) (V.move rfl rfl) rfl ?_
    refine RH.val 9 rfl (by kernel_rfl) (by kernel_rfl) (by kernel_rfl) (by kernel_rfl) (Wanted.yes rfl rfl rfl rfl) (V.move rfl rfl) rfl ?_
    refine RH.cmp 10 rfl (by kernel_rfl) (by kernel_rfl) (by kernel_rfl) (by kernel_rfl) (Wanted.yes rfl rfl rfl rfl) (V.bin rfl rfl rfl B.eql) rfl (fun h50 => ?_) (fun h50 => ?_)
    · skip
      have hpx := hex_parse (by simpa using h50)
      refine RH.val 11 rfl (by kernel_rfl) (by kernel_rfl) (by kernel_rfl) (by kernel_rfl) (Wanted.yes rfl rfl rfl rfl) (V.move rfl rfl) rfl ?_
      refine RH.val 12 rfl (by kernel_rfl) (by kernel_rfl) (by kernel_rfl) (by kernel_rfl) (Wanted.yes rfl rfl rfl rfl) (V.loadAgg (us := (parseV ([s, (hex l).set q ch][i]'(by show i < 2; omega))).1.map v8) rfl ag24 rfl (by repeat (first | exact Pick.here | assumption | apply Pick.there)) (take8 (parse_length _)) (by rw [List.length_map]; exact parse_length _)) rfl ?_
      refine RH.val 14 rfl (by kernel_rfl) (by kernel_rfl) (by kernel_rfl) (by kernel_rfl) (Wanted.yes rfl rfl rfl rfl) (V.move rfl rfl) rfl ?_
      refine RH.val 15 rfl (by kernel_rfl) (by kernel_rfl) (by kernel_rfl) (by kernel_rfl) (Wanted.yes rfl rfl rfl rfl) (V.move rfl rfl) rfl ?_
      refine RH.val 16 rfl (by kernel_rfl) (by kernel_rfl) (by kernel_rfl) (by kernel_rfl) (Wanted.yes rfl rfl rfl rfl) (V.indexSl (j := i) rfl el55.slice rfl rfl (by repeat (first | exact List.Mem.head _ | assumption | apply List.Mem.tail)) (by first | rfl | omega) (by show _ < 2; omega)) rfl ?_
      refine RH.val 17 rfl (by kernel_rfl) (by kernel_rfl) (by kernel_rfl) (by kernel_rfl) (Wanted.yes rfl rfl rfl rfl) (V.loadSc rfl on9 rfl (by repeat (first | exact List.Mem.head _ | assumption | apply List.Mem.tail)) (List.getElem?_eq_getElem (show i < 2 by omega))) rfl ?_
      refine RH.one (i := 13) (by kernel_rfl) ?_
      refine RHone.eff rfl (Wanted.yes rfl rfl rfl rfl) (E.call rfl go29 rfl (hex_ok (parse_length _))) rfl ?_
      rintro _ _ ⟨rfl, rfl⟩
      refine ⟨.inr (by repeat (first | exact Ent.refl _ | (apply Ent.cons; (· repeat (first | exact Pick.here | (refine Pick.sl ?_; (· repeat (first | exact List.Mem.head _ | assumption | apply List.Mem.tail))) | apply Pick.there))) | (refine Ent.trans (Ent.drop _ _) ?_))), ?_⟩
      rw [hpx]
      refine RH.cmpF 18 rfl (by kernel_rfl) (by kernel_rfl) (by kernel_rfl) (by kernel_rfl) (Wanted.yes rfl rfl rfl rfl) (V.bin rfl rfl rfl B.neqS) rfl (by simp) ?_
      refine RH.pure 19 rfl (by kernel_rfl) (by kernel_rfl) (by kernel_rfl) (by kernel_rfl) (Wanted.yes rfl rfl rfl rfl) (V.pick_true rfl rfl rfl) rfl ?_
      refine RH.pure 20 rfl (by kernel_rfl) (by kernel_rfl) (by kernel_rfl) (by kernel_rfl) (Wanted.free rfl) (V.pick_false rfl rfl rfl) rfl ?_
      refine RH.done (by kernel_rfl) ?_
      refine SG.cond_false rfl ?_
      refine SG.skip ?_
      refine SG.inBlock ?_
      refine SG.region ?_
      refine RL.val (Wanted.free rfl) (V.move rfl rfl) rfl ?_
      refine RL.val (Wanted.free rfl) (V.bin rfl rfl rfl (B.addI (by omega) (by omega))) rfl ?_
      refine RL.val (Wanted.free rfl) (V.assign rfl rfl) rfl ?_
      refine RL.nil ?_
      refine SG.weaken (ih0 _ _ _ ?_ ⟨i + 1, by omega, rfl, rfl, rfl⟩) ?_ ?_
      · omega
      · repeat (first | exact EnvLe.nil _ | refine EnvLe.cons rfl ?_)
      · repeat (first | exact Ent.refl _ | (apply Ent.cons; (· repeat (first | exact Pick.here | (refine Pick.sl ?_; (· repeat (first | exact List.Mem.head _ | assumption | apply List.Mem.tail))) | apply Pick.there))) | (refine Ent.trans (Ent.drop _ _) ?_))
    · skip
      refine RH.val 11 rfl (by kernel_rfl) (by kernel_rfl) (by kernel_rfl) (by kernel_rfl) (Wanted.yes rfl rfl rfl rfl) (V.move rfl rfl) rfl ?_
      refine RH.skip 12 rfl (by kernel_rfl) (by kernel_rfl) (by kernel_rfl) (by kernel_rfl) (Wanted.no rfl rfl rfl rfl rfl) rfl ?_
      refine RH.skip 13 rfl (by kernel_rfl) (by kernel_rfl) (by kernel_rfl) (by kernel_rfl) (Wanted.no rfl rfl rfl rfl rfl) rfl ?_
      refine RH.skip 14 rfl (by kernel_rfl) (by kernel_rfl) (by kernel_rfl) (by kernel_rfl) (Wanted.no rfl rfl rfl rfl rfl) rfl ?_
      refine RH.skip 15 rfl (by kernel_rfl) (by kernel_rfl) (by kernel_rfl) (by kernel_rfl) (Wanted.no rfl rfl rfl rfl rfl) rfl ?_
      refine RH.skip 16 rfl (by kernel_rfl) (by kernel_rfl) (by kernel_rfl) (by kernel_rfl) (Wanted.no rfl rfl rfl rfl rfl) rfl ?_
      refine RH.skip 17 rfl (by kernel_rfl) (by kernel_rfl) (by kernel_rfl) (by kernel_rfl) (Wanted.no rfl rfl rfl rfl rfl) rfl ?_
      refine RH.skip 18 rfl (by kernel_rfl) (by kernel_rfl) (by kernel_rfl) (by kernel_rfl) (Wanted.no rfl rfl rfl rfl rfl) rfl ?_
      refine RH.pure 19 rfl (by kernel_rfl) (by kernel_rfl) (by kernel_rfl) (by kernel_rfl) (Wanted.yes rfl rfl rfl rfl) (V.pick_false rfl rfl rfl) rfl ?_
      refine RH.pure 20 rfl (by kernel_rfl) (by kernel_rfl) (by kernel_rfl) (by kernel_rfl) (Wanted.free rfl) (V.pick_false rfl rfl rfl) rfl ?_
      refine RH.done (by kernel_rfl) ?_
      refine SG.cond_false rfl ?_
      refine SG.skip ?_
      refine SG.inBlock ?_
      refine SG.region ?_
      refine RL.val (Wanted.free rfl) (V.move rfl rfl) rfl ?_
      refine RL.val (Wanted.free rfl) (V.bin rfl rfl rfl (B.addI (by omega) (by omega))) rfl ?_
      refine RL.val (Wanted.free rfl) (V.assign rfl rfl) rfl ?_
      refine RL.nil ?_
      refine SG.weaken (ih0 _ _ _ ?_ ⟨i + 1, by omega, rfl, rfl, rfl⟩) ?_ ?_
      · omega
      · repeat (first | exact EnvLe.nil _ | refine EnvLe.cons rfl ?_)
      · repeat (first | exact Ent.refl _ | (apply Ent.cons; (· repeat (first | exact Pick.here | (refine Pick.sl ?_; (· repeat (first | exact List.Mem.head _ | assumption | apply List.Mem.tail))) | apply Pick.there))) | (refine Ent.trans (Ent.drop _ _) ?_))
  · skip
    refine RL.nil ?_
    refine SG.cond_false rfl ?_
    refine SG.exit rfl ?_
    refine SG.seq ?_
    refine SG.region ?_
    refine RL.eff (Wanted.free rfl) (E.call rfl go14 rfl (lives_ok (by unfold Tab; repeat (first | exact List.Mem.head _ | assumption | apply List.Mem.tail)))) rfl ?_
    rintro _ _ ⟨rfl, rfl⟩
    refine RL.val (Wanted.free rfl) (V.assign rfl rfl) rfl ?_
    refine RL.nil ?_
    refine SG.retE (Ret.r1 Tryd.func11 rfl (.tmp rfl)) ?_ ⟨rfl, rfl⟩
    repeat (first | exact Ent.refl _ | (apply Ent.cons; (· repeat (first | exact Pick.here | (refine Pick.sl ?_; (· repeat (first | exact List.Mem.head _ | assumption | apply List.Mem.tail))) | apply Pick.there))) | (refine Ent.trans (Ent.drop _ _) ?_))

end Go.Proofs.YtbljfilkdhgcnaaDoor
