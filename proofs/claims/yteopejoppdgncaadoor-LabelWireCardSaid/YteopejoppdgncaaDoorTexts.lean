/- Texts. -/
import Derived.Test.YteopejoppdgncaaDoorBasic
import Derived.Test.YteopejoppdgncaaDoorItoa
namespace Go.Proofs.YteopejoppdgncaaDoor
open Go.Wk Go.Lb

set_option maxRecDepth 100000 in
set_option maxHeartbeats 1000000 in
theorem lText_ok {κ : World} {L : List Assn} (hT : Glob 0 pows ∈ L) {l : Lab} :
    Ctr Tryd.prog 16 #[(.agg ([vI l.num, vI l.suf] : List Value).toArray)] κ L (fun v M => v = vS (textV l) ∧ M = L) := by
 refine Ctr.enter (vs := [(.agg ([vI l.num, vI l.suf] : List Value).toArray)]) (m := 28) Tryd.func16 rfl rfl rfl ?_
 refine SG.seq ?_
 refine SG.region ?_
 refine RL.eff (Wanted.free rfl) (E.box _ rfl rfl rfl) rfl ?_
 rintro _ _ ⟨b1, rfl, rfl⟩
 refine RL.val (Wanted.free rfl) (V.assign rfl rfl) rfl ?_
 refine RL.nil ?_
 refine SG.seq ?_
 refine SG.seq ?_
 refine SG.region ?_
 refine RL.val (Wanted.free rfl) (V.loadAgg (us := [vI l.num, vI l.suf]) rfl ag23 rfl pickX rfl rfl) rfl ?_
 refine RL.eff (Wanted.free rfl) (E.call rfl go14 rfl (lCheck_ok (l := l))) rfl ?_
 rintro _ _ ⟨rfl, rfl⟩
 refine RL.cmp (Wanted.free rfl) (V.bin rfl rfl rfl B.neq) rfl (fun h5 => ?_) (fun h5 => ?_)
 ·
  have hno := check_bad_of h5
  refine RL.nil ?_
  refine SG.cond_true rfl ?_
  refine SG.seq ?_
  refine SG.region ?_
  refine RL.val (Wanted.free rfl) (V.assign rfl rfl) rfl ?_
  refine RL.nil ?_
  refine SG.retE (Ret.r1 Tryd.func16 rfl (.tmp rfl)) ?_ ⟨by rw [textV, if_neg hno], rfl⟩
  exact entX
 ·
  have hyes : okL l := check_ok_of (Decidable.byContradiction fun e => h5 e)
  refine RL.nil ?_
  refine SG.cond_false rfl ?_
  refine SG.skip ?_
  refine SG.seq ?_
  have hy2 := hyes
  obtain ⟨y1, y2, y3, y4⟩ := hy2
  have hL3 := letters_len3 (n := l.suf.toNat) (by omega)
  have hD5 := dec_len5 (n := l.num.toNat) (by omega)
  generalize hD : letters l.suf.toNat = D at hL3
  refine SG.region ?_
  refine RL.val (Wanted.free rfl) (V.assign rfl rfl) rfl ?_
  refine RL.nil ?_
  refine SG.seq ?_
  refine SG.seq ?_
  refine SG.region ?_
  refine RL.val (Wanted.free rfl) (V.fieldAddr rfl rfl fo23_1) rfl ?_
  refine RL.val (Wanted.free rfl) (V.load rfl on3 rfl pickX rfl) rfl ?_
  refine RL.val (Wanted.free rfl) (V.assign rfl rfl) rfl ?_
  refine RL.nil ?_
  refine SG.block ?_
  refine SG.weaken (SG.loop2 (fun m0 al M => ∃ (n : Nat) (s : List UInt8), n ≤ 16384 ∧ letters n ++ s = D ∧ m0 = n + 1 ∧ al = [(1, ptr b1 0), (3, vS s), (4, vI n)] ∧ M = Blk b1 23 [vI l.num, vI l.suf] :: L) (m0 := _) ⟨l.suf.toNat, [], by omega, by rw [List.append_nil]; exact hD, rfl, rfl, rfl⟩ ?_) ?_ ?_
  rotate_left
  ·
   rw [show ((l.suf.toNat : Nat) : Int) = l.suf from by omega]
   repeat (first | exact EnvLe.nil _ | refine EnvLe.cons rfl ?_)
  ·
   exact entX
  rintro _ _ _ ⟨n, s, hn, hgo, rfl, rfl, rfl⟩ ih0
  refine SG.seq ?_
  refine SG.seq ?_
  refine SG.region ?_
  refine RL.val (Wanted.free rfl) (V.move rfl rfl) rfl ?_
  refine RL.cmp (Wanted.free rfl) (V.bin rfl rfl rfl B.gtr) rfl (fun h12 => ?_) (fun h12 => ?_)
  ·
   refine RL.nil ?_
   refine SG.cond_true rfl ?_
   refine SG.skip ?_
   refine SG.seq ?_
   refine SG.block ?_
   have hsl := lgo_len hgo
   have hst := lgo_step hgo (by omega)
   refine SG.region ?_
   refine RL.val (Wanted.free rfl) (V.move rfl rfl) rfl ?_
   refine RL.val (Wanted.free rfl) (V.bin rfl rfl rfl (B.subI (by omega) (by omega))) rfl ?_
   refine RL.val (Wanted.free rfl) (V.bin rfl rfl rfl (B.remI (by omega) (by omega))) rfl ?_
   refine RL.val (Wanted.free rfl) (V.bin rfl rfl rfl (B.addI (by omega) (by omega))) rfl ?_
   rw [show (97 + ((n : Int) - 1) % 26) = ((97 + (n - 1) % 26 : Nat) : Int) from by omega]
   refine RL.val (Wanted.free rfl) (V.toR rfl ⟨_, ui3⟩ ui21 rfl (by omega) (by omega)) rfl ?_
   refine RL.val (Wanted.free rfl) (V.runeS rfl ⟨_, ui21⟩ us9 rfl (by omega) (by omega)) rfl ?_
   rw [Int.toNat_natCast]
   refine RL.val (Wanted.free rfl) (V.move rfl rfl) rfl ?_
   refine RL.val (Wanted.free rfl) (V.bin rfl rfl rfl (B.addS (by simp; omega))) rfl ?_
   refine RL.val (Wanted.free rfl) (V.assign rfl rfl) rfl ?_
   refine RL.nil ?_
   refine SG.inBlock ?_
   refine SG.region ?_
   refine RL.val (Wanted.free rfl) (V.move rfl rfl) rfl ?_
   refine RL.val (Wanted.free rfl) (V.bin rfl rfl rfl (B.subI (by omega) (by omega))) rfl ?_
   refine RL.val (Wanted.free rfl) (V.bin rfl rfl rfl (B.quoI (by omega) (by omega) (by omega))) rfl ?_
   rw [show (((n : Int) - 1) / 26) = (((n - 1) / 26 : Nat) : Int) from by omega]
   refine RL.val (Wanted.free rfl) (V.assign rfl rfl) rfl ?_
   refine RL.nil ?_
   refine SG.weaken (ih0 _ _ _ ?_ ⟨(n - 1) / 26, _, by omega, hst, rfl, rfl, rfl⟩) ?_ ?_
   ·
    omega
   ·
    repeat (first | exact EnvLe.nil _ | refine EnvLe.cons rfl ?_)
   ·
    exact entX
  ·
   refine RL.nil ?_
   refine SG.cond_false rfl ?_
   refine SG.exit rfl ?_
   refine SG.seq ?_
   obtain rfl : n = 0 := by omega
   rw [letters_zero, List.nil_append] at hgo
   subst hgo
   refine SG.region ?_
   refine RL.val (Wanted.free rfl) (V.fieldAddr rfl rfl fo23_0) rfl ?_
   refine RL.val (Wanted.free rfl) (V.load rfl on3 rfl pickX rfl) rfl ?_
   refine RL.eff (Wanted.free rfl) (E.call rfl go32 rfl (itoa_ok memX (by omega) (by omega))) rfl ?_
   rintro _ _ ⟨rfl, rfl⟩
   refine RL.val (Wanted.free rfl) (V.move rfl rfl) rfl ?_
   refine RL.val (Wanted.free rfl) (V.bin rfl rfl rfl (B.addS (by omega))) rfl ?_
   refine RL.val (Wanted.free rfl) (V.assign rfl rfl) rfl ?_
   refine RL.nil ?_
   refine SG.retE (Ret.r1 Tryd.func16 rfl (.tmp rfl)) ?_ ⟨by rw [textV_ok hyes, hD], rfl⟩
   exact entX

set_option maxRecDepth 100000 in
theorem decimal_ok {κ : World} {L : List Assn} {n : Nat} (hn : n ≤ 1000000) (h0 : 0 < n) :
    Ctr Tryd.prog 33 #[vI n] κ L (fun v M => v = vS (Lib.decDigits n) ∧ M = L) := by
 refine Ctr.enter (vs := [vI n]) (m := 32) Tryd.func33 rfl rfl rfl ?_
 have hlen : (Lib.decDigits n).length ≤ 1000001 := by rw [Lib.decDigits_length]; have := ndig_le n; omega
 generalize hD : Lib.decDigits n = D at hlen ⊢
 refine SG.seq ?_
 refine SG.region ?_
 refine RL.val (Wanted.free rfl) (V.assign rfl rfl) rfl ?_
 refine RL.nil ?_
 refine SG.seq ?_
 refine SG.seq ?_
 refine SG.region ?_
 refine RL.val (Wanted.free rfl) (V.move rfl rfl) rfl ?_
 refine RL.cmpF (Wanted.free rfl) (V.bin rfl rfl rfl B.eql) rfl (by omega) ?_
 refine RL.nil ?_
 refine SG.cond_false rfl ?_
 refine SG.skip ?_
 refine SG.seq ?_
 refine SG.region ?_
 refine RL.val (Wanted.free rfl) (V.assign rfl rfl) rfl ?_
 refine RL.nil ?_
 refine SG.seq ?_
 refine SG.region ?_
 refine RL.val (Wanted.free rfl) (V.assign rfl rfl) rfl ?_
 refine RL.nil ?_
 refine SG.seq ?_
 refine SG.seq ?_
 refine SG.region ?_
 refine RL.val (Wanted.free rfl) (V.move rfl rfl) rfl ?_
 refine RL.val (Wanted.free rfl) (V.assign rfl rfl) rfl ?_
 refine RL.nil ?_
 refine SG.block ?_
 refine SG.weaken (SG.loop2 (fun m0 al M => ∃ (k : Nat) (s : List UInt8), k ≤ n ∧ Dgo D k s ∧ m0 = k + 1 ∧ al = [(0, vI n), (3, vS [48, 49, 50, 51, 52, 53, 54, 55, 56, 57]), (4, vS s), (5, vI k)] ∧ M = L) (m0 := _) ⟨n, [], Nat.le_refl _, .inl ⟨h0, by rw [List.append_nil]; exact hD⟩, rfl, rfl, rfl⟩ ?_) ?_ ?_
 rotate_left
 ·
  repeat (first | exact EnvLe.nil _ | refine EnvLe.cons rfl ?_)
 ·
  exact entX
 rintro _ _ _ ⟨k, s, hk, hgo, rfl, rfl, hM⟩ ih0
 subst hM
 refine SG.seq ?_
 refine SG.seq ?_
 refine SG.region ?_
 refine RL.val (Wanted.free rfl) (V.move rfl rfl) rfl ?_
 refine RL.cmp (Wanted.free rfl) (V.bin rfl rfl rfl B.neq) rfl (fun h8 => ?_) (fun h8 => ?_)
 ·
  refine RL.nil ?_
  refine SG.cond_true rfl ?_
  refine SG.skip ?_
  refine SG.seq ?_
  refine SG.block ?_
  refine SG.seq ?_
  refine SG.region ?_
  refine RL.val (Wanted.free rfl) (V.move rfl rfl) rfl ?_
  refine RL.val (Wanted.free rfl) (V.bin rfl rfl rfl (B.remI (by omega) (by omega))) rfl ?_
  rw [show ((k : Int) % 10) = ((k % 10 : Nat) : Int) from by omega]
  refine RL.val (Wanted.free rfl) (V.assign rfl rfl) rfl ?_
  refine RL.nil ?_
  refine SG.seq ?_
  refine SG.seq ?_
  refine SG.region ?_
  refine RL.val (Wanted.free rfl) (V.move rfl rfl) rfl ?_
  refine RL.cmpF (Wanted.free rfl) (V.bin rfl rfl rfl B.lss) rfl (by omega) ?_
  refine RL.nil ?_
  refine SG.cond_false rfl ?_
  refine SG.skip ?_
  have hsl := hgo.len
  have hst := hgo.step (by omega)
  have hd := digs_piece (d := k % 10) (by omega)
  refine SG.region ?_
  refine RL.val (Wanted.free rfl) (V.move rfl rfl) rfl ?_
  refine RL.val (Wanted.free rfl) (V.move rfl rfl) rfl ?_
  refine RL.val (Wanted.free rfl) (V.move rfl rfl) rfl ?_
  refine RL.val (Wanted.free rfl) (V.bin rfl rfl rfl (B.addI (by omega) (by omega))) rfl ?_
  refine RL.val (Wanted.free rfl) (V.sliceS (lo := k % 10) (hi := k % 10 + 1) rfl us9 rfl ⟨_, _, rfl, (by first | rfl | omega)⟩ ⟨_, _, rfl, (by first | rfl | omega)⟩ (by omega) (by show k % 10 + 1 ≤ 10; omega)) rfl ?_
  rw [show (List.take (k % 10 + 1 - k % 10) (List.drop (k % 10) [48, 49, 50, 51, 52, 53, 54, 55, 56, 57])) = [UInt8.ofNat (48 + k % 10)] from hd]
  refine RL.val (Wanted.free rfl) (V.move rfl rfl) rfl ?_
  refine RL.val (Wanted.free rfl) (V.bin rfl rfl rfl (B.addS (by simp; omega))) rfl ?_
  refine RL.val (Wanted.free rfl) (V.assign rfl rfl) rfl ?_
  refine RL.nil ?_
  refine SG.inBlock ?_
  refine SG.region ?_
  refine RL.val (Wanted.free rfl) (V.move rfl rfl) rfl ?_
  refine RL.val (Wanted.free rfl) (V.bin rfl rfl rfl (B.quoI (by omega) (by omega) (by omega))) rfl ?_
  rw [show ((k : Int) / 10) = ((k / 10 : Nat) : Int) from by omega]
  refine RL.val (Wanted.free rfl) (V.assign rfl rfl) rfl ?_
  refine RL.nil ?_
  refine SG.weaken (ih0 _ _ _ ?_ ⟨k / 10, _, by omega, hst, rfl, rfl, rfl⟩) ?_ ?_
  ·
   omega
  ·
   repeat (first | exact EnvLe.nil _ | refine EnvLe.cons rfl ?_)
  ·
   exact entX
 ·
  refine RL.nil ?_
  refine SG.cond_false rfl ?_
  refine SG.exit rfl ?_
  refine SG.seq ?_
  refine SG.seq ?_
  have hs0 : s = D := by
   rcases hgo with ⟨h, _⟩ | ⟨_, h⟩
   ·
    omega
   ·
    exact h
  subst hs0
  refine SG.region ?_
  refine RL.val (Wanted.free rfl) (V.move rfl rfl) rfl ?_
  refine RL.cmpF (Wanted.free rfl) (V.bin rfl rfl rfl B.lss) rfl (by omega) ?_
  refine RL.nil ?_
  refine SG.cond_false rfl ?_
  refine SG.skip ?_
  refine SG.seq ?_
  refine SG.region ?_
  refine RL.val (Wanted.free rfl) (V.move rfl rfl) rfl ?_
  refine RL.val (Wanted.free rfl) (V.assign rfl rfl) rfl ?_
  refine RL.nil ?_
  refine SG.retE (Ret.r1 Tryd.func33 rfl (.tmp rfl)) ?_ ⟨rfl, rfl⟩
  exact entX

set_option maxRecDepth 100000 in
theorem letters_ok {κ : World} {L : List Assn} {n0 : Nat} (hn : n0 ≤ 16384) :
    Ctr Tryd.prog 34 #[vI n0] κ L (fun v M => v = vS (letters n0) ∧ M = L) := by
 refine Ctr.enter (vs := [vI n0]) (m := 22) Tryd.func34 rfl rfl rfl ?_
 have hL3 := letters_len3 hn
 generalize hD : letters n0 = D at hL3 ⊢
 refine SG.seq ?_
 refine SG.region ?_
 refine RL.val (Wanted.free rfl) (V.assign rfl rfl) rfl ?_
 refine RL.nil ?_
 refine SG.seq ?_
 refine SG.region ?_
 refine RL.val (Wanted.free rfl) (V.assign rfl rfl) rfl ?_
 refine RL.nil ?_
 refine SG.seq ?_
 refine SG.region ?_
 refine RL.val (Wanted.free rfl) (V.assign rfl rfl) rfl ?_
 refine RL.nil ?_
 refine SG.seq ?_
 refine SG.block ?_
 refine SG.weaken (SG.loop2 (fun m0 al M => ∃ (n : Nat) (s : List UInt8), n ≤ 16384 ∧ letters n ++ s = D ∧ m0 = n + 1 ∧ al = [(0, vI n), (3, vS [97, 98, 99, 100, 101, 102, 103, 104, 105, 106, 107, 108, 109, 110, 111, 112, 113, 114, 115, 116, 117, 118, 119, 120, 121, 122]), (4, vS s)] ∧ M = L) (m0 := _) ⟨n0, [], hn, by rw [List.append_nil]; exact hD, rfl, rfl, rfl⟩ ?_) ?_ ?_
 rotate_left
 ·
  repeat (first | exact EnvLe.nil _ | refine EnvLe.cons rfl ?_)
 ·
  exact entX
 rintro _ _ _ ⟨n, s, hn, hgo, rfl, rfl, hM⟩ ih0
 subst hM
 refine SG.seq ?_
 refine SG.seq ?_
 refine SG.region ?_
 refine RL.val (Wanted.free rfl) (V.move rfl rfl) rfl ?_
 refine RL.cmp (Wanted.free rfl) (V.bin rfl rfl rfl B.gtr) rfl (fun h5 => ?_) (fun h5 => ?_)
 ·
  refine RL.nil ?_
  refine SG.cond_true rfl ?_
  refine SG.skip ?_
  refine SG.block ?_
  refine SG.seq ?_
  refine SG.region ?_
  refine RL.val (Wanted.free rfl) (V.move rfl rfl) rfl ?_
  refine RL.val (Wanted.free rfl) (V.bin rfl rfl rfl (B.subI (by omega) (by omega))) rfl ?_
  refine RL.val (Wanted.free rfl) (V.bin rfl rfl rfl (B.remI (by omega) (by omega))) rfl ?_
  rw [show (((n : Int) - 1) % 26) = (((n - 1) % 26 : Nat) : Int) from by omega]
  refine RL.val (Wanted.free rfl) (V.assign rfl rfl) rfl ?_
  refine RL.nil ?_
  refine SG.seq ?_
  have hsl := lgo_len hgo
  have hst := lgo_step hgo (by omega)
  have hd := abc_piece (d := (n - 1) % 26) (by omega)
  refine SG.region ?_
  refine RL.val (Wanted.free rfl) (V.move rfl rfl) rfl ?_
  refine RL.val (Wanted.free rfl) (V.move rfl rfl) rfl ?_
  refine RL.val (Wanted.free rfl) (V.move rfl rfl) rfl ?_
  refine RL.val (Wanted.free rfl) (V.bin rfl rfl rfl (B.addI (by omega) (by omega))) rfl ?_
  refine RL.val (Wanted.free rfl) (V.sliceS (lo := (n - 1) % 26) (hi := (n - 1) % 26 + 1) rfl us9 rfl ⟨_, _, rfl, (by first | rfl | omega)⟩ ⟨_, _, rfl, (by first | rfl | omega)⟩ (by omega) (by show (n - 1) % 26 + 1 ≤ 26; omega)) rfl ?_
  rw [show (List.take ((n - 1) % 26 + 1 - (n - 1) % 26) (List.drop ((n - 1) % 26) [97, 98, 99, 100, 101, 102, 103, 104, 105, 106, 107, 108, 109, 110, 111, 112, 113, 114, 115, 116, 117, 118, 119, 120, 121, 122])) = [UInt8.ofNat (97 + (n - 1) % 26)] from hd]
  refine RL.val (Wanted.free rfl) (V.move rfl rfl) rfl ?_
  refine RL.val (Wanted.free rfl) (V.bin rfl rfl rfl (B.addS (by simp; omega))) rfl ?_
  refine RL.val (Wanted.free rfl) (V.assign rfl rfl) rfl ?_
  refine RL.nil ?_
  refine SG.region ?_
  refine RL.val (Wanted.free rfl) (V.move rfl rfl) rfl ?_
  refine RL.val (Wanted.free rfl) (V.bin rfl rfl rfl (B.subI (by omega) (by omega))) rfl ?_
  refine RL.val (Wanted.free rfl) (V.bin rfl rfl rfl (B.quoI (by omega) (by omega) (by omega))) rfl ?_
  rw [show (((n : Int) - 1) / 26) = (((n - 1) / 26 : Nat) : Int) from by omega]
  refine RL.val (Wanted.free rfl) (V.assign rfl rfl) rfl ?_
  refine RL.nil ?_
  refine SG.inBlock ?_
  refine SG.weaken (ih0 _ _ _ ?_ ⟨(n - 1) / 26, _, by omega, hst, rfl, rfl, rfl⟩) ?_ ?_
  ·
   omega
  ·
   repeat (first | exact EnvLe.nil _ | refine EnvLe.cons rfl ?_)
  ·
   exact entX
 ·
  refine RL.nil ?_
  refine SG.cond_false rfl ?_
  refine SG.exit rfl ?_
  refine SG.seq ?_
  obtain rfl : n = 0 := by omega
  rw [letters_zero, List.nil_append] at hgo
  subst hgo
  refine SG.region ?_
  refine RL.val (Wanted.free rfl) (V.move rfl rfl) rfl ?_
  refine RL.val (Wanted.free rfl) (V.assign rfl rfl) rfl ?_
  refine RL.nil ?_
  refine SG.retE (Ret.r1 Tryd.func34 rfl (.tmp rfl)) ?_ ⟨rfl, rfl⟩
  exact entX

set_option maxRecDepth 100000 in
theorem rText_ok {κ : World} {L : List Assn} {l : Lab} :
    Ctr Tryd.prog 17 #[(.agg ([vI l.num, vI l.suf] : List Value).toArray)] κ L (fun v M => v = vS (textV l) ∧ M = L) := by
 refine Ctr.enter (vs := [(.agg ([vI l.num, vI l.suf] : List Value).toArray)]) (m := 13) Tryd.func17 rfl rfl rfl ?_
 refine SG.seq ?_
 refine SG.region ?_
 refine RL.eff (Wanted.free rfl) (E.box _ rfl rfl rfl) rfl ?_
 rintro _ _ ⟨b1, rfl, rfl⟩
 refine RL.val (Wanted.free rfl) (V.assign rfl rfl) rfl ?_
 refine RL.nil ?_
 refine SG.seq ?_
 refine SG.seq ?_
 refine SG.region ?_
 refine RL.val (Wanted.free rfl) (V.loadAgg (us := [vI l.num, vI l.suf]) rfl ag23 rfl pickX rfl rfl) rfl ?_
 refine RL.eff (Wanted.free rfl) (E.call rfl go15 rfl (rCheck_ok (l := l))) rfl ?_
 rintro _ _ ⟨rfl, rfl⟩
 refine RL.cmp (Wanted.free rfl) (V.bin rfl rfl rfl B.neq) rfl (fun h5 => ?_) (fun h5 => ?_)
 ·
  have hno := check_bad_of h5
  refine RL.nil ?_
  refine SG.cond_true rfl ?_
  refine SG.seq ?_
  refine SG.region ?_
  refine RL.val (Wanted.free rfl) (V.assign rfl rfl) rfl ?_
  refine RL.nil ?_
  refine SG.retE (Ret.r1 Tryd.func17 rfl (.tmp rfl)) ?_ ⟨by rw [textV, if_neg hno], rfl⟩
  exact entX
 ·
  have hyes : okL l := check_ok_of (Decidable.byContradiction fun e => h5 e)
  refine RL.nil ?_
  refine SG.cond_false rfl ?_
  refine SG.skip ?_
  refine SG.seq ?_
  have hy2 := hyes
  obtain ⟨y1, y2, y3, y4⟩ := hy2
  have hL3 := letters_len3 (n := l.suf.toNat) (by omega)
  have hD5 := dec_len5 (n := l.num.toNat) (by omega)
  obtain ⟨lN, hlN⟩ := Int.eq_ofNat_of_zero_le (show 0 ≤ l.num by omega)
  obtain ⟨lS, hlS⟩ := Int.eq_ofNat_of_zero_le y3
  have htv := textV_ok hyes
  rw [hlN, hlS, Int.toNat_natCast, Int.toNat_natCast] at htv
  rw [hlN, Int.toNat_natCast] at hD5
  rw [hlS, Int.toNat_natCast] at hL3
  rw [htv, hlN, hlS]
  refine SG.drawL 8 8 wide rfl rfl ?_
  refine RH.val 0 rfl krX krX krX krX (Wanted.free rfl) (V.fieldAddr rfl rfl fo23_0) rfl ?_
  refine RH.val 1 rfl krX krX krX krX (Wanted.free rfl) (V.load rfl on3 rfl pickX rfl) rfl ?_
  refine RH.val 3 rfl krX krX krX krX (Wanted.free rfl) (V.fieldAddr rfl rfl fo23_1) rfl ?_
  refine RH.val 4 rfl krX krX krX krX (Wanted.free rfl) (V.load rfl on3 rfl pickX rfl) rfl ?_
  refine RH.one (i := 2) krX ?_
  refine RHone.eff rfl (Wanted.free rfl) (E.call rfl go33 rfl (decimal_ok (n := lN) (by omega) (by omega))) rfl ?_
  rintro _ _ ⟨rfl, rfl⟩
  refine ⟨.inr entX, ?_⟩
  refine RH.one (i := 5) krX ?_
  refine RHone.eff rfl (Wanted.free rfl) (E.call rfl go34 rfl (letters_ok (n0 := lS) (by omega))) rfl ?_
  rintro _ _ ⟨rfl, rfl⟩
  refine ⟨.inr entX, ?_⟩
  refine RH.val 6 rfl krX krX krX krX (Wanted.free rfl) (V.bin rfl rfl rfl (B.addS (by omega))) rfl ?_
  refine RH.val 7 rfl krX krX krX krX (Wanted.free rfl) (V.assign rfl rfl) rfl ?_
  refine RH.done krX ?_
  refine SG.retE (Ret.r1 Tryd.func17 rfl (.tmp rfl)) ?_ ⟨rfl, rfl⟩
  exact entX

end Go.Proofs.YteopejoppdgncaaDoor
