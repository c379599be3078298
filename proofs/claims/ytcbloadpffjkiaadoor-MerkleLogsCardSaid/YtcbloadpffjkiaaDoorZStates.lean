/- States. -/
import Derived.Test.YtcbloadpffjkiaaDoorZBlock
import Derived.Test.YtcbloadpffjkiaaDoorZPlm
namespace Go.Proofs.YtcbloadpffjkiaaDoor
open Go.Wk Go.Sha

set_option maxRecDepth 100000 in
theorem clone_ok {κ : World} {L : List Assn} {a : Option Addr} {m c : Nat} {l : List UInt8} (hsrc : Src Tryd.prog L R8 (.slice a m c) l) (hl : l.length = m) (hn : a = none → m = 0) (hb : m ≤ 140737488355328) :
    Ctr Tryd.prog 70 #[.slice a m c] κ L (fun v M => ∃ a' c', v = .slice a' m c' ∧ M = Buf R8 5 a' m c' l :: L) := by
 refine Ctr.enter (vs := [.slice a m c]) (m := 8) Tryd.func70 rfl rfl rfl ?_
 refine SG.seq ?_
 refine SG.region ?_
 refine RL.val (Wanted.free rfl) (V.assign rfl rfl) rfl ?_
 refine RL.nil ?_
 refine SG.seq ?_
 refine SG.seq ?_
 refine SG.region ?_
 refine RL.val (Wanted.free rfl) (V.move rfl rfl) rfl ?_
 refine RL.val (Wanted.free rfl) (V.eqlNil rfl el62.under rfl rfl) rfl ?_
 refine RL.nil ?_
 refine SG.cond rfl (fun h4 => ?_) (fun h4 => ?_)
 ·
  have ha : a = none := by simpa using h4
  have hm0 := hn ha
  have hl0 : l = [] := List.eq_nil_of_length_eq_zero (by omega)
  subst hm0; subst hl0
  refine SG.ent (Buf.nil (T := R8) (e := 5)) ?_
  refine SG.seq ?_
  refine SG.region ?_
  refine RL.val (Wanted.free rfl) (V.assign rfl rfl) rfl ?_
  refine RL.nil ?_
  refine SG.retE (Ret.r1 Tryd.func70 rfl (.tmp rfl)) ?_ ⟨_, _, rfl, rfl⟩
  exact entX
 ·
  refine SG.skip ?_
  refine SG.seq ?_
  refine SG.region ?_
  refine RL.eff (Wanted.free rfl) (E.lit0 (T := R8) rfl rfl el62) rfl ?_
  rintro _ _ ⟨b6, rfl, rfl⟩
  refine RL.val (Wanted.free rfl) (V.move rfl rfl) rfl ?_
  refine RL.eff (Wanted.free rfl) (E.append (T := R8) rfl rfl rfl el62 el62.noInt rfl rfl pickX (hsrc.weaken (by intro z h H; exact Ent.drop _ _ z h H)) (by simp; omega) (by simp; omega)) rfl ?_
  intro _ _ hK8
  try rw [List.nil_append] at hK8
  try rw [Nat.zero_add] at hK8
  rw [hl] at hK8
  obtain ⟨a8, c8, rfl, rfl⟩ := hK8
  refine RL.val (Wanted.free rfl) (V.assign rfl rfl) rfl ?_
  refine RL.nil ?_
  refine SG.retE (Ret.r1 Tryd.func70 rfl (.tmp rfl)) ?_ ⟨_, _, rfl, rfl⟩
  exact entX

theorem clone_sl {κ : World} {L : List Assn} {a : Option Addr} {m c : Nat} {l : List UInt8} (hm : Sl R8 a m c l ∈ L) (hb : l.length ≤ 140737488355328) : Ctr Tryd.prog 70 #[.slice a m c] κ L (fun v M => ∃ a' c', v = .slice a' l.length c' ∧ M = Buf R8 5 a' l.length c' l :: L) :=
  Ctr.fact (p := l.length = m ∧ (a = none → m = 0)) (fun _ hs => ⟨hs.slLen hm, hs.slN hm⟩) fun h => by
    obtain ⟨rfl, h2⟩ := h
    exact clone_ok (Src.sl (by decide) hm) rfl h2 hb
set_option maxRecDepth 100000 in
theorem new_ok {κ : World} {L : List Assn}  :
    Ctr Tryd.prog 73 #[] κ L (fun v M => v = .agg (dg first (.slice none 0 0) (vI 0)).toArray ∧ M = L) := by
 refine Ctr.enter (vs := []) (m := 3) Tryd.func73 rfl rfl rfl ?_
 refine SG.seq ?_
 refine SG.region ?_
 refine RL.eff (Wanted.free rfl) (E.alloc rfl ze111) rfl ?_
 rintro _ _ ⟨b0, rfl, rfl⟩
 refine RL.nil ?_
 refine SG.seq ?_
 refine SG.region ?_
 refine RL.val (Wanted.free rfl) (V.buildA [(0, _), (1, _), (2, _), (3, _), (4, _), (5, _), (6, _), (7, _)] rfl ba109 (by exact ⟨rfl, ⟨_, rfl, rfl⟩, ⟨rfl, ⟨_, rfl, rfl⟩, ⟨rfl, ⟨_, rfl, rfl⟩, ⟨rfl, ⟨_, rfl, rfl⟩, ⟨rfl, ⟨_, rfl, rfl⟩, ⟨rfl, ⟨_, rfl, rfl⟩, ⟨rfl, ⟨_, rfl, rfl⟩, ⟨rfl, ⟨_, rfl, rfl⟩, trivial⟩⟩⟩⟩⟩⟩⟩⟩) rfl) rfl ?_
 refine RL.val (Wanted.free rfl) (V.buildS [(0, _)] rfl bs111 (by exact ⟨rfl, ⟨_, rfl, rfl⟩, trivial⟩) rfl) rfl ?_
 refine RL.let_ (d := 2) (u' := .agg (dg first (.slice none 0 0) (vI 0)).toArray) rfl rfl ?_
 refine RL.eff (Wanted.free rfl) (E.storeWhole rfl rfl rfl (by rw [dg_len first_length]) sz111 pickX (dg_one rfl rfl) (by rfl)) rfl ?_
 rintro _ _ rfl
 refine RL.nil ?_
 refine SG.retE (Ret.r1 Tryd.func73 rfl (.agg rfl ag111 pickX (dg_all first_length) (dg_len first_length))) ?_ ⟨rfl, rfl⟩
 exact entX

set_option maxRecDepth 100000 in
theorem write_ok {κ : World} {L : List Assn} {H : List UInt32} {a a' : Option Addr} {n c n' c' : Nat} {t b : List UInt8} {len : Int} (hH : H.length = 8) (hm : Sl R8 a n c t ∈ L) (hm' : Sl R8 a' n' c' b ∈ L) (hT : Tab L) (hb : t.length + b.length ≤ 140737488355328) (h0 : 0 ≤ len) (h1 : len ≤ 4611686018427387904) :
    Ctr Tryd.prog 72 #[.agg (dg H (.slice a n c) (vI len)).toArray, .slice a' n' c'] κ L (fun v M => ∃ a2 c2, v = .agg (dg (feed H (t ++ b)) (.slice a2 (tail (t ++ b)).length c2) (vI (len + (b.length : Int)))).toArray ∧ M = Sl R8 a2 (tail (t ++ b)).length c2 (tail (t ++ b)) :: L) := by
 refine Ctr.enter (vs := [.agg (dg H (.slice a n c) (vI len)).toArray, .slice a' n' c']) (m := 31) Tryd.func72 rfl rfl rfl ?_
 unfold Tab at hT
 refine SG.sl hm fun hn hc hc63 => ?_
 subst hn
 refine SG.sl hm' fun hn' hc' hc63' => ?_
 subst hn'
 refine SG.seq ?_
 refine SG.region ?_
 refine RL.eff (Wanted.free rfl) (E.box _ rfl rfl rfl) rfl ?_
 rintro _ _ ⟨b2, rfl, rfl⟩
 refine RL.eff (Wanted.free rfl) (E.alloc rfl ze111) rfl ?_
 rintro _ _ ⟨b4, rfl, rfl⟩
 refine RL.nil ?_
 refine SG.seq ?_
 refine SG.region ?_
 refine RL.val (Wanted.free rfl) (V.fieldAddr rfl rfl fo111_2) rfl ?_
 refine RL.val (Wanted.free rfl) (V.load rfl on3 rfl pickX (dg_9 hH)) rfl ?_
 refine RL.val (Wanted.free rfl) (V.move rfl rfl) rfl ?_
 refine RL.val (Wanted.free rfl) (V.len rfl rfl el62.under rfl) rfl ?_
 refine RL.val (Wanted.free rfl) (V.bin rfl rfl rfl (B.addI (by omega) (by omega))) rfl ?_
 refine RL.val (Wanted.free rfl) (V.fieldAddr rfl rfl fo111_2) rfl ?_
 refine RL.eff (Wanted.free rfl) (E.store1 rfl rfl rfl rfl rfl sz3 pickX (by rw [dg_len hH]; rfl)) rfl ?_
 rintro _ _ rfl
 refine RL.ent (Blk.eqc (dg_set9 hH)) ?_
 refine RL.nil ?_
 refine SG.seq ?_
 refine SG.region ?_
 refine RL.val (Wanted.free rfl) (V.fieldAddr rfl rfl fo111_1) rfl ?_
 refine RL.val (Wanted.free rfl) (V.load rfl on62 rfl pickX (dg_8 hH)) rfl ?_
 refine RL.eff (Wanted.free rfl) (E.call rfl go70 rfl (clone_sl memX (by omega))) rfl ?_
 rintro _ _ ⟨a14, c14, rfl, rfl⟩
 refine RL.val (Wanted.free rfl) (V.move rfl rfl) rfl ?_
 refine RL.eff (Wanted.free rfl) (E.append (T := R8) rfl rfl rfl el62 el62.noInt rfl rfl pickX (Src.sl (by decide) memX) (by first | omega | (simp; omega)) (by first | omega | (simp; omega))) rfl ?_
 intro _ _ hK14
 try rw [List.nil_append] at hK14
 try rw [Nat.zero_add] at hK14
 obtain ⟨a16, c16, rfl, rfl⟩ := hK14
 refine RL.publish (T := R8) (a := a16) Pick.here ?_
 rw [← List.length_append]
 refine RL.val (Wanted.free rfl) (V.assign rfl rfl) rfl ?_
 refine RL.nil ?_
 refine SG.seq ?_
 refine SG.block ?_
 refine SG.weaken (SG.loop2 (fun m al M => ∃ (H' : List UInt32) (r : List UInt8) (a5 : Option Addr) (c5 : Nat), H'.length = 8 ∧ feed H' r = feed H (t ++ b) ∧ tail r = tail (t ++ b) ∧ r.length ≤ 140737488355328 ∧ m = r.length ∧ al = [(2, ptr b2 0), (4, ptr b4 0), (5, .slice a5 r.length c5)] ∧ M = Sl R8 a5 r.length c5 r :: Blk b2 111 (dg H' (.slice a t.length c) (vI (len + (b.length : Int)))) :: Blk b4 111 [.int .u32 0, .int .u32 0, .int .u32 0, .int .u32 0, .int .u32 0, .int .u32 0, .int .u32 0, .int .u32 0, .slice none 0 0, .int .i64 0] :: L) (m0 := _) ⟨H, t ++ b, a16, c16, hH, rfl, rfl, by rw [List.length_append]; exact hb, rfl, rfl, rfl⟩ ?_) ?_ ?_
 rotate_left
 ·
  repeat (first | exact EnvLe.nil _ | refine EnvLe.cons rfl ?_)
 ·
  exact entX
 rintro _ _ _ ⟨H', r, a5, c5, hH', hF, hTl, hrb, rfl, rfl, rfl⟩ ih0
 refine SG.sl (a := a5) (T := R8) (l := r) (List.mem_cons_self ..) fun _ hc5 hc563 => ?_
 refine SG.seq ?_
 refine SG.seq ?_
 refine SG.region ?_
 refine RL.val (Wanted.free rfl) (V.move rfl rfl) rfl ?_
 refine RL.val (Wanted.free rfl) (V.len rfl rfl el62.under rfl) rfl ?_
 refine RL.cmp (Wanted.free rfl) (V.bin rfl rfl rfl B.geq) rfl (fun h18 => ?_) (fun h18 => ?_)
 ·
  refine RL.nil ?_
  refine SG.cond_true rfl ?_
  refine SG.skip ?_
  refine SG.block ?_
  refine SG.seq ?_
  refine SG.region ?_
  refine RL.val (Wanted.free rfl) (V.fieldAddr rfl rfl fo111_0) rfl ?_
  refine RL.val (Wanted.free rfl) (V.loadAgg (us := H'.map v32) rfl ag109 rfl pickX (dg_H hH') (by simp [hH'])) rfl ?_
  refine RL.val (Wanted.free rfl) (V.move rfl rfl) rfl ?_
  refine RL.eff (Wanted.free rfl) (E.call rfl go88 rfl (block_ok (l := r) hH' memX (by omega) (by unfold Tab; repeat (first | exact List.Mem.head _ | assumption | apply List.Mem.tail)))) rfl ?_
  rintro _ _ ⟨rfl, rfl⟩
  refine RL.val (Wanted.free rfl) (V.fieldAddr rfl rfl fo111_0) rfl ?_
  refine RL.eff (Wanted.free rfl) (E.storeAgg rfl rfl rfl (by rw [List.length_map]; exact block_length _ _ hH') sz109 pickX (one32 _) (by rw [dg_len hH']; omega)) rfl ?_
  rintro _ _ rfl
  refine RL.ent (Blk.eqc (dg_setH hH' (block_length _ _ hH'))) ?_
  refine RL.nil ?_
  refine SG.region ?_
  refine RL.val (Wanted.free rfl) (V.move rfl rfl) rfl ?_
  refine RL.eff (Wanted.free rfl) (E.slice (lo := 64) (hi := r.length) rfl el62.slice rfl memX ⟨_, _, rfl, (by first | rfl | omega)⟩ rfl (by omega) (by omega)) rfl ?_
  intro _ _ hK26
  try rw [List.drop_zero] at hK26
  iterate 2 (try rw [Nat.sub_zero] at hK26)
  rw [show (r.drop 64).take (r.length - 64) = r.drop 64 from List.take_of_length_le (by simp)] at hK26
  obtain ⟨a26, rfl, rfl⟩ := hK26
  refine RL.val (Wanted.free rfl) (V.assign rfl rfl) rfl ?_
  refine RL.nil ?_
  refine SG.inBlock ?_
  refine SG.weaken (ih0 _ _ _ ?_ ⟨block H' r, r.drop 64, a26, c5 - 64, block_length _ _ hH', by rw [← feed_step _ _ (by omega)]; exact hF, by rw [← tail_step _ (by omega)]; exact hTl, by simp; omega, rfl, rfl, rfl⟩) ?_ ?_
  ·
   simp; omega
  ·
   rw [List.length_drop]
   repeat (first | exact EnvLe.nil _ | refine EnvLe.cons rfl ?_)
  ·
   rw [List.length_drop]
   exact entX
 ·
  refine RL.nil ?_
  refine SG.cond_false rfl ?_
  refine SG.exit rfl ?_
  refine SG.seq ?_
  have hfr := feed_short H' r (by omega)
  have htr := tail_short r (by omega)
  rw [hfr] at hF
  rw [htr] at hTl
  subst hF
  subst hTl
  refine SG.region ?_
  refine RL.val (Wanted.free rfl) (V.move rfl rfl) rfl ?_
  refine RL.eff (Wanted.free rfl) (E.call rfl go70 rfl (clone_sl memX (by omega))) rfl ?_
  rintro _ _ ⟨a28, c28, rfl, rfl⟩
  refine RL.publish (T := R8) (a := a28) Pick.here ?_
  refine RL.val (Wanted.free rfl) (V.fieldAddr rfl rfl fo111_1) rfl ?_
  refine RL.eff (Wanted.free rfl) (E.store1 rfl rfl rfl rfl rfl sz62 pickX (by rw [dg_len hH']; rfl)) rfl ?_
  rintro _ _ rfl
  refine RL.ent (Blk.eqc (dg_set8 hH')) ?_
  refine RL.nil ?_
  refine SG.seq ?_
  refine SG.region ?_
  refine RL.val (Wanted.free rfl) (V.loadAgg (us := dg (feed H (t ++ b)) (.slice a28 (tail (t ++ b)).length c28) (vI (len + (b.length : Int)))) rfl ag111 rfl pickX (dg_all hH') (dg_len hH')) rfl ?_
  refine RL.eff (Wanted.free rfl) (E.storeWhole rfl rfl rfl (dg_len hH') sz111 pickX (dg_one rfl rfl) (by rfl)) rfl ?_
  rintro _ _ rfl
  refine RL.nil ?_
  refine SG.retE (Ret.r1 Tryd.func72 rfl (.agg rfl ag111 pickX (dg_all hH') (dg_len hH'))) ?_ ⟨_, _, rfl, rfl⟩
  exact entX

end Go.Proofs.YtcbloadpffjkiaaDoor
