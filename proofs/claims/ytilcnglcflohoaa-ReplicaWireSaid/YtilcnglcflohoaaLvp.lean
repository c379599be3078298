/- A cluster that lives. -/
import Derived.Test.YtilcnglcflohoaaRun
namespace Go.Proofs.Ytilcnglcflohoaa
open Go.Wk Go.Rp

section
variable {P : Program} {f : FuncId} {n : Nat} {κ : World} {K : Post} {k : List Item} {L L1 : List Assn} {al : List (Nat × Value)} {a : Option Addr} {m c j : Nat}
theorem SG.elemClu {l : List Clu} {y : Clu} (hm : Sl RClu a m c l ∈ L) (hy : l[j]? = some y) (h : ∀ na nn nc sa sn sc, SG P f n κ K k al (Sl RPeer na nn nc y.nodes :: Sl RMsg sa sn sc y.sent :: Rd RClu [.slice na nn nc, .slice sa sn sc] y :: At a (j * 2) [.slice na nn nc, .slice sa sn sc] :: L)) : SG P f n κ K k al L :=
  SG.elem hm hy fun us _ => SG.openClu (Pick.rd (List.Mem.head _)) fun na nn nc sa sn sc e => by subst e; exact h na nn nc sa sn sc
theorem SG.elemPeer {l : List Peer} {y : Peer} (hm : Sl RPeer a m c l ∈ L) (hy : l[j]? = some y) (h : ∀ la ln lc va vn vc ma mn mc, SG P f n κ K k al (Sl RSlot la ln lc y.log :: Sl RB va vn vc y.votes :: Sl RI ma mn mc y.mtch :: Rd RPeer (pv y (.slice la ln lc) (.slice va vn vc) (.slice ma mn mc)) y :: At a (j * 9) (pv y (.slice la ln lc) (.slice va vn vc) (.slice ma mn mc)) :: L)) : SG P f n κ K k al L :=
  SG.elem hm hy fun us _ => SG.openPeer (Pick.rd (List.Mem.head _)) fun la ln lc va vn vc ma mn mc e => by subst e; exact h la ln lc va vn vc ma mn mc
theorem SG.elemMsg {l : List Msg} {y : Msg} (hm : Sl RMsg a m c l ∈ L) (hy : l[j]? = some y) (h : ∀ la ln lc, SG P f n κ K k al (Sl RSlot la ln lc y.slots :: Rd RMsg (mv y (.slice la ln lc)) y :: At a (j * 9) (mv y (.slice la ln lc)) :: L)) : SG P f n κ K k al L :=
  SG.elem hm hy fun us _ => SG.openMsg (Pick.rd (List.Mem.head _)) fun la ln lc e => by subst e; exact h la ln lc
end

def lv0 : Clu := clu0 3
def lv1 : Clu := cCamp lv0 0
def lv2 : Clu := cArr lv1 0
def lv3 : Clu := cArr lv2 2
def lv4 : Clu := cProp lv3 0 [97]
def lv5 : Clu := cBeat lv4 0
def lv6 : Clu := cArr lv5 3
def lv7 : Clu := cArr lv6 5
def lv8 : Clu := cBeat lv7 0
def lv9 : Clu := cArr lv8 6
def lv10 : Clu := cCamp lv9 2
def lv11 : Clu := cCamp lv10 2
def lv12 : Clu := cArr lv11 (lv11.sent.length - 2)
def lv13 : Clu := cArr lv12 (lv11.sent.length - 1)
theorem lf_n1 : lv1.sent.length = 2 := by kernel_rfl
theorem lf_t1 : (lv1.p 0).term = 1 := by kernel_rfl
theorem lf_k1 : (lv1.sent.getD 0 default).kind = 1 := by kernel_rfl
theorem lf_x1 : (lv1.sent.getD 0 default).index = 0 := by kernel_rfl
theorem lf_n2 : lv2.sent.length = 3 := by kernel_rfl
theorem lf_r3 : (lv3.p 0).role = 2 := by kernel_rfl
theorem lf_n5 : lv5.sent.length = 5 := by kernel_rfl
theorem lf_s5 : (lv5.sent.getD 3 default).slots.length = 1 := by kernel_rfl
theorem lf_o5 : (lv5.sent.getD 3 default).to = 1 := by kernel_rfl
theorem lf_n6 : lv6.sent.length = 6 := by kernel_rfl
theorem lf_c7 : (lv7.p 0).commit = 1 := by kernel_rfl
theorem lf_d7 : (lv7.p 1).commit = 0 := by kernel_rfl
theorem lf_n8 : lv8.sent.length = 8 := by kernel_rfl
theorem lf_m9 : committed (lv9.p 1) = [[97]] := by kernel_rfl
theorem lf_n11 : lv11.sent.length = 13 := by kernel_rfl
theorem lf_t13 : (lv13.p 2).term = 2 := by kernel_rfl
theorem lf_u13 : (lv13.p 0).term = 2 := by kernel_rfl
theorem lf_r13 : (lv13.p 0).role = 0 := by kernel_rfl
theorem lf_v13 : (lv13.p 1).voted = -1 := by kernel_rfl
theorem lf_n3 : lv3.sent.length = 3 := by kernel_rfl
theorem lf_n7 : lv7.sent.length = 6 := by kernel_rfl
theorem lr0 : ∃ G, Rp.Reach 3 G 0 lv0 := ⟨gh0, reach0 3⟩
theorem lr1 : ∃ G, Rp.Reach 3 G 1 lv1 := by
  obtain ⟨G, h⟩ := lr0
  obtain ⟨G', _, h'⟩ := h.camp (by decide) (i := 0) (by decide)
  exact ⟨G', h'⟩
theorem lr2 : ∃ G, Rp.Reach 3 G 2 lv2 := by
  obtain ⟨G, h⟩ := lr1
  obtain ⟨G', _, h'⟩ := h.arr (k := 0) (of_decide_eq_true krX)
  exact ⟨G', h'⟩
theorem lr3 : ∃ G, Rp.Reach 3 G 3 lv3 := by
  obtain ⟨G, h⟩ := lr2
  obtain ⟨G', _, h'⟩ := h.arr (k := 2) (of_decide_eq_true krX)
  exact ⟨G', h'⟩
theorem lr4 : ∃ G, Rp.Reach 3 G 4 lv4 := by
  obtain ⟨G, h⟩ := lr3
  obtain ⟨G', _, h'⟩ := h.prop (i := 0) (by decide) (data := [97])
  exact ⟨G', h'⟩
theorem lr5 : ∃ G, Rp.Reach 3 G 5 lv5 := by
  obtain ⟨G, h⟩ := lr4
  exact ⟨G, h.beat (by decide) (i := 0) (by decide)⟩
theorem lr6 : ∃ G, Rp.Reach 3 G 6 lv6 := by
  obtain ⟨G, h⟩ := lr5
  obtain ⟨G', _, h'⟩ := h.arr (k := 3) (of_decide_eq_true krX)
  exact ⟨G', h'⟩
theorem lr7 : ∃ G, Rp.Reach 3 G 7 lv7 := by
  obtain ⟨G, h⟩ := lr6
  obtain ⟨G', _, h'⟩ := h.arr (k := 5) (of_decide_eq_true krX)
  exact ⟨G', h'⟩
theorem lr8 : ∃ G, Rp.Reach 3 G 8 lv8 := by
  obtain ⟨G, h⟩ := lr7
  exact ⟨G, h.beat (by decide) (i := 0) (by decide)⟩
theorem lr9 : ∃ G, Rp.Reach 3 G 9 lv9 := by
  obtain ⟨G, h⟩ := lr8
  obtain ⟨G', _, h'⟩ := h.arr (k := 6) (of_decide_eq_true krX)
  exact ⟨G', h'⟩
theorem lr10 : ∃ G, Rp.Reach 3 G 10 lv10 := by
  obtain ⟨G, h⟩ := lr9
  obtain ⟨G', _, h'⟩ := h.camp (by decide) (i := 2) (by decide)
  exact ⟨G', h'⟩
theorem lr11 : ∃ G, Rp.Reach 3 G 11 lv11 := by
  obtain ⟨G, h⟩ := lr10
  obtain ⟨G', _, h'⟩ := h.camp (by decide) (i := 2) (by decide)
  exact ⟨G', h'⟩
theorem lr12 : ∃ G, Rp.Reach 3 G 12 lv12 := by
  obtain ⟨G, h⟩ := lr11
  obtain ⟨G', _, h'⟩ := h.arr (k := (lv11.sent.length - 2)) (of_decide_eq_true krX)
  exact ⟨G', h'⟩
theorem lr13 : ∃ G, Rp.Reach 3 G 13 lv13 := by
  obtain ⟨G, h⟩ := lr12
  obtain ⟨G', _, h'⟩ := h.arr (k := (lv11.sent.length - 1)) (of_decide_eq_true krX)
  exact ⟨G', h'⟩
theorem lk0 : COk lv0 := let ⟨_, h⟩ := lr0; Rch.ok h (by decide) (by decide) (by decide)
theorem ll0 : lv0.nodes.length = 3 := let ⟨_, h⟩ := lr0; h.1.len
theorem lk1 : COk lv1 := let ⟨_, h⟩ := lr1; Rch.ok h (by decide) (by decide) (by decide)
theorem ll1 : lv1.nodes.length = 3 := let ⟨_, h⟩ := lr1; h.1.len
theorem lk2 : COk lv2 := let ⟨_, h⟩ := lr2; Rch.ok h (by decide) (by decide) (by decide)
theorem ll2 : lv2.nodes.length = 3 := let ⟨_, h⟩ := lr2; h.1.len
theorem lk3 : COk lv3 := let ⟨_, h⟩ := lr3; Rch.ok h (by decide) (by decide) (by decide)
theorem ll3 : lv3.nodes.length = 3 := let ⟨_, h⟩ := lr3; h.1.len
theorem lk4 : COk lv4 := let ⟨_, h⟩ := lr4; Rch.ok h (by decide) (by decide) (by decide)
theorem ll4 : lv4.nodes.length = 3 := let ⟨_, h⟩ := lr4; h.1.len
theorem lk5 : COk lv5 := let ⟨_, h⟩ := lr5; Rch.ok h (by decide) (by decide) (by decide)
theorem ll5 : lv5.nodes.length = 3 := let ⟨_, h⟩ := lr5; h.1.len
theorem lk6 : COk lv6 := let ⟨_, h⟩ := lr6; Rch.ok h (by decide) (by decide) (by decide)
theorem ll6 : lv6.nodes.length = 3 := let ⟨_, h⟩ := lr6; h.1.len
theorem lk7 : COk lv7 := let ⟨_, h⟩ := lr7; Rch.ok h (by decide) (by decide) (by decide)
theorem ll7 : lv7.nodes.length = 3 := let ⟨_, h⟩ := lr7; h.1.len
theorem lk8 : COk lv8 := let ⟨_, h⟩ := lr8; Rch.ok h (by decide) (by decide) (by decide)
theorem ll8 : lv8.nodes.length = 3 := let ⟨_, h⟩ := lr8; h.1.len
theorem lk9 : COk lv9 := let ⟨_, h⟩ := lr9; Rch.ok h (by decide) (by decide) (by decide)
theorem ll9 : lv9.nodes.length = 3 := let ⟨_, h⟩ := lr9; h.1.len
theorem lk10 : COk lv10 := let ⟨_, h⟩ := lr10; Rch.ok h (by decide) (by decide) (by decide)
theorem ll10 : lv10.nodes.length = 3 := let ⟨_, h⟩ := lr10; h.1.len
theorem lk11 : COk lv11 := let ⟨_, h⟩ := lr11; Rch.ok h (by decide) (by decide) (by decide)
theorem ll11 : lv11.nodes.length = 3 := let ⟨_, h⟩ := lr11; h.1.len
theorem lk12 : COk lv12 := let ⟨_, h⟩ := lr12; Rch.ok h (by decide) (by decide) (by decide)
theorem ll12 : lv12.nodes.length = 3 := let ⟨_, h⟩ := lr12; h.1.len
theorem lk13 : COk lv13 := let ⟨_, h⟩ := lr13; Rch.ok h (by decide) (by decide) (by decide)
theorem ll13 : lv13.nodes.length = 3 := let ⟨_, h⟩ := lr13; h.1.len
theorem lf_n12 : lv12.sent.length = 14 := by kernel_rfl
set_option maxRecDepth 100000 in
set_option maxHeartbeats 1000000 in
theorem lives_ok {κ : World} {L : List Assn}  :
    Ctr Try.prog 28 #[] κ L (fun v M => v = vB true ∧ M = L) := by
 refine Ctr.enter (vs := []) (m := 177) Try.func28 rfl rfl rfl ?_
 refine SG.seq ?_
 refine SG.region ?_
 refine RL.val (Wanted.free rfl) (V.assign rfl rfl) rfl ?_
 refine RL.nil ?_
 refine SG.seq ?_
 refine SG.region ?_
 refine RL.eff (Wanted.free rfl) (E.call rfl go53 rfl (cluster_ok (N := 3) (by decide) (by decide))) rfl ?_
 rintro _ _ ⟨u8, rfl, rfl⟩
 rw [show clu0 3 = lv0 from rfl]
 refine RL.openClu (cs := u8) (Pick.rd (T := RClu) memX) fun ea en ec fa fn fc hcs => ?_
 subst hcs
 refine RL.val (Wanted.free rfl) (V.move rfl rfl) rfl ?_
 refine RL.val (Wanted.free rfl) (V.extract rfl rfl rfl) rfl ?_
 refine RL.val (Wanted.free rfl) (V.extract rfl rfl rfl) rfl ?_
 refine RL.eff (Wanted.free rfl) (E.alloc rfl ze37) rfl ?_
 rintro _ _ ⟨b1, rfl, rfl⟩
 refine RL.eff (Wanted.free rfl) (E.storeAgg rfl rfl rfl rfl sz37 pickX (by first | (simp [Value.oneCell']; done) | (simp [setAt, Value.oneCell']; done)) (by first | (simp; done) | (simp [setAt]; done))) rfl ?_
 rintro _ _ rfl
 refine RL.val (Wanted.free rfl) (V.assign rfl rfl) rfl ?_
 refine RL.nil ?_
 refine SG.seq ?_
 refine SG.seq ?_
 refine SG.region ?_
 refine RL.val (Wanted.free rfl) (V.move rfl rfl) rfl ?_
 refine RL.val (Wanted.free rfl) (V.not rfl rfl) rfl ?_
 refine RL.nil ?_
 refine SG.cond_false rfl ?_
 refine SG.skip ?_
 refine SG.seq ?_
 refine SG.region ?_
 refine RL.val (Wanted.free rfl) (V.loadAgg (us := [.slice ea en ec, .slice fa fn fc]) rfl ag37 rfl pickX rfl rfl) rfl ?_
 refine RL.eff (Wanted.free rfl) (E.call rfl go35 rfl (cCamp_ok (c := lv0) (i := 0) memX lk0 (by rw [ll0]; decide))) rfl ?_
 rintro _ _ ⟨u14, rfl, rfl⟩
 rw [show cCamp lv0 0 = lv1 from rfl]
 refine RL.openClu (cs := u14) (Pick.rd (T := RClu) memX) fun ea en ec fa fn fc hcs => ?_
 subst hcs
 refine RL.eff (Wanted.free rfl) (E.storeWhole rfl rfl rfl (by rfl) sz37 pickX (by first | (simp [Value.oneCell']; done) | (simp [setAt, Value.oneCell']; done)) (by rfl)) rfl ?_
 rintro _ _ rfl
 refine RL.nil ?_
 refine SG.seq ?_
 refine SG.seq ?_
 refine SG.sl (T := RMsg) (a := fa) memX fun hs _ _ => ?_
 rw [lf_n1] at hs
 refine SG.elemPeer (a := ea) (j := 0) (l := lv1.nodes) memX (Clu.p_get (c := lv1) (i := 0) (by rw [ll1]; decide)) fun _ _ _ _ _ _ _ _ _ => ?_
 refine SG.elemMsg (a := fa) (j := 0) (l := lv1.sent) memX (Clu.m_get (c := lv1) (k := 0) (by rw [lf_n1]; decide)) fun ma mn mc => ?_
 refine SG.region ?_
 refine RL.val (Wanted.free rfl) (V.fieldAddr rfl rfl fo37_1) rfl ?_
 refine RL.val (Wanted.free rfl) (V.load rfl on35 rfl pickX rfl) rfl ?_
 refine RL.val (Wanted.free rfl) (V.len rfl rfl el35.under rfl) rfl ?_
 refine RL.cmpF (Wanted.free rfl) (V.bin rfl rfl rfl B.neq) rfl (by omega) ?_
 refine RL.val (Wanted.free rfl) (V.move rfl rfl) rfl ?_
 refine RL.val (Wanted.yes rfl rfl rfl rfl) (V.fieldAddr rfl rfl fo37_0) rfl ?_
 refine RL.val (Wanted.yes rfl rfl rfl rfl) (V.load rfl on34 rfl pickX rfl) rfl ?_
 refine RL.val (Wanted.yes rfl rfl rfl rfl) (V.indexSl (T := RPeer) (a := ea) (l := lv1.nodes) (j := 0) rfl el34.slice rfl rfl memX rfl (by rw [ll1]; decide)) rfl ?_
 refine RL.val (Wanted.yes rfl rfl rfl rfl) (V.fieldAt rfl rfl fo26_2 memX) rfl ?_
 refine RL.val (Wanted.yes rfl rfl rfl rfl) (V.loadAtF rfl on3 rfl memX rfl) rfl ?_
 refine RL.cmpF (Wanted.yes rfl rfl rfl rfl) (V.bin rfl rfl rfl B.neq) rfl (fun h => h lf_t1) ?_
 refine RL.val (Wanted.free rfl) (V.pick_false rfl rfl rfl) rfl ?_
 refine RL.val (Wanted.free rfl) (V.move rfl rfl) rfl ?_
 refine RL.val (Wanted.yes rfl rfl rfl rfl) (V.fieldAddr rfl rfl fo37_1) rfl ?_
 refine RL.val (Wanted.yes rfl rfl rfl rfl) (V.load rfl on35 rfl pickX rfl) rfl ?_
 refine RL.val (Wanted.yes rfl rfl rfl rfl) (V.indexSl (T := RMsg) (a := fa) (l := lv1.sent) (j := 0) rfl el35.slice rfl rfl memX rfl (by rw [lf_n1]; decide)) rfl ?_
 refine RL.val (Wanted.yes rfl rfl rfl rfl) (V.fieldAt rfl rfl fo50_0 memX) rfl ?_
 refine RL.val (Wanted.yes rfl rfl rfl rfl) (V.loadAtF rfl on3 rfl memX rfl) rfl ?_
 refine RL.cmpF (Wanted.yes rfl rfl rfl rfl) (V.bin rfl rfl rfl B.neq) rfl (fun h => h lf_k1) ?_
 refine RL.val (Wanted.free rfl) (V.pick_false rfl rfl rfl) rfl ?_
 refine RL.val (Wanted.free rfl) (V.move rfl rfl) rfl ?_
 refine RL.val (Wanted.yes rfl rfl rfl rfl) (V.fieldAddr rfl rfl fo37_1) rfl ?_
 refine RL.val (Wanted.yes rfl rfl rfl rfl) (V.load rfl on35 rfl pickX rfl) rfl ?_
 refine RL.val (Wanted.yes rfl rfl rfl rfl) (V.indexSl (T := RMsg) (a := fa) (l := lv1.sent) (j := 0) rfl el35.slice rfl rfl memX rfl (by rw [lf_n1]; decide)) rfl ?_
 refine RL.val (Wanted.yes rfl rfl rfl rfl) (V.fieldAt rfl rfl fo50_4 memX) rfl ?_
 refine RL.val (Wanted.yes rfl rfl rfl rfl) (V.loadAtF rfl on3 rfl memX rfl) rfl ?_
 refine RL.cmpF (Wanted.yes rfl rfl rfl rfl) (V.bin rfl rfl rfl B.neq) rfl (fun h => h lf_x1) ?_
 refine RL.val (Wanted.free rfl) (V.pick_false rfl rfl rfl) rfl ?_
 refine RL.nil ?_
 refine SG.cond_false rfl ?_
 refine SG.skip ?_
 refine SG.seq ?_
 refine SG.region ?_
 refine RL.val (Wanted.free rfl) (V.loadAgg (us := [.slice ea en ec, .slice fa fn fc]) rfl ag37 rfl pickX rfl rfl) rfl ?_
 refine RL.eff (Wanted.free rfl) (E.call rfl go69 rfl (cArr_ok (c := lv1) (k := 0) memX lk1 (by rw [lf_n1]; decide))) rfl ?_
 rintro _ _ ⟨u44, rfl, rfl⟩
 rw [show cArr lv1 0 = lv2 from rfl]
 refine RL.openClu (cs := u44) (Pick.rd (T := RClu) memX) fun ea en ec fa fn fc hcs => ?_
 subst hcs
 refine RL.eff (Wanted.free rfl) (E.storeWhole rfl rfl rfl (by rfl) sz37 pickX (by first | (simp [Value.oneCell']; done) | (simp [setAt, Value.oneCell']; done)) (by rfl)) rfl ?_
 rintro _ _ rfl
 refine RL.nil ?_
 refine SG.seq ?_
 refine SG.seq ?_
 refine SG.sl (T := RMsg) (a := fa) memX fun hs _ _ => ?_
 rw [lf_n2] at hs
 refine SG.region ?_
 refine RL.val (Wanted.free rfl) (V.fieldAddr rfl rfl fo37_1) rfl ?_
 refine RL.val (Wanted.free rfl) (V.load rfl on35 rfl pickX rfl) rfl ?_
 refine RL.val (Wanted.free rfl) (V.len rfl rfl el35.under rfl) rfl ?_
 refine RL.cmpF (Wanted.free rfl) (V.bin rfl rfl rfl B.neq) rfl (by omega) ?_
 refine RL.nil ?_
 refine SG.cond_false rfl ?_
 refine SG.skip ?_
 refine SG.seq ?_
 refine SG.region ?_
 refine RL.val (Wanted.free rfl) (V.loadAgg (us := [.slice ea en ec, .slice fa fn fc]) rfl ag37 rfl pickX rfl rfl) rfl ?_
 refine RL.eff (Wanted.free rfl) (E.call rfl go69 rfl (cArr_ok (c := lv2) (k := 2) memX lk2 (by rw [lf_n2]; decide))) rfl ?_
 rintro _ _ ⟨u50, rfl, rfl⟩
 rw [show cArr lv2 2 = lv3 from rfl]
 refine RL.openClu (cs := u50) (Pick.rd (T := RClu) memX) fun ea en ec fa fn fc hcs => ?_
 subst hcs
 refine RL.eff (Wanted.free rfl) (E.storeWhole rfl rfl rfl (by rfl) sz37 pickX (by first | (simp [Value.oneCell']; done) | (simp [setAt, Value.oneCell']; done)) (by rfl)) rfl ?_
 rintro _ _ rfl
 refine RL.nil ?_
 refine SG.seq ?_
 refine SG.seq ?_
 refine SG.elemPeer (a := ea) (j := 0) (l := lv3.nodes) memX (Clu.p_get (c := lv3) (i := 0) (by rw [ll3]; decide)) fun _ _ _ _ _ _ _ _ _ => ?_
 refine SG.region ?_
 refine RL.val (Wanted.free rfl) (V.fieldAddr rfl rfl fo37_0) rfl ?_
 refine RL.val (Wanted.free rfl) (V.load rfl on34 rfl pickX rfl) rfl ?_
 refine RL.val (Wanted.free rfl) (V.indexSl (T := RPeer) (a := ea) (l := lv3.nodes) (j := 0) rfl el34.slice rfl rfl memX rfl (by rw [ll3]; decide)) rfl ?_
 refine RL.val (Wanted.free rfl) (V.fieldAt rfl rfl fo26_4 memX) rfl ?_
 refine RL.val (Wanted.free rfl) (V.loadAtF rfl on3 rfl memX rfl) rfl ?_
 refine RL.cmpF (Wanted.free rfl) (V.bin rfl rfl rfl B.neq) rfl (fun h => h lf_r3) ?_
 refine RL.nil ?_
 refine SG.cond_false rfl ?_
 refine SG.skip ?_
 refine SG.seq ?_
 refine SG.region ?_
 refine RL.val (Wanted.free rfl) (V.loadAgg (us := [.slice ea en ec, .slice fa fn fc]) rfl ag37 rfl pickX rfl rfl) rfl ?_
 refine RL.eff (Wanted.free rfl) (E.call rfl go37 rfl (cProp_ok (c := lv3) (i := 0) (data := [97]) memX lk3 (by rw [ll3]; decide))) rfl ?_
 rintro _ _ ⟨u58, rfl, rfl⟩
 rw [show cProp lv3 0 [97] = lv4 from rfl]
 refine RL.openClu (cs := u58) (Pick.rd (T := RClu) memX) fun ea en ec fa fn fc hcs => ?_
 subst hcs
 refine RL.eff (Wanted.free rfl) (E.storeWhole rfl rfl rfl (by rfl) sz37 pickX (by first | (simp [Value.oneCell']; done) | (simp [setAt, Value.oneCell']; done)) (by rfl)) rfl ?_
 rintro _ _ rfl
 refine RL.nil ?_
 refine SG.seq ?_
 refine SG.region ?_
 refine RL.val (Wanted.free rfl) (V.loadAgg (us := [.slice ea en ec, .slice fa fn fc]) rfl ag37 rfl pickX rfl rfl) rfl ?_
 refine RL.eff (Wanted.free rfl) (E.call rfl go39 rfl (cBeat_ok (c := lv4) (i := 0) memX lk4 (by rw [ll4]; decide))) rfl ?_
 rintro _ _ ⟨u60, rfl, rfl⟩
 rw [show cBeat lv4 0 = lv5 from rfl]
 refine RL.openClu (cs := u60) (Pick.rd (T := RClu) memX) fun ea en ec fa fn fc hcs => ?_
 subst hcs
 refine RL.eff (Wanted.free rfl) (E.storeWhole rfl rfl rfl (by rfl) sz37 pickX (by first | (simp [Value.oneCell']; done) | (simp [setAt, Value.oneCell']; done)) (by rfl)) rfl ?_
 rintro _ _ rfl
 refine RL.nil ?_
 refine SG.seq ?_
 refine SG.seq ?_
 refine SG.sl (T := RMsg) (a := fa) memX fun hs _ _ => ?_
 rw [lf_n5] at hs
 refine SG.elemMsg (a := fa) (j := 3) (l := lv5.sent) memX (Clu.m_get (c := lv5) (k := 3) (by rw [lf_n5]; decide)) fun ma mn mc => ?_
 refine SG.sl (T := RSlot) (a := ma) memX fun hs _ _ => ?_
 rw [lf_s5] at hs
 refine SG.region ?_
 refine RL.val (Wanted.free rfl) (V.fieldAddr rfl rfl fo37_1) rfl ?_
 refine RL.val (Wanted.free rfl) (V.load rfl on35 rfl pickX rfl) rfl ?_
 refine RL.val (Wanted.free rfl) (V.len rfl rfl el35.under rfl) rfl ?_
 refine RL.cmpF (Wanted.free rfl) (V.bin rfl rfl rfl B.neq) rfl (by omega) ?_
 refine RL.val (Wanted.free rfl) (V.move rfl rfl) rfl ?_
 refine RL.val (Wanted.yes rfl rfl rfl rfl) (V.fieldAddr rfl rfl fo37_1) rfl ?_
 refine RL.val (Wanted.yes rfl rfl rfl rfl) (V.load rfl on35 rfl pickX rfl) rfl ?_
 refine RL.val (Wanted.yes rfl rfl rfl rfl) (V.indexSl (T := RMsg) (a := fa) (l := lv5.sent) (j := 3) rfl el35.slice rfl rfl memX rfl (by rw [lf_n5]; decide)) rfl ?_
 refine RL.val (Wanted.yes rfl rfl rfl rfl) (V.fieldAt rfl rfl fo50_7 memX) rfl ?_
 refine RL.val (Wanted.yes rfl rfl rfl rfl) (V.loadAtF rfl on23 rfl memX rfl) rfl ?_
 refine RL.val (Wanted.yes rfl rfl rfl rfl) (V.len rfl rfl el23.under rfl) rfl ?_
 refine RL.cmpF (Wanted.yes rfl rfl rfl rfl) (V.bin rfl rfl rfl B.neq) rfl (by omega) ?_
 refine RL.val (Wanted.free rfl) (V.pick_false rfl rfl rfl) rfl ?_
 refine RL.val (Wanted.free rfl) (V.move rfl rfl) rfl ?_
 refine RL.val (Wanted.yes rfl rfl rfl rfl) (V.fieldAddr rfl rfl fo37_1) rfl ?_
 refine RL.val (Wanted.yes rfl rfl rfl rfl) (V.load rfl on35 rfl pickX rfl) rfl ?_
 refine RL.val (Wanted.yes rfl rfl rfl rfl) (V.indexSl (T := RMsg) (a := fa) (l := lv5.sent) (j := 3) rfl el35.slice rfl rfl memX rfl (by rw [lf_n5]; decide)) rfl ?_
 refine RL.val (Wanted.yes rfl rfl rfl rfl) (V.fieldAt rfl rfl fo50_2 memX) rfl ?_
 refine RL.val (Wanted.yes rfl rfl rfl rfl) (V.loadAtF rfl on3 rfl memX rfl) rfl ?_
 refine RL.cmpF (Wanted.yes rfl rfl rfl rfl) (V.bin rfl rfl rfl B.neq) rfl (fun h => h lf_o5) ?_
 refine RL.val (Wanted.free rfl) (V.pick_false rfl rfl rfl) rfl ?_
 refine RL.nil ?_
 refine SG.cond_false rfl ?_
 refine SG.skip ?_
 refine SG.seq ?_
 refine SG.region ?_
 refine RL.val (Wanted.free rfl) (V.loadAgg (us := [.slice ea en ec, .slice fa fn fc]) rfl ag37 rfl pickX rfl rfl) rfl ?_
 refine RL.eff (Wanted.free rfl) (E.call rfl go69 rfl (cArr_ok (c := lv5) (k := 3) memX lk5 (by rw [lf_n5]; decide))) rfl ?_
 rintro _ _ ⟨u83, rfl, rfl⟩
 rw [show cArr lv5 3 = lv6 from rfl]
 refine RL.openClu (cs := u83) (Pick.rd (T := RClu) memX) fun ea en ec fa fn fc hcs => ?_
 subst hcs
 refine RL.eff (Wanted.free rfl) (E.storeWhole rfl rfl rfl (by rfl) sz37 pickX (by first | (simp [Value.oneCell']; done) | (simp [setAt, Value.oneCell']; done)) (by rfl)) rfl ?_
 rintro _ _ rfl
 refine RL.nil ?_
 refine SG.seq ?_
 refine SG.seq ?_
 refine SG.sl (T := RMsg) (a := fa) memX fun hs _ _ => ?_
 rw [lf_n6] at hs
 refine SG.region ?_
 refine RL.val (Wanted.free rfl) (V.fieldAddr rfl rfl fo37_1) rfl ?_
 refine RL.val (Wanted.free rfl) (V.load rfl on35 rfl pickX rfl) rfl ?_
 refine RL.val (Wanted.free rfl) (V.len rfl rfl el35.under rfl) rfl ?_
 refine RL.cmpF (Wanted.free rfl) (V.bin rfl rfl rfl B.neq) rfl (by omega) ?_
 refine RL.nil ?_
 refine SG.cond_false rfl ?_
 refine SG.skip ?_
 refine SG.seq ?_
 refine SG.region ?_
 refine RL.val (Wanted.free rfl) (V.loadAgg (us := [.slice ea en ec, .slice fa fn fc]) rfl ag37 rfl pickX rfl rfl) rfl ?_
 refine RL.eff (Wanted.free rfl) (E.call rfl go69 rfl (cArr_ok (c := lv6) (k := 5) memX lk6 (by rw [lf_n6]; decide))) rfl ?_
 rintro _ _ ⟨u89, rfl, rfl⟩
 rw [show cArr lv6 5 = lv7 from rfl]
 refine RL.openClu (cs := u89) (Pick.rd (T := RClu) memX) fun ea en ec fa fn fc hcs => ?_
 subst hcs
 refine RL.eff (Wanted.free rfl) (E.storeWhole rfl rfl rfl (by rfl) sz37 pickX (by first | (simp [Value.oneCell']; done) | (simp [setAt, Value.oneCell']; done)) (by rfl)) rfl ?_
 rintro _ _ rfl
 refine RL.nil ?_
 refine SG.seq ?_
 refine SG.elemPeer (a := ea) (j := 0) (l := lv7.nodes) memX (Clu.p_get (c := lv7) (i := 0) (by rw [ll7]; decide)) fun _ _ _ _ _ _ _ _ _ => ?_
 refine SG.elemPeer (a := ea) (j := 1) (l := lv7.nodes) memX (Clu.p_get (c := lv7) (i := 1) (by rw [ll7]; decide)) fun _ _ _ _ _ _ _ _ _ => ?_
 refine SG.region ?_
 refine RL.val (Wanted.free rfl) (V.fieldAddr rfl rfl fo37_0) rfl ?_
 refine RL.val (Wanted.free rfl) (V.load rfl on34 rfl pickX rfl) rfl ?_
 refine RL.val (Wanted.free rfl) (V.indexSl (T := RPeer) (a := ea) (l := lv7.nodes) (j := 0) rfl el34.slice rfl rfl memX rfl (by rw [ll7]; decide)) rfl ?_
 refine RL.val (Wanted.free rfl) (V.fieldAt rfl rfl fo26_5 memX) rfl ?_
 refine RL.val (Wanted.free rfl) (V.loadAtF rfl on3 rfl memX rfl) rfl ?_
 refine RL.cmpT (Wanted.free rfl) (V.bin rfl rfl rfl B.eql) rfl lf_c7 ?_
 refine RL.val (Wanted.free rfl) (V.move rfl rfl) rfl ?_
 refine RL.val (Wanted.yes rfl rfl rfl rfl) (V.fieldAddr rfl rfl fo37_0) rfl ?_
 refine RL.val (Wanted.yes rfl rfl rfl rfl) (V.load rfl on34 rfl pickX rfl) rfl ?_
 refine RL.val (Wanted.yes rfl rfl rfl rfl) (V.indexSl (T := RPeer) (a := ea) (l := lv7.nodes) (j := 1) rfl el34.slice rfl rfl memX rfl (by rw [ll7]; decide)) rfl ?_
 refine RL.val (Wanted.yes rfl rfl rfl rfl) (V.fieldAt rfl rfl fo26_5 memX) rfl ?_
 refine RL.val (Wanted.yes rfl rfl rfl rfl) (V.loadAtF rfl on3 rfl memX rfl) rfl ?_
 refine RL.cmpT (Wanted.yes rfl rfl rfl rfl) (V.bin rfl rfl rfl B.eql) rfl lf_d7 ?_
 refine RL.val (Wanted.free rfl) (V.pick_true rfl rfl rfl) rfl ?_
 refine RL.val (Wanted.free rfl) (V.assign rfl rfl) rfl ?_
 refine RL.nil ?_
 refine SG.seq ?_
 refine SG.region ?_
 refine RL.val (Wanted.free rfl) (V.loadAgg (us := [.slice ea en ec, .slice fa fn fc]) rfl ag37 rfl pickX rfl rfl) rfl ?_
 refine RL.eff (Wanted.free rfl) (E.call rfl go39 rfl (cBeat_ok (c := lv7) (i := 0) memX lk7 (by rw [ll7]; decide))) rfl ?_
 rintro _ _ ⟨u105, rfl, rfl⟩
 rw [show cBeat lv7 0 = lv8 from rfl]
 refine RL.openClu (cs := u105) (Pick.rd (T := RClu) memX) fun ea en ec fa fn fc hcs => ?_
 subst hcs
 refine RL.eff (Wanted.free rfl) (E.storeWhole rfl rfl rfl (by rfl) sz37 pickX (by first | (simp [Value.oneCell']; done) | (simp [setAt, Value.oneCell']; done)) (by rfl)) rfl ?_
 rintro _ _ rfl
 refine RL.nil ?_
 refine SG.seq ?_
 refine SG.seq ?_
 refine SG.sl (T := RMsg) (a := fa) memX fun hs _ _ => ?_
 rw [lf_n8] at hs
 refine SG.region ?_
 refine RL.val (Wanted.free rfl) (V.fieldAddr rfl rfl fo37_1) rfl ?_
 refine RL.val (Wanted.free rfl) (V.load rfl on35 rfl pickX rfl) rfl ?_
 refine RL.val (Wanted.free rfl) (V.len rfl rfl el35.under rfl) rfl ?_
 refine RL.cmpF (Wanted.free rfl) (V.bin rfl rfl rfl B.neq) rfl (by omega) ?_
 refine RL.nil ?_
 refine SG.cond_false rfl ?_
 refine SG.skip ?_
 refine SG.seq ?_
 refine SG.region ?_
 refine RL.val (Wanted.free rfl) (V.loadAgg (us := [.slice ea en ec, .slice fa fn fc]) rfl ag37 rfl pickX rfl rfl) rfl ?_
 refine RL.eff (Wanted.free rfl) (E.call rfl go69 rfl (cArr_ok (c := lv8) (k := 6) memX lk8 (by rw [lf_n8]; decide))) rfl ?_
 rintro _ _ ⟨u111, rfl, rfl⟩
 rw [show cArr lv8 6 = lv9 from rfl]
 refine RL.openClu (cs := u111) (Pick.rd (T := RClu) memX) fun ea en ec fa fn fc hcs => ?_
 subst hcs
 refine RL.eff (Wanted.free rfl) (E.storeWhole rfl rfl rfl (by rfl) sz37 pickX (by first | (simp [Value.oneCell']; done) | (simp [setAt, Value.oneCell']; done)) (by rfl)) rfl ?_
 rintro _ _ rfl
 refine RL.nil ?_
 refine SG.seq ?_
 have hpk := lk9.p _ (Clu.p_mem (c := lv9) (i := 1) (by rw [ll9]; decide))
 obtain ⟨n1, n5, i0, i1, t0, t1, ll, lv, lm, vn, mn, c0, c1, mm, dd⟩ := hpk
 refine SG.region ?_
 refine RL.val (Wanted.free rfl) (V.fieldAddr rfl rfl fo37_0) rfl ?_
 refine RL.val (Wanted.free rfl) (V.load rfl on34 rfl pickX rfl) rfl ?_
 refine RL.val (Wanted.free rfl) (V.indexSl (T := RPeer) (a := ea) (l := lv9.nodes) (j := 1) rfl el34.slice rfl rfl memX rfl (by rw [ll9]; decide)) rfl ?_
 refine RL.eff (Wanted.free rfl) (E.loadElem (T := RPeer) (l := lv9.nodes) (a := ea) (j := 1) rfl ag26 rfl memX (Clu.p_get (c := lv9) (i := 1) (by rw [ll9]; decide))) rfl ?_
 rintro _ _ ⟨u115, rfl, rfl⟩
 refine RL.eff (Wanted.free rfl) (E.call rfl go26 rfl (pCom_ok (p := lv9.p 1) memX (by omega) (by omega) (by omega) c0 c1 dd)) rfl ?_
 rintro _ _ ⟨a116, c116, rfl, rfl⟩
 rw [lf_m9]
 refine RL.val (Wanted.free rfl) (V.assign rfl rfl) rfl ?_
 refine RL.nil ?_
 refine SG.seq ?_
 refine SG.region ?_
 refine RL.val (Wanted.free rfl) (V.move rfl rfl) rfl ?_
 refine RL.val (Wanted.free rfl) (V.len rfl rfl el45.under rfl) rfl ?_
 refine RL.cmpT (Wanted.free rfl) (V.bin rfl rfl rfl B.eql) rfl rfl ?_
 refine RL.val (Wanted.free rfl) (V.move rfl rfl) rfl ?_
 refine RL.val (Wanted.yes rfl rfl rfl rfl) (V.move rfl rfl) rfl ?_
 refine RL.val (Wanted.yes rfl rfl rfl rfl) (V.indexSl (T := RS) (a := a116) (l := [[97]]) (j := 0) rfl el45.slice rfl rfl memX rfl (by decide)) rfl ?_
 refine RL.val (Wanted.yes rfl rfl rfl rfl) (V.loadSc (l := [[97]]) (y := [97]) (j := 0) rfl on9 rfl memX rfl) rfl ?_
 refine RL.cmpT (Wanted.yes rfl rfl rfl rfl) (V.bin rfl rfl rfl B.eqlS) rfl rfl ?_
 refine RL.val (Wanted.free rfl) (V.pick_true rfl rfl rfl) rfl ?_
 refine RL.val (Wanted.free rfl) (V.assign rfl rfl) rfl ?_
 refine RL.nil ?_
 refine SG.seq ?_
 refine SG.region ?_
 refine RL.val (Wanted.free rfl) (V.loadAgg (us := [.slice ea en ec, .slice fa fn fc]) rfl ag37 rfl pickX rfl rfl) rfl ?_
 refine RL.eff (Wanted.free rfl) (E.call rfl go35 rfl (cCamp_ok (c := lv9) (i := 2) memX lk9 (by rw [ll9]; decide))) rfl ?_
 rintro _ _ ⟨u127, rfl, rfl⟩
 rw [show cCamp lv9 2 = lv10 from rfl]
 refine RL.openClu (cs := u127) (Pick.rd (T := RClu) memX) fun ea en ec fa fn fc hcs => ?_
 subst hcs
 refine RL.eff (Wanted.free rfl) (E.storeWhole rfl rfl rfl (by rfl) sz37 pickX (by first | (simp [Value.oneCell']; done) | (simp [setAt, Value.oneCell']; done)) (by rfl)) rfl ?_
 rintro _ _ rfl
 refine RL.nil ?_
 refine SG.seq ?_
 refine SG.region ?_
 refine RL.val (Wanted.free rfl) (V.loadAgg (us := [.slice ea en ec, .slice fa fn fc]) rfl ag37 rfl pickX rfl rfl) rfl ?_
 refine RL.eff (Wanted.free rfl) (E.call rfl go35 rfl (cCamp_ok (c := lv10) (i := 2) memX lk10 (by rw [ll10]; decide))) rfl ?_
 rintro _ _ ⟨u129, rfl, rfl⟩
 rw [show cCamp lv10 2 = lv11 from rfl]
 refine RL.openClu (cs := u129) (Pick.rd (T := RClu) memX) fun ea en ec fa fn fc hcs => ?_
 subst hcs
 refine RL.eff (Wanted.free rfl) (E.storeWhole rfl rfl rfl (by rfl) sz37 pickX (by first | (simp [Value.oneCell']; done) | (simp [setAt, Value.oneCell']; done)) (by rfl)) rfl ?_
 rintro _ _ rfl
 refine RL.nil ?_
 refine SG.seq ?_
 refine SG.sl (T := RMsg) (a := fa) memX fun hs _ _ => ?_
 rw [lf_n11] at hs
 subst hs
 refine SG.region ?_
 refine RL.val (Wanted.free rfl) (V.fieldAddr rfl rfl fo37_1) rfl ?_
 refine RL.val (Wanted.free rfl) (V.load rfl on35 rfl pickX rfl) rfl ?_
 refine RL.val (Wanted.free rfl) (V.len rfl rfl el35.under rfl) rfl ?_
 refine RL.val (Wanted.free rfl) (V.assign rfl rfl) rfl ?_
 refine RL.nil ?_
 refine SG.seq ?_
 refine SG.region ?_
 refine RL.val (Wanted.free rfl) (V.loadAgg (us := [.slice ea en ec, .slice fa 13 fc]) rfl ag37 rfl pickX rfl rfl) rfl ?_
 refine RL.val (Wanted.free rfl) (V.move rfl rfl) rfl ?_
 refine RL.val (Wanted.free rfl) (V.bin rfl rfl rfl (B.subI (by omega) (by omega))) rfl ?_
 refine RL.eff (Wanted.free rfl) (E.call rfl go69 rfl (cArr_ok (c := lv11) (k := 11) memX lk11 (by rw [lf_n11]; decide))) rfl ?_
 rintro _ _ ⟨u136, rfl, rfl⟩
 rw [show cArr lv11 11 = lv12 from by rw [lv12, lf_n11]]
 refine RL.openClu (cs := u136) (Pick.rd (T := RClu) memX) fun ea en ec fa fn fc hcs => ?_
 subst hcs
 refine RL.eff (Wanted.free rfl) (E.storeWhole rfl rfl rfl (by rfl) sz37 pickX (by first | (simp [Value.oneCell']; done) | (simp [setAt, Value.oneCell']; done)) (by rfl)) rfl ?_
 rintro _ _ rfl
 refine RL.nil ?_
 refine SG.seq ?_
 refine SG.region ?_
 refine RL.val (Wanted.free rfl) (V.loadAgg (us := [.slice ea en ec, .slice fa fn fc]) rfl ag37 rfl pickX rfl rfl) rfl ?_
 refine RL.val (Wanted.free rfl) (V.move rfl rfl) rfl ?_
 refine RL.val (Wanted.free rfl) (V.bin rfl rfl rfl (B.subI (by omega) (by omega))) rfl ?_
 refine RL.eff (Wanted.free rfl) (E.call rfl go69 rfl (cArr_ok (c := lv12) (k := 12) memX lk12 (by have := lf_n12; omega))) rfl ?_
 rintro _ _ ⟨u140, rfl, rfl⟩
 rw [show cArr lv12 12 = lv13 from by rw [lv13, lf_n11]]
 refine RL.openClu (cs := u140) (Pick.rd (T := RClu) memX) fun ea en ec fa fn fc hcs => ?_
 subst hcs
 refine RL.eff (Wanted.free rfl) (E.storeWhole rfl rfl rfl (by rfl) sz37 pickX (by first | (simp [Value.oneCell']; done) | (simp [setAt, Value.oneCell']; done)) (by rfl)) rfl ?_
 rintro _ _ rfl
 refine RL.nil ?_
 refine SG.seq ?_
 refine SG.elemPeer (a := ea) (j := 2) (l := lv13.nodes) memX (Clu.p_get (c := lv13) (i := 2) (by rw [ll13]; decide)) fun _ _ _ _ _ _ _ _ _ => ?_
 refine SG.elemPeer (a := ea) (j := 0) (l := lv13.nodes) memX (Clu.p_get (c := lv13) (i := 0) (by rw [ll13]; decide)) fun _ _ _ _ _ _ _ _ _ => ?_
 refine SG.elemPeer (a := ea) (j := 1) (l := lv13.nodes) memX (Clu.p_get (c := lv13) (i := 1) (by rw [ll13]; decide)) fun _ _ _ _ _ _ _ _ _ => ?_
 refine SG.region ?_
 refine RL.val (Wanted.free rfl) (V.move rfl rfl) rfl ?_
 refine RL.val (Wanted.free rfl) (V.move rfl rfl) rfl ?_
 refine RL.val (Wanted.yes rfl rfl rfl rfl) (V.move rfl rfl) rfl ?_
 refine RL.val (Wanted.free rfl) (V.pick_true rfl rfl rfl) rfl ?_
 refine RL.val (Wanted.free rfl) (V.move rfl rfl) rfl ?_
 refine RL.val (Wanted.yes rfl rfl rfl rfl) (V.fieldAddr rfl rfl fo37_0) rfl ?_
 refine RL.val (Wanted.yes rfl rfl rfl rfl) (V.load rfl on34 rfl pickX rfl) rfl ?_
 refine RL.val (Wanted.yes rfl rfl rfl rfl) (V.indexSl (T := RPeer) (a := ea) (l := lv13.nodes) (j := 2) rfl el34.slice rfl rfl memX rfl (by rw [ll13]; decide)) rfl ?_
 refine RL.val (Wanted.yes rfl rfl rfl rfl) (V.fieldAt rfl rfl fo26_2 memX) rfl ?_
 refine RL.val (Wanted.yes rfl rfl rfl rfl) (V.loadAtF rfl on3 rfl memX rfl) rfl ?_
 refine RL.cmpT (Wanted.yes rfl rfl rfl rfl) (V.bin rfl rfl rfl B.eql) rfl lf_t13 ?_
 refine RL.val (Wanted.free rfl) (V.pick_true rfl rfl rfl) rfl ?_
 refine RL.val (Wanted.free rfl) (V.move rfl rfl) rfl ?_
 refine RL.val (Wanted.yes rfl rfl rfl rfl) (V.fieldAddr rfl rfl fo37_0) rfl ?_
 refine RL.val (Wanted.yes rfl rfl rfl rfl) (V.load rfl on34 rfl pickX rfl) rfl ?_
 refine RL.val (Wanted.yes rfl rfl rfl rfl) (V.indexSl (T := RPeer) (a := ea) (l := lv13.nodes) (j := 0) rfl el34.slice rfl rfl memX rfl (by rw [ll13]; decide)) rfl ?_
 refine RL.val (Wanted.yes rfl rfl rfl rfl) (V.fieldAt rfl rfl fo26_2 memX) rfl ?_
 refine RL.val (Wanted.yes rfl rfl rfl rfl) (V.loadAtF rfl on3 rfl memX rfl) rfl ?_
 refine RL.cmpT (Wanted.yes rfl rfl rfl rfl) (V.bin rfl rfl rfl B.eql) rfl lf_u13 ?_
 refine RL.val (Wanted.free rfl) (V.pick_true rfl rfl rfl) rfl ?_
 refine RL.val (Wanted.free rfl) (V.move rfl rfl) rfl ?_
 refine RL.val (Wanted.yes rfl rfl rfl rfl) (V.fieldAddr rfl rfl fo37_0) rfl ?_
 refine RL.val (Wanted.yes rfl rfl rfl rfl) (V.load rfl on34 rfl pickX rfl) rfl ?_
 refine RL.val (Wanted.yes rfl rfl rfl rfl) (V.indexSl (T := RPeer) (a := ea) (l := lv13.nodes) (j := 0) rfl el34.slice rfl rfl memX rfl (by rw [ll13]; decide)) rfl ?_
 refine RL.val (Wanted.yes rfl rfl rfl rfl) (V.fieldAt rfl rfl fo26_4 memX) rfl ?_
 refine RL.val (Wanted.yes rfl rfl rfl rfl) (V.loadAtF rfl on3 rfl memX rfl) rfl ?_
 refine RL.cmpT (Wanted.yes rfl rfl rfl rfl) (V.bin rfl rfl rfl B.eql) rfl lf_r13 ?_
 refine RL.val (Wanted.free rfl) (V.pick_true rfl rfl rfl) rfl ?_
 refine RL.val (Wanted.free rfl) (V.move rfl rfl) rfl ?_
 refine RL.val (Wanted.yes rfl rfl rfl rfl) (V.fieldAddr rfl rfl fo37_0) rfl ?_
 refine RL.val (Wanted.yes rfl rfl rfl rfl) (V.load rfl on34 rfl pickX rfl) rfl ?_
 refine RL.val (Wanted.yes rfl rfl rfl rfl) (V.indexSl (T := RPeer) (a := ea) (l := lv13.nodes) (j := 1) rfl el34.slice rfl rfl memX rfl (by rw [ll13]; decide)) rfl ?_
 refine RL.val (Wanted.yes rfl rfl rfl rfl) (V.fieldAt rfl rfl fo26_3 memX) rfl ?_
 refine RL.val (Wanted.yes rfl rfl rfl rfl) (V.loadAtF rfl on3 rfl memX rfl) rfl ?_
 refine RL.cmpT (Wanted.yes rfl rfl rfl rfl) (V.bin rfl rfl rfl B.eql) rfl lf_v13 ?_
 refine RL.val (Wanted.free rfl) (V.pick_true rfl rfl rfl) rfl ?_
 refine RL.val (Wanted.free rfl) (V.assign rfl rfl) rfl ?_
 refine RL.nil ?_
 refine SG.retE (Ret.r1 Try.func28 rfl (.tmp rfl)) ?_ ⟨rfl, rfl⟩
 exact entX

end Go.Proofs.Ytilcnglcflohoaa
