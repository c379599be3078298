/- The law LabelSpoilt. -/
import Derived.Test.YteopejoppdgncaaDoorLaws
namespace Go.Proofs.YteopejoppdgncaaDoor
open Go.Wk Go.Lb

theorem set_take {l : List UInt8} {q : Nat} {c : UInt8} (h : q < l.length) : ((l ++ [c]).set q c).take l.length = l.set q c := by
  rw [List.set_append_left _ _ h, List.take_append_of_le_length (by rw [List.length_set]; exact Nat.le_refl _), List.take_of_length_le (by rw [List.length_set]; exact Nat.le_refl _)]
set_option maxRecDepth 100000 in
set_option maxHeartbeats 1000000 in
theorem spoilt_law {κ : World} {L : List Assn} {n k at_ : Int} {c : UInt8} (hn : inInt n) (hk : inInt k) (ha : inInt at_) (hT : Glob 0 pows ∈ L) :
    Ctr Tryd.prog 10 #[vI n, vI k, vI at_, v8 c] κ L (fun v M => v = vB true ∧ M = L) := by
 refine Ctr.enter (vs := [vI n, vI k, vI at_, v8 c]) (m := 87) Tryd.func10 rfl rfl rfl ?_
 refine SG.seq ?_
 refine SG.region ?_
 refine RL.val (Wanted.free rfl) (V.assign rfl rfl) rfl ?_
 refine RL.nil ?_
 refine SG.seq ?_
 refine SG.region ?_
 refine RL.val (Wanted.free rfl) (V.move rfl rfl) rfl ?_
 refine RL.val (Wanted.free rfl) (V.move rfl rfl) rfl ?_
 refine RL.eff (Wanted.free rfl) (E.call rfl go24 rfl (label_ok (n := n) (k := k) (by assumption) (by assumption))) rfl ?_
 rintro _ L ⟨rfl, rfl⟩
 refine RL.eff (Wanted.free rfl) (E.alloc rfl ze23) rfl ?_
 rintro _ _ ⟨b9, rfl, rfl⟩
 refine RL.eff (Wanted.free rfl) (E.storeWhole rfl rfl rfl (by rfl) sz23 pickX (by first | (simp [Value.oneCell']; done) | (simp [setAt, Value.oneCell']; done)) (by rfl)) rfl ?_
 rintro _ _ rfl
 refine RL.nil ?_
 refine SG.seq ?_
 have hok := labOf_ok n k
 have htl := text_len (l := labOf n k)
 have htn : 0 < (textV (labOf n k)).length := List.length_pos_iff.2 (text_ne hok)
 refine SG.region ?_
 refine RL.val (Wanted.free rfl) (V.loadAgg (us := [vI (labOf n k).num, vI (labOf n k).suf]) rfl ag23 rfl pickX rfl rfl) rfl ?_
 refine RL.eff (Wanted.free rfl) (E.call rfl go16 rfl (lText_ok (l := (labOf n k)) memX)) rfl ?_
 rintro _ _ ⟨rfl, rfl⟩
 refine RL.eff (Wanted.free rfl) (E.sToBytes rfl us9 el42 ui5 rfl (by omega)) rfl ?_
 rintro _ _ ⟨a19, c19, rfl, rfl⟩
 refine RL.val (Wanted.free rfl) (V.assign rfl rfl) rfl ?_
 refine RL.nil ?_
 refine SG.seq ?_
 refine SG.seq ?_
 refine SG.region ?_
 refine RL.val (Wanted.free rfl) (V.move rfl rfl) rfl ?_
 refine RL.val (Wanted.free rfl) (V.len rfl rfl el42.under rfl) rfl ?_
 refine RL.cmpF (Wanted.free rfl) (V.bin rfl rfl rfl B.eql) rfl (by omega) ?_
 refine RL.nil ?_
 refine SG.cond_false rfl ?_
 refine SG.skip ?_
 refine SG.seq ?_
 refine SG.region ?_
 refine RL.val (Wanted.free rfl) (V.move rfl rfl) rfl ?_
 refine RL.val (Wanted.free rfl) (V.move rfl rfl) rfl ?_
 refine RL.val (Wanted.free rfl) (V.len rfl rfl el42.under rfl) rfl ?_
 refine RL.val (Wanted.free rfl) (V.bin rfl rfl rfl (B.addI (by omega) (by omega))) rfl ?_
 refine RL.eff (Wanted.free rfl) (E.call rfl go25 rfl (around_ok _ _ ha.1 ha.2 (by omega))) rfl ?_
 rintro _ _ ⟨rfl, rfl⟩
 refine RL.val (Wanted.free rfl) (V.assign rfl rfl) rfl ?_
 refine RL.nil ?_
 refine SG.seq ?_
 obtain ⟨q, hq, hq2⟩ := aroundV_nat (n := at_) (most := ((textV (labOf n k)).length : Int) + 1) (by omega)
 rw [hq]
 have hc1 : ([c] : List UInt8).length = 1 := rfl
 refine SG.region ?_
 refine RL.val (Wanted.free rfl) (V.move rfl rfl) rfl ?_
 refine RL.val (Wanted.free rfl) (V.move rfl rfl) rfl ?_
 refine RL.eff (Wanted.free rfl) (E.lit1 _ rfl el42.slice ze5 rfl (by decide) (by decide) rfl rfl rfl) rfl ?_
 rintro _ _ ⟨b21, rfl, rfl⟩
 refine RL.eff (Wanted.free rfl) (E.append (T := R8) rfl rfl rfl el42 el42.noInt rfl rfl pickX (Src.lit (x := c) pickX trivial) (by first | omega | (simp; omega)) (by first | omega | (simp; omega))) rfl ?_
 intro _ _ hK22
 try rw [List.nil_append] at hK22
 try rw [Nat.zero_add] at hK22
 obtain ⟨a31, c31, rfl, rfl⟩ := hK22
 refine RL.val (Wanted.free rfl) (V.assign rfl rfl) rfl ?_
 refine RL.nil ?_
 refine SG.seq ?_
 refine SG.seq ?_
 refine SG.join2 (ι := List UInt8 × Tri) (fun ⟨w, wa, wn, wc⟩ => [(9, ptr b9 0), (10, .slice wa wn wc)]) (fun ⟨w, wa, wn, wc⟩ => Sl R8 wa wn wc w :: Blk b9 23 [vI (labOf n k).num, vI (labOf n k).suf] :: L) (fun ⟨w, wa, wn, wc⟩ => True) ?_ (fun rest => ?_)
 ·
  rintro ⟨w, wa, wn, wc⟩ _
  try dsimp only
  refine SG.seq ?_
  refine SG.region ?_
  refine RL.val (Wanted.free rfl) (V.move rfl rfl) rfl ?_
  refine RL.val (Wanted.free rfl) (V.bytesToS rfl el42.under ui5 us9 rfl memX) rfl ?_
  refine RL.eff (Wanted.free rfl) (E.call rfl go20 rfl (lParse_ok (s := w))) rfl ?_
  rintro _ _ ⟨rfl, rfl⟩
  refine RL.val (Wanted.free rfl) (V.move rfl rfl) rfl ?_
  refine RL.val (Wanted.free rfl) (V.extract rfl rfl rfl) rfl ?_
  refine RL.val (Wanted.free rfl) (V.extract rfl rfl rfl) rfl ?_
  refine RL.eff (Wanted.free rfl) (E.alloc rfl ze23) rfl ?_
  rintro _ _ ⟨b12, rfl, rfl⟩
  refine RL.eff (Wanted.free rfl) (E.storeWhole rfl rfl rfl (by rfl) sz23 pickX (by first | (simp [Value.oneCell']; done) | (simp [setAt, Value.oneCell']; done)) (by rfl)) rfl ?_
  rintro _ _ rfl
  refine RL.val (Wanted.free rfl) (V.assign rfl rfl) rfl ?_
  refine RL.nil ?_
  refine SG.seq ?_
  refine SG.seq ?_
  refine SG.region ?_
  refine RL.val (Wanted.free rfl) (V.move rfl rfl) rfl ?_
  refine RL.cmp (Wanted.free rfl) (V.bin rfl rfl rfl B.neq) rfl (fun h34 => ?_) (fun h34 => ?_)
  ·
   obtain ⟨hpz, hpe⟩ : (parseV 7 5 w).1 = zL ∧ ((parseV 7 5 w).2 = 7 ∨ (parseV 7 5 w).2 = 5) := by rcases parse_bad (eF := 7) (eR := 5) w with h | h; (· exact absurd h h34); (· exact h)
   refine RL.nil ?_
   refine SG.cond_true rfl ?_
   refine SG.seq ?_
   refine SG.region ?_
   refine RL.val (Wanted.free rfl) (V.loadAgg (us := [vI (parseV 7 5 w).1.num, vI (parseV 7 5 w).1.suf]) rfl ag23 rfl pickX rfl rfl) rfl ?_
   refine RL.val (Wanted.free rfl) (V.buildS [] rfl bs23 (by exact trivial) rfl) rfl ?_
   refine RL.cmpT (Wanted.free rfl) (V.eqlLab (s := (parseV 7 5 w).1) (s' := zL) rfl rfl rfl) rfl hpz ?_
   refine RL.val (Wanted.free rfl) (V.move rfl rfl) rfl ?_
   refine RL.val (Wanted.yes rfl rfl rfl rfl) (V.move rfl rfl) rfl ?_
   refine RL.cmp (Wanted.yes rfl rfl rfl rfl) (V.bin rfl rfl rfl B.eql) rfl (fun h39 => ?_) (fun h39 => ?_)
   ·
    refine RL.val (Wanted.yes rfl rfl rfl rfl) (V.move rfl rfl) rfl ?_
    refine RL.skip (Wanted.no rfl rfl rfl rfl rfl) rfl ?_
    refine RL.skip (Wanted.no rfl rfl rfl rfl rfl) rfl ?_
    refine RL.val (Wanted.yes rfl rfl rfl rfl) (V.pick_true rfl rfl rfl) rfl ?_
    refine RL.val (Wanted.free rfl) (V.pick_true rfl rfl rfl) rfl ?_
    refine RL.val (Wanted.free rfl) (V.move rfl rfl) rfl ?_
    refine RL.eff (Wanted.yes rfl rfl rfl rfl) (E.call rfl go18 rfl (lives_ok memX)) rfl ?_
    rintro _ _ ⟨rfl, rfl⟩
    refine RL.val (Wanted.free rfl) (V.pick_true rfl rfl rfl) rfl ?_
    refine RL.val (Wanted.free rfl) (V.assign rfl rfl) rfl ?_
    refine RL.nil ?_
    refine SG.retE (Ret.r1 Tryd.func10 rfl (.tmp rfl)) ?_ ⟨rfl, rfl⟩
    exact entX
   ·
    refine RL.val (Wanted.yes rfl rfl rfl rfl) (V.move rfl rfl) rfl ?_
    refine RL.val (Wanted.yes rfl rfl rfl rfl) (V.move rfl rfl) rfl ?_
    refine RL.cmpT (Wanted.yes rfl rfl rfl rfl) (V.bin rfl rfl rfl B.eql) rfl (by omega) ?_
    refine RL.val (Wanted.yes rfl rfl rfl rfl) (V.pick_false rfl rfl rfl) rfl ?_
    refine RL.val (Wanted.free rfl) (V.pick_true rfl rfl rfl) rfl ?_
    refine RL.val (Wanted.free rfl) (V.move rfl rfl) rfl ?_
    refine RL.eff (Wanted.yes rfl rfl rfl rfl) (E.call rfl go18 rfl (lives_ok memX)) rfl ?_
    rintro _ _ ⟨rfl, rfl⟩
    refine RL.val (Wanted.free rfl) (V.pick_true rfl rfl rfl) rfl ?_
    refine RL.val (Wanted.free rfl) (V.assign rfl rfl) rfl ?_
    refine RL.nil ?_
    refine SG.retE (Ret.r1 Tryd.func10 rfl (.tmp rfl)) ?_ ⟨rfl, rfl⟩
    exact entX
  ·
   obtain ⟨hpk, hpt⟩ := text_parse (eF := 7) (eR := 5) (s := w) (by decide) (by decide) (Decidable.byContradiction fun e => h34 e)
   refine RL.nil ?_
   refine SG.cond_false rfl ?_
   refine SG.skip ?_
   refine SG.seq ?_
   refine SG.drawL 20 20 wide rfl rfl ?_
   refine RH.val 0 rfl krX krX krX krX (Wanted.free rfl) (V.loadAgg (us := [vI (parseV 7 5 w).1.num, vI (parseV 7 5 w).1.suf]) rfl ag23 rfl pickX rfl rfl) rfl ?_
   refine RH.val 2 rfl krX krX krX krX (Wanted.free rfl) (V.move rfl rfl) rfl ?_
   refine RH.val 3 rfl krX krX krX krX (Wanted.free rfl) (V.bytesToS rfl el42.under ui5 us9 rfl memX) rfl ?_
   refine RH.one (i := 1) krX ?_
   refine RHone.eff rfl (Wanted.free rfl) (E.call rfl go16 rfl (lText_ok (l := (parseV 7 5 w).1) memX)) rfl ?_
   rintro _ _ ⟨rfl, rfl⟩
   refine ⟨.inr entX, ?_⟩
   rw [hpt]
   refine RH.cmpT 4 rfl krX krX krX krX (Wanted.free rfl) (V.bin rfl rfl rfl B.eqlS) rfl rfl ?_
   refine RH.val 5 rfl krX krX krX krX (Wanted.free rfl) (V.move rfl rfl) rfl ?_
   refine RH.val 6 rfl krX krX krX krX (Wanted.yes rfl rfl rfl rfl) (V.loadAgg (us := [vI (parseV 7 5 w).1.num, vI (parseV 7 5 w).1.suf]) rfl ag23 rfl pickX rfl rfl) rfl ?_
   refine RH.val 7 rfl krX krX krX krX (Wanted.yes rfl rfl rfl rfl) (V.loadAgg (us := [vI (labOf n k).num, vI (labOf n k).suf]) rfl ag23 rfl pickX rfl rfl) rfl ?_
   refine RH.cmp 8 rfl krX krX krX krX (Wanted.yes rfl rfl rfl rfl) (V.eqlLab (s := (parseV 7 5 w).1) (s' := (labOf n k)) rfl rfl rfl) rfl (fun h56 => ?_) (fun h56 => ?_)
   ·
    have hpa : (parseV 7 5 w).1 = labOf n k := h56
    refine RH.val 9 rfl krX krX krX krX (Wanted.yes rfl rfl rfl rfl) (V.move rfl rfl) rfl ?_
    refine RH.val 10 rfl krX krX krX krX (Wanted.yes rfl rfl rfl rfl) (V.bytesToS rfl el42.under ui5 us9 rfl memX) rfl ?_
    refine RH.val 11 rfl krX krX krX krX (Wanted.yes rfl rfl rfl rfl) (V.loadAgg (us := [vI (labOf n k).num, vI (labOf n k).suf]) rfl ag23 rfl pickX rfl rfl) rfl ?_
    refine RH.one (i := 12) krX ?_
    refine RHone.eff rfl (Wanted.yes rfl rfl rfl rfl) (E.call rfl go16 rfl (lText_ok (l := (labOf n k)) memX)) rfl ?_
    rintro _ _ ⟨rfl, rfl⟩
    refine ⟨.inr entX, ?_⟩
    refine RH.cmpT 13 rfl krX krX krX krX (Wanted.yes rfl rfl rfl rfl) (V.bin rfl rfl rfl B.eqlS) rfl (by rw [← hpt, hpa]) ?_
    refine RH.cmpT 14 rfl krX krX krX krX (Wanted.yes rfl rfl rfl rfl) (V.eqlBool rfl ub4 rfl rfl) rfl rfl ?_
    refine RH.pure 15 rfl krX krX krX krX (Wanted.free rfl) (V.pick_true rfl rfl rfl) rfl ?_
    refine RH.val 16 rfl krX krX krX krX (Wanted.free rfl) (V.move rfl rfl) rfl ?_
    refine RH.one (i := 17) krX ?_
    refine RHone.eff rfl (Wanted.yes rfl rfl rfl rfl) (E.call rfl go18 rfl (lives_ok memX)) rfl ?_
    rintro _ _ ⟨rfl, rfl⟩
    refine ⟨.inr entX, ?_⟩
    refine RH.pure 18 rfl krX krX krX krX (Wanted.free rfl) (V.pick_true rfl rfl rfl) rfl ?_
    refine RH.val 19 rfl krX krX krX krX (Wanted.free rfl) (V.assign rfl rfl) rfl ?_
    refine RH.done krX ?_
    refine SG.retE (Ret.r1 Tryd.func10 rfl (.tmp rfl)) ?_ ⟨rfl, rfl⟩
    exact entX
   ·
    have hpa : ¬ (parseV 7 5 w).1 = labOf n k := h56
    refine RH.val 9 rfl krX krX krX krX (Wanted.yes rfl rfl rfl rfl) (V.move rfl rfl) rfl ?_
    refine RH.val 10 rfl krX krX krX krX (Wanted.yes rfl rfl rfl rfl) (V.bytesToS rfl el42.under ui5 us9 rfl memX) rfl ?_
    refine RH.val 11 rfl krX krX krX krX (Wanted.yes rfl rfl rfl rfl) (V.loadAgg (us := [vI (labOf n k).num, vI (labOf n k).suf]) rfl ag23 rfl pickX rfl rfl) rfl ?_
    refine RH.one (i := 12) krX ?_
    refine RHone.eff rfl (Wanted.yes rfl rfl rfl rfl) (E.call rfl go16 rfl (lText_ok (l := (labOf n k)) memX)) rfl ?_
    rintro _ _ ⟨rfl, rfl⟩
    refine ⟨.inr entX, ?_⟩
    refine RH.cmpF 13 rfl krX krX krX krX (Wanted.yes rfl rfl rfl rfl) (V.bin rfl rfl rfl B.eqlS) rfl (fun e => hpa (text_inj hpk hok (hpt.trans e))) ?_
    refine RH.cmpT 14 rfl krX krX krX krX (Wanted.yes rfl rfl rfl rfl) (V.eqlBool rfl ub4 rfl rfl) rfl rfl ?_
    refine RH.pure 15 rfl krX krX krX krX (Wanted.free rfl) (V.pick_true rfl rfl rfl) rfl ?_
    refine RH.val 16 rfl krX krX krX krX (Wanted.free rfl) (V.move rfl rfl) rfl ?_
    refine RH.one (i := 17) krX ?_
    refine RHone.eff rfl (Wanted.yes rfl rfl rfl rfl) (E.call rfl go18 rfl (lives_ok memX)) rfl ?_
    rintro _ _ ⟨rfl, rfl⟩
    refine ⟨.inr entX, ?_⟩
    refine RH.pure 18 rfl krX krX krX krX (Wanted.free rfl) (V.pick_true rfl rfl rfl) rfl ?_
    refine RH.val 19 rfl krX krX krX krX (Wanted.free rfl) (V.assign rfl rfl) rfl ?_
    refine RH.done krX ?_
    refine SG.retE (Ret.r1 Tryd.func10 rfl (.tmp rfl)) ?_ ⟨rfl, rfl⟩
    exact entX
 ·
  refine SG.region ?_
  refine RL.val (Wanted.free rfl) (V.move rfl rfl) rfl ?_
  refine RL.val (Wanted.free rfl) (V.move rfl rfl) rfl ?_
  refine RL.val (Wanted.free rfl) (V.len rfl rfl el42.under rfl) rfl ?_
  refine RL.val (Wanted.free rfl) (V.bin rfl rfl rfl (B.subI (by omega) (by omega))) rfl ?_
  refine RL.cmp (Wanted.free rfl) (V.bin rfl rfl rfl B.lss) rfl (fun h75 => ?_) (fun h75 => ?_)
  ·
   refine RL.nil ?_
   refine SG.cond_true rfl ?_
   refine SG.seq ?_
   refine SG.region ?_
   refine RL.val (Wanted.free rfl) (V.move rfl rfl) rfl ?_
   refine RL.val (Wanted.free rfl) (V.move rfl rfl) rfl ?_
   refine RL.val (Wanted.free rfl) (V.move rfl rfl) rfl ?_
   refine RL.val (Wanted.free rfl) (V.indexBuf (j := q) rfl el42.slice rfl rfl pickX (by first | rfl | omega) (by simp; omega)) rfl ?_
   refine RL.eff (Wanted.free rfl) (E.storeBuf [v8 c] rfl sz5 rfl rfl rfl pickX (by simp; omega) (fun _ _ _ => ⟨rfl, trivial⟩)) rfl ?_
   rintro _ _ rfl
   refine RL.nil ?_
   refine SG.publish (T := R8) (a := a31) pickX ?_
   refine SG.sl (T := R8) (a := a31) memX fun h31 h31c _ => ?_
   refine SG.region ?_
   refine RL.val (Wanted.free rfl) (V.move rfl rfl) rfl ?_
   refine RL.val (Wanted.free rfl) (V.move rfl rfl) rfl ?_
   refine RL.val (Wanted.free rfl) (V.len rfl rfl el42.under rfl) rfl ?_
   refine RL.val (Wanted.free rfl) (V.bin rfl rfl rfl (B.subI (by omega) (by omega))) rfl ?_
   refine RL.eff (Wanted.free rfl) (E.slice (hi := (textV (labOf n k)).length) rfl el42.slice rfl memX rfl ⟨_, _, rfl, (by first | rfl | omega)⟩ (by omega) (by omega)) rfl ?_
   intro _ _ hK85
   try rw [List.drop_zero] at hK85
   iterate 2 (try rw [Nat.sub_zero] at hK85)
   rw [set_take (by omega)] at hK85
   obtain ⟨a45, rfl, rfl⟩ := hK85
   refine RL.val (Wanted.free rfl) (V.assign rfl rfl) rfl ?_
   refine RL.nil ?_
   try refine SG.publish (T := R8) (a := a31) pickX ?_
   refine SG.weaken (rest ⟨(textV (labOf n k)).set q c, a45, (textV (labOf n k)).length, c31⟩ trivial) ?_ ?_
   ·
    repeat (first | exact EnvLe.nil _ | refine EnvLe.cons rfl ?_)
   ·
    try dsimp only
    exact entX
  ·
   refine RL.nil ?_
   refine SG.cond_false rfl ?_
   refine SG.skip ?_
   try refine SG.publish (T := R8) (a := a31) pickX ?_
   refine SG.weaken (rest ⟨(textV (labOf n k)) ++ [c], a31, (textV (labOf n k)).length + 1, c31⟩ trivial) ?_ ?_
   ·
    repeat (first | exact EnvLe.nil _ | refine EnvLe.cons rfl ?_)
   ·
    try dsimp only
    exact entX

end Go.Proofs.YteopejoppdgncaaDoor
