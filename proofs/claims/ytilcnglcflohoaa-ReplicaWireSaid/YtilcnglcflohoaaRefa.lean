/- The reference: what is small. -/
import Derived.Test.YtilcnglcflohoaaSlotEq
namespace Go.Proofs.Ytilcnglcflohoaa
open Go.Wk Go.Rp

set_option maxRecDepth 100000 in
theorem rNew_ok {κ : World} {L : List Assn} {i n : Int} :
    Ctr Try.prog 13 #[vI i, vI n] κ L (fun v M => v = .tuple #[.agg (pv (newV i n).1 (.slice none 0 0) (.slice none 0 0) (.slice none 0 0)).toArray, vI (newV i n).2] ∧ M = L) := by
 refine Ctr.enter (vs := [vI i, vI n]) (m := 25) Try.func13 rfl rfl rfl ?_
 refine SG.seq ?_
 refine SG.region ?_
 refine RL.eff (Wanted.free rfl) (E.alloc rfl ze26) rfl ?_
 rintro _ _ ⟨b4, rfl, rfl⟩
 refine RL.val (Wanted.free rfl) (V.assign rfl rfl) rfl ?_
 refine RL.nil ?_
 refine SG.seq ?_
 refine SG.seq ?_
 refine SG.region ?_
 refine RL.val (Wanted.free rfl) (V.move rfl rfl) rfl ?_
 refine RL.cmp (Wanted.free rfl) (V.bin rfl rfl rfl B.lss) rfl (fun h4 => ?_) (fun h4 => ?_)
 ·
  refine RL.val (Wanted.free rfl) (V.move rfl rfl) rfl ?_
  refine RL.skip (Wanted.no rfl rfl rfl rfl rfl) rfl ?_
  refine RL.skip (Wanted.no rfl rfl rfl rfl rfl) rfl ?_
  refine RL.val (Wanted.free rfl) (V.pick_true rfl rfl rfl) rfl ?_
  refine RL.val (Wanted.free rfl) (V.move rfl rfl) rfl ?_
  refine RL.skip (Wanted.no rfl rfl rfl rfl rfl) rfl ?_
  refine RL.skip (Wanted.no rfl rfl rfl rfl rfl) rfl ?_
  refine RL.val (Wanted.free rfl) (V.pick_true rfl rfl rfl) rfl ?_
  refine RL.val (Wanted.free rfl) (V.move rfl rfl) rfl ?_
  refine RL.skip (Wanted.no rfl rfl rfl rfl rfl) rfl ?_
  refine RL.skip (Wanted.no rfl rfl rfl rfl rfl) rfl ?_
  refine RL.skip (Wanted.no rfl rfl rfl rfl rfl) rfl ?_
  refine RL.val (Wanted.free rfl) (V.pick_true rfl rfl rfl) rfl ?_
  refine RL.nil ?_
  refine SG.cond_true rfl ?_
  refine SG.seq ?_
  refine SG.region ?_
  refine RL.val (Wanted.free rfl) (V.buildS [] rfl bs26 (by exact trivial) rfl) rfl ?_
  refine RL.eff (Wanted.free rfl) (E.storeWhole rfl rfl rfl (by rfl) sz26 pickX (by first | (simp [Value.oneCell']; done) | (simp [setAt, Value.oneCell']; done)) (by rfl)) rfl ?_
  rintro _ _ rfl
  refine RL.val (Wanted.free rfl) (V.assign rfl rfl) rfl ?_
  refine RL.nil ?_
  refine SG.retE (Ret.r2 Try.func13 rfl (.agg rfl ag26 pickX rfl rfl) (.tmp rfl)) ?_ ⟨by first | (rw [newV, if_pos (by omega)]; rfl) | (rw [newV, if_neg (by omega)]; rfl), rfl⟩
  exact entX
 ·
  refine RL.val (Wanted.free rfl) (V.move rfl rfl) rfl ?_
  refine RL.val (Wanted.yes rfl rfl rfl rfl) (V.move rfl rfl) rfl ?_
  refine RL.cmp (Wanted.yes rfl rfl rfl rfl) (V.bin rfl rfl rfl B.gtr) rfl (fun h13 => ?_) (fun h13 => ?_)
  ·
   refine RL.val (Wanted.free rfl) (V.pick_false rfl rfl rfl) rfl ?_
   refine RL.val (Wanted.free rfl) (V.move rfl rfl) rfl ?_
   refine RL.skip (Wanted.no rfl rfl rfl rfl rfl) rfl ?_
   refine RL.skip (Wanted.no rfl rfl rfl rfl rfl) rfl ?_
   refine RL.val (Wanted.free rfl) (V.pick_true rfl rfl rfl) rfl ?_
   refine RL.val (Wanted.free rfl) (V.move rfl rfl) rfl ?_
   refine RL.skip (Wanted.no rfl rfl rfl rfl rfl) rfl ?_
   refine RL.skip (Wanted.no rfl rfl rfl rfl rfl) rfl ?_
   refine RL.skip (Wanted.no rfl rfl rfl rfl rfl) rfl ?_
   refine RL.val (Wanted.free rfl) (V.pick_true rfl rfl rfl) rfl ?_
   refine RL.nil ?_
   refine SG.cond_true rfl ?_
   refine SG.seq ?_
   refine SG.region ?_
   refine RL.val (Wanted.free rfl) (V.buildS [] rfl bs26 (by exact trivial) rfl) rfl ?_
   refine RL.eff (Wanted.free rfl) (E.storeWhole rfl rfl rfl (by rfl) sz26 pickX (by first | (simp [Value.oneCell']; done) | (simp [setAt, Value.oneCell']; done)) (by rfl)) rfl ?_
   rintro _ _ rfl
   refine RL.val (Wanted.free rfl) (V.assign rfl rfl) rfl ?_
   refine RL.nil ?_
   refine SG.retE (Ret.r2 Try.func13 rfl (.agg rfl ag26 pickX rfl rfl) (.tmp rfl)) ?_ ⟨by first | (rw [newV, if_pos (by omega)]; rfl) | (rw [newV, if_neg (by omega)]; rfl), rfl⟩
   exact entX
  ·
   refine RL.val (Wanted.free rfl) (V.pick_false rfl rfl rfl) rfl ?_
   refine RL.val (Wanted.free rfl) (V.move rfl rfl) rfl ?_
   refine RL.val (Wanted.yes rfl rfl rfl rfl) (V.move rfl rfl) rfl ?_
   refine RL.cmp (Wanted.yes rfl rfl rfl rfl) (V.bin rfl rfl rfl B.lss) rfl (fun h21 => ?_) (fun h21 => ?_)
   ·
    refine RL.val (Wanted.free rfl) (V.pick_false rfl rfl rfl) rfl ?_
    refine RL.val (Wanted.free rfl) (V.move rfl rfl) rfl ?_
    refine RL.skip (Wanted.no rfl rfl rfl rfl rfl) rfl ?_
    refine RL.skip (Wanted.no rfl rfl rfl rfl rfl) rfl ?_
    refine RL.skip (Wanted.no rfl rfl rfl rfl rfl) rfl ?_
    refine RL.val (Wanted.free rfl) (V.pick_true rfl rfl rfl) rfl ?_
    refine RL.nil ?_
    refine SG.cond_true rfl ?_
    refine SG.seq ?_
    refine SG.region ?_
    refine RL.val (Wanted.free rfl) (V.buildS [] rfl bs26 (by exact trivial) rfl) rfl ?_
    refine RL.eff (Wanted.free rfl) (E.storeWhole rfl rfl rfl (by rfl) sz26 pickX (by first | (simp [Value.oneCell']; done) | (simp [setAt, Value.oneCell']; done)) (by rfl)) rfl ?_
    rintro _ _ rfl
    refine RL.val (Wanted.free rfl) (V.assign rfl rfl) rfl ?_
    refine RL.nil ?_
    refine SG.retE (Ret.r2 Try.func13 rfl (.agg rfl ag26 pickX rfl rfl) (.tmp rfl)) ?_ ⟨by first | (rw [newV, if_pos (by omega)]; rfl) | (rw [newV, if_neg (by omega)]; rfl), rfl⟩
    exact entX
   ·
    refine RL.val (Wanted.free rfl) (V.pick_false rfl rfl rfl) rfl ?_
    refine RL.val (Wanted.free rfl) (V.move rfl rfl) rfl ?_
    refine RL.val (Wanted.yes rfl rfl rfl rfl) (V.move rfl rfl) rfl ?_
    refine RL.val (Wanted.yes rfl rfl rfl rfl) (V.move rfl rfl) rfl ?_
    refine RL.cmp (Wanted.yes rfl rfl rfl rfl) (V.bin rfl rfl rfl B.geq) rfl (fun h29 => ?_) (fun h29 => ?_)
    ·
     refine RL.val (Wanted.free rfl) (V.pick_false rfl rfl rfl) rfl ?_
     refine RL.nil ?_
     refine SG.cond_true rfl ?_
     refine SG.seq ?_
     refine SG.region ?_
     refine RL.val (Wanted.free rfl) (V.buildS [] rfl bs26 (by exact trivial) rfl) rfl ?_
     refine RL.eff (Wanted.free rfl) (E.storeWhole rfl rfl rfl (by rfl) sz26 pickX (by first | (simp [Value.oneCell']; done) | (simp [setAt, Value.oneCell']; done)) (by rfl)) rfl ?_
     rintro _ _ rfl
     refine RL.val (Wanted.free rfl) (V.assign rfl rfl) rfl ?_
     refine RL.nil ?_
     refine SG.retE (Ret.r2 Try.func13 rfl (.agg rfl ag26 pickX rfl rfl) (.tmp rfl)) ?_ ⟨by first | (rw [newV, if_pos (by omega)]; rfl) | (rw [newV, if_neg (by omega)]; rfl), rfl⟩
     exact entX
    ·
     refine RL.val (Wanted.free rfl) (V.pick_false rfl rfl rfl) rfl ?_
     refine RL.nil ?_
     refine SG.cond_false rfl ?_
     refine SG.skip ?_
     refine SG.seq ?_
     refine SG.region ?_
     refine RL.val (Wanted.free rfl) (V.move rfl rfl) rfl ?_
     refine RL.val (Wanted.free rfl) (V.move rfl rfl) rfl ?_
     refine RL.val (Wanted.free rfl) (V.buildS [(0, _), (1, _), (3, _)] rfl bs26 (by exact ⟨rfl, ⟨_, rfl, rfl⟩, ⟨rfl, ⟨_, rfl, rfl⟩, ⟨rfl, ⟨_, rfl, rfl⟩, trivial⟩⟩⟩) rfl) rfl ?_
     refine RL.eff (Wanted.free rfl) (E.storeWhole rfl rfl rfl (by rfl) sz26 pickX (by first | (simp [Value.oneCell']; done) | (simp [setAt, Value.oneCell']; done)) (by rfl)) rfl ?_
     rintro _ _ rfl
     refine RL.val (Wanted.free rfl) (V.assign rfl rfl) rfl ?_
     refine RL.nil ?_
     refine SG.retE (Ret.r2 Try.func13 rfl (.agg rfl ag26 pickX rfl rfl) (.tmp rfl)) ?_ ⟨by first | (rw [newV, if_pos (by omega)]; rfl) | (rw [newV, if_neg (by omega)]; rfl), rfl⟩
     exact entX

set_option maxRecDepth 100000 in
theorem rRestart_ok {κ : World} {L : List Assn} {us : List Value} {p : Peer} (hm : Rd RPeer us p ∈ L) :
    Ctr Try.prog 24 #[.agg us.toArray] κ L (fun v M => ∃ us', v = .agg us'.toArray ∧ M = Rd RPeer us' (restart p) :: L) := by
 refine Ctr.enter (vs := [.agg us.toArray]) (m := 8) Try.func24 rfl rfl rfl ?_
 refine SG.openPeer (Pick.rd hm) fun ka kn kc wa wn wc xa xn xc hus => ?_
 subst hus
 refine SG.ent (Sl.nil (T := RB)) ?_
 refine SG.ent (Sl.nil (T := RI)) ?_
 refine SG.seq ?_
 refine SG.region ?_
 refine RL.eff (Wanted.free rfl) (E.box _ rfl rfl rfl) rfl ?_
 rintro _ _ ⟨b1, rfl, rfl⟩
 refine RL.eff (Wanted.free rfl) (E.alloc rfl ze26) rfl ?_
 rintro _ _ ⟨b2, rfl, rfl⟩
 refine RL.nil ?_
 refine SG.seq ?_
 refine SG.region ?_
 refine RL.val (Wanted.free rfl) (V.fieldAddr rfl rfl fo26_4) rfl ?_
 refine RL.eff (Wanted.free rfl) (E.store1 rfl rfl rfl rfl rfl sz3 pickX rfl) rfl ?_
 rintro _ _ rfl
 refine RL.nil ?_
 refine SG.seq ?_
 refine SG.region ?_
 refine RL.val (Wanted.free rfl) (V.fieldAddr rfl rfl fo26_5) rfl ?_
 refine RL.eff (Wanted.free rfl) (E.store1 rfl rfl rfl rfl rfl sz3 pickX rfl) rfl ?_
 rintro _ _ rfl
 refine RL.nil ?_
 refine SG.seq ?_
 refine SG.region ?_
 refine RL.val (Wanted.free rfl) (V.fieldAddr rfl rfl fo26_7) rfl ?_
 refine RL.eff (Wanted.free rfl) (E.store1 rfl rfl rfl rfl rfl sz24 pickX rfl) rfl ?_
 rintro _ _ rfl
 refine RL.nil ?_
 refine SG.seq ?_
 refine SG.region ?_
 refine RL.val (Wanted.free rfl) (V.fieldAddr rfl rfl fo26_8) rfl ?_
 refine RL.eff (Wanted.free rfl) (E.store1 rfl rfl rfl rfl rfl sz22 pickX rfl) rfl ?_
 rintro _ _ rfl
 refine RL.nil ?_
 refine SG.seq ?_
 refine SG.region ?_
 refine RL.val (Wanted.free rfl) (V.loadAgg (us := pv (restart p) (.slice ka kn kc) (.slice none 0 0) (.slice none 0 0)) rfl ag26 rfl pickX rfl rfl) rfl ?_
 refine RL.eff (Wanted.free rfl) (E.storeWhole rfl rfl rfl (by rfl) sz26 pickX pv_one (by rfl)) rfl ?_
 rintro _ _ rfl
 refine RL.nil ?_
 refine SG.ent (RPeer.mk (p := restart p) (la := ka) (ln := kn) (lc := kc) (va := none) (vn := 0) (vc := 0) (ma := none) (mn := 0) (mc := 0) memX memX memX) ?_
 refine SG.retE (Ret.r1 Try.func24 rfl (.agg rfl ag26 pickX rfl rfl)) ?_ ⟨_, rfl, rfl⟩
 exact entX

set_option maxRecDepth 100000 in
theorem rterm_ok {κ : World} {L : List Assn} {a : Option Addr} {n c : Nat} {l : List Slot} (hm : Sl RSlot a n c l ∈ L) {i : Int} (h0 : 0 ≤ i) (h1 : i ≤ l.length) :
    Ctr Try.prog 62 #[.slice a n c, vI i] κ L (fun v M => v = vI (termAt l i) ∧ M = L) := by
 refine Ctr.enter (vs := [.slice a n c, vI i]) (m := 19) Try.func62 rfl rfl rfl ?_
 refine SG.sl hm fun hn _ _ => ?_
 refine SG.seq ?_
 refine SG.region ?_
 refine RL.val (Wanted.free rfl) (V.assign rfl rfl) rfl ?_
 refine RL.nil ?_
 refine SG.seq ?_
 refine SG.seq ?_
 refine SG.region ?_
 refine RL.val (Wanted.free rfl) (V.move rfl rfl) rfl ?_
 refine RL.cmp (Wanted.free rfl) (V.bin rfl rfl rfl B.lss) rfl (fun h3 => ?_) (fun h3 => ?_)
 ·
  refine RL.val (Wanted.free rfl) (V.move rfl rfl) rfl ?_
  refine RL.skip (Wanted.no rfl rfl rfl rfl rfl) rfl ?_
  refine RL.skip (Wanted.no rfl rfl rfl rfl rfl) rfl ?_
  refine RL.skip (Wanted.no rfl rfl rfl rfl rfl) rfl ?_
  refine RL.skip (Wanted.no rfl rfl rfl rfl rfl) rfl ?_
  refine RL.val (Wanted.free rfl) (V.pick_true rfl rfl rfl) rfl ?_
  refine RL.nil ?_
  refine SG.cond_true rfl ?_
  refine SG.seq ?_
  refine SG.region ?_
  refine RL.val (Wanted.free rfl) (V.assign rfl rfl) rfl ?_
  refine RL.nil ?_
  refine SG.retE (Ret.r1 Try.func62 rfl (.tmp rfl)) ?_ ⟨by rw [show i = 0 from by omega]; rfl, rfl⟩
  exact entX
 ·
  refine RL.val (Wanted.free rfl) (V.move rfl rfl) rfl ?_
  refine RL.val (Wanted.yes rfl rfl rfl rfl) (V.move rfl rfl) rfl ?_
  refine RL.val (Wanted.yes rfl rfl rfl rfl) (V.move rfl rfl) rfl ?_
  refine RL.val (Wanted.yes rfl rfl rfl rfl) (V.len rfl rfl el23.under rfl) rfl ?_
  refine RL.cmpF (Wanted.yes rfl rfl rfl rfl) (V.bin rfl rfl rfl B.gtr) rfl (by omega) ?_
  refine RL.val (Wanted.free rfl) (V.pick_false rfl rfl rfl) rfl ?_
  refine RL.nil ?_
  refine SG.cond_false rfl ?_
  refine SG.skip ?_
  refine SG.seq ?_
  obtain ⟨k, hk⟩ := Int.eq_ofNat_of_zero_le (show 0 ≤ i - 1 by omega)
  refine SG.elemDt (a := a) hm (show l[k]? = some (l[k]'(by omega)) from List.getElem?_eq_getElem (by omega)) fun _ => ?_
  refine SG.region ?_
  refine RL.val (Wanted.free rfl) (V.move rfl rfl) rfl ?_
  refine RL.val (Wanted.free rfl) (V.move rfl rfl) rfl ?_
  refine RL.val (Wanted.free rfl) (V.bin rfl rfl rfl (B.subI (by omega) (by omega))) rfl ?_
  refine RL.val (Wanted.free rfl) (V.indexSl (j := k) rfl el23.slice rfl rfl memX (by first | rfl | omega) (by omega)) rfl ?_
  refine RL.val (Wanted.free rfl) (V.fieldAt rfl rfl fo53_0 memX) rfl ?_
  refine RL.val (Wanted.free rfl) (V.loadAtF rfl on3 rfl memX rfl) rfl ?_
  refine RL.val (Wanted.free rfl) (V.assign rfl rfl) rfl ?_
  refine RL.nil ?_
  refine SG.retE (Ret.r1 Try.func62 rfl (.tmp rfl)) ?_ ⟨by rw [termAt_get (k := k) (by omega) (by omega) (by omega)], rfl⟩
  exact entX

set_option maxRecDepth 100000 in
theorem rcopied_ok {κ : World} {L : List Assn} {a : Option Addr} {n c : Nat} {l : List Slot} (hm : Sl RSlot a n c l ∈ L) (hb : l.length ≤ 1000000) :
    Ctr Try.prog 65 #[.slice a n c] κ L (fun v M => ∃ a' c', v = .slice a' l.length c' ∧ M = Buf RSlot 53 a' l.length c' l :: L) := by
 refine Ctr.enter (vs := [.slice a n c]) (m := 7) Try.func65 rfl rfl rfl ?_
 refine SG.sl hm fun hn _ _ => ?_
 subst hn
 refine SG.ent (Buf.nil (T := RSlot) (e := 53)) ?_
 refine SG.seq ?_
 refine SG.region ?_
 refine RL.val (Wanted.free rfl) (V.assign rfl rfl) rfl ?_
 refine RL.nil ?_
 refine SG.seq ?_
 refine SG.region ?_
 refine RL.val (Wanted.free rfl) (V.assign rfl rfl) rfl ?_
 refine RL.nil ?_
 refine SG.seq ?_
 refine SG.region ?_
 refine RL.val (Wanted.free rfl) (V.move rfl rfl) rfl ?_
 refine RL.val (Wanted.free rfl) (V.move rfl rfl) rfl ?_
 refine RL.eff (Wanted.free rfl) (E.append (T := RSlot) rfl rfl rfl el23 el23.noInt rfl rfl pickX (Src.sl (by decide) memX) (by first | omega | (simp; omega)) (by first | omega | (simp; omega))) rfl ?_
 intro _ _ hK5
 try rw [List.nil_append] at hK5
 try rw [Nat.zero_add] at hK5
 obtain ⟨a6, c6, rfl, rfl⟩ := hK5
 refine RL.val (Wanted.free rfl) (V.assign rfl rfl) rfl ?_
 refine RL.nil ?_
 refine SG.retE (Ret.r1 Try.func65 rfl (.tmp rfl)) ?_ ⟨a6, c6, rfl, rfl⟩
 exact entX

theorem flag_step (_ : Nat) (j : Int) (i : Nat) : (List.range (i + 1)).map (fun k : Nat => decide ((k : Int) = j)) = (List.range i).map (fun k : Nat => decide ((k : Int) = j)) ++ [decide ((i : Int) = j)] := by
  rw [List.range_succ, List.map_append]; rfl
theorem flag_all {n : Nat} {j : Int} (h0 : 0 ≤ j) : (List.range n).map (fun k : Nat => decide ((k : Int) = j)) = (List.replicate n false).set j.toNat true := by
  apply List.ext_getElem?
  intro i
  rw [List.getElem?_map, List.getElem?_set]
  by_cases hi : i < n
  · rw [List.getElem?_range hi]
    by_cases e : j.toNat = i
    · rw [if_pos e, if_pos (by simp; omega)]
      simp; omega
    · rw [if_neg e, List.getElem?_replicate, if_pos hi]
      simp; omega
  · rw [List.getElem?_eq_none (by simpa using hi)]
    by_cases e : j.toNat = i
    · rw [if_pos e, if_neg (by simp; omega)]; rfl
    · rw [if_neg e, List.getElem?_replicate, if_neg hi]; rfl
theorem lead_step (x j : Int) (i : Nat) : (List.range (i + 1)).map (fun k : Nat => if (k : Int) = j then x else 0) = (List.range i).map (fun k : Nat => if (k : Int) = j then x else 0) ++ [if (i : Int) = j then x else 0] := by
  rw [List.range_succ, List.map_append]; rfl
theorem lead_all {n : Nat} {j x : Int} (h0 : 0 ≤ j) : (List.range n).map (fun k : Nat => if (k : Int) = j then x else 0) = (List.replicate n 0).set j.toNat x := by
  apply List.ext_getElem?
  intro i
  rw [List.getElem?_map, List.getElem?_set]
  by_cases hi : i < n
  · rw [List.getElem?_range hi]
    by_cases e : j.toNat = i
    · rw [if_pos e, if_pos (by simp; omega)]
      simp; omega
    · rw [if_neg e, List.getElem?_replicate, if_pos hi]
      simp; omega
  · rw [List.getElem?_eq_none (by simpa using hi)]
    by_cases e : j.toNat = i
    · rw [if_pos e, if_neg (by simp; omega)]; rfl
    · rw [if_neg e, List.getElem?_replicate, if_neg hi]; rfl
set_option maxRecDepth 100000 in
theorem flags_ok {κ : World} {L : List Assn} {n : Nat} {n1 j : Int} (hn1 : n1 = n) (hn : n ≤ 1000) (h0 : 0 ≤ j) (_ : j ≤ 1000000) :
    Ctr Try.prog 61 #[vI n1, vI j] κ L (fun v M => ∃ a c, v = .slice a n c ∧ M = Buf RB 4 a n c ((List.replicate n false).set j.toNat true) :: L) := by
 refine Ctr.enter (vs := [vI n1, vI j]) (m := 19) Try.func61 rfl rfl rfl ?_
 subst hn1
 refine SG.ent (Buf.nil (T := RB) (e := 4)) ?_
 refine SG.seq ?_
 refine SG.region ?_
 refine RL.val (Wanted.free rfl) (V.assign rfl rfl) rfl ?_
 refine RL.nil ?_
 refine SG.seq ?_
 refine SG.region ?_
 refine RL.val (Wanted.free rfl) (V.assign rfl rfl) rfl ?_
 refine RL.nil ?_
 refine SG.seq ?_
 refine SG.seq ?_
 refine SG.region ?_
 refine RL.val (Wanted.free rfl) (V.assign rfl rfl) rfl ?_
 refine RL.nil ?_
 refine SG.block ?_
 refine SG.weaken (SG.loop2 (fun m al M => ∃ (i : Nat) (a5 : Option Addr) (c5 : Nat), i ≤ n ∧ m = n - i ∧ al = [(0, vI n), (1, vI j), (4, .slice none 0 0), (5, .slice a5 i c5), (6, vI i)] ∧ M = Buf RB 4 a5 i c5 ((List.range i).map fun k : Nat => decide ((k : Int) = j)) :: L) (m0 := _) ⟨0, none, 0, by omega, rfl, rfl, rfl⟩ ?_) ?_ ?_
 rotate_left
 ·
  repeat (first | exact EnvLe.nil _ | refine EnvLe.cons rfl ?_)
 ·
  exact entX
 rintro _ _ _ ⟨i, a5, c5, hi, rfl, rfl, rfl⟩ ih0
 refine SG.seq ?_
 refine SG.seq ?_
 refine SG.region ?_
 refine RL.val (Wanted.free rfl) (V.move rfl rfl) rfl ?_
 refine RL.val (Wanted.free rfl) (V.move rfl rfl) rfl ?_
 refine RL.cmp (Wanted.free rfl) (V.bin rfl rfl rfl B.lss) rfl (fun h6 => ?_) (fun h6 => ?_)
 ·
  refine RL.nil ?_
  refine SG.cond_true rfl ?_
  refine SG.skip ?_
  refine SG.seq ?_
  refine SG.block ?_
  refine SG.region ?_
  refine RL.val (Wanted.free rfl) (V.move rfl rfl) rfl ?_
  refine RL.val (Wanted.free rfl) (V.move rfl rfl) rfl ?_
  refine RL.val (Wanted.free rfl) (V.move rfl rfl) rfl ?_
  refine RL.val (Wanted.free rfl) (V.bin rfl rfl rfl B.eql) rfl ?_
  refine RL.eff (Wanted.free rfl) (E.lit1 [vB (decide ((i : Int) = j))] rfl el24.slice ze4 rfl (by decide) (by decide) rfl rfl rfl) rfl ?_
  rintro _ _ ⟨b16, rfl, rfl⟩
  refine RL.eff (Wanted.free rfl) (E.append (T := RB) rfl rfl rfl el24 el24.noInt rfl rfl pickX (Src.lit (x := decide ((i : Int) = j)) pickX (by first | trivial | assumption | omega)) (by first | omega | (simp; omega)) (by first | omega | (simp; omega))) rfl ?_
  intro _ _ hK12
  try rw [List.nil_append] at hK12
  try rw [Nat.zero_add] at hK12
  rw [← flag_step n j] at hK12
  obtain ⟨a17, c17, rfl, rfl⟩ := hK12
  refine RL.val (Wanted.free rfl) (V.assign rfl rfl) rfl ?_
  refine RL.nil ?_
  refine SG.inBlock ?_
  refine SG.region ?_
  refine RL.val (Wanted.free rfl) (V.move rfl rfl) rfl ?_
  refine RL.val (Wanted.free rfl) (V.bin rfl rfl rfl (B.addI (by omega) (by omega))) rfl ?_
  refine RL.val (Wanted.free rfl) (V.assign rfl rfl) rfl ?_
  refine RL.nil ?_
  refine SG.weaken (ih0 _ _ _ ?_ ⟨i + 1, a17, c17, by omega, rfl, rfl, rfl⟩) ?_ ?_
  ·
   omega
  ·
   repeat (first | exact EnvLe.nil _ | refine EnvLe.cons rfl ?_)
  ·
   exact entX
 ·
  refine RL.nil ?_
  refine SG.cond_false rfl ?_
  refine SG.exit rfl ?_
  refine SG.seq ?_
  obtain rfl : i = n := by omega
  rw [flag_all h0]
  refine SG.region ?_
  refine RL.val (Wanted.free rfl) (V.move rfl rfl) rfl ?_
  refine RL.val (Wanted.free rfl) (V.assign rfl rfl) rfl ?_
  refine RL.nil ?_
  refine SG.retE (Ret.r1 Try.func61 rfl (.tmp rfl)) ?_ ⟨_, _, rfl, rfl⟩
  exact entX

set_option maxRecDepth 100000 in
set_option maxHeartbeats 1000000 in
theorem rlead_ok {κ : World} {L : List Assn} {us : List Value} {p : Peer} (hm : Rd RPeer us p ∈ L) (h1 : 0 ≤ p.nodes) (h2 : p.nodes ≤ 1000) (h3 : 0 ≤ p.id) (h4 : p.log.length ≤ 1000000) :
    Ctr Try.prog 63 #[.agg us.toArray] κ L (fun v M => ∃ us', v = .agg us'.toArray ∧ M = Rd RPeer us' (leadP p) :: L) := by
 refine Ctr.enter (vs := [.agg us.toArray]) (m := 28) Try.func63 rfl rfl rfl ?_
 refine SG.openPeer (Pick.rd hm) fun ka kn kc wa wn wc xa xn xc hus => ?_
 subst hus
 refine SG.sl (T := RSlot) (a := ka) memX fun hkn _ _ => ?_
 subst hkn
 refine SG.ent (Sl.nil (T := RB)) ?_
 refine SG.ent (Buf.nil (T := RI) (e := 3)) ?_
 refine SG.seq ?_
 refine SG.region ?_
 refine RL.eff (Wanted.free rfl) (E.box _ rfl rfl rfl) rfl ?_
 rintro _ _ ⟨b1, rfl, rfl⟩
 refine RL.eff (Wanted.free rfl) (E.alloc rfl ze26) rfl ?_
 rintro _ _ ⟨b2, rfl, rfl⟩
 refine RL.nil ?_
 refine SG.seq ?_
 refine SG.region ?_
 refine RL.val (Wanted.free rfl) (V.fieldAddr rfl rfl fo26_4) rfl ?_
 refine RL.eff (Wanted.free rfl) (E.store1 rfl rfl rfl rfl rfl sz3 pickX rfl) rfl ?_
 rintro _ _ rfl
 refine RL.nil ?_
 refine SG.seq ?_
 refine SG.region ?_
 refine RL.val (Wanted.free rfl) (V.fieldAddr rfl rfl fo26_7) rfl ?_
 refine RL.eff (Wanted.free rfl) (E.store1 rfl rfl rfl rfl rfl sz24 pickX rfl) rfl ?_
 rintro _ _ rfl
 refine RL.nil ?_
 refine SG.seq ?_
 refine SG.region ?_
 refine RL.val (Wanted.free rfl) (V.fieldAddr rfl rfl fo26_8) rfl ?_
 refine RL.eff (Wanted.free rfl) (E.store1 rfl rfl rfl rfl rfl sz22 pickX rfl) rfl ?_
 rintro _ _ rfl
 refine RL.nil ?_
 refine SG.seq ?_
 refine SG.seq ?_
 refine SG.region ?_
 refine RL.val (Wanted.free rfl) (V.assign rfl rfl) rfl ?_
 refine RL.nil ?_
 refine SG.block ?_
 refine SG.weaken (SG.loop2 (fun m al M => ∃ (i : Nat) (a5 : Option Addr) (c5 : Nat), i ≤ p.nodes.toNat ∧ m = p.nodes.toNat - i ∧ al = [(1, ptr b1 0), (2, ptr b2 0), (3, vI i)] ∧ M = Blk b1 26 [vI p.id, vI p.nodes, vI p.term, vI p.voted, vI 2, vI p.commit, .slice ka p.log.length kc, .slice none 0 0, .slice a5 i c5] :: Buf RI 3 a5 i c5 ((List.range i).map fun k : Nat => if (k : Int) = p.id then (p.log.length : Int) else 0) :: Sl RB none 0 0 ([] : List Bool) :: Sl RSlot ka p.log.length kc p.log :: Blk b2 26 [.int .i64 0, .int .i64 0, .int .i64 0, .int .i64 0, .int .i64 0, .int .i64 0, .slice none 0 0, .slice none 0 0, .slice none 0 0] :: L) (m0 := _) ⟨0, none, 0, by omega, rfl, rfl, rfl⟩ ?_) ?_ ?_
 rotate_left
 ·
  repeat (first | exact EnvLe.nil _ | refine EnvLe.cons rfl ?_)
 ·
  exact entX
 rintro _ _ _ ⟨i, a5, c5, hi, rfl, rfl, rfl⟩ ih0
 refine SG.seq ?_
 refine SG.seq ?_
 refine SG.region ?_
 refine RL.val (Wanted.free rfl) (V.move rfl rfl) rfl ?_
 refine RL.val (Wanted.free rfl) (V.fieldAddr rfl rfl fo26_1) rfl ?_
 refine RL.val (Wanted.free rfl) (V.load rfl on3 rfl pickX rfl) rfl ?_
 refine RL.cmp (Wanted.free rfl) (V.bin rfl rfl rfl B.lss) rfl (fun h13 => ?_) (fun h13 => ?_)
 ·
  refine RL.nil ?_
  refine SG.cond_true rfl ?_
  refine SG.skip ?_
  refine SG.seq ?_
  refine SG.block ?_
  refine SG.seq ?_
  refine SG.region ?_
  refine RL.val (Wanted.free rfl) (V.assign rfl rfl) rfl ?_
  refine RL.nil ?_
  refine SG.seq ?_
  refine SG.seq ?_
  have hlx : (if (i : Int) = p.id then (p.log.length : Int) else 0) ≤ 1000000 ∧ 0 ≤ (if (i : Int) = p.id then (p.log.length : Int) else 0) := by split <;> omega
  refine SG.region ?_
  refine RL.val (Wanted.free rfl) (V.move rfl rfl) rfl ?_
  refine RL.val (Wanted.free rfl) (V.fieldAddr rfl rfl fo26_0) rfl ?_
  refine RL.val (Wanted.free rfl) (V.load rfl on3 rfl pickX rfl) rfl ?_
  refine RL.cmp (Wanted.free rfl) (V.bin rfl rfl rfl B.eql) rfl (fun h18 => ?_) (fun h18 => ?_)
  ·
   refine RL.nil ?_
   refine SG.cond_true rfl ?_
   refine SG.region ?_
   refine RL.val (Wanted.free rfl) (V.fieldAddr rfl rfl fo26_6) rfl ?_
   refine RL.val (Wanted.free rfl) (V.load rfl on23 rfl pickX rfl) rfl ?_
   refine RL.val (Wanted.free rfl) (V.len rfl rfl el23.under rfl) rfl ?_
   refine RL.val (Wanted.free rfl) (V.assign rfl rfl) rfl ?_
   refine RL.nil ?_
   refine SG.region ?_
   refine RL.val (Wanted.free rfl) (V.fieldAddr rfl rfl fo26_8) rfl ?_
   refine RL.val (Wanted.free rfl) (V.load rfl on22 rfl pickX rfl) rfl ?_
   refine RL.val (Wanted.free rfl) (V.move rfl rfl) rfl ?_
   refine RL.eff (Wanted.free rfl) (E.lit1 [vI (p.log.length : Int)] rfl el22.slice ze3 rfl (by decide) (by decide) rfl rfl rfl) rfl ?_
   rintro _ _ ⟨b24, rfl, rfl⟩
   refine RL.eff (Wanted.free rfl) (E.append (T := RI) rfl rfl rfl el22 el22.noInt rfl rfl pickX (Src.lit (x := (p.log.length : Int)) pickX (by unfold inInt; omega)) (by first | omega | (simp; omega)) (by first | omega | (simp; omega))) rfl ?_
   intro _ _ hK27
   try rw [List.nil_append] at hK27
   try rw [Nat.zero_add] at hK27
   obtain ⟨a25, c25, rfl, rfl⟩ := hK27
   refine RL.val (Wanted.free rfl) (V.fieldAddr rfl rfl fo26_8) rfl ?_
   refine RL.eff (Wanted.free rfl) (E.store1 rfl rfl rfl rfl rfl sz22 pickX rfl) rfl ?_
   rintro _ _ rfl
   refine RL.nil ?_
   refine SG.inBlock ?_
   refine SG.region ?_
   refine RL.val (Wanted.free rfl) (V.move rfl rfl) rfl ?_
   refine RL.val (Wanted.free rfl) (V.bin rfl rfl rfl (B.addI (by omega) (by omega))) rfl ?_
   refine RL.val (Wanted.free rfl) (V.assign rfl rfl) rfl ?_
   refine RL.nil ?_
   have hst := lead_step (p.log.length : Int) p.id i
   rw [if_pos (by omega)] at hst
   refine SG.weaken (ih0 _ _ _ ?_ ⟨i + 1, a25, c25, by omega, rfl, rfl, rfl⟩) ?_ ?_
   ·
    omega
   ·
    repeat (first | exact EnvLe.nil _ | refine EnvLe.cons rfl ?_)
   ·
    rw [hst]
    exact entX
  ·
   refine RL.nil ?_
   refine SG.cond_false rfl ?_
   refine SG.skip ?_
   refine SG.region ?_
   refine RL.val (Wanted.free rfl) (V.fieldAddr rfl rfl fo26_8) rfl ?_
   refine RL.val (Wanted.free rfl) (V.load rfl on22 rfl pickX rfl) rfl ?_
   refine RL.val (Wanted.free rfl) (V.move rfl rfl) rfl ?_
   refine RL.eff (Wanted.free rfl) (E.lit1 [vI 0] rfl el22.slice ze3 rfl (by decide) (by decide) rfl rfl rfl) rfl ?_
   rintro _ _ ⟨b24, rfl, rfl⟩
   refine RL.eff (Wanted.free rfl) (E.append (T := RI) rfl rfl rfl el22 el22.noInt rfl rfl pickX (Src.lit (x := (0 : Int)) pickX (by unfold inInt; omega)) (by first | omega | (simp; omega)) (by first | omega | (simp; omega))) rfl ?_
   intro _ _ hK37
   try rw [List.nil_append] at hK37
   try rw [Nat.zero_add] at hK37
   obtain ⟨a25, c25, rfl, rfl⟩ := hK37
   refine RL.val (Wanted.free rfl) (V.fieldAddr rfl rfl fo26_8) rfl ?_
   refine RL.eff (Wanted.free rfl) (E.store1 rfl rfl rfl rfl rfl sz22 pickX rfl) rfl ?_
   rintro _ _ rfl
   refine RL.nil ?_
   refine SG.inBlock ?_
   refine SG.region ?_
   refine RL.val (Wanted.free rfl) (V.move rfl rfl) rfl ?_
   refine RL.val (Wanted.free rfl) (V.bin rfl rfl rfl (B.addI (by omega) (by omega))) rfl ?_
   refine RL.val (Wanted.free rfl) (V.assign rfl rfl) rfl ?_
   refine RL.nil ?_
   have hst := lead_step (p.log.length : Int) p.id i
   rw [if_neg (by omega)] at hst
   refine SG.weaken (ih0 _ _ _ ?_ ⟨i + 1, a25, c25, by omega, rfl, rfl, rfl⟩) ?_ ?_
   ·
    omega
   ·
    repeat (first | exact EnvLe.nil _ | refine EnvLe.cons rfl ?_)
   ·
    rw [hst]
    exact entX
 ·
  refine RL.nil ?_
  refine SG.cond_false rfl ?_
  refine SG.exit rfl ?_
  refine SG.seq ?_
  obtain rfl : i = p.nodes.toNat := by omega
  rw [lead_all h3]
  refine SG.publish (T := RI) (a := a5) pickX ?_
  refine SG.region ?_
  refine RL.val (Wanted.free rfl) (V.loadAgg (us := pv (leadP p) (.slice ka p.log.length kc) (.slice none 0 0) (.slice a5 p.nodes.toNat c5)) rfl ag26 rfl pickX rfl rfl) rfl ?_
  refine RL.eff (Wanted.free rfl) (E.storeWhole rfl rfl rfl (by rfl) sz26 pickX pv_one (by rfl)) rfl ?_
  rintro _ _ rfl
  refine RL.nil ?_
  refine SG.ent (RPeer.mk (p := leadP p) (la := ka) (ln := p.log.length) (lc := kc) (va := none) (vn := 0) (vc := 0) (ma := a5) (mn := p.nodes.toNat) (mc := c5) memX memX memX) ?_
  refine SG.retE (Ret.r1 Try.func63 rfl (.agg rfl ag26 pickX rfl rfl)) ?_ ⟨_, rfl, rfl⟩
  exact entX

set_option maxRecDepth 100000 in
theorem sameSlots_ok {κ : World} {L : List Assn} {a b : Option Addr} {n n' c c' : Nat} {l l' : List Slot} (hm : Sl RSlot a n c l ∈ L) (hm' : Sl RSlot b n' c' l' ∈ L) (he : l = l') :
    Ctr Try.prog 51 #[.slice a n c, .slice b n' c'] κ L (fun v M => v = vB true ∧ M = L) := by
 refine Ctr.enter (vs := [.slice a n c, .slice b n' c']) (m := 26) Try.func51 rfl rfl rfl ?_
 subst he
 refine SG.sl hm fun hn _ _ => ?_
 refine SG.sl hm' fun hn' _ _ => ?_
 obtain rfl : n = n' := by omega
 refine SG.seq ?_
 refine SG.region ?_
 refine RL.val (Wanted.free rfl) (V.assign rfl rfl) rfl ?_
 refine RL.nil ?_
 refine SG.seq ?_
 refine SG.seq ?_
 refine SG.region ?_
 refine RL.val (Wanted.free rfl) (V.move rfl rfl) rfl ?_
 refine RL.val (Wanted.free rfl) (V.len rfl rfl el23.under rfl) rfl ?_
 refine RL.val (Wanted.free rfl) (V.move rfl rfl) rfl ?_
 refine RL.val (Wanted.free rfl) (V.len rfl rfl el23.under rfl) rfl ?_
 refine RL.cmpF (Wanted.free rfl) (V.bin rfl rfl rfl B.neq) rfl (by omega) ?_
 refine RL.nil ?_
 refine SG.cond_false rfl ?_
 refine SG.skip ?_
 refine SG.seq ?_
 refine SG.seq ?_
 refine SG.region ?_
 refine RL.val (Wanted.free rfl) (V.assign rfl rfl) rfl ?_
 refine RL.nil ?_
 refine SG.block ?_
 refine SG.weaken (SG.loop2 (fun m al M => ∃ i : Nat, i ≤ n ∧ m = n - i ∧ al = [(0, .slice a n c), (1, .slice b n c'), (4, vB false), (5, vI i)] ∧ M = L) (m0 := _) ⟨0, by omega, rfl, rfl, rfl⟩ ?_) ?_ ?_
 rotate_left
 ·
  repeat (first | exact EnvLe.nil _ | refine EnvLe.cons rfl ?_)
 ·
  exact entX
 rintro _ _ _ ⟨i, hi, rfl, rfl, hM⟩ ih0
 subst hM
 refine SG.seq ?_
 refine SG.seq ?_
 refine SG.region ?_
 refine RL.val (Wanted.free rfl) (V.move rfl rfl) rfl ?_
 refine RL.val (Wanted.free rfl) (V.move rfl rfl) rfl ?_
 refine RL.val (Wanted.free rfl) (V.len rfl rfl el23.under rfl) rfl ?_
 refine RL.cmp (Wanted.free rfl) (V.bin rfl rfl rfl B.lss) rfl (fun h10 => ?_) (fun h10 => ?_)
 ·
  refine RL.nil ?_
  refine SG.cond_true rfl ?_
  refine SG.skip ?_
  refine SG.seq ?_
  refine SG.block ?_
  refine SG.seq ?_
  have hil : i < l.length := by omega
  refine SG.drawL 9 9 wide rfl rfl ?_
  refine RH.val 0 rfl krX krX krX krX (Wanted.free rfl) (V.move rfl rfl) rfl ?_
  refine RH.val 1 rfl krX krX krX krX (Wanted.free rfl) (V.move rfl rfl) rfl ?_
  refine RH.val 2 rfl krX krX krX krX (Wanted.free rfl) (V.indexSl (T := RSlot) (a := a) (l := l) (j := i) rfl el23.slice rfl rfl memX rfl hil) rfl ?_
  refine RH.val 3 rfl krX krX krX krX (Wanted.free rfl) (V.loadSlDt (l := l) (y := l[i]'hil) (j := i) rfl ag53 rfl (show Sl RSlot a n c l ∈ _ from memX) (List.getElem?_eq_getElem hil)) rfl ?_
  refine RH.val 4 rfl krX krX krX krX (Wanted.free rfl) (V.move rfl rfl) rfl ?_
  refine RH.val 5 rfl krX krX krX krX (Wanted.free rfl) (V.move rfl rfl) rfl ?_
  refine RH.val 6 rfl krX krX krX krX (Wanted.free rfl) (V.indexSl (T := RSlot) (a := b) (l := l) (j := i) rfl el23.slice rfl rfl memX rfl hil) rfl ?_
  refine RH.val 7 rfl krX krX krX krX (Wanted.free rfl) (V.loadSlDt (l := l) (y := l[i]'hil) (j := i) rfl ag53 rfl (show Sl RSlot b n c' l ∈ _ from memX) (List.getElem?_eq_getElem hil)) rfl ?_
  refine RH.cmpF 8 rfl krX krX krX krX (Wanted.free rfl) (V.neqSlot rfl rfl rfl) rfl (fun h => h rfl) ?_
  refine RH.done krX ?_
  refine SG.cond_false rfl ?_
  refine SG.skip ?_
  refine SG.inBlock ?_
  refine SG.region ?_
  refine RL.val (Wanted.free rfl) (V.move rfl rfl) rfl ?_
  refine RL.val (Wanted.free rfl) (V.bin rfl rfl rfl (B.addI (by omega) (by omega))) rfl ?_
  refine RL.val (Wanted.free rfl) (V.assign rfl rfl) rfl ?_
  refine RL.nil ?_
  refine SG.weaken (ih0 _ _ _ ?_ ⟨i + 1, by omega, rfl, rfl, rfl⟩) ?_ ?_
  ·
   omega
  ·
   repeat (first | exact EnvLe.nil _ | refine EnvLe.cons rfl ?_)
  ·
   exact entX
 ·
  refine RL.nil ?_
  refine SG.cond_false rfl ?_
  refine SG.exit rfl ?_
  refine SG.seq ?_
  refine SG.region ?_
  refine RL.val (Wanted.free rfl) (V.assign rfl rfl) rfl ?_
  refine RL.nil ?_
  refine SG.retE (Ret.r1 Try.func51 rfl (.tmp rfl)) ?_ ⟨rfl, rfl⟩
  exact entX

set_option maxRecDepth 100000 in
theorem sameInts_ok {κ : World} {L : List Assn} {a b : Option Addr} {n n' c c' : Nat} {l l' : List Int} (hm : Sl RI a n c l ∈ L) (hm' : Sl RI b n' c' l' ∈ L) (he : l = l') :
    Ctr Try.prog 52 #[.slice a n c, .slice b n' c'] κ L (fun v M => v = vB true ∧ M = L) := by
 refine Ctr.enter (vs := [.slice a n c, .slice b n' c']) (m := 26) Try.func52 rfl rfl rfl ?_
 subst he
 refine SG.sl hm fun hn _ _ => ?_
 refine SG.sl hm' fun hn' _ _ => ?_
 obtain rfl : n = n' := by omega
 refine SG.seq ?_
 refine SG.region ?_
 refine RL.val (Wanted.free rfl) (V.assign rfl rfl) rfl ?_
 refine RL.nil ?_
 refine SG.seq ?_
 refine SG.seq ?_
 refine SG.region ?_
 refine RL.val (Wanted.free rfl) (V.move rfl rfl) rfl ?_
 refine RL.val (Wanted.free rfl) (V.len rfl rfl el22.under rfl) rfl ?_
 refine RL.val (Wanted.free rfl) (V.move rfl rfl) rfl ?_
 refine RL.val (Wanted.free rfl) (V.len rfl rfl el22.under rfl) rfl ?_
 refine RL.cmpF (Wanted.free rfl) (V.bin rfl rfl rfl B.neq) rfl (by omega) ?_
 refine RL.nil ?_
 refine SG.cond_false rfl ?_
 refine SG.skip ?_
 refine SG.seq ?_
 refine SG.seq ?_
 refine SG.region ?_
 refine RL.val (Wanted.free rfl) (V.assign rfl rfl) rfl ?_
 refine RL.nil ?_
 refine SG.block ?_
 refine SG.weaken (SG.loop2 (fun m al M => ∃ i : Nat, i ≤ n ∧ m = n - i ∧ al = [(0, .slice a n c), (1, .slice b n c'), (4, vB false), (5, vI i)] ∧ M = L) (m0 := _) ⟨0, by omega, rfl, rfl, rfl⟩ ?_) ?_ ?_
 rotate_left
 ·
  repeat (first | exact EnvLe.nil _ | refine EnvLe.cons rfl ?_)
 ·
  exact entX
 rintro _ _ _ ⟨i, hi, rfl, rfl, hM⟩ ih0
 subst hM
 refine SG.seq ?_
 refine SG.seq ?_
 refine SG.region ?_
 refine RL.val (Wanted.free rfl) (V.move rfl rfl) rfl ?_
 refine RL.val (Wanted.free rfl) (V.move rfl rfl) rfl ?_
 refine RL.val (Wanted.free rfl) (V.len rfl rfl el22.under rfl) rfl ?_
 refine RL.cmp (Wanted.free rfl) (V.bin rfl rfl rfl B.lss) rfl (fun h10 => ?_) (fun h10 => ?_)
 ·
  refine RL.nil ?_
  refine SG.cond_true rfl ?_
  refine SG.skip ?_
  refine SG.seq ?_
  refine SG.block ?_
  refine SG.seq ?_
  have hil : i < l.length := by omega
  refine SG.drawL 9 9 wide rfl rfl ?_
  refine RH.val 0 rfl krX krX krX krX (Wanted.free rfl) (V.move rfl rfl) rfl ?_
  refine RH.val 1 rfl krX krX krX krX (Wanted.free rfl) (V.move rfl rfl) rfl ?_
  refine RH.val 2 rfl krX krX krX krX (Wanted.free rfl) (V.indexSl (T := RI) (a := a) (l := l) (j := i) rfl el22.slice rfl rfl memX rfl hil) rfl ?_
  refine RH.val 3 rfl krX krX krX krX (Wanted.free rfl) (V.loadSc (l := l) (y := l[i]'hil) (j := i) rfl on3 rfl (show Sl RI a n c l ∈ _ from memX) (List.getElem?_eq_getElem hil)) rfl ?_
  refine RH.val 4 rfl krX krX krX krX (Wanted.free rfl) (V.move rfl rfl) rfl ?_
  refine RH.val 5 rfl krX krX krX krX (Wanted.free rfl) (V.move rfl rfl) rfl ?_
  refine RH.val 6 rfl krX krX krX krX (Wanted.free rfl) (V.indexSl (T := RI) (a := b) (l := l) (j := i) rfl el22.slice rfl rfl memX rfl hil) rfl ?_
  refine RH.val 7 rfl krX krX krX krX (Wanted.free rfl) (V.loadSc (l := l) (y := l[i]'hil) (j := i) rfl on3 rfl (show Sl RI b n c' l ∈ _ from memX) (List.getElem?_eq_getElem hil)) rfl ?_
  refine RH.cmpF 8 rfl krX krX krX krX (Wanted.free rfl) (V.bin rfl rfl rfl B.neq) rfl (fun h => h rfl) ?_
  refine RH.done krX ?_
  refine SG.cond_false rfl ?_
  refine SG.skip ?_
  refine SG.inBlock ?_
  refine SG.region ?_
  refine RL.val (Wanted.free rfl) (V.move rfl rfl) rfl ?_
  refine RL.val (Wanted.free rfl) (V.bin rfl rfl rfl (B.addI (by omega) (by omega))) rfl ?_
  refine RL.val (Wanted.free rfl) (V.assign rfl rfl) rfl ?_
  refine RL.nil ?_
  refine SG.weaken (ih0 _ _ _ ?_ ⟨i + 1, by omega, rfl, rfl, rfl⟩) ?_ ?_
  ·
   omega
  ·
   repeat (first | exact EnvLe.nil _ | refine EnvLe.cons rfl ?_)
  ·
   exact entX
 ·
  refine RL.nil ?_
  refine SG.cond_false rfl ?_
  refine SG.exit rfl ?_
  refine SG.seq ?_
  refine SG.region ?_
  refine RL.val (Wanted.free rfl) (V.assign rfl rfl) rfl ?_
  refine RL.nil ?_
  refine SG.retE (Ret.r1 Try.func52 rfl (.tmp rfl)) ?_ ⟨rfl, rfl⟩
  exact entX

set_option maxRecDepth 100000 in
set_option maxHeartbeats 1000000 in
theorem same_ok {κ : World} {L : List Assn} {us us' : List Value} {p p' : Peer} (hm : Rd RPeer us p ∈ L) (hm' : Rd RPeer us' p' ∈ L) (he : p = p') :
    Ctr Try.prog 14 #[.agg us.toArray, .agg us'.toArray] κ L (fun v M => v = vB true ∧ M = L) := by
 refine Ctr.enter (vs := [.agg us.toArray, .agg us'.toArray]) (m := 85) Try.func14 rfl rfl rfl ?_
 subst he
 refine SG.openPeer (Pick.rd hm) fun ka kn kc wa wn wc xa xn xc hus => ?_
 subst hus
 refine SG.openPeer (us := us') (p := p) (Pick.rd memX) fun kb km kd wb wm wd xb xm xd hus' => ?_
 subst hus'
 refine SG.sl (T := RSlot) (a := ka) (l := p.log) memX fun e1 _ _ => ?_
 refine SG.sl (T := RSlot) (a := kb) (l := p.log) memX fun e2 _ _ => ?_
 obtain rfl : kn = km := by omega
 refine SG.sl (T := RB) (a := wa) (l := p.votes) memX fun e3 _ _ => ?_
 refine SG.sl (T := RB) (a := wb) (l := p.votes) memX fun e4 _ _ => ?_
 obtain rfl : wn = wm := by omega
 refine SG.sl (T := RI) (a := xa) (l := p.mtch) memX fun e5 _ _ => ?_
 refine SG.sl (T := RI) (a := xb) (l := p.mtch) memX fun e6 _ _ => ?_
 obtain rfl : xn = xm := by omega
 refine SG.seq ?_
 refine SG.region ?_
 refine RL.eff (Wanted.free rfl) (E.box _ rfl rfl rfl) rfl ?_
 rintro _ _ ⟨b2, rfl, rfl⟩
 refine RL.eff (Wanted.free rfl) (E.box _ rfl rfl rfl) rfl ?_
 rintro _ _ ⟨b3, rfl, rfl⟩
 refine RL.val (Wanted.free rfl) (V.assign rfl rfl) rfl ?_
 refine RL.nil ?_
 refine SG.seq ?_
 refine SG.seq ?_
 refine SG.region ?_
 refine RL.val (Wanted.free rfl) (V.fieldAddr rfl rfl fo26_0) rfl ?_
 refine RL.val (Wanted.free rfl) (V.load rfl on3 rfl pickX rfl) rfl ?_
 refine RL.val (Wanted.free rfl) (V.fieldAddr rfl rfl fo26_0) rfl ?_
 refine RL.val (Wanted.free rfl) (V.load rfl on3 rfl pickX rfl) rfl ?_
 refine RL.cmpF (Wanted.free rfl) (V.bin rfl rfl rfl B.neq) rfl (fun h => h rfl) ?_
 refine RL.val (Wanted.free rfl) (V.move rfl rfl) rfl ?_
 refine RL.val (Wanted.yes rfl rfl rfl rfl) (V.fieldAddr rfl rfl fo26_1) rfl ?_
 refine RL.val (Wanted.yes rfl rfl rfl rfl) (V.load rfl on3 rfl pickX rfl) rfl ?_
 refine RL.val (Wanted.yes rfl rfl rfl rfl) (V.fieldAddr rfl rfl fo26_1) rfl ?_
 refine RL.val (Wanted.yes rfl rfl rfl rfl) (V.load rfl on3 rfl pickX rfl) rfl ?_
 refine RL.cmpF (Wanted.yes rfl rfl rfl rfl) (V.bin rfl rfl rfl B.neq) rfl (fun h => h rfl) ?_
 refine RL.val (Wanted.free rfl) (V.pick_false rfl rfl rfl) rfl ?_
 refine RL.val (Wanted.free rfl) (V.move rfl rfl) rfl ?_
 refine RL.val (Wanted.yes rfl rfl rfl rfl) (V.fieldAddr rfl rfl fo26_2) rfl ?_
 refine RL.val (Wanted.yes rfl rfl rfl rfl) (V.load rfl on3 rfl pickX rfl) rfl ?_
 refine RL.val (Wanted.yes rfl rfl rfl rfl) (V.fieldAddr rfl rfl fo26_2) rfl ?_
 refine RL.val (Wanted.yes rfl rfl rfl rfl) (V.load rfl on3 rfl pickX rfl) rfl ?_
 refine RL.cmpF (Wanted.yes rfl rfl rfl rfl) (V.bin rfl rfl rfl B.neq) rfl (fun h => h rfl) ?_
 refine RL.val (Wanted.free rfl) (V.pick_false rfl rfl rfl) rfl ?_
 refine RL.val (Wanted.free rfl) (V.move rfl rfl) rfl ?_
 refine RL.val (Wanted.yes rfl rfl rfl rfl) (V.fieldAddr rfl rfl fo26_3) rfl ?_
 refine RL.val (Wanted.yes rfl rfl rfl rfl) (V.load rfl on3 rfl pickX rfl) rfl ?_
 refine RL.val (Wanted.yes rfl rfl rfl rfl) (V.fieldAddr rfl rfl fo26_3) rfl ?_
 refine RL.val (Wanted.yes rfl rfl rfl rfl) (V.load rfl on3 rfl pickX rfl) rfl ?_
 refine RL.cmpF (Wanted.yes rfl rfl rfl rfl) (V.bin rfl rfl rfl B.neq) rfl (fun h => h rfl) ?_
 refine RL.val (Wanted.free rfl) (V.pick_false rfl rfl rfl) rfl ?_
 refine RL.val (Wanted.free rfl) (V.move rfl rfl) rfl ?_
 refine RL.val (Wanted.yes rfl rfl rfl rfl) (V.fieldAddr rfl rfl fo26_4) rfl ?_
 refine RL.val (Wanted.yes rfl rfl rfl rfl) (V.load rfl on3 rfl pickX rfl) rfl ?_
 refine RL.val (Wanted.yes rfl rfl rfl rfl) (V.fieldAddr rfl rfl fo26_4) rfl ?_
 refine RL.val (Wanted.yes rfl rfl rfl rfl) (V.load rfl on3 rfl pickX rfl) rfl ?_
 refine RL.cmpF (Wanted.yes rfl rfl rfl rfl) (V.bin rfl rfl rfl B.neq) rfl (fun h => h rfl) ?_
 refine RL.val (Wanted.free rfl) (V.pick_false rfl rfl rfl) rfl ?_
 refine RL.val (Wanted.free rfl) (V.move rfl rfl) rfl ?_
 refine RL.val (Wanted.yes rfl rfl rfl rfl) (V.fieldAddr rfl rfl fo26_5) rfl ?_
 refine RL.val (Wanted.yes rfl rfl rfl rfl) (V.load rfl on3 rfl pickX rfl) rfl ?_
 refine RL.val (Wanted.yes rfl rfl rfl rfl) (V.fieldAddr rfl rfl fo26_5) rfl ?_
 refine RL.val (Wanted.yes rfl rfl rfl rfl) (V.load rfl on3 rfl pickX rfl) rfl ?_
 refine RL.cmpF (Wanted.yes rfl rfl rfl rfl) (V.bin rfl rfl rfl B.neq) rfl (fun h => h rfl) ?_
 refine RL.val (Wanted.free rfl) (V.pick_false rfl rfl rfl) rfl ?_
 refine RL.val (Wanted.free rfl) (V.move rfl rfl) rfl ?_
 refine RL.val (Wanted.yes rfl rfl rfl rfl) (V.fieldAddr rfl rfl fo26_7) rfl ?_
 refine RL.val (Wanted.yes rfl rfl rfl rfl) (V.load rfl on24 rfl pickX rfl) rfl ?_
 refine RL.val (Wanted.yes rfl rfl rfl rfl) (V.len rfl rfl el24.under rfl) rfl ?_
 refine RL.val (Wanted.yes rfl rfl rfl rfl) (V.fieldAddr rfl rfl fo26_7) rfl ?_
 refine RL.val (Wanted.yes rfl rfl rfl rfl) (V.load rfl on24 rfl pickX rfl) rfl ?_
 refine RL.val (Wanted.yes rfl rfl rfl rfl) (V.len rfl rfl el24.under rfl) rfl ?_
 refine RL.cmpF (Wanted.yes rfl rfl rfl rfl) (V.bin rfl rfl rfl B.neq) rfl (fun h => h rfl) ?_
 refine RL.val (Wanted.free rfl) (V.pick_false rfl rfl rfl) rfl ?_
 refine RL.nil ?_
 refine SG.cond_false rfl ?_
 refine SG.skip ?_
 refine SG.seq ?_
 refine SG.seq ?_
 refine SG.region ?_
 refine RL.val (Wanted.free rfl) (V.assign rfl rfl) rfl ?_
 refine RL.nil ?_
 refine SG.block ?_
 refine SG.weaken (SG.loop2 (fun m al M => ∃ i : Nat, i ≤ wn ∧ m = wn - i ∧ al = [(2, ptr b2 0), (3, ptr b3 0), (4, vB false), (5, vI i)] ∧ M = Blk b2 26 (pv p (.slice ka kn kc) (.slice wa wn wc) (.slice xa xn xc)) :: Blk b3 26 (pv p (.slice kb kn kd) (.slice wb wn wd) (.slice xb xn xd)) :: Sl RSlot ka kn kc p.log :: Sl RB wa wn wc p.votes :: Sl RI xa xn xc p.mtch :: Sl RSlot kb kn kd p.log :: Sl RB wb wn wd p.votes :: Sl RI xb xn xd p.mtch :: L) (m0 := _) ⟨0, by omega, rfl, rfl, rfl⟩ ?_) ?_ ?_
 rotate_left
 ·
  repeat (first | exact EnvLe.nil _ | refine EnvLe.cons rfl ?_)
 ·
  exact entX
 rintro _ _ _ ⟨i, hi, rfl, rfl, rfl⟩ ih0
 refine SG.seq ?_
 refine SG.seq ?_
 refine SG.region ?_
 refine RL.val (Wanted.free rfl) (V.move rfl rfl) rfl ?_
 refine RL.val (Wanted.free rfl) (V.fieldAddr rfl rfl fo26_7) rfl ?_
 refine RL.val (Wanted.free rfl) (V.load rfl on24 rfl pickX rfl) rfl ?_
 refine RL.val (Wanted.free rfl) (V.len rfl rfl el24.under rfl) rfl ?_
 refine RL.cmp (Wanted.free rfl) (V.bin rfl rfl rfl B.lss) rfl (fun h45 => ?_) (fun h45 => ?_)
 ·
  refine RL.nil ?_
  refine SG.cond_true rfl ?_
  refine SG.skip ?_
  refine SG.seq ?_
  refine SG.block ?_
  refine SG.seq ?_
  have hil : i < p.votes.length := by omega
  refine SG.drawN 11 11 (Blk b2 26 (pv p (.slice ka kn kc) (.slice wa wn wc) (.slice xa xn xc)) :: Blk b3 26 (pv p (.slice kb kn kd) (.slice wb wn wd) (.slice xb xn xd)) :: Sl RSlot ka kn kc p.log :: Sl RB wa wn wc p.votes :: Sl RI xa xn xc p.mtch :: Sl RSlot kb kn kd p.log :: Sl RB wb wn wd p.votes :: Sl RI xb xn xd p.mtch :: L) wide rfl rfl (by repeat (first | exact Ent.refl _ | (apply Ent.cons; (· repeat (first | exact Pick.here | (refine Pick.sl ?_; (· repeat (first | exact List.Mem.head _ | assumption | apply List.Mem.tail))) | apply Pick.there))) | (refine Ent.trans (Ent.drop _ _) ?_))) ?_
  refine RH.val 0 rfl krX krX krX krX (Wanted.free rfl) (V.fieldAddr rfl rfl fo26_7) rfl ?_
  refine RH.val 1 rfl krX krX krX krX (Wanted.free rfl) (V.load rfl on24 rfl pickX rfl) rfl ?_
  refine RH.val 2 rfl krX krX krX krX (Wanted.free rfl) (V.move rfl rfl) rfl ?_
  refine RH.val 3 rfl krX krX krX krX (Wanted.free rfl) (V.indexSl (T := RB) (a := wa) (l := p.votes) (j := i) rfl el24.slice rfl rfl memX rfl hil) rfl ?_
  refine RH.val 4 rfl krX krX krX krX (Wanted.free rfl) (V.loadSc (l := p.votes) (y := p.votes[i]'hil) (j := i) rfl on4 rfl (show Sl RB wa wn wc p.votes ∈ _ from memX) (List.getElem?_eq_getElem hil)) rfl ?_
  refine RH.val 5 rfl krX krX krX krX (Wanted.free rfl) (V.fieldAddr rfl rfl fo26_7) rfl ?_
  refine RH.val 6 rfl krX krX krX krX (Wanted.free rfl) (V.load rfl on24 rfl pickX rfl) rfl ?_
  refine RH.val 7 rfl krX krX krX krX (Wanted.free rfl) (V.move rfl rfl) rfl ?_
  refine RH.val 8 rfl krX krX krX krX (Wanted.free rfl) (V.indexSl (T := RB) (a := wb) (l := p.votes) (j := i) rfl el24.slice rfl rfl memX rfl hil) rfl ?_
  refine RH.val 9 rfl krX krX krX krX (Wanted.free rfl) (V.loadSc (l := p.votes) (y := p.votes[i]'hil) (j := i) rfl on4 rfl (show Sl RB wb wn wd p.votes ∈ _ from memX) (List.getElem?_eq_getElem hil)) rfl ?_
  refine RH.cmpF 10 rfl krX krX krX krX (Wanted.free rfl) (V.neqBool rfl ub4 rfl rfl) rfl (fun h => h rfl) ?_
  refine RH.done krX ?_
  refine SG.cond_false rfl ?_
  refine SG.skip ?_
  refine SG.inBlock ?_
  refine SG.region ?_
  refine RL.val (Wanted.free rfl) (V.move rfl rfl) rfl ?_
  refine RL.val (Wanted.free rfl) (V.bin rfl rfl rfl (B.addI (by omega) (by omega))) rfl ?_
  refine RL.val (Wanted.free rfl) (V.assign rfl rfl) rfl ?_
  refine RL.nil ?_
  refine SG.weaken (ih0 _ _ _ ?_ ⟨i + 1, by omega, rfl, rfl, rfl⟩) ?_ ?_
  ·
   omega
  ·
   repeat (first | exact EnvLe.nil _ | refine EnvLe.cons rfl ?_)
  ·
   exact entX
 ·
  refine RL.nil ?_
  refine SG.cond_false rfl ?_
  refine SG.exit rfl ?_
  refine SG.seq ?_
  refine SG.region ?_
  refine RL.val (Wanted.free rfl) (V.fieldAddr rfl rfl fo26_6) rfl ?_
  refine RL.val (Wanted.free rfl) (V.load rfl on23 rfl pickX rfl) rfl ?_
  refine RL.val (Wanted.free rfl) (V.fieldAddr rfl rfl fo26_6) rfl ?_
  refine RL.val (Wanted.free rfl) (V.load rfl on23 rfl pickX rfl) rfl ?_
  refine RL.eff (Wanted.free rfl) (E.call rfl go51 rfl (sameSlots_ok (l := p.log) (l' := p.log) (a := ka) (b := kb) memX memX rfl)) rfl ?_
  rintro _ _ ⟨rfl, rfl⟩
  refine RL.val (Wanted.free rfl) (V.move rfl rfl) rfl ?_
  refine RL.val (Wanted.yes rfl rfl rfl rfl) (V.fieldAddr rfl rfl fo26_8) rfl ?_
  refine RL.val (Wanted.yes rfl rfl rfl rfl) (V.load rfl on22 rfl pickX rfl) rfl ?_
  refine RL.val (Wanted.yes rfl rfl rfl rfl) (V.fieldAddr rfl rfl fo26_8) rfl ?_
  refine RL.val (Wanted.yes rfl rfl rfl rfl) (V.load rfl on22 rfl pickX rfl) rfl ?_
  refine RL.eff (Wanted.yes rfl rfl rfl rfl) (E.call rfl go52 rfl (sameInts_ok (l := p.mtch) (l' := p.mtch) (a := xa) (b := xb) memX memX rfl)) rfl ?_
  rintro _ _ ⟨rfl, rfl⟩
  refine RL.val (Wanted.free rfl) (V.pick_true rfl rfl rfl) rfl ?_
  refine RL.val (Wanted.free rfl) (V.assign rfl rfl) rfl ?_
  refine RL.nil ?_
  refine SG.retE (Ret.r1 Try.func14 rfl (.tmp rfl)) ?_ ⟨rfl, rfl⟩
  exact entX

set_option maxRecDepth 100000 in
set_option maxHeartbeats 1000000 in
theorem sameMsgs_ok {κ : World} {L : List Assn} {a b : Option Addr} {n n' c c' : Nat} {l l' : List Msg} (hm : Sl RMsg a n c l ∈ L) (hm' : Sl RMsg b n' c' l' ∈ L) (he : l = l') :
    Ctr Try.prog 20 #[.slice a n c, .slice b n' c'] κ L (fun v M => v = vB true ∧ M = L) := by
 refine Ctr.enter (vs := [.slice a n c, .slice b n' c']) (m := 89) Try.func20 rfl rfl rfl ?_
 subst he
 refine SG.sl hm fun hn _ _ => ?_
 refine SG.sl hm' fun hn' _ _ => ?_
 obtain rfl : n = n' := by omega
 refine SG.seq ?_
 refine SG.region ?_
 refine RL.val (Wanted.free rfl) (V.assign rfl rfl) rfl ?_
 refine RL.nil ?_
 refine SG.seq ?_
 refine SG.seq ?_
 refine SG.region ?_
 refine RL.val (Wanted.free rfl) (V.move rfl rfl) rfl ?_
 refine RL.val (Wanted.free rfl) (V.len rfl rfl el35.under rfl) rfl ?_
 refine RL.val (Wanted.free rfl) (V.move rfl rfl) rfl ?_
 refine RL.val (Wanted.free rfl) (V.len rfl rfl el35.under rfl) rfl ?_
 refine RL.cmpF (Wanted.free rfl) (V.bin rfl rfl rfl B.neq) rfl (by omega) ?_
 refine RL.nil ?_
 refine SG.cond_false rfl ?_
 refine SG.skip ?_
 refine SG.seq ?_
 refine SG.seq ?_
 refine SG.region ?_
 refine RL.val (Wanted.free rfl) (V.assign rfl rfl) rfl ?_
 refine RL.nil ?_
 refine SG.block ?_
 refine SG.weaken (SG.loop2 (fun m al M => ∃ i : Nat, i ≤ n ∧ m = n - i ∧ al = [(0, .slice a n c), (1, .slice b n c'), (4, vB false), (5, vI i)] ∧ M = L) (m0 := _) ⟨0, by omega, rfl, rfl, rfl⟩ ?_) ?_ ?_
 rotate_left
 ·
  repeat (first | exact EnvLe.nil _ | refine EnvLe.cons rfl ?_)
 ·
  exact entX
 rintro _ _ _ ⟨i, hi, rfl, rfl, hM⟩ ih0
 subst hM
 refine SG.seq ?_
 refine SG.seq ?_
 refine SG.region ?_
 refine RL.val (Wanted.free rfl) (V.move rfl rfl) rfl ?_
 refine RL.val (Wanted.free rfl) (V.move rfl rfl) rfl ?_
 refine RL.val (Wanted.free rfl) (V.len rfl rfl el35.under rfl) rfl ?_
 refine RL.cmp (Wanted.free rfl) (V.bin rfl rfl rfl B.lss) rfl (fun h10 => ?_) (fun h10 => ?_)
 ·
  refine RL.nil ?_
  refine SG.cond_true rfl ?_
  refine SG.skip ?_
  refine SG.seq ?_
  refine SG.block ?_
  refine SG.seq ?_
  have hil : i < l.length := by omega
  refine SG.region ?_
  refine RL.val (Wanted.free rfl) (V.move rfl rfl) rfl ?_
  refine RL.val (Wanted.free rfl) (V.move rfl rfl) rfl ?_
  refine RL.val (Wanted.free rfl) (V.indexSl (T := RMsg) (a := a) (l := l) (j := i) rfl el35.slice rfl rfl memX rfl hil) rfl ?_
  refine RL.eff (Wanted.free rfl) (E.loadElem (T := RMsg) (l := l) (a := a) (j := i) rfl ag50 rfl memX (List.getElem?_eq_getElem hil)) rfl ?_
  rintro _ _ ⟨u22, rfl, rfl⟩
  refine RL.eff (Wanted.free rfl) (E.alloc rfl ze50) rfl ?_
  rintro _ _ ⟨b6, rfl, rfl⟩
  refine RL.openMsg (us := u22) (Pick.rd (T := RMsg) memX) fun ya yn yc hy => ?_
  subst hy
  refine RL.eff (Wanted.free rfl) (E.storeWhole rfl rfl rfl (by rfl) sz50 pickX mv_one (by rfl)) rfl ?_
  rintro _ _ rfl
  refine RL.nil ?_
  refine SG.seq ?_
  refine SG.region ?_
  refine RL.val (Wanted.free rfl) (V.move rfl rfl) rfl ?_
  refine RL.val (Wanted.free rfl) (V.move rfl rfl) rfl ?_
  refine RL.val (Wanted.free rfl) (V.indexSl (T := RMsg) (a := b) (l := l) (j := i) rfl el35.slice rfl rfl memX rfl hil) rfl ?_
  refine RL.eff (Wanted.free rfl) (E.loadElem (T := RMsg) (l := l) (a := b) (j := i) rfl ag50 rfl memX (List.getElem?_eq_getElem hil)) rfl ?_
  rintro _ _ ⟨u26, rfl, rfl⟩
  refine RL.eff (Wanted.free rfl) (E.alloc rfl ze50) rfl ?_
  rintro _ _ ⟨b7, rfl, rfl⟩
  refine RL.openMsg (us := u26) (Pick.rd (T := RMsg) memX) fun za zn zc hy => ?_
  subst hy
  refine RL.eff (Wanted.free rfl) (E.storeWhole rfl rfl rfl (by rfl) sz50 pickX mv_one (by rfl)) rfl ?_
  rintro _ _ rfl
  refine RL.nil ?_
  refine SG.seq ?_
  refine SG.region ?_
  refine RL.val (Wanted.free rfl) (V.fieldAddr rfl rfl fo50_7) rfl ?_
  refine RL.val (Wanted.free rfl) (V.load rfl on23 rfl pickX rfl) rfl ?_
  refine RL.val (Wanted.free rfl) (V.fieldAddr rfl rfl fo50_7) rfl ?_
  refine RL.val (Wanted.free rfl) (V.load rfl on23 rfl pickX rfl) rfl ?_
  refine RL.eff (Wanted.free rfl) (E.call rfl go51 rfl (sameSlots_ok (l := l[i].slots) (l' := l[i].slots) (a := ya) (b := za) memX memX rfl)) rfl ?_
  rintro _ _ ⟨rfl, rfl⟩
  refine RL.val (Wanted.free rfl) (V.not rfl rfl) rfl ?_
  refine RL.val (Wanted.free rfl) (V.move rfl rfl) rfl ?_
  refine RL.val (Wanted.yes rfl rfl rfl rfl) (V.fieldAddr rfl rfl fo50_0) rfl ?_
  refine RL.val (Wanted.yes rfl rfl rfl rfl) (V.load rfl on3 rfl pickX rfl) rfl ?_
  refine RL.val (Wanted.yes rfl rfl rfl rfl) (V.fieldAddr rfl rfl fo50_0) rfl ?_
  refine RL.val (Wanted.yes rfl rfl rfl rfl) (V.load rfl on3 rfl pickX rfl) rfl ?_
  refine RL.cmpF (Wanted.yes rfl rfl rfl rfl) (V.bin rfl rfl rfl B.neq) rfl (fun h => h rfl) ?_
  refine RL.val (Wanted.free rfl) (V.pick_false rfl rfl rfl) rfl ?_
  refine RL.val (Wanted.free rfl) (V.move rfl rfl) rfl ?_
  refine RL.val (Wanted.yes rfl rfl rfl rfl) (V.fieldAddr rfl rfl fo50_1) rfl ?_
  refine RL.val (Wanted.yes rfl rfl rfl rfl) (V.load rfl on3 rfl pickX rfl) rfl ?_
  refine RL.val (Wanted.yes rfl rfl rfl rfl) (V.fieldAddr rfl rfl fo50_1) rfl ?_
  refine RL.val (Wanted.yes rfl rfl rfl rfl) (V.load rfl on3 rfl pickX rfl) rfl ?_
  refine RL.cmpF (Wanted.yes rfl rfl rfl rfl) (V.bin rfl rfl rfl B.neq) rfl (fun h => h rfl) ?_
  refine RL.val (Wanted.free rfl) (V.pick_false rfl rfl rfl) rfl ?_
  refine RL.val (Wanted.free rfl) (V.move rfl rfl) rfl ?_
  refine RL.val (Wanted.yes rfl rfl rfl rfl) (V.fieldAddr rfl rfl fo50_2) rfl ?_
  refine RL.val (Wanted.yes rfl rfl rfl rfl) (V.load rfl on3 rfl pickX rfl) rfl ?_
  refine RL.val (Wanted.yes rfl rfl rfl rfl) (V.fieldAddr rfl rfl fo50_2) rfl ?_
  refine RL.val (Wanted.yes rfl rfl rfl rfl) (V.load rfl on3 rfl pickX rfl) rfl ?_
  refine RL.cmpF (Wanted.yes rfl rfl rfl rfl) (V.bin rfl rfl rfl B.neq) rfl (fun h => h rfl) ?_
  refine RL.val (Wanted.free rfl) (V.pick_false rfl rfl rfl) rfl ?_
  refine RL.val (Wanted.free rfl) (V.move rfl rfl) rfl ?_
  refine RL.val (Wanted.yes rfl rfl rfl rfl) (V.fieldAddr rfl rfl fo50_3) rfl ?_
  refine RL.val (Wanted.yes rfl rfl rfl rfl) (V.load rfl on3 rfl pickX rfl) rfl ?_
  refine RL.val (Wanted.yes rfl rfl rfl rfl) (V.fieldAddr rfl rfl fo50_3) rfl ?_
  refine RL.val (Wanted.yes rfl rfl rfl rfl) (V.load rfl on3 rfl pickX rfl) rfl ?_
  refine RL.cmpF (Wanted.yes rfl rfl rfl rfl) (V.bin rfl rfl rfl B.neq) rfl (fun h => h rfl) ?_
  refine RL.val (Wanted.free rfl) (V.pick_false rfl rfl rfl) rfl ?_
  refine RL.val (Wanted.free rfl) (V.move rfl rfl) rfl ?_
  refine RL.val (Wanted.yes rfl rfl rfl rfl) (V.fieldAddr rfl rfl fo50_4) rfl ?_
  refine RL.val (Wanted.yes rfl rfl rfl rfl) (V.load rfl on3 rfl pickX rfl) rfl ?_
  refine RL.val (Wanted.yes rfl rfl rfl rfl) (V.fieldAddr rfl rfl fo50_4) rfl ?_
  refine RL.val (Wanted.yes rfl rfl rfl rfl) (V.load rfl on3 rfl pickX rfl) rfl ?_
  refine RL.cmpF (Wanted.yes rfl rfl rfl rfl) (V.bin rfl rfl rfl B.neq) rfl (fun h => h rfl) ?_
  refine RL.val (Wanted.free rfl) (V.pick_false rfl rfl rfl) rfl ?_
  refine RL.val (Wanted.free rfl) (V.move rfl rfl) rfl ?_
  refine RL.val (Wanted.yes rfl rfl rfl rfl) (V.fieldAddr rfl rfl fo50_5) rfl ?_
  refine RL.val (Wanted.yes rfl rfl rfl rfl) (V.load rfl on3 rfl pickX rfl) rfl ?_
  refine RL.val (Wanted.yes rfl rfl rfl rfl) (V.fieldAddr rfl rfl fo50_5) rfl ?_
  refine RL.val (Wanted.yes rfl rfl rfl rfl) (V.load rfl on3 rfl pickX rfl) rfl ?_
  refine RL.cmpF (Wanted.yes rfl rfl rfl rfl) (V.bin rfl rfl rfl B.neq) rfl (fun h => h rfl) ?_
  refine RL.val (Wanted.free rfl) (V.pick_false rfl rfl rfl) rfl ?_
  refine RL.val (Wanted.free rfl) (V.move rfl rfl) rfl ?_
  refine RL.val (Wanted.yes rfl rfl rfl rfl) (V.fieldAddr rfl rfl fo50_6) rfl ?_
  refine RL.val (Wanted.yes rfl rfl rfl rfl) (V.load rfl on3 rfl pickX rfl) rfl ?_
  refine RL.val (Wanted.yes rfl rfl rfl rfl) (V.fieldAddr rfl rfl fo50_6) rfl ?_
  refine RL.val (Wanted.yes rfl rfl rfl rfl) (V.load rfl on3 rfl pickX rfl) rfl ?_
  refine RL.cmpF (Wanted.yes rfl rfl rfl rfl) (V.bin rfl rfl rfl B.neq) rfl (fun h => h rfl) ?_
  refine RL.val (Wanted.free rfl) (V.pick_false rfl rfl rfl) rfl ?_
  refine RL.val (Wanted.free rfl) (V.move rfl rfl) rfl ?_
  refine RL.val (Wanted.yes rfl rfl rfl rfl) (V.fieldAddr rfl rfl fo50_8) rfl ?_
  refine RL.val (Wanted.yes rfl rfl rfl rfl) (V.load rfl on4 rfl pickX rfl) rfl ?_
  refine RL.val (Wanted.yes rfl rfl rfl rfl) (V.fieldAddr rfl rfl fo50_8) rfl ?_
  refine RL.val (Wanted.yes rfl rfl rfl rfl) (V.load rfl on4 rfl pickX rfl) rfl ?_
  refine RL.cmpF (Wanted.yes rfl rfl rfl rfl) (V.neqBool rfl ub4 rfl rfl) rfl (fun h => h rfl) ?_
  refine RL.val (Wanted.free rfl) (V.pick_false rfl rfl rfl) rfl ?_
  refine RL.nil ?_
  refine SG.cond_false rfl ?_
  refine SG.skip ?_
  refine SG.inBlock ?_
  refine SG.region ?_
  refine RL.val (Wanted.free rfl) (V.move rfl rfl) rfl ?_
  refine RL.val (Wanted.free rfl) (V.bin rfl rfl rfl (B.addI (by omega) (by omega))) rfl ?_
  refine RL.val (Wanted.free rfl) (V.assign rfl rfl) rfl ?_
  refine RL.nil ?_
  refine SG.weaken (ih0 _ _ _ ?_ ⟨i + 1, by omega, rfl, rfl, rfl⟩) ?_ ?_
  ·
   omega
  ·
   repeat (first | exact EnvLe.nil _ | refine EnvLe.cons rfl ?_)
  ·
   exact entX
 ·
  refine RL.nil ?_
  refine SG.cond_false rfl ?_
  refine SG.exit rfl ?_
  refine SG.seq ?_
  refine SG.region ?_
  refine RL.val (Wanted.free rfl) (V.assign rfl rfl) rfl ?_
  refine RL.nil ?_
  refine SG.retE (Ret.r1 Try.func20 rfl (.tmp rfl)) ?_ ⟨rfl, rfl⟩
  exact entX

end Go.Proofs.Ytilcnglcflohoaa
