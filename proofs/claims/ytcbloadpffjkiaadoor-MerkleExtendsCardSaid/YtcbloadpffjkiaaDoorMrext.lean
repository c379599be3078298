/- The reference's values. -/
import Derived.Test.YtcbloadpffjkiaaDoorMlives
import Derived.Test.YtcbloadpffjkiaaDoorMClimb
namespace Go.Proofs.YtcbloadpffjkiaaDoor
open Go.Wk Go.Mk Go.Sha

def valuesAt (κ : World) (old : Hs) (n : Nat) : Prop := ∀ (q : Nat) (w : Bool) (p : List Hs) (L : List Assn) (a : Option Addr) (m c : Nat), 1 ≤ q → q ≤ n → n ≤ 65536 → Sl (RArr8 32) a m c p ∈ L → Ctr Tryd.prog 62 #[vI (q : Int), vI (n : Int), vB w, .agg ((old).map v8).toArray, .slice a m c] κ L (fun v M => v = .tuple #[.agg (((valuesV q n w old p).1).map v8).toArray, .agg (((valuesV q n w old p).2.1).map v8).toArray, vB (valuesV q n w old p).2.2] ∧ M = L)
set_option maxRecDepth 100000 in
set_option maxHeartbeats 1000000 in
theorem values_step {κ : World} {L : List Assn} {a : Option Addr} {m c : Nat} {p : List Hs} {old : Hs} {q n : Nat} {w : Bool} (hq0 : 1 ≤ q) (hqn : q ≤ n) (hn : n ≤ 65536) (ho : old.length = 32) (hm : Sl (RArr8 32) a m c p ∈ L) (ih : ∀ k, k < n → valuesAt κ old k) :
    Ctr Tryd.prog 62 #[vI (q : Int), vI (n : Int), vB w, .agg ((old).map v8).toArray, .slice a m c] κ L (fun v M => v = .tuple #[.agg (((valuesV q n w old p).1).map v8).toArray, .agg (((valuesV q n w old p).2.1).map v8).toArray, vB (valuesV q n w old p).2.2] ∧ M = L) := by
 refine Ctr.enter (vs := [vI (q : Int), vI (n : Int), vB w, .agg ((old).map v8).toArray, .slice a m c]) (m := 97) Tryd.func62 rfl rfl rfl ?_
 refine SG.fact (fun w hs => Sep.slArr (a := a) (l := p) hs memX) fun h32 => ?_
 refine SG.sl (T := RArr8 32) (a := a) (l := p) memX fun hmp hc hc63 => ?_
 subst hmp
 refine SG.seq ?_
 refine SG.region ?_
 refine RL.eff (Wanted.free rfl) (E.box (old.map v8) rfl rfl rfl) rfl ?_
 rintro _ _ ⟨b8, rfl, rfl⟩
 refine RL.eff (Wanted.free rfl) (E.alloc rfl ze25) rfl ?_
 rintro _ _ ⟨b10, rfl, rfl⟩
 refine RL.eff (Wanted.free rfl) (E.alloc rfl ze25) rfl ?_
 rintro _ _ ⟨b11, rfl, rfl⟩
 refine RL.val (Wanted.free rfl) (V.assign rfl rfl) rfl ?_
 refine RL.nil ?_
 refine SG.seq ?_
 refine SG.seq ?_
 refine SG.region ?_
 refine RL.val (Wanted.free rfl) (V.move rfl rfl) rfl ?_
 refine RL.val (Wanted.free rfl) (V.move rfl rfl) rfl ?_
 refine RL.cmp (Wanted.free rfl) (V.bin rfl rfl rfl B.eql) rfl (fun h7 => ?_) (fun h7 => ?_)
 ·
  refine RL.val (Wanted.free rfl) (V.move rfl rfl) rfl ?_
  refine RL.val (Wanted.yes rfl rfl rfl rfl) (V.move rfl rfl) rfl ?_
  refine RL.val (Wanted.free rfl) (V.pick_true rfl rfl rfl) rfl ?_
  refine RL.nil ?_
  refine SG.cond rfl (fun h10 => ?_) (fun h10 => ?_)
  ·
   refine SG.seq ?_
   obtain rfl : q = n := by omega
   have hw : w = true := by assumption
   subst hw
   refine SG.drawN 8 8 (Blk b8 25 (old.map v8) :: L) wide rfl rfl (by repeat (first | exact Ent.refl _ | (apply Ent.cons; (· repeat (first | exact Pick.here | (refine Pick.sl ?_; (· repeat (first | exact List.Mem.head _ | assumption | apply List.Mem.tail))) | apply Pick.there))) | (refine Ent.trans (Ent.drop _ _) ?_))) ?_
   refine RH.val 0 rfl krX krX krX krX (Wanted.free rfl) (V.loadAgg (us := (old).map v8) rfl ag25 rfl pickX (take8 ho) (by rw [List.length_map]; exact ho)) rfl ?_
   refine RH.val 1 rfl krX krX krX krX (Wanted.free rfl) (V.loadAgg (us := (old).map v8) rfl ag25 rfl pickX (take8 ho) (by rw [List.length_map]; exact ho)) rfl ?_
   refine RH.val 2 rfl krX krX krX krX (Wanted.free rfl) (V.move rfl rfl) rfl ?_
   refine RH.val 3 rfl krX krX krX krX (Wanted.free rfl) (V.len rfl rfl el22.under rfl) rfl ?_
   refine RH.cmp 4 rfl krX krX krX krX (Wanted.free rfl) (V.bin rfl rfl rfl B.eql) rfl (fun h15 => ?_) (fun h15 => ?_)
   ·
    have hd : p.length = 0 := by omega
    refine RH.one (i := 5) krX ?_
    refine RHone.eff rfl (Wanted.free rfl) (E.storeWhole rfl rfl rfl (by rw [List.length_map]; exact ho) sz25 pickX (one8 _) (by first | rfl | (rw [List.length_replicate]))) rfl ?_
    rintro _ _ rfl
    refine ⟨.inr entX, ?_⟩
    refine RH.one (i := 6) krX ?_
    refine RHone.eff rfl (Wanted.free rfl) (E.storeWhole rfl rfl rfl (by rw [List.length_map]; exact ho) sz25 pickX (one8 _) (by first | rfl | (rw [List.length_replicate]))) rfl ?_
    rintro _ _ rfl
    refine ⟨.inr entX, ?_⟩
    refine RH.val 7 rfl krX krX krX krX (Wanted.free rfl) (V.assign rfl rfl) rfl ?_
    refine RH.done krX ?_
    refine SG.retE (Ret.r3 Tryd.func62 rfl (.agg rfl ag25 pickX (take8 (by assumption)) (by rw [List.length_map]; assumption)) (.agg rfl ag25 pickX (take8 (by assumption)) (by rw [List.length_map]; assumption)) (.tmp rfl)) ?_ ⟨by rw [values_whole]; simp [hd], rfl⟩
    exact entX
   ·
    have hd : ¬ p.length = 0 := by omega
    refine RH.one (i := 5) krX ?_
    refine RHone.eff rfl (Wanted.free rfl) (E.storeWhole rfl rfl rfl (by rw [List.length_map]; exact ho) sz25 pickX (one8 _) (by first | rfl | (rw [List.length_replicate]))) rfl ?_
    rintro _ _ rfl
    refine ⟨.inr entX, ?_⟩
    refine RH.one (i := 6) krX ?_
    refine RHone.eff rfl (Wanted.free rfl) (E.storeWhole rfl rfl rfl (by rw [List.length_map]; exact ho) sz25 pickX (one8 _) (by first | rfl | (rw [List.length_replicate]))) rfl ?_
    rintro _ _ rfl
    refine ⟨.inr entX, ?_⟩
    refine RH.val 7 rfl krX krX krX krX (Wanted.free rfl) (V.assign rfl rfl) rfl ?_
    refine RH.done krX ?_
    refine SG.retE (Ret.r3 Tryd.func62 rfl (.agg rfl ag25 pickX (take8 (by assumption)) (by rw [List.length_map]; assumption)) (.agg rfl ag25 pickX (take8 (by assumption)) (by rw [List.length_map]; assumption)) (.tmp rfl)) ?_ ⟨by first | (rw [values_whole]; simp [hd]; done) | (rw [values_nil hnw h0]; done) | (rw [values_nil hnw h0]; rfl) | (rw [values_part h0, hgx]; simp [hd]; done) | (rw [values_lo hne h0 h2 (by rw [hk]; omega), hk, hgx]; rfl) | (rw [values_hi hne h0 h2 (by rw [hk]; omega), hk, hgx]; rfl), rfl⟩
    exact entX
  ·
   refine SG.skip ?_
   refine SG.seq ?_
   refine SG.seq ?_
   have hnw : ¬ (q = n ∧ w = true) := fun e => by cases w <;> simp_all
   refine SG.region ?_
   refine RL.val (Wanted.free rfl) (V.move rfl rfl) rfl ?_
   refine RL.val (Wanted.free rfl) (V.len rfl rfl el22.under rfl) rfl ?_
   refine RL.cmp (Wanted.free rfl) (V.bin rfl rfl rfl B.eql) rfl (fun h24 => ?_) (fun h24 => ?_)
   ·
    refine RL.nil ?_
    refine SG.cond_true rfl ?_
    refine SG.seq ?_
    have h0 : p.length = 0 := by omega
    have hz32 := zero32_len
    refine SG.region ?_
    refine RL.val (Wanted.free rfl) (V.buildA [] rfl ba25 (by exact trivial) rfl) rfl ?_
    refine RL.val (Wanted.free rfl) (V.buildA [] rfl ba25 (by exact trivial) rfl) rfl ?_
    rw [show (List.replicate 32 (Value.int IntKind.u8 0)) = zero32.map v8 from rfl]
    refine RL.eff (Wanted.free rfl) (E.storeWhole rfl rfl rfl (by rw [List.length_map]; exact zero32_len) sz25 pickX (one8 _) (by first | rfl | (rw [List.length_replicate]))) rfl ?_
    rintro _ _ rfl
    refine RL.eff (Wanted.free rfl) (E.storeWhole rfl rfl rfl (by rw [List.length_map]; exact zero32_len) sz25 pickX (one8 _) (by first | rfl | (rw [List.length_replicate]))) rfl ?_
    rintro _ _ rfl
    refine RL.val (Wanted.free rfl) (V.assign rfl rfl) rfl ?_
    refine RL.nil ?_
    refine SG.retE (Ret.r3 Tryd.func62 rfl (.agg rfl ag25 pickX (take8 (by assumption)) (by rw [List.length_map]; assumption)) (.agg rfl ag25 pickX (take8 (by assumption)) (by rw [List.length_map]; assumption)) (.tmp rfl)) ?_ ⟨by first | (rw [values_whole]; simp [hd]; done) | (rw [values_nil hnw h0]; done) | (rw [values_nil hnw h0]; rfl) | (rw [values_part h0, hgx]; simp [hd]; done) | (rw [values_lo hne h0 h2 (by rw [hk]; omega), hk, hgx]; rfl) | (rw [values_hi hne h0 h2 (by rw [hk]; omega), hk, hgx]; rfl), rfl⟩
    exact entX
   ·
    refine RL.nil ?_
    refine SG.cond_false rfl ?_
    refine SG.skip ?_
    refine SG.seq ?_
    have h0 : ¬ p.length = 0 := by omega
    obtain ⟨x, hx⟩ : ∃ x, p[p.length - 1]? = some x := ⟨_, List.getElem?_eq_getElem (by omega)⟩
    have hxl := h32 x (List.mem_of_getElem? hx)
    have hgx : p.getD (p.length - 1) [] = x := by rw [List.getD_eq_getElem?_getD, hx]; rfl
    refine SG.region ?_
    refine RL.val (Wanted.free rfl) (V.move rfl rfl) rfl ?_
    refine RL.val (Wanted.free rfl) (V.move rfl rfl) rfl ?_
    refine RL.val (Wanted.free rfl) (V.len rfl rfl el22.under rfl) rfl ?_
    refine RL.val (Wanted.free rfl) (V.bin rfl rfl rfl (B.subI (by omega) (by omega))) rfl ?_
    refine RL.val (Wanted.free rfl) (V.indexSl (j := (p.length - 1)) rfl el22.slice rfl rfl memX (by first | rfl | omega) (by omega)) rfl ?_
    refine RL.val (Wanted.free rfl) (V.loadSlDt rfl ag25 rfl memX hx) rfl ?_
    refine RL.eff (Wanted.free rfl) (E.alloc rfl ze25) rfl ?_
    rintro _ _ ⟨b13, rfl, rfl⟩
    refine RL.eff (Wanted.free rfl) (E.storeWhole rfl rfl rfl (by rw [List.length_map]; exact hxl) sz25 pickX (one8 _) (by first | rfl | (rw [List.length_replicate]))) rfl ?_
    rintro _ _ rfl
    refine RL.nil ?_
    refine SG.seq ?_
    refine SG.region ?_
    refine RL.val (Wanted.free rfl) (V.move rfl rfl) rfl ?_
    refine RL.val (Wanted.free rfl) (V.move rfl rfl) rfl ?_
    refine RL.val (Wanted.free rfl) (V.len rfl rfl el22.under rfl) rfl ?_
    refine RL.val (Wanted.free rfl) (V.bin rfl rfl rfl (B.subI (by omega) (by omega))) rfl ?_
    refine RL.eff (Wanted.free rfl) (E.slice (lo := 0) (hi := (p.length - 1)) rfl el22.slice rfl memX rfl ⟨_, _, rfl, (by first | rfl | omega)⟩ (by omega) (by omega)) rfl ?_
    intro _ _ hK42
    try rw [List.drop_zero] at hK42
    iterate 2 (try rw [Nat.sub_zero] at hK42)
    obtain ⟨a42, rfl, rfl⟩ := hK42
    refine RL.val (Wanted.free rfl) (V.assign rfl rfl) rfl ?_
    refine RL.nil ?_
    refine SG.seq ?_
    refine SG.seq ?_
    refine SG.region ?_
    refine RL.val (Wanted.free rfl) (V.move rfl rfl) rfl ?_
    refine RL.val (Wanted.free rfl) (V.move rfl rfl) rfl ?_
    refine RL.cmpT (Wanted.free rfl) (V.bin rfl rfl rfl B.eql) rfl (by omega) ?_
    refine RL.nil ?_
    refine SG.cond_true rfl ?_
    refine SG.seq ?_
    obtain rfl : q = n := by omega
    have hw : w = false := by cases w <;> simp_all
    subst hw
    refine SG.drawN 8 8 (Blk b13 25 (x.map v8) :: L) wide rfl rfl (by repeat (first | exact Ent.refl _ | (apply Ent.cons; (· repeat (first | exact Pick.here | (refine Pick.sl ?_; (· repeat (first | exact List.Mem.head _ | assumption | apply List.Mem.tail))) | apply Pick.there))) | (refine Ent.trans (Ent.drop _ _) ?_))) ?_
    refine RH.val 0 rfl krX krX krX krX (Wanted.free rfl) (V.loadAgg (us := (x).map v8) rfl ag25 rfl pickX (take8 hxl) (by rw [List.length_map]; exact hxl)) rfl ?_
    refine RH.val 1 rfl krX krX krX krX (Wanted.free rfl) (V.loadAgg (us := (x).map v8) rfl ag25 rfl pickX (take8 hxl) (by rw [List.length_map]; exact hxl)) rfl ?_
    refine RH.val 2 rfl krX krX krX krX (Wanted.free rfl) (V.move rfl rfl) rfl ?_
    refine RH.val 3 rfl krX krX krX krX (Wanted.free rfl) (V.len rfl rfl el22.under rfl) rfl ?_
    refine RH.cmp 4 rfl krX krX krX krX (Wanted.free rfl) (V.bin rfl rfl rfl B.eql) rfl (fun h50 => ?_) (fun h50 => ?_)
    ·
     have hd : p.length - 1 = 0 := by omega
     refine RH.one (i := 5) krX ?_
     refine RHone.eff rfl (Wanted.free rfl) (E.storeWhole rfl rfl rfl (by rw [List.length_map]; exact hxl) sz25 pickX (one8 _) (by first | rfl | (rw [List.length_replicate]))) rfl ?_
     rintro _ _ rfl
     refine ⟨.inr entX, ?_⟩
     refine RH.one (i := 6) krX ?_
     refine RHone.eff rfl (Wanted.free rfl) (E.storeWhole rfl rfl rfl (by rw [List.length_map]; exact hxl) sz25 pickX (one8 _) (by first | rfl | (rw [List.length_replicate]))) rfl ?_
     rintro _ _ rfl
     refine ⟨.inr entX, ?_⟩
     refine RH.val 7 rfl krX krX krX krX (Wanted.free rfl) (V.assign rfl rfl) rfl ?_
     refine RH.done krX ?_
     refine SG.retE (Ret.r3 Tryd.func62 rfl (.agg rfl ag25 pickX (take8 (by assumption)) (by rw [List.length_map]; assumption)) (.agg rfl ag25 pickX (take8 (by assumption)) (by rw [List.length_map]; assumption)) (.tmp rfl)) ?_ ⟨by first | (rw [values_whole]; simp [hd]; done) | (rw [values_nil hnw h0]; done) | (rw [values_nil hnw h0]; rfl) | (rw [values_part h0, hgx]; simp [hd]; done) | (rw [values_lo hne h0 h2 (by rw [hk]; omega), hk, hgx]; rfl) | (rw [values_hi hne h0 h2 (by rw [hk]; omega), hk, hgx]; rfl), rfl⟩
     exact entX
    ·
     have hd : ¬ p.length - 1 = 0 := by omega
     refine RH.one (i := 5) krX ?_
     refine RHone.eff rfl (Wanted.free rfl) (E.storeWhole rfl rfl rfl (by rw [List.length_map]; exact hxl) sz25 pickX (one8 _) (by first | rfl | (rw [List.length_replicate]))) rfl ?_
     rintro _ _ rfl
     refine ⟨.inr entX, ?_⟩
     refine RH.one (i := 6) krX ?_
     refine RHone.eff rfl (Wanted.free rfl) (E.storeWhole rfl rfl rfl (by rw [List.length_map]; exact hxl) sz25 pickX (one8 _) (by first | rfl | (rw [List.length_replicate]))) rfl ?_
     rintro _ _ rfl
     refine ⟨.inr entX, ?_⟩
     refine RH.val 7 rfl krX krX krX krX (Wanted.free rfl) (V.assign rfl rfl) rfl ?_
     refine RH.done krX ?_
     refine SG.retE (Ret.r3 Tryd.func62 rfl (.agg rfl ag25 pickX (take8 (by assumption)) (by rw [List.length_map]; assumption)) (.agg rfl ag25 pickX (take8 (by assumption)) (by rw [List.length_map]; assumption)) (.tmp rfl)) ?_ ⟨by first | (rw [values_whole]; simp [hd]; done) | (rw [values_nil hnw h0]; done) | (rw [values_nil hnw h0]; rfl) | (rw [values_part h0, hgx]; simp [hd]; done) | (rw [values_lo hne h0 h2 (by rw [hk]; omega), hk, hgx]; rfl) | (rw [values_hi hne h0 h2 (by rw [hk]; omega), hk, hgx]; rfl), rfl⟩
     exact entX
 ·
  refine RL.val (Wanted.free rfl) (V.move rfl rfl) rfl ?_
  refine RL.skip (Wanted.no rfl rfl rfl rfl rfl) rfl ?_
  refine RL.val (Wanted.free rfl) (V.pick_false rfl rfl rfl) rfl ?_
  refine RL.nil ?_
  refine SG.cond_false rfl ?_
  refine SG.skip ?_
  refine SG.seq ?_
  refine SG.seq ?_
  have hnw : ¬ (q = n ∧ w = true) := fun e => by omega
  refine SG.region ?_
  refine RL.val (Wanted.free rfl) (V.move rfl rfl) rfl ?_
  refine RL.val (Wanted.free rfl) (V.len rfl rfl el22.under rfl) rfl ?_
  refine RL.cmp (Wanted.free rfl) (V.bin rfl rfl rfl B.eql) rfl (fun h60 => ?_) (fun h60 => ?_)
  ·
   refine RL.nil ?_
   refine SG.cond_true rfl ?_
   refine SG.seq ?_
   have h0 : p.length = 0 := by omega
   have hz32 := zero32_len
   refine SG.region ?_
   refine RL.val (Wanted.free rfl) (V.buildA [] rfl ba25 (by exact trivial) rfl) rfl ?_
   refine RL.val (Wanted.free rfl) (V.buildA [] rfl ba25 (by exact trivial) rfl) rfl ?_
   rw [show (List.replicate 32 (Value.int IntKind.u8 0)) = zero32.map v8 from rfl]
   refine RL.eff (Wanted.free rfl) (E.storeWhole rfl rfl rfl (by rw [List.length_map]; exact zero32_len) sz25 pickX (one8 _) (by first | rfl | (rw [List.length_replicate]))) rfl ?_
   rintro _ _ rfl
   refine RL.eff (Wanted.free rfl) (E.storeWhole rfl rfl rfl (by rw [List.length_map]; exact zero32_len) sz25 pickX (one8 _) (by first | rfl | (rw [List.length_replicate]))) rfl ?_
   rintro _ _ rfl
   refine RL.val (Wanted.free rfl) (V.assign rfl rfl) rfl ?_
   refine RL.nil ?_
   refine SG.retE (Ret.r3 Tryd.func62 rfl (.agg rfl ag25 pickX (take8 (by assumption)) (by rw [List.length_map]; assumption)) (.agg rfl ag25 pickX (take8 (by assumption)) (by rw [List.length_map]; assumption)) (.tmp rfl)) ?_ ⟨by first | (rw [values_whole]; simp [hd]; done) | (rw [values_nil hnw h0]; done) | (rw [values_nil hnw h0]; rfl) | (rw [values_part h0, hgx]; simp [hd]; done) | (rw [values_lo hne h0 h2 (by rw [hk]; omega), hk, hgx]; rfl) | (rw [values_hi hne h0 h2 (by rw [hk]; omega), hk, hgx]; rfl), rfl⟩
   exact entX
  ·
   refine RL.nil ?_
   refine SG.cond_false rfl ?_
   refine SG.skip ?_
   refine SG.seq ?_
   have h0 : ¬ p.length = 0 := by omega
   obtain ⟨x, hx⟩ : ∃ x, p[p.length - 1]? = some x := ⟨_, List.getElem?_eq_getElem (by omega)⟩
   have hxl := h32 x (List.mem_of_getElem? hx)
   have hgx : p.getD (p.length - 1) [] = x := by rw [List.getD_eq_getElem?_getD, hx]; rfl
   refine SG.region ?_
   refine RL.val (Wanted.free rfl) (V.move rfl rfl) rfl ?_
   refine RL.val (Wanted.free rfl) (V.move rfl rfl) rfl ?_
   refine RL.val (Wanted.free rfl) (V.len rfl rfl el22.under rfl) rfl ?_
   refine RL.val (Wanted.free rfl) (V.bin rfl rfl rfl (B.subI (by omega) (by omega))) rfl ?_
   refine RL.val (Wanted.free rfl) (V.indexSl (j := (p.length - 1)) rfl el22.slice rfl rfl memX (by first | rfl | omega) (by omega)) rfl ?_
   refine RL.val (Wanted.free rfl) (V.loadSlDt rfl ag25 rfl memX hx) rfl ?_
   refine RL.eff (Wanted.free rfl) (E.alloc rfl ze25) rfl ?_
   rintro _ _ ⟨b13, rfl, rfl⟩
   refine RL.eff (Wanted.free rfl) (E.storeWhole rfl rfl rfl (by rw [List.length_map]; exact hxl) sz25 pickX (one8 _) (by first | rfl | (rw [List.length_replicate]))) rfl ?_
   rintro _ _ rfl
   refine RL.nil ?_
   refine SG.seq ?_
   refine SG.region ?_
   refine RL.val (Wanted.free rfl) (V.move rfl rfl) rfl ?_
   refine RL.val (Wanted.free rfl) (V.move rfl rfl) rfl ?_
   refine RL.val (Wanted.free rfl) (V.len rfl rfl el22.under rfl) rfl ?_
   refine RL.val (Wanted.free rfl) (V.bin rfl rfl rfl (B.subI (by omega) (by omega))) rfl ?_
   refine RL.eff (Wanted.free rfl) (E.slice (lo := 0) (hi := (p.length - 1)) rfl el22.slice rfl memX rfl ⟨_, _, rfl, (by first | rfl | omega)⟩ (by omega) (by omega)) rfl ?_
   intro _ _ hK78
   try rw [List.drop_zero] at hK78
   iterate 2 (try rw [Nat.sub_zero] at hK78)
   obtain ⟨a78, rfl, rfl⟩ := hK78
   refine RL.val (Wanted.free rfl) (V.assign rfl rfl) rfl ?_
   refine RL.nil ?_
   refine SG.seq ?_
   refine SG.seq ?_
   refine SG.region ?_
   refine RL.val (Wanted.free rfl) (V.move rfl rfl) rfl ?_
   refine RL.val (Wanted.free rfl) (V.move rfl rfl) rfl ?_
   refine RL.cmpF (Wanted.free rfl) (V.bin rfl rfl rfl B.eql) rfl (by omega) ?_
   refine RL.nil ?_
   refine SG.cond_false rfl ?_
   refine SG.skip ?_
   refine SG.seq ?_
   have hne : q ≠ n := by omega
   have h2 : ¬ n < 2 := by omega
   obtain ⟨k, hk⟩ : ∃ k, spl n = k := ⟨_, rfl⟩
   have hk1 := spl_lt (n := n) (by omega)
   have hk2 := spl_pos n
   rw [hk] at hk1 hk2
   refine SG.region ?_
   refine RL.val (Wanted.free rfl) (V.move rfl rfl) rfl ?_
   refine RL.eff (Wanted.free rfl) (E.call rfl go49 rfl (rsplit_ok (n := n) (by omega) (by omega))) rfl ?_
   rintro _ _ ⟨rfl, hM⟩
   rw [hM, hk]
   refine RL.val (Wanted.free rfl) (V.assign rfl rfl) rfl ?_
   refine RL.nil ?_
   refine SG.seq ?_
   refine SG.seq ?_
   refine SG.region ?_
   refine RL.val (Wanted.free rfl) (V.move rfl rfl) rfl ?_
   refine RL.val (Wanted.free rfl) (V.move rfl rfl) rfl ?_
   refine RL.cmp (Wanted.free rfl) (V.bin rfl rfl rfl B.leq) rfl (fun h87 => ?_) (fun h87 => ?_)
   ·
    refine RL.nil ?_
    refine SG.cond_true rfl ?_
    refine SG.seq ?_
    have hl1 : (valuesV q k w old (p.take (p.length - 1))).1.length = 32 := (values_len ho _ _ _ _ _ (fun y hy => h32 y (List.mem_of_mem_take hy)) (Nat.le_refl _)).1
    have hl2 : (valuesV q k w old (p.take (p.length - 1))).2.1.length = 32 := (values_len ho _ _ _ _ _ (fun y hy => h32 y (List.mem_of_mem_take hy)) (Nat.le_refl _)).2
    refine SG.region ?_
    refine RL.val (Wanted.free rfl) (V.move rfl rfl) rfl ?_
    refine RL.val (Wanted.free rfl) (V.move rfl rfl) rfl ?_
    refine RL.val (Wanted.free rfl) (V.move rfl rfl) rfl ?_
    refine RL.val (Wanted.free rfl) (V.loadAgg (us := (old).map v8) rfl ag25 rfl pickX (take8 ho) (by rw [List.length_map]; exact ho)) rfl ?_
    refine RL.val (Wanted.free rfl) (V.move rfl rfl) rfl ?_
    refine RL.eff (Wanted.free rfl) (E.call rfl go62 rfl (ih k (by omega) q w (p.take (p.length - 1)) _ _ _ _ (by omega) (by omega) (by omega) memX)) rfl ?_
    rintro _ _ ⟨rfl, rfl⟩
    refine RL.val (Wanted.free rfl) (V.move rfl rfl) rfl ?_
    refine RL.val (Wanted.free rfl) (V.extract rfl rfl rfl) rfl ?_
    refine RL.val (Wanted.free rfl) (V.extract rfl rfl rfl) rfl ?_
    refine RL.val (Wanted.free rfl) (V.extract rfl rfl rfl) rfl ?_
    refine RL.eff (Wanted.free rfl) (E.alloc rfl ze25) rfl ?_
    rintro _ _ ⟨b16, rfl, rfl⟩
    refine RL.eff (Wanted.free rfl) (E.alloc rfl ze25) rfl ?_
    rintro _ _ ⟨b17, rfl, rfl⟩
    refine RL.eff (Wanted.free rfl) (E.storeWhole rfl rfl rfl (by rw [List.length_map]; exact hl1) sz25 pickX (one8 _) (by first | rfl | (rw [List.length_replicate]))) rfl ?_
    rintro _ _ rfl
    refine RL.eff (Wanted.free rfl) (E.storeWhole rfl rfl rfl (by rw [List.length_map]; exact hl2) sz25 pickX (one8 _) (by first | rfl | (rw [List.length_replicate]))) rfl ?_
    rintro _ _ rfl
    refine RL.val (Wanted.free rfl) (V.assign rfl rfl) rfl ?_
    refine RL.nil ?_
    refine SG.seq ?_
    have hn1 : (node ((valuesV q k w old (p.take (p.length - 1))).2.1) (x)).length = 32 := node_length _ _
    refine SG.drawN 8 8 (Blk b17 25 ((valuesV q k w old (p.take (p.length - 1))).2.1.map v8) :: Blk b16 25 ((valuesV q k w old (p.take (p.length - 1))).1.map v8) :: Blk b13 25 (x.map v8) :: L) wide rfl rfl (by repeat (first | exact Ent.refl _ | (apply Ent.cons; (· repeat (first | exact Pick.here | (refine Pick.sl ?_; (· repeat (first | exact List.Mem.head _ | assumption | apply List.Mem.tail))) | apply Pick.there))) | (refine Ent.trans (Ent.drop _ _) ?_))) ?_
    refine RH.val 0 rfl krX krX krX krX (Wanted.free rfl) (V.loadAgg (us := ((valuesV q k w old (p.take (p.length - 1))).1).map v8) rfl ag25 rfl pickX (take8 hl1) (by rw [List.length_map]; exact hl1)) rfl ?_
    refine RH.val 1 rfl krX krX krX krX (Wanted.free rfl) (V.loadAgg (us := ((valuesV q k w old (p.take (p.length - 1))).2.1).map v8) rfl ag25 rfl pickX (take8 hl2) (by rw [List.length_map]; exact hl2)) rfl ?_
    refine RH.val 2 rfl krX krX krX krX (Wanted.free rfl) (V.loadAgg (us := (x).map v8) rfl ag25 rfl pickX (take8 hxl) (by rw [List.length_map]; exact hxl)) rfl ?_
    refine RH.val 4 rfl krX krX krX krX (Wanted.free rfl) (V.move rfl rfl) rfl ?_
    refine RH.one (i := 3) krX ?_
    refine RHone.eff rfl (Wanted.free rfl) (E.call rfl go50 rfl (rnode_ok hl2 hxl)) rfl ?_
    rintro _ _ ⟨rfl, rfl⟩
    refine ⟨.inr entX, ?_⟩
    refine RH.one (i := 5) krX ?_
    refine RHone.eff rfl (Wanted.free rfl) (E.storeWhole rfl rfl rfl (by rw [List.length_map]; exact hl1) sz25 pickX (one8 _) (by first | rfl | (rw [List.length_replicate]))) rfl ?_
    rintro _ _ rfl
    refine ⟨.inr entX, ?_⟩
    refine RH.one (i := 6) krX ?_
    refine RHone.eff rfl (Wanted.free rfl) (E.storeWhole rfl rfl rfl (by rw [List.length_map]; exact hn1) sz25 pickX (one8 _) (by first | rfl | (rw [List.length_replicate]))) rfl ?_
    rintro _ _ rfl
    refine ⟨.inr entX, ?_⟩
    refine RH.val 7 rfl krX krX krX krX (Wanted.free rfl) (V.assign rfl rfl) rfl ?_
    refine RH.done krX ?_
    refine SG.retE (Ret.r3 Tryd.func62 rfl (.agg rfl ag25 pickX (take8 (by assumption)) (by rw [List.length_map]; assumption)) (.agg rfl ag25 pickX (take8 (by assumption)) (by rw [List.length_map]; assumption)) (.tmp rfl)) ?_ ⟨by first | (rw [values_whole]; simp [hd]; done) | (rw [values_nil hnw h0]; done) | (rw [values_nil hnw h0]; rfl) | (rw [values_part h0, hgx]; simp [hd]; done) | (rw [values_lo hne h0 h2 (by rw [hk]; omega), hk, hgx]; rfl) | (rw [values_hi hne h0 h2 (by rw [hk]; omega), hk, hgx]; rfl), rfl⟩
    exact entX
   ·
    refine RL.nil ?_
    refine SG.cond_false rfl ?_
    refine SG.skip ?_
    refine SG.seq ?_
    have hl1 : (valuesV (q - k) (n - k) false old (p.take (p.length - 1))).1.length = 32 := (values_len ho _ _ _ _ _ (fun y hy => h32 y (List.mem_of_mem_take hy)) (Nat.le_refl _)).1
    have hl2 : (valuesV (q - k) (n - k) false old (p.take (p.length - 1))).2.1.length = 32 := (values_len ho _ _ _ _ _ (fun y hy => h32 y (List.mem_of_mem_take hy)) (Nat.le_refl _)).2
    refine SG.region ?_
    refine RL.val (Wanted.free rfl) (V.move rfl rfl) rfl ?_
    refine RL.val (Wanted.free rfl) (V.move rfl rfl) rfl ?_
    refine RL.val (Wanted.free rfl) (V.bin rfl rfl rfl (B.subI (by omega) (by omega))) rfl ?_
    rw [show (q : Int) - (k : Int) = ((q - k : Nat) : Int) from by omega]
    refine RL.val (Wanted.free rfl) (V.move rfl rfl) rfl ?_
    refine RL.val (Wanted.free rfl) (V.move rfl rfl) rfl ?_
    refine RL.val (Wanted.free rfl) (V.bin rfl rfl rfl (B.subI (by omega) (by omega))) rfl ?_
    rw [show (n : Int) - (k : Int) = ((n - k : Nat) : Int) from by omega]
    refine RL.val (Wanted.free rfl) (V.loadAgg (us := (old).map v8) rfl ag25 rfl pickX (take8 ho) (by rw [List.length_map]; exact ho)) rfl ?_
    refine RL.val (Wanted.free rfl) (V.move rfl rfl) rfl ?_
    refine RL.eff (Wanted.free rfl) (E.call rfl go62 rfl (ih (n - k) (by omega) (q - k) false (p.take (p.length - 1)) _ _ _ _ (by omega) (by omega) (by omega) memX)) rfl ?_
    rintro _ _ ⟨rfl, rfl⟩
    refine RL.val (Wanted.free rfl) (V.move rfl rfl) rfl ?_
    refine RL.val (Wanted.free rfl) (V.extract rfl rfl rfl) rfl ?_
    refine RL.val (Wanted.free rfl) (V.extract rfl rfl rfl) rfl ?_
    refine RL.val (Wanted.free rfl) (V.extract rfl rfl rfl) rfl ?_
    refine RL.eff (Wanted.free rfl) (E.alloc rfl ze25) rfl ?_
    rintro _ _ ⟨b19, rfl, rfl⟩
    refine RL.eff (Wanted.free rfl) (E.alloc rfl ze25) rfl ?_
    rintro _ _ ⟨b20, rfl, rfl⟩
    refine RL.eff (Wanted.free rfl) (E.storeWhole rfl rfl rfl (by rw [List.length_map]; exact hl1) sz25 pickX (one8 _) (by first | rfl | (rw [List.length_replicate]))) rfl ?_
    rintro _ _ rfl
    refine RL.eff (Wanted.free rfl) (E.storeWhole rfl rfl rfl (by rw [List.length_map]; exact hl2) sz25 pickX (one8 _) (by first | rfl | (rw [List.length_replicate]))) rfl ?_
    rintro _ _ rfl
    refine RL.val (Wanted.free rfl) (V.assign rfl rfl) rfl ?_
    refine RL.nil ?_
    refine SG.seq ?_
    have hn1 : (node (x) ((valuesV (q - k) (n - k) false old (p.take (p.length - 1))).1)).length = 32 := node_length _ _
    have hn2 : (node (x) ((valuesV (q - k) (n - k) false old (p.take (p.length - 1))).2.1)).length = 32 := node_length _ _
    refine SG.drawN 10 10 (Blk b20 25 ((valuesV (q - k) (n - k) false old (p.take (p.length - 1))).2.1.map v8) :: Blk b19 25 ((valuesV (q - k) (n - k) false old (p.take (p.length - 1))).1.map v8) :: Blk b13 25 (x.map v8) :: L) wide rfl rfl (by repeat (first | exact Ent.refl _ | (apply Ent.cons; (· repeat (first | exact Pick.here | (refine Pick.sl ?_; (· repeat (first | exact List.Mem.head _ | assumption | apply List.Mem.tail))) | apply Pick.there))) | (refine Ent.trans (Ent.drop _ _) ?_))) ?_
    refine RH.val 0 rfl krX krX krX krX (Wanted.free rfl) (V.loadAgg (us := (x).map v8) rfl ag25 rfl pickX (take8 hxl) (by rw [List.length_map]; exact hxl)) rfl ?_
    refine RH.val 1 rfl krX krX krX krX (Wanted.free rfl) (V.loadAgg (us := ((valuesV (q - k) (n - k) false old (p.take (p.length - 1))).1).map v8) rfl ag25 rfl pickX (take8 hl1) (by rw [List.length_map]; exact hl1)) rfl ?_
    refine RH.val 3 rfl krX krX krX krX (Wanted.free rfl) (V.loadAgg (us := (x).map v8) rfl ag25 rfl pickX (take8 hxl) (by rw [List.length_map]; exact hxl)) rfl ?_
    refine RH.val 4 rfl krX krX krX krX (Wanted.free rfl) (V.loadAgg (us := ((valuesV (q - k) (n - k) false old (p.take (p.length - 1))).2.1).map v8) rfl ag25 rfl pickX (take8 hl2) (by rw [List.length_map]; exact hl2)) rfl ?_
    refine RH.val 6 rfl krX krX krX krX (Wanted.free rfl) (V.move rfl rfl) rfl ?_
    refine RH.one (i := 2) krX ?_
    refine RHone.eff rfl (Wanted.free rfl) (E.call rfl go50 rfl (rnode_ok hxl hl1)) rfl ?_
    rintro _ _ ⟨rfl, rfl⟩
    refine ⟨.inr entX, ?_⟩
    refine RH.one (i := 5) krX ?_
    refine RHone.eff rfl (Wanted.free rfl) (E.call rfl go50 rfl (rnode_ok hxl hl2)) rfl ?_
    rintro _ _ ⟨rfl, rfl⟩
    refine ⟨.inr entX, ?_⟩
    refine RH.one (i := 7) krX ?_
    refine RHone.eff rfl (Wanted.free rfl) (E.storeWhole rfl rfl rfl (by rw [List.length_map]; exact hn1) sz25 pickX (one8 _) (by first | rfl | (rw [List.length_replicate]))) rfl ?_
    rintro _ _ rfl
    refine ⟨.inr entX, ?_⟩
    refine RH.one (i := 8) krX ?_
    refine RHone.eff rfl (Wanted.free rfl) (E.storeWhole rfl rfl rfl (by rw [List.length_map]; exact hn2) sz25 pickX (one8 _) (by first | rfl | (rw [List.length_replicate]))) rfl ?_
    rintro _ _ rfl
    refine ⟨.inr entX, ?_⟩
    refine RH.val 9 rfl krX krX krX krX (Wanted.free rfl) (V.assign rfl rfl) rfl ?_
    refine RH.done krX ?_
    refine SG.retE (Ret.r3 Tryd.func62 rfl (.agg rfl ag25 pickX (take8 (by assumption)) (by rw [List.length_map]; assumption)) (.agg rfl ag25 pickX (take8 (by assumption)) (by rw [List.length_map]; assumption)) (.tmp rfl)) ?_ ⟨by first | (rw [values_whole]; simp [hd]; done) | (rw [values_nil hnw h0]; done) | (rw [values_nil hnw h0]; rfl) | (rw [values_part h0, hgx]; simp [hd]; done) | (rw [values_lo hne h0 h2 (by rw [hk]; omega), hk, hgx]; rfl) | (rw [values_hi hne h0 h2 (by rw [hk]; omega), hk, hgx]; rfl), rfl⟩
    exact entX

theorem values_all {κ : World} {old : Hs} (ho : old.length = 32) : ∀ (N n : Nat), n ≤ N → valuesAt κ old n
  | 0, n, h => fun _ _ _ _ _ _ _ h0 h1 => absurd h1 (by omega)
  | N + 1, n, h => fun _ _ _ _ _ _ _ h0 h1 h2 h3 => values_step h0 h1 h2 ho h3 fun k hk => values_all ho N k (by omega)
end Go.Proofs.YtcbloadpffjkiaaDoor
