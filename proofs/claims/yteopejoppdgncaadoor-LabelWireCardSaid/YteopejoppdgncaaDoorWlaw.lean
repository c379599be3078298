/- The law LabelWire. -/
import Derived.Test.YteopejoppdgncaaDoorLaws
import Derived.Test.YteopejoppdgncaaDoorReaderb
import Derived.Test.YteopejoppdgncaaDoorPlain3
namespace Go.Proofs.YteopejoppdgncaaDoor
open Go.Wk Go.Lb Go.Wire

def lab (fl : List Int) (k : Nat) : Lab := labOf (fl.getD (2 * k) 0) (fl.getD (2 * k + 1) 0)
def texts (fl : List Int) : List (List UInt8) := (List.range (fl.length / 2)).map fun k => textV (lab fl k)
def encs (ts : List (List UInt8)) : List UInt8 := ts.flatMap encText
theorem texts_len (fl : List Int) : (texts fl).length = fl.length / 2 := by simp [texts]
theorem texts_get {fl : List Int} {k : Nat} (h : k < fl.length / 2) : (texts fl)[k]? = some (textV (lab fl k)) := by
  unfold texts; rw [List.getElem?_map, List.getElem?_range h]; rfl
theorem encs_snoc {fl : List Int} {k : Nat} (h : k < fl.length / 2) : encs ((texts fl).take (k + 1)) = encs ((texts fl).take k) ++ encText (textV (lab fl k)) := by
  unfold encs; rw [List.take_add_one, texts_get h]; simp
theorem encs_cons {fl : List Int} {k : Nat} (h : k < fl.length / 2) : encs ((texts fl).drop k) = encText (textV (lab fl k)) ++ encs ((texts fl).drop (k + 1)) := by
  have hl : k < (texts fl).length := by rw [texts_len]; exact h
  have hg := texts_get h
  rw [List.getElem?_eq_getElem hl] at hg
  unfold encs; rw [List.drop_eq_getElem_cons hl, List.flatMap_cons, Option.some.inj hg]
theorem encs_le (fl : List Int) : ∀ k, (encs ((texts fl).take k)).length ≤ 18 * k
  | 0 => by simp [encs]
  | k + 1 => by
    by_cases h : k < fl.length / 2
    · have := encs_le fl k
      have h1 := text_len (l := lab fl k)
      have h2 := (enc_length (UInt64.ofNat (textV (lab fl k)).length)).1
      rw [encs_snoc h, List.length_append, encText, List.length_append]; omega
    · have := encs_le fl k
      rw [List.take_of_length_le (by rw [texts_len]; omega)] at this ⊢
      omega
theorem Sep.slInts {κ w : World} {L : List Assn} {a : Option Addr} {m c : Nat} {l : List Int} (hs : Sep κ w L) (hm : Sl RI a m c l ∈ L) : ∀ x ∈ l, inInt x := by
  obtain ⟨z, _, k1, _, _, k4⟩ := hs.sl hm
  rcases k4 with k4 | ⟨_, _, _, _, _, hr⟩
  · intro x hx
    have : l = [] := List.eq_nil_of_length_eq_zero (by omega)
    rw [this] at hx; cases hx
  · exact (rows_sc.1 hr).2

set_option maxRecDepth 100000 in
theorem ints_ok {κ : World} {L : List Assn} {a : Option Addr} {m c : Nat} {l : List Int} {k : Int} (hm : Sl RI a m c l ∈ L) (hk : 0 ≤ k) (hk2 : k ≤ 1000000) :
    Ctr Tryd.prog 26 #[.slice a m c, vI k] κ L (fun v M => ∃ a' k' c', v = .slice a' k' c' ∧ M = Buf RI 3 a' k' c' (l.take k.toNat) :: L) := by
 refine Ctr.enter (vs := [.slice a m c, vI k]) (m := 14) Tryd.func26 rfl rfl rfl ?_
 refine SG.sl hm fun hl _ _ => ?_
 obtain ⟨k, rfl⟩ := Int.eq_ofNat_of_zero_le hk
 refine SG.seq ?_
 refine SG.region ?_
 refine RL.val (Wanted.free rfl) (V.assign rfl rfl) rfl ?_
 refine RL.nil ?_
 refine SG.seq ?_
 refine SG.region ?_
 refine RL.val (Wanted.free rfl) (V.assign rfl rfl) rfl ?_
 refine RL.nil ?_
 refine SG.seq ?_
 refine SG.region ?_
 refine RL.val (Wanted.free rfl) (V.move rfl rfl) rfl ?_
 refine RL.val (Wanted.free rfl) (V.move rfl rfl) rfl ?_
 refine RL.val (Wanted.free rfl) (V.move rfl rfl) rfl ?_
 refine RL.val (Wanted.free rfl) (V.len rfl rfl el44.under rfl) rfl ?_
 refine RL.val (Wanted.free rfl) (V.move rfl rfl) rfl ?_
 refine RL.val (Wanted.free rfl) (V.min rfl rfl rfl rfl) rfl ?_
 refine RL.eff (Wanted.free rfl) (E.slice (lo := 0) (hi := min m k) rfl el44.slice rfl memX rfl ⟨_, _, rfl, (by first | rfl | omega)⟩ (by omega) (by omega)) rfl ?_
 intro _ _ hK9
 try rw [List.drop_zero] at hK9
 iterate 2 (try rw [Nat.sub_zero] at hK9)
 rw [show l.take (min m k) = l.take k from by rw [← hl, List.take_eq_take_iff]; omega] at hK9
 obtain ⟨a9, rfl, rfl⟩ := hK9
 refine RL.ent (Buf.nil (T := RI) (e := 3)) ?_
 refine RL.eff (Wanted.free rfl) (E.append (T := RI) rfl rfl rfl el44 el44.noInt rfl rfl pickX (Src.sl (by decide) memX) (by first | omega | (simp; omega)) (by first | omega | (simp; omega))) rfl ?_
 intro _ _ hK10
 try rw [List.nil_append] at hK10
 try rw [Nat.zero_add] at hK10
 obtain ⟨a10, c10, rfl, rfl⟩ := hK10
 refine RL.val (Wanted.free rfl) (V.assign rfl rfl) rfl ?_
 refine RL.nil ?_
 refine SG.retE (Ret.r1 Tryd.func26 rfl (.tmp rfl)) ?_ ⟨_, _, _, rfl, rfl⟩
 exact entX

set_option maxRecDepth 100000 in
set_option maxHeartbeats 2000000 in
theorem wire_law {κ : World} {L : List Assn} {a : Option Addr} {m c : Nat} {l : List Int} (hm : Sl RI a m c l ∈ L) (hT : Glob 0 pows ∈ L) :
    Ctr Tryd.prog 11 #[.slice a m c] κ L (fun v M => v = vB true ∧ M = L) := by
 refine Ctr.enter (vs := [.slice a m c]) (m := 71) Tryd.func11 rfl rfl rfl ?_
 refine SG.fact (fun w hs => Sep.slInts hs hm) fun hall => ?_
 refine SG.seq ?_
 refine SG.region ?_
 refine RL.val (Wanted.free rfl) (V.assign rfl rfl) rfl ?_
 refine RL.nil ?_
 refine SG.seq ?_
 refine SG.region ?_
 refine RL.val (Wanted.free rfl) (V.move rfl rfl) rfl ?_
 refine RL.eff (Wanted.free rfl) (E.call rfl go26 rfl (ints_ok (a := a) (k := 40) memX (by decide) (by decide))) rfl ?_
 rintro _ _ ⟨a3, n3, c3, rfl, rfl⟩
 refine RL.publish (T := RI) (a := a3) Pick.here ?_
 refine RL.val (Wanted.free rfl) (V.assign rfl rfl) rfl ?_
 refine RL.nil ?_
 refine SG.seq ?_
 have hin : ∀ x ∈ l.take (Int.toNat 40), inInt x := fun x hx => hall x (List.mem_of_mem_take hx)
 have h40 : (l.take (Int.toNat 40)).length ≤ 40 := by rw [List.length_take]; have : Int.toNat 40 = 40 := rfl; omega
 generalize l.take (Int.toNat 40) = fl at hin h40 ⊢
 refine SG.sl (T := RI) (a := a3) (l := fl) (List.Mem.head _) fun hn3 _ _ => ?_
 refine SG.region ?_
 refine RL.eff (Wanted.free rfl) (E.alloc rfl ze49) rfl ?_
 rintro _ _ ⟨b4, rfl, rfl⟩
 have hWr : Ent (Blk b4 49 [.slice none 0 0] :: Sl RI a3 n3 c3 fl :: L) (Wr b4 (encs ((texts fl).take 0)) :: Sl RI a3 n3 c3 fl :: L) := Ent.trans (Ent.trans (Buf.nil (T := R8) (e := 5)) (Ent.swap _ _ _)) Wr.close
 refine RL.ent hWr ?_
 refine RL.nil ?_
 refine SG.seq ?_
 refine SG.seq ?_
 refine SG.region ?_
 refine RL.val (Wanted.free rfl) (V.assign rfl rfl) rfl ?_
 refine RL.nil ?_
 refine SG.block ?_
 refine SG.weaken (SG.loop2 (fun m0 al M => ∃ j : Nat, 2 * j ≤ fl.length + 1 ∧ m0 = fl.length + 2 - 2 * j ∧ al = [(3, .slice a3 n3 c3), (4, ptr b4 0), (5, vI ((2 * j : Nat) : Int))] ∧ M = Wr b4 (encs ((texts fl).take j)) :: Sl RI a3 n3 c3 fl :: L) (m0 := _) ⟨0, by omega, rfl, rfl, rfl⟩ ?_) ?_ ?_
 rotate_left
 ·
  repeat (first | exact EnvLe.nil _ | refine EnvLe.cons rfl ?_)
 ·
  exact entX
 rintro _ _ _ ⟨j, hj, rfl, rfl, rfl⟩ ih0
 refine SG.seq ?_
 refine SG.seq ?_
 refine SG.region ?_
 refine RL.val (Wanted.free rfl) (V.move rfl rfl) rfl ?_
 refine RL.val (Wanted.free rfl) (V.bin rfl rfl rfl (B.addI (by omega) (by omega))) rfl ?_
 refine RL.val (Wanted.free rfl) (V.move rfl rfl) rfl ?_
 refine RL.val (Wanted.free rfl) (V.len rfl rfl el44.under rfl) rfl ?_
 refine RL.cmp (Wanted.free rfl) (V.bin rfl rfl rfl B.lss) rfl (fun h11 => ?_) (fun h11 => ?_)
 ·
  refine RL.nil ?_
  refine SG.cond_true rfl ?_
  refine SG.skip ?_
  refine SG.seq ?_
  refine SG.block ?_
  have hg0 : fl[2 * j]? = some (fl.getD (2 * j) 0) := by rw [List.getD_eq_getElem?_getD, List.getElem?_eq_getElem (by omega)]; rfl
  have hg1 : fl[2 * j + 1]? = some (fl.getD (2 * j + 1) 0) := by rw [List.getD_eq_getElem?_getD, List.getElem?_eq_getElem (by omega)]; rfl
  have hi0 := hin _ (List.mem_of_getElem? hg0)
  have hi1 := hin _ (List.mem_of_getElem? hg1)
  have hj2 : j < fl.length / 2 := by omega
  have hlab : labOf (fl.getD (2 * j) 0) (fl.getD (2 * j + 1) 0) = lab fl j := rfl
  have hel := encs_le fl j
  have htl := text_len (l := lab fl j)
  refine SG.drawN 12 12 (Sl RI a3 n3 c3 fl :: L) wide rfl rfl (by repeat (first | exact Ent.refl _ | (apply Ent.cons; (· repeat (first | exact Pick.here | (refine Pick.sl ?_; (· repeat (first | exact List.Mem.head _ | assumption | apply List.Mem.tail))) | apply Pick.there))) | (refine Ent.trans (Ent.drop _ _) ?_))) ?_
  refine RH.val 0 rfl krX krX krX krX (Wanted.free rfl) (V.move rfl rfl) rfl ?_
  refine RH.val 1 rfl krX krX krX krX (Wanted.free rfl) (V.move rfl rfl) rfl ?_
  refine RH.val 2 rfl krX krX krX krX (Wanted.free rfl) (V.indexSl (T := RI) (a := a3) (l := fl) (j := 2 * j) rfl el44.slice rfl rfl memX (by omega) (by omega)) rfl ?_
  refine RH.val 3 rfl krX krX krX krX (Wanted.free rfl) (V.loadSc (l := fl) (y := fl.getD (2 * j) 0) (j := 2 * j) rfl on3 rfl (show Sl RI a3 n3 c3 fl ∈ _ from memX) hg0) rfl ?_
  refine RH.val 4 rfl krX krX krX krX (Wanted.free rfl) (V.move rfl rfl) rfl ?_
  refine RH.val 5 rfl krX krX krX krX (Wanted.free rfl) (V.move rfl rfl) rfl ?_
  refine RH.val 6 rfl krX krX krX krX (Wanted.free rfl) (V.bin rfl rfl rfl (B.addI (by omega) (by omega))) rfl ?_
  refine RH.val 7 rfl krX krX krX krX (Wanted.free rfl) (V.indexSl (T := RI) (a := a3) (l := fl) (j := 2 * j + 1) rfl el44.slice rfl rfl memX (by omega) (by omega)) rfl ?_
  refine RH.val 8 rfl krX krX krX krX (Wanted.free rfl) (V.loadSc (l := fl) (y := fl.getD (2 * j + 1) 0) (j := 2 * j + 1) rfl on3 rfl (show Sl RI a3 n3 c3 fl ∈ _ from memX) hg1) rfl ?_
  refine RH.one (i := 9) krX ?_
  refine RHone.eff rfl (Wanted.free rfl) (E.call rfl go24 rfl (label_ok (n := fl.getD (2 * j) 0) (k := fl.getD (2 * j + 1) 0) hi0 hi1)) rfl ?_
  rintro _ _ ⟨rfl, rfl⟩
  refine ⟨.inr entX, ?_⟩
  rw [hlab]
  refine RH.one (i := 10) krX ?_
  refine RHone.eff rfl (Wanted.free rfl) (E.call rfl go16 rfl (lText_ok (l := lab fl j) memX)) rfl ?_
  rintro _ _ ⟨rfl, rfl⟩
  refine ⟨.inr entX, ?_⟩
  refine RH.one (i := 11) krX ?_
  refine RHone.eff rfl (Wanted.free rfl) (E.call rfl go27 rfl (wText_ok (b := b4) (textV (lab fl j)) pickX (by omega))) rfl ?_
  rintro _ _ ⟨rfl, rfl⟩
  refine ⟨.inr entX, ?_⟩
  rw [← encs_snoc hj2]
  refine RH.done krX ?_
  refine SG.inBlock ?_
  refine SG.region ?_
  refine RL.val (Wanted.free rfl) (V.move rfl rfl) rfl ?_
  refine RL.val (Wanted.free rfl) (V.bin rfl rfl rfl (B.addI (by omega) (by omega))) rfl ?_
  refine RL.val (Wanted.free rfl) (V.assign rfl rfl) rfl ?_
  refine RL.nil ?_
  refine SG.weaken (ih0 _ _ _ ?_ ⟨j + 1, by omega, rfl, rfl, rfl⟩) ?_ ?_
  ·
   omega
  ·
   repeat (first | exact EnvLe.nil _ | refine EnvLe.cons rfl ?_)
  ·
   exact entX
 ·
  refine RL.nil ?_
  refine SG.cond_false rfl ?_
  refine SG.exit rfl ?_
  refine SG.seq ?_
  have hJ : (texts fl).take j = texts fl := List.take_of_length_le (by rw [texts_len]; omega)
  rw [hJ]
  have hel := encs_le fl j
  rw [hJ] at hel
  refine SG.region ?_
  refine RL.val (Wanted.free rfl) (V.fieldAddr rfl rfl fo49_0) rfl ?_
  refine RL.eff (Wanted.free rfl) (E.call rfl go29 rfl (done_ok (b := b4) (l := encs (texts fl)) pickX (by omega))) rfl ?_
  rintro _ _ ⟨a32, k32, c32, rfl, rfl⟩
  refine RL.publish (T := R8) (a := a32) Pick.here ?_
  refine RL.eff (Wanted.free rfl) (E.call rfl go28 rfl (newReader_sl (l := encs (texts fl)) memX (by omega))) rfl ?_
  rintro _ _ ⟨b33, rfl, rfl⟩
  refine RL.val (Wanted.free rfl) (V.assign rfl rfl) rfl ?_
  refine RL.nil ?_
  refine SG.seq ?_
  refine SG.seq ?_
  refine SG.region ?_
  refine RL.val (Wanted.free rfl) (V.move rfl rfl) rfl ?_
  refine RL.cmpF (Wanted.free rfl) (V.eqlPtrNil rfl up51 rfl rfl) rfl (by simp) ?_
  refine RL.nil ?_
  refine SG.cond_false rfl ?_
  refine SG.skip ?_
  refine SG.seq ?_
  refine SG.seq ?_
  refine SG.region ?_
  refine RL.val (Wanted.free rfl) (V.assign rfl rfl) rfl ?_
  refine RL.nil ?_
  refine SG.block ?_
  refine SG.weaken (SG.loop2 (fun m0 al M => ∃ j : Nat, 2 * j ≤ fl.length + 1 ∧ m0 = fl.length + 2 - 2 * j ∧ al = [(3, .slice a3 n3 c3), (6, ptr b33 0), (7, vI ((2 * j : Nat) : Int))] ∧ M = Rdr b33 (encs ((texts fl).drop j)) 0 :: Sl RI a3 n3 c3 fl :: L) (m0 := _) ⟨0, by omega, rfl, rfl, rfl⟩ ?_) ?_ ?_
  rotate_left
  ·
   repeat (first | exact EnvLe.nil _ | refine EnvLe.cons rfl ?_)
  ·
   rw [List.drop_zero]
   exact entX
  rintro _ _ _ ⟨j, hj, rfl, rfl, rfl⟩ ih1
  refine SG.seq ?_
  refine SG.seq ?_
  refine SG.region ?_
  refine RL.val (Wanted.free rfl) (V.move rfl rfl) rfl ?_
  refine RL.val (Wanted.free rfl) (V.bin rfl rfl rfl (B.addI (by omega) (by omega))) rfl ?_
  refine RL.val (Wanted.free rfl) (V.move rfl rfl) rfl ?_
  refine RL.val (Wanted.free rfl) (V.len rfl rfl el44.under rfl) rfl ?_
  refine RL.cmp (Wanted.free rfl) (V.bin rfl rfl rfl B.lss) rfl (fun h37 => ?_) (fun h37 => ?_)
  ·
   refine RL.nil ?_
   refine SG.cond_true rfl ?_
   refine SG.skip ?_
   refine SG.seq ?_
   refine SG.block ?_
   refine SG.seq ?_
   have hg0 : fl[2 * j]? = some (fl.getD (2 * j) 0) := by rw [List.getD_eq_getElem?_getD, List.getElem?_eq_getElem (by omega)]; rfl
   have hg1 : fl[2 * j + 1]? = some (fl.getD (2 * j + 1) 0) := by rw [List.getD_eq_getElem?_getD, List.getElem?_eq_getElem (by omega)]; rfl
   have hi0 := hin _ (List.mem_of_getElem? hg0)
   have hi1 := hin _ (List.mem_of_getElem? hg1)
   have hj2 : j < fl.length / 2 := by omega
   have hlab : labOf (fl.getD (2 * j) 0) (fl.getD (2 * j + 1) 0) = lab fl j := rfl
   refine SG.region ?_
   refine RL.val (Wanted.free rfl) (V.move rfl rfl) rfl ?_
   refine RL.eff (Wanted.free rfl) (E.call rfl go30 rfl (rdText_ok 9 (b := b33) pickX (by decide) (by decide))) rfl ?_
   rintro _ _ ⟨l45, e45, s45, r45, rfl, rfl, hs45⟩
   rw [encs_cons hj2, rdS_enc (by have := text_len (l := lab fl j); omega) (by decide)] at r45
   cases r45
   refine RL.eff (Wanted.free rfl) (E.call rfl go20 rfl (lParse_ok (s := textV (lab fl j)))) rfl ?_
   rintro _ _ ⟨rfl, rfl⟩
   rw [parse_text (show okL (lab fl j) from labOf_ok _ _)]
   refine RL.val (Wanted.free rfl) (V.move rfl rfl) rfl ?_
   refine RL.val (Wanted.free rfl) (V.extract rfl rfl rfl) rfl ?_
   refine RL.val (Wanted.free rfl) (V.extract rfl rfl rfl) rfl ?_
   refine RL.eff (Wanted.free rfl) (E.alloc rfl ze23) rfl ?_
   rintro _ _ ⟨b8, rfl, rfl⟩
   refine RL.eff (Wanted.free rfl) (E.storeWhole rfl rfl rfl (by rfl) sz23 pickX (by first | (simp [Value.oneCell']; done) | (simp [setAt, Value.oneCell']; done)) (by rfl)) rfl ?_
   rintro _ _ rfl
   refine RL.val (Wanted.free rfl) (V.assign rfl rfl) rfl ?_
   refine RL.nil ?_
   refine SG.seq ?_
   refine SG.drawL 16 16 wide rfl rfl ?_
   refine RH.val 0 rfl krX krX krX krX (Wanted.free rfl) (V.move rfl rfl) rfl ?_
   refine RH.cmpF 1 rfl krX krX krX krX (Wanted.free rfl) (V.bin rfl rfl rfl B.neq) rfl (fun h => h rfl) ?_
   refine RH.val 2 rfl krX krX krX krX (Wanted.free rfl) (V.move rfl rfl) rfl ?_
   refine RH.val 3 rfl krX krX krX krX (Wanted.yes rfl rfl rfl rfl) (V.loadAgg (us := [vI (lab fl j).num, vI (lab fl j).suf]) rfl ag23 rfl pickX rfl rfl) rfl ?_
   refine RH.val 4 rfl krX krX krX krX (Wanted.yes rfl rfl rfl rfl) (V.move rfl rfl) rfl ?_
   refine RH.val 5 rfl krX krX krX krX (Wanted.yes rfl rfl rfl rfl) (V.move rfl rfl) rfl ?_
   refine RH.val 6 rfl krX krX krX krX (Wanted.yes rfl rfl rfl rfl) (V.indexSl (T := RI) (a := a3) (l := fl) (j := 2 * j) rfl el44.slice rfl rfl memX (by omega) (by omega)) rfl ?_
   refine RH.val 7 rfl krX krX krX krX (Wanted.yes rfl rfl rfl rfl) (V.loadSc (l := fl) (y := fl.getD (2 * j) 0) (j := 2 * j) rfl on3 rfl (show Sl RI a3 n3 c3 fl ∈ _ from memX) hg0) rfl ?_
   refine RH.val 8 rfl krX krX krX krX (Wanted.yes rfl rfl rfl rfl) (V.move rfl rfl) rfl ?_
   refine RH.val 9 rfl krX krX krX krX (Wanted.yes rfl rfl rfl rfl) (V.move rfl rfl) rfl ?_
   refine RH.val 10 rfl krX krX krX krX (Wanted.yes rfl rfl rfl rfl) (V.bin rfl rfl rfl (B.addI (by omega) (by omega))) rfl ?_
   refine RH.val 11 rfl krX krX krX krX (Wanted.yes rfl rfl rfl rfl) (V.indexSl (T := RI) (a := a3) (l := fl) (j := 2 * j + 1) rfl el44.slice rfl rfl memX (by omega) (by omega)) rfl ?_
   refine RH.val 12 rfl krX krX krX krX (Wanted.yes rfl rfl rfl rfl) (V.loadSc (l := fl) (y := fl.getD (2 * j + 1) 0) (j := 2 * j + 1) rfl on3 rfl (show Sl RI a3 n3 c3 fl ∈ _ from memX) hg1) rfl ?_
   refine RH.one (i := 13) krX ?_
   refine RHone.eff rfl (Wanted.yes rfl rfl rfl rfl) (E.call rfl go24 rfl (label_ok (n := fl.getD (2 * j) 0) (k := fl.getD (2 * j + 1) 0) hi0 hi1)) rfl ?_
   rintro _ _ ⟨rfl, rfl⟩
   refine ⟨.inr entX, ?_⟩
   rw [hlab]
   refine RH.cmpF 14 rfl krX krX krX krX (Wanted.yes rfl rfl rfl rfl) (V.neqLab (s := (lab fl j)) (s' := (lab fl j)) rfl rfl rfl) rfl (fun h => h rfl) ?_
   refine RH.pure 15 rfl krX krX krX krX (Wanted.free rfl) (V.pick_false rfl rfl rfl) rfl ?_
   refine RH.done krX ?_
   refine SG.cond_false rfl ?_
   refine SG.skip ?_
   refine SG.inBlock ?_
   refine SG.region ?_
   refine RL.val (Wanted.free rfl) (V.move rfl rfl) rfl ?_
   refine RL.val (Wanted.free rfl) (V.bin rfl rfl rfl (B.addI (by omega) (by omega))) rfl ?_
   refine RL.val (Wanted.free rfl) (V.assign rfl rfl) rfl ?_
   refine RL.nil ?_
   refine SG.weaken (ih1 _ _ _ ?_ ⟨j + 1, by omega, rfl, rfl, rfl⟩) ?_ ?_
   ·
    omega
   ·
    repeat (first | exact EnvLe.nil _ | refine EnvLe.cons rfl ?_)
   ·
    exact entX
  ·
   refine RL.nil ?_
   refine SG.cond_false rfl ?_
   refine SG.exit rfl ?_
   refine SG.seq ?_
   have hJ2 : (texts fl).drop j = [] := List.drop_of_length_le (by rw [texts_len]; omega)
   rw [hJ2]
   refine SG.region ?_
   refine RL.val (Wanted.free rfl) (V.move rfl rfl) rfl ?_
   refine RL.eff (Wanted.free rfl) (E.call rfl go31 rfl (rEnd_ok (b := b33) pickX)) rfl ?_
   rintro _ _ ⟨rfl, rfl⟩
   refine RL.cmpT (Wanted.free rfl) (V.bin rfl rfl rfl B.eql) rfl (by simp [encs]) ?_
   refine RL.val (Wanted.free rfl) (V.move rfl rfl) rfl ?_
   refine RL.eff (Wanted.yes rfl rfl rfl rfl) (E.call rfl go18 rfl (lives_ok memX)) rfl ?_
   rintro _ _ ⟨rfl, rfl⟩
   refine RL.val (Wanted.free rfl) (V.pick_true rfl rfl rfl) rfl ?_
   refine RL.val (Wanted.free rfl) (V.assign rfl rfl) rfl ?_
   refine RL.nil ?_
   refine SG.retE (Ret.r1 Tryd.func11 rfl (.tmp rfl)) ?_ ⟨rfl, rfl⟩
   exact entX

end Go.Proofs.YteopejoppdgncaaDoor
