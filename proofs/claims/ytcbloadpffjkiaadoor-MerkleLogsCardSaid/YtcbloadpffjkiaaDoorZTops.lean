/- Sum, Leaf. -/
import Derived.Test.YtcbloadpffjkiaaDoorZCloses
import Derived.Test.YtcbloadpffjkiaaDoorZPlm
namespace Go.Proofs.YtcbloadpffjkiaaDoor
open Go.Wk Go.Sha

/-- The value of a state of bytes. -/
@[reducible] def stV (X : List UInt8) (a : Option Addr) (c : Nat) : Value := .agg (dg (feed first X) (.slice a (tail X).length c) (vI ((X.length : Nat) : Int))).toArray
theorem newX_ok {κ : World} {L : List Assn} : Ctr Tryd.prog 73 #[] κ L (fun v M => v = stV [] none 0 ∧ M = L) := new_ok
theorem writeX_ok {κ : World} {L : List Assn} {X b : List UInt8} {a a' : Option Addr} {c n' c' : Nat} (hm : Sl R8 a (tail X).length c (tail X) ∈ L) (hm' : Sl R8 a' n' c' b ∈ L) (hT : Tab L) (hb : b.length ≤ 140737488355264) (hX : X.length ≤ 1152921504606846976) :
    Ctr Tryd.prog 72 #[stV X a c, .slice a' n' c'] κ L (fun v M => ∃ a2 c2, v = stV (X ++ b) a2 c2 ∧ M = Sl R8 a2 (tail (X ++ b)).length c2 (tail (X ++ b)) :: L) :=
  (write_ok (feed_length _ _ first_length) hm hm' hT (by rw [tail_length]; omega) (by omega) (by omega)).mono (Ent.refl _) fun v M ⟨a2, c2, h1, h2⟩ => ⟨a2, c2, by
    rw [h1, feed_app, tail_app, stV, List.length_append, Int.natCast_add], by rw [h2, tail_app]⟩
theorem closeX_ok {κ : World} {L : List Assn} {X : List UInt8} {a : Option Addr} {c : Nat} (hm : Sl R8 a (tail X).length c (tail X) ∈ L) (hT : Tab L) (hX : X.length ≤ 2305843009213693951) :
    Ctr Tryd.prog 71 #[stV X a c] κ L (fun v M => v = .agg ((sum X).map v8).toArray ∧ M = L) :=
  (close_ok (feed_length _ _ first_length) hm hT (by rw [tail_length]; omega) hX).mono (Ent.refl _) fun v M ⟨h1, h2⟩ => ⟨by rw [h1, close_eq], h2⟩
theorem slX (L : List Assn) : Ent L (Sl R8 none (tail []).length 0 (tail []) :: L) := Sl.nil (T := R8)

set_option maxRecDepth 100000 in
theorem sum_ok {κ : World} {L : List Assn} {a : Option Addr} {n c : Nat} {l : List UInt8} (hm : Sl R8 a n c l ∈ L) (hT : Tab L) (hb : l.length ≤ 140737488355264) :
    Ctr Tryd.prog 45 #[.slice a n c] κ L (fun v M => v = .agg ((sum l).map v8).toArray ∧ M = L) := by
 refine Ctr.enter (vs := [.slice a n c]) (m := 7) Tryd.func45 rfl rfl rfl ?_
 unfold Tab at hT
 refine SG.ent (slX _) ?_
 refine SG.seq ?_
 refine SG.region ?_
 refine RL.eff (Wanted.free rfl) (E.alloc rfl ze25) rfl ?_
 rintro _ _ ⟨b2, rfl, rfl⟩
 refine RL.nil ?_
 refine SG.seq ?_
 refine SG.region ?_
 refine RL.eff (Wanted.free rfl) (E.call rfl go73 rfl (newX_ok)) rfl ?_
 rintro _ _ ⟨rfl, rfl⟩
 refine RL.val (Wanted.free rfl) (V.move rfl rfl) rfl ?_
 refine RL.eff (Wanted.free rfl) (E.call rfl go72 rfl (writeX_ok (X := []) (b := l) memX memX (by unfold Tab; repeat (first | exact List.Mem.head _ | assumption | apply List.Mem.tail)) (by first | omega | (simp; done) | (simp; omega)) (by first | omega | (simp; done) | (simp; omega)))) rfl ?_
 rintro _ _ ⟨a5, c5, rfl, rfl⟩
 rw [List.nil_append]
 refine RL.eff (Wanted.free rfl) (E.call rfl go71 rfl (closeX_ok (X := l) memX (by unfold Tab; repeat (first | exact List.Mem.head _ | assumption | apply List.Mem.tail)) (by first | omega | (simp; done) | (simp; omega)))) rfl ?_
 rintro _ _ ⟨rfl, rfl⟩
 refine RL.eff (Wanted.free rfl) (E.storeWhole rfl rfl rfl (by rw [List.length_map]; exact sum_length _) sz25 pickX (one8 _) (by rfl)) rfl ?_
 rintro _ _ rfl
 refine RL.nil ?_
 refine SG.retE (Ret.r1 Tryd.func45 rfl (.agg rfl ag25 pickX (take8 (sum_length _)) (by rw [List.length_map]; exact sum_length _))) ?_ ⟨rfl, rfl⟩
 exact entX

set_option maxRecDepth 100000 in
theorem leaf_ok {κ : World} {L : List Assn} {a : Option Addr} {n c : Nat} {l : List UInt8} (hm : Sl R8 a n c l ∈ L) (hT : Tab L) (hb : l.length ≤ 140737488355264) :
    Ctr Tryd.prog 38 #[.slice a n c] κ L (fun v M => v = .agg ((leaf l).map v8).toArray ∧ M = L) := by
 refine Ctr.enter (vs := [.slice a n c]) (m := 9) Tryd.func38 rfl rfl rfl ?_
 unfold Tab at hT
 refine SG.ent (slX _) ?_
 refine SG.seq ?_
 refine SG.region ?_
 refine RL.eff (Wanted.free rfl) (E.alloc rfl ze25) rfl ?_
 rintro _ _ ⟨b2, rfl, rfl⟩
 refine RL.nil ?_
 refine SG.seq ?_
 refine SG.region ?_
 refine RL.eff (Wanted.free rfl) (E.call rfl go73 rfl (newX_ok)) rfl ?_
 rintro _ _ ⟨rfl, rfl⟩
 refine RL.eff (Wanted.free rfl) (E.lit1 [.int .u8 0] rfl el62.slice ze5 rfl (by decide) (by decide) rfl rfl rfl) rfl ?_
 rintro _ _ ⟨b4, rfl, rfl⟩
 refine RL.ent (Buf.lit1' (T := R8) (b := b4) (e := 5) (y := 0) Pick.here rfl (fun _ => ⟨rfl, trivial⟩)) ?_
 refine RL.publish (T := R8) Pick.here ?_
 refine RL.eff (Wanted.free rfl) (E.call rfl go72 rfl (writeX_ok (X := []) (b := [0]) memX memX (by unfold Tab; repeat (first | exact List.Mem.head _ | assumption | apply List.Mem.tail)) (by first | omega | (simp; done) | (simp; omega)) (by first | omega | (simp; done) | (simp; omega)))) rfl ?_
 rintro _ _ ⟨a5, c5, rfl, rfl⟩
 rw [List.nil_append]
 refine RL.val (Wanted.free rfl) (V.move rfl rfl) rfl ?_
 refine RL.eff (Wanted.free rfl) (E.call rfl go72 rfl (writeX_ok (X := [0]) (b := l) memX memX (by unfold Tab; repeat (first | exact List.Mem.head _ | assumption | apply List.Mem.tail)) (by first | omega | (simp; done) | (simp; omega)) (by first | omega | (simp; done) | (simp; omega)))) rfl ?_
 rintro _ _ ⟨a7, c7, rfl, rfl⟩
 refine RL.eff (Wanted.free rfl) (E.call rfl go71 rfl (closeX_ok (X := [0] ++ l) memX (by unfold Tab; repeat (first | exact List.Mem.head _ | assumption | apply List.Mem.tail)) (by first | omega | (simp; done) | (simp; omega)))) rfl ?_
 rintro _ _ ⟨rfl, rfl⟩
 refine RL.eff (Wanted.free rfl) (E.storeWhole rfl rfl rfl (by rw [List.length_map]; exact sum_length _) sz25 pickX (one8 _) (by rfl)) rfl ?_
 rintro _ _ rfl
 refine RL.nil ?_
 refine SG.retE (Ret.r1 Tryd.func38 rfl (.agg rfl ag25 pickX (take8 (sum_length _)) (by rw [List.length_map]; exact sum_length _))) ?_ ⟨rfl, rfl⟩
 exact entX

end Go.Proofs.YtcbloadpffjkiaaDoor
