/- The walk of the statement that what is read whole is what would be written. -/
import Derived.Test.YtdccpcnahbhfcaaLaws3
import Derived.Test.YtdccpcnahbhfcaaMore2
import Derived.Test.YtdccpcnahbhfcaaPlain5
namespace Go.Proofs.Ytdccpcnahbhfcaa
open Go.Wk Go.Wire


theorem rdS_fail {l l' s : List UInt8} {e e' most : Int} (h : rdS l e most = (l', e', s)) (he : e' ≠ 0) : s = [] := by
  simp only [rdS] at h
  split at h
  · simp only [Prod.mk.injEq] at h; exact h.2.2.symm
  · split at h
    · simp only [Prod.mk.injEq] at h; exact h.2.2.symm
    · simp only [Prod.mk.injEq] at h; exact absurd h.2.1.symm he
theorem rdIs_fail {l l' : List UInt8} {xs : List Int} {e e' most : Int} (h : rdIs l e most = (l', e', xs)) (he : e' ≠ 0) : xs = [] := by
  simp only [rdIs] at h
  split at h
  · simp only [Prod.mk.injEq] at h; exact h.2.2.symm
  · split at h
    · simp only [Prod.mk.injEq] at h; exact h.2.2.symm
    · rename_i h1
      rw [h] at h1
      exact absurd he h1
theorem enc_pos (u : UInt64) : 1 ≤ (enc u).length := by
  obtain ⟨n, _, h, _⟩ := uv_facts 9 u.toNat (lt_pow u)
  change (enc u).length = n + 1 at h
  omega
theorem encList_ge (xs : List Int) : xs.length ≤ (encList xs).length := by
  induction xs with
  | nil => exact Nat.zero_le _
  | cons x xs ih =>
    have e : encList (x :: xs) = enc (zig x) ++ encList xs := rfl
    have := enc_pos (zig x)
    rw [e, List.length_append, List.length_cons]; omega
theorem rdV_canon {k : UInt8} {most e : Int} {l l' : List UInt8} {w : Val} (h : rdV k most l e = (l', 0, w)) : e = 0 ∧ encV w ++ l' = l := by
  by_cases he : e = 0
  · subst he
    refine ⟨rfl, ?_⟩
    have hk := rdV_kind h
    unfold encV
    rw [hk]
    rcases kinds k with hv | hv | hv | hv | ⟨h0, h1, h2, h3⟩
    · rw [rdV0 hv rfl] at h; rw [bk0 hv]
      simp only [Prod.mk.injEq] at h
      obtain ⟨h1, h2, rfl⟩ := h
      exact rdU_canon (trip2 h2 h1)
    · rw [rdV1 hv rfl] at h; rw [bk1 hv]
      simp only [Prod.mk.injEq] at h
      obtain ⟨h1, h2, rfl⟩ := h
      exact rdI_canon (trip2 h2 h1)
    · rw [rdV2 hv rfl] at h; rw [bk2 hv]
      simp only [Prod.mk.injEq] at h
      obtain ⟨h1, h2, rfl⟩ := h
      exact rdB_canon (trip2 h2 h1)
    · rw [rdV3 hv rfl] at h; rw [bk3 hv]
      simp only [Prod.mk.injEq] at h
      obtain ⟨h1, h2, rfl⟩ := h
      exact rdS_canon (trip2 h2 h1)
    · rw [rdV4 h0 h1 h2 h3 rfl] at h; rw [bk4 h0 h1 h2 h3]
      simp only [Prod.mk.injEq] at h
      obtain ⟨g1, g2, rfl⟩ := h
      exact rdIs_canon (trip2 g2 g1)
  · rw [rdV_err he] at h
    simp only [Prod.mk.injEq] at h
    exact absurd h.2.1 he
theorem in0 : inInt 0 := ⟨by decide, by decide⟩
theorem mid_mk {v : Val} (hn : inInt v.n) (hs : v.s.length ≤ 900) (hl : v.l.length ≤ 900) (hi : ∀ x ∈ v.l, inInt x) : v.mid := ⟨⟨hn, by omega, hi⟩, by omega, by omega⟩
theorem rdS_short900 {l l' s : List UInt8} {e' most : Int} (h : rdS l 0 most = (l', e', s)) (hl : l.length ≤ 900) : s.length ≤ 900 := by
  by_cases h2 : e' = 0
  · subst h2
    have := congrArg List.length (rdS_canon h)
    unfold encText at this
    rw [List.length_append, List.length_append] at this
    omega
  · rw [rdS_fail h h2]; exact Nat.zero_le _
theorem rdIs_short900 {l l' : List UInt8} {xs : List Int} {e' most : Int} (h : rdIs l 0 most = (l', e', xs)) (hl : l.length ≤ 900) : xs.length ≤ 900 := by
  by_cases h2 : e' = 0
  · subst h2
    have := congrArg List.length (rdIs_canon h)
    have h5 := encList_ge xs
    unfold encInts at this
    rw [List.length_append, List.length_append] at this
    omega
  · rw [rdIs_fail h h2]; exact Nat.zero_le _
theorem rdV_mid {k : UInt8} {most e e' : Int} {l l' : List UInt8} {w : Val} (h : rdV k most l e = (l', e', w)) (hl : l.length ≤ 900) (hi : ∀ x ∈ w.l, inInt x) : w.mid := by
  by_cases he : e = 0
  · subst he
    rcases kinds k with hv | hv | hv | hv | ⟨h0, h1, h2, h3⟩
    · obtain ⟨a, b, c, hr⟩ : ∃ a b c, rdU l 0 = (a, b, c) := ⟨_, _, _, rfl⟩
      rw [rdV0 hv hr] at h; cases h; exact mid_mk in0 (Nat.zero_le _) (Nat.zero_le _) hi
    · obtain ⟨a, b, c, hr⟩ : ∃ a b c, rdI l 0 = (a, b, c) := ⟨_, _, _, rfl⟩
      rw [rdV1 hv hr] at h; cases h; exact mid_mk (rdI_in hr) (Nat.zero_le _) (Nat.zero_le _) hi
    · obtain ⟨a, b, c, hr⟩ : ∃ a b c, rdB l 0 = (a, b, c) := ⟨_, _, _, rfl⟩
      rw [rdV2 hv hr] at h; cases h; exact mid_mk in0 (Nat.zero_le _) (Nat.zero_le _) hi
    · obtain ⟨a, b, c, hr⟩ : ∃ a b c, rdS l 0 most = (a, b, c) := ⟨_, _, _, rfl⟩
      rw [rdV3 hv hr] at h; cases h; exact mid_mk in0 (rdS_short900 hr hl) (Nat.zero_le _) hi
    · obtain ⟨a, b, c, hr⟩ : ∃ a b c, rdIs l 0 most = (a, b, c) := ⟨_, _, _, rfl⟩
      rw [rdV4 h0 h1 h2 h3 hr] at h; cases h; exact mid_mk in0 (Nat.zero_le _) (rdIs_short900 hr hl) hi
  · rw [rdV_err he] at h; cases h
    exact mid_mk in0 (Nat.zero_le _) (Nat.zero_le _) hi
theorem end_all {ws l2 r40 : List UInt8} {e2 : Int} (hinv : e2 = 0 → ws ++ l2 = r40) (h : ¬ (if e2 = 0 ∧ 0 < l2.length then 7 else e2) ≠ 0) : ws = r40 := by
  by_cases h1 : e2 = 0 ∧ 0 < l2.length
  · rw [if_pos h1] at h; exact absurd h (by decide)
  · rw [if_neg h1] at h
    have h2 : e2 = 0 := Classical.not_not.1 h
    have h3 : l2 = [] := List.eq_nil_of_length_eq_zero (by omega)
    rw [← hinv h2, h3, List.append_nil]
theorem Sep.iok {κ w : World} {L : List Assn} {a : Option Addr} {m c : Nat} {l : List Int} (hs : Sep κ w L) (hm : Sl RI a m c l ∈ L) : ∀ x ∈ l, inInt x := by
  obtain ⟨z, hz, h1, h2, h3, h4⟩ := hs.sl hm
  rcases h4 with h4 | ⟨b, o, cs, _, _, hr⟩
  · subst h4; rw [List.eq_nil_of_length_eq_zero h1]; exact fun x hx => by cases hx
  · exact (rows_sc.1 hr).2

set_option maxRecDepth 100000 in
theorem canonical_law {κ : World} {L : List Assn} {a a1 : Option Addr} {n0 c n1 c1 : Nat} {raw : List UInt8} {l : List Val} (hr : Sl R8 a n0 c raw ∈ L) (hm : Sl RVal a1 n1 c1 l ∈ L) (most : Int) (hm1 : -9223372036854775808 ≤ most) (hm2 : most ≤ 9223372036854775807) :
    Ctr Try.prog 9 #[.slice a n0 c, .slice a1 n1 c1, vI most] κ L (fun v M => v = vB true ∧ M = L) := by
  refine Ctr.enter (vs := [.slice a n0 c, .slice a1 n1 c1, vI most]) (m := 47) Try.func9 rfl rfl rfl ?_
  refine SG.sl hm fun hl1 _ _ => ?_
  subst hl1
  have hlen40 : (raw.take (Int.toNat 40)).length ≤ 40 := by rw [List.length_take]; have : Int.toNat 40 = 40 := rfl; omega
  refine SG.seq ?_
  refine SG.region ?_
  refine RL.val (Wanted.free rfl) (V.assign rfl rfl) rfl ?_
  refine RL.nil ?_
  refine SG.seq ?_
  refine SG.region ?_
  refine RL.val (Wanted.free rfl) (V.move rfl rfl) rfl ?_
  refine RL.eff (Wanted.free rfl) (E.call rfl go20 rfl (few_ok (by repeat (first | exact List.Mem.head _ | assumption | apply List.Mem.tail)) (by omega) (by omega))) rfl ?_
  rintro _ _ ⟨a7, k7, c7, rfl, rfl⟩
  refine RL.val (Wanted.free rfl) (V.assign rfl rfl) rfl ?_
  refine RL.nil ?_
  refine SG.seq ?_
  refine SG.region ?_
  refine RL.val (Wanted.free rfl) (V.move rfl rfl) rfl ?_
  refine RL.eff (Wanted.free rfl) (E.call rfl go19 rfl (newReader_buf (a := a7) (by repeat (first | exact Pick.here | apply Pick.there)) (by omega))) rfl ?_
  rintro _ _ ⟨br, rfl, rfl⟩
  refine RL.val (Wanted.free rfl) (V.assign rfl rfl) rfl ?_
  refine RL.nil ?_
  refine SG.seq ?_
  refine SG.seq ?_
  refine SG.region ?_
  refine RL.val (Wanted.free rfl) (V.move rfl rfl) rfl ?_
  refine RL.cmpF (Wanted.free rfl) (V.eqlPtrNil rfl up42 rfl rfl) rfl (by simp) ?_
  refine RL.nil ?_
  refine SG.cond_false rfl ?_
  refine SG.skip ?_
  refine SG.seq ?_
  refine SG.region ?_
  refine RL.eff (Wanted.free rfl) (E.alloc rfl ze27) rfl ?_
  rintro _ _ ⟨b9, rfl, rfl⟩
  refine RL.ent (Ent.trans (Ent.trans (Buf.nil (T := R8) (e := 5)) (Ent.swap _ _ _)) Wr.close) ?_
  refine RL.nil ?_
  refine SG.seq ?_
  refine SG.seq ?_
  refine SG.region ?_
  refine RL.val (Wanted.free rfl) (V.assign rfl rfl) rfl ?_
  refine RL.nil ?_
  refine SG.block ?_
  generalize raw.take (Int.toNat 40) = r40 at *
  refine SG.weaken (SG.loop2 (fun m al M => ∃ (i : Nat) (ws l2 : List UInt8) (e2 : Int), (e2 = 0 → ws ++ l2 = r40) ∧ l2.length ≤ 40 ∧ ws.length ≤ 20000 * i ∧ i ≤ 12 ∧ i ≤ l.length ∧ m = l.length - i ∧ al = [(1, .slice a1 l.length c1), (2, vI most), (7, .slice a7 k7 c7), (8, ptr br 0), (9, ptr b9 0), (10, vI i)] ∧ M = Rdr br l2 e2 :: Wr b9 ws :: Buf R8 5 a7 k7 c7 r40 :: L) (m0 := _) ⟨0, [], r40, 0, fun _ => rfl, hlen40, by simp, by omega, by omega, rfl, rfl, rfl⟩ ?_) ?_ ?_
  rotate_left
  · repeat (first | exact EnvLe.nil _ | refine EnvLe.cons rfl ?_)
  · repeat (first | exact Ent.refl _ | (apply Ent.cons; (· repeat (first | exact Pick.here | (refine Pick.sl ?_; (· repeat (first | exact List.Mem.head _ | assumption | apply List.Mem.tail))) | apply Pick.there))) | (refine Ent.trans (Ent.drop _ _) ?_))
  rintro _ _ _ ⟨i, ws, l2, e2, hinv, hl2, hws, hi12, hi, rfl, rfl, rfl⟩ ih0
  refine SG.seq ?_
  refine SG.seq ?_
  refine SG.region ?_
  refine RL.val (Wanted.free rfl) (V.move rfl rfl) rfl ?_
  refine RL.val (Wanted.free rfl) (V.move rfl rfl) rfl ?_
  refine RL.val (Wanted.free rfl) (V.len rfl rfl el22.under rfl) rfl ?_
  refine RL.cmp (Wanted.free rfl) (V.bin rfl rfl rfl B.lss) rfl (fun h14 => ?_) (fun h14 => ?_)
  · skip
    refine RL.val (Wanted.free rfl) (V.move rfl rfl) rfl ?_
    refine RL.val (Wanted.yes rfl rfl rfl rfl) (V.move rfl rfl) rfl ?_
    refine RL.cmp (Wanted.yes rfl rfl rfl rfl) (V.bin rfl rfl rfl B.lss) rfl (fun h17 => ?_) (fun h17 => ?_)
    · skip
      refine RL.val (Wanted.free rfl) (V.pick_true rfl rfl rfl) rfl ?_
      refine RL.nil ?_
      refine SG.cond_true rfl ?_
      refine SG.skip ?_
      refine SG.seq ?_
      refine SG.block ?_
      refine SG.elem (T := RVal) (j := i) (l := l) (by repeat (first | exact List.Mem.head _ | assumption | apply List.Mem.tail)) (List.getElem?_eq_getElem (by omega)) fun us hus => ?_
      refine SG.openVal (by repeat (first | exact Pick.here | apply Pick.there)) fun a2 m2 c2 hus2 hok => ?_
      subst hus2
      refine SG.region ?_
      refine RL.val (Wanted.free rfl) (V.move rfl rfl) rfl ?_
      refine RL.val (Wanted.free rfl) (V.move rfl rfl) rfl ?_
      refine RL.val (Wanted.free rfl) (V.move rfl rfl) rfl ?_
      refine RL.val (Wanted.free rfl) (V.indexSl rfl el22.slice rfl rfl (by repeat (first | exact List.Mem.head _ | assumption | apply List.Mem.tail)) (by first | rfl | omega) (by omega)) rfl ?_
      refine RL.val (Wanted.free rfl) (V.loadAt rfl ag34 rfl (by repeat (first | exact List.Mem.head _ | assumption | apply List.Mem.tail)) rfl) rfl ?_
      refine RL.val (Wanted.free rfl) (V.move rfl rfl) rfl ?_
      refine RL.eff (Wanted.free rfl) (E.call rfl go24 rfl (read_ok _ most (by repeat (first | exact Pick.here | apply Pick.there)) hm1 hm2 (by omega))) rfl ?_
      rintro _ _ ⟨l3, e3, w, a3, m3, c3, hr3, rfl, rfl⟩
      refine RL.fact (fun w0 hs => Sep.iok hs (l := w.l) (a := a3) (m := m3) (c := c3) (by repeat (first | exact List.Mem.head _ | assumption | apply List.Mem.tail))) fun hint => ?_
      have hmid := rdV_mid hr3 (by omega) hint
      have hen := encV_mid hmid
      refine RL.eff (Wanted.free rfl) (E.call rfl go12 rfl (write_ok w (by repeat (first | exact Pick.here | apply Pick.there)) (by repeat (first | exact List.Mem.head _ | assumption | apply List.Mem.tail)) hmid (by omega))) rfl ?_
      rintro _ _ ⟨rfl, rfl⟩
      refine RL.nil ?_
      refine SG.inBlock ?_
      refine SG.region ?_
      refine RL.val (Wanted.free rfl) (V.move rfl rfl) rfl ?_
      refine RL.val (Wanted.free rfl) (V.bin rfl rfl rfl (B.addI (by omega) (by omega))) rfl ?_
      refine RL.val (Wanted.free rfl) (V.assign rfl rfl) rfl ?_
      refine RL.nil ?_
      refine SG.weaken (ih0 _ _ _ ?_ ⟨i + 1, ws ++ encV w, l3, e3, ?_, ?_, ?_, by omega, by omega, rfl, rfl, rfl⟩) ?_ ?_
      · omega
      · intro h0; subst h0; obtain ⟨g1, g2⟩ := rdV_canon hr3; rw [List.append_assoc, g2]; exact hinv g1
      · exact Nat.le_trans (rdV_len hr3) hl2
      · rw [List.length_append]; omega
      · repeat (first | exact EnvLe.nil _ | refine EnvLe.cons rfl ?_)
      · repeat (first | exact Ent.refl _ | (apply Ent.cons; (· repeat (first | exact Pick.here | (refine Pick.sl ?_; (· repeat (first | exact List.Mem.head _ | assumption | apply List.Mem.tail))) | apply Pick.there))) | (refine Ent.trans (Ent.drop _ _) ?_))
    · skip
      refine RL.val (Wanted.free rfl) (V.pick_true rfl rfl rfl) rfl ?_
      refine RL.nil ?_
      refine SG.cond_false rfl ?_
      refine SG.exit rfl ?_
      refine SG.seq ?_
      refine SG.region ?_
      refine RL.val (Wanted.free rfl) (V.move rfl rfl) rfl ?_
      refine RL.eff (Wanted.free rfl) (E.call rfl go25 rfl (rEnd_ok (by repeat (first | exact Pick.here | apply Pick.there)))) rfl ?_
      rintro _ _ ⟨rfl, rfl⟩
      refine RL.cmp (Wanted.free rfl) (V.bin rfl rfl rfl B.neq) rfl (fun h31 => ?_) (fun h31 => ?_)
      · skip
        refine RL.val (Wanted.free rfl) (V.move rfl rfl) rfl ?_
        refine RL.skip (Wanted.no rfl rfl rfl rfl rfl) rfl ?_
        refine RL.skip (Wanted.no rfl rfl rfl rfl rfl) rfl ?_
        refine RL.skip (Wanted.no rfl rfl rfl rfl rfl) rfl ?_
        refine RL.skip (Wanted.no rfl rfl rfl rfl rfl) rfl ?_
        refine RL.val (Wanted.free rfl) (V.pick_true rfl rfl rfl) rfl ?_
        refine RL.val (Wanted.free rfl) (V.move rfl rfl) rfl ?_
        refine RL.eff (Wanted.yes rfl rfl rfl rfl) (E.call rfl go17 rfl (lives_ok)) rfl ?_
        rintro _ _ ⟨rfl, rfl⟩
        refine RL.val (Wanted.free rfl) (V.pick_true rfl rfl rfl) rfl ?_
        refine RL.val (Wanted.free rfl) (V.assign rfl rfl) rfl ?_
        refine RL.nil ?_
        refine SG.retE (Ret.r1 Try.func9 rfl (.tmp rfl)) ?_ ⟨rfl, rfl⟩
        repeat (first | exact Ent.refl _ | (apply Ent.cons; (· repeat (first | exact Pick.here | (refine Pick.sl ?_; (· repeat (first | exact List.Mem.head _ | assumption | apply List.Mem.tail))) | apply Pick.there))) | (refine Ent.trans (Ent.drop _ _) ?_))
      · skip
        refine RL.val (Wanted.free rfl) (V.move rfl rfl) rfl ?_
        refine RL.val (Wanted.yes rfl rfl rfl rfl) (V.fieldAddr rfl rfl fo27_0) rfl ?_
        refine RL.eff (Wanted.yes rfl rfl rfl rfl) (E.call rfl go15 rfl (done_ok (by repeat (first | exact Pick.here | apply Pick.there)) (by omega))) rfl ?_
        rintro _ _ ⟨a38, k38, c38, rfl, rfl⟩
        refine RL.val (Wanted.yes rfl rfl rfl rfl) (V.move rfl rfl) rfl ?_
        refine RL.eff (Wanted.yes rfl rfl rfl rfl) (E.call rfl go14 rfl (sameBytes_true (by first | (apply Seen.sl; (· repeat (first | exact List.Mem.head _ | assumption | apply List.Mem.tail))) | (apply Seen.buf; (· repeat (first | exact Pick.here | apply Pick.there)))) (by first | (apply Seen.sl; (· repeat (first | exact List.Mem.head _ | assumption | apply List.Mem.tail))) | (apply Seen.buf; (· repeat (first | exact Pick.here | apply Pick.there)))) (end_all hinv (by assumption)))) rfl ?_
        rintro _ _ ⟨rfl, rfl⟩
        refine RL.val (Wanted.free rfl) (V.pick_false rfl rfl rfl) rfl ?_
        refine RL.val (Wanted.free rfl) (V.move rfl rfl) rfl ?_
        refine RL.eff (Wanted.yes rfl rfl rfl rfl) (E.call rfl go17 rfl (lives_ok)) rfl ?_
        rintro _ _ ⟨rfl, rfl⟩
        refine RL.val (Wanted.free rfl) (V.pick_true rfl rfl rfl) rfl ?_
        refine RL.val (Wanted.free rfl) (V.assign rfl rfl) rfl ?_
        refine RL.nil ?_
        refine SG.retE (Ret.r1 Try.func9 rfl (.tmp rfl)) ?_ ⟨rfl, rfl⟩
        repeat (first | exact Ent.refl _ | (apply Ent.cons; (· repeat (first | exact Pick.here | (refine Pick.sl ?_; (· repeat (first | exact List.Mem.head _ | assumption | apply List.Mem.tail))) | apply Pick.there))) | (refine Ent.trans (Ent.drop _ _) ?_))
  · skip
    refine RL.val (Wanted.free rfl) (V.move rfl rfl) rfl ?_
    refine RL.skip (Wanted.no rfl rfl rfl rfl rfl) rfl ?_
    refine RL.skip (Wanted.no rfl rfl rfl rfl rfl) rfl ?_
    refine RL.val (Wanted.free rfl) (V.pick_false rfl rfl rfl) rfl ?_
    refine RL.nil ?_
    refine SG.cond_false rfl ?_
    refine SG.exit rfl ?_
    refine SG.seq ?_
    refine SG.region ?_
    refine RL.val (Wanted.free rfl) (V.move rfl rfl) rfl ?_
    refine RL.eff (Wanted.free rfl) (E.call rfl go25 rfl (rEnd_ok (by repeat (first | exact Pick.here | apply Pick.there)))) rfl ?_
    rintro _ _ ⟨rfl, rfl⟩
    refine RL.cmp (Wanted.free rfl) (V.bin rfl rfl rfl B.neq) rfl (fun h47 => ?_) (fun h47 => ?_)
    · skip
      refine RL.val (Wanted.free rfl) (V.move rfl rfl) rfl ?_
      refine RL.skip (Wanted.no rfl rfl rfl rfl rfl) rfl ?_
      refine RL.skip (Wanted.no rfl rfl rfl rfl rfl) rfl ?_
      refine RL.skip (Wanted.no rfl rfl rfl rfl rfl) rfl ?_
      refine RL.skip (Wanted.no rfl rfl rfl rfl rfl) rfl ?_
      refine RL.val (Wanted.free rfl) (V.pick_true rfl rfl rfl) rfl ?_
      refine RL.val (Wanted.free rfl) (V.move rfl rfl) rfl ?_
      refine RL.eff (Wanted.yes rfl rfl rfl rfl) (E.call rfl go17 rfl (lives_ok)) rfl ?_
      rintro _ _ ⟨rfl, rfl⟩
      refine RL.val (Wanted.free rfl) (V.pick_true rfl rfl rfl) rfl ?_
      refine RL.val (Wanted.free rfl) (V.assign rfl rfl) rfl ?_
      refine RL.nil ?_
      refine SG.retE (Ret.r1 Try.func9 rfl (.tmp rfl)) ?_ ⟨rfl, rfl⟩
      repeat (first | exact Ent.refl _ | (apply Ent.cons; (· repeat (first | exact Pick.here | (refine Pick.sl ?_; (· repeat (first | exact List.Mem.head _ | assumption | apply List.Mem.tail))) | apply Pick.there))) | (refine Ent.trans (Ent.drop _ _) ?_))
    · skip
      refine RL.val (Wanted.free rfl) (V.move rfl rfl) rfl ?_
      refine RL.val (Wanted.yes rfl rfl rfl rfl) (V.fieldAddr rfl rfl fo27_0) rfl ?_
      refine RL.eff (Wanted.yes rfl rfl rfl rfl) (E.call rfl go15 rfl (done_ok (by repeat (first | exact Pick.here | apply Pick.there)) (by omega))) rfl ?_
      rintro _ _ ⟨a54, k54, c54, rfl, rfl⟩
      refine RL.val (Wanted.yes rfl rfl rfl rfl) (V.move rfl rfl) rfl ?_
      refine RL.eff (Wanted.yes rfl rfl rfl rfl) (E.call rfl go14 rfl (sameBytes_true (by first | (apply Seen.sl; (· repeat (first | exact List.Mem.head _ | assumption | apply List.Mem.tail))) | (apply Seen.buf; (· repeat (first | exact Pick.here | apply Pick.there)))) (by first | (apply Seen.sl; (· repeat (first | exact List.Mem.head _ | assumption | apply List.Mem.tail))) | (apply Seen.buf; (· repeat (first | exact Pick.here | apply Pick.there)))) (end_all hinv (by assumption)))) rfl ?_
      rintro _ _ ⟨rfl, rfl⟩
      refine RL.val (Wanted.free rfl) (V.pick_false rfl rfl rfl) rfl ?_
      refine RL.val (Wanted.free rfl) (V.move rfl rfl) rfl ?_
      refine RL.eff (Wanted.yes rfl rfl rfl rfl) (E.call rfl go17 rfl (lives_ok)) rfl ?_
      rintro _ _ ⟨rfl, rfl⟩
      refine RL.val (Wanted.free rfl) (V.pick_true rfl rfl rfl) rfl ?_
      refine RL.val (Wanted.free rfl) (V.assign rfl rfl) rfl ?_
      refine RL.nil ?_
      refine SG.retE (Ret.r1 Try.func9 rfl (.tmp rfl)) ?_ ⟨rfl, rfl⟩
      repeat (first | exact Ent.refl _ | (apply Ent.cons; (· repeat (first | exact Pick.here | (refine Pick.sl ?_; (· repeat (first | exact List.Mem.head _ | assumption | apply List.Mem.tail))) | apply Pick.there))) | (refine Ent.trans (Ent.drop _ _) ?_))

end Go.Proofs.Ytdccpcnahbhfcaa
