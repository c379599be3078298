/- Reading a value, by the program and by the reference. -/
import Derived.Test.YtdccpcnahbhfcaaVals
import Derived.Test.YtdccpcnahbhfcaaRefrd
namespace Go.Proofs.Ytdccpcnahbhfcaa
open Go.Wk Go.Wire


theorem SG.openVal {P : Program} {f : FuncId} {n : Nat} {κ : World} {K : Post} {k : List Item} {L L1 : List Assn} {al : List (Nat × Value)} {us : List Value} {v : Val} (hp : Pick (Rd RVal us v) L L1) (h : ∀ a m c, us = v.cells a m c → v.ok → SG P f n κ K k al (Sl RI a m c v.l :: L1)) : SG P f n κ K k al L :=
  SG.roEx (ι := Option Addr × Nat × Nat) (p := fun x => us = v.cells x.1 x.2.1 x.2.2 ∧ v.ok) (R := fun x => SlP RI x.1 x.2.1 x.2.2 v.l) hp (fun _ ⟨a, m, c, e, s⟩ => ⟨(a, m, c), e, s⟩) fun _ e => h _ _ _ e.1 e.2
def zeroV (k : UInt8) : Val := ⟨k, 0, 0, false, [], []⟩
/-- A value read, by its kind. -/
def rdV (k : UInt8) (most : Int) (l : List UInt8) (e : Int) : List UInt8 × Int × Val :=
  byKind k ((rdU l e).1, (rdU l e).2.1, { zeroV k with u := (rdU l e).2.2 }) ((rdI l e).1, (rdI l e).2.1, { zeroV k with n := (rdI l e).2.2 }) ((rdB l e).1, (rdB l e).2.1, { zeroV k with b := (rdB l e).2.2 })
    ((rdS l e most).1, (rdS l e most).2.1, { zeroV k with s := (rdS l e most).2.2 }) ((rdIs l e most).1, (rdIs l e most).2.1, { zeroV k with l := (rdIs l e most).2.2 })
section
variable {k : UInt8} {most : Int} {l l' : List UInt8} {e e' : Int}
theorem rdV0 {x : UInt64} (h : ((k % 5).toNat : Int) = 0) (hr : rdU l e = (l', e', x)) : rdV k most l e = (l', e', { zeroV k with u := x }) := by unfold rdV; rw [bk0 h, hr]
theorem rdV1 {x : Int} (h : ((k % 5).toNat : Int) = 1) (hr : rdI l e = (l', e', x)) : rdV k most l e = (l', e', { zeroV k with n := x }) := by unfold rdV; rw [bk1 h, hr]
theorem rdV2 {x : Bool} (h : ((k % 5).toNat : Int) = 2) (hr : rdB l e = (l', e', x)) : rdV k most l e = (l', e', { zeroV k with b := x }) := by unfold rdV; rw [bk2 h, hr]
theorem rdV3 {x : List UInt8} (h : ((k % 5).toNat : Int) = 3) (hr : rdS l e most = (l', e', x)) : rdV k most l e = (l', e', { zeroV k with s := x }) := by unfold rdV; rw [bk3 h, hr]
theorem rdV4 {x : List Int} (h0 : ¬ ((k % 5).toNat : Int) = 0) (h1 : ¬ ((k % 5).toNat : Int) = 1) (h2 : ¬ ((k % 5).toNat : Int) = 2) (h3 : ¬ ((k % 5).toNat : Int) = 3) (hr : rdIs l e most = (l', e', x)) : rdV k most l e = (l', e', { zeroV k with l := x }) := by unfold rdV; rw [bk4 h0 h1 h2 h3, hr]
end
theorem Sl.none {α : Type} {T : Rep α} {L : List Assn} : Ent L (Sl T none 0 0 [] :: L) := fun z h H => Holds.add_ro ⟨rfl, Nat.le_refl _, by omega, .inl rfl⟩ H

set_option maxRecDepth 100000 in
theorem read_ok {κ : World} {L : List Assn} (v : Val) (most : Int) {a : Option Addr} {m c : Nat} {L1 : List Assn} {b : Nat} {l : List UInt8} {e : Int} (hp : Pick (Rdr b l e) L L1) (hm1 : -9223372036854775808 ≤ most) (hm2 : most ≤ 9223372036854775807) (hb : l.length ≤ 1000000) :
    Ctr Try.prog 24 #[ptr b 0, .agg #[v8 v.kind, v64 v.u, vI v.n, vB v.b, vS v.s, .slice a m c], vI most] κ L (fun r M => ∃ l' e' w a' m' c', rdV v.kind most l e = (l', e', w) ∧ r = .agg #[v8 w.kind, v64 w.u, vI w.n, vB w.b, vS w.s, .slice a' m' c'] ∧ M = Sl RI a' m' c' w.l :: Rdr b l' e' :: L1) := by
  refine Ctr.enter (vs := [ptr b 0, .agg #[v8 v.kind, v64 v.u, vI v.n, vB v.b, vS v.s, .slice a m c], vI most]) (m := 40) Try.func24 rfl rfl rfl ?_
  refine SG.ent hp ?_
  refine SG.seq ?_
  refine SG.region ?_
  refine RL.eff (Wanted.free rfl) (E.box [v8 v.kind, v64 v.u, vI v.n, vB v.b, vS v.s, .slice a m c] rfl rfl rfl) rfl ?_
  rintro _ _ ⟨bv, rfl, rfl⟩
  refine RL.eff (Wanted.free rfl) (E.alloc rfl ze34) rfl ?_
  rintro _ _ ⟨b6, rfl, rfl⟩
  refine RL.nil ?_
  refine SG.seq ?_
  refine SG.region ?_
  refine RL.val (Wanted.free rfl) (V.fieldAddr rfl rfl fo34_0) rfl ?_
  refine RL.val (Wanted.free rfl) (V.load rfl on5 rfl (by repeat (first | exact Pick.here | apply Pick.there)) rfl) rfl ?_
  refine RL.val (Wanted.free rfl) (V.buildS [(0, _)] rfl bs34 (by exact ⟨rfl, ⟨_, rfl, rfl⟩, trivial⟩) rfl) rfl ?_
  refine RL.eff (Wanted.free rfl) (E.alloc rfl ze34) rfl ?_
  rintro _ _ ⟨b7, rfl, rfl⟩
  refine RL.eff (Wanted.free rfl) (E.storeAgg rfl rfl rfl rfl sz34 (by repeat (first | exact Pick.here | apply Pick.there)) (by first | (simp [Value.oneCell']; done) | (simp [setAt, Value.oneCell']; done)) (by first | (simp; done) | (simp [setAt]; done))) rfl ?_
  rintro _ _ rfl
  refine RL.nil ?_
  refine SG.seq ?_
  refine SG.seq ?_
  refine SG.region ?_
  refine RL.val (Wanted.free rfl) (V.fieldAddr rfl rfl fo34_0) rfl ?_
  refine RL.val (Wanted.free rfl) (V.load rfl on5 rfl (by repeat (first | exact Pick.here | apply Pick.there)) rfl) rfl ?_
  refine RL.val (Wanted.free rfl) (V.bin rfl rfl rfl (B.rem8 (y := 5) (by decide))) rfl ?_
  refine RL.nil ?_
  refine SG.block ?_
  refine SG.seq ?_
  refine SG.region ?_
  refine RL.cmp (Wanted.free rfl) (V.bin rfl rfl rfl B.eql) rfl (fun h11 => ?_) (fun h11 => ?_)
  · skip
    refine RL.val (Wanted.free rfl) (V.assign rfl rfl) rfl ?_
    refine RL.nil ?_
    refine SG.cond_true rfl ?_
    refine SG.region ?_
    refine RL.val (Wanted.free rfl) (V.move rfl rfl) rfl ?_
    refine RL.eff (Wanted.free rfl) (E.call rfl go41 rfl (rUint_rel (by repeat (first | exact Pick.here | apply Pick.there)))) rfl ?_
    rintro _ _ ⟨l14, e14, x14, r14, rfl, rfl⟩
    refine RL.val (Wanted.free rfl) (V.fieldAddr rfl rfl fo34_1) rfl ?_
    refine RL.eff (Wanted.free rfl) (E.store1 rfl rfl rfl rfl rfl sz31 (by repeat (first | exact Pick.here | apply Pick.there)) rfl) rfl ?_
    rintro _ _ rfl
    refine RL.nil ?_
    refine SG.inBlock ?_
    refine SG.seq ?_
    refine SG.region ?_
    refine RL.val (Wanted.free rfl) (V.loadAgg (us := _) rfl ag34 rfl (by repeat (first | exact Pick.here | apply Pick.there)) rfl rfl) rfl ?_
    refine RL.eff (Wanted.free rfl) (E.storeAgg rfl rfl rfl rfl sz34 (by repeat (first | exact Pick.here | apply Pick.there)) (by first | (simp [Value.oneCell']; done) | (simp [setAt, Value.oneCell']; done)) (by first | (simp; done) | (simp [setAt]; done))) rfl ?_
    rintro _ _ rfl
    refine RL.nil ?_
    refine SG.retE (Ret.r1 Try.func24 rfl (.agg rfl ag34 (by repeat (first | exact Pick.here | apply Pick.there)) rfl rfl)) ?_ ⟨_, _, _, _, _, _, rdV0 (by assumption) (by assumption), rfl, rfl⟩
    refine Ent.trans (Sl.none (T := RI)) ?_
    repeat (first | exact Ent.refl _ | (apply Ent.cons; (· repeat (first | exact Pick.here | (refine Pick.sl ?_; (· repeat (first | exact List.Mem.head _ | assumption | apply List.Mem.tail))) | apply Pick.there))) | (refine Ent.trans (Ent.drop _ _) ?_))
  · skip
    refine RL.val (Wanted.free rfl) (V.assign rfl rfl) rfl ?_
    refine RL.nil ?_
    refine SG.cond_false rfl ?_
    refine SG.seq ?_
    refine SG.region ?_
    refine RL.cmp (Wanted.free rfl) (V.bin rfl rfl rfl B.eql) rfl (fun h20 => ?_) (fun h20 => ?_)
    · skip
      refine RL.val (Wanted.free rfl) (V.assign rfl rfl) rfl ?_
      refine RL.nil ?_
      refine SG.cond_true rfl ?_
      refine SG.region ?_
      refine RL.val (Wanted.free rfl) (V.move rfl rfl) rfl ?_
      refine RL.eff (Wanted.free rfl) (E.call rfl go43 rfl (rInt_ok (by repeat (first | exact Pick.here | apply Pick.there)))) rfl ?_
      rintro _ _ ⟨l23, e23, x23, r23, rfl, rfl⟩
      refine RL.val (Wanted.free rfl) (V.fieldAddr rfl rfl fo34_2) rfl ?_
      refine RL.eff (Wanted.free rfl) (E.store1 rfl rfl rfl rfl rfl sz3 (by repeat (first | exact Pick.here | apply Pick.there)) rfl) rfl ?_
      rintro _ _ rfl
      refine RL.nil ?_
      refine SG.inBlock ?_
      refine SG.seq ?_
      refine SG.region ?_
      refine RL.val (Wanted.free rfl) (V.loadAgg (us := _) rfl ag34 rfl (by repeat (first | exact Pick.here | apply Pick.there)) rfl rfl) rfl ?_
      refine RL.eff (Wanted.free rfl) (E.storeAgg rfl rfl rfl rfl sz34 (by repeat (first | exact Pick.here | apply Pick.there)) (by first | (simp [Value.oneCell']; done) | (simp [setAt, Value.oneCell']; done)) (by first | (simp; done) | (simp [setAt]; done))) rfl ?_
      rintro _ _ rfl
      refine RL.nil ?_
      refine SG.retE (Ret.r1 Try.func24 rfl (.agg rfl ag34 (by repeat (first | exact Pick.here | apply Pick.there)) rfl rfl)) ?_ ⟨_, _, _, _, _, _, rdV1 (by assumption) (by assumption), rfl, rfl⟩
      refine Ent.trans (Sl.none (T := RI)) ?_
      repeat (first | exact Ent.refl _ | (apply Ent.cons; (· repeat (first | exact Pick.here | (refine Pick.sl ?_; (· repeat (first | exact List.Mem.head _ | assumption | apply List.Mem.tail))) | apply Pick.there))) | (refine Ent.trans (Ent.drop _ _) ?_))
    · skip
      refine RL.val (Wanted.free rfl) (V.assign rfl rfl) rfl ?_
      refine RL.nil ?_
      refine SG.cond_false rfl ?_
      refine SG.seq ?_
      refine SG.region ?_
      refine RL.cmp (Wanted.free rfl) (V.bin rfl rfl rfl B.eql) rfl (fun h29 => ?_) (fun h29 => ?_)
      · skip
        refine RL.val (Wanted.free rfl) (V.assign rfl rfl) rfl ?_
        refine RL.nil ?_
        refine SG.cond_true rfl ?_
        refine SG.region ?_
        refine RL.val (Wanted.free rfl) (V.move rfl rfl) rfl ?_
        refine RL.eff (Wanted.free rfl) (E.call rfl go44 rfl (rBool_ok (by repeat (first | exact Pick.here | apply Pick.there)))) rfl ?_
        rintro _ _ ⟨l32, e32, x32, r32, rfl, rfl⟩
        refine RL.val (Wanted.free rfl) (V.fieldAddr rfl rfl fo34_3) rfl ?_
        refine RL.eff (Wanted.free rfl) (E.store1 rfl rfl rfl rfl rfl sz4 (by repeat (first | exact Pick.here | apply Pick.there)) rfl) rfl ?_
        rintro _ _ rfl
        refine RL.nil ?_
        refine SG.inBlock ?_
        refine SG.seq ?_
        refine SG.region ?_
        refine RL.val (Wanted.free rfl) (V.loadAgg (us := _) rfl ag34 rfl (by repeat (first | exact Pick.here | apply Pick.there)) rfl rfl) rfl ?_
        refine RL.eff (Wanted.free rfl) (E.storeAgg rfl rfl rfl rfl sz34 (by repeat (first | exact Pick.here | apply Pick.there)) (by first | (simp [Value.oneCell']; done) | (simp [setAt, Value.oneCell']; done)) (by first | (simp; done) | (simp [setAt]; done))) rfl ?_
        rintro _ _ rfl
        refine RL.nil ?_
        refine SG.retE (Ret.r1 Try.func24 rfl (.agg rfl ag34 (by repeat (first | exact Pick.here | apply Pick.there)) rfl rfl)) ?_ ⟨_, _, _, _, _, _, rdV2 (by assumption) (by assumption), rfl, rfl⟩
        refine Ent.trans (Sl.none (T := RI)) ?_
        repeat (first | exact Ent.refl _ | (apply Ent.cons; (· repeat (first | exact Pick.here | (refine Pick.sl ?_; (· repeat (first | exact List.Mem.head _ | assumption | apply List.Mem.tail))) | apply Pick.there))) | (refine Ent.trans (Ent.drop _ _) ?_))
      · skip
        refine RL.val (Wanted.free rfl) (V.assign rfl rfl) rfl ?_
        refine RL.nil ?_
        refine SG.cond_false rfl ?_
        refine SG.seq ?_
        refine SG.region ?_
        refine RL.cmp (Wanted.free rfl) (V.bin rfl rfl rfl B.eql) rfl (fun h38 => ?_) (fun h38 => ?_)
        · skip
          refine RL.val (Wanted.free rfl) (V.assign rfl rfl) rfl ?_
          refine RL.nil ?_
          refine SG.cond_true rfl ?_
          refine SG.region ?_
          refine RL.val (Wanted.free rfl) (V.move rfl rfl) rfl ?_
          refine RL.val (Wanted.free rfl) (V.move rfl rfl) rfl ?_
          refine RL.eff (Wanted.free rfl) (E.call rfl go45 rfl (rText_ok _ (by repeat (first | exact Pick.here | apply Pick.there)) (by omega) (by omega))) rfl ?_
          rintro _ _ ⟨l42, e42, s42, r42, rfl, rfl, hs42⟩
          refine RL.val (Wanted.free rfl) (V.fieldAddr rfl rfl fo34_4) rfl ?_
          refine RL.eff (Wanted.free rfl) (E.store1 rfl rfl rfl rfl rfl sz9 (by repeat (first | exact Pick.here | apply Pick.there)) rfl) rfl ?_
          rintro _ _ rfl
          refine RL.nil ?_
          refine SG.inBlock ?_
          refine SG.seq ?_
          refine SG.region ?_
          refine RL.val (Wanted.free rfl) (V.loadAgg (us := _) rfl ag34 rfl (by repeat (first | exact Pick.here | apply Pick.there)) rfl rfl) rfl ?_
          refine RL.eff (Wanted.free rfl) (E.storeAgg rfl rfl rfl rfl sz34 (by repeat (first | exact Pick.here | apply Pick.there)) (by first | (simp [Value.oneCell']; done) | (simp [setAt, Value.oneCell']; done)) (by first | (simp; done) | (simp [setAt]; done))) rfl ?_
          rintro _ _ rfl
          refine RL.nil ?_
          refine SG.retE (Ret.r1 Try.func24 rfl (.agg rfl ag34 (by repeat (first | exact Pick.here | apply Pick.there)) rfl rfl)) ?_ ⟨_, _, _, _, _, _, rdV3 (by assumption) (by assumption), rfl, rfl⟩
          refine Ent.trans (Sl.none (T := RI)) ?_
          repeat (first | exact Ent.refl _ | (apply Ent.cons; (· repeat (first | exact Pick.here | (refine Pick.sl ?_; (· repeat (first | exact List.Mem.head _ | assumption | apply List.Mem.tail))) | apply Pick.there))) | (refine Ent.trans (Ent.drop _ _) ?_))
        · skip
          refine RL.val (Wanted.free rfl) (V.assign rfl rfl) rfl ?_
          refine RL.nil ?_
          refine SG.cond_false rfl ?_
          refine SG.region ?_
          refine RL.val (Wanted.free rfl) (V.move rfl rfl) rfl ?_
          refine RL.val (Wanted.free rfl) (V.move rfl rfl) rfl ?_
          refine RL.eff (Wanted.free rfl) (E.call rfl go46 rfl (rInts_ok _ (by repeat (first | exact Pick.here | apply Pick.there)) (by omega) (by omega) (by omega))) rfl ?_
          rintro _ _ ⟨l1, e1, xs, a1, k1, c1, hr, rfl, rfl⟩
          refine RL.publish (a := a1) (by repeat (first | exact Pick.here | apply Pick.there)) ?_
          refine RL.val (Wanted.free rfl) (V.fieldAddr rfl rfl fo34_5) rfl ?_
          refine RL.eff (Wanted.free rfl) (E.store1 rfl rfl rfl rfl rfl sz32 (by repeat (first | exact Pick.here | apply Pick.there)) rfl) rfl ?_
          rintro _ _ rfl
          refine RL.nil ?_
          refine SG.inBlock ?_
          refine SG.seq ?_
          refine SG.region ?_
          refine RL.val (Wanted.free rfl) (V.loadAgg (us := _) rfl ag34 rfl (by repeat (first | exact Pick.here | apply Pick.there)) rfl rfl) rfl ?_
          refine RL.eff (Wanted.free rfl) (E.storeAgg rfl rfl rfl rfl sz34 (by repeat (first | exact Pick.here | apply Pick.there)) (by first | (simp [Value.oneCell']; done) | (simp [setAt, Value.oneCell']; done)) (by first | (simp; done) | (simp [setAt]; done))) rfl ?_
          rintro _ _ rfl
          refine RL.nil ?_
          refine SG.retE (Ret.r1 Try.func24 rfl (.agg rfl ag34 (by repeat (first | exact Pick.here | apply Pick.there)) rfl rfl)) ?_ ⟨_, _, _, _, _, _, rdV4 (by assumption) (by assumption) (by assumption) (by assumption) (by assumption), rfl, rfl⟩
          repeat (first | exact Ent.refl _ | (apply Ent.cons; (· repeat (first | exact Pick.here | (refine Pick.sl ?_; (· repeat (first | exact List.Mem.head _ | assumption | apply List.Mem.tail))) | apply Pick.there))) | (refine Ent.trans (Ent.drop _ _) ?_))

set_option maxRecDepth 100000 in
theorem expected_ok {κ : World} {L : List Assn} (v : Val) (most : Int) {a a0 : Option Addr} {m c m0 c0 : Nat} {l : List UInt8} {e : Int} (hm : Sl R8 a0 m0 c0 l ∈ L) (hm1 : -9223372036854775808 ≤ most) (hm2 : most ≤ 9223372036854775807) (hb : l.length ≤ 1000000) :
    Ctr Try.prog 26 #[.agg #[.slice a0 m0 c0, vI e], .agg #[v8 v.kind, v64 v.u, vI v.n, vB v.b, vS v.s, .slice a m c], vI most] κ L (fun r M => ∃ l' e' w a' m' c' a3 m3 c3, rdV v.kind most l e = (l', e', w) ∧ r = .tuple #[.agg #[.slice a3 m3 c3, vI e'], .agg #[v8 w.kind, v64 w.u, vI w.n, vB w.b, vS w.s, .slice a' m' c']] ∧ M = Sl RI a' m' c' w.l :: Sl R8 a3 m3 c3 l' :: L) := by
  refine Ctr.enter (vs := [.agg #[.slice a0 m0 c0, vI e], .agg #[v8 v.kind, v64 v.u, vI v.n, vB v.b, vS v.s, .slice a m c], vI most]) (m := 57) Try.func26 rfl rfl rfl ?_
  refine SG.seq ?_
  refine SG.region ?_
  refine RL.eff (Wanted.free rfl) (E.box [.slice a0 m0 c0, vI e] rfl rfl rfl) rfl ?_
  rintro _ _ ⟨b3, rfl, rfl⟩
  refine RL.eff (Wanted.free rfl) (E.box [v8 v.kind, v64 v.u, vI v.n, vB v.b, vS v.s, .slice a m c] rfl rfl rfl) rfl ?_
  rintro _ _ ⟨bv, rfl, rfl⟩
  refine RL.eff (Wanted.free rfl) (E.alloc rfl ze57) rfl ?_
  rintro _ _ ⟨b6, rfl, rfl⟩
  refine RL.eff (Wanted.free rfl) (E.alloc rfl ze34) rfl ?_
  rintro _ _ ⟨b7, rfl, rfl⟩
  refine RL.nil ?_
  refine SG.seq ?_
  refine SG.region ?_
  refine RL.val (Wanted.free rfl) (V.fieldAddr rfl rfl fo34_0) rfl ?_
  refine RL.val (Wanted.free rfl) (V.load rfl on5 rfl (by repeat (first | exact Pick.here | apply Pick.there)) rfl) rfl ?_
  refine RL.val (Wanted.free rfl) (V.buildS [(0, _)] rfl bs34 (by exact ⟨rfl, ⟨_, rfl, rfl⟩, trivial⟩) rfl) rfl ?_
  refine RL.eff (Wanted.free rfl) (E.alloc rfl ze34) rfl ?_
  rintro _ _ ⟨b8, rfl, rfl⟩
  refine RL.eff (Wanted.free rfl) (E.storeAgg rfl rfl rfl rfl sz34 (by repeat (first | exact Pick.here | apply Pick.there)) (by first | (simp [Value.oneCell']; done) | (simp [setAt, Value.oneCell']; done)) (by first | (simp; done) | (simp [setAt]; done))) rfl ?_
  rintro _ _ rfl
  refine RL.nil ?_
  refine SG.seq ?_
  refine SG.seq ?_
  refine SG.region ?_
  refine RL.val (Wanted.free rfl) (V.fieldAddr rfl rfl fo34_0) rfl ?_
  refine RL.val (Wanted.free rfl) (V.load rfl on5 rfl (by repeat (first | exact Pick.here | apply Pick.there)) rfl) rfl ?_
  refine RL.val (Wanted.free rfl) (V.bin rfl rfl rfl (B.rem8 (y := 5) (by decide))) rfl ?_
  refine RL.nil ?_
  refine SG.block ?_
  refine SG.seq ?_
  refine SG.region ?_
  refine RL.cmp (Wanted.free rfl) (V.bin rfl rfl rfl B.eql) rfl (fun h13 => ?_) (fun h13 => ?_)
  · skip
    refine RL.val (Wanted.free rfl) (V.assign rfl rfl) rfl ?_
    refine RL.nil ?_
    refine SG.cond_true rfl ?_
    refine SG.region ?_
    refine RL.val (Wanted.free rfl) (V.loadAgg (us := _) rfl ag57 rfl (by repeat (first | exact Pick.here | apply Pick.there)) rfl rfl) rfl ?_
    refine RL.eff (Wanted.free rfl) (E.call rfl go47 rfl (xUint_ok (by repeat (first | exact List.Mem.head _ | assumption | apply List.Mem.tail)))) rfl ?_
    rintro _ _ ⟨l16, e16, x16, a16, m16, c16, r16, rfl, rfl⟩
    refine RL.val (Wanted.free rfl) (V.move rfl rfl) rfl ?_
    refine RL.val (Wanted.free rfl) (V.extract rfl rfl rfl) rfl ?_
    refine RL.val (Wanted.free rfl) (V.extract rfl rfl rfl) rfl ?_
    refine RL.eff (Wanted.free rfl) (E.storeAgg rfl rfl rfl rfl sz57 (by repeat (first | exact Pick.here | apply Pick.there)) (by first | (simp [Value.oneCell']; done) | (simp [setAt, Value.oneCell']; done)) (by first | (simp; done) | (simp [setAt]; done))) rfl ?_
    rintro _ _ rfl
    refine RL.val (Wanted.free rfl) (V.fieldAddr rfl rfl fo34_1) rfl ?_
    refine RL.eff (Wanted.free rfl) (E.store1 rfl rfl rfl rfl rfl sz31 (by repeat (first | exact Pick.here | apply Pick.there)) rfl) rfl ?_
    rintro _ _ rfl
    refine RL.nil ?_
    refine SG.inBlock ?_
    refine SG.seq ?_
    refine SG.drawP2 4 6 7 wide rfl rfl rfl (by repeat (first | exact Pick.here | apply Pick.there)) rfl (by repeat (first | exact Pick.here | apply Pick.there)) ?_
    refine RH.val 0 rfl (by kernel_rfl) (by kernel_rfl) (by kernel_rfl) (Wanted.free rfl) (V.loadAgg (us := _) rfl ag57 rfl (by repeat (first | exact Pick.here | apply Pick.there)) rfl rfl) (by repeat (first | exact Ent.refl _ | (apply Ent.cons; (· repeat (first | exact Pick.here | (refine Pick.sl ?_; (· repeat (first | exact List.Mem.head _ | assumption | apply List.Mem.tail))) | apply Pick.there))) | (refine Ent.trans (Ent.drop _ _) ?_))) rfl ?_
    refine RH.val 1 rfl (by kernel_rfl) (by kernel_rfl) (by kernel_rfl) (Wanted.free rfl) (V.loadAgg (us := _) rfl ag34 rfl (by repeat (first | exact Pick.here | apply Pick.there)) rfl rfl) (by repeat (first | exact Ent.refl _ | (apply Ent.cons; (· repeat (first | exact Pick.here | (refine Pick.sl ?_; (· repeat (first | exact List.Mem.head _ | assumption | apply List.Mem.tail))) | apply Pick.there))) | (refine Ent.trans (Ent.drop _ _) ?_))) rfl ?_
    refine RH.one (i := 2) (by kernel_rfl) ?_
    refine RHone.eff rfl (Wanted.free rfl) (E.storeAgg rfl rfl rfl rfl sz57 (by repeat (first | exact Pick.here | apply Pick.there)) (by first | (simp [Value.oneCell']; done) | (simp [setAt, Value.oneCell']; done)) (by first | (simp; done) | (simp [setAt]; done))) rfl ?_
    rintro _ _ rfl
    refine ⟨(by repeat (first | exact Ent.refl _ | (apply Ent.cons; (· repeat (first | exact Pick.here | (refine Pick.sl ?_; (· repeat (first | exact List.Mem.head _ | assumption | apply List.Mem.tail))) | apply Pick.there))) | (refine Ent.trans (Ent.drop _ _) ?_))), ?_⟩
    refine RH.one (i := 3) (by kernel_rfl) ?_
    refine RHone.eff rfl (Wanted.free rfl) (E.storeAgg rfl rfl rfl rfl sz34 (by repeat (first | exact Pick.here | apply Pick.there)) (by first | (simp [Value.oneCell']; done) | (simp [setAt, Value.oneCell']; done)) (by first | (simp; done) | (simp [setAt]; done))) rfl ?_
    rintro _ _ rfl
    refine ⟨(by repeat (first | exact Ent.refl _ | (apply Ent.cons; (· repeat (first | exact Pick.here | (refine Pick.sl ?_; (· repeat (first | exact List.Mem.head _ | assumption | apply List.Mem.tail))) | apply Pick.there))) | (refine Ent.trans (Ent.drop _ _) ?_))), ?_⟩
    refine RH.done (by kernel_rfl) ?_
    first
    | (refine SG.retE (Ret.r2 Try.func26 rfl (.agg rfl ag57 (by repeat (first | exact Pick.here | apply Pick.there)) rfl rfl) (.agg rfl ag34 (by repeat (first | exact Pick.here | apply Pick.there)) rfl rfl)) ?_ ⟨_, _, _, _, _, _, _, _, _, rdV0 (by assumption) (by assumption), rfl, rfl⟩; (refine Ent.trans (Sl.none (T := RI)) ?_; repeat (first | exact Ent.refl _ | (apply Ent.cons; (· repeat (first | exact Pick.here | (refine Pick.sl ?_; (· repeat (first | exact List.Mem.head _ | assumption | apply List.Mem.tail))) | apply Pick.there))) | (refine Ent.trans (Ent.drop _ _) ?_))))
    | (refine SG.retE (Ret.r2 Try.func26 rfl (.agg rfl ag57 (by repeat (first | exact Pick.here | apply Pick.there)) rfl rfl) (.agg rfl ag34 (by repeat (first | exact Pick.here | apply Pick.there)) rfl rfl)) ?_ ⟨_, _, _, _, _, _, _, _, _, rdV1 (by assumption) (by assumption), rfl, rfl⟩; (refine Ent.trans (Sl.none (T := RI)) ?_; repeat (first | exact Ent.refl _ | (apply Ent.cons; (· repeat (first | exact Pick.here | (refine Pick.sl ?_; (· repeat (first | exact List.Mem.head _ | assumption | apply List.Mem.tail))) | apply Pick.there))) | (refine Ent.trans (Ent.drop _ _) ?_))))
    | (refine SG.retE (Ret.r2 Try.func26 rfl (.agg rfl ag57 (by repeat (first | exact Pick.here | apply Pick.there)) rfl rfl) (.agg rfl ag34 (by repeat (first | exact Pick.here | apply Pick.there)) rfl rfl)) ?_ ⟨_, _, _, _, _, _, _, _, _, rdV2 (by assumption) (by assumption), rfl, rfl⟩; (refine Ent.trans (Sl.none (T := RI)) ?_; repeat (first | exact Ent.refl _ | (apply Ent.cons; (· repeat (first | exact Pick.here | (refine Pick.sl ?_; (· repeat (first | exact List.Mem.head _ | assumption | apply List.Mem.tail))) | apply Pick.there))) | (refine Ent.trans (Ent.drop _ _) ?_))))
    | (refine SG.retE (Ret.r2 Try.func26 rfl (.agg rfl ag57 (by repeat (first | exact Pick.here | apply Pick.there)) rfl rfl) (.agg rfl ag34 (by repeat (first | exact Pick.here | apply Pick.there)) rfl rfl)) ?_ ⟨_, _, _, _, _, _, _, _, _, rdV3 (by assumption) (by assumption), rfl, rfl⟩; (refine Ent.trans (Sl.none (T := RI)) ?_; repeat (first | exact Ent.refl _ | (apply Ent.cons; (· repeat (first | exact Pick.here | (refine Pick.sl ?_; (· repeat (first | exact List.Mem.head _ | assumption | apply List.Mem.tail))) | apply Pick.there))) | (refine Ent.trans (Ent.drop _ _) ?_))))
    | (refine SG.retE (Ret.r2 Try.func26 rfl (.agg rfl ag57 (by repeat (first | exact Pick.here | apply Pick.there)) rfl rfl) (.agg rfl ag34 (by repeat (first | exact Pick.here | apply Pick.there)) rfl rfl)) ?_ ⟨_, _, _, _, _, _, _, _, _, rdV4 (by assumption) (by assumption) (by assumption) (by assumption) (by assumption), rfl, rfl⟩; (repeat (first | exact Ent.refl _ | (apply Ent.cons; (· repeat (first | exact Pick.here | (refine Pick.sl ?_; (· repeat (first | exact List.Mem.head _ | assumption | apply List.Mem.tail))) | apply Pick.there))) | (refine Ent.trans (Ent.drop _ _) ?_))))
  · skip
    refine RL.val (Wanted.free rfl) (V.assign rfl rfl) rfl ?_
    refine RL.nil ?_
    refine SG.cond_false rfl ?_
    refine SG.seq ?_
    refine SG.region ?_
    refine RL.cmp (Wanted.free rfl) (V.bin rfl rfl rfl B.eql) rfl (fun h28 => ?_) (fun h28 => ?_)
    · skip
      refine RL.val (Wanted.free rfl) (V.assign rfl rfl) rfl ?_
      refine RL.nil ?_
      refine SG.cond_true rfl ?_
      refine SG.region ?_
      refine RL.val (Wanted.free rfl) (V.loadAgg (us := _) rfl ag57 rfl (by repeat (first | exact Pick.here | apply Pick.there)) rfl rfl) rfl ?_
      refine RL.eff (Wanted.free rfl) (E.call rfl go48 rfl (xInt_ok (by repeat (first | exact List.Mem.head _ | assumption | apply List.Mem.tail)))) rfl ?_
      rintro _ _ ⟨l31, e31, x31, a31, m31, c31, r31, rfl, rfl⟩
      refine RL.val (Wanted.free rfl) (V.move rfl rfl) rfl ?_
      refine RL.val (Wanted.free rfl) (V.extract rfl rfl rfl) rfl ?_
      refine RL.val (Wanted.free rfl) (V.extract rfl rfl rfl) rfl ?_
      refine RL.eff (Wanted.free rfl) (E.storeAgg rfl rfl rfl rfl sz57 (by repeat (first | exact Pick.here | apply Pick.there)) (by first | (simp [Value.oneCell']; done) | (simp [setAt, Value.oneCell']; done)) (by first | (simp; done) | (simp [setAt]; done))) rfl ?_
      rintro _ _ rfl
      refine RL.val (Wanted.free rfl) (V.fieldAddr rfl rfl fo34_2) rfl ?_
      refine RL.eff (Wanted.free rfl) (E.store1 rfl rfl rfl rfl rfl sz3 (by repeat (first | exact Pick.here | apply Pick.there)) rfl) rfl ?_
      rintro _ _ rfl
      refine RL.nil ?_
      refine SG.inBlock ?_
      refine SG.seq ?_
      refine SG.drawP2 4 6 7 wide rfl rfl rfl (by repeat (first | exact Pick.here | apply Pick.there)) rfl (by repeat (first | exact Pick.here | apply Pick.there)) ?_
      refine RH.val 0 rfl (by kernel_rfl) (by kernel_rfl) (by kernel_rfl) (Wanted.free rfl) (V.loadAgg (us := _) rfl ag57 rfl (by repeat (first | exact Pick.here | apply Pick.there)) rfl rfl) (by repeat (first | exact Ent.refl _ | (apply Ent.cons; (· repeat (first | exact Pick.here | (refine Pick.sl ?_; (· repeat (first | exact List.Mem.head _ | assumption | apply List.Mem.tail))) | apply Pick.there))) | (refine Ent.trans (Ent.drop _ _) ?_))) rfl ?_
      refine RH.val 1 rfl (by kernel_rfl) (by kernel_rfl) (by kernel_rfl) (Wanted.free rfl) (V.loadAgg (us := _) rfl ag34 rfl (by repeat (first | exact Pick.here | apply Pick.there)) rfl rfl) (by repeat (first | exact Ent.refl _ | (apply Ent.cons; (· repeat (first | exact Pick.here | (refine Pick.sl ?_; (· repeat (first | exact List.Mem.head _ | assumption | apply List.Mem.tail))) | apply Pick.there))) | (refine Ent.trans (Ent.drop _ _) ?_))) rfl ?_
      refine RH.one (i := 2) (by kernel_rfl) ?_
      refine RHone.eff rfl (Wanted.free rfl) (E.storeAgg rfl rfl rfl rfl sz57 (by repeat (first | exact Pick.here | apply Pick.there)) (by first | (simp [Value.oneCell']; done) | (simp [setAt, Value.oneCell']; done)) (by first | (simp; done) | (simp [setAt]; done))) rfl ?_
      rintro _ _ rfl
      refine ⟨(by repeat (first | exact Ent.refl _ | (apply Ent.cons; (· repeat (first | exact Pick.here | (refine Pick.sl ?_; (· repeat (first | exact List.Mem.head _ | assumption | apply List.Mem.tail))) | apply Pick.there))) | (refine Ent.trans (Ent.drop _ _) ?_))), ?_⟩
      refine RH.one (i := 3) (by kernel_rfl) ?_
      refine RHone.eff rfl (Wanted.free rfl) (E.storeAgg rfl rfl rfl rfl sz34 (by repeat (first | exact Pick.here | apply Pick.there)) (by first | (simp [Value.oneCell']; done) | (simp [setAt, Value.oneCell']; done)) (by first | (simp; done) | (simp [setAt]; done))) rfl ?_
      rintro _ _ rfl
      refine ⟨(by repeat (first | exact Ent.refl _ | (apply Ent.cons; (· repeat (first | exact Pick.here | (refine Pick.sl ?_; (· repeat (first | exact List.Mem.head _ | assumption | apply List.Mem.tail))) | apply Pick.there))) | (refine Ent.trans (Ent.drop _ _) ?_))), ?_⟩
      refine RH.done (by kernel_rfl) ?_
      first
      | (refine SG.retE (Ret.r2 Try.func26 rfl (.agg rfl ag57 (by repeat (first | exact Pick.here | apply Pick.there)) rfl rfl) (.agg rfl ag34 (by repeat (first | exact Pick.here | apply Pick.there)) rfl rfl)) ?_ ⟨_, _, _, _, _, _, _, _, _, rdV0 (by assumption) (by assumption), rfl, rfl⟩; (refine Ent.trans (Sl.none (T := RI)) ?_; repeat (first | exact Ent.refl _ | (apply Ent.cons; (· repeat (first | exact Pick.here | (refine Pick.sl ?_; (· repeat (first | exact List.Mem.head _ | assumption | apply List.Mem.tail))) | apply Pick.there))) | (refine Ent.trans (Ent.drop _ _) ?_))))
      | (refine SG.retE (Ret.r2 Try.func26 rfl (.agg rfl ag57 (by repeat (first | exact Pick.here | apply Pick.there)) rfl rfl) (.agg rfl ag34 (by repeat (first | exact Pick.here | apply Pick.there)) rfl rfl)) ?_ ⟨_, _, _, _, _, _, _, _, _, rdV1 (by assumption) (by assumption), rfl, rfl⟩; (refine Ent.trans (Sl.none (T := RI)) ?_; repeat (first | exact Ent.refl _ | (apply Ent.cons; (· repeat (first | exact Pick.here | (refine Pick.sl ?_; (· repeat (first | exact List.Mem.head _ | assumption | apply List.Mem.tail))) | apply Pick.there))) | (refine Ent.trans (Ent.drop _ _) ?_))))
      | (refine SG.retE (Ret.r2 Try.func26 rfl (.agg rfl ag57 (by repeat (first | exact Pick.here | apply Pick.there)) rfl rfl) (.agg rfl ag34 (by repeat (first | exact Pick.here | apply Pick.there)) rfl rfl)) ?_ ⟨_, _, _, _, _, _, _, _, _, rdV2 (by assumption) (by assumption), rfl, rfl⟩; (refine Ent.trans (Sl.none (T := RI)) ?_; repeat (first | exact Ent.refl _ | (apply Ent.cons; (· repeat (first | exact Pick.here | (refine Pick.sl ?_; (· repeat (first | exact List.Mem.head _ | assumption | apply List.Mem.tail))) | apply Pick.there))) | (refine Ent.trans (Ent.drop _ _) ?_))))
      | (refine SG.retE (Ret.r2 Try.func26 rfl (.agg rfl ag57 (by repeat (first | exact Pick.here | apply Pick.there)) rfl rfl) (.agg rfl ag34 (by repeat (first | exact Pick.here | apply Pick.there)) rfl rfl)) ?_ ⟨_, _, _, _, _, _, _, _, _, rdV3 (by assumption) (by assumption), rfl, rfl⟩; (refine Ent.trans (Sl.none (T := RI)) ?_; repeat (first | exact Ent.refl _ | (apply Ent.cons; (· repeat (first | exact Pick.here | (refine Pick.sl ?_; (· repeat (first | exact List.Mem.head _ | assumption | apply List.Mem.tail))) | apply Pick.there))) | (refine Ent.trans (Ent.drop _ _) ?_))))
      | (refine SG.retE (Ret.r2 Try.func26 rfl (.agg rfl ag57 (by repeat (first | exact Pick.here | apply Pick.there)) rfl rfl) (.agg rfl ag34 (by repeat (first | exact Pick.here | apply Pick.there)) rfl rfl)) ?_ ⟨_, _, _, _, _, _, _, _, _, rdV4 (by assumption) (by assumption) (by assumption) (by assumption) (by assumption), rfl, rfl⟩; (repeat (first | exact Ent.refl _ | (apply Ent.cons; (· repeat (first | exact Pick.here | (refine Pick.sl ?_; (· repeat (first | exact List.Mem.head _ | assumption | apply List.Mem.tail))) | apply Pick.there))) | (refine Ent.trans (Ent.drop _ _) ?_))))
    · skip
      refine RL.val (Wanted.free rfl) (V.assign rfl rfl) rfl ?_
      refine RL.nil ?_
      refine SG.cond_false rfl ?_
      refine SG.seq ?_
      refine SG.region ?_
      refine RL.cmp (Wanted.free rfl) (V.bin rfl rfl rfl B.eql) rfl (fun h43 => ?_) (fun h43 => ?_)
      · skip
        refine RL.val (Wanted.free rfl) (V.assign rfl rfl) rfl ?_
        refine RL.nil ?_
        refine SG.cond_true rfl ?_
        refine SG.region ?_
        refine RL.val (Wanted.free rfl) (V.loadAgg (us := _) rfl ag57 rfl (by repeat (first | exact Pick.here | apply Pick.there)) rfl rfl) rfl ?_
        refine RL.eff (Wanted.free rfl) (E.call rfl go49 rfl (xBool_ok (by repeat (first | exact List.Mem.head _ | assumption | apply List.Mem.tail)))) rfl ?_
        rintro _ _ ⟨l46, e46, x46, a46, m46, c46, r46, rfl, rfl⟩
        refine RL.val (Wanted.free rfl) (V.move rfl rfl) rfl ?_
        refine RL.val (Wanted.free rfl) (V.extract rfl rfl rfl) rfl ?_
        refine RL.val (Wanted.free rfl) (V.extract rfl rfl rfl) rfl ?_
        refine RL.eff (Wanted.free rfl) (E.storeAgg rfl rfl rfl rfl sz57 (by repeat (first | exact Pick.here | apply Pick.there)) (by first | (simp [Value.oneCell']; done) | (simp [setAt, Value.oneCell']; done)) (by first | (simp; done) | (simp [setAt]; done))) rfl ?_
        rintro _ _ rfl
        refine RL.val (Wanted.free rfl) (V.fieldAddr rfl rfl fo34_3) rfl ?_
        refine RL.eff (Wanted.free rfl) (E.store1 rfl rfl rfl rfl rfl sz4 (by repeat (first | exact Pick.here | apply Pick.there)) rfl) rfl ?_
        rintro _ _ rfl
        refine RL.nil ?_
        refine SG.inBlock ?_
        refine SG.seq ?_
        refine SG.drawP2 4 6 7 wide rfl rfl rfl (by repeat (first | exact Pick.here | apply Pick.there)) rfl (by repeat (first | exact Pick.here | apply Pick.there)) ?_
        refine RH.val 0 rfl (by kernel_rfl) (by kernel_rfl) (by kernel_rfl) (Wanted.free rfl) (V.loadAgg (us := _) rfl ag57 rfl (by repeat (first | exact Pick.here | apply Pick.there)) rfl rfl) (by repeat (first | exact Ent.refl _ | (apply Ent.cons; (· repeat (first | exact Pick.here | (refine Pick.sl ?_; (· repeat (first | exact List.Mem.head _ | assumption | apply List.Mem.tail))) | apply Pick.there))) | (refine Ent.trans (Ent.drop _ _) ?_))) rfl ?_
        refine RH.val 1 rfl (by kernel_rfl) (by kernel_rfl) (by kernel_rfl) (Wanted.free rfl) (V.loadAgg (us := _) rfl ag34 rfl (by repeat (first | exact Pick.here | apply Pick.there)) rfl rfl) (by repeat (first | exact Ent.refl _ | (apply Ent.cons; (· repeat (first | exact Pick.here | (refine Pick.sl ?_; (· repeat (first | exact List.Mem.head _ | assumption | apply List.Mem.tail))) | apply Pick.there))) | (refine Ent.trans (Ent.drop _ _) ?_))) rfl ?_
        refine RH.one (i := 2) (by kernel_rfl) ?_
        refine RHone.eff rfl (Wanted.free rfl) (E.storeAgg rfl rfl rfl rfl sz57 (by repeat (first | exact Pick.here | apply Pick.there)) (by first | (simp [Value.oneCell']; done) | (simp [setAt, Value.oneCell']; done)) (by first | (simp; done) | (simp [setAt]; done))) rfl ?_
        rintro _ _ rfl
        refine ⟨(by repeat (first | exact Ent.refl _ | (apply Ent.cons; (· repeat (first | exact Pick.here | (refine Pick.sl ?_; (· repeat (first | exact List.Mem.head _ | assumption | apply List.Mem.tail))) | apply Pick.there))) | (refine Ent.trans (Ent.drop _ _) ?_))), ?_⟩
        refine RH.one (i := 3) (by kernel_rfl) ?_
        refine RHone.eff rfl (Wanted.free rfl) (E.storeAgg rfl rfl rfl rfl sz34 (by repeat (first | exact Pick.here | apply Pick.there)) (by first | (simp [Value.oneCell']; done) | (simp [setAt, Value.oneCell']; done)) (by first | (simp; done) | (simp [setAt]; done))) rfl ?_
        rintro _ _ rfl
        refine ⟨(by repeat (first | exact Ent.refl _ | (apply Ent.cons; (· repeat (first | exact Pick.here | (refine Pick.sl ?_; (· repeat (first | exact List.Mem.head _ | assumption | apply List.Mem.tail))) | apply Pick.there))) | (refine Ent.trans (Ent.drop _ _) ?_))), ?_⟩
        refine RH.done (by kernel_rfl) ?_
        first
        | (refine SG.retE (Ret.r2 Try.func26 rfl (.agg rfl ag57 (by repeat (first | exact Pick.here | apply Pick.there)) rfl rfl) (.agg rfl ag34 (by repeat (first | exact Pick.here | apply Pick.there)) rfl rfl)) ?_ ⟨_, _, _, _, _, _, _, _, _, rdV0 (by assumption) (by assumption), rfl, rfl⟩; (refine Ent.trans (Sl.none (T := RI)) ?_; repeat (first | exact Ent.refl _ | (apply Ent.cons; (· repeat (first | exact Pick.here | (refine Pick.sl ?_; (· repeat (first | exact List.Mem.head _ | assumption | apply List.Mem.tail))) | apply Pick.there))) | (refine Ent.trans (Ent.drop _ _) ?_))))
        | (refine SG.retE (Ret.r2 Try.func26 rfl (.agg rfl ag57 (by repeat (first | exact Pick.here | apply Pick.there)) rfl rfl) (.agg rfl ag34 (by repeat (first | exact Pick.here | apply Pick.there)) rfl rfl)) ?_ ⟨_, _, _, _, _, _, _, _, _, rdV1 (by assumption) (by assumption), rfl, rfl⟩; (refine Ent.trans (Sl.none (T := RI)) ?_; repeat (first | exact Ent.refl _ | (apply Ent.cons; (· repeat (first | exact Pick.here | (refine Pick.sl ?_; (· repeat (first | exact List.Mem.head _ | assumption | apply List.Mem.tail))) | apply Pick.there))) | (refine Ent.trans (Ent.drop _ _) ?_))))
        | (refine SG.retE (Ret.r2 Try.func26 rfl (.agg rfl ag57 (by repeat (first | exact Pick.here | apply Pick.there)) rfl rfl) (.agg rfl ag34 (by repeat (first | exact Pick.here | apply Pick.there)) rfl rfl)) ?_ ⟨_, _, _, _, _, _, _, _, _, rdV2 (by assumption) (by assumption), rfl, rfl⟩; (refine Ent.trans (Sl.none (T := RI)) ?_; repeat (first | exact Ent.refl _ | (apply Ent.cons; (· repeat (first | exact Pick.here | (refine Pick.sl ?_; (· repeat (first | exact List.Mem.head _ | assumption | apply List.Mem.tail))) | apply Pick.there))) | (refine Ent.trans (Ent.drop _ _) ?_))))
        | (refine SG.retE (Ret.r2 Try.func26 rfl (.agg rfl ag57 (by repeat (first | exact Pick.here | apply Pick.there)) rfl rfl) (.agg rfl ag34 (by repeat (first | exact Pick.here | apply Pick.there)) rfl rfl)) ?_ ⟨_, _, _, _, _, _, _, _, _, rdV3 (by assumption) (by assumption), rfl, rfl⟩; (refine Ent.trans (Sl.none (T := RI)) ?_; repeat (first | exact Ent.refl _ | (apply Ent.cons; (· repeat (first | exact Pick.here | (refine Pick.sl ?_; (· repeat (first | exact List.Mem.head _ | assumption | apply List.Mem.tail))) | apply Pick.there))) | (refine Ent.trans (Ent.drop _ _) ?_))))
        | (refine SG.retE (Ret.r2 Try.func26 rfl (.agg rfl ag57 (by repeat (first | exact Pick.here | apply Pick.there)) rfl rfl) (.agg rfl ag34 (by repeat (first | exact Pick.here | apply Pick.there)) rfl rfl)) ?_ ⟨_, _, _, _, _, _, _, _, _, rdV4 (by assumption) (by assumption) (by assumption) (by assumption) (by assumption), rfl, rfl⟩; (repeat (first | exact Ent.refl _ | (apply Ent.cons; (· repeat (first | exact Pick.here | (refine Pick.sl ?_; (· repeat (first | exact List.Mem.head _ | assumption | apply List.Mem.tail))) | apply Pick.there))) | (refine Ent.trans (Ent.drop _ _) ?_))))
      · skip
        refine RL.val (Wanted.free rfl) (V.assign rfl rfl) rfl ?_
        refine RL.nil ?_
        refine SG.cond_false rfl ?_
        refine SG.seq ?_
        refine SG.region ?_
        refine RL.cmp (Wanted.free rfl) (V.bin rfl rfl rfl B.eql) rfl (fun h58 => ?_) (fun h58 => ?_)
        · skip
          refine RL.val (Wanted.free rfl) (V.assign rfl rfl) rfl ?_
          refine RL.nil ?_
          refine SG.cond_true rfl ?_
          refine SG.region ?_
          refine RL.val (Wanted.free rfl) (V.loadAgg (us := _) rfl ag57 rfl (by repeat (first | exact Pick.here | apply Pick.there)) rfl rfl) rfl ?_
          refine RL.val (Wanted.free rfl) (V.move rfl rfl) rfl ?_
          refine RL.eff (Wanted.free rfl) (E.call rfl go50 rfl (xText_ok _ (by repeat (first | exact List.Mem.head _ | assumption | apply List.Mem.tail)) (by omega) (by omega))) rfl ?_
          rintro _ _ ⟨l62, e62, x62, a62, m62, c62, r62, rfl, rfl, hs62⟩
          refine RL.val (Wanted.free rfl) (V.move rfl rfl) rfl ?_
          refine RL.val (Wanted.free rfl) (V.extract rfl rfl rfl) rfl ?_
          refine RL.val (Wanted.free rfl) (V.extract rfl rfl rfl) rfl ?_
          refine RL.eff (Wanted.free rfl) (E.storeAgg rfl rfl rfl rfl sz57 (by repeat (first | exact Pick.here | apply Pick.there)) (by first | (simp [Value.oneCell']; done) | (simp [setAt, Value.oneCell']; done)) (by first | (simp; done) | (simp [setAt]; done))) rfl ?_
          rintro _ _ rfl
          refine RL.val (Wanted.free rfl) (V.fieldAddr rfl rfl fo34_4) rfl ?_
          refine RL.eff (Wanted.free rfl) (E.store1 rfl rfl rfl rfl rfl sz9 (by repeat (first | exact Pick.here | apply Pick.there)) rfl) rfl ?_
          rintro _ _ rfl
          refine RL.nil ?_
          refine SG.inBlock ?_
          refine SG.seq ?_
          refine SG.drawP2 4 6 7 wide rfl rfl rfl (by repeat (first | exact Pick.here | apply Pick.there)) rfl (by repeat (first | exact Pick.here | apply Pick.there)) ?_
          refine RH.val 0 rfl (by kernel_rfl) (by kernel_rfl) (by kernel_rfl) (Wanted.free rfl) (V.loadAgg (us := _) rfl ag57 rfl (by repeat (first | exact Pick.here | apply Pick.there)) rfl rfl) (by repeat (first | exact Ent.refl _ | (apply Ent.cons; (· repeat (first | exact Pick.here | (refine Pick.sl ?_; (· repeat (first | exact List.Mem.head _ | assumption | apply List.Mem.tail))) | apply Pick.there))) | (refine Ent.trans (Ent.drop _ _) ?_))) rfl ?_
          refine RH.val 1 rfl (by kernel_rfl) (by kernel_rfl) (by kernel_rfl) (Wanted.free rfl) (V.loadAgg (us := _) rfl ag34 rfl (by repeat (first | exact Pick.here | apply Pick.there)) rfl rfl) (by repeat (first | exact Ent.refl _ | (apply Ent.cons; (· repeat (first | exact Pick.here | (refine Pick.sl ?_; (· repeat (first | exact List.Mem.head _ | assumption | apply List.Mem.tail))) | apply Pick.there))) | (refine Ent.trans (Ent.drop _ _) ?_))) rfl ?_
          refine RH.one (i := 2) (by kernel_rfl) ?_
          refine RHone.eff rfl (Wanted.free rfl) (E.storeAgg rfl rfl rfl rfl sz57 (by repeat (first | exact Pick.here | apply Pick.there)) (by first | (simp [Value.oneCell']; done) | (simp [setAt, Value.oneCell']; done)) (by first | (simp; done) | (simp [setAt]; done))) rfl ?_
          rintro _ _ rfl
          refine ⟨(by repeat (first | exact Ent.refl _ | (apply Ent.cons; (· repeat (first | exact Pick.here | (refine Pick.sl ?_; (· repeat (first | exact List.Mem.head _ | assumption | apply List.Mem.tail))) | apply Pick.there))) | (refine Ent.trans (Ent.drop _ _) ?_))), ?_⟩
          refine RH.one (i := 3) (by kernel_rfl) ?_
          refine RHone.eff rfl (Wanted.free rfl) (E.storeAgg rfl rfl rfl rfl sz34 (by repeat (first | exact Pick.here | apply Pick.there)) (by first | (simp [Value.oneCell']; done) | (simp [setAt, Value.oneCell']; done)) (by first | (simp; done) | (simp [setAt]; done))) rfl ?_
          rintro _ _ rfl
          refine ⟨(by repeat (first | exact Ent.refl _ | (apply Ent.cons; (· repeat (first | exact Pick.here | (refine Pick.sl ?_; (· repeat (first | exact List.Mem.head _ | assumption | apply List.Mem.tail))) | apply Pick.there))) | (refine Ent.trans (Ent.drop _ _) ?_))), ?_⟩
          refine RH.done (by kernel_rfl) ?_
          first
          | (refine SG.retE (Ret.r2 Try.func26 rfl (.agg rfl ag57 (by repeat (first | exact Pick.here | apply Pick.there)) rfl rfl) (.agg rfl ag34 (by repeat (first | exact Pick.here | apply Pick.there)) rfl rfl)) ?_ ⟨_, _, _, _, _, _, _, _, _, rdV0 (by assumption) (by assumption), rfl, rfl⟩; (refine Ent.trans (Sl.none (T := RI)) ?_; repeat (first | exact Ent.refl _ | (apply Ent.cons; (· repeat (first | exact Pick.here | (refine Pick.sl ?_; (· repeat (first | exact List.Mem.head _ | assumption | apply List.Mem.tail))) | apply Pick.there))) | (refine Ent.trans (Ent.drop _ _) ?_))))
          | (refine SG.retE (Ret.r2 Try.func26 rfl (.agg rfl ag57 (by repeat (first | exact Pick.here | apply Pick.there)) rfl rfl) (.agg rfl ag34 (by repeat (first | exact Pick.here | apply Pick.there)) rfl rfl)) ?_ ⟨_, _, _, _, _, _, _, _, _, rdV1 (by assumption) (by assumption), rfl, rfl⟩; (refine Ent.trans (Sl.none (T := RI)) ?_; repeat (first | exact Ent.refl _ | (apply Ent.cons; (· repeat (first | exact Pick.here | (refine Pick.sl ?_; (· repeat (first | exact List.Mem.head _ | assumption | apply List.Mem.tail))) | apply Pick.there))) | (refine Ent.trans (Ent.drop _ _) ?_))))
          | (refine SG.retE (Ret.r2 Try.func26 rfl (.agg rfl ag57 (by repeat (first | exact Pick.here | apply Pick.there)) rfl rfl) (.agg rfl ag34 (by repeat (first | exact Pick.here | apply Pick.there)) rfl rfl)) ?_ ⟨_, _, _, _, _, _, _, _, _, rdV2 (by assumption) (by assumption), rfl, rfl⟩; (refine Ent.trans (Sl.none (T := RI)) ?_; repeat (first | exact Ent.refl _ | (apply Ent.cons; (· repeat (first | exact Pick.here | (refine Pick.sl ?_; (· repeat (first | exact List.Mem.head _ | assumption | apply List.Mem.tail))) | apply Pick.there))) | (refine Ent.trans (Ent.drop _ _) ?_))))
          | (refine SG.retE (Ret.r2 Try.func26 rfl (.agg rfl ag57 (by repeat (first | exact Pick.here | apply Pick.there)) rfl rfl) (.agg rfl ag34 (by repeat (first | exact Pick.here | apply Pick.there)) rfl rfl)) ?_ ⟨_, _, _, _, _, _, _, _, _, rdV3 (by assumption) (by assumption), rfl, rfl⟩; (refine Ent.trans (Sl.none (T := RI)) ?_; repeat (first | exact Ent.refl _ | (apply Ent.cons; (· repeat (first | exact Pick.here | (refine Pick.sl ?_; (· repeat (first | exact List.Mem.head _ | assumption | apply List.Mem.tail))) | apply Pick.there))) | (refine Ent.trans (Ent.drop _ _) ?_))))
          | (refine SG.retE (Ret.r2 Try.func26 rfl (.agg rfl ag57 (by repeat (first | exact Pick.here | apply Pick.there)) rfl rfl) (.agg rfl ag34 (by repeat (first | exact Pick.here | apply Pick.there)) rfl rfl)) ?_ ⟨_, _, _, _, _, _, _, _, _, rdV4 (by assumption) (by assumption) (by assumption) (by assumption) (by assumption), rfl, rfl⟩; (repeat (first | exact Ent.refl _ | (apply Ent.cons; (· repeat (first | exact Pick.here | (refine Pick.sl ?_; (· repeat (first | exact List.Mem.head _ | assumption | apply List.Mem.tail))) | apply Pick.there))) | (refine Ent.trans (Ent.drop _ _) ?_))))
        · skip
          refine RL.val (Wanted.free rfl) (V.assign rfl rfl) rfl ?_
          refine RL.nil ?_
          refine SG.cond_false rfl ?_
          refine SG.region ?_
          refine RL.val (Wanted.free rfl) (V.loadAgg (us := _) rfl ag57 rfl (by repeat (first | exact Pick.here | apply Pick.there)) rfl rfl) rfl ?_
          refine RL.val (Wanted.free rfl) (V.move rfl rfl) rfl ?_
          refine RL.eff (Wanted.free rfl) (E.call rfl go51 rfl (xInts_ok _ (by repeat (first | exact List.Mem.head _ | assumption | apply List.Mem.tail)) (by omega) (by omega) (by omega))) rfl ?_
          rintro _ _ ⟨l1, e1, xs, a1, m1, c1, ax, kx, cx, hr, rfl, rfl⟩
          refine RL.publish (a := ax) (by repeat (first | exact Pick.here | apply Pick.there)) ?_
          refine RL.val (Wanted.free rfl) (V.move rfl rfl) rfl ?_
          refine RL.val (Wanted.free rfl) (V.extract rfl rfl rfl) rfl ?_
          refine RL.val (Wanted.free rfl) (V.extract rfl rfl rfl) rfl ?_
          refine RL.eff (Wanted.free rfl) (E.storeAgg rfl rfl rfl rfl sz57 (by repeat (first | exact Pick.here | apply Pick.there)) (by first | (simp [Value.oneCell']; done) | (simp [setAt, Value.oneCell']; done)) (by first | (simp; done) | (simp [setAt]; done))) rfl ?_
          rintro _ _ rfl
          refine RL.val (Wanted.free rfl) (V.fieldAddr rfl rfl fo34_5) rfl ?_
          refine RL.eff (Wanted.free rfl) (E.store1 rfl rfl rfl rfl rfl sz32 (by repeat (first | exact Pick.here | apply Pick.there)) rfl) rfl ?_
          rintro _ _ rfl
          refine RL.nil ?_
          refine SG.inBlock ?_
          refine SG.seq ?_
          refine SG.drawP2 4 6 7 wide rfl rfl rfl (by repeat (first | exact Pick.here | apply Pick.there)) rfl (by repeat (first | exact Pick.here | apply Pick.there)) ?_
          refine RH.val 0 rfl (by kernel_rfl) (by kernel_rfl) (by kernel_rfl) (Wanted.free rfl) (V.loadAgg (us := _) rfl ag57 rfl (by repeat (first | exact Pick.here | apply Pick.there)) rfl rfl) (by repeat (first | exact Ent.refl _ | (apply Ent.cons; (· repeat (first | exact Pick.here | (refine Pick.sl ?_; (· repeat (first | exact List.Mem.head _ | assumption | apply List.Mem.tail))) | apply Pick.there))) | (refine Ent.trans (Ent.drop _ _) ?_))) rfl ?_
          refine RH.val 1 rfl (by kernel_rfl) (by kernel_rfl) (by kernel_rfl) (Wanted.free rfl) (V.loadAgg (us := _) rfl ag34 rfl (by repeat (first | exact Pick.here | apply Pick.there)) rfl rfl) (by repeat (first | exact Ent.refl _ | (apply Ent.cons; (· repeat (first | exact Pick.here | (refine Pick.sl ?_; (· repeat (first | exact List.Mem.head _ | assumption | apply List.Mem.tail))) | apply Pick.there))) | (refine Ent.trans (Ent.drop _ _) ?_))) rfl ?_
          refine RH.one (i := 2) (by kernel_rfl) ?_
          refine RHone.eff rfl (Wanted.free rfl) (E.storeAgg rfl rfl rfl rfl sz57 (by repeat (first | exact Pick.here | apply Pick.there)) (by first | (simp [Value.oneCell']; done) | (simp [setAt, Value.oneCell']; done)) (by first | (simp; done) | (simp [setAt]; done))) rfl ?_
          rintro _ _ rfl
          refine ⟨(by repeat (first | exact Ent.refl _ | (apply Ent.cons; (· repeat (first | exact Pick.here | (refine Pick.sl ?_; (· repeat (first | exact List.Mem.head _ | assumption | apply List.Mem.tail))) | apply Pick.there))) | (refine Ent.trans (Ent.drop _ _) ?_))), ?_⟩
          refine RH.one (i := 3) (by kernel_rfl) ?_
          refine RHone.eff rfl (Wanted.free rfl) (E.storeAgg rfl rfl rfl rfl sz34 (by repeat (first | exact Pick.here | apply Pick.there)) (by first | (simp [Value.oneCell']; done) | (simp [setAt, Value.oneCell']; done)) (by first | (simp; done) | (simp [setAt]; done))) rfl ?_
          rintro _ _ rfl
          refine ⟨(by repeat (first | exact Ent.refl _ | (apply Ent.cons; (· repeat (first | exact Pick.here | (refine Pick.sl ?_; (· repeat (first | exact List.Mem.head _ | assumption | apply List.Mem.tail))) | apply Pick.there))) | (refine Ent.trans (Ent.drop _ _) ?_))), ?_⟩
          refine RH.done (by kernel_rfl) ?_
          first
          | (refine SG.retE (Ret.r2 Try.func26 rfl (.agg rfl ag57 (by repeat (first | exact Pick.here | apply Pick.there)) rfl rfl) (.agg rfl ag34 (by repeat (first | exact Pick.here | apply Pick.there)) rfl rfl)) ?_ ⟨_, _, _, _, _, _, _, _, _, rdV0 (by assumption) (by assumption), rfl, rfl⟩; (refine Ent.trans (Sl.none (T := RI)) ?_; repeat (first | exact Ent.refl _ | (apply Ent.cons; (· repeat (first | exact Pick.here | (refine Pick.sl ?_; (· repeat (first | exact List.Mem.head _ | assumption | apply List.Mem.tail))) | apply Pick.there))) | (refine Ent.trans (Ent.drop _ _) ?_))))
          | (refine SG.retE (Ret.r2 Try.func26 rfl (.agg rfl ag57 (by repeat (first | exact Pick.here | apply Pick.there)) rfl rfl) (.agg rfl ag34 (by repeat (first | exact Pick.here | apply Pick.there)) rfl rfl)) ?_ ⟨_, _, _, _, _, _, _, _, _, rdV1 (by assumption) (by assumption), rfl, rfl⟩; (refine Ent.trans (Sl.none (T := RI)) ?_; repeat (first | exact Ent.refl _ | (apply Ent.cons; (· repeat (first | exact Pick.here | (refine Pick.sl ?_; (· repeat (first | exact List.Mem.head _ | assumption | apply List.Mem.tail))) | apply Pick.there))) | (refine Ent.trans (Ent.drop _ _) ?_))))
          | (refine SG.retE (Ret.r2 Try.func26 rfl (.agg rfl ag57 (by repeat (first | exact Pick.here | apply Pick.there)) rfl rfl) (.agg rfl ag34 (by repeat (first | exact Pick.here | apply Pick.there)) rfl rfl)) ?_ ⟨_, _, _, _, _, _, _, _, _, rdV2 (by assumption) (by assumption), rfl, rfl⟩; (refine Ent.trans (Sl.none (T := RI)) ?_; repeat (first | exact Ent.refl _ | (apply Ent.cons; (· repeat (first | exact Pick.here | (refine Pick.sl ?_; (· repeat (first | exact List.Mem.head _ | assumption | apply List.Mem.tail))) | apply Pick.there))) | (refine Ent.trans (Ent.drop _ _) ?_))))
          | (refine SG.retE (Ret.r2 Try.func26 rfl (.agg rfl ag57 (by repeat (first | exact Pick.here | apply Pick.there)) rfl rfl) (.agg rfl ag34 (by repeat (first | exact Pick.here | apply Pick.there)) rfl rfl)) ?_ ⟨_, _, _, _, _, _, _, _, _, rdV3 (by assumption) (by assumption), rfl, rfl⟩; (refine Ent.trans (Sl.none (T := RI)) ?_; repeat (first | exact Ent.refl _ | (apply Ent.cons; (· repeat (first | exact Pick.here | (refine Pick.sl ?_; (· repeat (first | exact List.Mem.head _ | assumption | apply List.Mem.tail))) | apply Pick.there))) | (refine Ent.trans (Ent.drop _ _) ?_))))
          | (refine SG.retE (Ret.r2 Try.func26 rfl (.agg rfl ag57 (by repeat (first | exact Pick.here | apply Pick.there)) rfl rfl) (.agg rfl ag34 (by repeat (first | exact Pick.here | apply Pick.there)) rfl rfl)) ?_ ⟨_, _, _, _, _, _, _, _, _, rdV4 (by assumption) (by assumption) (by assumption) (by assumption) (by assumption), rfl, rfl⟩; (repeat (first | exact Ent.refl _ | (apply Ent.cons; (· repeat (first | exact Pick.here | (refine Pick.sl ?_; (· repeat (first | exact List.Mem.head _ | assumption | apply List.Mem.tail))) | apply Pick.there))) | (refine Ent.trans (Ent.drop _ _) ?_))))

end Go.Proofs.Ytdccpcnahbhfcaa
