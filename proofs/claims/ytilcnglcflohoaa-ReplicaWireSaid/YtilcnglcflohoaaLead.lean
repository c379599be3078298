/- Leaders; counting. -/
import Derived.Test.YtilcnglcflohoaaNode
namespace Go.Proofs.Ytilcnglcflohoaa
open Go.Wk Go.Rp

set_option maxRecDepth 100000 in
theorem lead_okw {κ : World} {L : List Assn} {L1 : List Assn} {b : Nat} {p : Peer} {out : List Msg} (hp : Pick (Nd b p out) L L1) (h1 : 0 ≤ p.nodes) (h2 : p.nodes ≤ 1000) (h3 : 0 ≤ p.id) (h4 : p.id < p.nodes) (h5 : p.log.length ≤ 1000000) :
    Ctr Try.prog 60 #[ptr b 0] κ L (fun v M => v = .tuple #[] ∧ M = Nd b (leadP p) out :: L1) := by
 refine Ctr.enter (vs := [ptr b 0]) (m := 37) Try.func60 rfl rfl rfl ?_
 refine SG.openNd hp fun la ln lc va vn vc ma mn mc oa on oc => ?_
 refine SG.buf (T := RSlot) (a := la) pickX fun hll _ _ => ?_
 subst hll
 refine SG.seq ?_
 refine SG.drawN 21 12 (Ex (fun (x : Value × Value × Value) => [Blk b 94 [vI p.id, vI p.nodes, vI p.term, vI p.voted, x.1, vI p.commit, .slice la p.log.length lc, x.2.1, x.2.2, .slice oa on oc]]) :: L1) wide rfl rfl (by refine Ex.keep (vI p.role, .slice va vn vc, .slice ma mn mc) ?_; (· repeat (first | exact Ent.refl _ | (apply Ent.cons; (· repeat (first | exact Pick.here | (refine Pick.sl ?_; (· repeat (first | exact List.Mem.head _ | assumption | apply List.Mem.tail))) | apply Pick.there))) | (refine Ent.trans (Ent.drop _ _) ?_)))) ?_
 refine RH.val 0 rfl krX krX krX krX (Wanted.free rfl) (V.move rfl rfl) rfl ?_
 refine RH.pure 1 rfl krX krX krX krX (Wanted.free rfl) (V.move rfl rfl) rfl ?_
 refine RH.pure 2 rfl krX krX krX krX (Wanted.free rfl) (V.move rfl rfl) rfl ?_
 refine RH.pure 3 rfl krX krX krX krX (Wanted.free rfl) (V.move rfl rfl) rfl ?_
 refine RH.pure 4 rfl krX krX krX krX (Wanted.free rfl) (V.nilCheck rfl rfl) rfl ?_
 refine RH.pure 5 rfl krX krX krX krX (Wanted.free rfl) (V.fieldAddr rfl rfl fo94_0) rfl ?_
 refine RH.pure 6 rfl krX krX krX krX (Wanted.free rfl) (V.fieldAddr rfl rfl fo26_1) rfl ?_
 refine RH.val 7 rfl krX krX krX krX (Wanted.free rfl) (V.openEx Pick.here fun x => V.load rfl on3 rfl Pick.here rfl) rfl ?_
 refine RH.pure 9 rfl krX krX krX krX (Wanted.free rfl) (V.nilCheck rfl rfl) rfl ?_
 refine RH.pure 10 rfl krX krX krX krX (Wanted.free rfl) (V.fieldAddr rfl rfl fo94_0) rfl ?_
 refine RH.val 11 rfl krX krX krX krX (Wanted.free rfl) (V.fieldAddr rfl rfl fo26_4) rfl ?_
 refine RH.two (i := 8) (j := 12) krX ?_ ?_
 ·
  refine RHone.eff rfl (Wanted.free rfl) (E.make (T := RI) (m := p.nodes.toNat) (z0 := .int .i64 0) (x0 := 0) rfl el22 ze3 rfl rfl (by omega) (by omega) (by omega) (fun _ => ⟨rfl, by unfold inInt; omega⟩)) rfl ?_
  rintro _ _ ⟨b10, rfl, rfl⟩
  refine ⟨.inr (by first | (refine Ex.keep (vI p.role, .slice va vn vc, .slice ma mn mc) ?_; (· repeat (first | exact Ent.refl _ | (apply Ent.cons; (· repeat (first | exact Pick.here | (refine Pick.sl ?_; (· repeat (first | exact List.Mem.head _ | assumption | apply List.Mem.tail))) | apply Pick.there))) | (refine Ent.trans (Ent.drop _ _) ?_)))) | (refine Ex.keep (vI 2, .slice va vn vc, .slice ma mn mc) ?_; (· repeat (first | exact Ent.refl _ | (apply Ent.cons; (· repeat (first | exact Pick.here | (refine Pick.sl ?_; (· repeat (first | exact List.Mem.head _ | assumption | apply List.Mem.tail))) | apply Pick.there))) | (refine Ent.trans (Ent.drop _ _) ?_)))) | (refine Ex.keep (vI 2, .slice none 0 0, .slice ma mn mc) ?_; (· repeat (first | exact Ent.refl _ | (apply Ent.cons; (· repeat (first | exact Pick.here | (refine Pick.sl ?_; (· repeat (first | exact List.Mem.head _ | assumption | apply List.Mem.tail))) | apply Pick.there))) | (refine Ent.trans (Ent.drop _ _) ?_))))), ?_⟩
  refine RH.one (i := 12) krX ?_
  refine RHone.eff rfl (Wanted.free rfl) (E.store1 rfl rfl rfl rfl rfl sz3 pickX rfl) rfl ?_
  rintro _ _ rfl
  refine ⟨.inl krX, ?_⟩
  refine RH.pure 13 rfl krX krX krX krX (Wanted.free rfl) (V.nilCheck rfl rfl) rfl ?_
  refine RH.pure 14 rfl krX krX krX krX (Wanted.free rfl) (V.fieldAddr rfl rfl fo94_0) rfl ?_
  refine RH.pure 15 rfl krX krX krX krX (Wanted.free rfl) (V.fieldAddr rfl rfl fo26_7) rfl ?_
  refine RH.one (i := 16) krX ?_
  refine RHone.eff rfl (Wanted.free rfl) (E.store1 rfl rfl rfl rfl rfl sz24 pickX rfl) rfl ?_
  rintro _ _ rfl
  refine ⟨.inl krX, ?_⟩
  refine RH.pure 17 rfl krX krX krX krX (Wanted.free rfl) (V.nilCheck rfl rfl) rfl ?_
  refine RH.pure 18 rfl krX krX krX krX (Wanted.free rfl) (V.fieldAddr rfl rfl fo94_0) rfl ?_
  refine RH.pure 19 rfl krX krX krX krX (Wanted.free rfl) (V.fieldAddr rfl rfl fo26_8) rfl ?_
  refine RH.one (i := 20) krX ?_
  refine RHone.eff rfl (Wanted.free rfl) (E.store1 rfl rfl rfl rfl rfl sz22 pickX rfl) rfl ?_
  rintro _ _ rfl
  refine ⟨.inl krX, ?_⟩
  refine RH.done krX ?_
  refine SG.drawL 18 17 wide rfl rfl ?_
  refine RH.val 0 rfl krX krX krX krX (Wanted.free rfl) (V.move rfl rfl) rfl ?_
  refine RH.val 1 rfl krX krX krX krX (Wanted.free rfl) (V.nilCheck rfl rfl) rfl ?_
  refine RH.val 2 rfl krX krX krX krX (Wanted.free rfl) (V.fieldAddr rfl rfl fo94_0) rfl ?_
  refine RH.val 3 rfl krX krX krX krX (Wanted.free rfl) (V.fieldAddr rfl rfl fo26_8) rfl ?_
  refine RH.val 4 rfl krX krX krX krX (Wanted.free rfl) (V.load rfl on22 rfl pickX rfl) rfl ?_
  refine RH.val 5 rfl krX krX krX krX (Wanted.free rfl) (V.move rfl rfl) rfl ?_
  refine RH.val 6 rfl krX krX krX krX (Wanted.free rfl) (V.nilCheck rfl rfl) rfl ?_
  refine RH.val 7 rfl krX krX krX krX (Wanted.free rfl) (V.fieldAddr rfl rfl fo94_0) rfl ?_
  refine RH.val 8 rfl krX krX krX krX (Wanted.free rfl) (V.fieldAddr rfl rfl fo26_0) rfl ?_
  refine RH.val 9 rfl krX krX krX krX (Wanted.free rfl) (V.load rfl on3 rfl pickX rfl) rfl ?_
  refine RH.val 10 rfl krX krX krX krX (Wanted.free rfl) (V.move rfl rfl) rfl ?_
  refine RH.val 11 rfl krX krX krX krX (Wanted.free rfl) (V.nilCheck rfl rfl) rfl ?_
  refine RH.val 12 rfl krX krX krX krX (Wanted.free rfl) (V.fieldAddr rfl rfl fo94_0) rfl ?_
  refine RH.val 13 rfl krX krX krX krX (Wanted.free rfl) (V.fieldAddr rfl rfl fo26_6) rfl ?_
  refine RH.val 14 rfl krX krX krX krX (Wanted.free rfl) (V.load rfl on23 rfl pickX rfl) rfl ?_
  refine RH.val 15 rfl krX krX krX krX (Wanted.free rfl) (V.len rfl rfl el23.under rfl) rfl ?_
  refine RH.val 16 rfl krX krX krX krX (Wanted.free rfl) (V.indexBuf (j := p.id.toNat) rfl el22.slice rfl rfl pickX (by first | rfl | omega) (by rw [List.length_replicate]; omega)) rfl ?_
  refine RH.one (i := 17) krX ?_
  refine RHone.eff rfl (Wanted.free rfl) (E.storeBuf [vI p.log.length] rfl sz3 rfl rfl rfl pickX (by rw [List.length_replicate]; omega) (fun _ _ _ => ⟨rfl, by unfold inInt; omega⟩)) rfl ?_
  rintro _ _ rfl
  refine ⟨.inl krX, ?_⟩
  refine RH.done krX ?_
  refine SG.ent (Buf.nil (T := RB) (e := 4)) ?_
  refine SG.doneE (Ret.none Try.func60 rfl) ?_ ⟨rfl, rfl⟩
  refine Nd.ent (la := la) (ln := p.log.length) (lc := lc) (va := none) (vn := 0) (vc := 0) (ma := some ⟨b10, 0, none⟩) (mn := p.nodes.toNat) (mc := p.nodes.toNat) (oa := oa) (on := on) (oc := oc) ?_
  exact entX
 ·
  refine RHone.eff rfl (Wanted.free rfl) (E.store1 rfl rfl rfl rfl rfl sz3 pickX rfl) rfl ?_
  rintro _ _ rfl
  refine ⟨.inl krX, ?_⟩
  refine RH.pure 13 rfl krX krX krX krX (Wanted.free rfl) (V.nilCheck rfl rfl) rfl ?_
  refine RH.pure 14 rfl krX krX krX krX (Wanted.free rfl) (V.fieldAddr rfl rfl fo94_0) rfl ?_
  refine RH.pure 15 rfl krX krX krX krX (Wanted.free rfl) (V.fieldAddr rfl rfl fo26_7) rfl ?_
  refine RH.two (i := 8) (j := 16) krX ?_ ?_
  ·
   refine RHone.eff rfl (Wanted.free rfl) (E.make (T := RI) (m := p.nodes.toNat) (z0 := .int .i64 0) (x0 := 0) rfl el22 ze3 rfl rfl (by omega) (by omega) (by omega) (fun _ => ⟨rfl, by unfold inInt; omega⟩)) rfl ?_
   rintro _ _ ⟨b10, rfl, rfl⟩
   refine ⟨.inl krX, ?_⟩
   refine RH.one (i := 16) krX ?_
   refine RHone.eff rfl (Wanted.free rfl) (E.store1 rfl rfl rfl rfl rfl sz24 pickX rfl) rfl ?_
   rintro _ _ rfl
   refine ⟨.inl krX, ?_⟩
   refine RH.pure 17 rfl krX krX krX krX (Wanted.free rfl) (V.nilCheck rfl rfl) rfl ?_
   refine RH.pure 18 rfl krX krX krX krX (Wanted.free rfl) (V.fieldAddr rfl rfl fo94_0) rfl ?_
   refine RH.pure 19 rfl krX krX krX krX (Wanted.free rfl) (V.fieldAddr rfl rfl fo26_8) rfl ?_
   refine RH.one (i := 20) krX ?_
   refine RHone.eff rfl (Wanted.free rfl) (E.store1 rfl rfl rfl rfl rfl sz22 pickX rfl) rfl ?_
   rintro _ _ rfl
   refine ⟨.inl krX, ?_⟩
   refine RH.done krX ?_
   refine SG.drawL 18 17 wide rfl rfl ?_
   refine RH.val 0 rfl krX krX krX krX (Wanted.free rfl) (V.move rfl rfl) rfl ?_
   refine RH.val 1 rfl krX krX krX krX (Wanted.free rfl) (V.nilCheck rfl rfl) rfl ?_
   refine RH.val 2 rfl krX krX krX krX (Wanted.free rfl) (V.fieldAddr rfl rfl fo94_0) rfl ?_
   refine RH.val 3 rfl krX krX krX krX (Wanted.free rfl) (V.fieldAddr rfl rfl fo26_8) rfl ?_
   refine RH.val 4 rfl krX krX krX krX (Wanted.free rfl) (V.load rfl on22 rfl pickX rfl) rfl ?_
   refine RH.val 5 rfl krX krX krX krX (Wanted.free rfl) (V.move rfl rfl) rfl ?_
   refine RH.val 6 rfl krX krX krX krX (Wanted.free rfl) (V.nilCheck rfl rfl) rfl ?_
   refine RH.val 7 rfl krX krX krX krX (Wanted.free rfl) (V.fieldAddr rfl rfl fo94_0) rfl ?_
   refine RH.val 8 rfl krX krX krX krX (Wanted.free rfl) (V.fieldAddr rfl rfl fo26_0) rfl ?_
   refine RH.val 9 rfl krX krX krX krX (Wanted.free rfl) (V.load rfl on3 rfl pickX rfl) rfl ?_
   refine RH.val 10 rfl krX krX krX krX (Wanted.free rfl) (V.move rfl rfl) rfl ?_
   refine RH.val 11 rfl krX krX krX krX (Wanted.free rfl) (V.nilCheck rfl rfl) rfl ?_
   refine RH.val 12 rfl krX krX krX krX (Wanted.free rfl) (V.fieldAddr rfl rfl fo94_0) rfl ?_
   refine RH.val 13 rfl krX krX krX krX (Wanted.free rfl) (V.fieldAddr rfl rfl fo26_6) rfl ?_
   refine RH.val 14 rfl krX krX krX krX (Wanted.free rfl) (V.load rfl on23 rfl pickX rfl) rfl ?_
   refine RH.val 15 rfl krX krX krX krX (Wanted.free rfl) (V.len rfl rfl el23.under rfl) rfl ?_
   refine RH.val 16 rfl krX krX krX krX (Wanted.free rfl) (V.indexBuf (j := p.id.toNat) rfl el22.slice rfl rfl pickX (by first | rfl | omega) (by rw [List.length_replicate]; omega)) rfl ?_
   refine RH.one (i := 17) krX ?_
   refine RHone.eff rfl (Wanted.free rfl) (E.storeBuf [vI p.log.length] rfl sz3 rfl rfl rfl pickX (by rw [List.length_replicate]; omega) (fun _ _ _ => ⟨rfl, by unfold inInt; omega⟩)) rfl ?_
   rintro _ _ rfl
   refine ⟨.inl krX, ?_⟩
   refine RH.done krX ?_
   refine SG.ent (Buf.nil (T := RB) (e := 4)) ?_
   refine SG.doneE (Ret.none Try.func60 rfl) ?_ ⟨rfl, rfl⟩
   refine Nd.ent (la := la) (ln := p.log.length) (lc := lc) (va := none) (vn := 0) (vc := 0) (ma := some ⟨b10, 0, none⟩) (mn := p.nodes.toNat) (mc := p.nodes.toNat) (oa := oa) (on := on) (oc := oc) ?_
   exact entX
  ·
   refine RHone.eff rfl (Wanted.free rfl) (E.store1 rfl rfl rfl rfl rfl sz24 pickX rfl) rfl ?_
   rintro _ _ rfl
   refine ⟨.inl krX, ?_⟩
   refine RH.one (i := 8) krX ?_
   refine RHone.eff rfl (Wanted.free rfl) (E.make (T := RI) (m := p.nodes.toNat) (z0 := .int .i64 0) (x0 := 0) rfl el22 ze3 rfl rfl (by omega) (by omega) (by omega) (fun _ => ⟨rfl, by unfold inInt; omega⟩)) rfl ?_
   rintro _ _ ⟨b10, rfl, rfl⟩
   refine ⟨.inl krX, ?_⟩
   refine RH.pure 17 rfl krX krX krX krX (Wanted.free rfl) (V.nilCheck rfl rfl) rfl ?_
   refine RH.pure 18 rfl krX krX krX krX (Wanted.free rfl) (V.fieldAddr rfl rfl fo94_0) rfl ?_
   refine RH.pure 19 rfl krX krX krX krX (Wanted.free rfl) (V.fieldAddr rfl rfl fo26_8) rfl ?_
   refine RH.one (i := 20) krX ?_
   refine RHone.eff rfl (Wanted.free rfl) (E.store1 rfl rfl rfl rfl rfl sz22 pickX rfl) rfl ?_
   rintro _ _ rfl
   refine ⟨.inl krX, ?_⟩
   refine RH.done krX ?_
   refine SG.drawL 18 17 wide rfl rfl ?_
   refine RH.val 0 rfl krX krX krX krX (Wanted.free rfl) (V.move rfl rfl) rfl ?_
   refine RH.val 1 rfl krX krX krX krX (Wanted.free rfl) (V.nilCheck rfl rfl) rfl ?_
   refine RH.val 2 rfl krX krX krX krX (Wanted.free rfl) (V.fieldAddr rfl rfl fo94_0) rfl ?_
   refine RH.val 3 rfl krX krX krX krX (Wanted.free rfl) (V.fieldAddr rfl rfl fo26_8) rfl ?_
   refine RH.val 4 rfl krX krX krX krX (Wanted.free rfl) (V.load rfl on22 rfl pickX rfl) rfl ?_
   refine RH.val 5 rfl krX krX krX krX (Wanted.free rfl) (V.move rfl rfl) rfl ?_
   refine RH.val 6 rfl krX krX krX krX (Wanted.free rfl) (V.nilCheck rfl rfl) rfl ?_
   refine RH.val 7 rfl krX krX krX krX (Wanted.free rfl) (V.fieldAddr rfl rfl fo94_0) rfl ?_
   refine RH.val 8 rfl krX krX krX krX (Wanted.free rfl) (V.fieldAddr rfl rfl fo26_0) rfl ?_
   refine RH.val 9 rfl krX krX krX krX (Wanted.free rfl) (V.load rfl on3 rfl pickX rfl) rfl ?_
   refine RH.val 10 rfl krX krX krX krX (Wanted.free rfl) (V.move rfl rfl) rfl ?_
   refine RH.val 11 rfl krX krX krX krX (Wanted.free rfl) (V.nilCheck rfl rfl) rfl ?_
   refine RH.val 12 rfl krX krX krX krX (Wanted.free rfl) (V.fieldAddr rfl rfl fo94_0) rfl ?_
   refine RH.val 13 rfl krX krX krX krX (Wanted.free rfl) (V.fieldAddr rfl rfl fo26_6) rfl ?_
   refine RH.val 14 rfl krX krX krX krX (Wanted.free rfl) (V.load rfl on23 rfl pickX rfl) rfl ?_
   refine RH.val 15 rfl krX krX krX krX (Wanted.free rfl) (V.len rfl rfl el23.under rfl) rfl ?_
   refine RH.val 16 rfl krX krX krX krX (Wanted.free rfl) (V.indexBuf (j := p.id.toNat) rfl el22.slice rfl rfl pickX (by first | rfl | omega) (by rw [List.length_replicate]; omega)) rfl ?_
   refine RH.one (i := 17) krX ?_
   refine RHone.eff rfl (Wanted.free rfl) (E.storeBuf [vI p.log.length] rfl sz3 rfl rfl rfl pickX (by rw [List.length_replicate]; omega) (fun _ _ _ => ⟨rfl, by unfold inInt; omega⟩)) rfl ?_
   rintro _ _ rfl
   refine ⟨.inl krX, ?_⟩
   refine RH.done krX ?_
   refine SG.ent (Buf.nil (T := RB) (e := 4)) ?_
   refine SG.doneE (Ret.none Try.func60 rfl) ?_ ⟨rfl, rfl⟩
   refine Nd.ent (la := la) (ln := p.log.length) (lc := lc) (va := none) (vn := 0) (vc := 0) (ma := some ⟨b10, 0, none⟩) (mn := p.nodes.toNat) (mc := p.nodes.toNat) (oa := oa) (on := on) (oc := oc) ?_
   exact entX

theorem best_le {p : Peer} : ∀ {n : Nat}, (n : Int) ≤ p.commit → best p n = p.commit
  | 0, _ => rfl
  | n + 1, h => by unfold best; rw [if_pos h]
theorem best_no {p : Peer} {n : Nat} (h : ¬ ((n + 1 : Nat) : Int) ≤ p.commit) (h2 : ¬ (termAt p.log ((n + 1 : Nat) : Int) = p.term ∧ p.nodes < 2 * (hasN p ((n + 1 : Nat) : Int) : Int))) : best p (n + 1) = best p n := by
  conv => lhs; unfold best
  rw [if_neg h, if_neg h2]
theorem best_yes {p : Peer} {n : Nat} (h : ¬ ((n + 1 : Nat) : Int) ≤ p.commit) (h2 : termAt p.log ((n + 1 : Nat) : Int) = p.term ∧ p.nodes < 2 * (hasN p ((n + 1 : Nat) : Int) : Int)) : best p (n + 1) = ((n + 1 : Nat) : Int) := by
  conv => lhs; unfold best
  rw [if_neg h, if_pos h2]
def cntI (l : List Int) (n : Int) : Nat := l.countP fun m => decide (n ≤ m)
theorem cnt_step {l : List Int} {k : Nat} {n : Int} (h : k < l.length) : cntI (l.take (k + 1)) n = cntI (l.take k) n + (if n ≤ l[k] then 1 else 0) := by
  unfold cntI
  rw [List.take_add_one, List.getElem?_eq_getElem h, List.countP_append]
  simp only [Option.toList_some, List.countP_cons, List.countP_nil, decide_eq_true_eq, Nat.zero_add]
theorem cnt_le (l : List Int) (n : Int) : cntI l n ≤ l.length := List.countP_le_length
theorem hasN_eq (p : Peer) (n : Int) : hasN p n = cntI p.mtch n := rfl
set_option maxRecDepth 100000 in
theorem count_ok {κ : World} {L : List Assn} {L1 : List Assn} {b : Nat} {p : Peer} {out : List Msg} (hp : Pick (Nd b p out) L L1) (h1 : p.log.length ≤ 1000000) (h2 : p.mtch.length ≤ 1000000) (_ : p.nodes ≤ 1000) (h4 : 0 ≤ p.commit) :
    Ctr Try.prog 64 #[ptr b 0] κ L (fun v M => v = .tuple #[] ∧ M = Nd b (counted p) out :: L1) := by
 refine Ctr.enter (vs := [ptr b 0]) (m := 59) Try.func64 rfl rfl rfl ?_
 refine SG.openNd hp fun la ln lc va vn vc ma mn mc oa on oc => ?_
 refine SG.buf (T := RSlot) (a := la) pickX fun hll _ _ => ?_
 refine SG.buf (T := RI) (a := ma) pickX fun hml _ _ => ?_
 subst hll; subst hml
 refine SG.seq ?_
 refine SG.region ?_
 refine RL.val (Wanted.free rfl) (V.move rfl rfl) rfl ?_
 refine RL.val (Wanted.free rfl) (V.nilCheck rfl rfl) rfl ?_
 refine RL.val (Wanted.free rfl) (V.fieldAddr rfl rfl fo94_0) rfl ?_
 refine RL.val (Wanted.free rfl) (V.fieldAddr rfl rfl fo26_6) rfl ?_
 refine RL.val (Wanted.free rfl) (V.load rfl on23 rfl pickX rfl) rfl ?_
 refine RL.val (Wanted.free rfl) (V.len rfl rfl el23.under rfl) rfl ?_
 refine RL.val (Wanted.free rfl) (V.assign rfl rfl) rfl ?_
 refine RL.nil ?_
 refine SG.block ?_
 refine SG.weaken (SG.loop2 (fun m al M => ∃ i : Nat, i ≤ p.log.length ∧ best p p.log.length = best p i ∧ m = i + 1 ∧ al = [(0, ptr b 0), (2, vI i)] ∧ M = Blk b 94 (nv p (.slice la p.log.length lc) (.slice va vn vc) (.slice ma p.mtch.length mc) (.slice oa on oc)) :: Buf RSlot 53 la p.log.length lc p.log :: Buf RB 4 va vn vc p.votes :: Buf RI 3 ma p.mtch.length mc p.mtch :: Buf RMsg 50 oa on oc out :: L1) (m0 := _) ⟨p.log.length, by omega, rfl, rfl, rfl, rfl⟩ ?_) ?_ ?_
 rotate_left
 ·
  repeat (first | exact EnvLe.nil _ | refine EnvLe.cons rfl ?_)
 ·
  exact entX
 rintro _ _ _ ⟨i, hi, hbest, rfl, rfl, rfl⟩ ih0
 refine SG.seq ?_
 refine SG.seq ?_
 refine SG.region ?_
 refine RL.val (Wanted.free rfl) (V.move rfl rfl) rfl ?_
 refine RL.val (Wanted.free rfl) (V.move rfl rfl) rfl ?_
 refine RL.val (Wanted.free rfl) (V.nilCheck rfl rfl) rfl ?_
 refine RL.val (Wanted.free rfl) (V.fieldAddr rfl rfl fo94_0) rfl ?_
 refine RL.val (Wanted.free rfl) (V.fieldAddr rfl rfl fo26_5) rfl ?_
 refine RL.val (Wanted.free rfl) (V.load rfl on3 rfl pickX rfl) rfl ?_
 refine RL.cmp (Wanted.free rfl) (V.bin rfl rfl rfl B.gtr) rfl (fun h14 => ?_) (fun h14 => ?_)
 ·
  refine RL.nil ?_
  refine SG.cond_true rfl ?_
  refine SG.skip ?_
  refine SG.seq ?_
  refine SG.block ?_
  refine SG.seq ?_
  refine SG.seq ?_
  obtain ⟨i, rfl⟩ : ∃ i', i = i' + 1 := ⟨i - 1, by omega⟩
  refine SG.drawL 9 9 wide rfl rfl ?_
  refine RH.val 0 rfl krX krX krX krX (Wanted.free rfl) (V.move rfl rfl) rfl ?_
  refine RH.val 1 rfl krX krX krX krX (Wanted.free rfl) (V.move rfl rfl) rfl ?_
  refine RH.val 3 rfl krX krX krX krX (Wanted.free rfl) (V.move rfl rfl) rfl ?_
  refine RH.val 4 rfl krX krX krX krX (Wanted.free rfl) (V.nilCheck rfl rfl) rfl ?_
  refine RH.val 5 rfl krX krX krX krX (Wanted.free rfl) (V.fieldAddr rfl rfl fo94_0) rfl ?_
  refine RH.val 6 rfl krX krX krX krX (Wanted.free rfl) (V.fieldAddr rfl rfl fo26_2) rfl ?_
  refine RH.val 7 rfl krX krX krX krX (Wanted.free rfl) (V.load rfl on3 rfl pickX rfl) rfl ?_
  refine RH.one (i := 2) krX ?_
  refine RHone.eff rfl (Wanted.free rfl) (E.call rfl go59 rfl (term_ok (i := ((i + 1 : Nat) : Int)) pickX pickX (by omega) (by omega))) rfl ?_
  rintro _ _ ⟨rfl, rfl⟩
  refine ⟨.inr entX, ?_⟩
  refine RH.cmp 8 rfl krX krX krX krX (Wanted.free rfl) (V.bin rfl rfl rfl B.neq) rfl (fun h23 => ?_) (fun h23 => ?_)
  ·
   refine RH.done krX ?_
   refine SG.cond_true rfl ?_
   refine SG.exit rfl ?_
   refine SG.region ?_
   refine RL.val (Wanted.free rfl) (V.move rfl rfl) rfl ?_
   refine RL.val (Wanted.free rfl) (V.bin rfl rfl rfl (B.subI (by omega) (by omega))) rfl ?_
   refine RL.val (Wanted.free rfl) (V.assign rfl rfl) rfl ?_
   refine RL.nil ?_
   refine SG.weaken (ih0 _ _ _ ?_ ⟨i, by omega, hbest.trans (best_no (by omega) (by omega)), rfl, rfl, rfl⟩) ?_ ?_
   ·
    omega
   ·
    rw [show ((i + 1 : Nat) : Int) - 1 = (i : Int) from by omega]
    repeat (first | exact EnvLe.nil _ | refine EnvLe.cons rfl ?_)
   ·
    exact entX
  ·
   refine RH.done krX ?_
   refine SG.cond_false rfl ?_
   refine SG.skip ?_
   refine SG.seq ?_
   refine SG.region ?_
   refine RL.val (Wanted.free rfl) (V.assign rfl rfl) rfl ?_
   refine RL.nil ?_
   refine SG.seq ?_
   refine SG.seq ?_
   refine SG.region ?_
   refine RL.val (Wanted.free rfl) (V.move rfl rfl) rfl ?_
   refine RL.val (Wanted.free rfl) (V.nilCheck rfl rfl) rfl ?_
   refine RL.val (Wanted.free rfl) (V.fieldAddr rfl rfl fo94_0) rfl ?_
   refine RL.val (Wanted.free rfl) (V.fieldAddr rfl rfl fo26_8) rfl ?_
   refine RL.val (Wanted.free rfl) (V.load rfl on22 rfl pickX rfl) rfl ?_
   refine RL.val (Wanted.free rfl) (V.len rfl rfl el22.under rfl) rfl ?_
   refine RL.val (Wanted.free rfl) (V.move rfl rfl) rfl ?_
   refine RL.nil ?_
   refine SG.block ?_
   refine SG.weaken (SG.loop2 (fun m al M => ∃ k : Nat, k ≤ p.mtch.length ∧ m = p.mtch.length - k ∧ al = [(0, ptr b 0), (2, vI ((i + 1 : Nat) : Int)), (3, vI (cntI (p.mtch.take k) ((i + 1 : Nat) : Int) : Nat)), (34, .slice ma p.mtch.length mc), (35, vI p.mtch.length), (36, vI k)] ∧ M = Blk b 94 (nv p (.slice la p.log.length lc) (.slice va vn vc) (.slice ma p.mtch.length mc) (.slice oa on oc)) :: Buf RSlot 53 la p.log.length lc p.log :: Buf RB 4 va vn vc p.votes :: Buf RI 3 ma p.mtch.length mc p.mtch :: Buf RMsg 50 oa on oc out :: L1) (m0 := _) ⟨0, by omega, rfl, rfl, rfl⟩ ?_) ?_ ?_
   rotate_left
   ·
    repeat (first | exact EnvLe.nil _ | refine EnvLe.cons rfl ?_)
   ·
    exact entX
   rintro _ _ _ ⟨k, hk, rfl, rfl, rfl⟩ ih1
   refine SG.seq ?_
   have hcl := cnt_le (p.mtch.take k) ((i + 1 : Nat) : Int)
   rw [List.length_take] at hcl
   refine SG.region ?_
   refine RL.cmp (Wanted.free rfl) (V.bin rfl rfl rfl B.lss) rfl (fun h35 => ?_) (fun h35 => ?_)
   ·
    refine RL.nil ?_
    refine SG.seq ?_
    refine SG.cond_true rfl ?_
    refine SG.skip ?_
    refine SG.seq ?_
    refine SG.block ?_
    refine SG.seq ?_
    refine SG.region ?_
    refine RL.val (Wanted.free rfl) (V.indexBuf (j := k) rfl el22.slice rfl rfl pickX (by first | rfl | omega) (by omega)) rfl ?_
    refine RL.val (Wanted.free rfl) (V.loadBufSc rfl on3 rfl pickX (List.getElem?_eq_getElem (by omega))) rfl ?_
    refine RL.val (Wanted.free rfl) (V.assign rfl rfl) rfl ?_
    refine RL.nil ?_
    refine SG.seq ?_
    have hcs := cnt_step (l := p.mtch) (k := k) (n := ((i + 1 : Nat) : Int)) (by omega)
    refine SG.region ?_
    refine RL.val (Wanted.free rfl) (V.move rfl rfl) rfl ?_
    refine RL.val (Wanted.free rfl) (V.move rfl rfl) rfl ?_
    refine RL.cmp (Wanted.free rfl) (V.bin rfl rfl rfl B.geq) rfl (fun h41 => ?_) (fun h41 => ?_)
    ·
     refine RL.nil ?_
     refine SG.cond_true rfl ?_
     refine SG.region ?_
     refine RL.val (Wanted.free rfl) (V.move rfl rfl) rfl ?_
     refine RL.val (Wanted.free rfl) (V.bin rfl rfl rfl (B.addI (by omega) (by omega))) rfl ?_
     refine RL.val (Wanted.free rfl) (V.assign rfl rfl) rfl ?_
     refine RL.nil ?_
     refine SG.inBlock ?_
     refine SG.region ?_
     refine RL.val (Wanted.free rfl) (V.bin rfl rfl rfl (B.addI (by omega) (by omega))) rfl ?_
     refine RL.val (Wanted.free rfl) (V.move rfl rfl) rfl ?_
     refine RL.nil ?_
     refine SG.weaken (ih1 _ _ _ ?_ ⟨k + 1, by omega, rfl, rfl, rfl⟩) ?_ ?_
     ·
      omega
     ·
      rw [hcs, if_pos (by omega), Int.natCast_add]
      repeat (first | exact EnvLe.nil _ | refine EnvLe.cons rfl ?_)
     ·
      exact entX
    ·
     refine RL.nil ?_
     refine SG.cond_false rfl ?_
     refine SG.skip ?_
     refine SG.inBlock ?_
     refine SG.region ?_
     refine RL.val (Wanted.free rfl) (V.bin rfl rfl rfl (B.addI (by omega) (by omega))) rfl ?_
     refine RL.val (Wanted.free rfl) (V.move rfl rfl) rfl ?_
     refine RL.nil ?_
     refine SG.weaken (ih1 _ _ _ ?_ ⟨k + 1, by omega, rfl, rfl, rfl⟩) ?_ ?_
     ·
      omega
     ·
      rw [hcs, if_neg (by omega), Nat.add_zero]
      repeat (first | exact EnvLe.nil _ | refine EnvLe.cons rfl ?_)
     ·
      exact entX
   ·
    refine RL.nil ?_
    refine SG.seq ?_
    refine SG.cond_false rfl ?_
    refine SG.exit rfl ?_
    refine SG.seq ?_
    obtain rfl : k = p.mtch.length := by omega
    rw [List.take_length]
    rw [← hasN_eq]
    have hhn : hasN p ((i + 1 : Nat) : Int) ≤ p.mtch.length := List.countP_le_length
    refine SG.region ?_
    refine RL.val (Wanted.free rfl) (V.move rfl rfl) rfl ?_
    refine RL.val (Wanted.free rfl) (V.bin rfl rfl rfl (B.mulI (by omega) (by omega))) rfl ?_
    refine RL.val (Wanted.free rfl) (V.move rfl rfl) rfl ?_
    refine RL.val (Wanted.free rfl) (V.nilCheck rfl rfl) rfl ?_
    refine RL.val (Wanted.free rfl) (V.fieldAddr rfl rfl fo94_0) rfl ?_
    refine RL.val (Wanted.free rfl) (V.fieldAddr rfl rfl fo26_1) rfl ?_
    refine RL.val (Wanted.free rfl) (V.load rfl on3 rfl pickX rfl) rfl ?_
    refine RL.cmp (Wanted.free rfl) (V.bin rfl rfl rfl B.gtr) rfl (fun h56 => ?_) (fun h56 => ?_)
    ·
     have hby := best_yes (p := p) (n := i) (by omega) ⟨by omega, by omega⟩
     refine RL.nil ?_
     refine SG.cond_true rfl ?_
     refine SG.seq ?_
     refine SG.region ?_
     refine RL.val (Wanted.free rfl) (V.move rfl rfl) rfl ?_
     refine RL.val (Wanted.free rfl) (V.move rfl rfl) rfl ?_
     refine RL.val (Wanted.free rfl) (V.nilCheck rfl rfl) rfl ?_
     refine RL.val (Wanted.free rfl) (V.fieldAddr rfl rfl fo94_0) rfl ?_
     refine RL.val (Wanted.free rfl) (V.fieldAddr rfl rfl fo26_5) rfl ?_
     refine RL.eff (Wanted.free rfl) (E.store1 rfl rfl rfl rfl rfl sz3 pickX rfl) rfl ?_
     rintro _ _ rfl
     refine RL.nil ?_
     refine SG.retE (Ret.none Try.func64 rfl) ?_ ⟨rfl, rfl⟩
     first | rw [show counted p = { p with commit := ((i + 1 : Nat) : Int) } from by rw [counted, hbest, hby]] | rw [show counted p = p from by rw [counted, hbest, hbl]]
     refine Nd.ent (la := la) (ln := p.log.length) (lc := lc) (va := va) (vn := vn) (vc := vc) (ma := ma) (mn := p.mtch.length) (mc := mc) (oa := oa) (on := on) (oc := oc) ?_
     exact entX
    ·
     refine RL.nil ?_
     refine SG.cond_false rfl ?_
     refine SG.skip ?_
     refine SG.inBlock ?_
     refine SG.region ?_
     refine RL.val (Wanted.free rfl) (V.move rfl rfl) rfl ?_
     refine RL.val (Wanted.free rfl) (V.bin rfl rfl rfl (B.subI (by omega) (by omega))) rfl ?_
     refine RL.val (Wanted.free rfl) (V.assign rfl rfl) rfl ?_
     refine RL.nil ?_
     refine SG.weaken (ih0 _ _ _ ?_ ⟨i, by omega, hbest.trans (best_no (by omega) (by omega)), rfl, rfl, rfl⟩) ?_ ?_
     ·
      omega
     ·
      rw [show ((i + 1 : Nat) : Int) - 1 = (i : Int) from by omega]
      repeat (first | exact EnvLe.nil _ | refine EnvLe.cons rfl ?_)
     ·
      exact entX
 ·
  have hbl := best_le (p := p) (n := i) (by omega)
  refine RL.nil ?_
  refine SG.cond_false rfl ?_
  refine SG.exit rfl ?_
  refine SG.doneE (Ret.none Try.func64 rfl) ?_ ⟨rfl, rfl⟩
  first | rw [show counted p = { p with commit := ((i + 1 : Nat) : Int) } from by rw [counted, hbest, hby]] | rw [show counted p = p from by rw [counted, hbest, hbl]]
  refine Nd.ent (la := la) (ln := p.log.length) (lc := lc) (va := va) (vn := vn) (vc := vc) (ma := ma) (mn := p.mtch.length) (mc := mc) (oa := oa) (on := on) (oc := oc) ?_
  exact entX

end Go.Proofs.Ytilcnglcflohoaa
