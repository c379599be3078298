/- The walk of the statement that no encoding begins another. -/
import Derived.Test.YtdccpcnahbhfcaaLaws3
import Derived.Test.YtdccpcnahbhfcaaMore2
namespace Go.Proofs.Ytdccpcnahbhfcaa
open Go.Wk Go.Wire

theorem fewV_two (v w : Val) : fewV [v, w] = [v.cut, w.cut] := rfl
theorem fewV_take1 (v w : Val) : (List.drop 0 [v.cut, w.cut]).take (1 - 0) = [v.cut] := rfl
theorem fewV_drop1 (v w : Val) : (List.drop 1 [v.cut, w.cut]).take (2 - 1) = [w.cut] := rfl
theorem encVs_one (v : Val) : encVs [v] = encV v := List.append_nil _
set_option maxRecDepth 100000 in
theorem prefix_law {κ : World} {L : List Assn} (v v2 : Val) {a a2 : Option Addr} {m c m2 c2 : Nat} (hm : Sl RI a m c v.l ∈ L) (hv : v.ok) (hm2 : Sl RI a2 m2 c2 v2.l ∈ L) (hv2 : v2.ok) :
    Ctr Try.prog 4 #[.agg #[v8 v.kind, v64 v.u, vI v.n, vB v.b, vS v.s, .slice a m c], .agg #[v8 v2.kind, v64 v2.u, vI v2.n, vB v2.b, vS v2.s, .slice a2 m2 c2]] κ L (fun r M => r = vB true ∧ M = L) := by
  refine Ctr.enter (vs := [.agg #[v8 v.kind, v64 v.u, vI v.n, vB v.b, vS v.s, .slice a m c], .agg #[v8 v2.kind, v64 v2.u, vI v2.n, vB v2.b, vS v2.s, .slice a2 m2 c2]]) (m := 54) Try.func4 rfl rfl rfl ?_
  have hw2 : ({ v2 with kind := v.kind } : Val).ok := hv2
  have hmw : Sl RI a2 m2 c2 ({ v2 with kind := v.kind } : Val).l ∈ L := hm2
  obtain ⟨w2, hwe⟩ : ∃ w, w = ({ v2 with kind := v.kind } : Val) := ⟨_, rfl⟩
  have hk : v.cut.kind = w2.cut.kind := by rw [hwe]; rfl
  rw [← hwe] at hw2 hmw
  have hsa := cut_small hv
  have hsb := cut_small hw2
  have hla := encV_length hsa
  have hlb := encV_length hsb
  refine SG.ent (RVal.mk hm hv) ?_
  refine SG.ent (RVal.mk (L := Rd RVal (v.cells a m c) v :: L) (List.Mem.tail _ hmw) hw2) ?_
  have hcw : w2.cells a2 m2 c2 = [v8 v.kind, v64 v2.u, vI v2.n, vB v2.b, vS v2.s, .slice a2 m2 c2] := by rw [hwe]; rfl
  refine SG.seq ?_
  refine SG.region ?_
  refine RL.eff (Wanted.free rfl) (E.box [v8 v.kind, v64 v.u, vI v.n, vB v.b, vS v.s, .slice a m c] rfl rfl rfl) rfl ?_
  rintro _ _ ⟨b2, rfl, rfl⟩
  refine RL.eff (Wanted.free rfl) (E.box [v8 v2.kind, v64 v2.u, vI v2.n, vB v2.b, vS v2.s, .slice a2 m2 c2] rfl rfl rfl) rfl ?_
  rintro _ _ ⟨b3, rfl, rfl⟩
  refine RL.val (Wanted.free rfl) (V.assign rfl rfl) rfl ?_
  refine RL.nil ?_
  refine SG.seq ?_
  refine SG.region ?_
  refine RL.val (Wanted.free rfl) (V.fieldAddr rfl rfl fo34_0) rfl ?_
  refine RL.val (Wanted.free rfl) (V.load rfl on5 rfl (by repeat (first | exact Pick.here | apply Pick.there)) rfl) rfl ?_
  refine RL.val (Wanted.free rfl) (V.fieldAddr rfl rfl fo34_0) rfl ?_
  refine RL.eff (Wanted.free rfl) (E.store1 rfl rfl rfl rfl rfl sz5 (by repeat (first | exact Pick.here | apply Pick.there)) rfl) rfl ?_
  rintro _ _ rfl
  refine RL.nil ?_
  refine SG.seq ?_
  refine SG.region ?_
  refine RL.val (Wanted.free rfl) (V.loadAgg (us := v.cells a m c) rfl ag34 rfl (by repeat (first | exact Pick.here | apply Pick.there)) rfl rfl) rfl ?_
  refine RL.val (Wanted.free rfl) (V.loadAgg (us := w2.cells a2 m2 c2) rfl ag34 rfl (by repeat (first | exact Pick.here | apply Pick.there)) (by rw [hcw]; rfl) rfl) rfl ?_
  refine RL.eff (Wanted.free rfl) (E.lit2 (v.cells a m c) (w2.cells a2 m2 c2) rfl el22.slice ze34 rfl (by decide) (by decide) rfl rfl rfl rfl rfl rfl) rfl ?_
  rintro _ _ ⟨b4, rfl, rfl⟩
  refine RL.ent (Buf.of_els (T := RVal) (b := b4) (l := [v, w2]) (m := 2) Pick.here rfl rfl (by decide) fun z h H => rows_two (x := v) (y := w2) (by repeat (first | exact List.Mem.head _ | assumption | apply List.Mem.tail)) (by repeat (first | exact List.Mem.head _ | assumption | apply List.Mem.tail)) H) ?_
  refine RL.publish (a := some ⟨b4, 0, none⟩) Pick.here ?_
  refine RL.eff (Wanted.free rfl) (E.call rfl go11 rfl (few2_ok (l := [v, w2]) (by repeat (first | exact List.Mem.head _ | assumption | apply List.Mem.tail)))) rfl ?_
  rintro _ _ ⟨a5, k5, c5, rfl, rfl⟩
  rw [fewV_two]
  refine RL.publish (a := a5) (by repeat (first | exact Pick.here | apply Pick.there)) ?_
  refine RL.sl (T := RVal) (l := [v.cut, w2.cut]) (a := a5) (by repeat (first | exact List.Mem.head _ | assumption | apply List.Mem.tail)) fun h5 _ _ => ?_
  have h5 : 2 = k5 := h5
  subst h5
  refine RL.val (Wanted.free rfl) (V.assign rfl rfl) rfl ?_
  refine RL.nil ?_
  refine SG.seq ?_
  refine SG.region ?_
  refine RL.val (Wanted.free rfl) (V.move rfl rfl) rfl ?_
  refine RL.eff (Wanted.free rfl) (E.slice (lo := 0) (hi := 1) rfl el22.slice rfl (by repeat (first | exact List.Mem.head _ | assumption | apply List.Mem.tail)) rfl ⟨_, _, rfl, (by first | rfl | omega)⟩ (by omega) (by omega)) rfl ?_
  intro _ _ hK14
  try rw [List.drop_zero] at hK14
  iterate 2 (try rw [Nat.sub_zero] at hK14)
  obtain ⟨a6, rfl, rfl⟩ := hK14
  refine RL.eff (Wanted.free rfl) (E.call rfl go16 rfl (written_ok (l := [v.cut]) (by repeat (first | exact List.Mem.head _ | assumption | apply List.Mem.tail)) (by intro x hx; rw [List.mem_singleton.1 hx]; exact hsa) (by simp))) rfl ?_
  rintro _ _ ⟨aX, kX, cX, rfl, rfl⟩
  rw [encVs_one]
  refine RL.publish (a := aX) (by repeat (first | exact Pick.here | apply Pick.there)) ?_
  refine RL.sl (a := aX) (l := encV v.cut) (by repeat (first | exact List.Mem.head _ | assumption | apply List.Mem.tail)) fun hX _ _ => ?_
  subst hX
  refine RL.val (Wanted.free rfl) (V.assign rfl rfl) rfl ?_
  refine RL.nil ?_
  refine SG.seq ?_
  refine SG.region ?_
  refine RL.val (Wanted.free rfl) (V.move rfl rfl) rfl ?_
  refine RL.eff (Wanted.free rfl) (E.slice (lo := 1) (hi := 2) rfl el22.slice rfl (by repeat (first | exact List.Mem.head _ | assumption | apply List.Mem.tail)) ⟨_, _, rfl, (by first | rfl | omega)⟩ rfl (by omega) (by omega)) rfl ?_
  intro _ _ hK18
  try rw [List.drop_zero] at hK18
  iterate 2 (try rw [Nat.sub_zero] at hK18)
  obtain ⟨a7, rfl, rfl⟩ := hK18
  refine RL.eff (Wanted.free rfl) (E.call rfl go16 rfl (written_ok (l := [w2.cut]) (by repeat (first | exact List.Mem.head _ | assumption | apply List.Mem.tail)) (by intro x hx; rw [List.mem_singleton.1 hx]; exact hsb) (by simp))) rfl ?_
  rintro _ _ ⟨aY, kY, cY, rfl, rfl⟩
  rw [encVs_one]
  refine RL.publish (a := aY) (by repeat (first | exact Pick.here | apply Pick.there)) ?_
  refine RL.sl (a := aY) (l := encV w2.cut) (by repeat (first | exact List.Mem.head _ | assumption | apply List.Mem.tail)) fun hY _ _ => ?_
  subst hY
  refine RL.val (Wanted.free rfl) (V.assign rfl rfl) rfl ?_
  refine RL.nil ?_
  refine SG.seq ?_
  refine SG.region ?_
  refine RL.val (Wanted.free rfl) (V.move rfl rfl) rfl ?_
  refine RL.val (Wanted.free rfl) (V.len rfl rfl el23.under rfl) rfl ?_
  refine RL.val (Wanted.free rfl) (V.move rfl rfl) rfl ?_
  refine RL.val (Wanted.free rfl) (V.len rfl rfl el23.under rfl) rfl ?_
  refine RL.val (Wanted.free rfl) (V.min rfl rfl rfl rfl) rfl ?_
  rw [show (if ((encV w2.cut).length : Int) < ((encV v.cut).length : Int) then ((encV w2.cut).length : Int) else ((encV v.cut).length : Int)) = ((min (encV v.cut).length (encV w2.cut).length : Nat) : Int) from by split <;> omega]
  refine RL.val (Wanted.free rfl) (V.assign rfl rfl) rfl ?_
  refine RL.nil ?_
  refine SG.seq ?_
  refine SG.seq ?_
  refine SG.elem (T := RVal) (j := 0) (l := [v.cut, w2.cut]) (a := a5) (y := v.cut) (by repeat (first | exact List.Mem.head _ | assumption | apply List.Mem.tail)) rfl fun us hus => ?_
  refine SG.openVal (by repeat (first | exact Pick.here | apply Pick.there)) fun a8 m8 c8 hus2 _ => ?_
  subst hus2
  refine SG.elem (T := RVal) (j := 1) (l := [v.cut, w2.cut]) (a := a5) (y := w2.cut) (by repeat (first | exact List.Mem.head _ | assumption | apply List.Mem.tail)) rfl fun us hus3 => ?_
  refine SG.openVal (by repeat (first | exact Pick.here | apply Pick.there)) fun a9 m9 c9 hus4 _ => ?_
  subst hus4
  refine SG.drawL 7 wide rfl rfl ?_
  refine RH.val 0 rfl (by kernel_rfl) (by kernel_rfl) (by kernel_rfl) (Wanted.free rfl) (V.move rfl rfl) (Ent.refl _) rfl ?_
  refine RH.val 1 rfl (by kernel_rfl) (by kernel_rfl) (by kernel_rfl) (Wanted.free rfl) (V.indexSl (j := 0) rfl el22.slice rfl rfl (by repeat (first | exact List.Mem.head _ | assumption | apply List.Mem.tail)) (by first | rfl | omega) (by omega)) (Ent.refl _) rfl ?_
  refine RH.val 2 rfl (by kernel_rfl) (by kernel_rfl) (by kernel_rfl) (Wanted.free rfl) (V.loadAt (us := v.cut.cells a8 m8 c8) rfl ag34 rfl (by repeat (first | exact List.Mem.head _ | assumption | apply List.Mem.tail)) rfl) (Ent.refl _) rfl ?_
  refine RH.val 3 rfl (by kernel_rfl) (by kernel_rfl) (by kernel_rfl) (Wanted.free rfl) (V.move rfl rfl) (Ent.refl _) rfl ?_
  refine RH.val 4 rfl (by kernel_rfl) (by kernel_rfl) (by kernel_rfl) (Wanted.free rfl) (V.indexSl (j := 1) rfl el22.slice rfl rfl (by repeat (first | exact List.Mem.head _ | assumption | apply List.Mem.tail)) (by first | rfl | omega) (by omega)) (Ent.refl _) rfl ?_
  refine RH.val 5 rfl (by kernel_rfl) (by kernel_rfl) (by kernel_rfl) (Wanted.free rfl) (V.loadAt (us := w2.cut.cells a9 m9 c9) rfl ag34 rfl (by repeat (first | exact List.Mem.head _ | assumption | apply List.Mem.tail)) rfl) (Ent.refl _) rfl ?_
  refine RH.one (i := 6) (by kernel_rfl) ?_
  refine RHone.eff rfl (Wanted.free rfl) (E.call rfl go18 rfl (same_ok v.cut w2.cut (by repeat (first | exact List.Mem.head _ | assumption | apply List.Mem.tail)) (by repeat (first | exact List.Mem.head _ | assumption | apply List.Mem.tail)))) rfl ?_
  rintro _ _ ⟨rfl, rfl⟩
  refine ⟨(by repeat (first | exact Ent.refl _ | (apply Ent.cons; (· repeat (first | exact Pick.here | (refine Pick.sl ?_; (· repeat (first | exact List.Mem.head _ | assumption | apply List.Mem.tail))) | apply Pick.there))) | (refine Ent.trans (Ent.drop _ _) ?_))), ?_⟩
  refine RH.done (by kernel_rfl) ?_
  refine SG.cond rfl (fun h34 => ?_) (fun h34 => ?_)
  · skip
    refine SG.seq ?_
    refine SG.region ?_
    refine RL.val (Wanted.free rfl) (V.move rfl rfl) rfl ?_
    refine RL.val (Wanted.free rfl) (V.bytesToS rfl el23.under ui5 us9 rfl (by repeat (first | exact List.Mem.head _ | assumption | apply List.Mem.tail))) rfl ?_
    refine RL.val (Wanted.free rfl) (V.move rfl rfl) rfl ?_
    refine RL.val (Wanted.free rfl) (V.bytesToS rfl el23.under ui5 us9 rfl (by repeat (first | exact List.Mem.head _ | assumption | apply List.Mem.tail))) rfl ?_
    refine RL.cmpT (Wanted.free rfl) (V.bin rfl rfl rfl B.eqlS) rfl (enc_of_same hk (by assumption)) ?_
    refine RL.val (Wanted.free rfl) (V.move rfl rfl) rfl ?_
    refine RL.eff (Wanted.yes rfl rfl rfl rfl) (E.call rfl go17 rfl (lives_ok)) rfl ?_
    rintro _ _ ⟨rfl, rfl⟩
    refine RL.val (Wanted.free rfl) (V.pick_true rfl rfl rfl) rfl ?_
    refine RL.val (Wanted.free rfl) (V.assign rfl rfl) rfl ?_
    refine RL.nil ?_
    refine SG.retE (Ret.r1 Try.func4 rfl (.tmp rfl)) ?_ ⟨rfl, rfl⟩
    repeat (first | exact Ent.refl _ | (apply Ent.cons; (· repeat (first | exact Pick.here | (refine Pick.sl ?_; (· repeat (first | exact List.Mem.head _ | assumption | apply List.Mem.tail))) | apply Pick.there))) | (refine Ent.trans (Ent.drop _ _) ?_))
  · skip
    refine SG.skip ?_
    refine SG.seq ?_
    refine SG.cut (T := R8) (a := aX) (lo := 0) (hi := min (encV v.cut).length (encV w2.cut).length) (l := encV v.cut) (by repeat (first | exact List.Mem.head _ | assumption | apply List.Mem.tail)) (by omega) (by omega) rfl ?_
    refine SG.cut (T := R8) (a := aY) (lo := 0) (hi := min (encV v.cut).length (encV w2.cut).length) (l := encV w2.cut) (by repeat (first | exact List.Mem.head _ | assumption | apply List.Mem.tail)) (by omega) (by omega) rfl ?_
    refine SG.drawL 13 wide rfl rfl ?_
    refine RH.val 0 rfl (by kernel_rfl) (by kernel_rfl) (by kernel_rfl) (Wanted.free rfl) (V.move rfl rfl) (Ent.refl _) rfl ?_
    refine RH.val 1 rfl (by kernel_rfl) (by kernel_rfl) (by kernel_rfl) (Wanted.free rfl) (V.move rfl rfl) (Ent.refl _) rfl ?_
    refine RH.val 2 rfl (by kernel_rfl) (by kernel_rfl) (by kernel_rfl) (Wanted.free rfl) (V.slice (T := R8) rfl el23.slice rfl rfl ⟨_, _, rfl, (by first | rfl | omega)⟩ (by omega) (by omega)) (Ent.refl _) rfl ?_
    refine RH.val 3 rfl (by kernel_rfl) (by kernel_rfl) (by kernel_rfl) (Wanted.free rfl) (V.bytesToS rfl el23.under ui5 us9 rfl (by repeat (first | exact List.Mem.head _ | assumption | apply List.Mem.tail))) (Ent.refl _) rfl ?_
    refine RH.val 4 rfl (by kernel_rfl) (by kernel_rfl) (by kernel_rfl) (Wanted.free rfl) (V.move rfl rfl) (Ent.refl _) rfl ?_
    refine RH.val 5 rfl (by kernel_rfl) (by kernel_rfl) (by kernel_rfl) (Wanted.free rfl) (V.move rfl rfl) (Ent.refl _) rfl ?_
    refine RH.val 6 rfl (by kernel_rfl) (by kernel_rfl) (by kernel_rfl) (Wanted.free rfl) (V.slice (T := R8) rfl el23.slice rfl rfl ⟨_, _, rfl, (by first | rfl | omega)⟩ (by omega) (by omega)) (Ent.refl _) rfl ?_
    refine RH.val 7 rfl (by kernel_rfl) (by kernel_rfl) (by kernel_rfl) (Wanted.free rfl) (V.bytesToS rfl el23.under ui5 us9 rfl (by repeat (first | exact List.Mem.head _ | assumption | apply List.Mem.tail))) (Ent.refl _) rfl ?_
    refine RH.cmpT 8 rfl (by kernel_rfl) (by kernel_rfl) (by kernel_rfl) (Wanted.free rfl) (V.bin rfl rfl rfl B.neqS) (Ent.refl _) rfl (prefix_free hsa hsb hk (Bool.eq_false_iff.1 (by assumption)) rfl) ?_
    refine RH.val 9 rfl (by kernel_rfl) (by kernel_rfl) (by kernel_rfl) (Wanted.free rfl) (V.move rfl rfl) (Ent.refl _) rfl ?_
    refine RH.one (i := 10) (by kernel_rfl) ?_
    refine RHone.eff rfl (Wanted.yes rfl rfl rfl rfl) (E.call rfl go17 rfl (lives_ok)) rfl ?_
    rintro _ _ ⟨rfl, rfl⟩
    refine ⟨(by repeat (first | exact Ent.refl _ | (apply Ent.cons; (· repeat (first | exact Pick.here | (refine Pick.sl ?_; (· repeat (first | exact List.Mem.head _ | assumption | apply List.Mem.tail))) | apply Pick.there))) | (refine Ent.trans (Ent.drop _ _) ?_))), ?_⟩
    refine RH.val 11 rfl (by kernel_rfl) (by kernel_rfl) (by kernel_rfl) (Wanted.free rfl) (V.pick_true rfl rfl rfl) (by repeat (first | exact Ent.refl _ | (apply Ent.cons; (· repeat (first | exact Pick.here | (refine Pick.sl ?_; (· repeat (first | exact List.Mem.head _ | assumption | apply List.Mem.tail))) | apply Pick.there))) | (refine Ent.trans (Ent.drop _ _) ?_))) rfl ?_
    refine RH.val 12 rfl (by kernel_rfl) (by kernel_rfl) (by kernel_rfl) (Wanted.free rfl) (V.assign rfl rfl) (by repeat (first | exact Ent.refl _ | (apply Ent.cons; (· repeat (first | exact Pick.here | (refine Pick.sl ?_; (· repeat (first | exact List.Mem.head _ | assumption | apply List.Mem.tail))) | apply Pick.there))) | (refine Ent.trans (Ent.drop _ _) ?_))) rfl ?_
    refine RH.done (by kernel_rfl) ?_
    refine SG.retE (Ret.r1 Try.func4 rfl (.tmp rfl)) ?_ ⟨rfl, rfl⟩
    repeat (first | exact Ent.refl _ | (apply Ent.cons; (· repeat (first | exact Pick.here | (refine Pick.sl ?_; (· repeat (first | exact List.Mem.head _ | assumption | apply List.Mem.tail))) | apply Pick.there))) | (refine Ent.trans (Ent.drop _ _) ?_))

end Go.Proofs.Ytdccpcnahbhfcaa
