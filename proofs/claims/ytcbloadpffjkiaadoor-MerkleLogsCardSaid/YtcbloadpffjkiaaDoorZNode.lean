/- Node. -/
import Derived.Test.YtcbloadpffjkiaaDoorZConcat
namespace Go.Proofs.YtcbloadpffjkiaaDoor
open Go.Wk Go.Sha

theorem Buf.lit3 {L L1 : List Assn} {b e : Nat} {a a' a'' : Option Addr} {m c m' c' m'' c'' : Nat} {x y u : List UInt8} (hp : Pick (Blk b e [.slice a m c, .slice a' m' c', .slice a'' m'' c'']) L L1) (h1 : Sl R8 a m c x ∈ L) (h2 : Sl R8 a' m' c' y ∈ L) (h3 : Sl R8 a'' m'' c'' u ∈ L) : Ent L (Buf (Rep.slice R8) e (some ⟨b, 0, none⟩) 3 3 [x, y, u] :: L1) :=
  Buf.of_els (l := [x, y, u]) hp rfl rfl (by decide) fun _ _ H => Rep.rows.append (l := [x]) (l' := [y, u]) (Rep.rows.single (H.slr h1)) (rows_two_sl h2 h3 H)
set_option maxRecDepth 100000 in
theorem node_ok {κ : World} {L : List Assn} {x y : List UInt8} (hx : x.length = 32) (hy : y.length = 32) (hT : Tab L) :
    Ctr Tryd.prog 47 #[.agg (x.map v8).toArray, .agg (y.map v8).toArray] κ L (fun v M => v = .agg ((node x y).map v8).toArray ∧ M = L) := by
 refine Ctr.enter (vs := [.agg (x.map v8).toArray, .agg (y.map v8).toArray]) (m := 11) Tryd.func47 rfl rfl rfl ?_
 unfold Tab at hT
 refine SG.seq ?_
 refine SG.region ?_
 refine RL.eff (Wanted.free rfl) (E.box _ rfl rfl rfl) rfl ?_
 rintro _ _ ⟨b2, rfl, rfl⟩
 refine RL.eff (Wanted.free rfl) (E.box _ rfl rfl rfl) rfl ?_
 rintro _ _ ⟨b3, rfl, rfl⟩
 refine RL.eff (Wanted.free rfl) (E.alloc rfl ze25) rfl ?_
 rintro _ _ ⟨b4, rfl, rfl⟩
 refine RL.nil ?_
 refine SG.seq ?_
 refine SG.ent (Ent.trans pickX (Buf.of_blk (T := R8) (e := 25) (b := b2) (c := 32) (l := x) (by simp [hx, show R8.sz = 1 from rfl]) hx (by decide) (fun _ => rows_sc.2 ⟨rfl, fun _ _ => trivial⟩))) ?_
 refine SG.publish (T := R8) Pick.here ?_
 refine SG.ent (Ent.trans pickX (Buf.of_blk (T := R8) (e := 25) (b := b3) (c := 32) (l := y) (by simp [hy, show R8.sz = 1 from rfl]) hy (by decide) (fun _ => rows_sc.2 ⟨rfl, fun _ _ => trivial⟩))) ?_
 refine SG.publish (T := R8) Pick.here ?_
 refine SG.drawN 7 6 (Blk b4 25 (List.replicate 32 (.int .u8 0)) :: L) wide rfl rfl (by repeat (first | exact Ent.refl _ | (apply Ent.cons; (· repeat (first | exact Pick.here | (refine Pick.sl ?_; (· repeat (first | exact List.Mem.head _ | assumption | apply List.Mem.tail))) | apply Pick.there))) | (refine Ent.trans (Ent.drop _ _) ?_))) ?_
 refine RH.val 1 rfl krX krX krX krX (Wanted.free rfl) (V.sliceArr rfl ar25 rfl rfl rfl rfl (by omega) (by omega)) rfl ?_
 refine RH.val 2 rfl krX krX krX krX (Wanted.free rfl) (V.sliceArr rfl ar25 rfl rfl rfl rfl (by omega) (by omega)) rfl ?_
 refine RH.one (i := 0) krX ?_
 refine RHone.eff rfl (Wanted.free rfl) (E.lit1 [.int .u8 1] rfl el62.slice ze5 rfl (by decide) (by decide) rfl rfl rfl) rfl ?_
 rintro _ _ ⟨b5, rfl, rfl⟩
 refine ⟨.inr entX, ?_⟩
 refine RH.ent (Buf.lit1' (T := R8) (b := b5) (e := 5) (y := 1) Pick.here rfl (fun _ => ⟨rfl, trivial⟩)) ?_
 refine RH.publish (T := R8) Pick.here ?_
 refine RH.one (i := 3) krX ?_
 refine RHone.eff rfl (Wanted.free rfl) (E.litN (xs := [.tmp 5, .tmp 6, .tmp 7]) rfl rfl rfl el36.slice ze62 rfl (by decide) (by decide) rfl (by simp [Value.cells])) rfl ?_
 rintro _ _ ⟨b8, rfl, rfl⟩
 refine ⟨.inr entX, ?_⟩
 refine RH.ent (Buf.lit3 (b := b8) (e := 62) (x := [1]) (y := x) (u := y) Pick.here memX memX memX) ?_
 refine RH.publish (T := Rep.slice R8) Pick.here ?_
 refine RH.one (i := 4) krX ?_
 refine RHone.eff rfl (Wanted.free rfl) (E.call rfl go79 rfl (concat_ok (ls := [[1], x, y]) memX (by simp [hx, hy]))) rfl ?_
 rintro _ _ ⟨a9, c9, rfl, rfl⟩
 refine ⟨.inr entX, ?_⟩
 refine RH.publish (T := R8) (a := a9) Pick.here ?_
 rw [show [[1], x, y].flatten = 1 :: x ++ y from by simp]
 refine RH.one (i := 5) krX ?_
 refine RHone.eff rfl (Wanted.free rfl) (E.call rfl go45 rfl (sum_ok (l := 1 :: x ++ y) memX (by unfold Tab; repeat (first | exact List.Mem.head _ | assumption | apply List.Mem.tail)) (by simp [hx, hy]))) rfl ?_
 rintro _ _ ⟨rfl, rfl⟩
 refine ⟨.inr entX, ?_⟩
 refine RH.one (i := 6) krX ?_
 refine RHone.eff rfl (Wanted.free rfl) (E.storeWhole rfl rfl rfl (by rw [List.length_map]; exact sum_length _) sz25 pickX (one8 _) (by rw [List.length_replicate])) rfl ?_
 rintro _ _ rfl
 refine ⟨.inl krX, ?_⟩
 refine RH.done krX ?_
 refine SG.retE (Ret.r1 Tryd.func47 rfl (.agg rfl ag25 pickX (take8 (sum_length _)) (by rw [List.length_map]; exact sum_length _))) ?_ ⟨rfl, rfl⟩
 exact entX

end Go.Proofs.YtcbloadpffjkiaaDoor
