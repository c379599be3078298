/- DigestGoes: whatever the three byte slices, of bulk at most 1048576, the law 'DigestGoes' returns true and leaves them as they were. -/
import Derived.Test.YtbljfilkdhgcnaaDoorCardb
import Derived.Test.YtbljfilkdhgcnaaDoorLaws5
namespace Go.Proofs.YtbljfilkdhgcnaaDoor
open Go.Wk Go.ChangeShapes Go.WideShapes Go.ChangeAt Go.RowKit Go.Sha

set_option maxRecDepth 100000 in
theorem digestGoesUpto_lifted (os : Os) (started : os.Started) (H : Type) (enc : TypeId × Value → H) (F : Stop.Interp) :
    ReturnsInHanded {} Tryd.checked os 7 .any ((Rows.OpenSpec.upto Rows.digestGoesSpec).preRow enc Tryd.prog Tryd.f7 Rows.digestGoesUptoRow.domain false Rows.digestGoesUptoRow.laid) (((Rows.OpenSpec.upto Rows.digestGoesSpec).at F).post enc Tryd.prog Tryd.f7 false true false false) := by
  obtain ⟨places, hx⟩ : ∃ places, DataW.whole enc Tryd.prog ((laidWorld os).forCall (fun _ _ => 0) ⟨#[], #[.slice none 0 0, .slice none 0 0, .slice none 0 0], []⟩).memory Tryd.f7.params.toList Rows.digestGoesSpec.vars false (#[.slice none 0 0, .slice none 0 0, .slice none 0 0] : Array Value).toList 12 = some ([.nil, .nil, .nil], [], places) := ⟨[], by kernel_rfl⟩
  refine returnsInHanded_of_row (C := Tryd.checked) (s := Rows.OpenSpec.upto Rows.digestGoesSpec) own started (by kernel_rfl) Tryd.func7
    (witness_row_at (enc := enc) (C := Tryd.checked) false (laidWorld os) #[.slice none 0 0, .slice none 0 0, .slice none 0 0] rfl (by kernel_rfl) (by kernel_rfl) (by kernel_rfl)
      (OpenSpec.preRow_of_cond 12 hx (by kernel_rfl) (fun k hk => by cases hk; kernel_rfl) (by kernel_rfl) (laidMet_of_run' 8 (by kernel_rfl) (by kernel_rfl)))) ?_
  intro W base args ds gs before hval0 hW _ hcond hz hL _ _
  have hval : ∀ (j : Nat) t v, Tryd.f7.params[j]? = some t → args[j]? = some v → Value.okWide Tryd.prog W .any base t v := hval0
  refine law_post (P := Tryd.prog) (tb := 4) rfl rfl ub4 (fun ds' hd => ?_) laidOut ?_ hW ?_
  · rw [Tryd.params7] at hd
    match ds', hd with
    | [_, _, _], _ => rfl
  · rw [Tryd.params7]
    intro t ht
    simp only [List.mem_cons, List.not_mem_nil, or_false] at ht
    rcases ht with rfl | rfl | rfl
    · exact ⟨by kernel_rfl, of_decide_eq_true (by kernel_rfl)⟩
    · exact ⟨by kernel_rfl, of_decide_eq_true (by kernel_rfl)⟩
    · exact ⟨by kernel_rfl, of_decide_eq_true (by kernel_rfl)⟩
  · obtain ⟨p, q, hA, _⟩ := hW
    rw [Tryd.params7] at hA hval hz
    obtain ⟨args⟩ := args
    change DataW.TrodAll enc Tryd.prog W 0 (fun _ => true) true [22, 22, 22] args ds p at hA
    obtain ⟨v0, args, d0, ds0, p0, q0, rfl, rfl, rfl, h0, hA⟩ := trodAll_cons hA
    obtain ⟨v1, args, d1, ds1, p1, q1, rfl, rfl, rfl, h1, hA⟩ := trodAll_cons hA
    obtain ⟨v2, args, d2, ds2, p2, q2, rfl, rfl, rfl, h2, hA⟩ := trodAll_cons hA
    obtain ⟨rfl, rfl, rfl⟩ := trodAll_nil hA
    have hbulk := hcond _ rfl
    obtain ⟨y0, a0, m0, c0, e0, s0, z0⟩ := arg_bytes (hval 0 22 v0 rfl rfl) h0
    cases e0
    obtain ⟨y1, a1, m1, c1, e1, s1, z1⟩ := arg_bytes (hval 1 22 v1 rfl rfl) h1
    cases e1
    obtain ⟨y2, a2, m2, c2, e2, s2, z2⟩ := arg_bytes (hval 2 22 v2 rfl rfl) h2
    cases e2
    obtain ⟨hb0, hb1, hb2⟩ := bulk_three hbulk
    have hall : ∀ R ∈ ([fun z => ∃ b o, (some ⟨0, 0, none⟩ : Option Addr) = some ⟨b, o, none⟩ ∧ Row z b (o + 0) (Sha.KK.map v32), SlP R8 a0 m0 c0 y0, SlP R8 a1 m1 c1 y1, SlP R8 a2 m2 c2 y2] : List (Frag → Prop)), R (Frag.of W) := by
      intro R hR
      simp only [List.mem_cons, List.not_mem_nil, or_false] at hR
      rcases hR with rfl | rfl | rfl | rfl
      · exact table_row hL
      · exact s0
      · exact s1
      · exact s2
    exact ⟨_, List.Mem.head _, Sep.start W _ hall, goes_law (by repeat (first | exact List.Mem.head _ | assumption | apply List.Mem.tail)) (by repeat (first | exact List.Mem.head _ | assumption | apply List.Mem.tail)) (by repeat (first | exact List.Mem.head _ | assumption | apply List.Mem.tail)) (by unfold Tab; exact List.Mem.tail _ (List.Mem.head _)) (by omega) (by omega) (by omega)⟩
set_option maxRecDepth 100000 in
theorem digestGoesUpto_said : Rows.DigestGoesUptoSaid :=
  OpenClaim.holds_of_cond 7 Tryd.f7 rfl rfl rfl rfl rfl rfl rfl ⟨rfl, rfl, rfl, rfl, rfl⟩ rfl rfl rfl rfl rfl (by kernel_rfl) Tryd.func7 (by kernel_rfl)
    (of_decide_eq_true (by kernel_rfl)) (by unfold Func.isWrapper; first | (rw [if_pos (by decide +kernel)]; kernel_rfl) | (rw [if_neg (by decide +kernel)]; exact ⟨rfl, rfl⟩))
    (fun os started H enc _ F => by rw [OpenClaim.pre_eq_preRow]; exact digestGoesUpto_lifted os started H enc F)
set_option maxRecDepth 100000 in
theorem digestGoesUpto_plain (f : FuncId) (fn : Func) (hf : Tryd.pinned.checked.prog.funcNamed "rollbook/rollbooklaw01.DigestGoes" = some f) (hfn : Tryd.pinned.checked.prog.funcs[f]? = some fn) :
    false = Tryd.pinned.checked.prog.looks [] ∧ ∀ (j : Nat) t, fn.params[j]? = some t → Tryd.pinned.checked.prog.wantsStandIn t = false := by
  obtain rfl : f = 7 := Option.some.inj ((show Tryd.prog.funcNamed "rollbook/rollbooklaw01.DigestGoes" = some 7 by kernel_rfl).symm.trans hf) |>.symm
  obtain rfl : fn = Tryd.f7 := (Option.some.inj (Tryd.func7.symm.trans hfn)).symm
  refine ⟨by kernel_rfl, fun j t ht => ?_⟩
  rw [Tryd.params7] at ht
  have hm : t ∈ [22, 22, 22] := by simpa using Array.mem_of_getElem? ht
  have hall : ([22, 22, 22].all fun u => !Tryd.prog.wantsStandIn u) = true := by kernel_rfl
  exact (show Tryd.prog.wantsStandIn t = false by simpa using List.all_eq_true.1 hall t hm)
set_option maxRecDepth 100000 in
theorem digestGoes_holds : Rows.DigestGoesUptoCardSaid :=
  Claim7.holds_tied_plain_at .later [] _ _ _ _ digestGoesUpto_said (fun _ h => by cases h) (by kernel_rfl) (fun _ h => by cases h) digestGoesUpto_row_tie rfl ⟨rfl, rfl⟩ (by kernel_rfl) rfl digestGoesUpto_plain (by kernel_rfl)
end Go.Proofs.YtbljfilkdhgcnaaDoor
