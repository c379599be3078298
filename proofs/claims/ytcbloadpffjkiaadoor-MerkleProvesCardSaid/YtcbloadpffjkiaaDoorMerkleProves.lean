/- MerkleProves: whatever the three ints, the law 'MerkleProves' returns true. No condition. -/
import Derived.Test.YtcbloadpffjkiaaDoorCardb
import Derived.Test.YtcbloadpffjkiaaDoorLprov
namespace Go.Proofs.YtcbloadpffjkiaaDoor
open Go.Wk Go.ChangeShapes Go.WideShapes Go.ChangeAt Go.RowKit Go.Sha

set_option maxRecDepth 100000 in
theorem merkleProves_lifted (os : Os) (started : os.Started) (H : Type) (enc : TypeId × Value → H) (F : Stop.Interp) :
    ReturnsInHanded {} Tryd.checked os 10 .any ((OpenSpec.ofChange Rows.merkleProvesSpec).preRow enc Tryd.prog Tryd.f10 Rows.merkleProvesRow.domain false Rows.merkleProvesRow.laid) (((OpenSpec.ofChange Rows.merkleProvesSpec).at F).post enc Tryd.prog Tryd.f10 false true false false) := by
  obtain ⟨places, hx⟩ : ∃ places, DataW.whole enc Tryd.prog ((laidWorld os).forCall (fun _ _ => 0) ⟨#[], #[.int .i64 0, .int .i64 0, .int .i64 0], []⟩).memory Tryd.f10.params.toList Rows.merkleProvesSpec.vars false (#[.int .i64 0, .int .i64 0, .int .i64 0] : Array Value).toList 12 = some ([.lit (.int .i64 0), .lit (.int .i64 0), .lit (.int .i64 0)], [], places) := ⟨[], by kernel_rfl⟩
  refine returnsInHanded_of_row (C := Tryd.checked) (s := OpenSpec.ofChange Rows.merkleProvesSpec) own started krX Tryd.func10
    (witness_row_at (enc := enc) (C := Tryd.checked) false (laidWorld os) #[.int .i64 0, .int .i64 0, .int .i64 0] rfl krX krX krX
      (OpenSpec.preRow_of_cond 12 hx krX (fun k hk => by cases hk) krX (laidMet_of_run' 8 krX krX))) ?_
  intro W base args ds gs before hval0 hW _ _ hz hL _ _
  have hval : ∀ (j : Nat) t v, Tryd.f10.params[j]? = some t → args[j]? = some v → Value.okWide Tryd.prog W .any base t v := hval0
  refine law_post (P := Tryd.prog) (tb := 4) rfl rfl ub4 (fun ds' hd => ?_) laidOut ?_ hW ?_
  · rw [Tryd.params10] at hd
    match ds', hd with
    | [_, _, _], _ => rfl
  · rw [Tryd.params10]
    intro t ht
    simp only [List.mem_cons, List.not_mem_nil, or_false] at ht
    rcases ht with rfl | rfl | rfl
    · exact ⟨by kernel_rfl, of_decide_eq_true krX⟩
    · exact ⟨by kernel_rfl, of_decide_eq_true krX⟩
    · exact ⟨by kernel_rfl, of_decide_eq_true krX⟩
  · obtain ⟨p, q, hA, _⟩ := hW
    rw [Tryd.params10] at hA hval hz
    obtain ⟨args⟩ := args
    change DataW.TrodAll enc Tryd.prog W 0 (fun _ => true) true [3, 3, 3] args ds p at hA
    obtain ⟨v0, args, d0, ds0, p0, q0, rfl, rfl, rfl, h0, hA⟩ := trodAll_cons hA
    obtain ⟨v1, args, d1, ds1, p1, q1, rfl, rfl, rfl, h1, hA⟩ := trodAll_cons hA
    obtain ⟨v2, args, d2, ds2, p2, q2, rfl, rfl, rfl, h2, hA⟩ := trodAll_cons hA
    obtain ⟨rfl, rfl, rfl⟩ := trodAll_nil hA
    obtain ⟨y0, e0, ok0⟩ := (Opens.i64 ui3 krX).arg (by rw [ui3]; simp) (by rw [ui3]; simp) (hval 0 3 v0 rfl rfl) h0
    cases e0
    obtain ⟨y1, e1, ok1⟩ := (Opens.i64 ui3 krX).arg (by rw [ui3]; simp) (by rw [ui3]; simp) (hval 1 3 v1 rfl rfl) h1
    cases e1
    obtain ⟨y2, e2, ok2⟩ := (Opens.i64 ui3 krX).arg (by rw [ui3]; simp) (by rw [ui3]; simp) (hval 2 3 v2 rfl rfl) h2
    cases e2
    have hall : ∀ R ∈ ([fun z => ∃ b o, (some ⟨0, 0, none⟩ : Option Addr) = some ⟨b, o, none⟩ ∧ Row z b (o + 0) (Sha.KK.map v32)] : List (Frag → Prop)), R (Frag.of W) := by
      intro R hR
      simp only [List.mem_cons, List.not_mem_nil, or_false] at hR
      rcases hR with rfl
      · exact table_row hL
    exact ⟨_, List.Mem.head _, Sep.start W _ hall, proves_law ok0 ok1 ok2 (by unfold Tab; repeat (first | exact List.Mem.head _ | apply List.Mem.tail))⟩
set_option maxRecDepth 100000 in
theorem merkleProves_said : Rows.MerkleProvesSaid :=
  OpenClaim.holds_of_cond 10 Tryd.f10 rfl rfl rfl rfl rfl rfl rfl ⟨rfl, rfl, rfl, rfl, rfl⟩ rfl rfl rfl rfl rfl krX Tryd.func10 krX
    (of_decide_eq_true krX) (by unfold Func.isWrapper; first | (rw [if_pos (by decide +kernel)]; kernel_rfl) | (rw [if_neg (by decide +kernel)]; exact ⟨rfl, rfl⟩))
    (fun os started H enc _ F => by rw [OpenClaim.pre_eq_preRow]; exact merkleProves_lifted os started H enc F)
set_option maxRecDepth 100000 in
theorem merkleProves_plain (f : FuncId) (fn : Func) (hf : Tryd.pinned.checked.prog.funcNamed "rollbook/rollbooklaw07.MerkleProves" = some f) (hfn : Tryd.pinned.checked.prog.funcs[f]? = some fn) :
    false = Tryd.pinned.checked.prog.looks [] ∧ ∀ (j : Nat) t, fn.params[j]? = some t → Tryd.pinned.checked.prog.wantsStandIn t = false := by
  obtain rfl : f = 10 := Option.some.inj ((show Tryd.prog.funcNamed "rollbook/rollbooklaw07.MerkleProves" = some 10 by kernel_rfl).symm.trans hf) |>.symm
  obtain rfl : fn = Tryd.f10 := (Option.some.inj (Tryd.func10.symm.trans hfn)).symm
  refine ⟨by kernel_rfl, fun j t ht => ?_⟩
  rw [Tryd.params10] at ht
  have hm : t ∈ [3, 3, 3] := by simpa using Array.mem_of_getElem? ht
  have hall : ([3, 3, 3].all fun u => !Tryd.prog.wantsStandIn u) = true := by kernel_rfl
  exact (show Tryd.prog.wantsStandIn t = false by simpa using List.all_eq_true.1 hall t hm)
set_option maxRecDepth 100000 in
theorem merkleProves_holds : Rows.MerkleProvesCardSaid :=
  Claim7.holds_tied_plain_at .later [] _ _ _ _ merkleProves_said (fun _ h => by cases h) krX (fun _ h => by cases h) merkleProves_row_tie rfl ⟨rfl, rfl⟩ krX rfl merkleProves_plain krX
end Go.Proofs.YtcbloadpffjkiaaDoor
