/- DigestLengths: whatever the two ints, the law 'DigestLengths' returns true. No condition. -/
import Derived.Test.YtbljfilkdhgcnaaDoorCardb
import Derived.Test.YtbljfilkdhgcnaaDoorLaws2
namespace Go.Proofs.YtbljfilkdhgcnaaDoor
open Go.Wk Go.ChangeShapes Go.WideShapes Go.ChangeAt Go.RowKit Go.Sha

set_option maxRecDepth 100000 in
theorem digestLengths_lifted (os : Os) (started : os.Started) (H : Type) (enc : TypeId × Value → H) (F : Stop.Interp) :
    ReturnsInHanded {} Tryd.checked os 4 .any ((OpenSpec.ofChange Rows.digestLengthsSpec).preRow enc Tryd.prog Tryd.f4 Rows.digestLengthsRow.domain false Rows.digestLengthsRow.laid) (((OpenSpec.ofChange Rows.digestLengthsSpec).at F).post enc Tryd.prog Tryd.f4 false true false false) := by
  obtain ⟨places, hx⟩ : ∃ places, DataW.whole enc Tryd.prog ((laidWorld os).forCall (fun _ _ => 0) ⟨#[], #[.int .i64 0, .int .i64 0], []⟩).memory Tryd.f4.params.toList Rows.digestLengthsSpec.vars false (#[.int .i64 0, .int .i64 0] : Array Value).toList 12 = some ([.lit (.int .i64 0), .lit (.int .i64 0)], [], places) := ⟨[], by kernel_rfl⟩
  refine returnsInHanded_of_row (C := Tryd.checked) (s := OpenSpec.ofChange Rows.digestLengthsSpec) own started (by kernel_rfl) Tryd.func4
    (witness_row_at (enc := enc) (C := Tryd.checked) false (laidWorld os) #[.int .i64 0, .int .i64 0] rfl (by kernel_rfl) (by kernel_rfl) (by kernel_rfl)
      (OpenSpec.preRow_of_cond 12 hx (by kernel_rfl) (fun k hk => by cases hk) (by kernel_rfl) (laidMet_of_run' 8 (by kernel_rfl) (by kernel_rfl)))) ?_
  intro W base args ds gs before hval0 hW _ _ hz hL _ _
  have hval : ∀ (j : Nat) t v, Tryd.f4.params[j]? = some t → args[j]? = some v → Value.okWide Tryd.prog W .any base t v := hval0
  refine law_post (P := Tryd.prog) (tb := 4) rfl rfl ub4 (fun ds' hd => ?_) laidOut ?_ hW ?_
  · rw [Tryd.params4] at hd
    match ds', hd with
    | [_, _], _ => rfl
  · rw [Tryd.params4]
    intro t ht
    simp only [List.mem_cons, List.not_mem_nil, or_false] at ht
    rcases ht with rfl | rfl
    · exact ⟨by kernel_rfl, of_decide_eq_true (by kernel_rfl)⟩
    · exact ⟨by kernel_rfl, of_decide_eq_true (by kernel_rfl)⟩
  · obtain ⟨p, q, hA, _⟩ := hW
    rw [Tryd.params4] at hA hval hz
    obtain ⟨args⟩ := args
    change DataW.TrodAll enc Tryd.prog W 0 (fun _ => true) true [3, 3] args ds p at hA
    obtain ⟨v0, args, d0, ds0, p0, q0, rfl, rfl, rfl, h0, hA⟩ := trodAll_cons hA
    obtain ⟨v1, args, d1, ds1, p1, q1, rfl, rfl, rfl, h1, hA⟩ := trodAll_cons hA
    obtain ⟨rfl, rfl, rfl⟩ := trodAll_nil hA
    obtain ⟨y0, e0, ok0⟩ := (Opens.i64 ui3 (by kernel_rfl)).arg (by rw [ui3]; simp) (by rw [ui3]; simp) (hval 0 3 v0 rfl rfl) h0
    cases e0
    obtain ⟨y1, e1, ok1⟩ := (Opens.i64 ui3 (by kernel_rfl)).arg (by rw [ui3]; simp) (by rw [ui3]; simp) (hval 1 3 v1 rfl rfl) h1
    cases e1
    have hall : ∀ R ∈ ([fun z => ∃ b o, (some ⟨0, 0, none⟩ : Option Addr) = some ⟨b, o, none⟩ ∧ Row z b (o + 0) (Sha.KK.map v32)] : List (Frag → Prop)), R (Frag.of W) := by
      intro R hR
      simp only [List.mem_cons, List.not_mem_nil, or_false] at hR
      rcases hR with rfl
      · exact table_row hL
    exact ⟨_, List.Mem.head _, Sep.start W _ hall, lengths_law (by unfold Tab; exact List.Mem.tail _ (List.Mem.head _)) ok0.1 ok0.2⟩
set_option maxRecDepth 100000 in
theorem digestLengths_said : Rows.DigestLengthsSaid :=
  OpenClaim.holds_of_cond 4 Tryd.f4 rfl rfl rfl rfl rfl rfl rfl ⟨rfl, rfl, rfl, rfl, rfl⟩ rfl rfl rfl rfl rfl (by kernel_rfl) Tryd.func4 (by kernel_rfl)
    (of_decide_eq_true (by kernel_rfl)) (by unfold Func.isWrapper; first | (rw [if_pos (by decide +kernel)]; kernel_rfl) | (rw [if_neg (by decide +kernel)]; exact ⟨rfl, rfl⟩))
    (fun os started H enc _ F => by rw [OpenClaim.pre_eq_preRow]; exact digestLengths_lifted os started H enc F)
set_option maxRecDepth 100000 in
theorem digestLengths_plain (f : FuncId) (fn : Func) (hf : Tryd.pinned.checked.prog.funcNamed "rollbook/rollbooklaw01.DigestLengths" = some f) (hfn : Tryd.pinned.checked.prog.funcs[f]? = some fn) :
    false = Tryd.pinned.checked.prog.looks [] ∧ ∀ (j : Nat) t, fn.params[j]? = some t → Tryd.pinned.checked.prog.wantsStandIn t = false := by
  obtain rfl : f = 4 := Option.some.inj ((show Tryd.prog.funcNamed "rollbook/rollbooklaw01.DigestLengths" = some 4 by kernel_rfl).symm.trans hf) |>.symm
  obtain rfl : fn = Tryd.f4 := (Option.some.inj (Tryd.func4.symm.trans hfn)).symm
  refine ⟨by kernel_rfl, fun j t ht => ?_⟩
  rw [Tryd.params4] at ht
  have hm : t ∈ [3, 3] := by simpa using Array.mem_of_getElem? ht
  have hall : ([3, 3].all fun u => !Tryd.prog.wantsStandIn u) = true := by kernel_rfl
  exact (show Tryd.prog.wantsStandIn t = false by simpa using List.all_eq_true.1 hall t hm)
set_option maxRecDepth 100000 in
theorem digestLengths_holds : Rows.DigestLengthsCardSaid :=
  Claim7.holds_tied_plain_at .later [] _ _ _ _ digestLengths_said (fun _ h => by cases h) (by kernel_rfl) (fun _ h => by cases h) digestLengths_row_tie rfl ⟨rfl, rfl⟩ (by kernel_rfl) rfl digestLengths_plain (by kernel_rfl)
end Go.Proofs.YtbljfilkdhgcnaaDoor
