/- LabelWire: whatever the list of ints, the law 'LabelWire' returns true and leaves the list as it was. No condition. -/
import Derived.Test.YteopejoppdgncaaDoorCardb
import Derived.Test.YteopejoppdgncaaDoorWlaw
namespace Go.Proofs.YteopejoppdgncaaDoor
open Go.Wk Go.Lb Go.ChangeShapes Go.WideShapes Go.ChangeAt Go.RowKit

set_option maxRecDepth 100000 in
theorem labelWire_lifted (os : Os) (started : os.Started) (H : Type) (enc : TypeId × Value → H) (F : Stop.Interp) :
    ReturnsInHanded {} Tryd.checked os 11 .any ((OpenSpec.ofChange Rows.labelWireSpec).preRow enc Tryd.prog Tryd.f11 Rows.labelWireRow.domain false Rows.labelWireRow.laid) (((OpenSpec.ofChange Rows.labelWireSpec).at F).post enc Tryd.prog Tryd.f11 false true false false) := by
  obtain ⟨places, hx⟩ : ∃ places, DataW.whole enc Tryd.prog ((laidWorld os).forCall (fun _ _ => 0) ⟨#[], #[.slice none 0 0], []⟩).memory Tryd.f11.params.toList Rows.labelWireSpec.vars false (#[.slice none 0 0] : Array Value).toList 12 = some ([.nil], [], places) := ⟨[], by kernel_rfl⟩
  refine returnsInHanded_of_row (C := Tryd.checked) (s := OpenSpec.ofChange Rows.labelWireSpec) own started krX Tryd.func11
    (witness_row_at (enc := enc) (C := Tryd.checked) false (laidWorld os) #[.slice none 0 0] rfl krX krX krX
      (OpenSpec.preRow_of_cond 12 hx krX (fun k hk => by cases hk) krX (laidMet_of_run' 8 krX krX))) ?_
  intro W base args ds gs before hval0 hW _ _ hz hL _ _
  have hval : ∀ (j : Nat) t v, Tryd.f11.params[j]? = some t → args[j]? = some v → Value.okWide Tryd.prog W .any base t v := hval0
  refine law_post (P := Tryd.prog) (tb := 4) rfl rfl ub4 (fun ds' hd => ?_) laidOut ?_ hW ?_
  · rw [Tryd.params11] at hd
    match ds', hd with
    | [_], _ => rfl
  · rw [Tryd.params11]
    intro t ht
    simp only [List.mem_cons, List.not_mem_nil, or_false] at ht
    rcases ht with rfl
    · exact ⟨by kernel_rfl, of_decide_eq_true krX⟩
  · obtain ⟨p, q, hA, _⟩ := hW
    rw [Tryd.params11] at hA hval hz
    obtain ⟨args⟩ := args
    change DataW.TrodAll enc Tryd.prog W 0 (fun _ => true) true [44] args ds p at hA
    obtain ⟨v0, args, d0, ds0, p0, q0, rfl, rfl, rfl, h0, hA⟩ := trodAll_cons hA
    obtain ⟨rfl, rfl, rfl⟩ := trodAll_nil hA
    obtain ⟨y0, a0, m0, c0, e0, s0⟩ := (Opens.slice el44.under krX (Opens.i64 ui3 krX) (by decide)).arg (by rw [el44.under]; simp) (by rw [el44.under]; simp) (hval 0 44 v0 rfl rfl) h0
    cases e0
    have hall : ∀ R ∈ ([fun z => ∃ T fr, z 0 = some (.cells pows.toArray T fr), SlP RI a0 m0 c0 y0] : List (Frag → Prop)), R (Frag.of W) := by
      intro R hR
      simp only [List.mem_cons, List.not_mem_nil, or_false] at hR
      rcases hR with rfl | rfl
      · exact table_row hL
      · exact s0
    exact ⟨_, List.Mem.head _, Sep.start W _ hall, wire_law memX (List.Mem.tail _ (List.Mem.head _))⟩
set_option maxRecDepth 100000 in
theorem labelWire_said : Rows.LabelWireSaid :=
  OpenClaim.holds_of_cond 11 Tryd.f11 rfl rfl rfl rfl rfl rfl rfl ⟨rfl, rfl, rfl, rfl, rfl⟩ rfl rfl rfl rfl rfl krX Tryd.func11 krX
    (of_decide_eq_true krX) (by unfold Func.isWrapper; first | (rw [if_pos (by decide +kernel)]; kernel_rfl) | (rw [if_neg (by decide +kernel)]; exact ⟨rfl, rfl⟩))
    (fun os started H enc _ F => by rw [OpenClaim.pre_eq_preRow]; exact labelWire_lifted os started H enc F)
set_option maxRecDepth 100000 in
theorem labelWire_plain (f : FuncId) (fn : Func) (hf : Tryd.pinned.checked.prog.funcNamed "rollbook/rollbooklaw24.LabelWire" = some f) (hfn : Tryd.pinned.checked.prog.funcs[f]? = some fn) :
    false = Tryd.pinned.checked.prog.looks [] ∧ ∀ (j : Nat) t, fn.params[j]? = some t → Tryd.pinned.checked.prog.wantsStandIn t = false := by
  obtain rfl : f = 11 := Option.some.inj ((show Tryd.prog.funcNamed "rollbook/rollbooklaw24.LabelWire" = some 11 by kernel_rfl).symm.trans hf) |>.symm
  obtain rfl : fn = Tryd.f11 := (Option.some.inj (Tryd.func11.symm.trans hfn)).symm
  refine ⟨by kernel_rfl, fun j t ht => ?_⟩
  rw [Tryd.params11] at ht
  have hm : t ∈ [44] := by simpa using Array.mem_of_getElem? ht
  have hall : ([44].all fun u => !Tryd.prog.wantsStandIn u) = true := by kernel_rfl
  exact (show Tryd.prog.wantsStandIn t = false by simpa using List.all_eq_true.1 hall t hm)
set_option maxRecDepth 100000 in
theorem labelWire_holds : Rows.LabelWireCardSaid :=
  Claim7.holds_tied_plain_at .later [] _ _ _ _ labelWire_said (fun _ h => by cases h) krX (fun _ h => by cases h) labelWire_row_tie rfl ⟨rfl, rfl⟩ krX rfl labelWire_plain krX
end Go.Proofs.YteopejoppdgncaaDoor
