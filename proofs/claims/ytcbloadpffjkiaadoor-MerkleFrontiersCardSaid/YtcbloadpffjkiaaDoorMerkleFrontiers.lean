/- MerkleFrontiers: whatever the byte slices, the law 'MerkleFrontiers' returns true and leaves them as they were. No condition. -/
import Derived.Test.YtcbloadpffjkiaaDoorCardb
import Derived.Test.YtcbloadpffjkiaaDoorLfront
import Derived.Test.YtcbloadpffjkiaaDoorMEach
namespace Go.Proofs.YtcbloadpffjkiaaDoor
open Go.Wk Go.ChangeShapes Go.WideShapes Go.ChangeAt Go.RowKit Go.Sha

set_option maxRecDepth 100000 in
theorem merkleFrontiers_lifted (os : Os) (started : os.Started) (H : Type) (enc : TypeId × Value → H) (F : Stop.Interp) :
    ReturnsInHanded {} Tryd.checked os 6 .any ((OpenSpec.ofChange Rows.merkleFrontiersSpec).preRow enc Tryd.prog Tryd.f6 Rows.merkleFrontiersRow.domain false Rows.merkleFrontiersRow.laid) (((OpenSpec.ofChange Rows.merkleFrontiersSpec).at F).post enc Tryd.prog Tryd.f6 false true false false) := by
  obtain ⟨places, hx⟩ : ∃ places, DataW.whole enc Tryd.prog ((laidWorld os).forCall (fun _ _ => 0) ⟨#[], #[.slice none 0 0], []⟩).memory Tryd.f6.params.toList Rows.merkleFrontiersSpec.vars false (#[.slice none 0 0] : Array Value).toList 12 = some ([.nil], [], places) := ⟨[], by kernel_rfl⟩
  refine returnsInHanded_of_row (C := Tryd.checked) (s := OpenSpec.ofChange Rows.merkleFrontiersSpec) own started krX Tryd.func6
    (witness_row_at (enc := enc) (C := Tryd.checked) false (laidWorld os) #[.slice none 0 0] rfl krX krX krX
      (OpenSpec.preRow_of_cond 12 hx krX (fun k hk => by cases hk) krX (laidMet_of_run' 8 krX krX))) ?_
  intro W base args ds gs before hval0 hW _ _ hz hL _ _
  have hval : ∀ (j : Nat) t v, Tryd.f6.params[j]? = some t → args[j]? = some v → Value.okWide Tryd.prog W .any base t v := hval0
  refine law_post (P := Tryd.prog) (tb := 4) rfl rfl ub4 (fun ds' hd => ?_) laidOut ?_ hW ?_
  · rw [Tryd.params6] at hd
    match ds', hd with
    | [_], _ => rfl
  · rw [Tryd.params6]
    intro t ht
    simp only [List.mem_cons, List.not_mem_nil, or_false] at ht
    rcases ht with rfl
    · exact ⟨by kernel_rfl, of_decide_eq_true krX⟩
  · obtain ⟨p, q, hA, _⟩ := hW
    rw [Tryd.params6] at hA hval hz
    obtain ⟨args⟩ := args
    change DataW.TrodAll enc Tryd.prog W 0 (fun _ => true) true [36] args ds p at hA
    obtain ⟨v0, args, d0, ds0, p0, q0, rfl, rfl, rfl, h0, hA⟩ := trodAll_cons hA
    obtain ⟨rfl, rfl, rfl⟩ := trodAll_nil hA
    obtain ⟨y0, a0, m0, c0, e0, s0, hb0⟩ := arg_each hz (j := 0) rfl rfl el36.under el62.under krX krX (Opens.slice el62.under krX (Opens.u8 ui5 krX) (by decide)) (hval 0 36 v0 rfl rfl) h0
    cases e0
    have hall : ∀ R ∈ ([fun z => ∃ b o, (some ⟨0, 0, none⟩ : Option Addr) = some ⟨b, o, none⟩ ∧ Row z b (o + 0) (Sha.KK.map v32), SlP (Rep.slice R8) a0 m0 c0 y0] : List (Frag → Prop)), R (Frag.of W) := by
      intro R hR
      simp only [List.mem_cons, List.not_mem_nil, or_false] at hR
      rcases hR with rfl | rfl
      · exact table_row hL
      · exact s0
    exact ⟨_, List.Mem.head _, Sep.start W _ hall, frontiers_law memX (fun x hx => Nat.le_trans (hb0 x hx) (by decide)) (by unfold Tab; repeat (first | exact List.Mem.head _ | apply List.Mem.tail))⟩
set_option maxRecDepth 100000 in
theorem merkleFrontiers_said : Rows.MerkleFrontiersSaid :=
  OpenClaim.holds_of_cond 6 Tryd.f6 rfl rfl rfl rfl rfl rfl rfl ⟨rfl, rfl, rfl, rfl, rfl⟩ rfl rfl rfl rfl rfl krX Tryd.func6 krX
    (of_decide_eq_true krX) (by unfold Func.isWrapper; first | (rw [if_pos (by decide +kernel)]; kernel_rfl) | (rw [if_neg (by decide +kernel)]; exact ⟨rfl, rfl⟩))
    (fun os started H enc _ F => by rw [OpenClaim.pre_eq_preRow]; exact merkleFrontiers_lifted os started H enc F)
set_option maxRecDepth 100000 in
theorem merkleFrontiers_plain (f : FuncId) (fn : Func) (hf : Tryd.pinned.checked.prog.funcNamed "rollbook/rollbooklaw07.MerkleFrontiers" = some f) (hfn : Tryd.pinned.checked.prog.funcs[f]? = some fn) :
    false = Tryd.pinned.checked.prog.looks [] ∧ ∀ (j : Nat) t, fn.params[j]? = some t → Tryd.pinned.checked.prog.wantsStandIn t = false := by
  obtain rfl : f = 6 := Option.some.inj ((show Tryd.prog.funcNamed "rollbook/rollbooklaw07.MerkleFrontiers" = some 6 by kernel_rfl).symm.trans hf) |>.symm
  obtain rfl : fn = Tryd.f6 := (Option.some.inj (Tryd.func6.symm.trans hfn)).symm
  refine ⟨by kernel_rfl, fun j t ht => ?_⟩
  rw [Tryd.params6] at ht
  have hm : t ∈ [36] := by simpa using Array.mem_of_getElem? ht
  have hall : ([36].all fun u => !Tryd.prog.wantsStandIn u) = true := by kernel_rfl
  exact (show Tryd.prog.wantsStandIn t = false by simpa using List.all_eq_true.1 hall t hm)
set_option maxRecDepth 100000 in
theorem merkleFrontiers_holds : Rows.MerkleFrontiersCardSaid :=
  Claim7.holds_tied_plain_at .later [] _ _ _ _ merkleFrontiers_said (fun _ h => by cases h) krX (fun _ h => by cases h) merkleFrontiers_row_tie rfl ⟨rfl, rfl⟩ krX rfl merkleFrontiers_plain krX
end Go.Proofs.YtcbloadpffjkiaaDoor
