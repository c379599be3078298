/- MerkleLogs: whatever the byte slices, the Bools, the int and the ints, the law 'MerkleLogs' returns true and leaves its arguments as they were. No condition. -/
import Derived.Test.YtcbloadpffjkiaaDoorZCardb
import Derived.Test.YtcbloadpffjkiaaDoorZLmlog
namespace Go.Proofs.YtcbloadpffjkiaaDoor
open Go.Wk Go.ChangeShapes Go.WideShapes Go.ChangeAt Go.RowKit Go.Sha

set_option maxRecDepth 100000 in
theorem merkleLogs_lifted (os : Os) (started : os.Started) (H : Type) (enc : TypeId × Value → H) (F : Stop.Interp) :
    ReturnsInHanded {} Tryd.checked os 11 .any ((OpenSpec.ofChange Rows.merkleLogsSpec).preRow enc Tryd.prog Tryd.f11 Rows.merkleLogsRow.domain false Rows.merkleLogsRow.laid) (((OpenSpec.ofChange Rows.merkleLogsSpec).at F).post enc Tryd.prog Tryd.f11 false true false false) := by
  obtain ⟨places, hx⟩ : ∃ places, DataW.whole enc Tryd.prog ((laidWorld os).forCall (fun _ _ => 0) ⟨#[], #[.slice none 0 0, .slice none 0 0, .int .i64 0, .slice none 0 0], []⟩).memory Tryd.f11.params.toList Rows.merkleLogsSpec.vars false (#[.slice none 0 0, .slice none 0 0, .int .i64 0, .slice none 0 0] : Array Value).toList 12 = some ([.nil, .nil, .lit (.int .i64 0), .nil], [], places) := ⟨[], by kernel_rfl⟩
  refine returnsInHanded_of_row (C := Tryd.checked) (s := OpenSpec.ofChange Rows.merkleLogsSpec) own started krX Tryd.func11
    (witness_row_at (enc := enc) (C := Tryd.checked) false (laidWorld os) #[.slice none 0 0, .slice none 0 0, .int .i64 0, .slice none 0 0] rfl krX krX krX
      (OpenSpec.preRow_of_cond 12 hx krX (fun k hk => by cases hk) krX (laidMet_of_run' 8 krX krX))) ?_
  intro W base args ds gs before hval0 hW _ _ hz hL _ _
  have hval : ∀ (j : Nat) t v, Tryd.f11.params[j]? = some t → args[j]? = some v → Value.okWide Tryd.prog W .any base t v := hval0
  refine law_post (P := Tryd.prog) (tb := 4) rfl rfl ub4 (fun ds' hd => ?_) laidOut ?_ hW ?_
  · rw [Tryd.params11] at hd
    match ds', hd with
    | [_, _, _, _], _ => rfl
  · rw [Tryd.params11]
    intro t ht
    simp only [List.mem_cons, List.not_mem_nil, or_false] at ht
    rcases ht with rfl | rfl | rfl | rfl
    · exact ⟨by kernel_rfl, of_decide_eq_true krX⟩
    · exact ⟨by kernel_rfl, of_decide_eq_true krX⟩
    · exact ⟨by kernel_rfl, of_decide_eq_true krX⟩
    · exact ⟨by kernel_rfl, of_decide_eq_true krX⟩
  · obtain ⟨p, q, hA, _⟩ := hW
    rw [Tryd.params11] at hA hval hz
    obtain ⟨args⟩ := args
    change DataW.TrodAll enc Tryd.prog W 0 (fun _ => true) true [36, 54, 3, 30] args ds p at hA
    obtain ⟨v0, args, d0, ds0, p0, q0, rfl, rfl, rfl, h0, hA⟩ := trodAll_cons hA
    obtain ⟨v1, args, d1, ds1, p1, q1, rfl, rfl, rfl, h1, hA⟩ := trodAll_cons hA
    obtain ⟨v2, args, d2, ds2, p2, q2, rfl, rfl, rfl, h2, hA⟩ := trodAll_cons hA
    obtain ⟨v3, args, d3, ds3, p3, q3, rfl, rfl, rfl, h3, hA⟩ := trodAll_cons hA
    obtain ⟨rfl, rfl, rfl⟩ := trodAll_nil hA
    obtain ⟨y0, a0, m0, c0, e0, s0⟩ := (Opens.slice el36.under krX (Opens.slice el62.under krX (Opens.u8 ui5 krX) (by decide)) (by decide)).arg (by rw [el36.under]; simp) (by rw [el36.under]; simp) (hval 0 36 v0 rfl rfl) h0
    cases e0
    obtain ⟨y1, a1, m1, c1, e1, s1⟩ := (Opens.slice el54.under krX (Opens.bool ub4 krX) (by decide)).arg (by rw [el54.under]; simp) (by rw [el54.under]; simp) (hval 1 54 v1 rfl rfl) h1
    cases e1
    obtain ⟨y2, e2, ok2⟩ := (Opens.i64 ui3 krX).arg (by rw [ui3]; simp) (by rw [ui3]; simp) (hval 2 3 v2 rfl rfl) h2
    cases e2
    obtain ⟨y3, a3, m3, c3, e3, s3⟩ := (Opens.slice el30.under krX (Opens.i64 ui3 krX) (by decide)).arg (by rw [el30.under]; simp) (by rw [el30.under]; simp) (hval 3 30 v3 rfl rfl) h3
    cases e3
    have hall : ∀ R ∈ ([fun z => ∃ b o, (some ⟨0, 0, none⟩ : Option Addr) = some ⟨b, o, none⟩ ∧ Row z b (o + 0) (Sha.KK.map v32), SlP (Rep.slice R8) a0 m0 c0 y0, SlP RB a1 m1 c1 y1, SlP RI a3 m3 c3 y3] : List (Frag → Prop)), R (Frag.of W) := by
      intro R hR
      simp only [List.mem_cons, List.not_mem_nil, or_false] at hR
      rcases hR with rfl | rfl | rfl | rfl
      · exact table_row hL
      · exact s0
      · exact s1
      · exact s3
    exact ⟨_, List.Mem.head _, Sep.start W _ hall, logs_law ok2 memX memX memX (by unfold Tab; repeat (first | exact List.Mem.head _ | apply List.Mem.tail))⟩
set_option maxRecDepth 100000 in
theorem merkleLogs_said : Rows.MerkleLogsSaid :=
  OpenClaim.holds_of_cond 11 Tryd.f11 rfl rfl rfl rfl rfl rfl rfl ⟨rfl, rfl, rfl, rfl, rfl⟩ rfl rfl rfl rfl rfl krX Tryd.func11 krX
    (of_decide_eq_true krX) (by unfold Func.isWrapper; first | (rw [if_pos (by decide +kernel)]; kernel_rfl) | (rw [if_neg (by decide +kernel)]; exact ⟨rfl, rfl⟩))
    (fun os started H enc _ F => by rw [OpenClaim.pre_eq_preRow]; exact merkleLogs_lifted os started H enc F)
set_option maxRecDepth 100000 in
theorem merkleLogs_plain (f : FuncId) (fn : Func) (hf : Tryd.pinned.checked.prog.funcNamed "rollbook/rollbooklaw07.MerkleLogs" = some f) (hfn : Tryd.pinned.checked.prog.funcs[f]? = some fn) :
    false = Tryd.pinned.checked.prog.looks [] ∧ ∀ (j : Nat) t, fn.params[j]? = some t → Tryd.pinned.checked.prog.wantsStandIn t = false := by
  obtain rfl : f = 11 := Option.some.inj ((show Tryd.prog.funcNamed "rollbook/rollbooklaw07.MerkleLogs" = some 11 by kernel_rfl).symm.trans hf) |>.symm
  obtain rfl : fn = Tryd.f11 := (Option.some.inj (Tryd.func11.symm.trans hfn)).symm
  refine ⟨by kernel_rfl, fun j t ht => ?_⟩
  rw [Tryd.params11] at ht
  have hm : t ∈ [36, 54, 3, 30] := by simpa using Array.mem_of_getElem? ht
  have hall : ([36, 54, 3, 30].all fun u => !Tryd.prog.wantsStandIn u) = true := by kernel_rfl
  exact (show Tryd.prog.wantsStandIn t = false by simpa using List.all_eq_true.1 hall t hm)
set_option maxRecDepth 100000 in
theorem merkleLogs_holds : Rows.MerkleLogsCardSaid :=
  Claim7.holds_tied_plain_at .later [] _ _ _ _ merkleLogs_said (fun _ h => by cases h) krX (fun _ h => by cases h) merkleLogs_row_tie rfl ⟨rfl, rfl⟩ krX rfl merkleLogs_plain krX
end Go.Proofs.YtcbloadpffjkiaaDoor
