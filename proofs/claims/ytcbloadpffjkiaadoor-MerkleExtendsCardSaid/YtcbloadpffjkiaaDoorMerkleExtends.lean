/- MerkleExtends: whatever the arguments, the law 'MerkleExtends' returns true and leaves them as they were. No condition. -/
import Derived.Test.YtcbloadpffjkiaaDoorCardb
import Derived.Test.YtcbloadpffjkiaaDoorLext
import Derived.Test.YtcbloadpffjkiaaDoorMopen
namespace Go.Proofs.YtcbloadpffjkiaaDoor
open Go.Wk Go.ChangeShapes Go.WideShapes Go.ChangeAt Go.RowKit Go.Sha

set_option maxRecDepth 100000 in
theorem merkleExtends_lifted (os : Os) (started : os.Started) (H : Type) (enc : TypeId × Value → H) (F : Stop.Interp) :
    ReturnsInHanded {} Tryd.checked os 9 .any ((OpenSpec.ofChange Rows.merkleExtendsSpec).preRow enc Tryd.prog Tryd.f9 Rows.merkleExtendsRow.domain false Rows.merkleExtendsRow.laid) (((OpenSpec.ofChange Rows.merkleExtendsSpec).at F).post enc Tryd.prog Tryd.f9 false true false false) := by
  obtain ⟨places, hx⟩ : ∃ places, DataW.whole enc Tryd.prog ((laidWorld os).forCall (fun _ _ => 0) ⟨#[], #[.agg #[.int .u8 0, .int .u8 0, .int .u8 0, .int .u8 0, .int .u8 0, .int .u8 0, .int .u8 0, .int .u8 0, .int .u8 0, .int .u8 0, .int .u8 0, .int .u8 0, .int .u8 0, .int .u8 0, .int .u8 0, .int .u8 0, .int .u8 0, .int .u8 0, .int .u8 0, .int .u8 0, .int .u8 0, .int .u8 0, .int .u8 0, .int .u8 0, .int .u8 0, .int .u8 0, .int .u8 0, .int .u8 0, .int .u8 0, .int .u8 0, .int .u8 0, .int .u8 0], .int .i64 0, .agg #[.int .u8 0, .int .u8 0, .int .u8 0, .int .u8 0, .int .u8 0, .int .u8 0, .int .u8 0, .int .u8 0, .int .u8 0, .int .u8 0, .int .u8 0, .int .u8 0, .int .u8 0, .int .u8 0, .int .u8 0, .int .u8 0, .int .u8 0, .int .u8 0, .int .u8 0, .int .u8 0, .int .u8 0, .int .u8 0, .int .u8 0, .int .u8 0, .int .u8 0, .int .u8 0, .int .u8 0, .int .u8 0, .int .u8 0, .int .u8 0, .int .u8 0, .int .u8 0], .int .i64 0, .slice none 0 0, .agg (List.replicate 3 (Value.int .i64 0) ++ List.replicate 32 (Value.int .u8 0) : List Value).toArray], []⟩).memory Tryd.f9.params.toList Rows.merkleExtendsSpec.vars false (#[.agg #[.int .u8 0, .int .u8 0, .int .u8 0, .int .u8 0, .int .u8 0, .int .u8 0, .int .u8 0, .int .u8 0, .int .u8 0, .int .u8 0, .int .u8 0, .int .u8 0, .int .u8 0, .int .u8 0, .int .u8 0, .int .u8 0, .int .u8 0, .int .u8 0, .int .u8 0, .int .u8 0, .int .u8 0, .int .u8 0, .int .u8 0, .int .u8 0, .int .u8 0, .int .u8 0, .int .u8 0, .int .u8 0, .int .u8 0, .int .u8 0, .int .u8 0, .int .u8 0], .int .i64 0, .agg #[.int .u8 0, .int .u8 0, .int .u8 0, .int .u8 0, .int .u8 0, .int .u8 0, .int .u8 0, .int .u8 0, .int .u8 0, .int .u8 0, .int .u8 0, .int .u8 0, .int .u8 0, .int .u8 0, .int .u8 0, .int .u8 0, .int .u8 0, .int .u8 0, .int .u8 0, .int .u8 0, .int .u8 0, .int .u8 0, .int .u8 0, .int .u8 0, .int .u8 0, .int .u8 0, .int .u8 0, .int .u8 0, .int .u8 0, .int .u8 0, .int .u8 0, .int .u8 0], .int .i64 0, .slice none 0 0, .agg (List.replicate 3 (Value.int .i64 0) ++ List.replicate 32 (Value.int .u8 0) : List Value).toArray] : Array Value).toList 12 = some ([.agg (List.replicate 32 (.lit (.int .u8 0))), .lit (.int .i64 0), .agg (List.replicate 32 (.lit (.int .u8 0))), .lit (.int .i64 0), .nil, .agg [.lit (.int .i64 0), .lit (.int .i64 0), .lit (.int .i64 0), .agg (List.replicate 32 (.lit (.int .u8 0)))]], [], places) := ⟨[], by kernel_rfl⟩
  refine returnsInHanded_of_row (C := Tryd.checked) (s := OpenSpec.ofChange Rows.merkleExtendsSpec) own started krX Tryd.func9
    (witness_row_at (enc := enc) (C := Tryd.checked) false (laidWorld os) #[.agg #[.int .u8 0, .int .u8 0, .int .u8 0, .int .u8 0, .int .u8 0, .int .u8 0, .int .u8 0, .int .u8 0, .int .u8 0, .int .u8 0, .int .u8 0, .int .u8 0, .int .u8 0, .int .u8 0, .int .u8 0, .int .u8 0, .int .u8 0, .int .u8 0, .int .u8 0, .int .u8 0, .int .u8 0, .int .u8 0, .int .u8 0, .int .u8 0, .int .u8 0, .int .u8 0, .int .u8 0, .int .u8 0, .int .u8 0, .int .u8 0, .int .u8 0, .int .u8 0], .int .i64 0, .agg #[.int .u8 0, .int .u8 0, .int .u8 0, .int .u8 0, .int .u8 0, .int .u8 0, .int .u8 0, .int .u8 0, .int .u8 0, .int .u8 0, .int .u8 0, .int .u8 0, .int .u8 0, .int .u8 0, .int .u8 0, .int .u8 0, .int .u8 0, .int .u8 0, .int .u8 0, .int .u8 0, .int .u8 0, .int .u8 0, .int .u8 0, .int .u8 0, .int .u8 0, .int .u8 0, .int .u8 0, .int .u8 0, .int .u8 0, .int .u8 0, .int .u8 0, .int .u8 0], .int .i64 0, .slice none 0 0, .agg (List.replicate 3 (Value.int .i64 0) ++ List.replicate 32 (Value.int .u8 0) : List Value).toArray] rfl krX krX krX
      (OpenSpec.preRow_of_cond 12 hx krX (fun k hk => by cases hk) krX (laidMet_of_run' 8 krX krX))) ?_
  intro W base args ds gs before hval0 hW _ _ hz hL _ _
  have hval : ∀ (j : Nat) t v, Tryd.f9.params[j]? = some t → args[j]? = some v → Value.okWide Tryd.prog W .any base t v := hval0
  refine law_post (P := Tryd.prog) (tb := 4) rfl rfl ub4 (fun ds' hd => ?_) laidOut ?_ hW ?_
  · rw [Tryd.params9] at hd
    match ds', hd with
    | [_, _, _, _, _, _], _ => rfl
  · rw [Tryd.params9]
    intro t ht
    simp only [List.mem_cons, List.not_mem_nil, or_false] at ht
    rcases ht with rfl | rfl | rfl | rfl | rfl | rfl
    · exact ⟨by kernel_rfl, of_decide_eq_true krX⟩
    · exact ⟨by kernel_rfl, of_decide_eq_true krX⟩
    · exact ⟨by kernel_rfl, of_decide_eq_true krX⟩
    · exact ⟨by kernel_rfl, of_decide_eq_true krX⟩
    · exact ⟨by kernel_rfl, of_decide_eq_true krX⟩
    · exact ⟨by kernel_rfl, of_decide_eq_true krX⟩
  · obtain ⟨p, q, hA, _⟩ := hW
    rw [Tryd.params9] at hA hval hz
    obtain ⟨args⟩ := args
    change DataW.TrodAll enc Tryd.prog W 0 (fun _ => true) true [25, 3, 25, 3, 22, 46] args ds p at hA
    obtain ⟨v0, args, d0, ds0, p0, q0, rfl, rfl, rfl, h0, hA⟩ := trodAll_cons hA
    obtain ⟨v1, args, d1, ds1, p1, q1, rfl, rfl, rfl, h1, hA⟩ := trodAll_cons hA
    obtain ⟨v2, args, d2, ds2, p2, q2, rfl, rfl, rfl, h2, hA⟩ := trodAll_cons hA
    obtain ⟨v3, args, d3, ds3, p3, q3, rfl, rfl, rfl, h3, hA⟩ := trodAll_cons hA
    obtain ⟨v4, args, d4, ds4, p4, q4, rfl, rfl, rfl, h4, hA⟩ := trodAll_cons hA
    obtain ⟨v5, args, d5, ds5, p5, q5, rfl, rfl, rfl, h5, hA⟩ := trodAll_cons hA
    obtain ⟨rfl, rfl, rfl⟩ := trodAll_nil hA
    obtain ⟨us0, y0, rfl, ⟨rfl, hl0⟩⟩ := opensHash.argA Tryd.underlying25 (hval 0 25 v0 rfl rfl) h0
    obtain ⟨y1, e1, ok1⟩ := (Opens.i64 ui3 krX).arg (by rw [ui3]; simp) (by rw [ui3]; simp) (hval 1 3 v1 rfl rfl) h1
    cases e1
    obtain ⟨us2, y2, rfl, ⟨rfl, hl2⟩⟩ := opensHash.argA Tryd.underlying25 (hval 2 25 v2 rfl rfl) h2
    obtain ⟨y3, e3, ok3⟩ := (Opens.i64 ui3 krX).arg (by rw [ui3]; simp) (by rw [ui3]; simp) (hval 3 3 v3 rfl rfl) h3
    cases e3
    obtain ⟨y4, a4, m4, c4, e4, s4⟩ := (Opens.slice el22.under krX opensHash (by decide)).arg (by rw [el22.under]; simp) (by rw [el22.under]; simp) (hval 4 22 v4 rfl rfl) h4
    cases e4
    obtain ⟨us5, y5, rfl, ⟨rfl, kw5, ka5, kb5, kh5⟩⟩ := opensSpoil.argS Tryd.underlying46 (hval 5 46 v5 rfl rfl) h5
    have hall : ∀ R ∈ ([fun z => ∃ b o, (some ⟨0, 0, none⟩ : Option Addr) = some ⟨b, o, none⟩ ∧ Row z b (o + 0) (Sha.KK.map v32), SlP (RArr8 32) a4 m4 c4 y4] : List (Frag → Prop)), R (Frag.of W) := by
      intro R hR
      simp only [List.mem_cons, List.not_mem_nil, or_false] at hR
      rcases hR with rfl | rfl
      · exact table_row hL
      · exact s4
    exact ⟨_, List.Mem.head _, Sep.start W _ hall, extends_law memX hl0 hl2 ok3 ok1 kw5 ka5 kb5 kh5 (by unfold Tab; repeat (first | exact List.Mem.head _ | apply List.Mem.tail))⟩
set_option maxRecDepth 100000 in
theorem merkleExtends_said : Rows.MerkleExtendsSaid :=
  OpenClaim.holds_of_cond 9 Tryd.f9 rfl rfl rfl rfl rfl rfl rfl ⟨rfl, rfl, rfl, rfl, rfl⟩ rfl rfl rfl rfl rfl krX Tryd.func9 krX
    (of_decide_eq_true krX) (by unfold Func.isWrapper; first | (rw [if_pos (by decide +kernel)]; kernel_rfl) | (rw [if_neg (by decide +kernel)]; exact ⟨rfl, rfl⟩))
    (fun os started H enc _ F => by rw [OpenClaim.pre_eq_preRow]; exact merkleExtends_lifted os started H enc F)
set_option maxRecDepth 100000 in
theorem merkleExtends_plain (f : FuncId) (fn : Func) (hf : Tryd.pinned.checked.prog.funcNamed "rollbook/rollbooklaw07.MerkleExtends" = some f) (hfn : Tryd.pinned.checked.prog.funcs[f]? = some fn) :
    false = Tryd.pinned.checked.prog.looks [] ∧ ∀ (j : Nat) t, fn.params[j]? = some t → Tryd.pinned.checked.prog.wantsStandIn t = false := by
  obtain rfl : f = 9 := Option.some.inj ((show Tryd.prog.funcNamed "rollbook/rollbooklaw07.MerkleExtends" = some 9 by kernel_rfl).symm.trans hf) |>.symm
  obtain rfl : fn = Tryd.f9 := (Option.some.inj (Tryd.func9.symm.trans hfn)).symm
  refine ⟨by kernel_rfl, fun j t ht => ?_⟩
  rw [Tryd.params9] at ht
  have hm : t ∈ [25, 3, 25, 3, 22, 46] := by simpa using Array.mem_of_getElem? ht
  have hall : ([25, 3, 25, 3, 22, 46].all fun u => !Tryd.prog.wantsStandIn u) = true := by kernel_rfl
  exact (show Tryd.prog.wantsStandIn t = false by simpa using List.all_eq_true.1 hall t hm)
set_option maxRecDepth 100000 in
theorem merkleExtends_holds : Rows.MerkleExtendsCardSaid :=
  Claim7.holds_tied_plain_at .later [] _ _ _ _ merkleExtends_said (fun _ h => by cases h) krX (fun _ h => by cases h) merkleExtends_row_tie rfl ⟨rfl, rfl⟩ krX rfl merkleExtends_plain krX
end Go.Proofs.YtcbloadpffjkiaaDoor
