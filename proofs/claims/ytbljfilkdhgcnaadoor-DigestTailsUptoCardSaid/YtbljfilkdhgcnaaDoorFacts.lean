/- The closed facts of the tables of this translation, each by the kernel. Printed by a program. -/
import Derived.Test.YtbljfilkdhgcnaaDoorRows
import Derived.Test.YtbljfilkdhgcnaaDoorZeros
namespace Go.Proofs.YtbljfilkdhgcnaaDoor
open Go.Wk

theorem wide : Tryd.prog.follows .mixedOrders = true := by kernel_rfl
theorem on2 : One Tryd.prog 2 := one_of (by kernel_rfl)
theorem sz2 : ∃ ti, Tryd.prog.info? 2 = some ti ∧ ti.size = 1 := size_of (by kernel_rfl)
theorem ui2 : Tryd.prog.underlying 2 = some (.int .i64) := by kernel_rfl
theorem ze2 : Zero Tryd.prog 2 [.int .i64 0] := zero_of (by kernel_rfl)
theorem on3 : One Tryd.prog 3 := one_of (by kernel_rfl)
theorem sz3 : ∃ ti, Tryd.prog.info? 3 = some ti ∧ ti.size = 1 := size_of (by kernel_rfl)
theorem ui3 : Tryd.prog.underlying 3 = some (.int .i64) := by kernel_rfl
theorem ze3 : Zero Tryd.prog 3 [.int .i64 0] := zero_of (by kernel_rfl)
theorem on4 : One Tryd.prog 4 := one_of (by kernel_rfl)
theorem sz4 : ∃ ti, Tryd.prog.info? 4 = some ti ∧ ti.size = 1 := size_of (by kernel_rfl)
theorem ub4 : Tryd.prog.underlying 4 = some .bool := by kernel_rfl
theorem ze4 : Zero Tryd.prog 4 [.bool false] := zero_of (by kernel_rfl)
theorem on5 : One Tryd.prog 5 := one_of (by kernel_rfl)
theorem sz5 : ∃ ti, Tryd.prog.info? 5 = some ti ∧ ti.size = 1 := size_of (by kernel_rfl)
theorem ui5 : Tryd.prog.underlying 5 = some (.int .u8) := by kernel_rfl
theorem ze5 : Zero Tryd.prog 5 [.int .u8 0] := zero_of (by kernel_rfl)
theorem on6 : One Tryd.prog 6 := one_of (by kernel_rfl)
theorem sz6 : ∃ ti, Tryd.prog.info? 6 = some ti ∧ ti.size = 1 := size_of (by kernel_rfl)
theorem ui6 : Tryd.prog.underlying 6 = some (.int .u8) := by kernel_rfl
theorem ze6 : Zero Tryd.prog 6 [.int .u8 0] := zero_of (by kernel_rfl)
theorem ag7 : Agg Tryd.prog 7 4 := agg_of (by kernel_rfl)
theorem sz7 : ∃ ti, Tryd.prog.info? 7 = some ti ∧ ti.size = 4 := size_of (by kernel_rfl)
theorem ze7 : Zero Tryd.prog 7 [.int .i64 0, .int .i64 0, .bool false, .int .u8 0] := zero_of (by kernel_rfl)
theorem bs7 : BuildS Tryd.prog 7 [.int .i64 0, .int .i64 0, .bool false, .int .u8 0] [(0, 1), (1, 1), (2, 1), (3, 1)] := ⟨ze7, _, Tryd.underlying7, fun _ => by kernel_rfl⟩
theorem fo7_0 : FieldOff Tryd.prog 7 0 0 := fieldOff_of (by kernel_rfl)
theorem fo7_1 : FieldOff Tryd.prog 7 1 1 := fieldOff_of (by kernel_rfl)
theorem fo7_2 : FieldOff Tryd.prog 7 2 2 := fieldOff_of (by kernel_rfl)
theorem fo7_3 : FieldOff Tryd.prog 7 3 3 := fieldOff_of (by kernel_rfl)
theorem ag8 : Agg Tryd.prog 8 4 := agg_of (by kernel_rfl)
theorem sz8 : ∃ ti, Tryd.prog.info? 8 = some ti ∧ ti.size = 4 := size_of (by kernel_rfl)
theorem ze8 : Zero Tryd.prog 8 [.int .i64 0, .int .i64 0, .bool false, .int .u8 0] := zero_of (by kernel_rfl)
theorem bs8 : BuildS Tryd.prog 8 [.int .i64 0, .int .i64 0, .bool false, .int .u8 0] [(0, 1), (1, 1), (2, 1), (3, 1)] := ⟨ze8, _, Tryd.underlying8, fun _ => by kernel_rfl⟩
theorem fo8_0 : FieldOff Tryd.prog 8 0 0 := fieldOff_of (by kernel_rfl)
theorem fo8_1 : FieldOff Tryd.prog 8 1 1 := fieldOff_of (by kernel_rfl)
theorem fo8_2 : FieldOff Tryd.prog 8 2 2 := fieldOff_of (by kernel_rfl)
theorem fo8_3 : FieldOff Tryd.prog 8 3 3 := fieldOff_of (by kernel_rfl)
theorem on9 : One Tryd.prog 9 := one_of (by kernel_rfl)
theorem sz9 : ∃ ti, Tryd.prog.info? 9 = some ti ∧ ti.size = 1 := size_of (by kernel_rfl)
theorem us9 : Tryd.prog.underlying 9 = some .string := by kernel_rfl
theorem ni9 : NoInt Tryd.prog 9 := .inr us9
theorem ze9 : Zero Tryd.prog 9 [vS []] := zero_of (by kernel_rfl)
theorem on10 : One Tryd.prog 10 := one_of (by kernel_rfl)
theorem sz10 : ∃ ti, Tryd.prog.info? 10 = some ti ∧ ti.size = 1 := size_of (by kernel_rfl)
theorem us10 : Tryd.prog.underlying 10 = some .string := by kernel_rfl
theorem ni10 : NoInt Tryd.prog 10 := .inr us10
theorem ze10 : Zero Tryd.prog 10 [vS []] := zero_of (by kernel_rfl)
theorem on11 : One Tryd.prog 11 := one_of (by kernel_rfl)
theorem sz11 : ∃ ti, Tryd.prog.info? 11 = some ti ∧ ti.size = 1 := size_of (by kernel_rfl)
theorem us11 : Tryd.prog.underlying 11 = some .string := by kernel_rfl
theorem ni11 : NoInt Tryd.prog 11 := .inr us11
theorem ze11 : Zero Tryd.prog 11 [vS []] := zero_of (by kernel_rfl)
theorem on12 : One Tryd.prog 12 := one_of (by kernel_rfl)
theorem sz12 : ∃ ti, Tryd.prog.info? 12 = some ti ∧ ti.size = 1 := size_of (by kernel_rfl)
theorem ui12 : Tryd.prog.underlying 12 = some (.int .u64) := by kernel_rfl
theorem ze12 : Zero Tryd.prog 12 [.int .u64 0] := zero_of (by kernel_rfl)
theorem ag13 : Agg Tryd.prog 13 2 := agg_of (by kernel_rfl)
theorem sz13 : ∃ ti, Tryd.prog.info? 13 = some ti ∧ ti.size = 2 := size_of (by kernel_rfl)
theorem ze13 : Zero Tryd.prog 13 [vS [], .int .u64 0] := zero_of (by kernel_rfl)
theorem bs13 : BuildS Tryd.prog 13 [vS [], .int .u64 0] [(0, 1), (1, 1)] := ⟨ze13, _, Tryd.underlying13, fun _ => by kernel_rfl⟩
theorem fo13_0 : FieldOff Tryd.prog 13 0 0 := fieldOff_of (by kernel_rfl)
theorem fo13_1 : FieldOff Tryd.prog 13 1 1 := fieldOff_of (by kernel_rfl)
theorem ag14 : Agg Tryd.prog 14 2 := agg_of (by kernel_rfl)
theorem sz14 : ∃ ti, Tryd.prog.info? 14 = some ti ∧ ti.size = 2 := size_of (by kernel_rfl)
theorem ze14 : Zero Tryd.prog 14 [vS [], .int .u64 0] := zero_of (by kernel_rfl)
theorem bs14 : BuildS Tryd.prog 14 [vS [], .int .u64 0] [(0, 1), (1, 1)] := ⟨ze14, _, Tryd.underlying14, fun _ => by kernel_rfl⟩
theorem fo14_0 : FieldOff Tryd.prog 14 0 0 := fieldOff_of (by kernel_rfl)
theorem fo14_1 : FieldOff Tryd.prog 14 1 1 := fieldOff_of (by kernel_rfl)
theorem on15 : One Tryd.prog 15 := one_of (by kernel_rfl)
theorem sz15 : ∃ ti, Tryd.prog.info? 15 = some ti ∧ ti.size = 1 := size_of (by kernel_rfl)
theorem up15 : Tryd.prog.underlying 15 = some (.pointer 73) := by kernel_rfl
theorem ze15 : Zero Tryd.prog 15 [.pointer none] := zero_of (by kernel_rfl)
theorem on16 : One Tryd.prog 16 := one_of (by kernel_rfl)
theorem sz16 : ∃ ti, Tryd.prog.info? 16 = some ti ∧ ti.size = 1 := size_of (by kernel_rfl)
theorem up16 : Tryd.prog.underlying 16 = some (.pointer 76) := by kernel_rfl
theorem ze16 : Zero Tryd.prog 16 [.pointer none] := zero_of (by kernel_rfl)
theorem on17 : One Tryd.prog 17 := one_of (by kernel_rfl)
theorem sz17 : ∃ ti, Tryd.prog.info? 17 = some ti ∧ ti.size = 1 := size_of (by kernel_rfl)
theorem up17 : Tryd.prog.underlying 17 = some (.pointer 85) := by kernel_rfl
theorem ze17 : Zero Tryd.prog 17 [.pointer none] := zero_of (by kernel_rfl)
theorem ag18 : Agg Tryd.prog 18 1 := agg_of (by kernel_rfl)
theorem sz18 : ∃ ti, Tryd.prog.info? 18 = some ti ∧ ti.size = 1 := size_of (by kernel_rfl)
theorem ze18 : Zero Tryd.prog 18 [.pointer none] := zero_of (by kernel_rfl)
theorem bs18 : BuildS Tryd.prog 18 [.pointer none] [(0, 1)] := ⟨ze18, _, Tryd.underlying18, fun _ => by kernel_rfl⟩
theorem fo18_0 : FieldOff Tryd.prog 18 0 0 := fieldOff_of (by kernel_rfl)
theorem ag19 : Agg Tryd.prog 19 1 := agg_of (by kernel_rfl)
theorem sz19 : ∃ ti, Tryd.prog.info? 19 = some ti ∧ ti.size = 1 := size_of (by kernel_rfl)
theorem ze19 : Zero Tryd.prog 19 [.pointer none] := zero_of (by kernel_rfl)
theorem bs19 : BuildS Tryd.prog 19 [.pointer none] [(0, 1)] := ⟨ze19, _, Tryd.underlying19, fun _ => by kernel_rfl⟩
theorem fo19_0 : FieldOff Tryd.prog 19 0 0 := fieldOff_of (by kernel_rfl)
theorem on21 : One Tryd.prog 21 := one_of (by kernel_rfl)
theorem sz21 : ∃ ti, Tryd.prog.info? 21 = some ti ∧ ti.size = 1 := size_of (by kernel_rfl)
theorem ui21 : Tryd.prog.underlying 21 = some (.int .i32) := by kernel_rfl
theorem ze21 : Zero Tryd.prog 21 [.int .i32 0] := zero_of (by kernel_rfl)
theorem on22 : One Tryd.prog 22 := one_of (by kernel_rfl)
theorem sz22 : ∃ ti, Tryd.prog.info? 22 = some ti ∧ ti.size = 1 := size_of (by kernel_rfl)
theorem el22 : ElemTy Tryd.prog 22 5 1 1 := elemTy_of (by kernel_rfl)
theorem ze22 : Zero Tryd.prog 22 [.slice none 0 0] := zero_of (by kernel_rfl)
theorem ag23 : Agg Tryd.prog 23 32 := agg_of (by kernel_rfl)
theorem sz23 : ∃ ti, Tryd.prog.info? 23 = some ti ∧ ti.size = 32 := size_of (by kernel_rfl)
theorem ze23 : Zero Tryd.prog 23 (List.replicate 32 (.int .u8 0)) := zero_of (by kernel_rfl)
theorem ar23 : ArrTy Tryd.prog 23 32 5 1 := arrTy_of (by kernel_rfl)
theorem ce23 : Tryd.prog.cellsOf 5 = 1 := by kernel_rfl
theorem eg23 : Tryd.prog.eqGuardType Tryd.prog.depth 23 = false := by kernel_rfl
theorem ba23 : BuildA Tryd.prog 23 (List.replicate 32 (.int .u8 0)) 32 1 := buildA_of ze23 ar23
theorem ag24 : Agg Tryd.prog 24 32 := agg_of (by kernel_rfl)
theorem sz24 : ∃ ti, Tryd.prog.info? 24 = some ti ∧ ti.size = 32 := size_of (by kernel_rfl)
theorem ze24 : Zero Tryd.prog 24 (List.replicate 32 (.int .u8 0)) := zero_of (by kernel_rfl)
theorem ar24 : ArrTy Tryd.prog 24 32 5 1 := arrTy_of (by kernel_rfl)
theorem ce24 : Tryd.prog.cellsOf 5 = 1 := by kernel_rfl
theorem eg24 : Tryd.prog.eqGuardType Tryd.prog.depth 24 = false := by kernel_rfl
theorem ba24 : BuildA Tryd.prog 24 (List.replicate 32 (.int .u8 0)) 32 1 := buildA_of ze24 ar24
theorem on30 : One Tryd.prog 30 := one_of (by kernel_rfl)
theorem sz30 : ∃ ti, Tryd.prog.info? 30 = some ti ∧ ti.size = 1 := size_of (by kernel_rfl)
theorem ui30 : Tryd.prog.underlying 30 = some (.int .u32) := by kernel_rfl
theorem ze30 : Zero Tryd.prog 30 [.int .u32 0] := zero_of (by kernel_rfl)
theorem ag31 : Agg Tryd.prog 31 8 := agg_of (by kernel_rfl)
theorem sz31 : ∃ ti, Tryd.prog.info? 31 = some ti ∧ ti.size = 8 := size_of (by kernel_rfl)
theorem ze31 : Zero Tryd.prog 31 [.int .u32 0, .int .u32 0, .int .u32 0, .int .u32 0, .int .u32 0, .int .u32 0, .int .u32 0, .int .u32 0] := zero_of (by kernel_rfl)
theorem ar31 : ArrTy Tryd.prog 31 8 30 1 := arrTy_of (by kernel_rfl)
theorem ce31 : Tryd.prog.cellsOf 30 = 1 := by kernel_rfl
theorem eg31 : Tryd.prog.eqGuardType Tryd.prog.depth 31 = false := by kernel_rfl
theorem ba31 : BuildA Tryd.prog 31 [.int .u32 0, .int .u32 0, .int .u32 0, .int .u32 0, .int .u32 0, .int .u32 0, .int .u32 0, .int .u32 0] 8 1 := buildA_of ze31 ar31
theorem ag32 : Agg Tryd.prog 32 10 := agg_of (by kernel_rfl)
theorem sz32 : ∃ ti, Tryd.prog.info? 32 = some ti ∧ ti.size = 10 := size_of (by kernel_rfl)
theorem ze32 : Zero Tryd.prog 32 [.int .u32 0, .int .u32 0, .int .u32 0, .int .u32 0, .int .u32 0, .int .u32 0, .int .u32 0, .int .u32 0, .slice none 0 0, .int .i64 0] := zero_of (by kernel_rfl)
theorem bs32 : BuildS Tryd.prog 32 [.int .u32 0, .int .u32 0, .int .u32 0, .int .u32 0, .int .u32 0, .int .u32 0, .int .u32 0, .int .u32 0, .slice none 0 0, .int .i64 0] [(0, 8), (8, 1), (9, 1)] := ⟨ze32, _, Tryd.underlying32, fun _ => by kernel_rfl⟩
theorem fo32_0 : FieldOff Tryd.prog 32 0 0 := fieldOff_of (by kernel_rfl)
theorem fo32_1 : FieldOff Tryd.prog 32 1 8 := fieldOff_of (by kernel_rfl)
theorem fo32_2 : FieldOff Tryd.prog 32 2 9 := fieldOff_of (by kernel_rfl)
theorem ag33 : Agg Tryd.prog 33 10 := agg_of (by kernel_rfl)
theorem sz33 : ∃ ti, Tryd.prog.info? 33 = some ti ∧ ti.size = 10 := size_of (by kernel_rfl)
theorem ze33 : Zero Tryd.prog 33 [.int .u32 0, .int .u32 0, .int .u32 0, .int .u32 0, .int .u32 0, .int .u32 0, .int .u32 0, .int .u32 0, .slice none 0 0, .int .i64 0] := zero_of (by kernel_rfl)
theorem bs33 : BuildS Tryd.prog 33 [.int .u32 0, .int .u32 0, .int .u32 0, .int .u32 0, .int .u32 0, .int .u32 0, .int .u32 0, .int .u32 0, .slice none 0 0, .int .i64 0] [(0, 8), (8, 1), (9, 1)] := ⟨ze33, _, Tryd.underlying33, fun _ => by kernel_rfl⟩
theorem fo33_0 : FieldOff Tryd.prog 33 0 0 := fieldOff_of (by kernel_rfl)
theorem fo33_1 : FieldOff Tryd.prog 33 1 8 := fieldOff_of (by kernel_rfl)
theorem fo33_2 : FieldOff Tryd.prog 33 2 9 := fieldOff_of (by kernel_rfl)
theorem on39 : One Tryd.prog 39 := one_of (by kernel_rfl)
theorem sz39 : ∃ ti, Tryd.prog.info? 39 = some ti ∧ ti.size = 1 := size_of (by kernel_rfl)
theorem el39 : ElemTy Tryd.prog 39 22 1 24 := elemTy_of (by kernel_rfl)
theorem ze39 : Zero Tryd.prog 39 [.slice none 0 0] := zero_of (by kernel_rfl)
theorem on43 : One Tryd.prog 43 := one_of (by kernel_rfl)
theorem sz43 : ∃ ti, Tryd.prog.info? 43 = some ti ∧ ti.size = 1 := size_of (by kernel_rfl)
theorem el43 : ElemTy Tryd.prog 43 3 1 8 := elemTy_of (by kernel_rfl)
theorem ze43 : Zero Tryd.prog 43 [.slice none 0 0] := zero_of (by kernel_rfl)
theorem on51 : One Tryd.prog 51 := one_of (by kernel_rfl)
theorem sz51 : ∃ ti, Tryd.prog.info? 51 = some ti ∧ ti.size = 1 := size_of (by kernel_rfl)
theorem ui51 : Tryd.prog.underlying 51 = some (.int .i64) := by kernel_rfl
theorem ze51 : Zero Tryd.prog 51 [.int .i64 0] := zero_of (by kernel_rfl)
theorem on55 : One Tryd.prog 55 := one_of (by kernel_rfl)
theorem sz55 : ∃ ti, Tryd.prog.info? 55 = some ti ∧ ti.size = 1 := size_of (by kernel_rfl)
theorem el55 : ElemTy Tryd.prog 55 9 1 16 := elemTy_of (by kernel_rfl)
theorem ze55 : Zero Tryd.prog 55 [.slice none 0 0] := zero_of (by kernel_rfl)
theorem on57 : One Tryd.prog 57 := one_of (by kernel_rfl)
theorem sz57 : ∃ ti, Tryd.prog.info? 57 = some ti ∧ ti.size = 1 := size_of (by kernel_rfl)
theorem ui57 : Tryd.prog.underlying 57 = some (.int .u64) := by kernel_rfl
theorem ze57 : Zero Tryd.prog 57 [.int .u64 0] := zero_of (by kernel_rfl)
theorem on59 : One Tryd.prog 59 := one_of (by kernel_rfl)
theorem sz59 : ∃ ti, Tryd.prog.info? 59 = some ti ∧ ti.size = 1 := size_of (by kernel_rfl)
theorem ui59 : Tryd.prog.underlying 59 = some (.int .u64) := by kernel_rfl
theorem ze59 : Zero Tryd.prog 59 [.int .u64 0] := zero_of (by kernel_rfl)
theorem ag66 : Agg Tryd.prog 66 64 := agg_of (by kernel_rfl)
theorem sz66 : ∃ ti, Tryd.prog.info? 66 = some ti ∧ ti.size = 64 := size_of (by kernel_rfl)
theorem ze66 : Zero Tryd.prog 66 (List.replicate 64 (.int .u32 0)) := zero_of (by kernel_rfl)
theorem ar66 : ArrTy Tryd.prog 66 64 30 1 := arrTy_of (by kernel_rfl)
theorem ce66 : Tryd.prog.cellsOf 30 = 1 := by kernel_rfl
theorem eg66 : Tryd.prog.eqGuardType Tryd.prog.depth 66 = false := by kernel_rfl
theorem ba66 : BuildA Tryd.prog 66 (List.replicate 64 (.int .u32 0)) 64 1 := buildA_of ze66 ar66
theorem ag72 : Agg Tryd.prog 72 4 := agg_of (by kernel_rfl)
theorem sz72 : ∃ ti, Tryd.prog.info? 72 = some ti ∧ ti.size = 4 := size_of (by kernel_rfl)
theorem ze72 : Zero Tryd.prog 72 [.pointer none, .pointer none, .pointer none, vS []] := zero_of (by kernel_rfl)
theorem bs72 : BuildS Tryd.prog 72 [.pointer none, .pointer none, .pointer none, vS []] [(0, 1), (1, 1), (2, 1), (3, 1)] := ⟨ze72, _, Tryd.underlying72, fun _ => by kernel_rfl⟩
theorem fo72_0 : FieldOff Tryd.prog 72 0 0 := fieldOff_of (by kernel_rfl)
theorem fo72_1 : FieldOff Tryd.prog 72 1 1 := fieldOff_of (by kernel_rfl)
theorem fo72_2 : FieldOff Tryd.prog 72 2 2 := fieldOff_of (by kernel_rfl)
theorem fo72_3 : FieldOff Tryd.prog 72 3 3 := fieldOff_of (by kernel_rfl)
theorem ag73 : Agg Tryd.prog 73 4 := agg_of (by kernel_rfl)
theorem sz73 : ∃ ti, Tryd.prog.info? 73 = some ti ∧ ti.size = 4 := size_of (by kernel_rfl)
theorem ze73 : Zero Tryd.prog 73 [.pointer none, .pointer none, .pointer none, vS []] := zero_of (by kernel_rfl)
theorem bs73 : BuildS Tryd.prog 73 [.pointer none, .pointer none, .pointer none, vS []] [(0, 1), (1, 1), (2, 1), (3, 1)] := ⟨ze73, _, Tryd.underlying73, fun _ => by kernel_rfl⟩
theorem fo73_0 : FieldOff Tryd.prog 73 0 0 := fieldOff_of (by kernel_rfl)
theorem fo73_1 : FieldOff Tryd.prog 73 1 1 := fieldOff_of (by kernel_rfl)
theorem fo73_2 : FieldOff Tryd.prog 73 2 2 := fieldOff_of (by kernel_rfl)
theorem fo73_3 : FieldOff Tryd.prog 73 3 3 := fieldOff_of (by kernel_rfl)
theorem on78 : One Tryd.prog 78 := one_of (by kernel_rfl)
theorem sz78 : ∃ ti, Tryd.prog.info? 78 = some ti ∧ ti.size = 1 := size_of (by kernel_rfl)
theorem ui78 : Tryd.prog.underlying 78 = some (.int .u8) := by kernel_rfl
theorem ze78 : Zero Tryd.prog 78 [.int .u8 0] := zero_of (by kernel_rfl)
theorem on79 : One Tryd.prog 79 := one_of (by kernel_rfl)
theorem sz79 : ∃ ti, Tryd.prog.info? 79 = some ti ∧ ti.size = 1 := size_of (by kernel_rfl)
theorem ui79 : Tryd.prog.underlying 79 = some (.int .u8) := by kernel_rfl
theorem ze79 : Zero Tryd.prog 79 [.int .u8 0] := zero_of (by kernel_rfl)
theorem on81 : One Tryd.prog 81 := one_of (by kernel_rfl)
theorem sz81 : ∃ ti, Tryd.prog.info? 81 = some ti ∧ ti.size = 1 := size_of (by kernel_rfl)
theorem up81 : Tryd.prog.underlying 81 = some (.pointer 5) := by kernel_rfl
theorem ze81 : Zero Tryd.prog 81 [.pointer none] := zero_of (by kernel_rfl)
theorem on82 : One Tryd.prog 82 := one_of (by kernel_rfl)
theorem sz82 : ∃ ti, Tryd.prog.info? 82 = some ti ∧ ti.size = 1 := size_of (by kernel_rfl)
theorem ui82 : Tryd.prog.underlying 82 = some (.int .i32) := by kernel_rfl
theorem ze82 : Zero Tryd.prog 82 [.int .i32 0] := zero_of (by kernel_rfl)
theorem on83 : One Tryd.prog 83 := one_of (by kernel_rfl)
theorem sz83 : ∃ ti, Tryd.prog.info? 83 = some ti ∧ ti.size = 1 := size_of (by kernel_rfl)
theorem ui83 : Tryd.prog.underlying 83 = some (.int .i32) := by kernel_rfl
theorem ze83 : Zero Tryd.prog 83 [.int .i32 0] := zero_of (by kernel_rfl)
theorem ag84 : Agg Tryd.prog 84 11 := agg_of (by kernel_rfl)
theorem sz84 : ∃ ti, Tryd.prog.info? 84 = some ti ∧ ti.size = 11 := size_of (by kernel_rfl)
theorem ze84 : Zero Tryd.prog 84 [.int .u64 0, .int .u64 0, .int .u32 0, .int .u8 0, .int .u8 0, .int .u8 0, .int .u8 0, .nilFunc, .pointer none, .int .i32 0, .int .i32 0] := zero_of (by kernel_rfl)
theorem bs84 : BuildS Tryd.prog 84 [.int .u64 0, .int .u64 0, .int .u32 0, .int .u8 0, .int .u8 0, .int .u8 0, .int .u8 0, .nilFunc, .pointer none, .int .i32 0, .int .i32 0] [(0, 1), (1, 1), (2, 1), (3, 1), (4, 1), (5, 1), (6, 1), (7, 1), (8, 1), (9, 1), (10, 1)] := ⟨ze84, _, Tryd.underlying84, fun _ => by kernel_rfl⟩
theorem fo84_0 : FieldOff Tryd.prog 84 0 0 := fieldOff_of (by kernel_rfl)
theorem fo84_1 : FieldOff Tryd.prog 84 1 1 := fieldOff_of (by kernel_rfl)
theorem fo84_2 : FieldOff Tryd.prog 84 2 2 := fieldOff_of (by kernel_rfl)
theorem fo84_3 : FieldOff Tryd.prog 84 3 3 := fieldOff_of (by kernel_rfl)
theorem fo84_4 : FieldOff Tryd.prog 84 4 4 := fieldOff_of (by kernel_rfl)
theorem fo84_5 : FieldOff Tryd.prog 84 5 5 := fieldOff_of (by kernel_rfl)
theorem fo84_6 : FieldOff Tryd.prog 84 6 6 := fieldOff_of (by kernel_rfl)
theorem fo84_7 : FieldOff Tryd.prog 84 7 7 := fieldOff_of (by kernel_rfl)
theorem fo84_8 : FieldOff Tryd.prog 84 8 8 := fieldOff_of (by kernel_rfl)
theorem fo84_9 : FieldOff Tryd.prog 84 9 9 := fieldOff_of (by kernel_rfl)
theorem fo84_10 : FieldOff Tryd.prog 84 10 10 := fieldOff_of (by kernel_rfl)
theorem ag85 : Agg Tryd.prog 85 11 := agg_of (by kernel_rfl)
theorem sz85 : ∃ ti, Tryd.prog.info? 85 = some ti ∧ ti.size = 11 := size_of (by kernel_rfl)
theorem ze85 : Zero Tryd.prog 85 [.int .u64 0, .int .u64 0, .int .u32 0, .int .u8 0, .int .u8 0, .int .u8 0, .int .u8 0, .nilFunc, .pointer none, .int .i32 0, .int .i32 0] := zero_of (by kernel_rfl)
theorem bs85 : BuildS Tryd.prog 85 [.int .u64 0, .int .u64 0, .int .u32 0, .int .u8 0, .int .u8 0, .int .u8 0, .int .u8 0, .nilFunc, .pointer none, .int .i32 0, .int .i32 0] [(0, 1), (1, 1), (2, 1), (3, 1), (4, 1), (5, 1), (6, 1), (7, 1), (8, 1), (9, 1), (10, 1)] := ⟨ze85, _, Tryd.underlying85, fun _ => by kernel_rfl⟩
theorem fo85_0 : FieldOff Tryd.prog 85 0 0 := fieldOff_of (by kernel_rfl)
theorem fo85_1 : FieldOff Tryd.prog 85 1 1 := fieldOff_of (by kernel_rfl)
theorem fo85_2 : FieldOff Tryd.prog 85 2 2 := fieldOff_of (by kernel_rfl)
theorem fo85_3 : FieldOff Tryd.prog 85 3 3 := fieldOff_of (by kernel_rfl)
theorem fo85_4 : FieldOff Tryd.prog 85 4 4 := fieldOff_of (by kernel_rfl)
theorem fo85_5 : FieldOff Tryd.prog 85 5 5 := fieldOff_of (by kernel_rfl)
theorem fo85_6 : FieldOff Tryd.prog 85 6 6 := fieldOff_of (by kernel_rfl)
theorem fo85_7 : FieldOff Tryd.prog 85 7 7 := fieldOff_of (by kernel_rfl)
theorem fo85_8 : FieldOff Tryd.prog 85 8 8 := fieldOff_of (by kernel_rfl)
theorem fo85_9 : FieldOff Tryd.prog 85 9 9 := fieldOff_of (by kernel_rfl)
theorem fo85_10 : FieldOff Tryd.prog 85 10 10 := fieldOff_of (by kernel_rfl)
theorem go2 : IsGo Tryd.prog 2 := isGo_of Tryd.func2 (by kernel_rfl)
theorem go3 : IsGo Tryd.prog 3 := isGo_of Tryd.func3 (by kernel_rfl)
theorem go4 : IsGo Tryd.prog 4 := isGo_of Tryd.func4 (by kernel_rfl)
theorem go5 : IsGo Tryd.prog 5 := isGo_of Tryd.func5 (by kernel_rfl)
theorem go6 : IsGo Tryd.prog 6 := isGo_of Tryd.func6 (by kernel_rfl)
theorem go7 : IsGo Tryd.prog 7 := isGo_of Tryd.func7 (by kernel_rfl)
theorem go8 : IsGo Tryd.prog 8 := isGo_of Tryd.func8 (by kernel_rfl)
theorem go9 : IsGo Tryd.prog 9 := isGo_of Tryd.func9 (by kernel_rfl)
theorem go10 : IsGo Tryd.prog 10 := isGo_of Tryd.func10 (by kernel_rfl)
theorem go11 : IsGo Tryd.prog 11 := isGo_of Tryd.func11 (by kernel_rfl)
theorem go12 : IsGo Tryd.prog 12 := isGo_of Tryd.func12 (by kernel_rfl)
theorem go13 : IsGo Tryd.prog 13 := isGo_of Tryd.func13 (by kernel_rfl)
theorem go14 : IsGo Tryd.prog 14 := isGo_of Tryd.func14 (by kernel_rfl)
theorem go15 : IsGo Tryd.prog 15 := isGo_of Tryd.func15 (by kernel_rfl)
theorem go16 : IsGo Tryd.prog 16 := isGo_of Tryd.func16 (by kernel_rfl)
theorem go17 : IsGo Tryd.prog 17 := isGo_of Tryd.func17 (by kernel_rfl)
theorem go18 : IsGo Tryd.prog 18 := isGo_of Tryd.func18 (by kernel_rfl)
theorem go19 : IsGo Tryd.prog 19 := isGo_of Tryd.func19 (by kernel_rfl)
theorem go20 : IsGo Tryd.prog 20 := isGo_of Tryd.func20 (by kernel_rfl)
theorem go21 : IsGo Tryd.prog 21 := isGo_of Tryd.func21 (by kernel_rfl)
theorem go22 : IsGo Tryd.prog 22 := isGo_of Tryd.func22 (by kernel_rfl)
theorem go23 : IsGo Tryd.prog 23 := isGo_of Tryd.func23 (by kernel_rfl)
theorem go24 : IsGo Tryd.prog 24 := isGo_of Tryd.func24 (by kernel_rfl)
theorem go25 : IsGo Tryd.prog 25 := isGo_of Tryd.func25 (by kernel_rfl)
theorem go26 : IsGo Tryd.prog 26 := isGo_of Tryd.func26 (by kernel_rfl)
theorem go27 : IsGo Tryd.prog 27 := isGo_of Tryd.func27 (by kernel_rfl)
theorem go28 : IsGo Tryd.prog 28 := isGo_of Tryd.func28 (by kernel_rfl)
theorem go29 : IsGo Tryd.prog 29 := isGo_of Tryd.func29 (by kernel_rfl)
theorem go30 : IsGo Tryd.prog 30 := isGo_of Tryd.func30 (by kernel_rfl)
theorem go31 : IsGo Tryd.prog 31 := isGo_of Tryd.func31 (by kernel_rfl)
theorem go32 : IsGo Tryd.prog 32 := isGo_of Tryd.func32 (by kernel_rfl)
theorem go33 : IsGo Tryd.prog 33 := isGo_of Tryd.func33 (by kernel_rfl)
theorem go34 : IsGo Tryd.prog 34 := isGo_of Tryd.func34 (by kernel_rfl)
theorem go35 : IsGo Tryd.prog 35 := isGo_of Tryd.func35 (by kernel_rfl)
theorem go36 : IsGo Tryd.prog 36 := isGo_of Tryd.func36 (by kernel_rfl)
theorem go37 : IsGo Tryd.prog 37 := isGo_of Tryd.func37 (by kernel_rfl)
theorem go38 : IsGo Tryd.prog 38 := isGo_of Tryd.func38 (by kernel_rfl)
theorem go39 : IsGo Tryd.prog 39 := isGo_of Tryd.func39 (by kernel_rfl)
theorem go40 : IsGo Tryd.prog 40 := isGo_of Tryd.func40 (by kernel_rfl)
theorem go41 : IsGo Tryd.prog 41 := isGo_of Tryd.func41 (by kernel_rfl)
theorem go42 : IsGo Tryd.prog 42 := isGo_of Tryd.func42 (by kernel_rfl)
theorem go43 : IsGo Tryd.prog 43 := isGo_of Tryd.func43 (by kernel_rfl)
theorem go44 : IsGo Tryd.prog 44 := isGo_of Tryd.func44 (by kernel_rfl)
theorem go45 : IsGo Tryd.prog 45 := isGo_of Tryd.func45 (by kernel_rfl)
theorem go66 : IsGo Tryd.prog 66 := isGo_of Tryd.func66 (by kernel_rfl)

end Go.Proofs.YtbljfilkdhgcnaaDoor
