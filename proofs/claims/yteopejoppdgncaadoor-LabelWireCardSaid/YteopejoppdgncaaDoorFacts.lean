/- The closed facts of the tables of this translation, each by the kernel. Printed by a program. -/
import Derived.Test.YteopejoppdgncaaDoorRows
import Derived.Test.YteopejoppdgncaaDoorKernB
namespace Go.Proofs.YteopejoppdgncaaDoor
open Go.Wk

theorem wide : Tryd.prog.follows .mixedOrders = true := by kernel_rfl
theorem on2 : One Tryd.prog 2 := one_of (by kernel_rfl)
theorem sz2 : ∃ ti, Tryd.prog.info? 2 = some ti ∧ ti.size = 1 := size_of (by kernel_rfl)
theorem ui2 : Tryd.prog.underlying 2 = some (.int .i64) := by kernel_rfl
theorem ze2 : Zero Tryd.prog 2 [.int .i64 0] := zero_of (by kernel_rfl)
theorem on3 : One Tryd.prog 3 := one_of (by kernel_rfl)
theorem sz3 : ∃ ti, Tryd.prog.info? 3 = some ti ∧ ti.size = 1 := size_of (by kernel_rfl)
theorem ui3 : Tryd.prog.underlying 3 = some (.int .i64) := by kernel_rfl
theorem ze3 : Zero Tryd.prog 3 [.int .i64 0] := zero_of (by kernel_rfl)
theorem on4 : One Tryd.prog 4 := one_of (by kernel_rfl)
theorem sz4 : ∃ ti, Tryd.prog.info? 4 = some ti ∧ ti.size = 1 := size_of (by kernel_rfl)
theorem ub4 : Tryd.prog.underlying 4 = some .bool := by kernel_rfl
theorem ze4 : Zero Tryd.prog 4 [.bool false] := zero_of (by kernel_rfl)
theorem on5 : One Tryd.prog 5 := one_of (by kernel_rfl)
theorem sz5 : ∃ ti, Tryd.prog.info? 5 = some ti ∧ ti.size = 1 := size_of (by kernel_rfl)
theorem ui5 : Tryd.prog.underlying 5 = some (.int .u8) := by kernel_rfl
theorem ze5 : Zero Tryd.prog 5 [.int .u8 0] := zero_of (by kernel_rfl)
theorem on6 : One Tryd.prog 6 := one_of (by kernel_rfl)
theorem sz6 : ∃ ti, Tryd.prog.info? 6 = some ti ∧ ti.size = 1 := size_of (by kernel_rfl)
theorem ui6 : Tryd.prog.underlying 6 = some (.int .u8) := by kernel_rfl
theorem ze6 : Zero Tryd.prog 6 [.int .u8 0] := zero_of (by kernel_rfl)
theorem ag7 : Agg Tryd.prog 7 4 := agg_of (by kernel_rfl)
theorem sz7 : ∃ ti, Tryd.prog.info? 7 = some ti ∧ ti.size = 4 := size_of (by kernel_rfl)
theorem ze7 : Zero Tryd.prog 7 [.int .i64 0, .int .i64 0, .bool false, .int .u8 0] := zero_of (by kernel_rfl)
theorem bs7 : BuildS Tryd.prog 7 [.int .i64 0, .int .i64 0, .bool false, .int .u8 0] [(0, 1), (1, 1), (2, 1), (3, 1)] := ⟨ze7, _, Tryd.underlying7, fun _ => by kernel_rfl⟩
theorem fo7_0 : FieldOff Tryd.prog 7 0 0 := fieldOff_of (by kernel_rfl)
theorem fo7_1 : FieldOff Tryd.prog 7 1 1 := fieldOff_of (by kernel_rfl)
theorem fo7_2 : FieldOff Tryd.prog 7 2 2 := fieldOff_of (by kernel_rfl)
theorem fo7_3 : FieldOff Tryd.prog 7 3 3 := fieldOff_of (by kernel_rfl)
theorem ag8 : Agg Tryd.prog 8 4 := agg_of (by kernel_rfl)
theorem sz8 : ∃ ti, Tryd.prog.info? 8 = some ti ∧ ti.size = 4 := size_of (by kernel_rfl)
theorem ze8 : Zero Tryd.prog 8 [.int .i64 0, .int .i64 0, .bool false, .int .u8 0] := zero_of (by kernel_rfl)
theorem bs8 : BuildS Tryd.prog 8 [.int .i64 0, .int .i64 0, .bool false, .int .u8 0] [(0, 1), (1, 1), (2, 1), (3, 1)] := ⟨ze8, _, Tryd.underlying8, fun _ => by kernel_rfl⟩
theorem fo8_0 : FieldOff Tryd.prog 8 0 0 := fieldOff_of (by kernel_rfl)
theorem fo8_1 : FieldOff Tryd.prog 8 1 1 := fieldOff_of (by kernel_rfl)
theorem fo8_2 : FieldOff Tryd.prog 8 2 2 := fieldOff_of (by kernel_rfl)
theorem fo8_3 : FieldOff Tryd.prog 8 3 3 := fieldOff_of (by kernel_rfl)
theorem on9 : One Tryd.prog 9 := one_of (by kernel_rfl)
theorem sz9 : ∃ ti, Tryd.prog.info? 9 = some ti ∧ ti.size = 1 := size_of (by kernel_rfl)
theorem us9 : Tryd.prog.underlying 9 = some .string := by kernel_rfl
theorem ni9 : NoInt Tryd.prog 9 := .inr us9
theorem ze9 : Zero Tryd.prog 9 [vS []] := zero_of (by kernel_rfl)
theorem on10 : One Tryd.prog 10 := one_of (by kernel_rfl)
theorem sz10 : ∃ ti, Tryd.prog.info? 10 = some ti ∧ ti.size = 1 := size_of (by kernel_rfl)
theorem us10 : Tryd.prog.underlying 10 = some .string := by kernel_rfl
theorem ni10 : NoInt Tryd.prog 10 := .inr us10
theorem ze10 : Zero Tryd.prog 10 [vS []] := zero_of (by kernel_rfl)
theorem on11 : One Tryd.prog 11 := one_of (by kernel_rfl)
theorem sz11 : ∃ ti, Tryd.prog.info? 11 = some ti ∧ ti.size = 1 := size_of (by kernel_rfl)
theorem us11 : Tryd.prog.underlying 11 = some .string := by kernel_rfl
theorem ni11 : NoInt Tryd.prog 11 := .inr us11
theorem ze11 : Zero Tryd.prog 11 [vS []] := zero_of (by kernel_rfl)
theorem on12 : One Tryd.prog 12 := one_of (by kernel_rfl)
theorem sz12 : ∃ ti, Tryd.prog.info? 12 = some ti ∧ ti.size = 1 := size_of (by kernel_rfl)
theorem ui12 : Tryd.prog.underlying 12 = some (.int .u64) := by kernel_rfl
theorem ze12 : Zero Tryd.prog 12 [.int .u64 0] := zero_of (by kernel_rfl)
theorem ag13 : Agg Tryd.prog 13 2 := agg_of (by kernel_rfl)
theorem sz13 : ∃ ti, Tryd.prog.info? 13 = some ti ∧ ti.size = 2 := size_of (by kernel_rfl)
theorem ze13 : Zero Tryd.prog 13 [vS [], .int .u64 0] := zero_of (by kernel_rfl)
theorem bs13 : BuildS Tryd.prog 13 [vS [], .int .u64 0] [(0, 1), (1, 1)] := ⟨ze13, _, Tryd.underlying13, fun _ => by kernel_rfl⟩
theorem fo13_0 : FieldOff Tryd.prog 13 0 0 := fieldOff_of (by kernel_rfl)
theorem fo13_1 : FieldOff Tryd.prog 13 1 1 := fieldOff_of (by kernel_rfl)
theorem ag14 : Agg Tryd.prog 14 2 := agg_of (by kernel_rfl)
theorem sz14 : ∃ ti, Tryd.prog.info? 14 = some ti ∧ ti.size = 2 := size_of (by kernel_rfl)
theorem ze14 : Zero Tryd.prog 14 [vS [], .int .u64 0] := zero_of (by kernel_rfl)
theorem bs14 : BuildS Tryd.prog 14 [vS [], .int .u64 0] [(0, 1), (1, 1)] := ⟨ze14, _, Tryd.underlying14, fun _ => by kernel_rfl⟩
theorem fo14_0 : FieldOff Tryd.prog 14 0 0 := fieldOff_of (by kernel_rfl)
theorem fo14_1 : FieldOff Tryd.prog 14 1 1 := fieldOff_of (by kernel_rfl)
theorem on15 : One Tryd.prog 15 := one_of (by kernel_rfl)
theorem sz15 : ∃ ti, Tryd.prog.info? 15 = some ti ∧ ti.size = 1 := size_of (by kernel_rfl)
theorem up15 : Tryd.prog.underlying 15 = some (.pointer 89) := by kernel_rfl
theorem ze15 : Zero Tryd.prog 15 [.pointer none] := zero_of (by kernel_rfl)
theorem on16 : One Tryd.prog 16 := one_of (by kernel_rfl)
theorem sz16 : ∃ ti, Tryd.prog.info? 16 = some ti ∧ ti.size = 1 := size_of (by kernel_rfl)
theorem up16 : Tryd.prog.underlying 16 = some (.pointer 92) := by kernel_rfl
theorem ze16 : Zero Tryd.prog 16 [.pointer none] := zero_of (by kernel_rfl)
theorem on17 : One Tryd.prog 17 := one_of (by kernel_rfl)
theorem sz17 : ∃ ti, Tryd.prog.info? 17 = some ti ∧ ti.size = 1 := size_of (by kernel_rfl)
theorem up17 : Tryd.prog.underlying 17 = some (.pointer 101) := by kernel_rfl
theorem ze17 : Zero Tryd.prog 17 [.pointer none] := zero_of (by kernel_rfl)
theorem ag18 : Agg Tryd.prog 18 1 := agg_of (by kernel_rfl)
theorem sz18 : ∃ ti, Tryd.prog.info? 18 = some ti ∧ ti.size = 1 := size_of (by kernel_rfl)
theorem ze18 : Zero Tryd.prog 18 [.pointer none] := zero_of (by kernel_rfl)
theorem bs18 : BuildS Tryd.prog 18 [.pointer none] [(0, 1)] := ⟨ze18, _, Tryd.underlying18, fun _ => by kernel_rfl⟩
theorem fo18_0 : FieldOff Tryd.prog 18 0 0 := fieldOff_of (by kernel_rfl)
theorem ag19 : Agg Tryd.prog 19 1 := agg_of (by kernel_rfl)
theorem sz19 : ∃ ti, Tryd.prog.info? 19 = some ti ∧ ti.size = 1 := size_of (by kernel_rfl)
theorem ze19 : Zero Tryd.prog 19 [.pointer none] := zero_of (by kernel_rfl)
theorem bs19 : BuildS Tryd.prog 19 [.pointer none] [(0, 1)] := ⟨ze19, _, Tryd.underlying19, fun _ => by kernel_rfl⟩
theorem fo19_0 : FieldOff Tryd.prog 19 0 0 := fieldOff_of (by kernel_rfl)
theorem on21 : One Tryd.prog 21 := one_of (by kernel_rfl)
theorem sz21 : ∃ ti, Tryd.prog.info? 21 = some ti ∧ ti.size = 1 := size_of (by kernel_rfl)
theorem ui21 : Tryd.prog.underlying 21 = some (.int .i32) := by kernel_rfl
theorem ze21 : Zero Tryd.prog 21 [.int .i32 0] := zero_of (by kernel_rfl)
theorem ag22 : Agg Tryd.prog 22 2 := agg_of (by kernel_rfl)
theorem sz22 : ∃ ti, Tryd.prog.info? 22 = some ti ∧ ti.size = 2 := size_of (by kernel_rfl)
theorem ze22 : Zero Tryd.prog 22 [.int .i64 0, .int .i64 0] := zero_of (by kernel_rfl)
theorem bs22 : BuildS Tryd.prog 22 [.int .i64 0, .int .i64 0] [(0, 1), (1, 1)] := ⟨ze22, _, Tryd.underlying22, fun _ => by kernel_rfl⟩
theorem fo22_0 : FieldOff Tryd.prog 22 0 0 := fieldOff_of (by kernel_rfl)
theorem fo22_1 : FieldOff Tryd.prog 22 1 1 := fieldOff_of (by kernel_rfl)
theorem ag23 : Agg Tryd.prog 23 2 := agg_of (by kernel_rfl)
theorem sz23 : ∃ ti, Tryd.prog.info? 23 = some ti ∧ ti.size = 2 := size_of (by kernel_rfl)
theorem ze23 : Zero Tryd.prog 23 [.int .i64 0, .int .i64 0] := zero_of (by kernel_rfl)
theorem bs23 : BuildS Tryd.prog 23 [.int .i64 0, .int .i64 0] [(0, 1), (1, 1)] := ⟨ze23, _, Tryd.underlying23, fun _ => by kernel_rfl⟩
theorem fo23_0 : FieldOff Tryd.prog 23 0 0 := fieldOff_of (by kernel_rfl)
theorem fo23_1 : FieldOff Tryd.prog 23 1 1 := fieldOff_of (by kernel_rfl)
theorem on24 : One Tryd.prog 24 := one_of (by kernel_rfl)
theorem sz24 : ∃ ti, Tryd.prog.info? 24 = some ti ∧ ti.size = 1 := size_of (by kernel_rfl)
theorem ui24 : Tryd.prog.underlying 24 = some (.int .i64) := by kernel_rfl
theorem ze24 : Zero Tryd.prog 24 [.int .i64 0] := zero_of (by kernel_rfl)
theorem on42 : One Tryd.prog 42 := one_of (by kernel_rfl)
theorem sz42 : ∃ ti, Tryd.prog.info? 42 = some ti ∧ ti.size = 1 := size_of (by kernel_rfl)
theorem el42 : ElemTy Tryd.prog 42 5 1 1 := elemTy_of (by kernel_rfl)
theorem ze42 : Zero Tryd.prog 42 [.slice none 0 0] := zero_of (by kernel_rfl)
theorem on44 : One Tryd.prog 44 := one_of (by kernel_rfl)
theorem sz44 : ∃ ti, Tryd.prog.info? 44 = some ti ∧ ti.size = 1 := size_of (by kernel_rfl)
theorem el44 : ElemTy Tryd.prog 44 3 1 8 := elemTy_of (by kernel_rfl)
theorem ze44 : Zero Tryd.prog 44 [.slice none 0 0] := zero_of (by kernel_rfl)
theorem ag46 : Agg Tryd.prog 46 1 := agg_of (by kernel_rfl)
theorem sz46 : ∃ ti, Tryd.prog.info? 46 = some ti ∧ ti.size = 1 := size_of (by kernel_rfl)
theorem ze46 : Zero Tryd.prog 46 [.slice none 0 0] := zero_of (by kernel_rfl)
theorem bs46 : BuildS Tryd.prog 46 [.slice none 0 0] [(0, 1)] := ⟨ze46, _, Tryd.underlying46, fun _ => by kernel_rfl⟩
theorem fo46_0 : FieldOff Tryd.prog 46 0 0 := fieldOff_of (by kernel_rfl)
theorem ag47 : Agg Tryd.prog 47 1 := agg_of (by kernel_rfl)
theorem sz47 : ∃ ti, Tryd.prog.info? 47 = some ti ∧ ti.size = 1 := size_of (by kernel_rfl)
theorem ze47 : Zero Tryd.prog 47 [.slice none 0 0] := zero_of (by kernel_rfl)
theorem bs47 : BuildS Tryd.prog 47 [.slice none 0 0] [(0, 1)] := ⟨ze47, _, Tryd.underlying47, fun _ => by kernel_rfl⟩
theorem fo47_0 : FieldOff Tryd.prog 47 0 0 := fieldOff_of (by kernel_rfl)
theorem ag48 : Agg Tryd.prog 48 1 := agg_of (by kernel_rfl)
theorem sz48 : ∃ ti, Tryd.prog.info? 48 = some ti ∧ ti.size = 1 := size_of (by kernel_rfl)
theorem ze48 : Zero Tryd.prog 48 [.slice none 0 0] := zero_of (by kernel_rfl)
theorem bs48 : BuildS Tryd.prog 48 [.slice none 0 0] [(0, 1)] := ⟨ze48, _, Tryd.underlying48, fun _ => by kernel_rfl⟩
theorem fo48_0 : FieldOff Tryd.prog 48 0 0 := fieldOff_of (by kernel_rfl)
theorem ag49 : Agg Tryd.prog 49 1 := agg_of (by kernel_rfl)
theorem sz49 : ∃ ti, Tryd.prog.info? 49 = some ti ∧ ti.size = 1 := size_of (by kernel_rfl)
theorem ze49 : Zero Tryd.prog 49 [.slice none 0 0] := zero_of (by kernel_rfl)
theorem bs49 : BuildS Tryd.prog 49 [.slice none 0 0] [(0, 1)] := ⟨ze49, _, Tryd.underlying49, fun _ => by kernel_rfl⟩
theorem fo49_0 : FieldOff Tryd.prog 49 0 0 := fieldOff_of (by kernel_rfl)
theorem on51 : One Tryd.prog 51 := one_of (by kernel_rfl)
theorem sz51 : ∃ ti, Tryd.prog.info? 51 = some ti ∧ ti.size = 1 := size_of (by kernel_rfl)
theorem up51 : Tryd.prog.underlying 51 = some (.pointer 65) := by kernel_rfl
theorem ze51 : Zero Tryd.prog 51 [.pointer none] := zero_of (by kernel_rfl)
theorem on58 : One Tryd.prog 58 := one_of (by kernel_rfl)
theorem sz58 : ∃ ti, Tryd.prog.info? 58 = some ti ∧ ti.size = 1 := size_of (by kernel_rfl)
theorem up58 : Tryd.prog.underlying 58 = some (.pointer 49) := by kernel_rfl
theorem ze58 : Zero Tryd.prog 58 [.pointer none] := zero_of (by kernel_rfl)
theorem on60 : One Tryd.prog 60 := one_of (by kernel_rfl)
theorem sz60 : ∃ ti, Tryd.prog.info? 60 = some ti ∧ ti.size = 1 := size_of (by kernel_rfl)
theorem ui60 : Tryd.prog.underlying 60 = some (.int .u64) := by kernel_rfl
theorem ze60 : Zero Tryd.prog 60 [.int .u64 0] := zero_of (by kernel_rfl)
theorem ag62 : Agg Tryd.prog 62 2 := agg_of (by kernel_rfl)
theorem sz62 : ∃ ti, Tryd.prog.info? 62 = some ti ∧ ti.size = 2 := size_of (by kernel_rfl)
theorem ze62 : Zero Tryd.prog 62 [.slice none 0 0, .int .i64 0] := zero_of (by kernel_rfl)
theorem bs62 : BuildS Tryd.prog 62 [.slice none 0 0, .int .i64 0] [(0, 1), (1, 1)] := ⟨ze62, _, Tryd.underlying62, fun _ => by kernel_rfl⟩
theorem fo62_0 : FieldOff Tryd.prog 62 0 0 := fieldOff_of (by kernel_rfl)
theorem fo62_1 : FieldOff Tryd.prog 62 1 1 := fieldOff_of (by kernel_rfl)
theorem ag63 : Agg Tryd.prog 63 2 := agg_of (by kernel_rfl)
theorem sz63 : ∃ ti, Tryd.prog.info? 63 = some ti ∧ ti.size = 2 := size_of (by kernel_rfl)
theorem ze63 : Zero Tryd.prog 63 [.slice none 0 0, .int .i64 0] := zero_of (by kernel_rfl)
theorem bs63 : BuildS Tryd.prog 63 [.slice none 0 0, .int .i64 0] [(0, 1), (1, 1)] := ⟨ze63, _, Tryd.underlying63, fun _ => by kernel_rfl⟩
theorem fo63_0 : FieldOff Tryd.prog 63 0 0 := fieldOff_of (by kernel_rfl)
theorem fo63_1 : FieldOff Tryd.prog 63 1 1 := fieldOff_of (by kernel_rfl)
theorem ag64 : Agg Tryd.prog 64 2 := agg_of (by kernel_rfl)
theorem sz64 : ∃ ti, Tryd.prog.info? 64 = some ti ∧ ti.size = 2 := size_of (by kernel_rfl)
theorem ze64 : Zero Tryd.prog 64 [.slice none 0 0, .int .i64 0] := zero_of (by kernel_rfl)
theorem bs64 : BuildS Tryd.prog 64 [.slice none 0 0, .int .i64 0] [(0, 2)] := ⟨ze64, _, Tryd.underlying64, fun _ => by kernel_rfl⟩
theorem fo64_0 : FieldOff Tryd.prog 64 0 0 := fieldOff_of (by kernel_rfl)
theorem ag65 : Agg Tryd.prog 65 2 := agg_of (by kernel_rfl)
theorem sz65 : ∃ ti, Tryd.prog.info? 65 = some ti ∧ ti.size = 2 := size_of (by kernel_rfl)
theorem ze65 : Zero Tryd.prog 65 [.slice none 0 0, .int .i64 0] := zero_of (by kernel_rfl)
theorem bs65 : BuildS Tryd.prog 65 [.slice none 0 0, .int .i64 0] [(0, 2)] := ⟨ze65, _, Tryd.underlying65, fun _ => by kernel_rfl⟩
theorem fo65_0 : FieldOff Tryd.prog 65 0 0 := fieldOff_of (by kernel_rfl)
theorem on66 : One Tryd.prog 66 := one_of (by kernel_rfl)
theorem sz66 : ∃ ti, Tryd.prog.info? 66 = some ti ∧ ti.size = 1 := size_of (by kernel_rfl)
theorem up66 : Tryd.prog.underlying 66 = some (.pointer 47) := by kernel_rfl
theorem ze66 : Zero Tryd.prog 66 [.pointer none] := zero_of (by kernel_rfl)
theorem on70 : One Tryd.prog 70 := one_of (by kernel_rfl)
theorem sz70 : ∃ ti, Tryd.prog.info? 70 = some ti ∧ ti.size = 1 := size_of (by kernel_rfl)
theorem ui70 : Tryd.prog.underlying 70 = some (.int .u64) := by kernel_rfl
theorem ze70 : Zero Tryd.prog 70 [.int .u64 0] := zero_of (by kernel_rfl)
theorem on72 : One Tryd.prog 72 := one_of (by kernel_rfl)
theorem sz72 : ∃ ti, Tryd.prog.info? 72 = some ti ∧ ti.size = 1 := size_of (by kernel_rfl)
theorem up72 : Tryd.prog.underlying 72 = some (.pointer 63) := by kernel_rfl
theorem ze72 : Zero Tryd.prog 72 [.pointer none] := zero_of (by kernel_rfl)
theorem ag74 : Agg Tryd.prog 74 24 := agg_of (by kernel_rfl)
theorem sz74 : ∃ ti, Tryd.prog.info? 74 = some ti ∧ ti.size = 24 := size_of (by kernel_rfl)
theorem ze74 : Zero Tryd.prog 74 (List.replicate 24 (.int .u8 0)) := zero_of (by kernel_rfl)
theorem ar74 : ArrTy Tryd.prog 74 24 5 1 := arrTy_of (by kernel_rfl)
theorem ce74 : Tryd.prog.cellsOf 5 = 1 := by kernel_rfl
theorem eg74 : Tryd.prog.eqGuardType Tryd.prog.depth 74 = false := by kernel_rfl
theorem ba74 : BuildA Tryd.prog 74 (List.replicate 24 (.int .u8 0)) 24 1 := buildA_of ze74 ar74
theorem ag80 : Agg Tryd.prog 80 20 := agg_of (by kernel_rfl)
theorem sz80 : ∃ ti, Tryd.prog.info? 80 = some ti ∧ ti.size = 20 := size_of (by kernel_rfl)
theorem ze80 : Zero Tryd.prog 80 (List.replicate 20 (.int .u64 0)) := zero_of (by kernel_rfl)
theorem ar80 : ArrTy Tryd.prog 80 20 60 1 := arrTy_of (by kernel_rfl)
theorem ce80 : Tryd.prog.cellsOf 60 = 1 := by kernel_rfl
theorem eg80 : Tryd.prog.eqGuardType Tryd.prog.depth 80 = false := by kernel_rfl
theorem ba80 : BuildA Tryd.prog 80 (List.replicate 20 (.int .u64 0)) 20 1 := buildA_of ze80 ar80
theorem on81 : One Tryd.prog 81 := one_of (by kernel_rfl)
theorem sz81 : ∃ ti, Tryd.prog.info? 81 = some ti ∧ ti.size = 1 := size_of (by kernel_rfl)
theorem ui81 : Tryd.prog.underlying 81 = some (.int .u32) := by kernel_rfl
theorem ze81 : Zero Tryd.prog 81 [.int .u32 0] := zero_of (by kernel_rfl)
theorem ag82 : Agg Tryd.prog 82 65 := agg_of (by kernel_rfl)
theorem sz82 : ∃ ti, Tryd.prog.info? 82 = some ti ∧ ti.size = 65 := size_of (by kernel_rfl)
theorem ze82 : Zero Tryd.prog 82 (List.replicate 65 (.int .u8 0)) := zero_of (by kernel_rfl)
theorem ar82 : ArrTy Tryd.prog 82 65 5 1 := arrTy_of (by kernel_rfl)
theorem ce82 : Tryd.prog.cellsOf 5 = 1 := by kernel_rfl
theorem eg82 : Tryd.prog.eqGuardType Tryd.prog.depth 82 = false := by kernel_rfl
theorem ba82 : BuildA Tryd.prog 82 (List.replicate 65 (.int .u8 0)) 65 1 := buildA_of ze82 ar82
theorem ag85 : Agg Tryd.prog 85 32 := agg_of (by kernel_rfl)
theorem sz85 : ∃ ti, Tryd.prog.info? 85 = some ti ∧ ti.size = 32 := size_of (by kernel_rfl)
theorem ze85 : Zero Tryd.prog 85 (List.replicate 32 (.int .u8 0)) := zero_of (by kernel_rfl)
theorem ar85 : ArrTy Tryd.prog 85 32 5 1 := arrTy_of (by kernel_rfl)
theorem ce85 : Tryd.prog.cellsOf 5 = 1 := by kernel_rfl
theorem eg85 : Tryd.prog.eqGuardType Tryd.prog.depth 85 = false := by kernel_rfl
theorem ba85 : BuildA Tryd.prog 85 (List.replicate 32 (.int .u8 0)) 32 1 := buildA_of ze85 ar85
theorem ag86 : Agg Tryd.prog 86 64 := agg_of (by kernel_rfl)
theorem sz86 : ∃ ti, Tryd.prog.info? 86 = some ti ∧ ti.size = 64 := size_of (by kernel_rfl)
theorem ze86 : Zero Tryd.prog 86 (List.replicate 64 (.int .u8 0)) := zero_of (by kernel_rfl)
theorem ar86 : ArrTy Tryd.prog 86 64 5 1 := arrTy_of (by kernel_rfl)
theorem ce86 : Tryd.prog.cellsOf 5 = 1 := by kernel_rfl
theorem eg86 : Tryd.prog.eqGuardType Tryd.prog.depth 86 = false := by kernel_rfl
theorem ba86 : BuildA Tryd.prog 86 (List.replicate 64 (.int .u8 0)) 64 1 := buildA_of ze86 ar86
theorem ag88 : Agg Tryd.prog 88 4 := agg_of (by kernel_rfl)
theorem sz88 : ∃ ti, Tryd.prog.info? 88 = some ti ∧ ti.size = 4 := size_of (by kernel_rfl)
theorem ze88 : Zero Tryd.prog 88 [.pointer none, .pointer none, .pointer none, vS []] := zero_of (by kernel_rfl)
theorem bs88 : BuildS Tryd.prog 88 [.pointer none, .pointer none, .pointer none, vS []] [(0, 1), (1, 1), (2, 1), (3, 1)] := ⟨ze88, _, Tryd.underlying88, fun _ => by kernel_rfl⟩
theorem fo88_0 : FieldOff Tryd.prog 88 0 0 := fieldOff_of (by kernel_rfl)
theorem fo88_1 : FieldOff Tryd.prog 88 1 1 := fieldOff_of (by kernel_rfl)
theorem fo88_2 : FieldOff Tryd.prog 88 2 2 := fieldOff_of (by kernel_rfl)
theorem fo88_3 : FieldOff Tryd.prog 88 3 3 := fieldOff_of (by kernel_rfl)
theorem ag89 : Agg Tryd.prog 89 4 := agg_of (by kernel_rfl)
theorem sz89 : ∃ ti, Tryd.prog.info? 89 = some ti ∧ ti.size = 4 := size_of (by kernel_rfl)
theorem ze89 : Zero Tryd.prog 89 [.pointer none, .pointer none, .pointer none, vS []] := zero_of (by kernel_rfl)
theorem bs89 : BuildS Tryd.prog 89 [.pointer none, .pointer none, .pointer none, vS []] [(0, 1), (1, 1), (2, 1), (3, 1)] := ⟨ze89, _, Tryd.underlying89, fun _ => by kernel_rfl⟩
theorem fo89_0 : FieldOff Tryd.prog 89 0 0 := fieldOff_of (by kernel_rfl)
theorem fo89_1 : FieldOff Tryd.prog 89 1 1 := fieldOff_of (by kernel_rfl)
theorem fo89_2 : FieldOff Tryd.prog 89 2 2 := fieldOff_of (by kernel_rfl)
theorem fo89_3 : FieldOff Tryd.prog 89 3 3 := fieldOff_of (by kernel_rfl)
theorem on94 : One Tryd.prog 94 := one_of (by kernel_rfl)
theorem sz94 : ∃ ti, Tryd.prog.info? 94 = some ti ∧ ti.size = 1 := size_of (by kernel_rfl)
theorem ui94 : Tryd.prog.underlying 94 = some (.int .u8) := by kernel_rfl
theorem ze94 : Zero Tryd.prog 94 [.int .u8 0] := zero_of (by kernel_rfl)
theorem on95 : One Tryd.prog 95 := one_of (by kernel_rfl)
theorem sz95 : ∃ ti, Tryd.prog.info? 95 = some ti ∧ ti.size = 1 := size_of (by kernel_rfl)
theorem ui95 : Tryd.prog.underlying 95 = some (.int .u8) := by kernel_rfl
theorem ze95 : Zero Tryd.prog 95 [.int .u8 0] := zero_of (by kernel_rfl)
theorem on97 : One Tryd.prog 97 := one_of (by kernel_rfl)
theorem sz97 : ∃ ti, Tryd.prog.info? 97 = some ti ∧ ti.size = 1 := size_of (by kernel_rfl)
theorem up97 : Tryd.prog.underlying 97 = some (.pointer 5) := by kernel_rfl
theorem ze97 : Zero Tryd.prog 97 [.pointer none] := zero_of (by kernel_rfl)
theorem on98 : One Tryd.prog 98 := one_of (by kernel_rfl)
theorem sz98 : ∃ ti, Tryd.prog.info? 98 = some ti ∧ ti.size = 1 := size_of (by kernel_rfl)
theorem ui98 : Tryd.prog.underlying 98 = some (.int .i32) := by kernel_rfl
theorem ze98 : Zero Tryd.prog 98 [.int .i32 0] := zero_of (by kernel_rfl)
theorem on99 : One Tryd.prog 99 := one_of (by kernel_rfl)
theorem sz99 : ∃ ti, Tryd.prog.info? 99 = some ti ∧ ti.size = 1 := size_of (by kernel_rfl)
theorem ui99 : Tryd.prog.underlying 99 = some (.int .i32) := by kernel_rfl
theorem ze99 : Zero Tryd.prog 99 [.int .i32 0] := zero_of (by kernel_rfl)
theorem ag100 : Agg Tryd.prog 100 11 := agg_of (by kernel_rfl)
theorem sz100 : ∃ ti, Tryd.prog.info? 100 = some ti ∧ ti.size = 11 := size_of (by kernel_rfl)
theorem ze100 : Zero Tryd.prog 100 [.int .u64 0, .int .u64 0, .int .u32 0, .int .u8 0, .int .u8 0, .int .u8 0, .int .u8 0, .nilFunc, .pointer none, .int .i32 0, .int .i32 0] := zero_of (by kernel_rfl)
theorem bs100 : BuildS Tryd.prog 100 [.int .u64 0, .int .u64 0, .int .u32 0, .int .u8 0, .int .u8 0, .int .u8 0, .int .u8 0, .nilFunc, .pointer none, .int .i32 0, .int .i32 0] [(0, 1), (1, 1), (2, 1), (3, 1), (4, 1), (5, 1), (6, 1), (7, 1), (8, 1), (9, 1), (10, 1)] := ⟨ze100, _, Tryd.underlying100, fun _ => by kernel_rfl⟩
theorem fo100_0 : FieldOff Tryd.prog 100 0 0 := fieldOff_of (by kernel_rfl)
theorem fo100_1 : FieldOff Tryd.prog 100 1 1 := fieldOff_of (by kernel_rfl)
theorem fo100_2 : FieldOff Tryd.prog 100 2 2 := fieldOff_of (by kernel_rfl)
theorem fo100_3 : FieldOff Tryd.prog 100 3 3 := fieldOff_of (by kernel_rfl)
theorem fo100_4 : FieldOff Tryd.prog 100 4 4 := fieldOff_of (by kernel_rfl)
theorem fo100_5 : FieldOff Tryd.prog 100 5 5 := fieldOff_of (by kernel_rfl)
theorem fo100_6 : FieldOff Tryd.prog 100 6 6 := fieldOff_of (by kernel_rfl)
theorem fo100_7 : FieldOff Tryd.prog 100 7 7 := fieldOff_of (by kernel_rfl)
theorem fo100_8 : FieldOff Tryd.prog 100 8 8 := fieldOff_of (by kernel_rfl)
theorem fo100_9 : FieldOff Tryd.prog 100 9 9 := fieldOff_of (by kernel_rfl)
theorem fo100_10 : FieldOff Tryd.prog 100 10 10 := fieldOff_of (by kernel_rfl)
theorem ag101 : Agg Tryd.prog 101 11 := agg_of (by kernel_rfl)
theorem sz101 : ∃ ti, Tryd.prog.info? 101 = some ti ∧ ti.size = 11 := size_of (by kernel_rfl)
theorem ze101 : Zero Tryd.prog 101 [.int .u64 0, .int .u64 0, .int .u32 0, .int .u8 0, .int .u8 0, .int .u8 0, .int .u8 0, .nilFunc, .pointer none, .int .i32 0, .int .i32 0] := zero_of (by kernel_rfl)
theorem bs101 : BuildS Tryd.prog 101 [.int .u64 0, .int .u64 0, .int .u32 0, .int .u8 0, .int .u8 0, .int .u8 0, .int .u8 0, .nilFunc, .pointer none, .int .i32 0, .int .i32 0] [(0, 1), (1, 1), (2, 1), (3, 1), (4, 1), (5, 1), (6, 1), (7, 1), (8, 1), (9, 1), (10, 1)] := ⟨ze101, _, Tryd.underlying101, fun _ => by kernel_rfl⟩
theorem fo101_0 : FieldOff Tryd.prog 101 0 0 := fieldOff_of (by kernel_rfl)
theorem fo101_1 : FieldOff Tryd.prog 101 1 1 := fieldOff_of (by kernel_rfl)
theorem fo101_2 : FieldOff Tryd.prog 101 2 2 := fieldOff_of (by kernel_rfl)
theorem fo101_3 : FieldOff Tryd.prog 101 3 3 := fieldOff_of (by kernel_rfl)
theorem fo101_4 : FieldOff Tryd.prog 101 4 4 := fieldOff_of (by kernel_rfl)
theorem fo101_5 : FieldOff Tryd.prog 101 5 5 := fieldOff_of (by kernel_rfl)
theorem fo101_6 : FieldOff Tryd.prog 101 6 6 := fieldOff_of (by kernel_rfl)
theorem fo101_7 : FieldOff Tryd.prog 101 7 7 := fieldOff_of (by kernel_rfl)
theorem fo101_8 : FieldOff Tryd.prog 101 8 8 := fieldOff_of (by kernel_rfl)
theorem fo101_9 : FieldOff Tryd.prog 101 9 9 := fieldOff_of (by kernel_rfl)
theorem fo101_10 : FieldOff Tryd.prog 101 10 10 := fieldOff_of (by kernel_rfl)
theorem go2 : IsGo Tryd.prog 2 := isGo_of Tryd.func2 (by kernel_rfl)
theorem go3 : IsGo Tryd.prog 3 := isGo_of Tryd.func3 (by kernel_rfl)
theorem go4 : IsGo Tryd.prog 4 := isGo_of Tryd.func4 (by kernel_rfl)
theorem go5 : IsGo Tryd.prog 5 := isGo_of Tryd.func5 (by kernel_rfl)
theorem go6 : IsGo Tryd.prog 6 := isGo_of Tryd.func6 (by kernel_rfl)
theorem go7 : IsGo Tryd.prog 7 := isGo_of Tryd.func7 (by kernel_rfl)
theorem go8 : IsGo Tryd.prog 8 := isGo_of Tryd.func8 (by kernel_rfl)
theorem go9 : IsGo Tryd.prog 9 := isGo_of Tryd.func9 (by kernel_rfl)
theorem go10 : IsGo Tryd.prog 10 := isGo_of Tryd.func10 (by kernel_rfl)
theorem go11 : IsGo Tryd.prog 11 := isGo_of Tryd.func11 (by kernel_rfl)
theorem go12 : IsGo Tryd.prog 12 := isGo_of Tryd.func12 (by kernel_rfl)
theorem go13 : IsGo Tryd.prog 13 := isGo_of Tryd.func13 (by kernel_rfl)
theorem go14 : IsGo Tryd.prog 14 := isGo_of Tryd.func14 (by kernel_rfl)
theorem go15 : IsGo Tryd.prog 15 := isGo_of Tryd.func15 (by kernel_rfl)
theorem go16 : IsGo Tryd.prog 16 := isGo_of Tryd.func16 (by kernel_rfl)
theorem go17 : IsGo Tryd.prog 17 := isGo_of Tryd.func17 (by kernel_rfl)
theorem go18 : IsGo Tryd.prog 18 := isGo_of Tryd.func18 (by kernel_rfl)
theorem go19 : IsGo Tryd.prog 19 := isGo_of Tryd.func19 (by kernel_rfl)
theorem go20 : IsGo Tryd.prog 20 := isGo_of Tryd.func20 (by kernel_rfl)
theorem go21 : IsGo Tryd.prog 21 := isGo_of Tryd.func21 (by kernel_rfl)
theorem go22 : IsGo Tryd.prog 22 := isGo_of Tryd.func22 (by kernel_rfl)
theorem go23 : IsGo Tryd.prog 23 := isGo_of Tryd.func23 (by kernel_rfl)
theorem go24 : IsGo Tryd.prog 24 := isGo_of Tryd.func24 (by kernel_rfl)
theorem go25 : IsGo Tryd.prog 25 := isGo_of Tryd.func25 (by kernel_rfl)
theorem go26 : IsGo Tryd.prog 26 := isGo_of Tryd.func26 (by kernel_rfl)
theorem go27 : IsGo Tryd.prog 27 := isGo_of Tryd.func27 (by kernel_rfl)
theorem go28 : IsGo Tryd.prog 28 := isGo_of Tryd.func28 (by kernel_rfl)
theorem go29 : IsGo Tryd.prog 29 := isGo_of Tryd.func29 (by kernel_rfl)
theorem go30 : IsGo Tryd.prog 30 := isGo_of Tryd.func30 (by kernel_rfl)
theorem go31 : IsGo Tryd.prog 31 := isGo_of Tryd.func31 (by kernel_rfl)
theorem go32 : IsGo Tryd.prog 32 := isGo_of Tryd.func32 (by kernel_rfl)
theorem go33 : IsGo Tryd.prog 33 := isGo_of Tryd.func33 (by kernel_rfl)
theorem go34 : IsGo Tryd.prog 34 := isGo_of Tryd.func34 (by kernel_rfl)
theorem go35 : IsGo Tryd.prog 35 := isGo_of Tryd.func35 (by kernel_rfl)
theorem go36 : IsGo Tryd.prog 36 := isGo_of Tryd.func36 (by kernel_rfl)
theorem go37 : IsGo Tryd.prog 37 := isGo_of Tryd.func37 (by kernel_rfl)
theorem go38 : IsGo Tryd.prog 38 := isGo_of Tryd.func38 (by kernel_rfl)
theorem go39 : IsGo Tryd.prog 39 := isGo_of Tryd.func39 (by kernel_rfl)
theorem go40 : IsGo Tryd.prog 40 := isGo_of Tryd.func40 (by kernel_rfl)
theorem go41 : IsGo Tryd.prog 41 := isGo_of Tryd.func41 (by kernel_rfl)
theorem go42 : IsGo Tryd.prog 42 := isGo_of Tryd.func42 (by kernel_rfl)
theorem go43 : IsGo Tryd.prog 43 := isGo_of Tryd.func43 (by kernel_rfl)
theorem go44 : IsGo Tryd.prog 44 := isGo_of Tryd.func44 (by kernel_rfl)
theorem go45 : IsGo Tryd.prog 45 := isGo_of Tryd.func45 (by kernel_rfl)
theorem go46 : IsGo Tryd.prog 46 := isGo_of Tryd.func46 (by kernel_rfl)
theorem go47 : IsGo Tryd.prog 47 := isGo_of Tryd.func47 (by kernel_rfl)
theorem go48 : IsGo Tryd.prog 48 := isGo_of Tryd.func48 (by kernel_rfl)
theorem go49 : IsGo Tryd.prog 49 := isGo_of Tryd.func49 (by kernel_rfl)
theorem go50 : IsGo Tryd.prog 50 := isGo_of Tryd.func50 (by kernel_rfl)
theorem go51 : IsGo Tryd.prog 51 := isGo_of Tryd.func51 (by kernel_rfl)
theorem go52 : IsGo Tryd.prog 52 := isGo_of Tryd.func52 (by kernel_rfl)
theorem go53 : IsGo Tryd.prog 53 := isGo_of Tryd.func53 (by kernel_rfl)
theorem go54 : IsGo Tryd.prog 54 := isGo_of Tryd.func54 (by kernel_rfl)
theorem go55 : IsGo Tryd.prog 55 := isGo_of Tryd.func55 (by kernel_rfl)
theorem go81 : IsGo Tryd.prog 81 := isGo_of Tryd.func81 (by kernel_rfl)

end Go.Proofs.YteopejoppdgncaaDoor
