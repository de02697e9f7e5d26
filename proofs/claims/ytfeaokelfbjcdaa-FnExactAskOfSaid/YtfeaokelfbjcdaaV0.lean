/- Types of the seat, in the engine's words. No condition. -/
import Derived.Test.YtfeaokelfbjcdaaE28
import Derived.Test.YtfeaokelfbjcdaaProg
import Derived.KernelRfl
namespace Go.Ve
open Go.Proofs
set_option linter.unusedVariables false
@[go_sem] theorem ty_2 : tyOf Try.prog 2 = .int .i64 := by kernel_rfl
@[go_sem] theorem ce_2 : Try.prog.cellsOf 2 = 1 := by kernel_rfl
@[go_sem] theorem by_2 : Try.prog.bytesOf 2 = 8 := by kernel_rfl
@[go_sem] theorem io_2 : (Try.prog.info? 2).isSome = true := by kernel_rfl
@[go_sem] theorem un_2 : (Try.prog.underlying 2).isSome = true := by kernel_rfl
@[go_sem] theorem zo_2 : zOk Try.prog 2 = true := by kernel_rfl
@[go_sem] theorem zc_2 : zcells Try.prog 2 = [.int .i64 0] := by kernel_rfl
@[go_sem] theorem ze_2 : zel Try.prog 2 = .int .i64 0 := by kernel_rfl
@[go_sem] theorem ty_3 : tyOf Try.prog 3 = .int .i64 := by kernel_rfl
@[go_sem] theorem ce_3 : Try.prog.cellsOf 3 = 1 := by kernel_rfl
@[go_sem] theorem by_3 : Try.prog.bytesOf 3 = 8 := by kernel_rfl
@[go_sem] theorem io_3 : (Try.prog.info? 3).isSome = true := by kernel_rfl
@[go_sem] theorem un_3 : (Try.prog.underlying 3).isSome = true := by kernel_rfl
@[go_sem] theorem zo_3 : zOk Try.prog 3 = true := by kernel_rfl
@[go_sem] theorem zc_3 : zcells Try.prog 3 = [.int .i64 0] := by kernel_rfl
@[go_sem] theorem ze_3 : zel Try.prog 3 = .int .i64 0 := by kernel_rfl
@[go_sem] theorem ty_4 : tyOf Try.prog 4 = .bool := by kernel_rfl
@[go_sem] theorem ce_4 : Try.prog.cellsOf 4 = 1 := by kernel_rfl
@[go_sem] theorem by_4 : Try.prog.bytesOf 4 = 1 := by kernel_rfl
@[go_sem] theorem io_4 : (Try.prog.info? 4).isSome = true := by kernel_rfl
@[go_sem] theorem un_4 : (Try.prog.underlying 4).isSome = true := by kernel_rfl
@[go_sem] theorem zo_4 : zOk Try.prog 4 = true := by kernel_rfl
@[go_sem] theorem zc_4 : zcells Try.prog 4 = [.bool false] := by kernel_rfl
@[go_sem] theorem ze_4 : zel Try.prog 4 = .bool false := by kernel_rfl
@[go_sem] theorem ty_5 : tyOf Try.prog 5 = .int .u8 := by kernel_rfl
@[go_sem] theorem ce_5 : Try.prog.cellsOf 5 = 1 := by kernel_rfl
@[go_sem] theorem by_5 : Try.prog.bytesOf 5 = 1 := by kernel_rfl
@[go_sem] theorem io_5 : (Try.prog.info? 5).isSome = true := by kernel_rfl
@[go_sem] theorem un_5 : (Try.prog.underlying 5).isSome = true := by kernel_rfl
@[go_sem] theorem zo_5 : zOk Try.prog 5 = true := by kernel_rfl
@[go_sem] theorem zc_5 : zcells Try.prog 5 = [.int .u8 0] := by kernel_rfl
@[go_sem] theorem ze_5 : zel Try.prog 5 = .int .u8 0 := by kernel_rfl
@[go_sem] theorem ty_6 : tyOf Try.prog 6 = .int .u8 := by kernel_rfl
@[go_sem] theorem ce_6 : Try.prog.cellsOf 6 = 1 := by kernel_rfl
@[go_sem] theorem by_6 : Try.prog.bytesOf 6 = 1 := by kernel_rfl
@[go_sem] theorem io_6 : (Try.prog.info? 6).isSome = true := by kernel_rfl
@[go_sem] theorem un_6 : (Try.prog.underlying 6).isSome = true := by kernel_rfl
@[go_sem] theorem zo_6 : zOk Try.prog 6 = true := by kernel_rfl
@[go_sem] theorem zc_6 : zcells Try.prog 6 = [.int .u8 0] := by kernel_rfl
@[go_sem] theorem ze_6 : zel Try.prog 6 = .int .u8 0 := by kernel_rfl
@[go_sem] theorem ty_8 : tyOf Try.prog 8 = .agg := by kernel_rfl
@[go_sem] theorem ce_8 : Try.prog.cellsOf 8 = 4 := by kernel_rfl
@[go_sem] theorem by_8 : Try.prog.bytesOf 8 = 24 := by kernel_rfl
@[go_sem] theorem io_8 : (Try.prog.info? 8).isSome = true := by kernel_rfl
@[go_sem] theorem un_8 : (Try.prog.underlying 8).isSome = true := by kernel_rfl
@[go_sem] theorem zo_8 : zOk Try.prog 8 = true := by kernel_rfl
@[go_sem] theorem zc_8 : zcells Try.prog 8 = [.int .i64 0, .int .i64 0, .bool false, .int .u8 0] := by kernel_rfl
@[go_sem] theorem ze_8 : zel Try.prog 8 = .agg [.int .i64 0, .int .i64 0, .bool false, .int .u8 0] := by kernel_rfl
@[go_sem] theorem fo_8 : fldsOk Try.prog 8 = true := by kernel_rfl
@[go_sem] theorem fl_8_0 : fld Try.prog 8 0 = some (0, 2) := by kernel_rfl
@[go_sem] theorem fl_8_1 : fld Try.prog 8 1 = some (1, 3) := by kernel_rfl
@[go_sem] theorem fl_8_2 : fld Try.prog 8 2 = some (2, 4) := by kernel_rfl
@[go_sem] theorem fl_8_3 : fld Try.prog 8 3 = some (3, 6) := by kernel_rfl
@[go_sem] theorem ty_9 : tyOf Try.prog 9 = .str := by kernel_rfl
@[go_sem] theorem ce_9 : Try.prog.cellsOf 9 = 1 := by kernel_rfl
@[go_sem] theorem by_9 : Try.prog.bytesOf 9 = 16 := by kernel_rfl
@[go_sem] theorem io_9 : (Try.prog.info? 9).isSome = true := by kernel_rfl
@[go_sem] theorem un_9 : (Try.prog.underlying 9).isSome = true := by kernel_rfl
@[go_sem] theorem zo_9 : zOk Try.prog 9 = true := by kernel_rfl
@[go_sem] theorem zc_9 : zcells Try.prog 9 = [.str ⟨#[]⟩] := by kernel_rfl
@[go_sem] theorem ze_9 : zel Try.prog 9 = .str ⟨#[]⟩ := by kernel_rfl
@[go_sem] theorem ty_10 : tyOf Try.prog 10 = .str := by kernel_rfl
@[go_sem] theorem ce_10 : Try.prog.cellsOf 10 = 1 := by kernel_rfl
@[go_sem] theorem by_10 : Try.prog.bytesOf 10 = 16 := by kernel_rfl
@[go_sem] theorem io_10 : (Try.prog.info? 10).isSome = true := by kernel_rfl
@[go_sem] theorem un_10 : (Try.prog.underlying 10).isSome = true := by kernel_rfl
@[go_sem] theorem zo_10 : zOk Try.prog 10 = true := by kernel_rfl
@[go_sem] theorem zc_10 : zcells Try.prog 10 = [.str ⟨#[]⟩] := by kernel_rfl
@[go_sem] theorem ze_10 : zel Try.prog 10 = .str ⟨#[]⟩ := by kernel_rfl
@[go_sem] theorem ty_11 : tyOf Try.prog 11 = .str := by kernel_rfl
@[go_sem] theorem ce_11 : Try.prog.cellsOf 11 = 1 := by kernel_rfl
@[go_sem] theorem by_11 : Try.prog.bytesOf 11 = 16 := by kernel_rfl
@[go_sem] theorem io_11 : (Try.prog.info? 11).isSome = true := by kernel_rfl
@[go_sem] theorem un_11 : (Try.prog.underlying 11).isSome = true := by kernel_rfl
@[go_sem] theorem zo_11 : zOk Try.prog 11 = true := by kernel_rfl
@[go_sem] theorem zc_11 : zcells Try.prog 11 = [.str ⟨#[]⟩] := by kernel_rfl
@[go_sem] theorem ze_11 : zel Try.prog 11 = .str ⟨#[]⟩ := by kernel_rfl
@[go_sem] theorem ty_12 : tyOf Try.prog 12 = .int .u64 := by kernel_rfl
@[go_sem] theorem ce_12 : Try.prog.cellsOf 12 = 1 := by kernel_rfl
@[go_sem] theorem by_12 : Try.prog.bytesOf 12 = 8 := by kernel_rfl
@[go_sem] theorem io_12 : (Try.prog.info? 12).isSome = true := by kernel_rfl
@[go_sem] theorem un_12 : (Try.prog.underlying 12).isSome = true := by kernel_rfl
@[go_sem] theorem zo_12 : zOk Try.prog 12 = true := by kernel_rfl
@[go_sem] theorem zc_12 : zcells Try.prog 12 = [.int .u64 0] := by kernel_rfl
@[go_sem] theorem ze_12 : zel Try.prog 12 = .int .u64 0 := by kernel_rfl
@[go_sem] theorem ty_14 : tyOf Try.prog 14 = .agg := by kernel_rfl
@[go_sem] theorem ce_14 : Try.prog.cellsOf 14 = 2 := by kernel_rfl
@[go_sem] theorem by_14 : Try.prog.bytesOf 14 = 24 := by kernel_rfl
@[go_sem] theorem io_14 : (Try.prog.info? 14).isSome = true := by kernel_rfl
@[go_sem] theorem un_14 : (Try.prog.underlying 14).isSome = true := by kernel_rfl
@[go_sem] theorem zo_14 : zOk Try.prog 14 = true := by kernel_rfl
@[go_sem] theorem zc_14 : zcells Try.prog 14 = [.str ⟨#[]⟩, .int .u64 0] := by kernel_rfl
@[go_sem] theorem ze_14 : zel Try.prog 14 = .agg [.str ⟨#[]⟩, .int .u64 0] := by kernel_rfl
@[go_sem] theorem fo_14 : fldsOk Try.prog 14 = true := by kernel_rfl
@[go_sem] theorem fl_14_0 : fld Try.prog 14 0 = some (0, 9) := by kernel_rfl
@[go_sem] theorem fl_14_1 : fld Try.prog 14 1 = some (1, 12) := by kernel_rfl
@[go_sem] theorem ty_15 : tyOf Try.prog 15 = .ptr := by kernel_rfl
@[go_sem] theorem ce_15 : Try.prog.cellsOf 15 = 1 := by kernel_rfl
@[go_sem] theorem by_15 : Try.prog.bytesOf 15 = 8 := by kernel_rfl
@[go_sem] theorem io_15 : (Try.prog.info? 15).isSome = true := by kernel_rfl
@[go_sem] theorem un_15 : (Try.prog.underlying 15).isSome = true := by kernel_rfl
@[go_sem] theorem zo_15 : zOk Try.prog 15 = true := by kernel_rfl
@[go_sem] theorem zc_15 : zcells Try.prog 15 = [.nilp] := by kernel_rfl
@[go_sem] theorem ze_15 : zel Try.prog 15 = .nilp := by kernel_rfl
@[go_sem] theorem ty_16 : tyOf Try.prog 16 = .ptr := by kernel_rfl
@[go_sem] theorem ce_16 : Try.prog.cellsOf 16 = 1 := by kernel_rfl
@[go_sem] theorem by_16 : Try.prog.bytesOf 16 = 8 := by kernel_rfl
@[go_sem] theorem io_16 : (Try.prog.info? 16).isSome = true := by kernel_rfl
@[go_sem] theorem un_16 : (Try.prog.underlying 16).isSome = true := by kernel_rfl
@[go_sem] theorem zo_16 : zOk Try.prog 16 = true := by kernel_rfl
@[go_sem] theorem zc_16 : zcells Try.prog 16 = [.nilp] := by kernel_rfl
@[go_sem] theorem ze_16 : zel Try.prog 16 = .nilp := by kernel_rfl
@[go_sem] theorem ty_17 : tyOf Try.prog 17 = .ptr := by kernel_rfl
@[go_sem] theorem ce_17 : Try.prog.cellsOf 17 = 1 := by kernel_rfl
@[go_sem] theorem by_17 : Try.prog.bytesOf 17 = 8 := by kernel_rfl
@[go_sem] theorem io_17 : (Try.prog.info? 17).isSome = true := by kernel_rfl
@[go_sem] theorem un_17 : (Try.prog.underlying 17).isSome = true := by kernel_rfl
@[go_sem] theorem zo_17 : zOk Try.prog 17 = true := by kernel_rfl
@[go_sem] theorem zc_17 : zcells Try.prog 17 = [.nilp] := by kernel_rfl
@[go_sem] theorem ze_17 : zel Try.prog 17 = .nilp := by kernel_rfl
@[go_sem] theorem ty_19 : tyOf Try.prog 19 = .agg := by kernel_rfl
@[go_sem] theorem ce_19 : Try.prog.cellsOf 19 = 1 := by kernel_rfl
@[go_sem] theorem by_19 : Try.prog.bytesOf 19 = 8 := by kernel_rfl
@[go_sem] theorem io_19 : (Try.prog.info? 19).isSome = true := by kernel_rfl
@[go_sem] theorem un_19 : (Try.prog.underlying 19).isSome = true := by kernel_rfl
@[go_sem] theorem zo_19 : zOk Try.prog 19 = true := by kernel_rfl
@[go_sem] theorem zc_19 : zcells Try.prog 19 = [.nilp] := by kernel_rfl
@[go_sem] theorem ze_19 : zel Try.prog 19 = .agg [.nilp] := by kernel_rfl
@[go_sem] theorem fo_19 : fldsOk Try.prog 19 = true := by kernel_rfl
@[go_sem] theorem fl_19_0 : fld Try.prog 19 0 = some (0, 17) := by kernel_rfl
@[go_sem] theorem ty_22 : tyOf Try.prog 22 = .sl 2 := by kernel_rfl
@[go_sem] theorem ce_22 : Try.prog.cellsOf 22 = 1 := by kernel_rfl
@[go_sem] theorem by_22 : Try.prog.bytesOf 22 = 24 := by kernel_rfl
@[go_sem] theorem io_22 : (Try.prog.info? 22).isSome = true := by kernel_rfl
@[go_sem] theorem un_22 : (Try.prog.underlying 22).isSome = true := by kernel_rfl
@[go_sem] theorem zo_22 : zOk Try.prog 22 = true := by kernel_rfl
@[go_sem] theorem zc_22 : zcells Try.prog 22 = [.nils] := by kernel_rfl
@[go_sem] theorem ze_22 : zel Try.prog 22 = .nils := by kernel_rfl
@[go_sem] theorem ty_30 : tyOf Try.prog 30 = .sl 40 := by kernel_rfl
@[go_sem] theorem ce_30 : Try.prog.cellsOf 30 = 1 := by kernel_rfl
@[go_sem] theorem by_30 : Try.prog.bytesOf 30 = 24 := by kernel_rfl
@[go_sem] theorem io_30 : (Try.prog.info? 30).isSome = true := by kernel_rfl
@[go_sem] theorem un_30 : (Try.prog.underlying 30).isSome = true := by kernel_rfl
@[go_sem] theorem zo_30 : zOk Try.prog 30 = true := by kernel_rfl
@[go_sem] theorem zc_30 : zcells Try.prog 30 = [.nils] := by kernel_rfl
@[go_sem] theorem ze_30 : zel Try.prog 30 = .nils := by kernel_rfl
@[go_sem] theorem ty_33 : tyOf Try.prog 33 = .sl 43 := by kernel_rfl
@[go_sem] theorem ce_33 : Try.prog.cellsOf 33 = 1 := by kernel_rfl
@[go_sem] theorem by_33 : Try.prog.bytesOf 33 = 24 := by kernel_rfl
@[go_sem] theorem io_33 : (Try.prog.info? 33).isSome = true := by kernel_rfl
@[go_sem] theorem un_33 : (Try.prog.underlying 33).isSome = true := by kernel_rfl
@[go_sem] theorem zo_33 : zOk Try.prog 33 = true := by kernel_rfl
@[go_sem] theorem zc_33 : zcells Try.prog 33 = [.nils] := by kernel_rfl
@[go_sem] theorem ze_33 : zel Try.prog 33 = .nils := by kernel_rfl
@[go_sem] theorem ty_40 : tyOf Try.prog 40 = .agg := by kernel_rfl
@[go_sem] theorem ce_40 : Try.prog.cellsOf 40 = 4 := by kernel_rfl
@[go_sem] theorem by_40 : Try.prog.bytesOf 40 = 48 := by kernel_rfl
@[go_sem] theorem io_40 : (Try.prog.info? 40).isSome = true := by kernel_rfl
@[go_sem] theorem un_40 : (Try.prog.underlying 40).isSome = true := by kernel_rfl
@[go_sem] theorem zo_40 : zOk Try.prog 40 = true := by kernel_rfl
@[go_sem] theorem zc_40 : zcells Try.prog 40 = [.int .i64 0, .int .i64 0, .nils, .bool false] := by kernel_rfl
@[go_sem] theorem ze_40 : zel Try.prog 40 = .agg [.int .i64 0, .int .i64 0, .nils, .bool false] := by kernel_rfl
@[go_sem] theorem fo_40 : fldsOk Try.prog 40 = true := by kernel_rfl
@[go_sem] theorem fl_40_0 : fld Try.prog 40 0 = some (0, 2) := by kernel_rfl
@[go_sem] theorem fl_40_1 : fld Try.prog 40 1 = some (1, 2) := by kernel_rfl
@[go_sem] theorem fl_40_2 : fld Try.prog 40 2 = some (2, 22) := by kernel_rfl
@[go_sem] theorem fl_40_3 : fld Try.prog 40 3 = some (3, 4) := by kernel_rfl
@[go_sem] theorem ty_43 : tyOf Try.prog 43 = .agg := by kernel_rfl
@[go_sem] theorem ce_43 : Try.prog.cellsOf 43 = 4 := by kernel_rfl
@[go_sem] theorem by_43 : Try.prog.bytesOf 43 = 48 := by kernel_rfl
@[go_sem] theorem io_43 : (Try.prog.info? 43).isSome = true := by kernel_rfl
@[go_sem] theorem un_43 : (Try.prog.underlying 43).isSome = true := by kernel_rfl
@[go_sem] theorem zo_43 : zOk Try.prog 43 = true := by kernel_rfl
@[go_sem] theorem zc_43 : zcells Try.prog 43 = [.int .i64 0, .int .i64 0, .nils, .bool false] := by kernel_rfl
@[go_sem] theorem ze_43 : zel Try.prog 43 = .agg [.int .i64 0, .int .i64 0, .nils, .bool false] := by kernel_rfl
@[go_sem] theorem fo_43 : fldsOk Try.prog 43 = true := by kernel_rfl
@[go_sem] theorem fl_43_0 : fld Try.prog 43 0 = some (0, 2) := by kernel_rfl
@[go_sem] theorem fl_43_1 : fld Try.prog 43 1 = some (1, 2) := by kernel_rfl
@[go_sem] theorem fl_43_2 : fld Try.prog 43 2 = some (2, 22) := by kernel_rfl
@[go_sem] theorem fl_43_3 : fld Try.prog 43 3 = some (3, 4) := by kernel_rfl
@[go_sem] theorem ty_50 : tyOf Try.prog 50 = .sl 5 := by kernel_rfl
@[go_sem] theorem ce_50 : Try.prog.cellsOf 50 = 1 := by kernel_rfl
@[go_sem] theorem by_50 : Try.prog.bytesOf 50 = 24 := by kernel_rfl
@[go_sem] theorem io_50 : (Try.prog.info? 50).isSome = true := by kernel_rfl
@[go_sem] theorem un_50 : (Try.prog.underlying 50).isSome = true := by kernel_rfl
@[go_sem] theorem zo_50 : zOk Try.prog 50 = true := by kernel_rfl
@[go_sem] theorem zc_50 : zcells Try.prog 50 = [.nils] := by kernel_rfl
@[go_sem] theorem ze_50 : zel Try.prog 50 = .nils := by kernel_rfl
@[go_sem] theorem ty_59 : tyOf Try.prog 59 = .ptr := by kernel_rfl
@[go_sem] theorem ce_59 : Try.prog.cellsOf 59 = 1 := by kernel_rfl
@[go_sem] theorem by_59 : Try.prog.bytesOf 59 = 8 := by kernel_rfl
@[go_sem] theorem io_59 : (Try.prog.info? 59).isSome = true := by kernel_rfl
@[go_sem] theorem un_59 : (Try.prog.underlying 59).isSome = true := by kernel_rfl
@[go_sem] theorem zo_59 : zOk Try.prog 59 = true := by kernel_rfl
@[go_sem] theorem zc_59 : zcells Try.prog 59 = [.nilp] := by kernel_rfl
@[go_sem] theorem ze_59 : zel Try.prog 59 = .nilp := by kernel_rfl
@[go_sem] theorem ty_62 : tyOf Try.prog 62 = .fn := by kernel_rfl
@[go_sem] theorem ce_62 : Try.prog.cellsOf 62 = 1 := by kernel_rfl
@[go_sem] theorem by_62 : Try.prog.bytesOf 62 = 8 := by kernel_rfl
@[go_sem] theorem io_62 : (Try.prog.info? 62).isSome = true := by kernel_rfl
@[go_sem] theorem un_62 : (Try.prog.underlying 62).isSome = true := by kernel_rfl
@[go_sem] theorem zo_62 : zOk Try.prog 62 = true := by kernel_rfl
@[go_sem] theorem zc_62 : zcells Try.prog 62 = [.undef] := by kernel_rfl
@[go_sem] theorem ze_62 : zel Try.prog 62 = .undef := by kernel_rfl
@[go_sem] theorem ty_69 : tyOf Try.prog 69 = .int .u64 := by kernel_rfl
@[go_sem] theorem ce_69 : Try.prog.cellsOf 69 = 1 := by kernel_rfl
@[go_sem] theorem by_69 : Try.prog.bytesOf 69 = 8 := by kernel_rfl
@[go_sem] theorem io_69 : (Try.prog.info? 69).isSome = true := by kernel_rfl
@[go_sem] theorem un_69 : (Try.prog.underlying 69).isSome = true := by kernel_rfl
@[go_sem] theorem zo_69 : zOk Try.prog 69 = true := by kernel_rfl
@[go_sem] theorem zc_69 : zcells Try.prog 69 = [.int .u64 0] := by kernel_rfl
@[go_sem] theorem ze_69 : zel Try.prog 69 = .int .u64 0 := by kernel_rfl
@[go_sem] theorem ty_75 : tyOf Try.prog 75 = .fn := by kernel_rfl
@[go_sem] theorem ce_75 : Try.prog.cellsOf 75 = 1 := by kernel_rfl
@[go_sem] theorem by_75 : Try.prog.bytesOf 75 = 8 := by kernel_rfl
@[go_sem] theorem io_75 : (Try.prog.info? 75).isSome = true := by kernel_rfl
@[go_sem] theorem un_75 : (Try.prog.underlying 75).isSome = true := by kernel_rfl
@[go_sem] theorem zo_75 : zOk Try.prog 75 = true := by kernel_rfl
@[go_sem] theorem zc_75 : zcells Try.prog 75 = [.undef] := by kernel_rfl
@[go_sem] theorem ze_75 : zel Try.prog 75 = .undef := by kernel_rfl
@[go_sem] theorem ty_76 : tyOf Try.prog 76 = .int .u64 := by kernel_rfl
@[go_sem] theorem ce_76 : Try.prog.cellsOf 76 = 1 := by kernel_rfl
@[go_sem] theorem by_76 : Try.prog.bytesOf 76 = 8 := by kernel_rfl
@[go_sem] theorem io_76 : (Try.prog.info? 76).isSome = true := by kernel_rfl
@[go_sem] theorem un_76 : (Try.prog.underlying 76).isSome = true := by kernel_rfl
@[go_sem] theorem zo_76 : zOk Try.prog 76 = true := by kernel_rfl
@[go_sem] theorem zc_76 : zcells Try.prog 76 = [.int .u64 0] := by kernel_rfl
@[go_sem] theorem ze_76 : zel Try.prog 76 = .int .u64 0 := by kernel_rfl
@[go_sem] theorem ty_78 : tyOf Try.prog 78 = .agg := by kernel_rfl
@[go_sem] theorem ce_78 : Try.prog.cellsOf 78 = 3 := by kernel_rfl
@[go_sem] theorem by_78 : Try.prog.bytesOf 78 = 40 := by kernel_rfl
@[go_sem] theorem io_78 : (Try.prog.info? 78).isSome = true := by kernel_rfl
@[go_sem] theorem un_78 : (Try.prog.underlying 78).isSome = true := by kernel_rfl
@[go_sem] theorem zo_78 : zOk Try.prog 78 = true := by kernel_rfl
@[go_sem] theorem zc_78 : zcells Try.prog 78 = [.nils, .int .i64 0, .int .u64 0] := by kernel_rfl
@[go_sem] theorem ze_78 : zel Try.prog 78 = .agg [.nils, .int .i64 0, .int .u64 0] := by kernel_rfl
@[go_sem] theorem fo_78 : fldsOk Try.prog 78 = true := by kernel_rfl
@[go_sem] theorem fl_78_0 : fld Try.prog 78 0 = some (0, 50) := by kernel_rfl
@[go_sem] theorem fl_78_1 : fld Try.prog 78 1 = some (1, 3) := by kernel_rfl
@[go_sem] theorem fl_78_2 : fld Try.prog 78 2 = some (2, 76) := by kernel_rfl
@[go_sem] theorem ty_82 : tyOf Try.prog 82 = .int .i64 := by kernel_rfl
@[go_sem] theorem ce_82 : Try.prog.cellsOf 82 = 1 := by kernel_rfl
@[go_sem] theorem by_82 : Try.prog.bytesOf 82 = 8 := by kernel_rfl
@[go_sem] theorem io_82 : (Try.prog.info? 82).isSome = true := by kernel_rfl
@[go_sem] theorem un_82 : (Try.prog.underlying 82).isSome = true := by kernel_rfl
@[go_sem] theorem zo_82 : zOk Try.prog 82 = true := by kernel_rfl
@[go_sem] theorem zc_82 : zcells Try.prog 82 = [.int .i64 0] := by kernel_rfl
@[go_sem] theorem ze_82 : zel Try.prog 82 = .int .i64 0 := by kernel_rfl
@[go_sem] theorem ty_91 : tyOf Try.prog 91 = .int .u32 := by kernel_rfl
@[go_sem] theorem ce_91 : Try.prog.cellsOf 91 = 1 := by kernel_rfl
@[go_sem] theorem by_91 : Try.prog.bytesOf 91 = 4 := by kernel_rfl
@[go_sem] theorem io_91 : (Try.prog.info? 91).isSome = true := by kernel_rfl
@[go_sem] theorem un_91 : (Try.prog.underlying 91).isSome = true := by kernel_rfl
@[go_sem] theorem zo_91 : zOk Try.prog 91 = true := by kernel_rfl
@[go_sem] theorem zc_91 : zcells Try.prog 91 = [.int .u32 0] := by kernel_rfl
@[go_sem] theorem ze_91 : zel Try.prog 91 = .int .u32 0 := by kernel_rfl
@[go_sem] theorem ty_95 : tyOf Try.prog 95 = .int .u64 := by kernel_rfl
@[go_sem] theorem ce_95 : Try.prog.cellsOf 95 = 1 := by kernel_rfl
@[go_sem] theorem by_95 : Try.prog.bytesOf 95 = 8 := by kernel_rfl
@[go_sem] theorem io_95 : (Try.prog.info? 95).isSome = true := by kernel_rfl
@[go_sem] theorem un_95 : (Try.prog.underlying 95).isSome = true := by kernel_rfl
@[go_sem] theorem zo_95 : zOk Try.prog 95 = true := by kernel_rfl
@[go_sem] theorem zc_95 : zcells Try.prog 95 = [.int .u64 0] := by kernel_rfl
@[go_sem] theorem ze_95 : zel Try.prog 95 = .int .u64 0 := by kernel_rfl
@[go_sem] theorem ty_99 : tyOf Try.prog 99 = .ptr := by kernel_rfl
@[go_sem] theorem ce_99 : Try.prog.cellsOf 99 = 1 := by kernel_rfl
@[go_sem] theorem by_99 : Try.prog.bytesOf 99 = 8 := by kernel_rfl
@[go_sem] theorem io_99 : (Try.prog.info? 99).isSome = true := by kernel_rfl
@[go_sem] theorem un_99 : (Try.prog.underlying 99).isSome = true := by kernel_rfl
@[go_sem] theorem zo_99 : zOk Try.prog 99 = true := by kernel_rfl
@[go_sem] theorem zc_99 : zcells Try.prog 99 = [.nilp] := by kernel_rfl
@[go_sem] theorem ze_99 : zel Try.prog 99 = .nilp := by kernel_rfl
@[go_sem] theorem ty_102 : tyOf Try.prog 102 = .ptr := by kernel_rfl
@[go_sem] theorem ce_102 : Try.prog.cellsOf 102 = 1 := by kernel_rfl
@[go_sem] theorem by_102 : Try.prog.bytesOf 102 = 8 := by kernel_rfl
@[go_sem] theorem io_102 : (Try.prog.info? 102).isSome = true := by kernel_rfl
@[go_sem] theorem un_102 : (Try.prog.underlying 102).isSome = true := by kernel_rfl
@[go_sem] theorem zo_102 : zOk Try.prog 102 = true := by kernel_rfl
@[go_sem] theorem zc_102 : zcells Try.prog 102 = [.nilp] := by kernel_rfl
@[go_sem] theorem ze_102 : zel Try.prog 102 = .nilp := by kernel_rfl
@[go_sem] theorem ty_113 : tyOf Try.prog 113 = .int .u8 := by kernel_rfl
@[go_sem] theorem ce_113 : Try.prog.cellsOf 113 = 1 := by kernel_rfl
@[go_sem] theorem by_113 : Try.prog.bytesOf 113 = 1 := by kernel_rfl
@[go_sem] theorem io_113 : (Try.prog.info? 113).isSome = true := by kernel_rfl
@[go_sem] theorem un_113 : (Try.prog.underlying 113).isSome = true := by kernel_rfl
@[go_sem] theorem zo_113 : zOk Try.prog 113 = true := by kernel_rfl
@[go_sem] theorem zc_113 : zcells Try.prog 113 = [.int .u8 0] := by kernel_rfl
@[go_sem] theorem ze_113 : zel Try.prog 113 = .int .u8 0 := by kernel_rfl
theorem hm : Try.prog.follows .mixedOrders = true := by kernel_rfl
end Go.Ve
