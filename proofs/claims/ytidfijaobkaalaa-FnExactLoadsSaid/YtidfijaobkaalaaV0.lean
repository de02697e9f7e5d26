/- Types of the seat, in the engine's words. No condition. -/
import Derived.Test.YtidfijaobkaalaaE28
import Derived.Test.YtidfijaobkaalaaProg
import Derived.KernelRfl
namespace Go.Ve
open Go.Proofs
set_option linter.unusedVariables false
@[go_sem] theorem ty_2 : tyOf Try.prog 2 = .int .i64 := by kernel_rfl
@[go_sem] theorem ce_2 : Try.prog.cellsOf 2 = 1 := by kernel_rfl
@[go_sem] theorem by_2 : Try.prog.bytesOf 2 = 8 := by kernel_rfl
@[go_sem] theorem io_2 : (Try.prog.info? 2).isSome = true := by kernel_rfl
@[go_sem] theorem un_2 : (Try.prog.underlying 2).isSome = true := by kernel_rfl
@[go_sem] theorem zo_2 : zOk Try.prog 2 = true := by kernel_rfl
@[go_sem] theorem zc_2 : zcells Try.prog 2 = [.int .i64 0] := by kernel_rfl
@[go_sem] theorem ze_2 : zel Try.prog 2 = .int .i64 0 := by kernel_rfl
@[go_sem] theorem ty_3 : tyOf Try.prog 3 = .int .i64 := by kernel_rfl
@[go_sem] theorem ce_3 : Try.prog.cellsOf 3 = 1 := by kernel_rfl
@[go_sem] theorem by_3 : Try.prog.bytesOf 3 = 8 := by kernel_rfl
@[go_sem] theorem io_3 : (Try.prog.info? 3).isSome = true := by kernel_rfl
@[go_sem] theorem un_3 : (Try.prog.underlying 3).isSome = true := by kernel_rfl
@[go_sem] theorem zo_3 : zOk Try.prog 3 = true := by kernel_rfl
@[go_sem] theorem zc_3 : zcells Try.prog 3 = [.int .i64 0] := by kernel_rfl
@[go_sem] theorem ze_3 : zel Try.prog 3 = .int .i64 0 := by kernel_rfl
@[go_sem] theorem ty_4 : tyOf Try.prog 4 = .bool := by kernel_rfl
@[go_sem] theorem ce_4 : Try.prog.cellsOf 4 = 1 := by kernel_rfl
@[go_sem] theorem by_4 : Try.prog.bytesOf 4 = 1 := by kernel_rfl
@[go_sem] theorem io_4 : (Try.prog.info? 4).isSome = true := by kernel_rfl
@[go_sem] theorem un_4 : (Try.prog.underlying 4).isSome = true := by kernel_rfl
@[go_sem] theorem zo_4 : zOk Try.prog 4 = true := by kernel_rfl
@[go_sem] theorem zc_4 : zcells Try.prog 4 = [.bool false] := by kernel_rfl
@[go_sem] theorem ze_4 : zel Try.prog 4 = .bool false := by kernel_rfl
@[go_sem] theorem ty_6 : tyOf Try.prog 6 = .int .u8 := by kernel_rfl
@[go_sem] theorem ce_6 : Try.prog.cellsOf 6 = 1 := by kernel_rfl
@[go_sem] theorem by_6 : Try.prog.bytesOf 6 = 1 := by kernel_rfl
@[go_sem] theorem io_6 : (Try.prog.info? 6).isSome = true := by kernel_rfl
@[go_sem] theorem un_6 : (Try.prog.underlying 6).isSome = true := by kernel_rfl
@[go_sem] theorem zo_6 : zOk Try.prog 6 = true := by kernel_rfl
@[go_sem] theorem zc_6 : zcells Try.prog 6 = [.int .u8 0] := by kernel_rfl
@[go_sem] theorem ze_6 : zel Try.prog 6 = .int .u8 0 := by kernel_rfl
@[go_sem] theorem ty_8 : tyOf Try.prog 8 = .agg := by kernel_rfl
@[go_sem] theorem ce_8 : Try.prog.cellsOf 8 = 4 := by kernel_rfl
@[go_sem] theorem by_8 : Try.prog.bytesOf 8 = 24 := by kernel_rfl
@[go_sem] theorem io_8 : (Try.prog.info? 8).isSome = true := by kernel_rfl
@[go_sem] theorem un_8 : (Try.prog.underlying 8).isSome = true := by kernel_rfl
@[go_sem] theorem zo_8 : zOk Try.prog 8 = true := by kernel_rfl
@[go_sem] theorem zc_8 : zcells Try.prog 8 = [.int .i64 0, .int .i64 0, .bool false, .int .u8 0] := by kernel_rfl
@[go_sem] theorem ze_8 : zel Try.prog 8 = .agg [.int .i64 0, .int .i64 0, .bool false, .int .u8 0] := by kernel_rfl
@[go_sem] theorem fo_8 : fldsOk Try.prog 8 = true := by kernel_rfl
@[go_sem] theorem fl_8_0 : fld Try.prog 8 0 = some (0, 2) := by kernel_rfl
@[go_sem] theorem fl_8_1 : fld Try.prog 8 1 = some (1, 3) := by kernel_rfl
@[go_sem] theorem fl_8_2 : fld Try.prog 8 2 = some (2, 4) := by kernel_rfl
@[go_sem] theorem fl_8_3 : fld Try.prog 8 3 = some (3, 6) := by kernel_rfl
@[go_sem] theorem ty_9 : tyOf Try.prog 9 = .str := by kernel_rfl
@[go_sem] theorem ce_9 : Try.prog.cellsOf 9 = 1 := by kernel_rfl
@[go_sem] theorem by_9 : Try.prog.bytesOf 9 = 16 := by kernel_rfl
@[go_sem] theorem io_9 : (Try.prog.info? 9).isSome = true := by kernel_rfl
@[go_sem] theorem un_9 : (Try.prog.underlying 9).isSome = true := by kernel_rfl
@[go_sem] theorem zo_9 : zOk Try.prog 9 = true := by kernel_rfl
@[go_sem] theorem zc_9 : zcells Try.prog 9 = [.str ⟨#[]⟩] := by kernel_rfl
@[go_sem] theorem ze_9 : zel Try.prog 9 = .str ⟨#[]⟩ := by kernel_rfl
@[go_sem] theorem ty_10 : tyOf Try.prog 10 = .str := by kernel_rfl
@[go_sem] theorem ce_10 : Try.prog.cellsOf 10 = 1 := by kernel_rfl
@[go_sem] theorem by_10 : Try.prog.bytesOf 10 = 16 := by kernel_rfl
@[go_sem] theorem io_10 : (Try.prog.info? 10).isSome = true := by kernel_rfl
@[go_sem] theorem un_10 : (Try.prog.underlying 10).isSome = true := by kernel_rfl
@[go_sem] theorem zo_10 : zOk Try.prog 10 = true := by kernel_rfl
@[go_sem] theorem zc_10 : zcells Try.prog 10 = [.str ⟨#[]⟩] := by kernel_rfl
@[go_sem] theorem ze_10 : zel Try.prog 10 = .str ⟨#[]⟩ := by kernel_rfl
@[go_sem] theorem ty_11 : tyOf Try.prog 11 = .str := by kernel_rfl
@[go_sem] theorem ce_11 : Try.prog.cellsOf 11 = 1 := by kernel_rfl
@[go_sem] theorem by_11 : Try.prog.bytesOf 11 = 16 := by kernel_rfl
@[go_sem] theorem io_11 : (Try.prog.info? 11).isSome = true := by kernel_rfl
@[go_sem] theorem un_11 : (Try.prog.underlying 11).isSome = true := by kernel_rfl
@[go_sem] theorem zo_11 : zOk Try.prog 11 = true := by kernel_rfl
@[go_sem] theorem zc_11 : zcells Try.prog 11 = [.str ⟨#[]⟩] := by kernel_rfl
@[go_sem] theorem ze_11 : zel Try.prog 11 = .str ⟨#[]⟩ := by kernel_rfl
@[go_sem] theorem ty_12 : tyOf Try.prog 12 = .int .u64 := by kernel_rfl
@[go_sem] theorem ce_12 : Try.prog.cellsOf 12 = 1 := by kernel_rfl
@[go_sem] theorem by_12 : Try.prog.bytesOf 12 = 8 := by kernel_rfl
@[go_sem] theorem io_12 : (Try.prog.info? 12).isSome = true := by kernel_rfl
@[go_sem] theorem un_12 : (Try.prog.underlying 12).isSome = true := by kernel_rfl
@[go_sem] theorem zo_12 : zOk Try.prog 12 = true := by kernel_rfl
@[go_sem] theorem zc_12 : zcells Try.prog 12 = [.int .u64 0] := by kernel_rfl
@[go_sem] theorem ze_12 : zel Try.prog 12 = .int .u64 0 := by kernel_rfl
@[go_sem] theorem ty_14 : tyOf Try.prog 14 = .agg := by kernel_rfl
@[go_sem] theorem ce_14 : Try.prog.cellsOf 14 = 2 := by kernel_rfl
@[go_sem] theorem by_14 : Try.prog.bytesOf 14 = 24 := by kernel_rfl
@[go_sem] theorem io_14 : (Try.prog.info? 14).isSome = true := by kernel_rfl
@[go_sem] theorem un_14 : (Try.prog.underlying 14).isSome = true := by kernel_rfl
@[go_sem] theorem zo_14 : zOk Try.prog 14 = true := by kernel_rfl
@[go_sem] theorem zc_14 : zcells Try.prog 14 = [.str ⟨#[]⟩, .int .u64 0] := by kernel_rfl
@[go_sem] theorem ze_14 : zel Try.prog 14 = .agg [.str ⟨#[]⟩, .int .u64 0] := by kernel_rfl
@[go_sem] theorem fo_14 : fldsOk Try.prog 14 = true := by kernel_rfl
@[go_sem] theorem fl_14_0 : fld Try.prog 14 0 = some (0, 9) := by kernel_rfl
@[go_sem] theorem fl_14_1 : fld Try.prog 14 1 = some (1, 12) := by kernel_rfl
@[go_sem] theorem ty_15 : tyOf Try.prog 15 = .ptr := by kernel_rfl
@[go_sem] theorem ce_15 : Try.prog.cellsOf 15 = 1 := by kernel_rfl
@[go_sem] theorem by_15 : Try.prog.bytesOf 15 = 8 := by kernel_rfl
@[go_sem] theorem io_15 : (Try.prog.info? 15).isSome = true := by kernel_rfl
@[go_sem] theorem un_15 : (Try.prog.underlying 15).isSome = true := by kernel_rfl
@[go_sem] theorem zo_15 : zOk Try.prog 15 = true := by kernel_rfl
@[go_sem] theorem zc_15 : zcells Try.prog 15 = [.nilp] := by kernel_rfl
@[go_sem] theorem ze_15 : zel Try.prog 15 = .nilp := by kernel_rfl
@[go_sem] theorem ty_16 : tyOf Try.prog 16 = .ptr := by kernel_rfl
@[go_sem] theorem ce_16 : Try.prog.cellsOf 16 = 1 := by kernel_rfl
@[go_sem] theorem by_16 : Try.prog.bytesOf 16 = 8 := by kernel_rfl
@[go_sem] theorem io_16 : (Try.prog.info? 16).isSome = true := by kernel_rfl
@[go_sem] theorem un_16 : (Try.prog.underlying 16).isSome = true := by kernel_rfl
@[go_sem] theorem zo_16 : zOk Try.prog 16 = true := by kernel_rfl
@[go_sem] theorem zc_16 : zcells Try.prog 16 = [.nilp] := by kernel_rfl
@[go_sem] theorem ze_16 : zel Try.prog 16 = .nilp := by kernel_rfl
@[go_sem] theorem ty_17 : tyOf Try.prog 17 = .ptr := by kernel_rfl
@[go_sem] theorem ce_17 : Try.prog.cellsOf 17 = 1 := by kernel_rfl
@[go_sem] theorem by_17 : Try.prog.bytesOf 17 = 8 := by kernel_rfl
@[go_sem] theorem io_17 : (Try.prog.info? 17).isSome = true := by kernel_rfl
@[go_sem] theorem un_17 : (Try.prog.underlying 17).isSome = true := by kernel_rfl
@[go_sem] theorem zo_17 : zOk Try.prog 17 = true := by kernel_rfl
@[go_sem] theorem zc_17 : zcells Try.prog 17 = [.nilp] := by kernel_rfl
@[go_sem] theorem ze_17 : zel Try.prog 17 = .nilp := by kernel_rfl
@[go_sem] theorem ty_19 : tyOf Try.prog 19 = .agg := by kernel_rfl
@[go_sem] theorem ce_19 : Try.prog.cellsOf 19 = 1 := by kernel_rfl
@[go_sem] theorem by_19 : Try.prog.bytesOf 19 = 8 := by kernel_rfl
@[go_sem] theorem io_19 : (Try.prog.info? 19).isSome = true := by kernel_rfl
@[go_sem] theorem un_19 : (Try.prog.underlying 19).isSome = true := by kernel_rfl
@[go_sem] theorem zo_19 : zOk Try.prog 19 = true := by kernel_rfl
@[go_sem] theorem zc_19 : zcells Try.prog 19 = [.nilp] := by kernel_rfl
@[go_sem] theorem ze_19 : zel Try.prog 19 = .agg [.nilp] := by kernel_rfl
@[go_sem] theorem fo_19 : fldsOk Try.prog 19 = true := by kernel_rfl
@[go_sem] theorem fl_19_0 : fld Try.prog 19 0 = some (0, 17) := by kernel_rfl
@[go_sem] theorem ty_22 : tyOf Try.prog 22 = .sl 133 := by kernel_rfl
@[go_sem] theorem ce_22 : Try.prog.cellsOf 22 = 1 := by kernel_rfl
@[go_sem] theorem by_22 : Try.prog.bytesOf 22 = 24 := by kernel_rfl
@[go_sem] theorem io_22 : (Try.prog.info? 22).isSome = true := by kernel_rfl
@[go_sem] theorem un_22 : (Try.prog.underlying 22).isSome = true := by kernel_rfl
@[go_sem] theorem zo_22 : zOk Try.prog 22 = true := by kernel_rfl
@[go_sem] theorem zc_22 : zcells Try.prog 22 = [.nils] := by kernel_rfl
@[go_sem] theorem ze_22 : zel Try.prog 22 = .nils := by kernel_rfl
@[go_sem] theorem ty_23 : tyOf Try.prog 23 = .sl 129 := by kernel_rfl
@[go_sem] theorem ce_23 : Try.prog.cellsOf 23 = 1 := by kernel_rfl
@[go_sem] theorem by_23 : Try.prog.bytesOf 23 = 24 := by kernel_rfl
@[go_sem] theorem io_23 : (Try.prog.info? 23).isSome = true := by kernel_rfl
@[go_sem] theorem un_23 : (Try.prog.underlying 23).isSome = true := by kernel_rfl
@[go_sem] theorem zo_23 : zOk Try.prog 23 = true := by kernel_rfl
@[go_sem] theorem zc_23 : zcells Try.prog 23 = [.nils] := by kernel_rfl
@[go_sem] theorem ze_23 : zel Try.prog 23 = .nils := by kernel_rfl
@[go_sem] theorem ty_25 : tyOf Try.prog 25 = .agg := by kernel_rfl
@[go_sem] theorem ce_25 : Try.prog.cellsOf 25 = 2 := by kernel_rfl
@[go_sem] theorem by_25 : Try.prog.bytesOf 25 = 48 := by kernel_rfl
@[go_sem] theorem io_25 : (Try.prog.info? 25).isSome = true := by kernel_rfl
@[go_sem] theorem un_25 : (Try.prog.underlying 25).isSome = true := by kernel_rfl
@[go_sem] theorem zo_25 : zOk Try.prog 25 = true := by kernel_rfl
@[go_sem] theorem zc_25 : zcells Try.prog 25 = [.nils, .nils] := by kernel_rfl
@[go_sem] theorem ze_25 : zel Try.prog 25 = .agg [.nils, .nils] := by kernel_rfl
@[go_sem] theorem fo_25 : fldsOk Try.prog 25 = true := by kernel_rfl
@[go_sem] theorem fl_25_0 : fld Try.prog 25 0 = some (0, 22) := by kernel_rfl
@[go_sem] theorem fl_25_1 : fld Try.prog 25 1 = some (1, 23) := by kernel_rfl
@[go_sem] theorem ty_26 : tyOf Try.prog 26 = .sl 108 := by kernel_rfl
@[go_sem] theorem ce_26 : Try.prog.cellsOf 26 = 1 := by kernel_rfl
@[go_sem] theorem by_26 : Try.prog.bytesOf 26 = 24 := by kernel_rfl
@[go_sem] theorem io_26 : (Try.prog.info? 26).isSome = true := by kernel_rfl
@[go_sem] theorem un_26 : (Try.prog.underlying 26).isSome = true := by kernel_rfl
@[go_sem] theorem zo_26 : zOk Try.prog 26 = true := by kernel_rfl
@[go_sem] theorem zc_26 : zcells Try.prog 26 = [.nils] := by kernel_rfl
@[go_sem] theorem ze_26 : zel Try.prog 26 = .nils := by kernel_rfl
@[go_sem] theorem ty_27 : tyOf Try.prog 27 = .sl 112 := by kernel_rfl
@[go_sem] theorem ce_27 : Try.prog.cellsOf 27 = 1 := by kernel_rfl
@[go_sem] theorem by_27 : Try.prog.bytesOf 27 = 24 := by kernel_rfl
@[go_sem] theorem io_27 : (Try.prog.info? 27).isSome = true := by kernel_rfl
@[go_sem] theorem un_27 : (Try.prog.underlying 27).isSome = true := by kernel_rfl
@[go_sem] theorem zo_27 : zOk Try.prog 27 = true := by kernel_rfl
@[go_sem] theorem zc_27 : zcells Try.prog 27 = [.nils] := by kernel_rfl
@[go_sem] theorem ze_27 : zel Try.prog 27 = .nils := by kernel_rfl
@[go_sem] theorem ty_28 : tyOf Try.prog 28 = .sl 2 := by kernel_rfl
@[go_sem] theorem ce_28 : Try.prog.cellsOf 28 = 1 := by kernel_rfl
@[go_sem] theorem by_28 : Try.prog.bytesOf 28 = 24 := by kernel_rfl
@[go_sem] theorem io_28 : (Try.prog.info? 28).isSome = true := by kernel_rfl
@[go_sem] theorem un_28 : (Try.prog.underlying 28).isSome = true := by kernel_rfl
@[go_sem] theorem zo_28 : zOk Try.prog 28 = true := by kernel_rfl
@[go_sem] theorem zc_28 : zcells Try.prog 28 = [.nils] := by kernel_rfl
@[go_sem] theorem ze_28 : zel Try.prog 28 = .nils := by kernel_rfl
@[go_sem] theorem ty_30 : tyOf Try.prog 30 = .agg := by kernel_rfl
@[go_sem] theorem ce_30 : Try.prog.cellsOf 30 = 8 := by kernel_rfl
@[go_sem] theorem by_30 : Try.prog.bytesOf 30 = 160 := by kernel_rfl
@[go_sem] theorem io_30 : (Try.prog.info? 30).isSome = true := by kernel_rfl
@[go_sem] theorem un_30 : (Try.prog.underlying 30).isSome = true := by kernel_rfl
@[go_sem] theorem zo_30 : zOk Try.prog 30 = true := by kernel_rfl
@[go_sem] theorem zc_30 : zcells Try.prog 30 = [.int .i64 0, .int .i64 0, .nils, .nils, .nils, .nils, .nils, .nils] := by kernel_rfl
@[go_sem] theorem ze_30 : zel Try.prog 30 = .agg [.int .i64 0, .int .i64 0, .nils, .nils, .nils, .nils, .nils, .nils] := by kernel_rfl
@[go_sem] theorem fo_30 : fldsOk Try.prog 30 = true := by kernel_rfl
@[go_sem] theorem fl_30_0 : fld Try.prog 30 0 = some (0, 2) := by kernel_rfl
@[go_sem] theorem fl_30_1 : fld Try.prog 30 1 = some (1, 2) := by kernel_rfl
@[go_sem] theorem fl_30_2 : fld Try.prog 30 2 = some (2, 25) := by kernel_rfl
@[go_sem] theorem fl_30_3 : fld Try.prog 30 3 = some (4, 26) := by kernel_rfl
@[go_sem] theorem fl_30_4 : fld Try.prog 30 4 = some (5, 27) := by kernel_rfl
@[go_sem] theorem fl_30_5 : fld Try.prog 30 5 = some (6, 28) := by kernel_rfl
@[go_sem] theorem fl_30_6 : fld Try.prog 30 6 = some (7, 28) := by kernel_rfl
@[go_sem] theorem ty_33 : tyOf Try.prog 33 = .sl 125 := by kernel_rfl
@[go_sem] theorem ce_33 : Try.prog.cellsOf 33 = 1 := by kernel_rfl
@[go_sem] theorem by_33 : Try.prog.bytesOf 33 = 24 := by kernel_rfl
@[go_sem] theorem io_33 : (Try.prog.info? 33).isSome = true := by kernel_rfl
@[go_sem] theorem un_33 : (Try.prog.underlying 33).isSome = true := by kernel_rfl
@[go_sem] theorem zo_33 : zOk Try.prog 33 = true := by kernel_rfl
@[go_sem] theorem zc_33 : zcells Try.prog 33 = [.nils] := by kernel_rfl
@[go_sem] theorem ze_33 : zel Try.prog 33 = .nils := by kernel_rfl
@[go_sem] theorem ty_34 : tyOf Try.prog 34 = .sl 115 := by kernel_rfl
@[go_sem] theorem ce_34 : Try.prog.cellsOf 34 = 1 := by kernel_rfl
@[go_sem] theorem by_34 : Try.prog.bytesOf 34 = 24 := by kernel_rfl
@[go_sem] theorem io_34 : (Try.prog.info? 34).isSome = true := by kernel_rfl
@[go_sem] theorem un_34 : (Try.prog.underlying 34).isSome = true := by kernel_rfl
@[go_sem] theorem zo_34 : zOk Try.prog 34 = true := by kernel_rfl
@[go_sem] theorem zc_34 : zcells Try.prog 34 = [.nils] := by kernel_rfl
@[go_sem] theorem ze_34 : zel Try.prog 34 = .nils := by kernel_rfl
@[go_sem] theorem ty_36 : tyOf Try.prog 36 = .agg := by kernel_rfl
@[go_sem] theorem ce_36 : Try.prog.cellsOf 36 = 2 := by kernel_rfl
@[go_sem] theorem by_36 : Try.prog.bytesOf 36 = 48 := by kernel_rfl
@[go_sem] theorem io_36 : (Try.prog.info? 36).isSome = true := by kernel_rfl
@[go_sem] theorem un_36 : (Try.prog.underlying 36).isSome = true := by kernel_rfl
@[go_sem] theorem zo_36 : zOk Try.prog 36 = true := by kernel_rfl
@[go_sem] theorem zc_36 : zcells Try.prog 36 = [.nils, .nils] := by kernel_rfl
@[go_sem] theorem ze_36 : zel Try.prog 36 = .agg [.nils, .nils] := by kernel_rfl
@[go_sem] theorem fo_36 : fldsOk Try.prog 36 = true := by kernel_rfl
@[go_sem] theorem fl_36_0 : fld Try.prog 36 0 = some (0, 33) := by kernel_rfl
@[go_sem] theorem fl_36_1 : fld Try.prog 36 1 = some (1, 34) := by kernel_rfl
@[go_sem] theorem ty_37 : tyOf Try.prog 37 = .sl 87 := by kernel_rfl
@[go_sem] theorem ce_37 : Try.prog.cellsOf 37 = 1 := by kernel_rfl
@[go_sem] theorem by_37 : Try.prog.bytesOf 37 = 24 := by kernel_rfl
@[go_sem] theorem io_37 : (Try.prog.info? 37).isSome = true := by kernel_rfl
@[go_sem] theorem un_37 : (Try.prog.underlying 37).isSome = true := by kernel_rfl
@[go_sem] theorem zo_37 : zOk Try.prog 37 = true := by kernel_rfl
@[go_sem] theorem zc_37 : zcells Try.prog 37 = [.nils] := by kernel_rfl
@[go_sem] theorem ze_37 : zel Try.prog 37 = .nils := by kernel_rfl
@[go_sem] theorem ty_38 : tyOf Try.prog 38 = .sl 47 := by kernel_rfl
@[go_sem] theorem ce_38 : Try.prog.cellsOf 38 = 1 := by kernel_rfl
@[go_sem] theorem by_38 : Try.prog.bytesOf 38 = 24 := by kernel_rfl
@[go_sem] theorem io_38 : (Try.prog.info? 38).isSome = true := by kernel_rfl
@[go_sem] theorem un_38 : (Try.prog.underlying 38).isSome = true := by kernel_rfl
@[go_sem] theorem zo_38 : zOk Try.prog 38 = true := by kernel_rfl
@[go_sem] theorem zc_38 : zcells Try.prog 38 = [.nils] := by kernel_rfl
@[go_sem] theorem ze_38 : zel Try.prog 38 = .nils := by kernel_rfl
@[go_sem] theorem ty_40 : tyOf Try.prog 40 = .agg := by kernel_rfl
@[go_sem] theorem ce_40 : Try.prog.cellsOf 40 = 8 := by kernel_rfl
@[go_sem] theorem by_40 : Try.prog.bytesOf 40 = 160 := by kernel_rfl
@[go_sem] theorem io_40 : (Try.prog.info? 40).isSome = true := by kernel_rfl
@[go_sem] theorem un_40 : (Try.prog.underlying 40).isSome = true := by kernel_rfl
@[go_sem] theorem zo_40 : zOk Try.prog 40 = true := by kernel_rfl
@[go_sem] theorem zc_40 : zcells Try.prog 40 = [.int .i64 0, .int .i64 0, .nils, .nils, .nils, .nils, .nils, .nils] := by kernel_rfl
@[go_sem] theorem ze_40 : zel Try.prog 40 = .agg [.int .i64 0, .int .i64 0, .nils, .nils, .nils, .nils, .nils, .nils] := by kernel_rfl
@[go_sem] theorem fo_40 : fldsOk Try.prog 40 = true := by kernel_rfl
@[go_sem] theorem fl_40_0 : fld Try.prog 40 0 = some (0, 2) := by kernel_rfl
@[go_sem] theorem fl_40_1 : fld Try.prog 40 1 = some (1, 2) := by kernel_rfl
@[go_sem] theorem fl_40_2 : fld Try.prog 40 2 = some (2, 36) := by kernel_rfl
@[go_sem] theorem fl_40_3 : fld Try.prog 40 3 = some (4, 37) := by kernel_rfl
@[go_sem] theorem fl_40_4 : fld Try.prog 40 4 = some (5, 38) := by kernel_rfl
@[go_sem] theorem fl_40_5 : fld Try.prog 40 5 = some (6, 28) := by kernel_rfl
@[go_sem] theorem fl_40_6 : fld Try.prog 40 6 = some (7, 28) := by kernel_rfl
@[go_sem] theorem ty_45 : tyOf Try.prog 45 = .agg := by kernel_rfl
@[go_sem] theorem ce_45 : Try.prog.cellsOf 45 = 2 := by kernel_rfl
@[go_sem] theorem by_45 : Try.prog.bytesOf 45 = 16 := by kernel_rfl
@[go_sem] theorem io_45 : (Try.prog.info? 45).isSome = true := by kernel_rfl
@[go_sem] theorem un_45 : (Try.prog.underlying 45).isSome = true := by kernel_rfl
@[go_sem] theorem zo_45 : zOk Try.prog 45 = true := by kernel_rfl
@[go_sem] theorem zc_45 : zcells Try.prog 45 = [.int .i64 0, .int .i64 0] := by kernel_rfl
@[go_sem] theorem ze_45 : zel Try.prog 45 = .agg [.int .i64 0, .int .i64 0] := by kernel_rfl
@[go_sem] theorem fo_45 : fldsOk Try.prog 45 = true := by kernel_rfl
@[go_sem] theorem fl_45_0 : fld Try.prog 45 0 = some (0, 2) := by kernel_rfl
@[go_sem] theorem fl_45_1 : fld Try.prog 45 1 = some (1, 2) := by kernel_rfl
@[go_sem] theorem ty_47 : tyOf Try.prog 47 = .agg := by kernel_rfl
@[go_sem] theorem ce_47 : Try.prog.cellsOf 47 = 6 := by kernel_rfl
@[go_sem] theorem by_47 : Try.prog.bytesOf 47 = 48 := by kernel_rfl
@[go_sem] theorem io_47 : (Try.prog.info? 47).isSome = true := by kernel_rfl
@[go_sem] theorem un_47 : (Try.prog.underlying 47).isSome = true := by kernel_rfl
@[go_sem] theorem zo_47 : zOk Try.prog 47 = true := by kernel_rfl
@[go_sem] theorem zc_47 : zcells Try.prog 47 = [.int .i64 0, .int .i64 0, .int .i64 0, .int .i64 0, .int .i64 0, .int .i64 0] := by kernel_rfl
@[go_sem] theorem ze_47 : zel Try.prog 47 = .agg [.int .i64 0, .int .i64 0, .int .i64 0, .int .i64 0, .int .i64 0, .int .i64 0] := by kernel_rfl
@[go_sem] theorem fo_47 : fldsOk Try.prog 47 = true := by kernel_rfl
@[go_sem] theorem fl_47_0 : fld Try.prog 47 0 = some (0, 2) := by kernel_rfl
@[go_sem] theorem fl_47_1 : fld Try.prog 47 1 = some (1, 45) := by kernel_rfl
@[go_sem] theorem fl_47_2 : fld Try.prog 47 2 = some (3, 2) := by kernel_rfl
@[go_sem] theorem fl_47_3 : fld Try.prog 47 3 = some (4, 2) := by kernel_rfl
@[go_sem] theorem fl_47_4 : fld Try.prog 47 4 = some (5, 2) := by kernel_rfl
@[go_sem] theorem ty_53 : tyOf Try.prog 53 = .sl 28 := by kernel_rfl
@[go_sem] theorem ce_53 : Try.prog.cellsOf 53 = 1 := by kernel_rfl
@[go_sem] theorem by_53 : Try.prog.bytesOf 53 = 24 := by kernel_rfl
@[go_sem] theorem io_53 : (Try.prog.info? 53).isSome = true := by kernel_rfl
@[go_sem] theorem un_53 : (Try.prog.underlying 53).isSome = true := by kernel_rfl
@[go_sem] theorem zo_53 : zOk Try.prog 53 = true := by kernel_rfl
@[go_sem] theorem zc_53 : zcells Try.prog 53 = [.nils] := by kernel_rfl
@[go_sem] theorem ze_53 : zel Try.prog 53 = .nils := by kernel_rfl
@[go_sem] theorem ty_56 : tyOf Try.prog 56 = .sl 97 := by kernel_rfl
@[go_sem] theorem ce_56 : Try.prog.cellsOf 56 = 1 := by kernel_rfl
@[go_sem] theorem by_56 : Try.prog.bytesOf 56 = 24 := by kernel_rfl
@[go_sem] theorem io_56 : (Try.prog.info? 56).isSome = true := by kernel_rfl
@[go_sem] theorem un_56 : (Try.prog.underlying 56).isSome = true := by kernel_rfl
@[go_sem] theorem zo_56 : zOk Try.prog 56 = true := by kernel_rfl
@[go_sem] theorem zc_56 : zcells Try.prog 56 = [.nils] := by kernel_rfl
@[go_sem] theorem ze_56 : zel Try.prog 56 = .nils := by kernel_rfl
@[go_sem] theorem ty_78 : tyOf Try.prog 78 = .fn := by kernel_rfl
@[go_sem] theorem ce_78 : Try.prog.cellsOf 78 = 1 := by kernel_rfl
@[go_sem] theorem by_78 : Try.prog.bytesOf 78 = 8 := by kernel_rfl
@[go_sem] theorem io_78 : (Try.prog.info? 78).isSome = true := by kernel_rfl
@[go_sem] theorem un_78 : (Try.prog.underlying 78).isSome = true := by kernel_rfl
@[go_sem] theorem zo_78 : zOk Try.prog 78 = true := by kernel_rfl
@[go_sem] theorem zc_78 : zcells Try.prog 78 = [.undef] := by kernel_rfl
@[go_sem] theorem ze_78 : zel Try.prog 78 = .undef := by kernel_rfl
@[go_sem] theorem ty_83 : tyOf Try.prog 83 = .ptr := by kernel_rfl
@[go_sem] theorem ce_83 : Try.prog.cellsOf 83 = 1 := by kernel_rfl
@[go_sem] theorem by_83 : Try.prog.bytesOf 83 = 8 := by kernel_rfl
@[go_sem] theorem io_83 : (Try.prog.info? 83).isSome = true := by kernel_rfl
@[go_sem] theorem un_83 : (Try.prog.underlying 83).isSome = true := by kernel_rfl
@[go_sem] theorem zo_83 : zOk Try.prog 83 = true := by kernel_rfl
@[go_sem] theorem zc_83 : zcells Try.prog 83 = [.nilp] := by kernel_rfl
@[go_sem] theorem ze_83 : zel Try.prog 83 = .nilp := by kernel_rfl
@[go_sem] theorem ty_87 : tyOf Try.prog 87 = .agg := by kernel_rfl
@[go_sem] theorem ce_87 : Try.prog.cellsOf 87 = 4 := by kernel_rfl
@[go_sem] theorem by_87 : Try.prog.bytesOf 87 = 32 := by kernel_rfl
@[go_sem] theorem io_87 : (Try.prog.info? 87).isSome = true := by kernel_rfl
@[go_sem] theorem un_87 : (Try.prog.underlying 87).isSome = true := by kernel_rfl
@[go_sem] theorem zo_87 : zOk Try.prog 87 = true := by kernel_rfl
@[go_sem] theorem zc_87 : zcells Try.prog 87 = [.int .i64 0, .int .i64 0, .int .i64 0, .bool false] := by kernel_rfl
@[go_sem] theorem ze_87 : zel Try.prog 87 = .agg [.int .i64 0, .int .i64 0, .int .i64 0, .bool false] := by kernel_rfl
@[go_sem] theorem fo_87 : fldsOk Try.prog 87 = true := by kernel_rfl
@[go_sem] theorem fl_87_0 : fld Try.prog 87 0 = some (0, 2) := by kernel_rfl
@[go_sem] theorem fl_87_1 : fld Try.prog 87 1 = some (1, 2) := by kernel_rfl
@[go_sem] theorem fl_87_2 : fld Try.prog 87 2 = some (2, 2) := by kernel_rfl
@[go_sem] theorem fl_87_3 : fld Try.prog 87 3 = some (3, 4) := by kernel_rfl
@[go_sem] theorem ty_97 : tyOf Try.prog 97 = .agg := by kernel_rfl
@[go_sem] theorem ce_97 : Try.prog.cellsOf 97 = 2 := by kernel_rfl
@[go_sem] theorem by_97 : Try.prog.bytesOf 97 = 16 := by kernel_rfl
@[go_sem] theorem io_97 : (Try.prog.info? 97).isSome = true := by kernel_rfl
@[go_sem] theorem un_97 : (Try.prog.underlying 97).isSome = true := by kernel_rfl
@[go_sem] theorem zo_97 : zOk Try.prog 97 = true := by kernel_rfl
@[go_sem] theorem zc_97 : zcells Try.prog 97 = [.int .i64 0, .int .i64 0] := by kernel_rfl
@[go_sem] theorem ze_97 : zel Try.prog 97 = .agg [.int .i64 0, .int .i64 0] := by kernel_rfl
@[go_sem] theorem fo_97 : fldsOk Try.prog 97 = true := by kernel_rfl
@[go_sem] theorem fl_97_0 : fld Try.prog 97 0 = some (0, 2) := by kernel_rfl
@[go_sem] theorem fl_97_1 : fld Try.prog 97 1 = some (1, 2) := by kernel_rfl
@[go_sem] theorem ty_105 : tyOf Try.prog 105 = .fn := by kernel_rfl
@[go_sem] theorem ce_105 : Try.prog.cellsOf 105 = 1 := by kernel_rfl
@[go_sem] theorem by_105 : Try.prog.bytesOf 105 = 8 := by kernel_rfl
@[go_sem] theorem io_105 : (Try.prog.info? 105).isSome = true := by kernel_rfl
@[go_sem] theorem un_105 : (Try.prog.underlying 105).isSome = true := by kernel_rfl
@[go_sem] theorem zo_105 : zOk Try.prog 105 = true := by kernel_rfl
@[go_sem] theorem zc_105 : zcells Try.prog 105 = [.undef] := by kernel_rfl
@[go_sem] theorem ze_105 : zel Try.prog 105 = .undef := by kernel_rfl
@[go_sem] theorem ty_108 : tyOf Try.prog 108 = .agg := by kernel_rfl
@[go_sem] theorem ce_108 : Try.prog.cellsOf 108 = 4 := by kernel_rfl
@[go_sem] theorem by_108 : Try.prog.bytesOf 108 = 32 := by kernel_rfl
@[go_sem] theorem io_108 : (Try.prog.info? 108).isSome = true := by kernel_rfl
@[go_sem] theorem un_108 : (Try.prog.underlying 108).isSome = true := by kernel_rfl
@[go_sem] theorem zo_108 : zOk Try.prog 108 = true := by kernel_rfl
@[go_sem] theorem zc_108 : zcells Try.prog 108 = [.int .i64 0, .int .i64 0, .int .i64 0, .bool false] := by kernel_rfl
@[go_sem] theorem ze_108 : zel Try.prog 108 = .agg [.int .i64 0, .int .i64 0, .int .i64 0, .bool false] := by kernel_rfl
@[go_sem] theorem fo_108 : fldsOk Try.prog 108 = true := by kernel_rfl
@[go_sem] theorem fl_108_0 : fld Try.prog 108 0 = some (0, 2) := by kernel_rfl
@[go_sem] theorem fl_108_1 : fld Try.prog 108 1 = some (1, 2) := by kernel_rfl
@[go_sem] theorem fl_108_2 : fld Try.prog 108 2 = some (2, 2) := by kernel_rfl
@[go_sem] theorem fl_108_3 : fld Try.prog 108 3 = some (3, 4) := by kernel_rfl
@[go_sem] theorem ty_110 : tyOf Try.prog 110 = .agg := by kernel_rfl
@[go_sem] theorem ce_110 : Try.prog.cellsOf 110 = 2 := by kernel_rfl
@[go_sem] theorem by_110 : Try.prog.bytesOf 110 = 16 := by kernel_rfl
@[go_sem] theorem io_110 : (Try.prog.info? 110).isSome = true := by kernel_rfl
@[go_sem] theorem un_110 : (Try.prog.underlying 110).isSome = true := by kernel_rfl
@[go_sem] theorem zo_110 : zOk Try.prog 110 = true := by kernel_rfl
@[go_sem] theorem zc_110 : zcells Try.prog 110 = [.int .i64 0, .int .i64 0] := by kernel_rfl
@[go_sem] theorem ze_110 : zel Try.prog 110 = .agg [.int .i64 0, .int .i64 0] := by kernel_rfl
@[go_sem] theorem fo_110 : fldsOk Try.prog 110 = true := by kernel_rfl
@[go_sem] theorem fl_110_0 : fld Try.prog 110 0 = some (0, 2) := by kernel_rfl
@[go_sem] theorem fl_110_1 : fld Try.prog 110 1 = some (1, 2) := by kernel_rfl
@[go_sem] theorem ty_112 : tyOf Try.prog 112 = .agg := by kernel_rfl
@[go_sem] theorem ce_112 : Try.prog.cellsOf 112 = 6 := by kernel_rfl
@[go_sem] theorem by_112 : Try.prog.bytesOf 112 = 48 := by kernel_rfl
@[go_sem] theorem io_112 : (Try.prog.info? 112).isSome = true := by kernel_rfl
@[go_sem] theorem un_112 : (Try.prog.underlying 112).isSome = true := by kernel_rfl
@[go_sem] theorem zo_112 : zOk Try.prog 112 = true := by kernel_rfl
@[go_sem] theorem zc_112 : zcells Try.prog 112 = [.int .i64 0, .int .i64 0, .int .i64 0, .int .i64 0, .int .i64 0, .int .i64 0] := by kernel_rfl
@[go_sem] theorem ze_112 : zel Try.prog 112 = .agg [.int .i64 0, .int .i64 0, .int .i64 0, .int .i64 0, .int .i64 0, .int .i64 0] := by kernel_rfl
@[go_sem] theorem fo_112 : fldsOk Try.prog 112 = true := by kernel_rfl
@[go_sem] theorem fl_112_0 : fld Try.prog 112 0 = some (0, 2) := by kernel_rfl
@[go_sem] theorem fl_112_1 : fld Try.prog 112 1 = some (1, 110) := by kernel_rfl
@[go_sem] theorem fl_112_2 : fld Try.prog 112 2 = some (3, 2) := by kernel_rfl
@[go_sem] theorem fl_112_3 : fld Try.prog 112 3 = some (4, 2) := by kernel_rfl
@[go_sem] theorem fl_112_4 : fld Try.prog 112 4 = some (5, 2) := by kernel_rfl
@[go_sem] theorem ty_113 : tyOf Try.prog 113 = .mp 2 4 := by kernel_rfl
@[go_sem] theorem ce_113 : Try.prog.cellsOf 113 = 1 := by kernel_rfl
@[go_sem] theorem by_113 : Try.prog.bytesOf 113 = 8 := by kernel_rfl
@[go_sem] theorem io_113 : (Try.prog.info? 113).isSome = true := by kernel_rfl
@[go_sem] theorem un_113 : (Try.prog.underlying 113).isSome = true := by kernel_rfl
@[go_sem] theorem zo_113 : zOk Try.prog 113 = true := by kernel_rfl
@[go_sem] theorem zc_113 : zcells Try.prog 113 = [.undef] := by kernel_rfl
@[go_sem] theorem ze_113 : zel Try.prog 113 = .undef := by kernel_rfl
@[go_sem] theorem zh_4 : zeroHas Try.prog 4 = true := by kernel_rfl
@[go_sem] theorem zv_4 : zeroAV Try.prog 4 = .bool false := by kernel_rfl
@[go_sem] theorem ty_115 : tyOf Try.prog 115 = .agg := by kernel_rfl
@[go_sem] theorem ce_115 : Try.prog.cellsOf 115 = 3 := by kernel_rfl
@[go_sem] theorem by_115 : Try.prog.bytesOf 115 = 40 := by kernel_rfl
@[go_sem] theorem io_115 : (Try.prog.info? 115).isSome = true := by kernel_rfl
@[go_sem] theorem un_115 : (Try.prog.underlying 115).isSome = true := by kernel_rfl
@[go_sem] theorem zo_115 : zOk Try.prog 115 = true := by kernel_rfl
@[go_sem] theorem zc_115 : zcells Try.prog 115 = [.int .i64 0, .int .i64 0, .nils] := by kernel_rfl
@[go_sem] theorem ze_115 : zel Try.prog 115 = .agg [.int .i64 0, .int .i64 0, .nils] := by kernel_rfl
@[go_sem] theorem fo_115 : fldsOk Try.prog 115 = true := by kernel_rfl
@[go_sem] theorem fl_115_0 : fld Try.prog 115 0 = some (0, 2) := by kernel_rfl
@[go_sem] theorem fl_115_1 : fld Try.prog 115 1 = some (1, 2) := by kernel_rfl
@[go_sem] theorem fl_115_2 : fld Try.prog 115 2 = some (2, 28) := by kernel_rfl
@[go_sem] theorem ty_116 : tyOf Try.prog 116 = .fn := by kernel_rfl
@[go_sem] theorem ce_116 : Try.prog.cellsOf 116 = 1 := by kernel_rfl
@[go_sem] theorem by_116 : Try.prog.bytesOf 116 = 8 := by kernel_rfl
@[go_sem] theorem io_116 : (Try.prog.info? 116).isSome = true := by kernel_rfl
@[go_sem] theorem un_116 : (Try.prog.underlying 116).isSome = true := by kernel_rfl
@[go_sem] theorem zo_116 : zOk Try.prog 116 = true := by kernel_rfl
@[go_sem] theorem zc_116 : zcells Try.prog 116 = [.undef] := by kernel_rfl
@[go_sem] theorem ze_116 : zel Try.prog 116 = .undef := by kernel_rfl
@[go_sem] theorem ty_117 : tyOf Try.prog 117 = .ptr := by kernel_rfl
@[go_sem] theorem ce_117 : Try.prog.cellsOf 117 = 1 := by kernel_rfl
@[go_sem] theorem by_117 : Try.prog.bytesOf 117 = 8 := by kernel_rfl
@[go_sem] theorem io_117 : (Try.prog.info? 117).isSome = true := by kernel_rfl
@[go_sem] theorem un_117 : (Try.prog.underlying 117).isSome = true := by kernel_rfl
@[go_sem] theorem zo_117 : zOk Try.prog 117 = true := by kernel_rfl
@[go_sem] theorem zc_117 : zcells Try.prog 117 = [.nilp] := by kernel_rfl
@[go_sem] theorem ze_117 : zel Try.prog 117 = .nilp := by kernel_rfl
@[go_sem] theorem ty_121 : tyOf Try.prog 121 = .fn := by kernel_rfl
@[go_sem] theorem ce_121 : Try.prog.cellsOf 121 = 1 := by kernel_rfl
@[go_sem] theorem by_121 : Try.prog.bytesOf 121 = 8 := by kernel_rfl
@[go_sem] theorem io_121 : (Try.prog.info? 121).isSome = true := by kernel_rfl
@[go_sem] theorem un_121 : (Try.prog.underlying 121).isSome = true := by kernel_rfl
@[go_sem] theorem zo_121 : zOk Try.prog 121 = true := by kernel_rfl
@[go_sem] theorem zc_121 : zcells Try.prog 121 = [.undef] := by kernel_rfl
@[go_sem] theorem ze_121 : zel Try.prog 121 = .undef := by kernel_rfl
@[go_sem] theorem ty_125 : tyOf Try.prog 125 = .agg := by kernel_rfl
@[go_sem] theorem ce_125 : Try.prog.cellsOf 125 = 2 := by kernel_rfl
@[go_sem] theorem by_125 : Try.prog.bytesOf 125 = 16 := by kernel_rfl
@[go_sem] theorem io_125 : (Try.prog.info? 125).isSome = true := by kernel_rfl
@[go_sem] theorem un_125 : (Try.prog.underlying 125).isSome = true := by kernel_rfl
@[go_sem] theorem zo_125 : zOk Try.prog 125 = true := by kernel_rfl
@[go_sem] theorem zc_125 : zcells Try.prog 125 = [.int .i64 0, .int .i64 0] := by kernel_rfl
@[go_sem] theorem ze_125 : zel Try.prog 125 = .agg [.int .i64 0, .int .i64 0] := by kernel_rfl
@[go_sem] theorem fo_125 : fldsOk Try.prog 125 = true := by kernel_rfl
@[go_sem] theorem fl_125_0 : fld Try.prog 125 0 = some (0, 2) := by kernel_rfl
@[go_sem] theorem fl_125_1 : fld Try.prog 125 1 = some (1, 2) := by kernel_rfl
@[go_sem] theorem ty_127 : tyOf Try.prog 127 = .fn := by kernel_rfl
@[go_sem] theorem ce_127 : Try.prog.cellsOf 127 = 1 := by kernel_rfl
@[go_sem] theorem by_127 : Try.prog.bytesOf 127 = 8 := by kernel_rfl
@[go_sem] theorem io_127 : (Try.prog.info? 127).isSome = true := by kernel_rfl
@[go_sem] theorem un_127 : (Try.prog.underlying 127).isSome = true := by kernel_rfl
@[go_sem] theorem zo_127 : zOk Try.prog 127 = true := by kernel_rfl
@[go_sem] theorem zc_127 : zcells Try.prog 127 = [.undef] := by kernel_rfl
@[go_sem] theorem ze_127 : zel Try.prog 127 = .undef := by kernel_rfl
@[go_sem] theorem ty_129 : tyOf Try.prog 129 = .agg := by kernel_rfl
@[go_sem] theorem ce_129 : Try.prog.cellsOf 129 = 3 := by kernel_rfl
@[go_sem] theorem by_129 : Try.prog.bytesOf 129 = 40 := by kernel_rfl
@[go_sem] theorem io_129 : (Try.prog.info? 129).isSome = true := by kernel_rfl
@[go_sem] theorem un_129 : (Try.prog.underlying 129).isSome = true := by kernel_rfl
@[go_sem] theorem zo_129 : zOk Try.prog 129 = true := by kernel_rfl
@[go_sem] theorem zc_129 : zcells Try.prog 129 = [.int .i64 0, .int .i64 0, .nils] := by kernel_rfl
@[go_sem] theorem ze_129 : zel Try.prog 129 = .agg [.int .i64 0, .int .i64 0, .nils] := by kernel_rfl
@[go_sem] theorem fo_129 : fldsOk Try.prog 129 = true := by kernel_rfl
@[go_sem] theorem fl_129_0 : fld Try.prog 129 0 = some (0, 2) := by kernel_rfl
@[go_sem] theorem fl_129_1 : fld Try.prog 129 1 = some (1, 2) := by kernel_rfl
@[go_sem] theorem fl_129_2 : fld Try.prog 129 2 = some (2, 28) := by kernel_rfl
@[go_sem] theorem ty_133 : tyOf Try.prog 133 = .agg := by kernel_rfl
@[go_sem] theorem ce_133 : Try.prog.cellsOf 133 = 2 := by kernel_rfl
@[go_sem] theorem by_133 : Try.prog.bytesOf 133 = 16 := by kernel_rfl
@[go_sem] theorem io_133 : (Try.prog.info? 133).isSome = true := by kernel_rfl
@[go_sem] theorem un_133 : (Try.prog.underlying 133).isSome = true := by kernel_rfl
@[go_sem] theorem zo_133 : zOk Try.prog 133 = true := by kernel_rfl
@[go_sem] theorem zc_133 : zcells Try.prog 133 = [.int .i64 0, .int .i64 0] := by kernel_rfl
@[go_sem] theorem ze_133 : zel Try.prog 133 = .agg [.int .i64 0, .int .i64 0] := by kernel_rfl
@[go_sem] theorem fo_133 : fldsOk Try.prog 133 = true := by kernel_rfl
@[go_sem] theorem fl_133_0 : fld Try.prog 133 0 = some (0, 2) := by kernel_rfl
@[go_sem] theorem fl_133_1 : fld Try.prog 133 1 = some (1, 2) := by kernel_rfl
@[go_sem] theorem ty_148 : tyOf Try.prog 148 = .fn := by kernel_rfl
@[go_sem] theorem ce_148 : Try.prog.cellsOf 148 = 1 := by kernel_rfl
@[go_sem] theorem by_148 : Try.prog.bytesOf 148 = 8 := by kernel_rfl
@[go_sem] theorem io_148 : (Try.prog.info? 148).isSome = true := by kernel_rfl
@[go_sem] theorem un_148 : (Try.prog.underlying 148).isSome = true := by kernel_rfl
@[go_sem] theorem zo_148 : zOk Try.prog 148 = true := by kernel_rfl
@[go_sem] theorem zc_148 : zcells Try.prog 148 = [.undef] := by kernel_rfl
@[go_sem] theorem ze_148 : zel Try.prog 148 = .undef := by kernel_rfl
@[go_sem] theorem ty_151 : tyOf Try.prog 151 = .fn := by kernel_rfl
@[go_sem] theorem ce_151 : Try.prog.cellsOf 151 = 1 := by kernel_rfl
@[go_sem] theorem by_151 : Try.prog.bytesOf 151 = 8 := by kernel_rfl
@[go_sem] theorem io_151 : (Try.prog.info? 151).isSome = true := by kernel_rfl
@[go_sem] theorem un_151 : (Try.prog.underlying 151).isSome = true := by kernel_rfl
@[go_sem] theorem zo_151 : zOk Try.prog 151 = true := by kernel_rfl
@[go_sem] theorem zc_151 : zcells Try.prog 151 = [.undef] := by kernel_rfl
@[go_sem] theorem ze_151 : zel Try.prog 151 = .undef := by kernel_rfl
@[go_sem] theorem ty_156 : tyOf Try.prog 156 = .ptr := by kernel_rfl
@[go_sem] theorem ce_156 : Try.prog.cellsOf 156 = 1 := by kernel_rfl
@[go_sem] theorem by_156 : Try.prog.bytesOf 156 = 8 := by kernel_rfl
@[go_sem] theorem io_156 : (Try.prog.info? 156).isSome = true := by kernel_rfl
@[go_sem] theorem un_156 : (Try.prog.underlying 156).isSome = true := by kernel_rfl
@[go_sem] theorem zo_156 : zOk Try.prog 156 = true := by kernel_rfl
@[go_sem] theorem zc_156 : zcells Try.prog 156 = [.nilp] := by kernel_rfl
@[go_sem] theorem ze_156 : zel Try.prog 156 = .nilp := by kernel_rfl
@[go_sem] theorem ty_168 : tyOf Try.prog 168 = .int .u8 := by kernel_rfl
@[go_sem] theorem ce_168 : Try.prog.cellsOf 168 = 1 := by kernel_rfl
@[go_sem] theorem by_168 : Try.prog.bytesOf 168 = 1 := by kernel_rfl
@[go_sem] theorem io_168 : (Try.prog.info? 168).isSome = true := by kernel_rfl
@[go_sem] theorem un_168 : (Try.prog.underlying 168).isSome = true := by kernel_rfl
@[go_sem] theorem zo_168 : zOk Try.prog 168 = true := by kernel_rfl
@[go_sem] theorem zc_168 : zcells Try.prog 168 = [.int .u8 0] := by kernel_rfl
@[go_sem] theorem ze_168 : zel Try.prog 168 = .int .u8 0 := by kernel_rfl
@[go_sem] theorem ty_177 : tyOf Try.prog 177 = .sl 179 := by kernel_rfl
@[go_sem] theorem ce_177 : Try.prog.cellsOf 177 = 1 := by kernel_rfl
@[go_sem] theorem by_177 : Try.prog.bytesOf 177 = 24 := by kernel_rfl
@[go_sem] theorem io_177 : (Try.prog.info? 177).isSome = true := by kernel_rfl
@[go_sem] theorem un_177 : (Try.prog.underlying 177).isSome = true := by kernel_rfl
@[go_sem] theorem zo_177 : zOk Try.prog 177 = true := by kernel_rfl
@[go_sem] theorem zc_177 : zcells Try.prog 177 = [.nils] := by kernel_rfl
@[go_sem] theorem ze_177 : zel Try.prog 177 = .nils := by kernel_rfl
@[go_sem] theorem ty_179 : tyOf Try.prog 179 = .agg := by kernel_rfl
@[go_sem] theorem ce_179 : Try.prog.cellsOf 179 = 2 := by kernel_rfl
@[go_sem] theorem by_179 : Try.prog.bytesOf 179 = 16 := by kernel_rfl
@[go_sem] theorem io_179 : (Try.prog.info? 179).isSome = true := by kernel_rfl
@[go_sem] theorem un_179 : (Try.prog.underlying 179).isSome = true := by kernel_rfl
@[go_sem] theorem zo_179 : zOk Try.prog 179 = true := by kernel_rfl
@[go_sem] theorem zc_179 : zcells Try.prog 179 = [.int .i64 0, .int .i64 0] := by kernel_rfl
@[go_sem] theorem ze_179 : zel Try.prog 179 = .agg [.int .i64 0, .int .i64 0] := by kernel_rfl
@[go_sem] theorem fo_179 : fldsOk Try.prog 179 = true := by kernel_rfl
@[go_sem] theorem fl_179_0 : fld Try.prog 179 0 = some (0, 2) := by kernel_rfl
@[go_sem] theorem fl_179_1 : fld Try.prog 179 1 = some (1, 2) := by kernel_rfl
theorem hm : Try.prog.follows .mixedOrders = true := by kernel_rfl
end Go.Ve
