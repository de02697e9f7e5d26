/- Types of the seat, in the engine's words. No condition. -/
import Derived.Test.YtabpcpoclcmjiaaE28
import Derived.Test.YtabpcpoclcmjiaaProg
import Derived.KernelRfl
namespace Go.Ve
open Go.Proofs
set_option linter.unusedVariables false
@[go_sem] theorem ty_2 : tyOf Try.prog 2 = .int .i64 := by kernel_rfl
@[go_sem] theorem ce_2 : Try.prog.cellsOf 2 = 1 := by kernel_rfl
@[go_sem] theorem by_2 : Try.prog.bytesOf 2 = 8 := by kernel_rfl
@[go_sem] theorem io_2 : (Try.prog.info? 2).isSome = true := by kernel_rfl
@[go_sem] theorem un_2 : (Try.prog.underlying 2).isSome = true := by kernel_rfl
@[go_sem] theorem zo_2 : zOk Try.prog 2 = true := by kernel_rfl
@[go_sem] theorem zc_2 : zcells Try.prog 2 = [.int .i64 0] := by kernel_rfl
@[go_sem] theorem ze_2 : zel Try.prog 2 = .int .i64 0 := by kernel_rfl
@[go_sem] theorem ty_3 : tyOf Try.prog 3 = .int .i64 := by kernel_rfl
@[go_sem] theorem ce_3 : Try.prog.cellsOf 3 = 1 := by kernel_rfl
@[go_sem] theorem by_3 : Try.prog.bytesOf 3 = 8 := by kernel_rfl
@[go_sem] theorem io_3 : (Try.prog.info? 3).isSome = true := by kernel_rfl
@[go_sem] theorem un_3 : (Try.prog.underlying 3).isSome = true := by kernel_rfl
@[go_sem] theorem zo_3 : zOk Try.prog 3 = true := by kernel_rfl
@[go_sem] theorem zc_3 : zcells Try.prog 3 = [.int .i64 0] := by kernel_rfl
@[go_sem] theorem ze_3 : zel Try.prog 3 = .int .i64 0 := by kernel_rfl
@[go_sem] theorem ty_4 : tyOf Try.prog 4 = .bool := by kernel_rfl
@[go_sem] theorem ce_4 : Try.prog.cellsOf 4 = 1 := by kernel_rfl
@[go_sem] theorem by_4 : Try.prog.bytesOf 4 = 1 := by kernel_rfl
@[go_sem] theorem io_4 : (Try.prog.info? 4).isSome = true := by kernel_rfl
@[go_sem] theorem un_4 : (Try.prog.underlying 4).isSome = true := by kernel_rfl
@[go_sem] theorem zo_4 : zOk Try.prog 4 = true := by kernel_rfl
@[go_sem] theorem zc_4 : zcells Try.prog 4 = [.bool false] := by kernel_rfl
@[go_sem] theorem ze_4 : zel Try.prog 4 = .bool false := by kernel_rfl
@[go_sem] theorem ty_5 : tyOf Try.prog 5 = .int .u8 := by kernel_rfl
@[go_sem] theorem ce_5 : Try.prog.cellsOf 5 = 1 := by kernel_rfl
@[go_sem] theorem by_5 : Try.prog.bytesOf 5 = 1 := by kernel_rfl
@[go_sem] theorem io_5 : (Try.prog.info? 5).isSome = true := by kernel_rfl
@[go_sem] theorem un_5 : (Try.prog.underlying 5).isSome = true := by kernel_rfl
@[go_sem] theorem zo_5 : zOk Try.prog 5 = true := by kernel_rfl
@[go_sem] theorem zc_5 : zcells Try.prog 5 = [.int .u8 0] := by kernel_rfl
@[go_sem] theorem ze_5 : zel Try.prog 5 = .int .u8 0 := by kernel_rfl
@[go_sem] theorem ty_6 : tyOf Try.prog 6 = .int .u8 := by kernel_rfl
@[go_sem] theorem ce_6 : Try.prog.cellsOf 6 = 1 := by kernel_rfl
@[go_sem] theorem by_6 : Try.prog.bytesOf 6 = 1 := by kernel_rfl
@[go_sem] theorem io_6 : (Try.prog.info? 6).isSome = true := by kernel_rfl
@[go_sem] theorem un_6 : (Try.prog.underlying 6).isSome = true := by kernel_rfl
@[go_sem] theorem zo_6 : zOk Try.prog 6 = true := by kernel_rfl
@[go_sem] theorem zc_6 : zcells Try.prog 6 = [.int .u8 0] := by kernel_rfl
@[go_sem] theorem ze_6 : zel Try.prog 6 = .int .u8 0 := by kernel_rfl
@[go_sem] theorem ty_8 : tyOf Try.prog 8 = .agg := by kernel_rfl
@[go_sem] theorem ce_8 : Try.prog.cellsOf 8 = 4 := by kernel_rfl
@[go_sem] theorem by_8 : Try.prog.bytesOf 8 = 24 := by kernel_rfl
@[go_sem] theorem io_8 : (Try.prog.info? 8).isSome = true := by kernel_rfl
@[go_sem] theorem un_8 : (Try.prog.underlying 8).isSome = true := by kernel_rfl
@[go_sem] theorem zo_8 : zOk Try.prog 8 = true := by kernel_rfl
@[go_sem] theorem zc_8 : zcells Try.prog 8 = [.int .i64 0, .int .i64 0, .bool false, .int .u8 0] := by kernel_rfl
@[go_sem] theorem ze_8 : zel Try.prog 8 = .agg [.int .i64 0, .int .i64 0, .bool false, .int .u8 0] := by kernel_rfl
@[go_sem] theorem fo_8 : fldsOk Try.prog 8 = true := by kernel_rfl
@[go_sem] theorem fl_8_0 : fld Try.prog 8 0 = some (0, 2) := by kernel_rfl
@[go_sem] theorem fl_8_1 : fld Try.prog 8 1 = some (1, 3) := by kernel_rfl
@[go_sem] theorem fl_8_2 : fld Try.prog 8 2 = some (2, 4) := by kernel_rfl
@[go_sem] theorem fl_8_3 : fld Try.prog 8 3 = some (3, 6) := by kernel_rfl
@[go_sem] theorem ty_9 : tyOf Try.prog 9 = .str := by kernel_rfl
@[go_sem] theorem ce_9 : Try.prog.cellsOf 9 = 1 := by kernel_rfl
@[go_sem] theorem by_9 : Try.prog.bytesOf 9 = 16 := by kernel_rfl
@[go_sem] theorem io_9 : (Try.prog.info? 9).isSome = true := by kernel_rfl
@[go_sem] theorem un_9 : (Try.prog.underlying 9).isSome = true := by kernel_rfl
@[go_sem] theorem zo_9 : zOk Try.prog 9 = true := by kernel_rfl
@[go_sem] theorem zc_9 : zcells Try.prog 9 = [.str ⟨#[]⟩] := by kernel_rfl
@[go_sem] theorem ze_9 : zel Try.prog 9 = .str ⟨#[]⟩ := by kernel_rfl
@[go_sem] theorem ty_10 : tyOf Try.prog 10 = .str := by kernel_rfl
@[go_sem] theorem ce_10 : Try.prog.cellsOf 10 = 1 := by kernel_rfl
@[go_sem] theorem by_10 : Try.prog.bytesOf 10 = 16 := by kernel_rfl
@[go_sem] theorem io_10 : (Try.prog.info? 10).isSome = true := by kernel_rfl
@[go_sem] theorem un_10 : (Try.prog.underlying 10).isSome = true := by kernel_rfl
@[go_sem] theorem zo_10 : zOk Try.prog 10 = true := by kernel_rfl
@[go_sem] theorem zc_10 : zcells Try.prog 10 = [.str ⟨#[]⟩] := by kernel_rfl
@[go_sem] theorem ze_10 : zel Try.prog 10 = .str ⟨#[]⟩ := by kernel_rfl
@[go_sem] theorem ty_11 : tyOf Try.prog 11 = .str := by kernel_rfl
@[go_sem] theorem ce_11 : Try.prog.cellsOf 11 = 1 := by kernel_rfl
@[go_sem] theorem by_11 : Try.prog.bytesOf 11 = 16 := by kernel_rfl
@[go_sem] theorem io_11 : (Try.prog.info? 11).isSome = true := by kernel_rfl
@[go_sem] theorem un_11 : (Try.prog.underlying 11).isSome = true := by kernel_rfl
@[go_sem] theorem zo_11 : zOk Try.prog 11 = true := by kernel_rfl
@[go_sem] theorem zc_11 : zcells Try.prog 11 = [.str ⟨#[]⟩] := by kernel_rfl
@[go_sem] theorem ze_11 : zel Try.prog 11 = .str ⟨#[]⟩ := by kernel_rfl
@[go_sem] theorem ty_12 : tyOf Try.prog 12 = .int .u64 := by kernel_rfl
@[go_sem] theorem ce_12 : Try.prog.cellsOf 12 = 1 := by kernel_rfl
@[go_sem] theorem by_12 : Try.prog.bytesOf 12 = 8 := by kernel_rfl
@[go_sem] theorem io_12 : (Try.prog.info? 12).isSome = true := by kernel_rfl
@[go_sem] theorem un_12 : (Try.prog.underlying 12).isSome = true := by kernel_rfl
@[go_sem] theorem zo_12 : zOk Try.prog 12 = true := by kernel_rfl
@[go_sem] theorem zc_12 : zcells Try.prog 12 = [.int .u64 0] := by kernel_rfl
@[go_sem] theorem ze_12 : zel Try.prog 12 = .int .u64 0 := by kernel_rfl
@[go_sem] theorem ty_14 : tyOf Try.prog 14 = .agg := by kernel_rfl
@[go_sem] theorem ce_14 : Try.prog.cellsOf 14 = 2 := by kernel_rfl
@[go_sem] theorem by_14 : Try.prog.bytesOf 14 = 24 := by kernel_rfl
@[go_sem] theorem io_14 : (Try.prog.info? 14).isSome = true := by kernel_rfl
@[go_sem] theorem un_14 : (Try.prog.underlying 14).isSome = true := by kernel_rfl
@[go_sem] theorem zo_14 : zOk Try.prog 14 = true := by kernel_rfl
@[go_sem] theorem zc_14 : zcells Try.prog 14 = [.str ⟨#[]⟩, .int .u64 0] := by kernel_rfl
@[go_sem] theorem ze_14 : zel Try.prog 14 = .agg [.str ⟨#[]⟩, .int .u64 0] := by kernel_rfl
@[go_sem] theorem fo_14 : fldsOk Try.prog 14 = true := by kernel_rfl
@[go_sem] theorem fl_14_0 : fld Try.prog 14 0 = some (0, 9) := by kernel_rfl
@[go_sem] theorem fl_14_1 : fld Try.prog 14 1 = some (1, 12) := by kernel_rfl
@[go_sem] theorem ty_15 : tyOf Try.prog 15 = .ptr := by kernel_rfl
@[go_sem] theorem ce_15 : Try.prog.cellsOf 15 = 1 := by kernel_rfl
@[go_sem] theorem by_15 : Try.prog.bytesOf 15 = 8 := by kernel_rfl
@[go_sem] theorem io_15 : (Try.prog.info? 15).isSome = true := by kernel_rfl
@[go_sem] theorem un_15 : (Try.prog.underlying 15).isSome = true := by kernel_rfl
@[go_sem] theorem zo_15 : zOk Try.prog 15 = true := by kernel_rfl
@[go_sem] theorem zc_15 : zcells Try.prog 15 = [.nilp] := by kernel_rfl
@[go_sem] theorem ze_15 : zel Try.prog 15 = .nilp := by kernel_rfl
@[go_sem] theorem ty_16 : tyOf Try.prog 16 = .ptr := by kernel_rfl
@[go_sem] theorem ce_16 : Try.prog.cellsOf 16 = 1 := by kernel_rfl
@[go_sem] theorem by_16 : Try.prog.bytesOf 16 = 8 := by kernel_rfl
@[go_sem] theorem io_16 : (Try.prog.info? 16).isSome = true := by kernel_rfl
@[go_sem] theorem un_16 : (Try.prog.underlying 16).isSome = true := by kernel_rfl
@[go_sem] theorem zo_16 : zOk Try.prog 16 = true := by kernel_rfl
@[go_sem] theorem zc_16 : zcells Try.prog 16 = [.nilp] := by kernel_rfl
@[go_sem] theorem ze_16 : zel Try.prog 16 = .nilp := by kernel_rfl
@[go_sem] theorem ty_17 : tyOf Try.prog 17 = .ptr := by kernel_rfl
@[go_sem] theorem ce_17 : Try.prog.cellsOf 17 = 1 := by kernel_rfl
@[go_sem] theorem by_17 : Try.prog.bytesOf 17 = 8 := by kernel_rfl
@[go_sem] theorem io_17 : (Try.prog.info? 17).isSome = true := by kernel_rfl
@[go_sem] theorem un_17 : (Try.prog.underlying 17).isSome = true := by kernel_rfl
@[go_sem] theorem zo_17 : zOk Try.prog 17 = true := by kernel_rfl
@[go_sem] theorem zc_17 : zcells Try.prog 17 = [.nilp] := by kernel_rfl
@[go_sem] theorem ze_17 : zel Try.prog 17 = .nilp := by kernel_rfl
@[go_sem] theorem ty_19 : tyOf Try.prog 19 = .agg := by kernel_rfl
@[go_sem] theorem ce_19 : Try.prog.cellsOf 19 = 1 := by kernel_rfl
@[go_sem] theorem by_19 : Try.prog.bytesOf 19 = 8 := by kernel_rfl
@[go_sem] theorem io_19 : (Try.prog.info? 19).isSome = true := by kernel_rfl
@[go_sem] theorem un_19 : (Try.prog.underlying 19).isSome = true := by kernel_rfl
@[go_sem] theorem zo_19 : zOk Try.prog 19 = true := by kernel_rfl
@[go_sem] theorem zc_19 : zcells Try.prog 19 = [.nilp] := by kernel_rfl
@[go_sem] theorem ze_19 : zel Try.prog 19 = .agg [.nilp] := by kernel_rfl
@[go_sem] theorem fo_19 : fldsOk Try.prog 19 = true := by kernel_rfl
@[go_sem] theorem fl_19_0 : fld Try.prog 19 0 = some (0, 17) := by kernel_rfl
@[go_sem] theorem ty_23 : tyOf Try.prog 23 = .agg := by kernel_rfl
@[go_sem] theorem ce_23 : Try.prog.cellsOf 23 = 2 := by kernel_rfl
@[go_sem] theorem by_23 : Try.prog.bytesOf 23 = 16 := by kernel_rfl
@[go_sem] theorem io_23 : (Try.prog.info? 23).isSome = true := by kernel_rfl
@[go_sem] theorem un_23 : (Try.prog.underlying 23).isSome = true := by kernel_rfl
@[go_sem] theorem zo_23 : zOk Try.prog 23 = true := by kernel_rfl
@[go_sem] theorem zc_23 : zcells Try.prog 23 = [.int .i64 0, .int .i64 0] := by kernel_rfl
@[go_sem] theorem ze_23 : zel Try.prog 23 = .agg [.int .i64 0, .int .i64 0] := by kernel_rfl
@[go_sem] theorem fo_23 : fldsOk Try.prog 23 = true := by kernel_rfl
@[go_sem] theorem fl_23_0 : fld Try.prog 23 0 = some (0, 2) := by kernel_rfl
@[go_sem] theorem fl_23_1 : fld Try.prog 23 1 = some (1, 2) := by kernel_rfl
@[go_sem] theorem ty_24 : tyOf Try.prog 24 = .agg := by kernel_rfl
@[go_sem] theorem ce_24 : Try.prog.cellsOf 24 = 2 := by kernel_rfl
@[go_sem] theorem by_24 : Try.prog.bytesOf 24 = 16 := by kernel_rfl
@[go_sem] theorem io_24 : (Try.prog.info? 24).isSome = true := by kernel_rfl
@[go_sem] theorem un_24 : (Try.prog.underlying 24).isSome = true := by kernel_rfl
@[go_sem] theorem zo_24 : zOk Try.prog 24 = true := by kernel_rfl
@[go_sem] theorem zc_24 : zcells Try.prog 24 = [.int .i64 0, .int .i64 0] := by kernel_rfl
@[go_sem] theorem ze_24 : zel Try.prog 24 = .agg [.int .i64 0, .int .i64 0] := by kernel_rfl
@[go_sem] theorem fo_24 : fldsOk Try.prog 24 = true := by kernel_rfl
@[go_sem] theorem fl_24_0 : fld Try.prog 24 0 = some (0, 2) := by kernel_rfl
@[go_sem] theorem fl_24_1 : fld Try.prog 24 1 = some (1, 2) := by kernel_rfl
@[go_sem] theorem ty_26 : tyOf Try.prog 26 = .agg := by kernel_rfl
@[go_sem] theorem ce_26 : Try.prog.cellsOf 26 = 2 := by kernel_rfl
@[go_sem] theorem by_26 : Try.prog.bytesOf 26 = 16 := by kernel_rfl
@[go_sem] theorem io_26 : (Try.prog.info? 26).isSome = true := by kernel_rfl
@[go_sem] theorem un_26 : (Try.prog.underlying 26).isSome = true := by kernel_rfl
@[go_sem] theorem zo_26 : zOk Try.prog 26 = true := by kernel_rfl
@[go_sem] theorem zc_26 : zcells Try.prog 26 = [.int .i64 0, .int .i64 0] := by kernel_rfl
@[go_sem] theorem ze_26 : zel Try.prog 26 = .agg [.int .i64 0, .int .i64 0] := by kernel_rfl
@[go_sem] theorem fo_26 : fldsOk Try.prog 26 = true := by kernel_rfl
@[go_sem] theorem fl_26_0 : fld Try.prog 26 0 = some (0, 2) := by kernel_rfl
@[go_sem] theorem fl_26_1 : fld Try.prog 26 1 = some (1, 2) := by kernel_rfl
@[go_sem] theorem ty_27 : tyOf Try.prog 27 = .sl 108 := by kernel_rfl
@[go_sem] theorem ce_27 : Try.prog.cellsOf 27 = 1 := by kernel_rfl
@[go_sem] theorem by_27 : Try.prog.bytesOf 27 = 24 := by kernel_rfl
@[go_sem] theorem io_27 : (Try.prog.info? 27).isSome = true := by kernel_rfl
@[go_sem] theorem un_27 : (Try.prog.underlying 27).isSome = true := by kernel_rfl
@[go_sem] theorem zo_27 : zOk Try.prog 27 = true := by kernel_rfl
@[go_sem] theorem zc_27 : zcells Try.prog 27 = [.nils] := by kernel_rfl
@[go_sem] theorem ze_27 : zel Try.prog 27 = .nils := by kernel_rfl
@[go_sem] theorem ty_28 : tyOf Try.prog 28 = .sl 111 := by kernel_rfl
@[go_sem] theorem ce_28 : Try.prog.cellsOf 28 = 1 := by kernel_rfl
@[go_sem] theorem by_28 : Try.prog.bytesOf 28 = 24 := by kernel_rfl
@[go_sem] theorem io_28 : (Try.prog.info? 28).isSome = true := by kernel_rfl
@[go_sem] theorem un_28 : (Try.prog.underlying 28).isSome = true := by kernel_rfl
@[go_sem] theorem zo_28 : zOk Try.prog 28 = true := by kernel_rfl
@[go_sem] theorem zc_28 : zcells Try.prog 28 = [.nils] := by kernel_rfl
@[go_sem] theorem ze_28 : zel Try.prog 28 = .nils := by kernel_rfl
@[go_sem] theorem ty_29 : tyOf Try.prog 29 = .sl 69 := by kernel_rfl
@[go_sem] theorem ce_29 : Try.prog.cellsOf 29 = 1 := by kernel_rfl
@[go_sem] theorem by_29 : Try.prog.bytesOf 29 = 24 := by kernel_rfl
@[go_sem] theorem io_29 : (Try.prog.info? 29).isSome = true := by kernel_rfl
@[go_sem] theorem un_29 : (Try.prog.underlying 29).isSome = true := by kernel_rfl
@[go_sem] theorem zo_29 : zOk Try.prog 29 = true := by kernel_rfl
@[go_sem] theorem zc_29 : zcells Try.prog 29 = [.nils] := by kernel_rfl
@[go_sem] theorem ze_29 : zel Try.prog 29 = .nils := by kernel_rfl
@[go_sem] theorem ty_30 : tyOf Try.prog 30 = .sl 71 := by kernel_rfl
@[go_sem] theorem ce_30 : Try.prog.cellsOf 30 = 1 := by kernel_rfl
@[go_sem] theorem by_30 : Try.prog.bytesOf 30 = 24 := by kernel_rfl
@[go_sem] theorem io_30 : (Try.prog.info? 30).isSome = true := by kernel_rfl
@[go_sem] theorem un_30 : (Try.prog.underlying 30).isSome = true := by kernel_rfl
@[go_sem] theorem zo_30 : zOk Try.prog 30 = true := by kernel_rfl
@[go_sem] theorem zc_30 : zcells Try.prog 30 = [.nils] := by kernel_rfl
@[go_sem] theorem ze_30 : zel Try.prog 30 = .nils := by kernel_rfl
@[go_sem] theorem ty_32 : tyOf Try.prog 32 = .agg := by kernel_rfl
@[go_sem] theorem ce_32 : Try.prog.cellsOf 32 = 12 := by kernel_rfl
@[go_sem] theorem by_32 : Try.prog.bytesOf 32 = 160 := by kernel_rfl
@[go_sem] theorem io_32 : (Try.prog.info? 32).isSome = true := by kernel_rfl
@[go_sem] theorem un_32 : (Try.prog.underlying 32).isSome = true := by kernel_rfl
@[go_sem] theorem zo_32 : zOk Try.prog 32 = true := by kernel_rfl
@[go_sem] theorem zc_32 : zcells Try.prog 32 = [.int .i64 0, .int .i64 0, .int .i64 0, .int .i64 0, .int .i64 0, .int .i64 0, .nils, .nils, .nils, .int .i64 0, .int .i64 0, .nils] := by kernel_rfl
@[go_sem] theorem ze_32 : zel Try.prog 32 = .agg [.int .i64 0, .int .i64 0, .int .i64 0, .int .i64 0, .int .i64 0, .int .i64 0, .nils, .nils, .nils, .int .i64 0, .int .i64 0, .nils] := by kernel_rfl
@[go_sem] theorem fo_32 : fldsOk Try.prog 32 = true := by kernel_rfl
@[go_sem] theorem fl_32_0 : fld Try.prog 32 0 = some (0, 24) := by kernel_rfl
@[go_sem] theorem fl_32_1 : fld Try.prog 32 1 = some (2, 2) := by kernel_rfl
@[go_sem] theorem fl_32_2 : fld Try.prog 32 2 = some (3, 2) := by kernel_rfl
@[go_sem] theorem fl_32_3 : fld Try.prog 32 3 = some (4, 26) := by kernel_rfl
@[go_sem] theorem fl_32_4 : fld Try.prog 32 4 = some (6, 27) := by kernel_rfl
@[go_sem] theorem fl_32_5 : fld Try.prog 32 5 = some (7, 28) := by kernel_rfl
@[go_sem] theorem fl_32_6 : fld Try.prog 32 6 = some (8, 29) := by kernel_rfl
@[go_sem] theorem fl_32_7 : fld Try.prog 32 7 = some (9, 26) := by kernel_rfl
@[go_sem] theorem fl_32_8 : fld Try.prog 32 8 = some (11, 30) := by kernel_rfl
@[go_sem] theorem ty_35 : tyOf Try.prog 35 = .fn := by kernel_rfl
@[go_sem] theorem ce_35 : Try.prog.cellsOf 35 = 1 := by kernel_rfl
@[go_sem] theorem by_35 : Try.prog.bytesOf 35 = 8 := by kernel_rfl
@[go_sem] theorem io_35 : (Try.prog.info? 35).isSome = true := by kernel_rfl
@[go_sem] theorem un_35 : (Try.prog.underlying 35).isSome = true := by kernel_rfl
@[go_sem] theorem zo_35 : zOk Try.prog 35 = true := by kernel_rfl
@[go_sem] theorem zc_35 : zcells Try.prog 35 = [.undef] := by kernel_rfl
@[go_sem] theorem ze_35 : zel Try.prog 35 = .undef := by kernel_rfl
@[go_sem] theorem ty_38 : tyOf Try.prog 38 = .sl 54 := by kernel_rfl
@[go_sem] theorem ce_38 : Try.prog.cellsOf 38 = 1 := by kernel_rfl
@[go_sem] theorem by_38 : Try.prog.bytesOf 38 = 24 := by kernel_rfl
@[go_sem] theorem io_38 : (Try.prog.info? 38).isSome = true := by kernel_rfl
@[go_sem] theorem un_38 : (Try.prog.underlying 38).isSome = true := by kernel_rfl
@[go_sem] theorem zo_38 : zOk Try.prog 38 = true := by kernel_rfl
@[go_sem] theorem zc_38 : zcells Try.prog 38 = [.nils] := by kernel_rfl
@[go_sem] theorem ze_38 : zel Try.prog 38 = .nils := by kernel_rfl
@[go_sem] theorem ty_40 : tyOf Try.prog 40 = .agg := by kernel_rfl
@[go_sem] theorem ce_40 : Try.prog.cellsOf 40 = 2 := by kernel_rfl
@[go_sem] theorem by_40 : Try.prog.bytesOf 40 = 48 := by kernel_rfl
@[go_sem] theorem io_40 : (Try.prog.info? 40).isSome = true := by kernel_rfl
@[go_sem] theorem un_40 : (Try.prog.underlying 40).isSome = true := by kernel_rfl
@[go_sem] theorem zo_40 : zOk Try.prog 40 = true := by kernel_rfl
@[go_sem] theorem zc_40 : zcells Try.prog 40 = [.nils, .nils] := by kernel_rfl
@[go_sem] theorem ze_40 : zel Try.prog 40 = .agg [.nils, .nils] := by kernel_rfl
@[go_sem] theorem fo_40 : fldsOk Try.prog 40 = true := by kernel_rfl
@[go_sem] theorem fl_40_0 : fld Try.prog 40 0 = some (0, 38) := by kernel_rfl
@[go_sem] theorem fl_40_1 : fld Try.prog 40 1 = some (1, 38) := by kernel_rfl
@[go_sem] theorem ty_43 : tyOf Try.prog 43 = .sl 32 := by kernel_rfl
@[go_sem] theorem ce_43 : Try.prog.cellsOf 43 = 1 := by kernel_rfl
@[go_sem] theorem by_43 : Try.prog.bytesOf 43 = 24 := by kernel_rfl
@[go_sem] theorem io_43 : (Try.prog.info? 43).isSome = true := by kernel_rfl
@[go_sem] theorem un_43 : (Try.prog.underlying 43).isSome = true := by kernel_rfl
@[go_sem] theorem zo_43 : zOk Try.prog 43 = true := by kernel_rfl
@[go_sem] theorem zc_43 : zcells Try.prog 43 = [.nils] := by kernel_rfl
@[go_sem] theorem ze_43 : zel Try.prog 43 = .nils := by kernel_rfl
@[go_sem] theorem ty_45 : tyOf Try.prog 45 = .agg := by kernel_rfl
@[go_sem] theorem ce_45 : Try.prog.cellsOf 45 = 2 := by kernel_rfl
@[go_sem] theorem by_45 : Try.prog.bytesOf 45 = 48 := by kernel_rfl
@[go_sem] theorem io_45 : (Try.prog.info? 45).isSome = true := by kernel_rfl
@[go_sem] theorem un_45 : (Try.prog.underlying 45).isSome = true := by kernel_rfl
@[go_sem] theorem zo_45 : zOk Try.prog 45 = true := by kernel_rfl
@[go_sem] theorem zc_45 : zcells Try.prog 45 = [.nils, .nils] := by kernel_rfl
@[go_sem] theorem ze_45 : zel Try.prog 45 = .agg [.nils, .nils] := by kernel_rfl
@[go_sem] theorem fo_45 : fldsOk Try.prog 45 = true := by kernel_rfl
@[go_sem] theorem fl_45_0 : fld Try.prog 45 0 = some (0, 43) := by kernel_rfl
@[go_sem] theorem fl_45_1 : fld Try.prog 45 1 = some (1, 43) := by kernel_rfl
@[go_sem] theorem ty_48 : tyOf Try.prog 48 = .agg := by kernel_rfl
@[go_sem] theorem ce_48 : Try.prog.cellsOf 48 = 2 := by kernel_rfl
@[go_sem] theorem by_48 : Try.prog.bytesOf 48 = 16 := by kernel_rfl
@[go_sem] theorem io_48 : (Try.prog.info? 48).isSome = true := by kernel_rfl
@[go_sem] theorem un_48 : (Try.prog.underlying 48).isSome = true := by kernel_rfl
@[go_sem] theorem zo_48 : zOk Try.prog 48 = true := by kernel_rfl
@[go_sem] theorem zc_48 : zcells Try.prog 48 = [.int .i64 0, .int .i64 0] := by kernel_rfl
@[go_sem] theorem ze_48 : zel Try.prog 48 = .agg [.int .i64 0, .int .i64 0] := by kernel_rfl
@[go_sem] theorem fo_48 : fldsOk Try.prog 48 = true := by kernel_rfl
@[go_sem] theorem fl_48_0 : fld Try.prog 48 0 = some (0, 2) := by kernel_rfl
@[go_sem] theorem fl_48_1 : fld Try.prog 48 1 = some (1, 2) := by kernel_rfl
@[go_sem] theorem ty_49 : tyOf Try.prog 49 = .sl 125 := by kernel_rfl
@[go_sem] theorem ce_49 : Try.prog.cellsOf 49 = 1 := by kernel_rfl
@[go_sem] theorem by_49 : Try.prog.bytesOf 49 = 24 := by kernel_rfl
@[go_sem] theorem io_49 : (Try.prog.info? 49).isSome = true := by kernel_rfl
@[go_sem] theorem un_49 : (Try.prog.underlying 49).isSome = true := by kernel_rfl
@[go_sem] theorem zo_49 : zOk Try.prog 49 = true := by kernel_rfl
@[go_sem] theorem zc_49 : zcells Try.prog 49 = [.nils] := by kernel_rfl
@[go_sem] theorem ze_49 : zel Try.prog 49 = .nils := by kernel_rfl
@[go_sem] theorem ty_50 : tyOf Try.prog 50 = .sl 129 := by kernel_rfl
@[go_sem] theorem ce_50 : Try.prog.cellsOf 50 = 1 := by kernel_rfl
@[go_sem] theorem by_50 : Try.prog.bytesOf 50 = 24 := by kernel_rfl
@[go_sem] theorem io_50 : (Try.prog.info? 50).isSome = true := by kernel_rfl
@[go_sem] theorem un_50 : (Try.prog.underlying 50).isSome = true := by kernel_rfl
@[go_sem] theorem zo_50 : zOk Try.prog 50 = true := by kernel_rfl
@[go_sem] theorem zc_50 : zcells Try.prog 50 = [.nils] := by kernel_rfl
@[go_sem] theorem ze_50 : zel Try.prog 50 = .nils := by kernel_rfl
@[go_sem] theorem ty_51 : tyOf Try.prog 51 = .sl 58 := by kernel_rfl
@[go_sem] theorem ce_51 : Try.prog.cellsOf 51 = 1 := by kernel_rfl
@[go_sem] theorem by_51 : Try.prog.bytesOf 51 = 24 := by kernel_rfl
@[go_sem] theorem io_51 : (Try.prog.info? 51).isSome = true := by kernel_rfl
@[go_sem] theorem un_51 : (Try.prog.underlying 51).isSome = true := by kernel_rfl
@[go_sem] theorem zo_51 : zOk Try.prog 51 = true := by kernel_rfl
@[go_sem] theorem zc_51 : zcells Try.prog 51 = [.nils] := by kernel_rfl
@[go_sem] theorem ze_51 : zel Try.prog 51 = .nils := by kernel_rfl
@[go_sem] theorem ty_52 : tyOf Try.prog 52 = .sl 60 := by kernel_rfl
@[go_sem] theorem ce_52 : Try.prog.cellsOf 52 = 1 := by kernel_rfl
@[go_sem] theorem by_52 : Try.prog.bytesOf 52 = 24 := by kernel_rfl
@[go_sem] theorem io_52 : (Try.prog.info? 52).isSome = true := by kernel_rfl
@[go_sem] theorem un_52 : (Try.prog.underlying 52).isSome = true := by kernel_rfl
@[go_sem] theorem zo_52 : zOk Try.prog 52 = true := by kernel_rfl
@[go_sem] theorem zc_52 : zcells Try.prog 52 = [.nils] := by kernel_rfl
@[go_sem] theorem ze_52 : zel Try.prog 52 = .nils := by kernel_rfl
@[go_sem] theorem ty_54 : tyOf Try.prog 54 = .agg := by kernel_rfl
@[go_sem] theorem ce_54 : Try.prog.cellsOf 54 = 12 := by kernel_rfl
@[go_sem] theorem by_54 : Try.prog.bytesOf 54 = 160 := by kernel_rfl
@[go_sem] theorem io_54 : (Try.prog.info? 54).isSome = true := by kernel_rfl
@[go_sem] theorem un_54 : (Try.prog.underlying 54).isSome = true := by kernel_rfl
@[go_sem] theorem zo_54 : zOk Try.prog 54 = true := by kernel_rfl
@[go_sem] theorem zc_54 : zcells Try.prog 54 = [.int .i64 0, .int .i64 0, .int .i64 0, .int .i64 0, .int .i64 0, .int .i64 0, .nils, .nils, .nils, .int .i64 0, .int .i64 0, .nils] := by kernel_rfl
@[go_sem] theorem ze_54 : zel Try.prog 54 = .agg [.int .i64 0, .int .i64 0, .int .i64 0, .int .i64 0, .int .i64 0, .int .i64 0, .nils, .nils, .nils, .int .i64 0, .int .i64 0, .nils] := by kernel_rfl
@[go_sem] theorem fo_54 : fldsOk Try.prog 54 = true := by kernel_rfl
@[go_sem] theorem fl_54_0 : fld Try.prog 54 0 = some (0, 23) := by kernel_rfl
@[go_sem] theorem fl_54_1 : fld Try.prog 54 1 = some (2, 2) := by kernel_rfl
@[go_sem] theorem fl_54_2 : fld Try.prog 54 2 = some (3, 2) := by kernel_rfl
@[go_sem] theorem fl_54_3 : fld Try.prog 54 3 = some (4, 48) := by kernel_rfl
@[go_sem] theorem fl_54_4 : fld Try.prog 54 4 = some (6, 49) := by kernel_rfl
@[go_sem] theorem fl_54_5 : fld Try.prog 54 5 = some (7, 50) := by kernel_rfl
@[go_sem] theorem fl_54_6 : fld Try.prog 54 6 = some (8, 51) := by kernel_rfl
@[go_sem] theorem fl_54_7 : fld Try.prog 54 7 = some (9, 48) := by kernel_rfl
@[go_sem] theorem fl_54_8 : fld Try.prog 54 8 = some (11, 52) := by kernel_rfl
@[go_sem] theorem ty_56 : tyOf Try.prog 56 = .agg := by kernel_rfl
@[go_sem] theorem ce_56 : Try.prog.cellsOf 56 = 2 := by kernel_rfl
@[go_sem] theorem by_56 : Try.prog.bytesOf 56 = 16 := by kernel_rfl
@[go_sem] theorem io_56 : (Try.prog.info? 56).isSome = true := by kernel_rfl
@[go_sem] theorem un_56 : (Try.prog.underlying 56).isSome = true := by kernel_rfl
@[go_sem] theorem zo_56 : zOk Try.prog 56 = true := by kernel_rfl
@[go_sem] theorem zc_56 : zcells Try.prog 56 = [.int .i64 0, .int .i64 0] := by kernel_rfl
@[go_sem] theorem ze_56 : zel Try.prog 56 = .agg [.int .i64 0, .int .i64 0] := by kernel_rfl
@[go_sem] theorem fo_56 : fldsOk Try.prog 56 = true := by kernel_rfl
@[go_sem] theorem fl_56_0 : fld Try.prog 56 0 = some (0, 2) := by kernel_rfl
@[go_sem] theorem fl_56_1 : fld Try.prog 56 1 = some (1, 2) := by kernel_rfl
@[go_sem] theorem ty_58 : tyOf Try.prog 58 = .agg := by kernel_rfl
@[go_sem] theorem ce_58 : Try.prog.cellsOf 58 = 10 := by kernel_rfl
@[go_sem] theorem by_58 : Try.prog.bytesOf 58 = 88 := by kernel_rfl
@[go_sem] theorem io_58 : (Try.prog.info? 58).isSome = true := by kernel_rfl
@[go_sem] theorem un_58 : (Try.prog.underlying 58).isSome = true := by kernel_rfl
@[go_sem] theorem zo_58 : zOk Try.prog 58 = true := by kernel_rfl
@[go_sem] theorem zc_58 : zcells Try.prog 58 = [.int .i64 0, .int .i64 0, .int .i64 0, .int .i64 0, .str ⟨#[]⟩, .bool false, .int .i64 0, .int .i64 0, .int .i64 0, .int .i64 0] := by kernel_rfl
@[go_sem] theorem ze_58 : zel Try.prog 58 = .agg [.int .i64 0, .int .i64 0, .int .i64 0, .int .i64 0, .str ⟨#[]⟩, .bool false, .int .i64 0, .int .i64 0, .int .i64 0, .int .i64 0] := by kernel_rfl
@[go_sem] theorem fo_58 : fldsOk Try.prog 58 = true := by kernel_rfl
@[go_sem] theorem fl_58_0 : fld Try.prog 58 0 = some (0, 48) := by kernel_rfl
@[go_sem] theorem fl_58_1 : fld Try.prog 58 1 = some (2, 48) := by kernel_rfl
@[go_sem] theorem fl_58_2 : fld Try.prog 58 2 = some (4, 9) := by kernel_rfl
@[go_sem] theorem fl_58_3 : fld Try.prog 58 3 = some (5, 4) := by kernel_rfl
@[go_sem] theorem fl_58_4 : fld Try.prog 58 4 = some (6, 2) := by kernel_rfl
@[go_sem] theorem fl_58_5 : fld Try.prog 58 5 = some (7, 2) := by kernel_rfl
@[go_sem] theorem fl_58_6 : fld Try.prog 58 6 = some (8, 56) := by kernel_rfl
@[go_sem] theorem ty_60 : tyOf Try.prog 60 = .agg := by kernel_rfl
@[go_sem] theorem ce_60 : Try.prog.cellsOf 60 = 6 := by kernel_rfl
@[go_sem] theorem by_60 : Try.prog.bytesOf 60 = 64 := by kernel_rfl
@[go_sem] theorem io_60 : (Try.prog.info? 60).isSome = true := by kernel_rfl
@[go_sem] theorem un_60 : (Try.prog.underlying 60).isSome = true := by kernel_rfl
@[go_sem] theorem zo_60 : zOk Try.prog 60 = true := by kernel_rfl
@[go_sem] theorem zc_60 : zcells Try.prog 60 = [.str ⟨#[]⟩, .int .i64 0, .int .i64 0, .int .i64 0, .int .i64 0, .str ⟨#[]⟩] := by kernel_rfl
@[go_sem] theorem ze_60 : zel Try.prog 60 = .agg [.str ⟨#[]⟩, .int .i64 0, .int .i64 0, .int .i64 0, .int .i64 0, .str ⟨#[]⟩] := by kernel_rfl
@[go_sem] theorem fo_60 : fldsOk Try.prog 60 = true := by kernel_rfl
@[go_sem] theorem fl_60_0 : fld Try.prog 60 0 = some (0, 9) := by kernel_rfl
@[go_sem] theorem fl_60_1 : fld Try.prog 60 1 = some (1, 48) := by kernel_rfl
@[go_sem] theorem fl_60_2 : fld Try.prog 60 2 = some (3, 2) := by kernel_rfl
@[go_sem] theorem fl_60_3 : fld Try.prog 60 3 = some (4, 2) := by kernel_rfl
@[go_sem] theorem fl_60_4 : fld Try.prog 60 4 = some (5, 9) := by kernel_rfl
@[go_sem] theorem ty_62 : tyOf Try.prog 62 = .agg := by kernel_rfl
@[go_sem] theorem ce_62 : Try.prog.cellsOf 62 = 3 := by kernel_rfl
@[go_sem] theorem by_62 : Try.prog.bytesOf 62 = 32 := by kernel_rfl
@[go_sem] theorem io_62 : (Try.prog.info? 62).isSome = true := by kernel_rfl
@[go_sem] theorem un_62 : (Try.prog.underlying 62).isSome = true := by kernel_rfl
@[go_sem] theorem zo_62 : zOk Try.prog 62 = true := by kernel_rfl
@[go_sem] theorem zc_62 : zcells Try.prog 62 = [.int .i64 0, .int .i64 0, .str ⟨#[]⟩] := by kernel_rfl
@[go_sem] theorem ze_62 : zel Try.prog 62 = .agg [.int .i64 0, .int .i64 0, .str ⟨#[]⟩] := by kernel_rfl
@[go_sem] theorem fo_62 : fldsOk Try.prog 62 = true := by kernel_rfl
@[go_sem] theorem fl_62_0 : fld Try.prog 62 0 = some (0, 2) := by kernel_rfl
@[go_sem] theorem fl_62_1 : fld Try.prog 62 1 = some (1, 2) := by kernel_rfl
@[go_sem] theorem fl_62_2 : fld Try.prog 62 2 = some (2, 9) := by kernel_rfl
@[go_sem] theorem ty_64 : tyOf Try.prog 64 = .agg := by kernel_rfl
@[go_sem] theorem ce_64 : Try.prog.cellsOf 64 = 46 := by kernel_rfl
@[go_sem] theorem by_64 : Try.prog.bytesOf 64 = 480 := by kernel_rfl
@[go_sem] theorem io_64 : (Try.prog.info? 64).isSome = true := by kernel_rfl
@[go_sem] theorem un_64 : (Try.prog.underlying 64).isSome = true := by kernel_rfl
@[go_sem] theorem zo_64 : zOk Try.prog 64 = true := by kernel_rfl
@[go_sem] theorem zc_64 : zcells Try.prog 64 = [.int .i64 0, .int .i64 0, .int .i64 0, .int .i64 0, .int .i64 0, .int .i64 0, .str ⟨#[]⟩, .int .i64 0, .int .i64 0, .int .i64 0, .int .i64 0, .int .i64 0, .int .i64 0, .int .i64 0, .int .i64 0, .int .i64 0, .int .i64 0, .nils, .nils, .nils, .int .i64 0, .int .i64 0, .nils, .int .i64 0, .int .i64 0, .int .i64 0, .int .i64 0, .str ⟨#[]⟩, .bool false, .int .i64 0, .int .i64 0, .int .i64 0, .int .i64 0, .str ⟨#[]⟩, .int .i64 0, .int .i64 0, .int .i64 0, .int .i64 0, .str ⟨#[]⟩, .int .i64 0, .int .i64 0, .str ⟨#[]⟩, .int .i64 0, .int .i64 0, .int .i64 0, .str ⟨#[]⟩] := by kernel_rfl
@[go_sem] theorem ze_64 : zel Try.prog 64 = .agg [.int .i64 0, .int .i64 0, .int .i64 0, .int .i64 0, .int .i64 0, .int .i64 0, .str ⟨#[]⟩, .int .i64 0, .int .i64 0, .int .i64 0, .int .i64 0, .int .i64 0, .int .i64 0, .int .i64 0, .int .i64 0, .int .i64 0, .int .i64 0, .nils, .nils, .nils, .int .i64 0, .int .i64 0, .nils, .int .i64 0, .int .i64 0, .int .i64 0, .int .i64 0, .str ⟨#[]⟩, .bool false, .int .i64 0, .int .i64 0, .int .i64 0, .int .i64 0, .str ⟨#[]⟩, .int .i64 0, .int .i64 0, .int .i64 0, .int .i64 0, .str ⟨#[]⟩, .int .i64 0, .int .i64 0, .str ⟨#[]⟩, .int .i64 0, .int .i64 0, .int .i64 0, .str ⟨#[]⟩] := by kernel_rfl
@[go_sem] theorem fo_64 : fldsOk Try.prog 64 = true := by kernel_rfl
@[go_sem] theorem fl_64_0 : fld Try.prog 64 0 = some (0, 2) := by kernel_rfl
@[go_sem] theorem fl_64_1 : fld Try.prog 64 1 = some (1, 2) := by kernel_rfl
@[go_sem] theorem fl_64_2 : fld Try.prog 64 2 = some (2, 2) := by kernel_rfl
@[go_sem] theorem fl_64_3 : fld Try.prog 64 3 = some (3, 23) := by kernel_rfl
@[go_sem] theorem fl_64_4 : fld Try.prog 64 4 = some (5, 2) := by kernel_rfl
@[go_sem] theorem fl_64_5 : fld Try.prog 64 5 = some (6, 9) := by kernel_rfl
@[go_sem] theorem fl_64_6 : fld Try.prog 64 6 = some (7, 48) := by kernel_rfl
@[go_sem] theorem fl_64_7 : fld Try.prog 64 7 = some (9, 48) := by kernel_rfl
@[go_sem] theorem fl_64_8 : fld Try.prog 64 8 = some (11, 54) := by kernel_rfl
@[go_sem] theorem fl_64_9 : fld Try.prog 64 9 = some (23, 58) := by kernel_rfl
@[go_sem] theorem fl_64_10 : fld Try.prog 64 10 = some (33, 60) := by kernel_rfl
@[go_sem] theorem fl_64_11 : fld Try.prog 64 11 = some (39, 62) := by kernel_rfl
@[go_sem] theorem fl_64_12 : fld Try.prog 64 12 = some (42, 56) := by kernel_rfl
@[go_sem] theorem fl_64_13 : fld Try.prog 64 13 = some (44, 2) := by kernel_rfl
@[go_sem] theorem fl_64_14 : fld Try.prog 64 14 = some (45, 9) := by kernel_rfl
@[go_sem] theorem ty_67 : tyOf Try.prog 67 = .agg := by kernel_rfl
@[go_sem] theorem ce_67 : Try.prog.cellsOf 67 = 2 := by kernel_rfl
@[go_sem] theorem by_67 : Try.prog.bytesOf 67 = 16 := by kernel_rfl
@[go_sem] theorem io_67 : (Try.prog.info? 67).isSome = true := by kernel_rfl
@[go_sem] theorem un_67 : (Try.prog.underlying 67).isSome = true := by kernel_rfl
@[go_sem] theorem zo_67 : zOk Try.prog 67 = true := by kernel_rfl
@[go_sem] theorem zc_67 : zcells Try.prog 67 = [.int .i64 0, .int .i64 0] := by kernel_rfl
@[go_sem] theorem ze_67 : zel Try.prog 67 = .agg [.int .i64 0, .int .i64 0] := by kernel_rfl
@[go_sem] theorem fo_67 : fldsOk Try.prog 67 = true := by kernel_rfl
@[go_sem] theorem fl_67_0 : fld Try.prog 67 0 = some (0, 2) := by kernel_rfl
@[go_sem] theorem fl_67_1 : fld Try.prog 67 1 = some (1, 2) := by kernel_rfl
@[go_sem] theorem ty_69 : tyOf Try.prog 69 = .agg := by kernel_rfl
@[go_sem] theorem ce_69 : Try.prog.cellsOf 69 = 10 := by kernel_rfl
@[go_sem] theorem by_69 : Try.prog.bytesOf 69 = 88 := by kernel_rfl
@[go_sem] theorem io_69 : (Try.prog.info? 69).isSome = true := by kernel_rfl
@[go_sem] theorem un_69 : (Try.prog.underlying 69).isSome = true := by kernel_rfl
@[go_sem] theorem zo_69 : zOk Try.prog 69 = true := by kernel_rfl
@[go_sem] theorem zc_69 : zcells Try.prog 69 = [.int .i64 0, .int .i64 0, .int .i64 0, .int .i64 0, .str ⟨#[]⟩, .bool false, .int .i64 0, .int .i64 0, .int .i64 0, .int .i64 0] := by kernel_rfl
@[go_sem] theorem ze_69 : zel Try.prog 69 = .agg [.int .i64 0, .int .i64 0, .int .i64 0, .int .i64 0, .str ⟨#[]⟩, .bool false, .int .i64 0, .int .i64 0, .int .i64 0, .int .i64 0] := by kernel_rfl
@[go_sem] theorem fo_69 : fldsOk Try.prog 69 = true := by kernel_rfl
@[go_sem] theorem fl_69_0 : fld Try.prog 69 0 = some (0, 26) := by kernel_rfl
@[go_sem] theorem fl_69_1 : fld Try.prog 69 1 = some (2, 26) := by kernel_rfl
@[go_sem] theorem fl_69_2 : fld Try.prog 69 2 = some (4, 9) := by kernel_rfl
@[go_sem] theorem fl_69_3 : fld Try.prog 69 3 = some (5, 4) := by kernel_rfl
@[go_sem] theorem fl_69_4 : fld Try.prog 69 4 = some (6, 2) := by kernel_rfl
@[go_sem] theorem fl_69_5 : fld Try.prog 69 5 = some (7, 2) := by kernel_rfl
@[go_sem] theorem fl_69_6 : fld Try.prog 69 6 = some (8, 67) := by kernel_rfl
@[go_sem] theorem ty_71 : tyOf Try.prog 71 = .agg := by kernel_rfl
@[go_sem] theorem ce_71 : Try.prog.cellsOf 71 = 6 := by kernel_rfl
@[go_sem] theorem by_71 : Try.prog.bytesOf 71 = 64 := by kernel_rfl
@[go_sem] theorem io_71 : (Try.prog.info? 71).isSome = true := by kernel_rfl
@[go_sem] theorem un_71 : (Try.prog.underlying 71).isSome = true := by kernel_rfl
@[go_sem] theorem zo_71 : zOk Try.prog 71 = true := by kernel_rfl
@[go_sem] theorem zc_71 : zcells Try.prog 71 = [.str ⟨#[]⟩, .int .i64 0, .int .i64 0, .int .i64 0, .int .i64 0, .str ⟨#[]⟩] := by kernel_rfl
@[go_sem] theorem ze_71 : zel Try.prog 71 = .agg [.str ⟨#[]⟩, .int .i64 0, .int .i64 0, .int .i64 0, .int .i64 0, .str ⟨#[]⟩] := by kernel_rfl
@[go_sem] theorem fo_71 : fldsOk Try.prog 71 = true := by kernel_rfl
@[go_sem] theorem fl_71_0 : fld Try.prog 71 0 = some (0, 9) := by kernel_rfl
@[go_sem] theorem fl_71_1 : fld Try.prog 71 1 = some (1, 26) := by kernel_rfl
@[go_sem] theorem fl_71_2 : fld Try.prog 71 2 = some (3, 2) := by kernel_rfl
@[go_sem] theorem fl_71_3 : fld Try.prog 71 3 = some (4, 2) := by kernel_rfl
@[go_sem] theorem fl_71_4 : fld Try.prog 71 4 = some (5, 9) := by kernel_rfl
@[go_sem] theorem ty_72 : tyOf Try.prog 72 = .agg := by kernel_rfl
@[go_sem] theorem ce_72 : Try.prog.cellsOf 72 = 3 := by kernel_rfl
@[go_sem] theorem by_72 : Try.prog.bytesOf 72 = 32 := by kernel_rfl
@[go_sem] theorem io_72 : (Try.prog.info? 72).isSome = true := by kernel_rfl
@[go_sem] theorem un_72 : (Try.prog.underlying 72).isSome = true := by kernel_rfl
@[go_sem] theorem zo_72 : zOk Try.prog 72 = true := by kernel_rfl
@[go_sem] theorem zc_72 : zcells Try.prog 72 = [.int .i64 0, .int .i64 0, .str ⟨#[]⟩] := by kernel_rfl
@[go_sem] theorem ze_72 : zel Try.prog 72 = .agg [.int .i64 0, .int .i64 0, .str ⟨#[]⟩] := by kernel_rfl
@[go_sem] theorem fo_72 : fldsOk Try.prog 72 = true := by kernel_rfl
@[go_sem] theorem fl_72_0 : fld Try.prog 72 0 = some (0, 2) := by kernel_rfl
@[go_sem] theorem fl_72_1 : fld Try.prog 72 1 = some (1, 2) := by kernel_rfl
@[go_sem] theorem fl_72_2 : fld Try.prog 72 2 = some (2, 9) := by kernel_rfl
@[go_sem] theorem ty_74 : tyOf Try.prog 74 = .agg := by kernel_rfl
@[go_sem] theorem ce_74 : Try.prog.cellsOf 74 = 46 := by kernel_rfl
@[go_sem] theorem by_74 : Try.prog.bytesOf 74 = 480 := by kernel_rfl
@[go_sem] theorem io_74 : (Try.prog.info? 74).isSome = true := by kernel_rfl
@[go_sem] theorem un_74 : (Try.prog.underlying 74).isSome = true := by kernel_rfl
@[go_sem] theorem zo_74 : zOk Try.prog 74 = true := by kernel_rfl
@[go_sem] theorem zc_74 : zcells Try.prog 74 = [.int .i64 0, .int .i64 0, .int .i64 0, .int .i64 0, .int .i64 0, .int .i64 0, .str ⟨#[]⟩, .int .i64 0, .int .i64 0, .int .i64 0, .int .i64 0, .int .i64 0, .int .i64 0, .int .i64 0, .int .i64 0, .int .i64 0, .int .i64 0, .nils, .nils, .nils, .int .i64 0, .int .i64 0, .nils, .int .i64 0, .int .i64 0, .int .i64 0, .int .i64 0, .str ⟨#[]⟩, .bool false, .int .i64 0, .int .i64 0, .int .i64 0, .int .i64 0, .str ⟨#[]⟩, .int .i64 0, .int .i64 0, .int .i64 0, .int .i64 0, .str ⟨#[]⟩, .int .i64 0, .int .i64 0, .str ⟨#[]⟩, .int .i64 0, .int .i64 0, .int .i64 0, .str ⟨#[]⟩] := by kernel_rfl
@[go_sem] theorem ze_74 : zel Try.prog 74 = .agg [.int .i64 0, .int .i64 0, .int .i64 0, .int .i64 0, .int .i64 0, .int .i64 0, .str ⟨#[]⟩, .int .i64 0, .int .i64 0, .int .i64 0, .int .i64 0, .int .i64 0, .int .i64 0, .int .i64 0, .int .i64 0, .int .i64 0, .int .i64 0, .nils, .nils, .nils, .int .i64 0, .int .i64 0, .nils, .int .i64 0, .int .i64 0, .int .i64 0, .int .i64 0, .str ⟨#[]⟩, .bool false, .int .i64 0, .int .i64 0, .int .i64 0, .int .i64 0, .str ⟨#[]⟩, .int .i64 0, .int .i64 0, .int .i64 0, .int .i64 0, .str ⟨#[]⟩, .int .i64 0, .int .i64 0, .str ⟨#[]⟩, .int .i64 0, .int .i64 0, .int .i64 0, .str ⟨#[]⟩] := by kernel_rfl
@[go_sem] theorem fo_74 : fldsOk Try.prog 74 = true := by kernel_rfl
@[go_sem] theorem fl_74_0 : fld Try.prog 74 0 = some (0, 2) := by kernel_rfl
@[go_sem] theorem fl_74_1 : fld Try.prog 74 1 = some (1, 2) := by kernel_rfl
@[go_sem] theorem fl_74_2 : fld Try.prog 74 2 = some (2, 2) := by kernel_rfl
@[go_sem] theorem fl_74_3 : fld Try.prog 74 3 = some (3, 24) := by kernel_rfl
@[go_sem] theorem fl_74_4 : fld Try.prog 74 4 = some (5, 2) := by kernel_rfl
@[go_sem] theorem fl_74_5 : fld Try.prog 74 5 = some (6, 9) := by kernel_rfl
@[go_sem] theorem fl_74_6 : fld Try.prog 74 6 = some (7, 26) := by kernel_rfl
@[go_sem] theorem fl_74_7 : fld Try.prog 74 7 = some (9, 26) := by kernel_rfl
@[go_sem] theorem fl_74_8 : fld Try.prog 74 8 = some (11, 32) := by kernel_rfl
@[go_sem] theorem fl_74_9 : fld Try.prog 74 9 = some (23, 69) := by kernel_rfl
@[go_sem] theorem fl_74_10 : fld Try.prog 74 10 = some (33, 71) := by kernel_rfl
@[go_sem] theorem fl_74_11 : fld Try.prog 74 11 = some (39, 72) := by kernel_rfl
@[go_sem] theorem fl_74_12 : fld Try.prog 74 12 = some (42, 67) := by kernel_rfl
@[go_sem] theorem fl_74_13 : fld Try.prog 74 13 = some (44, 2) := by kernel_rfl
@[go_sem] theorem fl_74_14 : fld Try.prog 74 14 = some (45, 9) := by kernel_rfl
@[go_sem] theorem ty_108 : tyOf Try.prog 108 = .agg := by kernel_rfl
@[go_sem] theorem ce_108 : Try.prog.cellsOf 108 = 5 := by kernel_rfl
@[go_sem] theorem by_108 : Try.prog.bytesOf 108 = 48 := by kernel_rfl
@[go_sem] theorem io_108 : (Try.prog.info? 108).isSome = true := by kernel_rfl
@[go_sem] theorem un_108 : (Try.prog.underlying 108).isSome = true := by kernel_rfl
@[go_sem] theorem zo_108 : zOk Try.prog 108 = true := by kernel_rfl
@[go_sem] theorem zc_108 : zcells Try.prog 108 = [.str ⟨#[]⟩, .int .i64 0, .int .i64 0, .int .i64 0, .int .i64 0] := by kernel_rfl
@[go_sem] theorem ze_108 : zel Try.prog 108 = .agg [.str ⟨#[]⟩, .int .i64 0, .int .i64 0, .int .i64 0, .int .i64 0] := by kernel_rfl
@[go_sem] theorem fo_108 : fldsOk Try.prog 108 = true := by kernel_rfl
@[go_sem] theorem fl_108_0 : fld Try.prog 108 0 = some (0, 9) := by kernel_rfl
@[go_sem] theorem fl_108_1 : fld Try.prog 108 1 = some (1, 26) := by kernel_rfl
@[go_sem] theorem fl_108_2 : fld Try.prog 108 2 = some (3, 2) := by kernel_rfl
@[go_sem] theorem fl_108_3 : fld Try.prog 108 3 = some (4, 2) := by kernel_rfl
@[go_sem] theorem ty_111 : tyOf Try.prog 111 = .agg := by kernel_rfl
@[go_sem] theorem ce_111 : Try.prog.cellsOf 111 = 4 := by kernel_rfl
@[go_sem] theorem by_111 : Try.prog.bytesOf 111 = 32 := by kernel_rfl
@[go_sem] theorem io_111 : (Try.prog.info? 111).isSome = true := by kernel_rfl
@[go_sem] theorem un_111 : (Try.prog.underlying 111).isSome = true := by kernel_rfl
@[go_sem] theorem zo_111 : zOk Try.prog 111 = true := by kernel_rfl
@[go_sem] theorem zc_111 : zcells Try.prog 111 = [.int .i64 0, .int .i64 0, .int .i64 0, .int .i64 0] := by kernel_rfl
@[go_sem] theorem ze_111 : zel Try.prog 111 = .agg [.int .i64 0, .int .i64 0, .int .i64 0, .int .i64 0] := by kernel_rfl
@[go_sem] theorem fo_111 : fldsOk Try.prog 111 = true := by kernel_rfl
@[go_sem] theorem fl_111_0 : fld Try.prog 111 0 = some (0, 2) := by kernel_rfl
@[go_sem] theorem fl_111_1 : fld Try.prog 111 1 = some (1, 2) := by kernel_rfl
@[go_sem] theorem fl_111_2 : fld Try.prog 111 2 = some (2, 26) := by kernel_rfl
@[go_sem] theorem ty_122 : tyOf Try.prog 122 = .sl 5 := by kernel_rfl
@[go_sem] theorem ce_122 : Try.prog.cellsOf 122 = 1 := by kernel_rfl
@[go_sem] theorem by_122 : Try.prog.bytesOf 122 = 24 := by kernel_rfl
@[go_sem] theorem io_122 : (Try.prog.info? 122).isSome = true := by kernel_rfl
@[go_sem] theorem un_122 : (Try.prog.underlying 122).isSome = true := by kernel_rfl
@[go_sem] theorem zo_122 : zOk Try.prog 122 = true := by kernel_rfl
@[go_sem] theorem zc_122 : zcells Try.prog 122 = [.nils] := by kernel_rfl
@[go_sem] theorem ze_122 : zel Try.prog 122 = .nils := by kernel_rfl
@[go_sem] theorem ty_125 : tyOf Try.prog 125 = .agg := by kernel_rfl
@[go_sem] theorem ce_125 : Try.prog.cellsOf 125 = 5 := by kernel_rfl
@[go_sem] theorem by_125 : Try.prog.bytesOf 125 = 48 := by kernel_rfl
@[go_sem] theorem io_125 : (Try.prog.info? 125).isSome = true := by kernel_rfl
@[go_sem] theorem un_125 : (Try.prog.underlying 125).isSome = true := by kernel_rfl
@[go_sem] theorem zo_125 : zOk Try.prog 125 = true := by kernel_rfl
@[go_sem] theorem zc_125 : zcells Try.prog 125 = [.str ⟨#[]⟩, .int .i64 0, .int .i64 0, .int .i64 0, .int .i64 0] := by kernel_rfl
@[go_sem] theorem ze_125 : zel Try.prog 125 = .agg [.str ⟨#[]⟩, .int .i64 0, .int .i64 0, .int .i64 0, .int .i64 0] := by kernel_rfl
@[go_sem] theorem fo_125 : fldsOk Try.prog 125 = true := by kernel_rfl
@[go_sem] theorem fl_125_0 : fld Try.prog 125 0 = some (0, 9) := by kernel_rfl
@[go_sem] theorem fl_125_1 : fld Try.prog 125 1 = some (1, 48) := by kernel_rfl
@[go_sem] theorem fl_125_2 : fld Try.prog 125 2 = some (3, 2) := by kernel_rfl
@[go_sem] theorem fl_125_3 : fld Try.prog 125 3 = some (4, 2) := by kernel_rfl
@[go_sem] theorem ty_129 : tyOf Try.prog 129 = .agg := by kernel_rfl
@[go_sem] theorem ce_129 : Try.prog.cellsOf 129 = 4 := by kernel_rfl
@[go_sem] theorem by_129 : Try.prog.bytesOf 129 = 32 := by kernel_rfl
@[go_sem] theorem io_129 : (Try.prog.info? 129).isSome = true := by kernel_rfl
@[go_sem] theorem un_129 : (Try.prog.underlying 129).isSome = true := by kernel_rfl
@[go_sem] theorem zo_129 : zOk Try.prog 129 = true := by kernel_rfl
@[go_sem] theorem zc_129 : zcells Try.prog 129 = [.int .i64 0, .int .i64 0, .int .i64 0, .int .i64 0] := by kernel_rfl
@[go_sem] theorem ze_129 : zel Try.prog 129 = .agg [.int .i64 0, .int .i64 0, .int .i64 0, .int .i64 0] := by kernel_rfl
@[go_sem] theorem fo_129 : fldsOk Try.prog 129 = true := by kernel_rfl
@[go_sem] theorem fl_129_0 : fld Try.prog 129 0 = some (0, 2) := by kernel_rfl
@[go_sem] theorem fl_129_1 : fld Try.prog 129 1 = some (1, 2) := by kernel_rfl
@[go_sem] theorem fl_129_2 : fld Try.prog 129 2 = some (2, 48) := by kernel_rfl
@[go_sem] theorem ty_139 : tyOf Try.prog 139 = .int .u8 := by kernel_rfl
@[go_sem] theorem ce_139 : Try.prog.cellsOf 139 = 1 := by kernel_rfl
@[go_sem] theorem by_139 : Try.prog.bytesOf 139 = 1 := by kernel_rfl
@[go_sem] theorem io_139 : (Try.prog.info? 139).isSome = true := by kernel_rfl
@[go_sem] theorem un_139 : (Try.prog.underlying 139).isSome = true := by kernel_rfl
@[go_sem] theorem zo_139 : zOk Try.prog 139 = true := by kernel_rfl
@[go_sem] theorem zc_139 : zcells Try.prog 139 = [.int .u8 0] := by kernel_rfl
@[go_sem] theorem ze_139 : zel Try.prog 139 = .int .u8 0 := by kernel_rfl
@[go_sem] theorem ty_150 : tyOf Try.prog 150 = .sl 9 := by kernel_rfl
@[go_sem] theorem ce_150 : Try.prog.cellsOf 150 = 1 := by kernel_rfl
@[go_sem] theorem by_150 : Try.prog.bytesOf 150 = 24 := by kernel_rfl
@[go_sem] theorem io_150 : (Try.prog.info? 150).isSome = true := by kernel_rfl
@[go_sem] theorem un_150 : (Try.prog.underlying 150).isSome = true := by kernel_rfl
@[go_sem] theorem zo_150 : zOk Try.prog 150 = true := by kernel_rfl
@[go_sem] theorem zc_150 : zcells Try.prog 150 = [.nils] := by kernel_rfl
@[go_sem] theorem ze_150 : zel Try.prog 150 = .nils := by kernel_rfl
theorem hm : Try.prog.follows .mixedOrders = true := by kernel_rfl
end Go.Ve
