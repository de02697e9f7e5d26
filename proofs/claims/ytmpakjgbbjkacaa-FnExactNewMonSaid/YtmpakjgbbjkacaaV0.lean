/- Types of the seat, in the engine's words. No condition. -/
import Derived.Test.YtmpakjgbbjkacaaE28
import Derived.Test.YtmpakjgbbjkacaaProg
import Derived.KernelRfl
namespace Go.Ve
open Go.Proofs
set_option linter.unusedVariables false
@[go_sem] theorem ty_2 : tyOf Try.prog 2 = .int .i64 := by kernel_rfl
@[go_sem] theorem ce_2 : Try.prog.cellsOf 2 = 1 := by kernel_rfl
@[go_sem] theorem by_2 : Try.prog.bytesOf 2 = 8 := by kernel_rfl
@[go_sem] theorem io_2 : (Try.prog.info? 2).isSome = true := by kernel_rfl
@[go_sem] theorem un_2 : (Try.prog.underlying 2).isSome = true := by kernel_rfl
@[go_sem] theorem zo_2 : zOk Try.prog 2 = true := by kernel_rfl
@[go_sem] theorem zc_2 : zcells Try.prog 2 = [.int .i64 0] := by kernel_rfl
@[go_sem] theorem ze_2 : zel Try.prog 2 = .int .i64 0 := by kernel_rfl
@[go_sem] theorem ty_3 : tyOf Try.prog 3 = .int .i64 := by kernel_rfl
@[go_sem] theorem ce_3 : Try.prog.cellsOf 3 = 1 := by kernel_rfl
@[go_sem] theorem by_3 : Try.prog.bytesOf 3 = 8 := by kernel_rfl
@[go_sem] theorem io_3 : (Try.prog.info? 3).isSome = true := by kernel_rfl
@[go_sem] theorem un_3 : (Try.prog.underlying 3).isSome = true := by kernel_rfl
@[go_sem] theorem zo_3 : zOk Try.prog 3 = true := by kernel_rfl
@[go_sem] theorem zc_3 : zcells Try.prog 3 = [.int .i64 0] := by kernel_rfl
@[go_sem] theorem ze_3 : zel Try.prog 3 = .int .i64 0 := by kernel_rfl
@[go_sem] theorem ty_4 : tyOf Try.prog 4 = .bool := by kernel_rfl
@[go_sem] theorem ce_4 : Try.prog.cellsOf 4 = 1 := by kernel_rfl
@[go_sem] theorem by_4 : Try.prog.bytesOf 4 = 1 := by kernel_rfl
@[go_sem] theorem io_4 : (Try.prog.info? 4).isSome = true := by kernel_rfl
@[go_sem] theorem un_4 : (Try.prog.underlying 4).isSome = true := by kernel_rfl
@[go_sem] theorem zo_4 : zOk Try.prog 4 = true := by kernel_rfl
@[go_sem] theorem zc_4 : zcells Try.prog 4 = [.bool false] := by kernel_rfl
@[go_sem] theorem ze_4 : zel Try.prog 4 = .bool false := by kernel_rfl
@[go_sem] theorem ty_5 : tyOf Try.prog 5 = .int .u8 := by kernel_rfl
@[go_sem] theorem ce_5 : Try.prog.cellsOf 5 = 1 := by kernel_rfl
@[go_sem] theorem by_5 : Try.prog.bytesOf 5 = 1 := by kernel_rfl
@[go_sem] theorem io_5 : (Try.prog.info? 5).isSome = true := by kernel_rfl
@[go_sem] theorem un_5 : (Try.prog.underlying 5).isSome = true := by kernel_rfl
@[go_sem] theorem zo_5 : zOk Try.prog 5 = true := by kernel_rfl
@[go_sem] theorem zc_5 : zcells Try.prog 5 = [.int .u8 0] := by kernel_rfl
@[go_sem] theorem ze_5 : zel Try.prog 5 = .int .u8 0 := by kernel_rfl
@[go_sem] theorem ty_6 : tyOf Try.prog 6 = .int .u8 := by kernel_rfl
@[go_sem] theorem ce_6 : Try.prog.cellsOf 6 = 1 := by kernel_rfl
@[go_sem] theorem by_6 : Try.prog.bytesOf 6 = 1 := by kernel_rfl
@[go_sem] theorem io_6 : (Try.prog.info? 6).isSome = true := by kernel_rfl
@[go_sem] theorem un_6 : (Try.prog.underlying 6).isSome = true := by kernel_rfl
@[go_sem] theorem zo_6 : zOk Try.prog 6 = true := by kernel_rfl
@[go_sem] theorem zc_6 : zcells Try.prog 6 = [.int .u8 0] := by kernel_rfl
@[go_sem] theorem ze_6 : zel Try.prog 6 = .int .u8 0 := by kernel_rfl
@[go_sem] theorem ty_8 : tyOf Try.prog 8 = .agg := by kernel_rfl
@[go_sem] theorem ce_8 : Try.prog.cellsOf 8 = 4 := by kernel_rfl
@[go_sem] theorem by_8 : Try.prog.bytesOf 8 = 24 := by kernel_rfl
@[go_sem] theorem io_8 : (Try.prog.info? 8).isSome = true := by kernel_rfl
@[go_sem] theorem un_8 : (Try.prog.underlying 8).isSome = true := by kernel_rfl
@[go_sem] theorem zo_8 : zOk Try.prog 8 = true := by kernel_rfl
@[go_sem] theorem zc_8 : zcells Try.prog 8 = [.int .i64 0, .int .i64 0, .bool false, .int .u8 0] := by kernel_rfl
@[go_sem] theorem ze_8 : zel Try.prog 8 = .agg [.int .i64 0, .int .i64 0, .bool false, .int .u8 0] := by kernel_rfl
@[go_sem] theorem fo_8 : fldsOk Try.prog 8 = true := by kernel_rfl
@[go_sem] theorem fl_8_0 : fld Try.prog 8 0 = some (0, 2) := by kernel_rfl
@[go_sem] theorem fl_8_1 : fld Try.prog 8 1 = some (1, 3) := by kernel_rfl
@[go_sem] theorem fl_8_2 : fld Try.prog 8 2 = some (2, 4) := by kernel_rfl
@[go_sem] theorem fl_8_3 : fld Try.prog 8 3 = some (3, 6) := by kernel_rfl
@[go_sem] theorem ty_9 : tyOf Try.prog 9 = .str := by kernel_rfl
@[go_sem] theorem ce_9 : Try.prog.cellsOf 9 = 1 := by kernel_rfl
@[go_sem] theorem by_9 : Try.prog.bytesOf 9 = 16 := by kernel_rfl
@[go_sem] theorem io_9 : (Try.prog.info? 9).isSome = true := by kernel_rfl
@[go_sem] theorem un_9 : (Try.prog.underlying 9).isSome = true := by kernel_rfl
@[go_sem] theorem zo_9 : zOk Try.prog 9 = true := by kernel_rfl
@[go_sem] theorem zc_9 : zcells Try.prog 9 = [.str ⟨#[]⟩] := by kernel_rfl
@[go_sem] theorem ze_9 : zel Try.prog 9 = .str ⟨#[]⟩ := by kernel_rfl
@[go_sem] theorem ty_10 : tyOf Try.prog 10 = .str := by kernel_rfl
@[go_sem] theorem ce_10 : Try.prog.cellsOf 10 = 1 := by kernel_rfl
@[go_sem] theorem by_10 : Try.prog.bytesOf 10 = 16 := by kernel_rfl
@[go_sem] theorem io_10 : (Try.prog.info? 10).isSome = true := by kernel_rfl
@[go_sem] theorem un_10 : (Try.prog.underlying 10).isSome = true := by kernel_rfl
@[go_sem] theorem zo_10 : zOk Try.prog 10 = true := by kernel_rfl
@[go_sem] theorem zc_10 : zcells Try.prog 10 = [.str ⟨#[]⟩] := by kernel_rfl
@[go_sem] theorem ze_10 : zel Try.prog 10 = .str ⟨#[]⟩ := by kernel_rfl
@[go_sem] theorem ty_11 : tyOf Try.prog 11 = .str := by kernel_rfl
@[go_sem] theorem ce_11 : Try.prog.cellsOf 11 = 1 := by kernel_rfl
@[go_sem] theorem by_11 : Try.prog.bytesOf 11 = 16 := by kernel_rfl
@[go_sem] theorem io_11 : (Try.prog.info? 11).isSome = true := by kernel_rfl
@[go_sem] theorem un_11 : (Try.prog.underlying 11).isSome = true := by kernel_rfl
@[go_sem] theorem zo_11 : zOk Try.prog 11 = true := by kernel_rfl
@[go_sem] theorem zc_11 : zcells Try.prog 11 = [.str ⟨#[]⟩] := by kernel_rfl
@[go_sem] theorem ze_11 : zel Try.prog 11 = .str ⟨#[]⟩ := by kernel_rfl
@[go_sem] theorem ty_12 : tyOf Try.prog 12 = .int .u64 := by kernel_rfl
@[go_sem] theorem ce_12 : Try.prog.cellsOf 12 = 1 := by kernel_rfl
@[go_sem] theorem by_12 : Try.prog.bytesOf 12 = 8 := by kernel_rfl
@[go_sem] theorem io_12 : (Try.prog.info? 12).isSome = true := by kernel_rfl
@[go_sem] theorem un_12 : (Try.prog.underlying 12).isSome = true := by kernel_rfl
@[go_sem] theorem zo_12 : zOk Try.prog 12 = true := by kernel_rfl
@[go_sem] theorem zc_12 : zcells Try.prog 12 = [.int .u64 0] := by kernel_rfl
@[go_sem] theorem ze_12 : zel Try.prog 12 = .int .u64 0 := by kernel_rfl
@[go_sem] theorem ty_14 : tyOf Try.prog 14 = .agg := by kernel_rfl
@[go_sem] theorem ce_14 : Try.prog.cellsOf 14 = 2 := by kernel_rfl
@[go_sem] theorem by_14 : Try.prog.bytesOf 14 = 24 := by kernel_rfl
@[go_sem] theorem io_14 : (Try.prog.info? 14).isSome = true := by kernel_rfl
@[go_sem] theorem un_14 : (Try.prog.underlying 14).isSome = true := by kernel_rfl
@[go_sem] theorem zo_14 : zOk Try.prog 14 = true := by kernel_rfl
@[go_sem] theorem zc_14 : zcells Try.prog 14 = [.str ⟨#[]⟩, .int .u64 0] := by kernel_rfl
@[go_sem] theorem ze_14 : zel Try.prog 14 = .agg [.str ⟨#[]⟩, .int .u64 0] := by kernel_rfl
@[go_sem] theorem fo_14 : fldsOk Try.prog 14 = true := by kernel_rfl
@[go_sem] theorem fl_14_0 : fld Try.prog 14 0 = some (0, 9) := by kernel_rfl
@[go_sem] theorem fl_14_1 : fld Try.prog 14 1 = some (1, 12) := by kernel_rfl
@[go_sem] theorem ty_15 : tyOf Try.prog 15 = .ptr := by kernel_rfl
@[go_sem] theorem ce_15 : Try.prog.cellsOf 15 = 1 := by kernel_rfl
@[go_sem] theorem by_15 : Try.prog.bytesOf 15 = 8 := by kernel_rfl
@[go_sem] theorem io_15 : (Try.prog.info? 15).isSome = true := by kernel_rfl
@[go_sem] theorem un_15 : (Try.prog.underlying 15).isSome = true := by kernel_rfl
@[go_sem] theorem zo_15 : zOk Try.prog 15 = true := by kernel_rfl
@[go_sem] theorem zc_15 : zcells Try.prog 15 = [.nilp] := by kernel_rfl
@[go_sem] theorem ze_15 : zel Try.prog 15 = .nilp := by kernel_rfl
@[go_sem] theorem ty_16 : tyOf Try.prog 16 = .ptr := by kernel_rfl
@[go_sem] theorem ce_16 : Try.prog.cellsOf 16 = 1 := by kernel_rfl
@[go_sem] theorem by_16 : Try.prog.bytesOf 16 = 8 := by kernel_rfl
@[go_sem] theorem io_16 : (Try.prog.info? 16).isSome = true := by kernel_rfl
@[go_sem] theorem un_16 : (Try.prog.underlying 16).isSome = true := by kernel_rfl
@[go_sem] theorem zo_16 : zOk Try.prog 16 = true := by kernel_rfl
@[go_sem] theorem zc_16 : zcells Try.prog 16 = [.nilp] := by kernel_rfl
@[go_sem] theorem ze_16 : zel Try.prog 16 = .nilp := by kernel_rfl
@[go_sem] theorem ty_17 : tyOf Try.prog 17 = .ptr := by kernel_rfl
@[go_sem] theorem ce_17 : Try.prog.cellsOf 17 = 1 := by kernel_rfl
@[go_sem] theorem by_17 : Try.prog.bytesOf 17 = 8 := by kernel_rfl
@[go_sem] theorem io_17 : (Try.prog.info? 17).isSome = true := by kernel_rfl
@[go_sem] theorem un_17 : (Try.prog.underlying 17).isSome = true := by kernel_rfl
@[go_sem] theorem zo_17 : zOk Try.prog 17 = true := by kernel_rfl
@[go_sem] theorem zc_17 : zcells Try.prog 17 = [.nilp] := by kernel_rfl
@[go_sem] theorem ze_17 : zel Try.prog 17 = .nilp := by kernel_rfl
@[go_sem] theorem ty_19 : tyOf Try.prog 19 = .agg := by kernel_rfl
@[go_sem] theorem ce_19 : Try.prog.cellsOf 19 = 1 := by kernel_rfl
@[go_sem] theorem by_19 : Try.prog.bytesOf 19 = 8 := by kernel_rfl
@[go_sem] theorem io_19 : (Try.prog.info? 19).isSome = true := by kernel_rfl
@[go_sem] theorem un_19 : (Try.prog.underlying 19).isSome = true := by kernel_rfl
@[go_sem] theorem zo_19 : zOk Try.prog 19 = true := by kernel_rfl
@[go_sem] theorem zc_19 : zcells Try.prog 19 = [.nilp] := by kernel_rfl
@[go_sem] theorem ze_19 : zel Try.prog 19 = .agg [.nilp] := by kernel_rfl
@[go_sem] theorem fo_19 : fldsOk Try.prog 19 = true := by kernel_rfl
@[go_sem] theorem fl_19_0 : fld Try.prog 19 0 = some (0, 17) := by kernel_rfl
@[go_sem] theorem ty_23 : tyOf Try.prog 23 = .agg := by kernel_rfl
@[go_sem] theorem ce_23 : Try.prog.cellsOf 23 = 2 := by kernel_rfl
@[go_sem] theorem by_23 : Try.prog.bytesOf 23 = 16 := by kernel_rfl
@[go_sem] theorem io_23 : (Try.prog.info? 23).isSome = true := by kernel_rfl
@[go_sem] theorem un_23 : (Try.prog.underlying 23).isSome = true := by kernel_rfl
@[go_sem] theorem zo_23 : zOk Try.prog 23 = true := by kernel_rfl
@[go_sem] theorem zc_23 : zcells Try.prog 23 = [.int .i64 0, .int .i64 0] := by kernel_rfl
@[go_sem] theorem ze_23 : zel Try.prog 23 = .agg [.int .i64 0, .int .i64 0] := by kernel_rfl
@[go_sem] theorem fo_23 : fldsOk Try.prog 23 = true := by kernel_rfl
@[go_sem] theorem fl_23_0 : fld Try.prog 23 0 = some (0, 2) := by kernel_rfl
@[go_sem] theorem fl_23_1 : fld Try.prog 23 1 = some (1, 2) := by kernel_rfl
@[go_sem] theorem ty_24 : tyOf Try.prog 24 = .sl 9 := by kernel_rfl
@[go_sem] theorem ce_24 : Try.prog.cellsOf 24 = 1 := by kernel_rfl
@[go_sem] theorem by_24 : Try.prog.bytesOf 24 = 24 := by kernel_rfl
@[go_sem] theorem io_24 : (Try.prog.info? 24).isSome = true := by kernel_rfl
@[go_sem] theorem un_24 : (Try.prog.underlying 24).isSome = true := by kernel_rfl
@[go_sem] theorem zo_24 : zOk Try.prog 24 = true := by kernel_rfl
@[go_sem] theorem zc_24 : zcells Try.prog 24 = [.nils] := by kernel_rfl
@[go_sem] theorem ze_24 : zel Try.prog 24 = .nils := by kernel_rfl
@[go_sem] theorem ty_26 : tyOf Try.prog 26 = .agg := by kernel_rfl
@[go_sem] theorem ce_26 : Try.prog.cellsOf 26 = 5 := by kernel_rfl
@[go_sem] theorem by_26 : Try.prog.bytesOf 26 = 56 := by kernel_rfl
@[go_sem] theorem io_26 : (Try.prog.info? 26).isSome = true := by kernel_rfl
@[go_sem] theorem un_26 : (Try.prog.underlying 26).isSome = true := by kernel_rfl
@[go_sem] theorem zo_26 : zOk Try.prog 26 = true := by kernel_rfl
@[go_sem] theorem zc_26 : zcells Try.prog 26 = [.int .i64 0, .int .i64 0, .int .i64 0, .int .i64 0, .nils] := by kernel_rfl
@[go_sem] theorem ze_26 : zel Try.prog 26 = .agg [.int .i64 0, .int .i64 0, .int .i64 0, .int .i64 0, .nils] := by kernel_rfl
@[go_sem] theorem fo_26 : fldsOk Try.prog 26 = true := by kernel_rfl
@[go_sem] theorem fl_26_0 : fld Try.prog 26 0 = some (0, 23) := by kernel_rfl
@[go_sem] theorem fl_26_1 : fld Try.prog 26 1 = some (2, 2) := by kernel_rfl
@[go_sem] theorem fl_26_2 : fld Try.prog 26 2 = some (3, 2) := by kernel_rfl
@[go_sem] theorem fl_26_3 : fld Try.prog 26 3 = some (4, 24) := by kernel_rfl
@[go_sem] theorem ty_30 : tyOf Try.prog 30 = .agg := by kernel_rfl
@[go_sem] theorem ce_30 : Try.prog.cellsOf 30 = 2 := by kernel_rfl
@[go_sem] theorem by_30 : Try.prog.bytesOf 30 = 16 := by kernel_rfl
@[go_sem] theorem io_30 : (Try.prog.info? 30).isSome = true := by kernel_rfl
@[go_sem] theorem un_30 : (Try.prog.underlying 30).isSome = true := by kernel_rfl
@[go_sem] theorem zo_30 : zOk Try.prog 30 = true := by kernel_rfl
@[go_sem] theorem zc_30 : zcells Try.prog 30 = [.int .i64 0, .int .i64 0] := by kernel_rfl
@[go_sem] theorem ze_30 : zel Try.prog 30 = .agg [.int .i64 0, .int .i64 0] := by kernel_rfl
@[go_sem] theorem fo_30 : fldsOk Try.prog 30 = true := by kernel_rfl
@[go_sem] theorem fl_30_0 : fld Try.prog 30 0 = some (0, 2) := by kernel_rfl
@[go_sem] theorem fl_30_1 : fld Try.prog 30 1 = some (1, 2) := by kernel_rfl
@[go_sem] theorem ty_32 : tyOf Try.prog 32 = .agg := by kernel_rfl
@[go_sem] theorem ce_32 : Try.prog.cellsOf 32 = 5 := by kernel_rfl
@[go_sem] theorem by_32 : Try.prog.bytesOf 32 = 56 := by kernel_rfl
@[go_sem] theorem io_32 : (Try.prog.info? 32).isSome = true := by kernel_rfl
@[go_sem] theorem un_32 : (Try.prog.underlying 32).isSome = true := by kernel_rfl
@[go_sem] theorem zo_32 : zOk Try.prog 32 = true := by kernel_rfl
@[go_sem] theorem zc_32 : zcells Try.prog 32 = [.int .i64 0, .int .i64 0, .int .i64 0, .int .i64 0, .nils] := by kernel_rfl
@[go_sem] theorem ze_32 : zel Try.prog 32 = .agg [.int .i64 0, .int .i64 0, .int .i64 0, .int .i64 0, .nils] := by kernel_rfl
@[go_sem] theorem fo_32 : fldsOk Try.prog 32 = true := by kernel_rfl
@[go_sem] theorem fl_32_0 : fld Try.prog 32 0 = some (0, 30) := by kernel_rfl
@[go_sem] theorem fl_32_1 : fld Try.prog 32 1 = some (2, 2) := by kernel_rfl
@[go_sem] theorem fl_32_2 : fld Try.prog 32 2 = some (3, 2) := by kernel_rfl
@[go_sem] theorem fl_32_3 : fld Try.prog 32 3 = some (4, 24) := by kernel_rfl
@[go_sem] theorem ty_39 : tyOf Try.prog 39 = .agg := by kernel_rfl
@[go_sem] theorem ce_39 : Try.prog.cellsOf 39 = 3 := by kernel_rfl
@[go_sem] theorem by_39 : Try.prog.bytesOf 39 = 32 := by kernel_rfl
@[go_sem] theorem io_39 : (Try.prog.info? 39).isSome = true := by kernel_rfl
@[go_sem] theorem un_39 : (Try.prog.underlying 39).isSome = true := by kernel_rfl
@[go_sem] theorem zo_39 : zOk Try.prog 39 = true := by kernel_rfl
@[go_sem] theorem zc_39 : zcells Try.prog 39 = [.int .i64 0, .int .i64 0, .str ⟨#[]⟩] := by kernel_rfl
@[go_sem] theorem ze_39 : zel Try.prog 39 = .agg [.int .i64 0, .int .i64 0, .str ⟨#[]⟩] := by kernel_rfl
@[go_sem] theorem fo_39 : fldsOk Try.prog 39 = true := by kernel_rfl
@[go_sem] theorem fl_39_0 : fld Try.prog 39 0 = some (0, 2) := by kernel_rfl
@[go_sem] theorem fl_39_1 : fld Try.prog 39 1 = some (1, 2) := by kernel_rfl
@[go_sem] theorem fl_39_2 : fld Try.prog 39 2 = some (2, 9) := by kernel_rfl
@[go_sem] theorem ty_43 : tyOf Try.prog 43 = .agg := by kernel_rfl
@[go_sem] theorem ce_43 : Try.prog.cellsOf 43 = 3 := by kernel_rfl
@[go_sem] theorem by_43 : Try.prog.bytesOf 43 = 32 := by kernel_rfl
@[go_sem] theorem io_43 : (Try.prog.info? 43).isSome = true := by kernel_rfl
@[go_sem] theorem un_43 : (Try.prog.underlying 43).isSome = true := by kernel_rfl
@[go_sem] theorem zo_43 : zOk Try.prog 43 = true := by kernel_rfl
@[go_sem] theorem zc_43 : zcells Try.prog 43 = [.int .i64 0, .int .i64 0, .str ⟨#[]⟩] := by kernel_rfl
@[go_sem] theorem ze_43 : zel Try.prog 43 = .agg [.int .i64 0, .int .i64 0, .str ⟨#[]⟩] := by kernel_rfl
@[go_sem] theorem fo_43 : fldsOk Try.prog 43 = true := by kernel_rfl
@[go_sem] theorem fl_43_0 : fld Try.prog 43 0 = some (0, 2) := by kernel_rfl
@[go_sem] theorem fl_43_1 : fld Try.prog 43 1 = some (1, 2) := by kernel_rfl
@[go_sem] theorem fl_43_2 : fld Try.prog 43 2 = some (2, 9) := by kernel_rfl
@[go_sem] theorem ty_47 : tyOf Try.prog 47 = .sl 98 := by kernel_rfl
@[go_sem] theorem ce_47 : Try.prog.cellsOf 47 = 1 := by kernel_rfl
@[go_sem] theorem by_47 : Try.prog.bytesOf 47 = 24 := by kernel_rfl
@[go_sem] theorem io_47 : (Try.prog.info? 47).isSome = true := by kernel_rfl
@[go_sem] theorem un_47 : (Try.prog.underlying 47).isSome = true := by kernel_rfl
@[go_sem] theorem zo_47 : zOk Try.prog 47 = true := by kernel_rfl
@[go_sem] theorem zc_47 : zcells Try.prog 47 = [.nils] := by kernel_rfl
@[go_sem] theorem ze_47 : zel Try.prog 47 = .nils := by kernel_rfl
@[go_sem] theorem ty_49 : tyOf Try.prog 49 = .agg := by kernel_rfl
@[go_sem] theorem ce_49 : Try.prog.cellsOf 49 = 2 := by kernel_rfl
@[go_sem] theorem by_49 : Try.prog.bytesOf 49 = 16 := by kernel_rfl
@[go_sem] theorem io_49 : (Try.prog.info? 49).isSome = true := by kernel_rfl
@[go_sem] theorem un_49 : (Try.prog.underlying 49).isSome = true := by kernel_rfl
@[go_sem] theorem zo_49 : zOk Try.prog 49 = true := by kernel_rfl
@[go_sem] theorem zc_49 : zcells Try.prog 49 = [.int .i64 0, .int .i64 0] := by kernel_rfl
@[go_sem] theorem ze_49 : zel Try.prog 49 = .agg [.int .i64 0, .int .i64 0] := by kernel_rfl
@[go_sem] theorem fo_49 : fldsOk Try.prog 49 = true := by kernel_rfl
@[go_sem] theorem fl_49_0 : fld Try.prog 49 0 = some (0, 2) := by kernel_rfl
@[go_sem] theorem fl_49_1 : fld Try.prog 49 1 = some (1, 2) := by kernel_rfl
@[go_sem] theorem ty_51 : tyOf Try.prog 51 = .agg := by kernel_rfl
@[go_sem] theorem ce_51 : Try.prog.cellsOf 51 = 4 := by kernel_rfl
@[go_sem] theorem by_51 : Try.prog.bytesOf 51 = 32 := by kernel_rfl
@[go_sem] theorem io_51 : (Try.prog.info? 51).isSome = true := by kernel_rfl
@[go_sem] theorem un_51 : (Try.prog.underlying 51).isSome = true := by kernel_rfl
@[go_sem] theorem zo_51 : zOk Try.prog 51 = true := by kernel_rfl
@[go_sem] theorem zc_51 : zcells Try.prog 51 = [.int .i64 0, .int .i64 0, .int .i64 0, .int .i64 0] := by kernel_rfl
@[go_sem] theorem ze_51 : zel Try.prog 51 = .agg [.int .i64 0, .int .i64 0, .int .i64 0, .int .i64 0] := by kernel_rfl
@[go_sem] theorem fo_51 : fldsOk Try.prog 51 = true := by kernel_rfl
@[go_sem] theorem fl_51_0 : fld Try.prog 51 0 = some (0, 2) := by kernel_rfl
@[go_sem] theorem fl_51_1 : fld Try.prog 51 1 = some (1, 2) := by kernel_rfl
@[go_sem] theorem fl_51_2 : fld Try.prog 51 2 = some (2, 2) := by kernel_rfl
@[go_sem] theorem fl_51_3 : fld Try.prog 51 3 = some (3, 2) := by kernel_rfl
@[go_sem] theorem ty_52 : tyOf Try.prog 52 = .sl 2 := by kernel_rfl
@[go_sem] theorem ce_52 : Try.prog.cellsOf 52 = 1 := by kernel_rfl
@[go_sem] theorem by_52 : Try.prog.bytesOf 52 = 24 := by kernel_rfl
@[go_sem] theorem io_52 : (Try.prog.info? 52).isSome = true := by kernel_rfl
@[go_sem] theorem un_52 : (Try.prog.underlying 52).isSome = true := by kernel_rfl
@[go_sem] theorem zo_52 : zOk Try.prog 52 = true := by kernel_rfl
@[go_sem] theorem zc_52 : zcells Try.prog 52 = [.nils] := by kernel_rfl
@[go_sem] theorem ze_52 : zel Try.prog 52 = .nils := by kernel_rfl
@[go_sem] theorem ty_54 : tyOf Try.prog 54 = .agg := by kernel_rfl
@[go_sem] theorem ce_54 : Try.prog.cellsOf 54 = 12 := by kernel_rfl
@[go_sem] theorem by_54 : Try.prog.bytesOf 54 = 128 := by kernel_rfl
@[go_sem] theorem io_54 : (Try.prog.info? 54).isSome = true := by kernel_rfl
@[go_sem] theorem un_54 : (Try.prog.underlying 54).isSome = true := by kernel_rfl
@[go_sem] theorem zo_54 : zOk Try.prog 54 = true := by kernel_rfl
@[go_sem] theorem zc_54 : zcells Try.prog 54 = [.int .i64 0, .int .i64 0, .int .i64 0, .int .i64 0, .int .i64 0, .int .i64 0, .int .i64 0, .int .i64 0, .int .i64 0, .nils, .nils, .bool false] := by kernel_rfl
@[go_sem] theorem ze_54 : zel Try.prog 54 = .agg [.int .i64 0, .int .i64 0, .int .i64 0, .int .i64 0, .int .i64 0, .int .i64 0, .int .i64 0, .int .i64 0, .int .i64 0, .nils, .nils, .bool false] := by kernel_rfl
@[go_sem] theorem fo_54 : fldsOk Try.prog 54 = true := by kernel_rfl
@[go_sem] theorem fl_54_0 : fld Try.prog 54 0 = some (0, 2) := by kernel_rfl
@[go_sem] theorem fl_54_1 : fld Try.prog 54 1 = some (1, 49) := by kernel_rfl
@[go_sem] theorem fl_54_2 : fld Try.prog 54 2 = some (3, 51) := by kernel_rfl
@[go_sem] theorem fl_54_3 : fld Try.prog 54 3 = some (7, 49) := by kernel_rfl
@[go_sem] theorem fl_54_4 : fld Try.prog 54 4 = some (9, 52) := by kernel_rfl
@[go_sem] theorem fl_54_5 : fld Try.prog 54 5 = some (10, 52) := by kernel_rfl
@[go_sem] theorem fl_54_6 : fld Try.prog 54 6 = some (11, 4) := by kernel_rfl
@[go_sem] theorem ty_56 : tyOf Try.prog 56 = .agg := by kernel_rfl
@[go_sem] theorem ce_56 : Try.prog.cellsOf 56 = 15 := by kernel_rfl
@[go_sem] theorem by_56 : Try.prog.bytesOf 56 = 168 := by kernel_rfl
@[go_sem] theorem io_56 : (Try.prog.info? 56).isSome = true := by kernel_rfl
@[go_sem] theorem un_56 : (Try.prog.underlying 56).isSome = true := by kernel_rfl
@[go_sem] theorem zo_56 : zOk Try.prog 56 = true := by kernel_rfl
@[go_sem] theorem zc_56 : zcells Try.prog 56 = [.int .i64 0, .int .i64 0, .nils, .int .i64 0, .int .i64 0, .int .i64 0, .int .i64 0, .int .i64 0, .int .i64 0, .int .i64 0, .int .i64 0, .int .i64 0, .nils, .nils, .bool false] := by kernel_rfl
@[go_sem] theorem ze_56 : zel Try.prog 56 = .agg [.int .i64 0, .int .i64 0, .nils, .int .i64 0, .int .i64 0, .int .i64 0, .int .i64 0, .int .i64 0, .int .i64 0, .int .i64 0, .int .i64 0, .int .i64 0, .nils, .nils, .bool false] := by kernel_rfl
@[go_sem] theorem fo_56 : fldsOk Try.prog 56 = true := by kernel_rfl
@[go_sem] theorem fl_56_0 : fld Try.prog 56 0 = some (0, 2) := by kernel_rfl
@[go_sem] theorem fl_56_1 : fld Try.prog 56 1 = some (1, 2) := by kernel_rfl
@[go_sem] theorem fl_56_2 : fld Try.prog 56 2 = some (2, 47) := by kernel_rfl
@[go_sem] theorem fl_56_3 : fld Try.prog 56 3 = some (3, 54) := by kernel_rfl
@[go_sem] theorem ty_62 : tyOf Try.prog 62 = .sl 130 := by kernel_rfl
@[go_sem] theorem ce_62 : Try.prog.cellsOf 62 = 1 := by kernel_rfl
@[go_sem] theorem by_62 : Try.prog.bytesOf 62 = 24 := by kernel_rfl
@[go_sem] theorem io_62 : (Try.prog.info? 62).isSome = true := by kernel_rfl
@[go_sem] theorem un_62 : (Try.prog.underlying 62).isSome = true := by kernel_rfl
@[go_sem] theorem zo_62 : zOk Try.prog 62 = true := by kernel_rfl
@[go_sem] theorem zc_62 : zcells Try.prog 62 = [.nils] := by kernel_rfl
@[go_sem] theorem ze_62 : zel Try.prog 62 = .nils := by kernel_rfl
@[go_sem] theorem ty_63 : tyOf Try.prog 63 = .agg := by kernel_rfl
@[go_sem] theorem ce_63 : Try.prog.cellsOf 63 = 2 := by kernel_rfl
@[go_sem] theorem by_63 : Try.prog.bytesOf 63 = 16 := by kernel_rfl
@[go_sem] theorem io_63 : (Try.prog.info? 63).isSome = true := by kernel_rfl
@[go_sem] theorem un_63 : (Try.prog.underlying 63).isSome = true := by kernel_rfl
@[go_sem] theorem zo_63 : zOk Try.prog 63 = true := by kernel_rfl
@[go_sem] theorem zc_63 : zcells Try.prog 63 = [.int .i64 0, .int .i64 0] := by kernel_rfl
@[go_sem] theorem ze_63 : zel Try.prog 63 = .agg [.int .i64 0, .int .i64 0] := by kernel_rfl
@[go_sem] theorem fo_63 : fldsOk Try.prog 63 = true := by kernel_rfl
@[go_sem] theorem fl_63_0 : fld Try.prog 63 0 = some (0, 2) := by kernel_rfl
@[go_sem] theorem fl_63_1 : fld Try.prog 63 1 = some (1, 2) := by kernel_rfl
@[go_sem] theorem ty_64 : tyOf Try.prog 64 = .agg := by kernel_rfl
@[go_sem] theorem ce_64 : Try.prog.cellsOf 64 = 4 := by kernel_rfl
@[go_sem] theorem by_64 : Try.prog.bytesOf 64 = 32 := by kernel_rfl
@[go_sem] theorem io_64 : (Try.prog.info? 64).isSome = true := by kernel_rfl
@[go_sem] theorem un_64 : (Try.prog.underlying 64).isSome = true := by kernel_rfl
@[go_sem] theorem zo_64 : zOk Try.prog 64 = true := by kernel_rfl
@[go_sem] theorem zc_64 : zcells Try.prog 64 = [.int .i64 0, .int .i64 0, .int .i64 0, .int .i64 0] := by kernel_rfl
@[go_sem] theorem ze_64 : zel Try.prog 64 = .agg [.int .i64 0, .int .i64 0, .int .i64 0, .int .i64 0] := by kernel_rfl
@[go_sem] theorem fo_64 : fldsOk Try.prog 64 = true := by kernel_rfl
@[go_sem] theorem fl_64_0 : fld Try.prog 64 0 = some (0, 2) := by kernel_rfl
@[go_sem] theorem fl_64_1 : fld Try.prog 64 1 = some (1, 2) := by kernel_rfl
@[go_sem] theorem fl_64_2 : fld Try.prog 64 2 = some (2, 2) := by kernel_rfl
@[go_sem] theorem fl_64_3 : fld Try.prog 64 3 = some (3, 2) := by kernel_rfl
@[go_sem] theorem ty_66 : tyOf Try.prog 66 = .agg := by kernel_rfl
@[go_sem] theorem ce_66 : Try.prog.cellsOf 66 = 12 := by kernel_rfl
@[go_sem] theorem by_66 : Try.prog.bytesOf 66 = 128 := by kernel_rfl
@[go_sem] theorem io_66 : (Try.prog.info? 66).isSome = true := by kernel_rfl
@[go_sem] theorem un_66 : (Try.prog.underlying 66).isSome = true := by kernel_rfl
@[go_sem] theorem zo_66 : zOk Try.prog 66 = true := by kernel_rfl
@[go_sem] theorem zc_66 : zcells Try.prog 66 = [.int .i64 0, .int .i64 0, .int .i64 0, .int .i64 0, .int .i64 0, .int .i64 0, .int .i64 0, .int .i64 0, .int .i64 0, .nils, .nils, .bool false] := by kernel_rfl
@[go_sem] theorem ze_66 : zel Try.prog 66 = .agg [.int .i64 0, .int .i64 0, .int .i64 0, .int .i64 0, .int .i64 0, .int .i64 0, .int .i64 0, .int .i64 0, .int .i64 0, .nils, .nils, .bool false] := by kernel_rfl
@[go_sem] theorem fo_66 : fldsOk Try.prog 66 = true := by kernel_rfl
@[go_sem] theorem fl_66_0 : fld Try.prog 66 0 = some (0, 2) := by kernel_rfl
@[go_sem] theorem fl_66_1 : fld Try.prog 66 1 = some (1, 63) := by kernel_rfl
@[go_sem] theorem fl_66_2 : fld Try.prog 66 2 = some (3, 64) := by kernel_rfl
@[go_sem] theorem fl_66_3 : fld Try.prog 66 3 = some (7, 63) := by kernel_rfl
@[go_sem] theorem fl_66_4 : fld Try.prog 66 4 = some (9, 52) := by kernel_rfl
@[go_sem] theorem fl_66_5 : fld Try.prog 66 5 = some (10, 52) := by kernel_rfl
@[go_sem] theorem fl_66_6 : fld Try.prog 66 6 = some (11, 4) := by kernel_rfl
@[go_sem] theorem ty_68 : tyOf Try.prog 68 = .agg := by kernel_rfl
@[go_sem] theorem ce_68 : Try.prog.cellsOf 68 = 15 := by kernel_rfl
@[go_sem] theorem by_68 : Try.prog.bytesOf 68 = 168 := by kernel_rfl
@[go_sem] theorem io_68 : (Try.prog.info? 68).isSome = true := by kernel_rfl
@[go_sem] theorem un_68 : (Try.prog.underlying 68).isSome = true := by kernel_rfl
@[go_sem] theorem zo_68 : zOk Try.prog 68 = true := by kernel_rfl
@[go_sem] theorem zc_68 : zcells Try.prog 68 = [.int .i64 0, .int .i64 0, .nils, .int .i64 0, .int .i64 0, .int .i64 0, .int .i64 0, .int .i64 0, .int .i64 0, .int .i64 0, .int .i64 0, .int .i64 0, .nils, .nils, .bool false] := by kernel_rfl
@[go_sem] theorem ze_68 : zel Try.prog 68 = .agg [.int .i64 0, .int .i64 0, .nils, .int .i64 0, .int .i64 0, .int .i64 0, .int .i64 0, .int .i64 0, .int .i64 0, .int .i64 0, .int .i64 0, .int .i64 0, .nils, .nils, .bool false] := by kernel_rfl
@[go_sem] theorem fo_68 : fldsOk Try.prog 68 = true := by kernel_rfl
@[go_sem] theorem fl_68_0 : fld Try.prog 68 0 = some (0, 2) := by kernel_rfl
@[go_sem] theorem fl_68_1 : fld Try.prog 68 1 = some (1, 2) := by kernel_rfl
@[go_sem] theorem fl_68_2 : fld Try.prog 68 2 = some (2, 62) := by kernel_rfl
@[go_sem] theorem fl_68_3 : fld Try.prog 68 3 = some (3, 66) := by kernel_rfl
@[go_sem] theorem ty_88 : tyOf Try.prog 88 = .fn := by kernel_rfl
@[go_sem] theorem ce_88 : Try.prog.cellsOf 88 = 1 := by kernel_rfl
@[go_sem] theorem by_88 : Try.prog.bytesOf 88 = 8 := by kernel_rfl
@[go_sem] theorem io_88 : (Try.prog.info? 88).isSome = true := by kernel_rfl
@[go_sem] theorem un_88 : (Try.prog.underlying 88).isSome = true := by kernel_rfl
@[go_sem] theorem zo_88 : zOk Try.prog 88 = true := by kernel_rfl
@[go_sem] theorem zc_88 : zcells Try.prog 88 = [.undef] := by kernel_rfl
@[go_sem] theorem ze_88 : zel Try.prog 88 = .undef := by kernel_rfl
@[go_sem] theorem ty_98 : tyOf Try.prog 98 = .agg := by kernel_rfl
@[go_sem] theorem ce_98 : Try.prog.cellsOf 98 = 9 := by kernel_rfl
@[go_sem] theorem by_98 : Try.prog.bytesOf 98 = 72 := by kernel_rfl
@[go_sem] theorem io_98 : (Try.prog.info? 98).isSome = true := by kernel_rfl
@[go_sem] theorem un_98 : (Try.prog.underlying 98).isSome = true := by kernel_rfl
@[go_sem] theorem zo_98 : zOk Try.prog 98 = true := by kernel_rfl
@[go_sem] theorem zc_98 : zcells Try.prog 98 = [.int .i64 0, .int .i64 0, .int .i64 0, .int .i64 0, .int .i64 0, .int .i64 0, .int .i64 0, .int .i64 0, .int .i64 0] := by kernel_rfl
@[go_sem] theorem ze_98 : zel Try.prog 98 = .agg [.int .i64 0, .int .i64 0, .int .i64 0, .int .i64 0, .int .i64 0, .int .i64 0, .int .i64 0, .int .i64 0, .int .i64 0] := by kernel_rfl
@[go_sem] theorem fo_98 : fldsOk Try.prog 98 = true := by kernel_rfl
@[go_sem] theorem fl_98_0 : fld Try.prog 98 0 = some (0, 2) := by kernel_rfl
@[go_sem] theorem fl_98_1 : fld Try.prog 98 1 = some (1, 49) := by kernel_rfl
@[go_sem] theorem fl_98_2 : fld Try.prog 98 2 = some (3, 49) := by kernel_rfl
@[go_sem] theorem fl_98_3 : fld Try.prog 98 3 = some (5, 51) := by kernel_rfl
@[go_sem] theorem ty_107 : tyOf Try.prog 107 = .sl 5 := by kernel_rfl
@[go_sem] theorem ce_107 : Try.prog.cellsOf 107 = 1 := by kernel_rfl
@[go_sem] theorem by_107 : Try.prog.bytesOf 107 = 24 := by kernel_rfl
@[go_sem] theorem io_107 : (Try.prog.info? 107).isSome = true := by kernel_rfl
@[go_sem] theorem un_107 : (Try.prog.underlying 107).isSome = true := by kernel_rfl
@[go_sem] theorem zo_107 : zOk Try.prog 107 = true := by kernel_rfl
@[go_sem] theorem zc_107 : zcells Try.prog 107 = [.nils] := by kernel_rfl
@[go_sem] theorem ze_107 : zel Try.prog 107 = .nils := by kernel_rfl
@[go_sem] theorem ty_111 : tyOf Try.prog 111 = .fn := by kernel_rfl
@[go_sem] theorem ce_111 : Try.prog.cellsOf 111 = 1 := by kernel_rfl
@[go_sem] theorem by_111 : Try.prog.bytesOf 111 = 8 := by kernel_rfl
@[go_sem] theorem io_111 : (Try.prog.info? 111).isSome = true := by kernel_rfl
@[go_sem] theorem un_111 : (Try.prog.underlying 111).isSome = true := by kernel_rfl
@[go_sem] theorem zo_111 : zOk Try.prog 111 = true := by kernel_rfl
@[go_sem] theorem zc_111 : zcells Try.prog 111 = [.undef] := by kernel_rfl
@[go_sem] theorem ze_111 : zel Try.prog 111 = .undef := by kernel_rfl
@[go_sem] theorem ty_112 : tyOf Try.prog 112 = .ptr := by kernel_rfl
@[go_sem] theorem ce_112 : Try.prog.cellsOf 112 = 1 := by kernel_rfl
@[go_sem] theorem by_112 : Try.prog.bytesOf 112 = 8 := by kernel_rfl
@[go_sem] theorem io_112 : (Try.prog.info? 112).isSome = true := by kernel_rfl
@[go_sem] theorem un_112 : (Try.prog.underlying 112).isSome = true := by kernel_rfl
@[go_sem] theorem zo_112 : zOk Try.prog 112 = true := by kernel_rfl
@[go_sem] theorem zc_112 : zcells Try.prog 112 = [.nilp] := by kernel_rfl
@[go_sem] theorem ze_112 : zel Try.prog 112 = .nilp := by kernel_rfl
@[go_sem] theorem ty_114 : tyOf Try.prog 114 = .agg := by kernel_rfl
@[go_sem] theorem ce_114 : Try.prog.cellsOf 114 = 2 := by kernel_rfl
@[go_sem] theorem by_114 : Try.prog.bytesOf 114 = 32 := by kernel_rfl
@[go_sem] theorem io_114 : (Try.prog.info? 114).isSome = true := by kernel_rfl
@[go_sem] theorem un_114 : (Try.prog.underlying 114).isSome = true := by kernel_rfl
@[go_sem] theorem zo_114 : zOk Try.prog 114 = true := by kernel_rfl
@[go_sem] theorem zc_114 : zcells Try.prog 114 = [.nilp, .nils] := by kernel_rfl
@[go_sem] theorem ze_114 : zel Try.prog 114 = .agg [.nilp, .nils] := by kernel_rfl
@[go_sem] theorem fo_114 : fldsOk Try.prog 114 = true := by kernel_rfl
@[go_sem] theorem fl_114_0 : fld Try.prog 114 0 = some (0, 112) := by kernel_rfl
@[go_sem] theorem fl_114_1 : fld Try.prog 114 1 = some (1, 107) := by kernel_rfl
@[go_sem] theorem ty_117 : tyOf Try.prog 117 = .ifc := by kernel_rfl
@[go_sem] theorem ce_117 : Try.prog.cellsOf 117 = 1 := by kernel_rfl
@[go_sem] theorem by_117 : Try.prog.bytesOf 117 = 16 := by kernel_rfl
@[go_sem] theorem io_117 : (Try.prog.info? 117).isSome = true := by kernel_rfl
@[go_sem] theorem un_117 : (Try.prog.underlying 117).isSome = true := by kernel_rfl
@[go_sem] theorem zo_117 : zOk Try.prog 117 = true := by kernel_rfl
@[go_sem] theorem zc_117 : zcells Try.prog 117 = [.nili] := by kernel_rfl
@[go_sem] theorem ze_117 : zel Try.prog 117 = .nili := by kernel_rfl
@[go_sem] theorem ty_130 : tyOf Try.prog 130 = .agg := by kernel_rfl
@[go_sem] theorem ce_130 : Try.prog.cellsOf 130 = 9 := by kernel_rfl
@[go_sem] theorem by_130 : Try.prog.bytesOf 130 = 72 := by kernel_rfl
@[go_sem] theorem io_130 : (Try.prog.info? 130).isSome = true := by kernel_rfl
@[go_sem] theorem un_130 : (Try.prog.underlying 130).isSome = true := by kernel_rfl
@[go_sem] theorem zo_130 : zOk Try.prog 130 = true := by kernel_rfl
@[go_sem] theorem zc_130 : zcells Try.prog 130 = [.int .i64 0, .int .i64 0, .int .i64 0, .int .i64 0, .int .i64 0, .int .i64 0, .int .i64 0, .int .i64 0, .int .i64 0] := by kernel_rfl
@[go_sem] theorem ze_130 : zel Try.prog 130 = .agg [.int .i64 0, .int .i64 0, .int .i64 0, .int .i64 0, .int .i64 0, .int .i64 0, .int .i64 0, .int .i64 0, .int .i64 0] := by kernel_rfl
@[go_sem] theorem fo_130 : fldsOk Try.prog 130 = true := by kernel_rfl
@[go_sem] theorem fl_130_0 : fld Try.prog 130 0 = some (0, 2) := by kernel_rfl
@[go_sem] theorem fl_130_1 : fld Try.prog 130 1 = some (1, 63) := by kernel_rfl
@[go_sem] theorem fl_130_2 : fld Try.prog 130 2 = some (3, 63) := by kernel_rfl
@[go_sem] theorem fl_130_3 : fld Try.prog 130 3 = some (5, 64) := by kernel_rfl
@[go_sem] theorem ty_138 : tyOf Try.prog 138 = .ptr := by kernel_rfl
@[go_sem] theorem ce_138 : Try.prog.cellsOf 138 = 1 := by kernel_rfl
@[go_sem] theorem by_138 : Try.prog.bytesOf 138 = 8 := by kernel_rfl
@[go_sem] theorem io_138 : (Try.prog.info? 138).isSome = true := by kernel_rfl
@[go_sem] theorem un_138 : (Try.prog.underlying 138).isSome = true := by kernel_rfl
@[go_sem] theorem zo_138 : zOk Try.prog 138 = true := by kernel_rfl
@[go_sem] theorem zc_138 : zcells Try.prog 138 = [.nilp] := by kernel_rfl
@[go_sem] theorem ze_138 : zel Try.prog 138 = .nilp := by kernel_rfl
@[go_sem] theorem ty_145 : tyOf Try.prog 145 = .sl 3 := by kernel_rfl
@[go_sem] theorem ce_145 : Try.prog.cellsOf 145 = 1 := by kernel_rfl
@[go_sem] theorem by_145 : Try.prog.bytesOf 145 = 24 := by kernel_rfl
@[go_sem] theorem io_145 : (Try.prog.info? 145).isSome = true := by kernel_rfl
@[go_sem] theorem un_145 : (Try.prog.underlying 145).isSome = true := by kernel_rfl
@[go_sem] theorem zo_145 : zOk Try.prog 145 = true := by kernel_rfl
@[go_sem] theorem zc_145 : zcells Try.prog 145 = [.nils] := by kernel_rfl
@[go_sem] theorem ze_145 : zel Try.prog 145 = .nils := by kernel_rfl
@[go_sem] theorem ty_155 : tyOf Try.prog 155 = .int .u8 := by kernel_rfl
@[go_sem] theorem ce_155 : Try.prog.cellsOf 155 = 1 := by kernel_rfl
@[go_sem] theorem by_155 : Try.prog.bytesOf 155 = 1 := by kernel_rfl
@[go_sem] theorem io_155 : (Try.prog.info? 155).isSome = true := by kernel_rfl
@[go_sem] theorem un_155 : (Try.prog.underlying 155).isSome = true := by kernel_rfl
@[go_sem] theorem zo_155 : zOk Try.prog 155 = true := by kernel_rfl
@[go_sem] theorem zc_155 : zcells Try.prog 155 = [.int .u8 0] := by kernel_rfl
@[go_sem] theorem ze_155 : zel Try.prog 155 = .int .u8 0 := by kernel_rfl
theorem hm : Try.prog.follows .mixedOrders = true := by kernel_rfl
end Go.Ve
