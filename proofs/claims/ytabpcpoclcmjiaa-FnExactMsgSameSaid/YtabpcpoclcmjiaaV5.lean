/- Comparisons of the reference. No condition. -/
import Derived.Test.YtabpcpoclcmjiaaV4
namespace Go.Ve
open Go.Proofs Go.RowKit
set_option linter.unusedVariables false
set_option linter.unusedSimpArgs false
set_option maxRecDepth 10000
set_option maxHeartbeats 4000000
theorem s39 : slimF Try.f39 = some (eqDeepC 3 4 43 32 47, [.t 4], 27) := by kernel_rfl
theorem o39 : okF [(47, g47)] Try.f39 = true := by kernel_rfl
noncomputable def g39 : Fsem := eqSem enPgSt.list enPgSt.list
@[go_sem] theorem g39_eq {n τ τ' : Nat} {x y : List PgSt} : g39 n [.sl τ 12 (x.map (enPgSt.av τ)), .sl τ' 12 (y.map (enPgSt.av τ'))] = ⟨True, .bool (eqB x y)⟩ := eqSem_eq (E := enPgSt.list) (E' := enPgSt.list) (n := n) (τ := τ) (τ' := τ') (x := x) (y := y)
theorem p39 : Pure Try.prog 39 g39 := eqDeep_ok hm Try.func39 s39 o39 (by omega) ty_43 fit_32 fit_32 p47 (fun n τ x τ' x' => by simp [go_sem])
/- spec.SameStore -/
def c13 : SCode := (.seq (.reg [⟨(some 2), .box 45 (.tmp 0), none⟩,
   ⟨(some 3), .box 45 (.tmp 1), none⟩,
   ⟨(some 4), .assign (.const (.bool false)), none⟩])
(.seq (.reg [⟨(some 5), .fieldAddr 45 (.tmp 2) 0, none⟩,
    ⟨(some 6), .load 43 (.tmp 5), none⟩,
    ⟨(some 7), .fieldAddr 45 (.tmp 3) 0, none⟩,
    ⟨(some 8), .load 43 (.tmp 7), none⟩,
    ⟨(some 9), .call ⟨(.value (.func 39)), #[(.tmp 6), (.tmp 8)], #[43, 43]⟩, none⟩,
    ⟨(some 10), .move (.tmp 9), none⟩,
    ⟨(some 11), .fieldAddr 45 (.tmp 2) 1, (some (10, true))⟩,
    ⟨(some 12), .load 43 (.tmp 11), (some (10, true))⟩,
    ⟨(some 13), .fieldAddr 45 (.tmp 3) 1, (some (10, true))⟩,
    ⟨(some 14), .load 43 (.tmp 13), (some (10, true))⟩,
    ⟨(some 15), .call ⟨(.value (.func 39)), #[(.tmp 12), (.tmp 14)], #[43, 43]⟩, (some (10, true))⟩,
    ⟨(some 16), .pick (.tmp 10) (.tmp 15) (.const (.bool false)), none⟩,
    ⟨(some 4), .assign (.tmp 16), none⟩])
 .ret))
theorem s13 : slimF Try.f13 = some (c13, [.t 4], 17) := by kernel_rfl
theorem o13 : okF [(39, g39)] Try.f13 = true := by kernel_rfl
noncomputable def g13 : Fsem := sem2 enStore enStore (fun x y => True) (fun n x y => .bool (eqB x y))
@[go_sem] theorem g13_eq {n τ τ' : Nat} {x : Store} {y : Store} : g13 n [.agg [.sl τ 12 (x.live.map (enPgSt.av τ)), .sl τ 12 (x.kept.map (enPgSt.av τ))], .agg [.sl τ' 12 (y.live.map (enPgSt.av τ')), .sl τ' 12 (y.kept.map (enPgSt.av τ'))]] = ⟨True, .bool (eqB x y)⟩ := sem2_eq  (E := enStore) (F := enStore)
theorem p13 : Pure Try.prog 13 g13 := by
  refine sem2_pure fun τ τ' x y n h2 hpre => ?_
  have hT : Table Try.prog [(39, g39)] := (.cons p39 .nil)
  have hn0 : n ≠ 0 := by omega
  refine SatP.of_body hT hm Try.func13 s13 o13 h2 (by simp) ?_
  rw [eqB_Store]
  simp (config := {contextual := true, maxSteps := 2000000, implicitDefEqProofs := false}) [c13, go_sem]
/- spec.MsgSame -/
def c18 : SCode := (.seq (.reg [⟨(some 2), .box 74 (.tmp 0), none⟩,
   ⟨(some 3), .box 74 (.tmp 1), none⟩,
   ⟨(some 4), .assign (.const (.bool false)), none⟩])
(.seq (.seq (.reg [⟨(some 5), .fieldAddr 74 (.tmp 2) 0, none⟩,
     ⟨(some 6), .load 2 (.tmp 5), none⟩,
     ⟨(some 7), .fieldAddr 74 (.tmp 3) 0, none⟩,
     ⟨(some 8), .load 2 (.tmp 7), none⟩,
     ⟨(some 9), .binOp .neq 2 (.tmp 6) (.tmp 8) 2, none⟩,
     ⟨(some 10), .move (.tmp 9), none⟩,
     ⟨(some 11), .fieldAddr 74 (.tmp 2) 1, (some (10, false))⟩,
     ⟨(some 12), .load 2 (.tmp 11), (some (10, false))⟩,
     ⟨(some 13), .fieldAddr 74 (.tmp 3) 1, (some (10, false))⟩,
     ⟨(some 14), .load 2 (.tmp 13), (some (10, false))⟩,
     ⟨(some 15), .binOp .neq 2 (.tmp 12) (.tmp 14) 2, (some (10, false))⟩,
     ⟨(some 16), .pick (.tmp 10) (.const (.bool true)) (.tmp 15), none⟩,
     ⟨(some 17), .move (.tmp 16), none⟩,
     ⟨(some 18), .fieldAddr 74 (.tmp 2) 2, (some (17, false))⟩,
     ⟨(some 19), .load 2 (.tmp 18), (some (17, false))⟩,
     ⟨(some 20), .fieldAddr 74 (.tmp 3) 2, (some (17, false))⟩,
     ⟨(some 21), .load 2 (.tmp 20), (some (17, false))⟩,
     ⟨(some 22), .binOp .neq 2 (.tmp 19) (.tmp 21) 2, (some (17, false))⟩,
     ⟨(some 23), .pick (.tmp 17) (.const (.bool true)) (.tmp 22), none⟩,
     ⟨(some 24), .move (.tmp 23), none⟩,
     ⟨(some 25), .fieldAddr 74 (.tmp 2) 3, (some (24, false))⟩,
     ⟨(some 26), .load 24 (.tmp 25), (some (24, false))⟩,
     ⟨(some 27), .fieldAddr 74 (.tmp 3) 3, (some (24, false))⟩,
     ⟨(some 28), .load 24 (.tmp 27), (some (24, false))⟩,
     ⟨(some 29), .binOp .neq 24 (.tmp 26) (.tmp 28) 24, (some (24, false))⟩,
     ⟨(some 30), .pick (.tmp 24) (.const (.bool true)) (.tmp 29), none⟩,
     ⟨(some 31), .move (.tmp 30), none⟩,
     ⟨(some 32), .fieldAddr 74 (.tmp 2) 4, (some (31, false))⟩,
     ⟨(some 33), .load 2 (.tmp 32), (some (31, false))⟩,
     ⟨(some 34), .fieldAddr 74 (.tmp 3) 4, (some (31, false))⟩,
     ⟨(some 35), .load 2 (.tmp 34), (some (31, false))⟩,
     ⟨(some 36), .binOp .neq 2 (.tmp 33) (.tmp 35) 2, (some (31, false))⟩,
     ⟨(some 37), .pick (.tmp 31) (.const (.bool true)) (.tmp 36), none⟩,
     ⟨(some 38), .move (.tmp 37), none⟩,
     ⟨(some 39), .fieldAddr 74 (.tmp 2) 5, (some (38, false))⟩,
     ⟨(some 40), .load 9 (.tmp 39), (some (38, false))⟩,
     ⟨(some 41), .fieldAddr 74 (.tmp 3) 5, (some (38, false))⟩,
     ⟨(some 42), .load 9 (.tmp 41), (some (38, false))⟩,
     ⟨(some 43), .binOp .neq 9 (.tmp 40) (.tmp 42) 9, (some (38, false))⟩,
     ⟨(some 44), .pick (.tmp 38) (.const (.bool true)) (.tmp 43), none⟩,
     ⟨(some 45), .move (.tmp 44), none⟩,
     ⟨(some 46), .fieldAddr 74 (.tmp 2) 6, (some (45, false))⟩,
     ⟨(some 47), .load 26 (.tmp 46), (some (45, false))⟩,
     ⟨(some 48), .fieldAddr 74 (.tmp 3) 6, (some (45, false))⟩,
     ⟨(some 49), .load 26 (.tmp 48), (some (45, false))⟩,
     ⟨(some 50), .binOp .neq 26 (.tmp 47) (.tmp 49) 26, (some (45, false))⟩,
     ⟨(some 51), .pick (.tmp 45) (.const (.bool true)) (.tmp 50), none⟩,
     ⟨(some 52), .move (.tmp 51), none⟩,
     ⟨(some 53), .fieldAddr 74 (.tmp 2) 7, (some (52, false))⟩,
     ⟨(some 54), .load 26 (.tmp 53), (some (52, false))⟩,
     ⟨(some 55), .fieldAddr 74 (.tmp 3) 7, (some (52, false))⟩,
     ⟨(some 56), .load 26 (.tmp 55), (some (52, false))⟩,
     ⟨(some 57), .binOp .neq 26 (.tmp 54) (.tmp 56) 26, (some (52, false))⟩,
     ⟨(some 58), .pick (.tmp 52) (.const (.bool true)) (.tmp 57), none⟩])
  (.cond (.tmp 58) (.seq (.reg [⟨(some 4), .assign (.const (.bool false)), none⟩])
    .ret)
   .skip))
 (.seq (.reg [⟨(some 59), .fieldAddr 74 (.tmp 2) 9, none⟩,
     ⟨(some 60), .load 69 (.tmp 59), none⟩,
     ⟨(some 61), .fieldAddr 74 (.tmp 3) 9, none⟩,
     ⟨(some 62), .load 69 (.tmp 61), none⟩,
     ⟨(some 63), .binOp .eql 69 (.tmp 60) (.tmp 62) 69, none⟩,
     ⟨(some 64), .move (.tmp 63), none⟩,
     ⟨(some 65), .fieldAddr 74 (.tmp 2) 10, (some (64, true))⟩,
     ⟨(some 66), .load 71 (.tmp 65), (some (64, true))⟩,
     ⟨(some 67), .fieldAddr 74 (.tmp 3) 10, (some (64, true))⟩,
     ⟨(some 68), .load 71 (.tmp 67), (some (64, true))⟩,
     ⟨(some 69), .binOp .eql 71 (.tmp 66) (.tmp 68) 71, (some (64, true))⟩,
     ⟨(some 70), .pick (.tmp 64) (.tmp 69) (.const (.bool false)), none⟩,
     ⟨(some 71), .move (.tmp 70), none⟩,
     ⟨(some 72), .fieldAddr 74 (.tmp 2) 11, (some (71, true))⟩,
     ⟨(some 73), .load 72 (.tmp 72), (some (71, true))⟩,
     ⟨(some 74), .fieldAddr 74 (.tmp 3) 11, (some (71, true))⟩,
     ⟨(some 75), .load 72 (.tmp 74), (some (71, true))⟩,
     ⟨(some 76), .binOp .eql 72 (.tmp 73) (.tmp 75) 72, (some (71, true))⟩,
     ⟨(some 77), .pick (.tmp 71) (.tmp 76) (.const (.bool false)), none⟩,
     ⟨(some 78), .move (.tmp 77), none⟩,
     ⟨(some 79), .fieldAddr 74 (.tmp 2) 12, (some (78, true))⟩,
     ⟨(some 80), .load 67 (.tmp 79), (some (78, true))⟩,
     ⟨(some 81), .fieldAddr 74 (.tmp 3) 12, (some (78, true))⟩,
     ⟨(some 82), .load 67 (.tmp 81), (some (78, true))⟩,
     ⟨(some 83), .binOp .eql 67 (.tmp 80) (.tmp 82) 67, (some (78, true))⟩,
     ⟨(some 84), .pick (.tmp 78) (.tmp 83) (.const (.bool false)), none⟩,
     ⟨(some 85), .move (.tmp 84), none⟩,
     ⟨(some 86), .fieldAddr 74 (.tmp 2) 13, (some (85, true))⟩,
     ⟨(some 87), .load 2 (.tmp 86), (some (85, true))⟩,
     ⟨(some 88), .fieldAddr 74 (.tmp 3) 13, (some (85, true))⟩,
     ⟨(some 89), .load 2 (.tmp 88), (some (85, true))⟩,
     ⟨(some 90), .binOp .eql 2 (.tmp 87) (.tmp 89) 2, (some (85, true))⟩,
     ⟨(some 91), .pick (.tmp 85) (.tmp 90) (.const (.bool false)), none⟩,
     ⟨(some 92), .move (.tmp 91), none⟩,
     ⟨(some 93), .fieldAddr 74 (.tmp 2) 14, (some (92, true))⟩,
     ⟨(some 94), .load 9 (.tmp 93), (some (92, true))⟩,
     ⟨(some 95), .fieldAddr 74 (.tmp 3) 14, (some (92, true))⟩,
     ⟨(some 96), .load 9 (.tmp 95), (some (92, true))⟩,
     ⟨(some 97), .binOp .eql 9 (.tmp 94) (.tmp 96) 9, (some (92, true))⟩,
     ⟨(some 98), .pick (.tmp 92) (.tmp 97) (.const (.bool false)), none⟩,
     ⟨(some 99), .move (.tmp 98), none⟩,
     ⟨(some 100), .fieldAddr 74 (.tmp 2) 8, (some (99, true))⟩,
     ⟨(some 101), .load 32 (.tmp 100), (some (99, true))⟩,
     ⟨(some 102), .fieldAddr 74 (.tmp 3) 8, (some (99, true))⟩,
     ⟨(some 103), .load 32 (.tmp 102), (some (99, true))⟩,
     ⟨(some 104), .call ⟨(.value (.func 47)), #[(.tmp 101), (.tmp 103)], #[32, 32]⟩, (some (99, true))⟩,
     ⟨(some 105), .pick (.tmp 99) (.tmp 104) (.const (.bool false)), none⟩,
     ⟨(some 4), .assign (.tmp 105), none⟩])
  .ret)))
theorem s18 : slimF Try.f18 = some (c18, [.t 4], 106) := by kernel_rfl
theorem o18 : okF [(47, g47)] Try.f18 = true := by kernel_rfl
noncomputable def g18 : Fsem := sem2 enMsg enMsg (fun x y => True) (fun n x y => .bool (eqB x y))
@[go_sem] theorem g18_eq {n τ τ' : Nat} {x : Msg} {y : Msg} : g18 n [.agg [.int .i64 x.kind, .int .i64 x.from_, .int .i64 x.to_, .int .i64 x.pg.pool, .int .i64 x.pg.no, .int .i64 x.epoch, .str x.name, .int .i64 x.ver.epoch, .int .i64 x.ver.seq, .int .i64 x.firm.epoch, .int .i64 x.firm.seq, .int .i64 x.state.pg.pool, .int .i64 x.state.pg.no, .int .i64 x.state.seen, .int .i64 x.state.started, .int .i64 x.state.tail.epoch, .int .i64 x.state.tail.seq, .sl τ 5 (x.state.base.map (enHead.av τ)), .sl τ 4 (x.state.clients.map (enLst.av τ)), .sl τ 10 (x.state.log.map (enEntry.av τ)), .int .i64 x.state.firm.epoch, .int .i64 x.state.firm.seq, .sl τ 6 (x.state.chunks.map (enChunk.av τ)), .int .i64 x.entry.ver.epoch, .int .i64 x.entry.ver.seq, .int .i64 x.entry.prior.epoch, .int .i64 x.entry.prior.seq, .str x.entry.name, .bool x.entry.gone, .int .i64 x.entry.size, .int .i64 x.entry.sum, .int .i64 x.entry.req.client, .int .i64 x.entry.req.no, .str x.chunk.name, .int .i64 x.chunk.ver.epoch, .int .i64 x.chunk.ver.seq, .int .i64 x.chunk.pos, .int .i64 x.chunk.sum, .str x.chunk.bytes, .int .i64 x.op.kind, .int .i64 x.op.at_, .str x.op.bytes, .int .i64 x.req.client, .int .i64 x.req.no, .int .i64 x.code, .str x.body], .agg [.int .i64 y.kind, .int .i64 y.from_, .int .i64 y.to_, .int .i64 y.pg.pool, .int .i64 y.pg.no, .int .i64 y.epoch, .str y.name, .int .i64 y.ver.epoch, .int .i64 y.ver.seq, .int .i64 y.firm.epoch, .int .i64 y.firm.seq, .int .i64 y.state.pg.pool, .int .i64 y.state.pg.no, .int .i64 y.state.seen, .int .i64 y.state.started, .int .i64 y.state.tail.epoch, .int .i64 y.state.tail.seq, .sl τ' 5 (y.state.base.map (enHead.av τ')), .sl τ' 4 (y.state.clients.map (enLst.av τ')), .sl τ' 10 (y.state.log.map (enEntry.av τ')), .int .i64 y.state.firm.epoch, .int .i64 y.state.firm.seq, .sl τ' 6 (y.state.chunks.map (enChunk.av τ')), .int .i64 y.entry.ver.epoch, .int .i64 y.entry.ver.seq, .int .i64 y.entry.prior.epoch, .int .i64 y.entry.prior.seq, .str y.entry.name, .bool y.entry.gone, .int .i64 y.entry.size, .int .i64 y.entry.sum, .int .i64 y.entry.req.client, .int .i64 y.entry.req.no, .str y.chunk.name, .int .i64 y.chunk.ver.epoch, .int .i64 y.chunk.ver.seq, .int .i64 y.chunk.pos, .int .i64 y.chunk.sum, .str y.chunk.bytes, .int .i64 y.op.kind, .int .i64 y.op.at_, .str y.op.bytes, .int .i64 y.req.client, .int .i64 y.req.no, .int .i64 y.code, .str y.body]] = ⟨True, .bool (eqB x y)⟩ := sem2_eq  (E := enMsg) (F := enMsg)
theorem p18 : Pure Try.prog 18 g18 := by
  refine sem2_pure fun τ τ' x y n h2 hpre => ?_
  have hT : Table Try.prog [(47, g47)] := (.cons p47 .nil)
  have hn0 : n ≠ 0 := by omega
  refine SatP.of_body hT hm Try.func18 s18 o18 h2 (by simp) ?_
  rw [eqB_Msg]
  simp (config := {contextual := true, maxSteps := 2000000, implicitDefEqProofs := false}) [c18, go_sem, eqB_Pg, eqB_Ver, eqB_Req, eqB_Head, eqB_Lst, eqB_Entry, eqB_Chunk, eqB_Op] <;> first | done | ac_rfl | grind (splits := 60)
end Go.Ve
