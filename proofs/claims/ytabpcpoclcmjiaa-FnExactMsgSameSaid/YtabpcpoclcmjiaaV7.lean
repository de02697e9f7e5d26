/- The laws. No condition. -/
import Derived.Test.YtabpcpoclcmjiaaV5
namespace Go.Ve
open Go.Proofs Go.RowKit
set_option linter.unusedVariables false
set_option linter.unusedSimpArgs false
set_option maxRecDepth 10000
set_option maxHeartbeats 4000000
/- laws.FnExactMsgSame -/
def c5 : SCode := (.seq (.reg [⟨(some 2), .box 64 (.tmp 0), none⟩,
   ⟨(some 3), .box 64 (.tmp 1), none⟩,
   ⟨(some 4), .assign (.const (.bool false)), none⟩])
(.seq (.reg [⟨(some 5), .assign (.const (.int .i64 1048576)), none⟩])
 (.seq (.reg [⟨(some 10), .load 64 (.tmp 2), none⟩,
     ⟨(some 11), .move (.tmp 5), none⟩,
     ⟨(some 12), .call ⟨(.value (.func 17)), #[(.tmp 10), (.tmp 11)], #[64, 3]⟩, none⟩,
     ⟨(some 5), .assign (.tmp 12), none⟩])
  (.seq (.seq (.reg [⟨(some 13), .move (.tmp 5), none⟩,
       ⟨(some 14), .binOp .lss 3 (.tmp 13) (.const (.int .i64 0)) 3, none⟩])
    (.cond (.tmp 14) (.seq (.reg [⟨(some 4), .assign (.const (.bool true)), none⟩])
      .ret)
     .skip))
   (.seq (.reg [⟨(some 15), .load 64 (.tmp 3), none⟩,
       ⟨(some 16), .move (.tmp 5), none⟩,
       ⟨(some 17), .call ⟨(.value (.func 17)), #[(.tmp 15), (.tmp 16)], #[64, 3]⟩, none⟩,
       ⟨(some 5), .assign (.tmp 17), none⟩])
    (.seq (.seq (.reg [⟨(some 18), .move (.tmp 5), none⟩,
         ⟨(some 19), .binOp .lss 3 (.tmp 18) (.const (.int .i64 0)) 3, none⟩])
      (.cond (.tmp 19) (.seq (.reg [⟨(some 4), .assign (.const (.bool true)), none⟩])
        .ret)
       .skip))
     (.seq (.draw [⟨(some 20), .load 64 (.tmp 2), none⟩,
         ⟨(some 21), .call ⟨(.value (.func 19)), #[(.tmp 20)], #[64]⟩, none⟩,
         ⟨(some 22), .load 64 (.tmp 3), none⟩,
         ⟨(some 23), .call ⟨(.value (.func 19)), #[(.tmp 22)], #[64]⟩, none⟩,
         ⟨(some 24), .call ⟨(.value (.func 18)), #[(.tmp 21), (.tmp 23)], #[74, 74]⟩, none⟩,
         ⟨(some 6), .assign (.tmp 24), none⟩] [[], [0], [], [0, 1, 2], [0, 1, 2, 3], [0, 1, 2, 3, 4]])
      (.seq (.reg [⟨(some 25), .load 64 (.tmp 2), none⟩,
          ⟨(some 26), .call ⟨(.value (.func 19)), #[(.tmp 25)], #[64]⟩, none⟩,
          ⟨(some 7), .alloc 74, none⟩,
          ⟨none, .store 74 (.tmp 7) (.tmp 26), none⟩])
       (.seq (.reg [⟨(some 27), .load 64 (.tmp 3), none⟩,
           ⟨(some 28), .call ⟨(.value (.func 19)), #[(.tmp 27)], #[64]⟩, none⟩,
           ⟨(some 8), .alloc 74, none⟩,
           ⟨none, .store 74 (.tmp 8) (.tmp 28), none⟩])
        (.seq (.reg [⟨(some 29), .load 74 (.tmp 7), none⟩,
            ⟨(some 30), .load 74 (.tmp 8), none⟩,
            ⟨(some 31), .call ⟨(.value (.func 20)), #[(.tmp 29), (.tmp 30)], #[74, 74]⟩, none⟩,
            ⟨(some 9), .assign (.tmp 31), none⟩])
         (.seq (.seq (.reg [⟨(some 32), .move (.tmp 9), none⟩,
              ⟨(some 33), .move (.tmp 6), none⟩,
              ⟨(some 34), .binOp .neq 4 (.tmp 32) (.tmp 33) 4, none⟩])
           (.cond (.tmp 34) (.seq (.reg [⟨(some 4), .assign (.const (.bool false)), none⟩])
             .ret)
            .skip))
          (.seq (.seq (.draw [⟨(some 35), .load 74 (.tmp 7), none⟩,
               ⟨(some 36), .load 64 (.tmp 2), none⟩,
               ⟨(some 37), .call ⟨(.value (.func 19)), #[(.tmp 36)], #[64]⟩, none⟩,
               ⟨(some 38), .call ⟨(.value (.func 21)), #[(.tmp 35), (.tmp 37)], #[74, 74]⟩, none⟩,
               ⟨(some 39), .unOp .not 4 (.tmp 38), none⟩] [[], [], [1], [0, 1, 2], [0, 1, 2, 3]])
            (.cond (.tmp 39) (.seq (.reg [⟨(some 4), .assign (.const (.bool false)), none⟩])
              .ret)
             .skip))
           (.seq (.seq (.draw [⟨(some 40), .load 74 (.tmp 8), none⟩,
                ⟨(some 41), .load 64 (.tmp 3), none⟩,
                ⟨(some 42), .call ⟨(.value (.func 19)), #[(.tmp 41)], #[64]⟩, none⟩,
                ⟨(some 43), .call ⟨(.value (.func 21)), #[(.tmp 40), (.tmp 42)], #[74, 74]⟩, none⟩,
                ⟨(some 44), .unOp .not 4 (.tmp 43), none⟩] [[], [], [1], [0, 1, 2], [0, 1, 2, 3]])
             (.cond (.tmp 44) (.seq (.reg [⟨(some 4), .assign (.const (.bool false)), none⟩])
               .ret)
              .skip))
            (.seq (.reg [⟨(some 4), .assign (.const (.bool true)), none⟩])
             .ret))))))))))))))
theorem s5 : slimF Try.f5 = some (c5, [.t 4], 45) := by kernel_rfl
theorem o5 : okF [(17, g17), (19, g19), (18, g18), (20, g20), (21, g21)] Try.f5 = true := by kernel_rfl
noncomputable def g5 : Fsem := sem2 enMsg enMsg (fun x y => okMsg x ∧ okMsg y) (fun n x y => .bool true)
@[go_sem] theorem g5_eq {n τ τ' : Nat} {x : Msg} {y : Msg} : g5 n [.agg [.int .i64 x.kind, .int .i64 x.from_, .int .i64 x.to_, .int .i64 x.pg.pool, .int .i64 x.pg.no, .int .i64 x.epoch, .str x.name, .int .i64 x.ver.epoch, .int .i64 x.ver.seq, .int .i64 x.firm.epoch, .int .i64 x.firm.seq, .int .i64 x.state.pg.pool, .int .i64 x.state.pg.no, .int .i64 x.state.seen, .int .i64 x.state.started, .int .i64 x.state.tail.epoch, .int .i64 x.state.tail.seq, .sl τ 5 (x.state.base.map (enHead.av τ)), .sl τ 4 (x.state.clients.map (enLst.av τ)), .sl τ 10 (x.state.log.map (enEntry.av τ)), .int .i64 x.state.firm.epoch, .int .i64 x.state.firm.seq, .sl τ 6 (x.state.chunks.map (enChunk.av τ)), .int .i64 x.entry.ver.epoch, .int .i64 x.entry.ver.seq, .int .i64 x.entry.prior.epoch, .int .i64 x.entry.prior.seq, .str x.entry.name, .bool x.entry.gone, .int .i64 x.entry.size, .int .i64 x.entry.sum, .int .i64 x.entry.req.client, .int .i64 x.entry.req.no, .str x.chunk.name, .int .i64 x.chunk.ver.epoch, .int .i64 x.chunk.ver.seq, .int .i64 x.chunk.pos, .int .i64 x.chunk.sum, .str x.chunk.bytes, .int .i64 x.op.kind, .int .i64 x.op.at_, .str x.op.bytes, .int .i64 x.req.client, .int .i64 x.req.no, .int .i64 x.code, .str x.body], .agg [.int .i64 y.kind, .int .i64 y.from_, .int .i64 y.to_, .int .i64 y.pg.pool, .int .i64 y.pg.no, .int .i64 y.epoch, .str y.name, .int .i64 y.ver.epoch, .int .i64 y.ver.seq, .int .i64 y.firm.epoch, .int .i64 y.firm.seq, .int .i64 y.state.pg.pool, .int .i64 y.state.pg.no, .int .i64 y.state.seen, .int .i64 y.state.started, .int .i64 y.state.tail.epoch, .int .i64 y.state.tail.seq, .sl τ' 5 (y.state.base.map (enHead.av τ')), .sl τ' 4 (y.state.clients.map (enLst.av τ')), .sl τ' 10 (y.state.log.map (enEntry.av τ')), .int .i64 y.state.firm.epoch, .int .i64 y.state.firm.seq, .sl τ' 6 (y.state.chunks.map (enChunk.av τ')), .int .i64 y.entry.ver.epoch, .int .i64 y.entry.ver.seq, .int .i64 y.entry.prior.epoch, .int .i64 y.entry.prior.seq, .str y.entry.name, .bool y.entry.gone, .int .i64 y.entry.size, .int .i64 y.entry.sum, .int .i64 y.entry.req.client, .int .i64 y.entry.req.no, .str y.chunk.name, .int .i64 y.chunk.ver.epoch, .int .i64 y.chunk.ver.seq, .int .i64 y.chunk.pos, .int .i64 y.chunk.sum, .str y.chunk.bytes, .int .i64 y.op.kind, .int .i64 y.op.at_, .str y.op.bytes, .int .i64 y.req.client, .int .i64 y.req.no, .int .i64 y.code, .str y.body]] = ⟨okMsg x ∧ okMsg y, .bool true⟩ := sem2_eq  (E := enMsg) (F := enMsg)
theorem p5 : Pure Try.prog 5 g5 := by
  refine sem2_pure fun τ τ' x y n h2 hpre => ?_
  have hT : Table Try.prog [(17, g17), (19, g19), (18, g18), (20, g20), (21, g21)] := (.cons p17 (.cons p19 (.cons p18 (.cons p20 (.cons p21 .nil)))))
  have hn0 : n ≠ 0 := by omega
  refine SatP.of_body hT hm Try.func5 s5 o5 h2 (by simp) ?_
  have hself : ∀ {α : Type} (x : α), eqB x x = true := fun x => eqB_iff.2 rfl
  have hz1 := ok_zzMsg hpre.1
  have hz2 := ok_zzMsg hpre.2
  generalize hta : (x.name.size + ((x.state.base.length + (x.state.base.map enHead.tot).sum) + x.state.clients.length + (x.state.log.length + (x.state.log.map enEntry.tot).sum) + (x.state.chunks.length + (x.state.chunks.map enChunk.tot).sum)) + x.entry.name.size + (x.chunk.name.size + x.chunk.bytes.size) + x.op.bytes.size + x.body.size) = ta
  generalize htb : (y.name.size + ((y.state.base.length + (y.state.base.map enHead.tot).sum) + y.state.clients.length + (y.state.log.length + (y.state.log.map enEntry.tot).sum) + (y.state.chunks.length + (y.state.chunks.map enChunk.tot).sum)) + y.entry.name.size + (y.chunk.name.size + y.chunk.bytes.size) + y.op.bytes.size + y.body.size) = tb
  rcases szR_spec 1048576 ta with ⟨h1, h3⟩ | ⟨h1, h3⟩
  · have h4 : (0 : Int) ≤ 1048576 - (ta : Nat) := by omega
    have h4' : 1048576 - ((ta : Nat) : Int) ≤ 4611686018427387904 := by omega
    have h5 : ta ≤ 1048576 := by omega
    have h6 : ¬ (1048576 - ((ta : Nat) : Int)) < 0 := by omega
    rcases szR_spec (1048576 - (ta : Int)) tb with ⟨k1, k3⟩ | ⟨k1, k3⟩
    · have k4 : (0 : Int) ≤ 1048576 - (ta : Int) - (tb : Nat) := by omega
      have k5 : tb ≤ 1048576 := by omega
      have k6 : ¬ (1048576 - (ta : Int) - ((tb : Nat) : Int)) < 0 := by omega
      simp (config := {contextual := true, maxSteps := 2000000, implicitDefEqProofs := false}) [c5, go_sem, bigB, hta, htb, h3, h4, h4', h5, h6, k3, k4, k5, k6, hn0, hself, hz1, hz2] <;> grind
    · simp (config := {contextual := true, maxSteps := 2000000, implicitDefEqProofs := false}) [c5, go_sem, bigB, hta, htb, h3, h4, h4', h5, h6, k3, hn0, hself, hz1, hz2] <;> grind
  · simp (config := {contextual := true, maxSteps := 2000000, implicitDefEqProofs := false}) [c5, go_sem, bigB, hta, h3, hz1, hz2] <;> grind
theorem sat_FnExactMsgSame (x0 x1 : Msg) (o0 : okMsg x0) (o1 : okMsg x1) : SatM Try.prog 2 5 [] [enMsg.av 1 x0, enMsg.av 1 x1] [] (.bool true) := by
  have h := p5 2 [enMsg.av 1 x0, enMsg.av 1 x1] (by omega)
  have he : g5 2 [enMsg.av 1 x0, enMsg.av 1 x1] = ⟨okMsg x0 ∧ okMsg x1, .bool true⟩ := g5_eq
  rw [he] at h
  exact h ⟨o0, o1⟩
end Go.Ve
