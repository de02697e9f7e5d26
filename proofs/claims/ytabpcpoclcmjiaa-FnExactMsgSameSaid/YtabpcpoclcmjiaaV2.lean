/- The laws' helpers of the seat: sizes, copies. No condition. -/
import Derived.Test.YtabpcpoclcmjiaaV1
namespace Go.Ve
open Go.Proofs Go.RowKit
set_option linter.unusedVariables false
set_option linter.unusedSimpArgs false
set_option maxRecDepth 10000
set_option maxHeartbeats 4000000
/- laws.toPg -/
noncomputable def g7 : Fsem := toSem enPg enPg
@[go_sem] theorem g7_eq {n : Nat} {x : Pg} : g7 n [.agg [.int .i64 x.pool, .int .i64 x.no]] = ⟨0 ≤ 1048576, .agg [.int .i64 x.pool, .int .i64 x.no]⟩ := by
  have h := toSem_eq (Ei := enPg) (Eo := enPg) (n := n) (τ := 0) (x := x)
  rw [tot_Pg] at h
  exact h
def c7 : SCode := (.seq (.reg [⟨(some 1), .box 23 (.tmp 0), none⟩,
   ⟨(some 2), .alloc 24, none⟩])
(.seq (.reg [⟨(some 3), .alloc 24, none⟩])
 (.seq (.reg [⟨(some 4), .fieldAddr 23 (.tmp 1) 0, none⟩,
     ⟨(some 5), .load 2 (.tmp 4), none⟩,
     ⟨(some 6), .fieldAddr 24 (.tmp 3) 0, none⟩,
     ⟨none, .store 2 (.tmp 6) (.tmp 5), none⟩])
  (.seq (.reg [⟨(some 7), .fieldAddr 23 (.tmp 1) 1, none⟩,
      ⟨(some 8), .load 2 (.tmp 7), none⟩,
      ⟨(some 9), .fieldAddr 24 (.tmp 3) 1, none⟩,
      ⟨none, .store 2 (.tmp 9) (.tmp 8), none⟩])
   (.seq (.reg [⟨(some 10), .load 24 (.tmp 3), none⟩,
       ⟨none, .store 24 (.tmp 2) (.tmp 10), none⟩])
    .ret)))))
theorem s7 : slimF Try.f7 = some (c7, [.c 2 24], 11) := by kernel_rfl
theorem o7 : okF [] Try.f7 = true := by kernel_rfl
theorem p7 : Pure Try.prog 7 g7 := by
  refine semOf_pure fun ⟨τ, x⟩ n h2 hb => ?_
  have hT : Table Try.prog [] := .nil
  refine SatP.of_body hT hm Try.func7 s7 o7 h2 (by simp) ?_
  have hb' : 0 ≤ 1048576 := by
    have := hb
    simp only [tot_Pg] at this
    exact this
  have hn0 : n ≠ 0 := by omega
  simp (config := {maxSteps := 4000000, implicitDefEqProofs := false}) [c7, go_sem, hn0]
  all_goals omega
/- laws.szHead -/
noncomputable def g77 : Fsem := szSemP enHead (fun x => zzHead x)
@[go_sem] theorem g77_eq {n : Nat} {x : Head} {b : Int} : g77 n [.agg [.str x.name, .int .i64 x.ver.epoch, .int .i64 x.ver.seq, .int .i64 x.size, .int .i64 x.sum], .int .i64 b] = ⟨0 ≤ b ∧ b ≤ bigB ∧ zzHead x, .int .i64 (szR b x.name.size)⟩ := by
  have h := szSemP_eq (E := enHead) (ok := fun x => zzHead x) (n := n) (τ := 0) (x := x) (b := b)
  rw [tot_Head] at h
  exact h
def c77 : SCode := (.seq (.reg [⟨(some 2), .box 125 (.tmp 0), none⟩,
   ⟨(some 4), .assign (.const (.int .i64 0)), none⟩])
(.seq (.reg [⟨(some 5), .move (.tmp 1), none⟩,
    ⟨(some 6), .fieldAddr 125 (.tmp 2) 0, none⟩,
    ⟨(some 7), .load 9 (.tmp 6), none⟩,
    ⟨(some 8), .call ⟨(.builtin .len), #[(.tmp 7)], #[9]⟩, none⟩,
    ⟨(some 9), .binOp .sub 3 (.tmp 5) (.tmp 8) 3, none⟩,
    ⟨(some 1), .assign (.tmp 9), none⟩])
 (.seq (.seq (.reg [⟨(some 10), .move (.tmp 1), none⟩,
      ⟨(some 11), .binOp .lss 3 (.tmp 10) (.const (.int .i64 0)) 3, none⟩])
   (.cond (.tmp 11) (.seq (.reg [⟨(some 4), .assign (.const (.int .i64 (-1))), none⟩])
     .ret)
    .skip))
  (.seq (.reg [⟨(some 12), .move (.tmp 1), none⟩,
      ⟨(some 4), .assign (.tmp 12), none⟩])
   .ret))))
theorem s77 : slimF Try.f77 = some (c77, [.t 4], 13) := by kernel_rfl
theorem o77 : okF [] Try.f77 = true := by kernel_rfl
theorem p77 : Pure Try.prog 77 g77 := by
  refine semOf_pure fun ⟨τ, x, b⟩ n h2 ⟨hb1, hb2, hz⟩ => ?_
  have hT : Table Try.prog [] := .nil
  refine SatP.of_body hT hm Try.func77 s77 o77 h2 (by simp) ?_
  replace hb1 : 0 ≤ b := hb1
  replace hb2 : b ≤ 4611686018427387904 := hb2
  replace hz : zzHead x := hz
  simp only [zzHead, strB] at hz
  have hw0 : IntKind.i64.wrap (b - (x.name.size : Int)) = b - (x.name.size : Int) := wrap_ok (by omega) (by omega)
  have := szR_spec b x.name.size
  simp (config := {contextual := true, maxSteps := 4000000, implicitDefEqProofs := false}) [c77, go_sem, tot_Head, bigB, hb1, hb2, hz, strB, hw0]
  omega
/- laws.szHeadS -/
noncomputable def g65 : Fsem := szSemP enHead.list (fun x => (∀ y ∈ x, zzHead y))
@[go_sem] theorem g65_eq {n τ : Nat} {x : List Head} {b : Int} : g65 n [.sl τ 5 (x.map (enHead.av τ)), .int .i64 b] = ⟨0 ≤ b ∧ b ≤ bigB ∧ (∀ y ∈ x, zzHead y), .int .i64 (szR b ((x.length + (x.map enHead.tot).sum)))⟩ := by
  have h := szSemP_eq (E := enHead.list) (ok := fun x => (∀ y ∈ x, zzHead y)) (n := n) (τ := τ) (x := x) (b := b)
  rw [tot_list] at h
  exact h
theorem s65 : slimF Try.f65 = some (szDeepC 3 49 125 77, [.t 4], 27) := by kernel_rfl
theorem o65 : okF [(77, g77)] Try.f65 = true := by kernel_rfl
theorem p65 : Pure Try.prog 65 g65 := szDeepP_ok hm Try.func65 s65 o65 (by omega) ty_49 fit_125 p77 (fun n τ x b => szSemP_eq)
/- laws.szLastS -/
noncomputable def g66 : Fsem := szSem enLst.list
@[go_sem] theorem g66_eq {n τ : Nat} {x : List Lst} {b : Int} : g66 n [.sl τ 4 (x.map (enLst.av τ)), .int .i64 b] = ⟨0 ≤ b ∧ b ≤ bigB, .int .i64 (szR b x.length)⟩ := by
  have h := szSem_eq (E := enLst.list) (n := n) (τ := τ) (x := x) (b := b)
  rw [tot_list, sum_flat (E := enLst) (fun x => tot_Lst), Nat.add_zero] at h
  exact h
theorem s66 : slimF Try.f66 = some (szFlatC 3 50, [.t 4], 12) := by kernel_rfl
theorem o66 : okF [] Try.f66 = true := by kernel_rfl
theorem p66 : Pure Try.prog 66 g66 := szFlat_ok hm Try.func66 s66 o66 (by omega) ty_50 (fun x => tot_Lst)
/- laws.szEntry -/
noncomputable def g44 : Fsem := szSemP enEntry (fun x => zzEntry x)
@[go_sem] theorem g44_eq {n : Nat} {x : Entry} {b : Int} : g44 n [.agg [.int .i64 x.ver.epoch, .int .i64 x.ver.seq, .int .i64 x.prior.epoch, .int .i64 x.prior.seq, .str x.name, .bool x.gone, .int .i64 x.size, .int .i64 x.sum, .int .i64 x.req.client, .int .i64 x.req.no], .int .i64 b] = ⟨0 ≤ b ∧ b ≤ bigB ∧ zzEntry x, .int .i64 (szR b x.name.size)⟩ := by
  have h := szSemP_eq (E := enEntry) (ok := fun x => zzEntry x) (n := n) (τ := 0) (x := x) (b := b)
  rw [tot_Entry] at h
  exact h
def c44 : SCode := (.seq (.reg [⟨(some 2), .box 58 (.tmp 0), none⟩,
   ⟨(some 4), .assign (.const (.int .i64 0)), none⟩])
(.seq (.reg [⟨(some 5), .move (.tmp 1), none⟩,
    ⟨(some 6), .fieldAddr 58 (.tmp 2) 2, none⟩,
    ⟨(some 7), .load 9 (.tmp 6), none⟩,
    ⟨(some 8), .call ⟨(.builtin .len), #[(.tmp 7)], #[9]⟩, none⟩,
    ⟨(some 9), .binOp .sub 3 (.tmp 5) (.tmp 8) 3, none⟩,
    ⟨(some 1), .assign (.tmp 9), none⟩])
 (.seq (.seq (.reg [⟨(some 10), .move (.tmp 1), none⟩,
      ⟨(some 11), .binOp .lss 3 (.tmp 10) (.const (.int .i64 0)) 3, none⟩])
   (.cond (.tmp 11) (.seq (.reg [⟨(some 4), .assign (.const (.int .i64 (-1))), none⟩])
     .ret)
    .skip))
  (.seq (.reg [⟨(some 12), .move (.tmp 1), none⟩,
      ⟨(some 4), .assign (.tmp 12), none⟩])
   .ret))))
theorem s44 : slimF Try.f44 = some (c44, [.t 4], 13) := by kernel_rfl
theorem o44 : okF [] Try.f44 = true := by kernel_rfl
theorem p44 : Pure Try.prog 44 g44 := by
  refine semOf_pure fun ⟨τ, x, b⟩ n h2 ⟨hb1, hb2, hz⟩ => ?_
  have hT : Table Try.prog [] := .nil
  refine SatP.of_body hT hm Try.func44 s44 o44 h2 (by simp) ?_
  replace hb1 : 0 ≤ b := hb1
  replace hb2 : b ≤ 4611686018427387904 := hb2
  replace hz : zzEntry x := hz
  simp only [zzEntry, strB] at hz
  have hw0 : IntKind.i64.wrap (b - (x.name.size : Int)) = b - (x.name.size : Int) := wrap_ok (by omega) (by omega)
  have := szR_spec b x.name.size
  simp (config := {contextual := true, maxSteps := 4000000, implicitDefEqProofs := false}) [c44, go_sem, tot_Entry, bigB, hb1, hb2, hz, strB, hw0]
  omega
/- laws.szEntryS -/
noncomputable def g67 : Fsem := szSemP enEntry.list (fun x => (∀ y ∈ x, zzEntry y))
@[go_sem] theorem g67_eq {n τ : Nat} {x : List Entry} {b : Int} : g67 n [.sl τ 10 (x.map (enEntry.av τ)), .int .i64 b] = ⟨0 ≤ b ∧ b ≤ bigB ∧ (∀ y ∈ x, zzEntry y), .int .i64 (szR b ((x.length + (x.map enEntry.tot).sum)))⟩ := by
  have h := szSemP_eq (E := enEntry.list) (ok := fun x => (∀ y ∈ x, zzEntry y)) (n := n) (τ := τ) (x := x) (b := b)
  rw [tot_list] at h
  exact h
theorem s67 : slimF Try.f67 = some (szDeepC 3 51 58 44, [.t 4], 27) := by kernel_rfl
theorem o67 : okF [(44, g44)] Try.f67 = true := by kernel_rfl
theorem p67 : Pure Try.prog 67 g67 := szDeepP_ok hm Try.func67 s67 o67 (by omega) ty_51 fit_58 p44 (fun n τ x b => szSemP_eq)
/- laws.szChunk -/
noncomputable def g45 : Fsem := szSemP enChunk (fun x => zzChunk x)
@[go_sem] theorem g45_eq {n : Nat} {x : Chunk} {b : Int} : g45 n [.agg [.str x.name, .int .i64 x.ver.epoch, .int .i64 x.ver.seq, .int .i64 x.pos, .int .i64 x.sum, .str x.bytes], .int .i64 b] = ⟨0 ≤ b ∧ b ≤ bigB ∧ zzChunk x, .int .i64 (szR b ((x.name.size + x.bytes.size)))⟩ := by
  have h := szSemP_eq (E := enChunk) (ok := fun x => zzChunk x) (n := n) (τ := 0) (x := x) (b := b)
  rw [tot_Chunk] at h
  exact h
def c45 : SCode := (.seq (.reg [⟨(some 2), .box 60 (.tmp 0), none⟩,
   ⟨(some 4), .assign (.const (.int .i64 0)), none⟩])
(.seq (.reg [⟨(some 5), .move (.tmp 1), none⟩,
    ⟨(some 6), .fieldAddr 60 (.tmp 2) 0, none⟩,
    ⟨(some 7), .load 9 (.tmp 6), none⟩,
    ⟨(some 8), .call ⟨(.builtin .len), #[(.tmp 7)], #[9]⟩, none⟩,
    ⟨(some 9), .binOp .sub 3 (.tmp 5) (.tmp 8) 3, none⟩,
    ⟨(some 1), .assign (.tmp 9), none⟩])
 (.seq (.seq (.reg [⟨(some 10), .move (.tmp 1), none⟩,
      ⟨(some 11), .binOp .lss 3 (.tmp 10) (.const (.int .i64 0)) 3, none⟩])
   (.cond (.tmp 11) (.seq (.reg [⟨(some 4), .assign (.const (.int .i64 (-1))), none⟩])
     .ret)
    .skip))
  (.seq (.reg [⟨(some 12), .move (.tmp 1), none⟩,
      ⟨(some 13), .fieldAddr 60 (.tmp 2) 4, none⟩,
      ⟨(some 14), .load 9 (.tmp 13), none⟩,
      ⟨(some 15), .call ⟨(.builtin .len), #[(.tmp 14)], #[9]⟩, none⟩,
      ⟨(some 16), .binOp .sub 3 (.tmp 12) (.tmp 15) 3, none⟩,
      ⟨(some 1), .assign (.tmp 16), none⟩])
   (.seq (.seq (.reg [⟨(some 17), .move (.tmp 1), none⟩,
        ⟨(some 18), .binOp .lss 3 (.tmp 17) (.const (.int .i64 0)) 3, none⟩])
     (.cond (.tmp 18) (.seq (.reg [⟨(some 4), .assign (.const (.int .i64 (-1))), none⟩])
       .ret)
      .skip))
    (.seq (.reg [⟨(some 19), .move (.tmp 1), none⟩,
        ⟨(some 4), .assign (.tmp 19), none⟩])
     .ret))))))
theorem s45 : slimF Try.f45 = some (c45, [.t 4], 20) := by kernel_rfl
theorem o45 : okF [] Try.f45 = true := by kernel_rfl
theorem p45 : Pure Try.prog 45 g45 := by
  refine semOf_pure fun ⟨τ, x, b⟩ n h2 ⟨hb1, hb2, hz⟩ => ?_
  have hT : Table Try.prog [] := .nil
  refine SatP.of_body hT hm Try.func45 s45 o45 h2 (by simp) ?_
  replace hb1 : 0 ≤ b := hb1
  replace hb2 : b ≤ 4611686018427387904 := hb2
  replace hz : zzChunk x := hz
  simp only [zzChunk, strB] at hz
  have hw0 : IntKind.i64.wrap (b - (x.name.size : Int)) = b - (x.name.size : Int) := wrap_ok (by omega) (by omega)
  have hw1 : IntKind.i64.wrap ((b - (x.name.size : Int)) - (x.bytes.size : Int)) = (b - (x.name.size : Int)) - (x.bytes.size : Int) := wrap_ok (by omega) (by omega)
  have := szR_spec b ((x.name.size + x.bytes.size))
  simp (config := {contextual := true, maxSteps := 4000000, implicitDefEqProofs := false}) [c45, go_sem, tot_Chunk, bigB, hb1, hb2, hz, strB, hw0, hw1]
  omega
/- laws.szChunkS -/
noncomputable def g68 : Fsem := szSemP enChunk.list (fun x => (∀ y ∈ x, zzChunk y))
@[go_sem] theorem g68_eq {n τ : Nat} {x : List Chunk} {b : Int} : g68 n [.sl τ 6 (x.map (enChunk.av τ)), .int .i64 b] = ⟨0 ≤ b ∧ b ≤ bigB ∧ (∀ y ∈ x, zzChunk y), .int .i64 (szR b ((x.length + (x.map enChunk.tot).sum)))⟩ := by
  have h := szSemP_eq (E := enChunk.list) (ok := fun x => (∀ y ∈ x, zzChunk y)) (n := n) (τ := τ) (x := x) (b := b)
  rw [tot_list] at h
  exact h
theorem s68 : slimF Try.f68 = some (szDeepC 3 52 60 45, [.t 4], 27) := by kernel_rfl
theorem o68 : okF [(45, g45)] Try.f68 = true := by kernel_rfl
theorem p68 : Pure Try.prog 68 g68 := szDeepP_ok hm Try.func68 s68 o68 (by omega) ty_52 fit_60 p45 (fun n τ x b => szSemP_eq)
/- laws.szPgState -/
noncomputable def g43 : Fsem := szSemP enPgSt (fun x => zzPgSt x)
@[go_sem] theorem g43_eq {n τ : Nat} {x : PgSt} {b : Int} : g43 n [.agg [.int .i64 x.pg.pool, .int .i64 x.pg.no, .int .i64 x.seen, .int .i64 x.started, .int .i64 x.tail.epoch, .int .i64 x.tail.seq, .sl τ 5 (x.base.map (enHead.av τ)), .sl τ 4 (x.clients.map (enLst.av τ)), .sl τ 10 (x.log.map (enEntry.av τ)), .int .i64 x.firm.epoch, .int .i64 x.firm.seq, .sl τ 6 (x.chunks.map (enChunk.av τ))], .int .i64 b] = ⟨0 ≤ b ∧ b ≤ bigB ∧ zzPgSt x, .int .i64 (szR b (((x.base.length + (x.base.map enHead.tot).sum) + x.clients.length + (x.log.length + (x.log.map enEntry.tot).sum) + (x.chunks.length + (x.chunks.map enChunk.tot).sum))))⟩ := by
  have h := szSemP_eq (E := enPgSt) (ok := fun x => zzPgSt x) (n := n) (τ := τ) (x := x) (b := b)
  rw [tot_PgSt] at h
  exact h
def c43 : SCode := (.seq (.reg [⟨(some 2), .box 54 (.tmp 0), none⟩,
   ⟨(some 4), .assign (.const (.int .i64 0)), none⟩])
(.seq (.reg [⟨(some 5), .fieldAddr 54 (.tmp 2) 4, none⟩,
    ⟨(some 6), .load 49 (.tmp 5), none⟩,
    ⟨(some 7), .move (.tmp 1), none⟩,
    ⟨(some 8), .call ⟨(.value (.func 65)), #[(.tmp 6), (.tmp 7)], #[49, 3]⟩, none⟩,
    ⟨(some 1), .assign (.tmp 8), none⟩])
 (.seq (.seq (.reg [⟨(some 9), .move (.tmp 1), none⟩,
      ⟨(some 10), .binOp .lss 3 (.tmp 9) (.const (.int .i64 0)) 3, none⟩])
   (.cond (.tmp 10) (.seq (.reg [⟨(some 4), .assign (.const (.int .i64 (-1))), none⟩])
     .ret)
    .skip))
  (.seq (.reg [⟨(some 11), .fieldAddr 54 (.tmp 2) 5, none⟩,
      ⟨(some 12), .load 50 (.tmp 11), none⟩,
      ⟨(some 13), .move (.tmp 1), none⟩,
      ⟨(some 14), .call ⟨(.value (.func 66)), #[(.tmp 12), (.tmp 13)], #[50, 3]⟩, none⟩,
      ⟨(some 1), .assign (.tmp 14), none⟩])
   (.seq (.seq (.reg [⟨(some 15), .move (.tmp 1), none⟩,
        ⟨(some 16), .binOp .lss 3 (.tmp 15) (.const (.int .i64 0)) 3, none⟩])
     (.cond (.tmp 16) (.seq (.reg [⟨(some 4), .assign (.const (.int .i64 (-1))), none⟩])
       .ret)
      .skip))
    (.seq (.reg [⟨(some 17), .fieldAddr 54 (.tmp 2) 6, none⟩,
        ⟨(some 18), .load 51 (.tmp 17), none⟩,
        ⟨(some 19), .move (.tmp 1), none⟩,
        ⟨(some 20), .call ⟨(.value (.func 67)), #[(.tmp 18), (.tmp 19)], #[51, 3]⟩, none⟩,
        ⟨(some 1), .assign (.tmp 20), none⟩])
     (.seq (.seq (.reg [⟨(some 21), .move (.tmp 1), none⟩,
          ⟨(some 22), .binOp .lss 3 (.tmp 21) (.const (.int .i64 0)) 3, none⟩])
       (.cond (.tmp 22) (.seq (.reg [⟨(some 4), .assign (.const (.int .i64 (-1))), none⟩])
         .ret)
        .skip))
      (.seq (.reg [⟨(some 23), .fieldAddr 54 (.tmp 2) 8, none⟩,
          ⟨(some 24), .load 52 (.tmp 23), none⟩,
          ⟨(some 25), .move (.tmp 1), none⟩,
          ⟨(some 26), .call ⟨(.value (.func 68)), #[(.tmp 24), (.tmp 25)], #[52, 3]⟩, none⟩,
          ⟨(some 1), .assign (.tmp 26), none⟩])
       (.seq (.seq (.reg [⟨(some 27), .move (.tmp 1), none⟩,
            ⟨(some 28), .binOp .lss 3 (.tmp 27) (.const (.int .i64 0)) 3, none⟩])
         (.cond (.tmp 28) (.seq (.reg [⟨(some 4), .assign (.const (.int .i64 (-1))), none⟩])
           .ret)
          .skip))
        (.seq (.reg [⟨(some 29), .move (.tmp 1), none⟩,
            ⟨(some 4), .assign (.tmp 29), none⟩])
         .ret))))))))))
theorem s43 : slimF Try.f43 = some (c43, [.t 4], 30) := by kernel_rfl
theorem o43 : okF [(65, g65), (66, g66), (67, g67), (68, g68)] Try.f43 = true := by kernel_rfl
theorem p43 : Pure Try.prog 43 g43 := by
  refine semOf_pure fun ⟨τ, x, b⟩ n h2 ⟨hb1, hb2, hz⟩ => ?_
  have hT : Table Try.prog [(65, g65), (66, g66), (67, g67), (68, g68)] := (.cons p65 (.cons p66 (.cons p67 (.cons p68 .nil))))
  refine SatP.of_body hT hm Try.func43 s43 o43 h2 (by simp) ?_
  replace hb1 : 0 ≤ b := hb1
  replace hb2 : b ≤ 4611686018427387904 := hb2
  replace hz : zzPgSt x := hz
  simp only [zzPgSt, strB] at hz
  have := szR_spec b ((x.base.length + (x.base.map enHead.tot).sum))
  have := szR_spec (szR b ((x.base.length + (x.base.map enHead.tot).sum))) x.clients.length
  have := szR_spec (szR (szR b ((x.base.length + (x.base.map enHead.tot).sum))) x.clients.length) ((x.log.length + (x.log.map enEntry.tot).sum))
  have := szR_spec (szR (szR (szR b ((x.base.length + (x.base.map enHead.tot).sum))) x.clients.length) ((x.log.length + (x.log.map enEntry.tot).sum))) ((x.chunks.length + (x.chunks.map enChunk.tot).sum))
  have := szR_spec b (((x.base.length + (x.base.map enHead.tot).sum) + x.clients.length + (x.log.length + (x.log.map enEntry.tot).sum) + (x.chunks.length + (x.chunks.map enChunk.tot).sum)))
  simp (config := {contextual := true, maxSteps := 4000000, implicitDefEqProofs := false}) [c43, go_sem, tot_PgSt, bigB, hb1, hb2, hz, strB]
  omega
/- laws.szPgStateS -/
noncomputable def g38 : Fsem := szSemP enPgSt.list (fun x => (∀ y ∈ x, zzPgSt y))
@[go_sem] theorem g38_eq {n τ : Nat} {x : List PgSt} {b : Int} : g38 n [.sl τ 12 (x.map (enPgSt.av τ)), .int .i64 b] = ⟨0 ≤ b ∧ b ≤ bigB ∧ (∀ y ∈ x, zzPgSt y), .int .i64 (szR b ((x.length + (x.map enPgSt.tot).sum)))⟩ := by
  have h := szSemP_eq (E := enPgSt.list) (ok := fun x => (∀ y ∈ x, zzPgSt y)) (n := n) (τ := τ) (x := x) (b := b)
  rw [tot_list] at h
  exact h
theorem s38 : slimF Try.f38 = some (szDeepC 3 38 54 43, [.t 4], 27) := by kernel_rfl
theorem o38 : okF [(43, g43)] Try.f38 = true := by kernel_rfl
theorem p38 : Pure Try.prog 38 g38 := szDeepP_ok hm Try.func38 s38 o38 (by omega) ty_38 fit_54 p43 (fun n τ x b => szSemP_eq)
/- laws.szStore -/
noncomputable def g12 : Fsem := szSemP enStore (fun x => zzStore x)
@[go_sem] theorem g12_eq {n τ : Nat} {x : Store} {b : Int} : g12 n [.agg [.sl τ 12 (x.live.map (enPgSt.av τ)), .sl τ 12 (x.kept.map (enPgSt.av τ))], .int .i64 b] = ⟨0 ≤ b ∧ b ≤ bigB ∧ zzStore x, .int .i64 (szR b (((x.live.length + (x.live.map enPgSt.tot).sum) + (x.kept.length + (x.kept.map enPgSt.tot).sum))))⟩ := by
  have h := szSemP_eq (E := enStore) (ok := fun x => zzStore x) (n := n) (τ := τ) (x := x) (b := b)
  rw [tot_Store] at h
  exact h
def c12 : SCode := (.seq (.reg [⟨(some 2), .box 40 (.tmp 0), none⟩,
   ⟨(some 4), .assign (.const (.int .i64 0)), none⟩])
(.seq (.reg [⟨(some 5), .fieldAddr 40 (.tmp 2) 0, none⟩,
    ⟨(some 6), .load 38 (.tmp 5), none⟩,
    ⟨(some 7), .move (.tmp 1), none⟩,
    ⟨(some 8), .call ⟨(.value (.func 38)), #[(.tmp 6), (.tmp 7)], #[38, 3]⟩, none⟩,
    ⟨(some 1), .assign (.tmp 8), none⟩])
 (.seq (.seq (.reg [⟨(some 9), .move (.tmp 1), none⟩,
      ⟨(some 10), .binOp .lss 3 (.tmp 9) (.const (.int .i64 0)) 3, none⟩])
   (.cond (.tmp 10) (.seq (.reg [⟨(some 4), .assign (.const (.int .i64 (-1))), none⟩])
     .ret)
    .skip))
  (.seq (.reg [⟨(some 11), .fieldAddr 40 (.tmp 2) 1, none⟩,
      ⟨(some 12), .load 38 (.tmp 11), none⟩,
      ⟨(some 13), .move (.tmp 1), none⟩,
      ⟨(some 14), .call ⟨(.value (.func 38)), #[(.tmp 12), (.tmp 13)], #[38, 3]⟩, none⟩,
      ⟨(some 1), .assign (.tmp 14), none⟩])
   (.seq (.seq (.reg [⟨(some 15), .move (.tmp 1), none⟩,
        ⟨(some 16), .binOp .lss 3 (.tmp 15) (.const (.int .i64 0)) 3, none⟩])
     (.cond (.tmp 16) (.seq (.reg [⟨(some 4), .assign (.const (.int .i64 (-1))), none⟩])
       .ret)
      .skip))
    (.seq (.reg [⟨(some 17), .move (.tmp 1), none⟩,
        ⟨(some 4), .assign (.tmp 17), none⟩])
     .ret))))))
theorem s12 : slimF Try.f12 = some (c12, [.t 4], 18) := by kernel_rfl
theorem o12 : okF [(38, g38)] Try.f12 = true := by kernel_rfl
theorem p12 : Pure Try.prog 12 g12 := by
  refine semOf_pure fun ⟨τ, x, b⟩ n h2 ⟨hb1, hb2, hz⟩ => ?_
  have hT : Table Try.prog [(38, g38)] := (.cons p38 .nil)
  refine SatP.of_body hT hm Try.func12 s12 o12 h2 (by simp) ?_
  replace hb1 : 0 ≤ b := hb1
  replace hb2 : b ≤ 4611686018427387904 := hb2
  replace hz : zzStore x := hz
  simp only [zzStore, strB] at hz
  have := szR_spec b ((x.live.length + (x.live.map enPgSt.tot).sum))
  have := szR_spec (szR b ((x.live.length + (x.live.map enPgSt.tot).sum))) ((x.kept.length + (x.kept.map enPgSt.tot).sum))
  have := szR_spec b (((x.live.length + (x.live.map enPgSt.tot).sum) + (x.kept.length + (x.kept.map enPgSt.tot).sum)))
  simp (config := {contextual := true, maxSteps := 4000000, implicitDefEqProofs := false}) [c12, go_sem, tot_Store, bigB, hb1, hb2, hz, strB]
  omega
/- laws.toVer -/
noncomputable def g48 : Fsem := toSem enVer enVer
@[go_sem] theorem g48_eq {n : Nat} {x : Ver} : g48 n [.agg [.int .i64 x.epoch, .int .i64 x.seq]] = ⟨0 ≤ 1048576, .agg [.int .i64 x.epoch, .int .i64 x.seq]⟩ := by
  have h := toSem_eq (Ei := enVer) (Eo := enVer) (n := n) (τ := 0) (x := x)
  rw [tot_Ver] at h
  exact h
def c48 : SCode := (.seq (.reg [⟨(some 1), .box 48 (.tmp 0), none⟩,
   ⟨(some 2), .alloc 26, none⟩])
(.seq (.reg [⟨(some 3), .alloc 26, none⟩])
 (.seq (.reg [⟨(some 4), .fieldAddr 48 (.tmp 1) 0, none⟩,
     ⟨(some 5), .load 2 (.tmp 4), none⟩,
     ⟨(some 6), .fieldAddr 26 (.tmp 3) 0, none⟩,
     ⟨none, .store 2 (.tmp 6) (.tmp 5), none⟩])
  (.seq (.reg [⟨(some 7), .fieldAddr 48 (.tmp 1) 1, none⟩,
      ⟨(some 8), .load 2 (.tmp 7), none⟩,
      ⟨(some 9), .fieldAddr 26 (.tmp 3) 1, none⟩,
      ⟨none, .store 2 (.tmp 9) (.tmp 8), none⟩])
   (.seq (.reg [⟨(some 10), .load 26 (.tmp 3), none⟩,
       ⟨none, .store 26 (.tmp 2) (.tmp 10), none⟩])
    .ret)))))
theorem s48 : slimF Try.f48 = some (c48, [.c 2 26], 11) := by kernel_rfl
theorem o48 : okF [] Try.f48 = true := by kernel_rfl
theorem p48 : Pure Try.prog 48 g48 := by
  refine semOf_pure fun ⟨τ, x⟩ n h2 hb => ?_
  have hT : Table Try.prog [] := .nil
  refine SatP.of_body hT hm Try.func48 s48 o48 h2 (by simp) ?_
  have hb' : 0 ≤ 1048576 := by
    have := hb
    simp only [tot_Ver] at this
    exact this
  have hn0 : n ≠ 0 := by omega
  simp (config := {maxSteps := 4000000, implicitDefEqProofs := false}) [c48, go_sem, hn0]
  all_goals omega
/- laws.toHead -/
noncomputable def g78 : Fsem := toSem enHead enHead
@[go_sem] theorem g78_eq {n : Nat} {x : Head} : g78 n [.agg [.str x.name, .int .i64 x.ver.epoch, .int .i64 x.ver.seq, .int .i64 x.size, .int .i64 x.sum]] = ⟨x.name.size ≤ 1048576, .agg [.str x.name, .int .i64 x.ver.epoch, .int .i64 x.ver.seq, .int .i64 x.size, .int .i64 x.sum]⟩ := by
  have h := toSem_eq (Ei := enHead) (Eo := enHead) (n := n) (τ := 0) (x := x)
  rw [tot_Head] at h
  exact h
def c78 : SCode := (.seq (.reg [⟨(some 1), .box 125 (.tmp 0), none⟩,
   ⟨(some 2), .alloc 108, none⟩])
(.seq (.reg [⟨(some 3), .alloc 108, none⟩])
 (.seq (.reg [⟨(some 4), .fieldAddr 125 (.tmp 1) 0, none⟩,
     ⟨(some 5), .load 9 (.tmp 4), none⟩,
     ⟨(some 6), .fieldAddr 108 (.tmp 3) 0, none⟩,
     ⟨none, .store 9 (.tmp 6) (.tmp 5), none⟩])
  (.seq (.reg [⟨(some 7), .fieldAddr 125 (.tmp 1) 1, none⟩,
      ⟨(some 8), .load 48 (.tmp 7), none⟩,
      ⟨(some 9), .call ⟨(.value (.func 48)), #[(.tmp 8)], #[48]⟩, none⟩,
      ⟨(some 10), .fieldAddr 108 (.tmp 3) 1, none⟩,
      ⟨none, .store 26 (.tmp 10) (.tmp 9), none⟩])
   (.seq (.reg [⟨(some 11), .fieldAddr 125 (.tmp 1) 2, none⟩,
       ⟨(some 12), .load 2 (.tmp 11), none⟩,
       ⟨(some 13), .fieldAddr 108 (.tmp 3) 2, none⟩,
       ⟨none, .store 2 (.tmp 13) (.tmp 12), none⟩])
    (.seq (.reg [⟨(some 14), .fieldAddr 125 (.tmp 1) 3, none⟩,
        ⟨(some 15), .load 2 (.tmp 14), none⟩,
        ⟨(some 16), .fieldAddr 108 (.tmp 3) 3, none⟩,
        ⟨none, .store 2 (.tmp 16) (.tmp 15), none⟩])
     (.seq (.reg [⟨(some 17), .load 108 (.tmp 3), none⟩,
         ⟨none, .store 108 (.tmp 2) (.tmp 17), none⟩])
      .ret)))))))
theorem s78 : slimF Try.f78 = some (c78, [.c 2 108], 18) := by kernel_rfl
theorem o78 : okF [(48, g48)] Try.f78 = true := by kernel_rfl
theorem p78 : Pure Try.prog 78 g78 := by
  refine semOf_pure fun ⟨τ, x⟩ n h2 hb => ?_
  have hT : Table Try.prog [(48, g48)] := (.cons p48 .nil)
  refine SatP.of_body hT hm Try.func78 s78 o78 h2 (by simp) ?_
  have hb' : x.name.size ≤ 1048576 := by
    have := hb
    simp only [tot_Head] at this
    exact this
  have hn0 : n ≠ 0 := by omega
  simp (config := {maxSteps := 4000000, implicitDefEqProofs := false}) [c78, go_sem, hn0]
  all_goals omega
/- laws.toHeadS -/
noncomputable def g69 : Fsem := toSem enHead.list enHead.list
@[go_sem] theorem g69_eq {n τ : Nat} {x : List Head} : g69 n [.sl τ 5 (x.map (enHead.av τ))] = ⟨(x.length + (x.map enHead.tot).sum) ≤ 1048576, .sl n 5 (x.map (enHead.av n))⟩ := by
  have h := toSem_eq (Ei := enHead.list) (Eo := enHead.list) (n := n) (τ := τ) (x := x)
  rw [tot_list] at h
  exact h
theorem s69 : slimF Try.f69 = some (toDeepC 3 49 27 125 108 78, [.t 2], 23) := by kernel_rfl
theorem o69 : okF [(78, g78)] Try.f69 = true := by kernel_rfl
theorem p69 : Pure Try.prog 69 g69 := toDeep_ok hm Try.func69 s69 o69 (by omega) ty_49 ty_27 fit_125 fitz_108 p78 (fun n τ x => toSem_eq)
/- laws.toLast -/
noncomputable def g79 : Fsem := toSem enLst enLst
@[go_sem] theorem g79_eq {n : Nat} {x : Lst} : g79 n [.agg [.int .i64 x.client, .int .i64 x.no, .int .i64 x.ver.epoch, .int .i64 x.ver.seq]] = ⟨0 ≤ 1048576, .agg [.int .i64 x.client, .int .i64 x.no, .int .i64 x.ver.epoch, .int .i64 x.ver.seq]⟩ := by
  have h := toSem_eq (Ei := enLst) (Eo := enLst) (n := n) (τ := 0) (x := x)
  rw [tot_Lst] at h
  exact h
def c79 : SCode := (.seq (.reg [⟨(some 1), .box 129 (.tmp 0), none⟩,
   ⟨(some 2), .alloc 111, none⟩])
(.seq (.reg [⟨(some 3), .alloc 111, none⟩])
 (.seq (.reg [⟨(some 4), .fieldAddr 129 (.tmp 1) 0, none⟩,
     ⟨(some 5), .load 2 (.tmp 4), none⟩,
     ⟨(some 6), .fieldAddr 111 (.tmp 3) 0, none⟩,
     ⟨none, .store 2 (.tmp 6) (.tmp 5), none⟩])
  (.seq (.reg [⟨(some 7), .fieldAddr 129 (.tmp 1) 1, none⟩,
      ⟨(some 8), .load 2 (.tmp 7), none⟩,
      ⟨(some 9), .fieldAddr 111 (.tmp 3) 1, none⟩,
      ⟨none, .store 2 (.tmp 9) (.tmp 8), none⟩])
   (.seq (.reg [⟨(some 10), .fieldAddr 129 (.tmp 1) 2, none⟩,
       ⟨(some 11), .load 48 (.tmp 10), none⟩,
       ⟨(some 12), .call ⟨(.value (.func 48)), #[(.tmp 11)], #[48]⟩, none⟩,
       ⟨(some 13), .fieldAddr 111 (.tmp 3) 2, none⟩,
       ⟨none, .store 26 (.tmp 13) (.tmp 12), none⟩])
    (.seq (.reg [⟨(some 14), .load 111 (.tmp 3), none⟩,
        ⟨none, .store 111 (.tmp 2) (.tmp 14), none⟩])
     .ret))))))
theorem s79 : slimF Try.f79 = some (c79, [.c 2 111], 15) := by kernel_rfl
theorem o79 : okF [(48, g48)] Try.f79 = true := by kernel_rfl
theorem p79 : Pure Try.prog 79 g79 := by
  refine semOf_pure fun ⟨τ, x⟩ n h2 hb => ?_
  have hT : Table Try.prog [(48, g48)] := (.cons p48 .nil)
  refine SatP.of_body hT hm Try.func79 s79 o79 h2 (by simp) ?_
  have hb' : 0 ≤ 1048576 := by
    have := hb
    simp only [tot_Lst] at this
    exact this
  have hn0 : n ≠ 0 := by omega
  simp (config := {maxSteps := 4000000, implicitDefEqProofs := false}) [c79, go_sem, hn0]
  all_goals omega
/- laws.toLastS -/
noncomputable def g70 : Fsem := toSem enLst.list enLst.list
@[go_sem] theorem g70_eq {n τ : Nat} {x : List Lst} : g70 n [.sl τ 4 (x.map (enLst.av τ))] = ⟨x.length ≤ 1048576, .sl n 4 (x.map (enLst.av n))⟩ := by
  have h := toSem_eq (Ei := enLst.list) (Eo := enLst.list) (n := n) (τ := τ) (x := x)
  rw [tot_list, sum_flat (E := enLst) (fun x => tot_Lst), Nat.add_zero] at h
  exact h
theorem s70 : slimF Try.f70 = some (toDeepC 3 50 28 129 111 79, [.t 2], 23) := by kernel_rfl
theorem o70 : okF [(79, g79)] Try.f70 = true := by kernel_rfl
theorem p70 : Pure Try.prog 70 g70 := toDeep_ok hm Try.func70 s70 o70 (by omega) ty_50 ty_28 fit_129 fitz_111 p79 (fun n τ x => toSem_eq)
/- laws.toReq -/
noncomputable def g53 : Fsem := toSem enReq enReq
@[go_sem] theorem g53_eq {n : Nat} {x : Req} : g53 n [.agg [.int .i64 x.client, .int .i64 x.no]] = ⟨0 ≤ 1048576, .agg [.int .i64 x.client, .int .i64 x.no]⟩ := by
  have h := toSem_eq (Ei := enReq) (Eo := enReq) (n := n) (τ := 0) (x := x)
  rw [tot_Req] at h
  exact h
def c53 : SCode := (.seq (.reg [⟨(some 1), .box 56 (.tmp 0), none⟩,
   ⟨(some 2), .alloc 67, none⟩])
(.seq (.reg [⟨(some 3), .alloc 67, none⟩])
 (.seq (.reg [⟨(some 4), .fieldAddr 56 (.tmp 1) 0, none⟩,
     ⟨(some 5), .load 2 (.tmp 4), none⟩,
     ⟨(some 6), .fieldAddr 67 (.tmp 3) 0, none⟩,
     ⟨none, .store 2 (.tmp 6) (.tmp 5), none⟩])
  (.seq (.reg [⟨(some 7), .fieldAddr 56 (.tmp 1) 1, none⟩,
      ⟨(some 8), .load 2 (.tmp 7), none⟩,
      ⟨(some 9), .fieldAddr 67 (.tmp 3) 1, none⟩,
      ⟨none, .store 2 (.tmp 9) (.tmp 8), none⟩])
   (.seq (.reg [⟨(some 10), .load 67 (.tmp 3), none⟩,
       ⟨none, .store 67 (.tmp 2) (.tmp 10), none⟩])
    .ret)))))
theorem s53 : slimF Try.f53 = some (c53, [.c 2 67], 11) := by kernel_rfl
theorem o53 : okF [] Try.f53 = true := by kernel_rfl
theorem p53 : Pure Try.prog 53 g53 := by
  refine semOf_pure fun ⟨τ, x⟩ n h2 hb => ?_
  have hT : Table Try.prog [] := .nil
  refine SatP.of_body hT hm Try.func53 s53 o53 h2 (by simp) ?_
  have hb' : 0 ≤ 1048576 := by
    have := hb
    simp only [tot_Req] at this
    exact this
  have hn0 : n ≠ 0 := by omega
  simp (config := {maxSteps := 4000000, implicitDefEqProofs := false}) [c53, go_sem, hn0]
  all_goals omega
/- laws.toEntry -/
noncomputable def g50 : Fsem := toSem enEntry enEntry
@[go_sem] theorem g50_eq {n : Nat} {x : Entry} : g50 n [.agg [.int .i64 x.ver.epoch, .int .i64 x.ver.seq, .int .i64 x.prior.epoch, .int .i64 x.prior.seq, .str x.name, .bool x.gone, .int .i64 x.size, .int .i64 x.sum, .int .i64 x.req.client, .int .i64 x.req.no]] = ⟨x.name.size ≤ 1048576, .agg [.int .i64 x.ver.epoch, .int .i64 x.ver.seq, .int .i64 x.prior.epoch, .int .i64 x.prior.seq, .str x.name, .bool x.gone, .int .i64 x.size, .int .i64 x.sum, .int .i64 x.req.client, .int .i64 x.req.no]⟩ := by
  have h := toSem_eq (Ei := enEntry) (Eo := enEntry) (n := n) (τ := 0) (x := x)
  rw [tot_Entry] at h
  exact h
def c50 : SCode := (.seq (.reg [⟨(some 1), .box 58 (.tmp 0), none⟩,
   ⟨(some 2), .alloc 69, none⟩])
(.seq (.reg [⟨(some 3), .alloc 69, none⟩])
 (.seq (.reg [⟨(some 4), .fieldAddr 58 (.tmp 1) 0, none⟩,
     ⟨(some 5), .load 48 (.tmp 4), none⟩,
     ⟨(some 6), .call ⟨(.value (.func 48)), #[(.tmp 5)], #[48]⟩, none⟩,
     ⟨(some 7), .fieldAddr 69 (.tmp 3) 0, none⟩,
     ⟨none, .store 26 (.tmp 7) (.tmp 6), none⟩])
  (.seq (.reg [⟨(some 8), .fieldAddr 58 (.tmp 1) 1, none⟩,
      ⟨(some 9), .load 48 (.tmp 8), none⟩,
      ⟨(some 10), .call ⟨(.value (.func 48)), #[(.tmp 9)], #[48]⟩, none⟩,
      ⟨(some 11), .fieldAddr 69 (.tmp 3) 1, none⟩,
      ⟨none, .store 26 (.tmp 11) (.tmp 10), none⟩])
   (.seq (.reg [⟨(some 12), .fieldAddr 58 (.tmp 1) 2, none⟩,
       ⟨(some 13), .load 9 (.tmp 12), none⟩,
       ⟨(some 14), .fieldAddr 69 (.tmp 3) 2, none⟩,
       ⟨none, .store 9 (.tmp 14) (.tmp 13), none⟩])
    (.seq (.reg [⟨(some 15), .fieldAddr 58 (.tmp 1) 3, none⟩,
        ⟨(some 16), .load 4 (.tmp 15), none⟩,
        ⟨(some 17), .fieldAddr 69 (.tmp 3) 3, none⟩,
        ⟨none, .store 4 (.tmp 17) (.tmp 16), none⟩])
     (.seq (.reg [⟨(some 18), .fieldAddr 58 (.tmp 1) 4, none⟩,
         ⟨(some 19), .load 2 (.tmp 18), none⟩,
         ⟨(some 20), .fieldAddr 69 (.tmp 3) 4, none⟩,
         ⟨none, .store 2 (.tmp 20) (.tmp 19), none⟩])
      (.seq (.reg [⟨(some 21), .fieldAddr 58 (.tmp 1) 5, none⟩,
          ⟨(some 22), .load 2 (.tmp 21), none⟩,
          ⟨(some 23), .fieldAddr 69 (.tmp 3) 5, none⟩,
          ⟨none, .store 2 (.tmp 23) (.tmp 22), none⟩])
       (.seq (.reg [⟨(some 24), .fieldAddr 58 (.tmp 1) 6, none⟩,
           ⟨(some 25), .load 56 (.tmp 24), none⟩,
           ⟨(some 26), .call ⟨(.value (.func 53)), #[(.tmp 25)], #[56]⟩, none⟩,
           ⟨(some 27), .fieldAddr 69 (.tmp 3) 6, none⟩,
           ⟨none, .store 67 (.tmp 27) (.tmp 26), none⟩])
        (.seq (.reg [⟨(some 28), .load 69 (.tmp 3), none⟩,
            ⟨none, .store 69 (.tmp 2) (.tmp 28), none⟩])
         .ret))))))))))
theorem s50 : slimF Try.f50 = some (c50, [.c 2 69], 29) := by kernel_rfl
theorem o50 : okF [(48, g48), (53, g53)] Try.f50 = true := by kernel_rfl
theorem p50 : Pure Try.prog 50 g50 := by
  refine semOf_pure fun ⟨τ, x⟩ n h2 hb => ?_
  have hT : Table Try.prog [(48, g48), (53, g53)] := (.cons p48 (.cons p53 .nil))
  refine SatP.of_body hT hm Try.func50 s50 o50 h2 (by simp) ?_
  have hb' : x.name.size ≤ 1048576 := by
    have := hb
    simp only [tot_Entry] at this
    exact this
  have hn0 : n ≠ 0 := by omega
  simp (config := {maxSteps := 4000000, implicitDefEqProofs := false}) [c50, go_sem, hn0]
  all_goals omega
/- laws.toEntryS -/
noncomputable def g71 : Fsem := toSem enEntry.list enEntry.list
@[go_sem] theorem g71_eq {n τ : Nat} {x : List Entry} : g71 n [.sl τ 10 (x.map (enEntry.av τ))] = ⟨(x.length + (x.map enEntry.tot).sum) ≤ 1048576, .sl n 10 (x.map (enEntry.av n))⟩ := by
  have h := toSem_eq (Ei := enEntry.list) (Eo := enEntry.list) (n := n) (τ := τ) (x := x)
  rw [tot_list] at h
  exact h
theorem s71 : slimF Try.f71 = some (toDeepC 3 51 29 58 69 50, [.t 2], 23) := by kernel_rfl
theorem o71 : okF [(50, g50)] Try.f71 = true := by kernel_rfl
theorem p71 : Pure Try.prog 71 g71 := toDeep_ok hm Try.func71 s71 o71 (by omega) ty_51 ty_29 fit_58 fitz_69 p50 (fun n τ x => toSem_eq)
/- laws.toChunk -/
noncomputable def g51 : Fsem := toSem enChunk enChunk
@[go_sem] theorem g51_eq {n : Nat} {x : Chunk} : g51 n [.agg [.str x.name, .int .i64 x.ver.epoch, .int .i64 x.ver.seq, .int .i64 x.pos, .int .i64 x.sum, .str x.bytes]] = ⟨(x.name.size + x.bytes.size) ≤ 1048576, .agg [.str x.name, .int .i64 x.ver.epoch, .int .i64 x.ver.seq, .int .i64 x.pos, .int .i64 x.sum, .str x.bytes]⟩ := by
  have h := toSem_eq (Ei := enChunk) (Eo := enChunk) (n := n) (τ := 0) (x := x)
  rw [tot_Chunk] at h
  exact h
def c51 : SCode := (.seq (.reg [⟨(some 1), .box 60 (.tmp 0), none⟩,
   ⟨(some 2), .alloc 71, none⟩])
(.seq (.reg [⟨(some 3), .alloc 71, none⟩])
 (.seq (.reg [⟨(some 4), .fieldAddr 60 (.tmp 1) 0, none⟩,
     ⟨(some 5), .load 9 (.tmp 4), none⟩,
     ⟨(some 6), .fieldAddr 71 (.tmp 3) 0, none⟩,
     ⟨none, .store 9 (.tmp 6) (.tmp 5), none⟩])
  (.seq (.reg [⟨(some 7), .fieldAddr 60 (.tmp 1) 1, none⟩,
      ⟨(some 8), .load 48 (.tmp 7), none⟩,
      ⟨(some 9), .call ⟨(.value (.func 48)), #[(.tmp 8)], #[48]⟩, none⟩,
      ⟨(some 10), .fieldAddr 71 (.tmp 3) 1, none⟩,
      ⟨none, .store 26 (.tmp 10) (.tmp 9), none⟩])
   (.seq (.reg [⟨(some 11), .fieldAddr 60 (.tmp 1) 2, none⟩,
       ⟨(some 12), .load 2 (.tmp 11), none⟩,
       ⟨(some 13), .fieldAddr 71 (.tmp 3) 2, none⟩,
       ⟨none, .store 2 (.tmp 13) (.tmp 12), none⟩])
    (.seq (.reg [⟨(some 14), .fieldAddr 60 (.tmp 1) 3, none⟩,
        ⟨(some 15), .load 2 (.tmp 14), none⟩,
        ⟨(some 16), .fieldAddr 71 (.tmp 3) 3, none⟩,
        ⟨none, .store 2 (.tmp 16) (.tmp 15), none⟩])
     (.seq (.reg [⟨(some 17), .fieldAddr 60 (.tmp 1) 4, none⟩,
         ⟨(some 18), .load 9 (.tmp 17), none⟩,
         ⟨(some 19), .fieldAddr 71 (.tmp 3) 4, none⟩,
         ⟨none, .store 9 (.tmp 19) (.tmp 18), none⟩])
      (.seq (.reg [⟨(some 20), .load 71 (.tmp 3), none⟩,
          ⟨none, .store 71 (.tmp 2) (.tmp 20), none⟩])
       .ret))))))))
theorem s51 : slimF Try.f51 = some (c51, [.c 2 71], 21) := by kernel_rfl
theorem o51 : okF [(48, g48)] Try.f51 = true := by kernel_rfl
theorem p51 : Pure Try.prog 51 g51 := by
  refine semOf_pure fun ⟨τ, x⟩ n h2 hb => ?_
  have hT : Table Try.prog [(48, g48)] := (.cons p48 .nil)
  refine SatP.of_body hT hm Try.func51 s51 o51 h2 (by simp) ?_
  have hb' : (x.name.size + x.bytes.size) ≤ 1048576 := by
    have := hb
    simp only [tot_Chunk] at this
    exact this
  have hn0 : n ≠ 0 := by omega
  simp (config := {maxSteps := 4000000, implicitDefEqProofs := false}) [c51, go_sem, hn0]
  all_goals omega
/- laws.toChunkS -/
noncomputable def g72 : Fsem := toSem enChunk.list enChunk.list
@[go_sem] theorem g72_eq {n τ : Nat} {x : List Chunk} : g72 n [.sl τ 6 (x.map (enChunk.av τ))] = ⟨(x.length + (x.map enChunk.tot).sum) ≤ 1048576, .sl n 6 (x.map (enChunk.av n))⟩ := by
  have h := toSem_eq (Ei := enChunk.list) (Eo := enChunk.list) (n := n) (τ := τ) (x := x)
  rw [tot_list] at h
  exact h
theorem s72 : slimF Try.f72 = some (toDeepC 3 52 30 60 71 51, [.t 2], 23) := by kernel_rfl
theorem o72 : okF [(51, g51)] Try.f72 = true := by kernel_rfl
theorem p72 : Pure Try.prog 72 g72 := toDeep_ok hm Try.func72 s72 o72 (by omega) ty_52 ty_30 fit_60 fitz_71 p51 (fun n τ x => toSem_eq)
/- laws.toPgState -/
noncomputable def g49 : Fsem := toSem enPgSt enPgSt
@[go_sem] theorem g49_eq {n τ : Nat} {x : PgSt} : g49 n [.agg [.int .i64 x.pg.pool, .int .i64 x.pg.no, .int .i64 x.seen, .int .i64 x.started, .int .i64 x.tail.epoch, .int .i64 x.tail.seq, .sl τ 5 (x.base.map (enHead.av τ)), .sl τ 4 (x.clients.map (enLst.av τ)), .sl τ 10 (x.log.map (enEntry.av τ)), .int .i64 x.firm.epoch, .int .i64 x.firm.seq, .sl τ 6 (x.chunks.map (enChunk.av τ))]] = ⟨((x.base.length + (x.base.map enHead.tot).sum) + x.clients.length + (x.log.length + (x.log.map enEntry.tot).sum) + (x.chunks.length + (x.chunks.map enChunk.tot).sum)) ≤ 1048576, .agg [.int .i64 x.pg.pool, .int .i64 x.pg.no, .int .i64 x.seen, .int .i64 x.started, .int .i64 x.tail.epoch, .int .i64 x.tail.seq, .sl n 5 (x.base.map (enHead.av n)), .sl n 4 (x.clients.map (enLst.av n)), .sl n 10 (x.log.map (enEntry.av n)), .int .i64 x.firm.epoch, .int .i64 x.firm.seq, .sl n 6 (x.chunks.map (enChunk.av n))]⟩ := by
  have h := toSem_eq (Ei := enPgSt) (Eo := enPgSt) (n := n) (τ := τ) (x := x)
  rw [tot_PgSt] at h
  exact h
def c49 : SCode := (.seq (.reg [⟨(some 1), .box 54 (.tmp 0), none⟩,
   ⟨(some 2), .alloc 32, none⟩])
(.seq (.reg [⟨(some 3), .alloc 32, none⟩])
 (.seq (.reg [⟨(some 4), .fieldAddr 54 (.tmp 1) 0, none⟩,
     ⟨(some 5), .load 23 (.tmp 4), none⟩,
     ⟨(some 6), .call ⟨(.value (.func 7)), #[(.tmp 5)], #[23]⟩, none⟩,
     ⟨(some 7), .fieldAddr 32 (.tmp 3) 0, none⟩,
     ⟨none, .store 24 (.tmp 7) (.tmp 6), none⟩])
  (.seq (.reg [⟨(some 8), .fieldAddr 54 (.tmp 1) 1, none⟩,
      ⟨(some 9), .load 2 (.tmp 8), none⟩,
      ⟨(some 10), .fieldAddr 32 (.tmp 3) 1, none⟩,
      ⟨none, .store 2 (.tmp 10) (.tmp 9), none⟩])
   (.seq (.reg [⟨(some 11), .fieldAddr 54 (.tmp 1) 2, none⟩,
       ⟨(some 12), .load 2 (.tmp 11), none⟩,
       ⟨(some 13), .fieldAddr 32 (.tmp 3) 2, none⟩,
       ⟨none, .store 2 (.tmp 13) (.tmp 12), none⟩])
    (.seq (.reg [⟨(some 14), .fieldAddr 54 (.tmp 1) 3, none⟩,
        ⟨(some 15), .load 48 (.tmp 14), none⟩,
        ⟨(some 16), .call ⟨(.value (.func 48)), #[(.tmp 15)], #[48]⟩, none⟩,
        ⟨(some 17), .fieldAddr 32 (.tmp 3) 3, none⟩,
        ⟨none, .store 26 (.tmp 17) (.tmp 16), none⟩])
     (.seq (.reg [⟨(some 18), .fieldAddr 54 (.tmp 1) 4, none⟩,
         ⟨(some 19), .load 49 (.tmp 18), none⟩,
         ⟨(some 20), .call ⟨(.value (.func 69)), #[(.tmp 19)], #[49]⟩, none⟩,
         ⟨(some 21), .fieldAddr 32 (.tmp 3) 4, none⟩,
         ⟨none, .store 27 (.tmp 21) (.tmp 20), none⟩])
      (.seq (.reg [⟨(some 22), .fieldAddr 54 (.tmp 1) 5, none⟩,
          ⟨(some 23), .load 50 (.tmp 22), none⟩,
          ⟨(some 24), .call ⟨(.value (.func 70)), #[(.tmp 23)], #[50]⟩, none⟩,
          ⟨(some 25), .fieldAddr 32 (.tmp 3) 5, none⟩,
          ⟨none, .store 28 (.tmp 25) (.tmp 24), none⟩])
       (.seq (.reg [⟨(some 26), .fieldAddr 54 (.tmp 1) 6, none⟩,
           ⟨(some 27), .load 51 (.tmp 26), none⟩,
           ⟨(some 28), .call ⟨(.value (.func 71)), #[(.tmp 27)], #[51]⟩, none⟩,
           ⟨(some 29), .fieldAddr 32 (.tmp 3) 6, none⟩,
           ⟨none, .store 29 (.tmp 29) (.tmp 28), none⟩])
        (.seq (.reg [⟨(some 30), .fieldAddr 54 (.tmp 1) 7, none⟩,
            ⟨(some 31), .load 48 (.tmp 30), none⟩,
            ⟨(some 32), .call ⟨(.value (.func 48)), #[(.tmp 31)], #[48]⟩, none⟩,
            ⟨(some 33), .fieldAddr 32 (.tmp 3) 7, none⟩,
            ⟨none, .store 26 (.tmp 33) (.tmp 32), none⟩])
         (.seq (.reg [⟨(some 34), .fieldAddr 54 (.tmp 1) 8, none⟩,
             ⟨(some 35), .load 52 (.tmp 34), none⟩,
             ⟨(some 36), .call ⟨(.value (.func 72)), #[(.tmp 35)], #[52]⟩, none⟩,
             ⟨(some 37), .fieldAddr 32 (.tmp 3) 8, none⟩,
             ⟨none, .store 30 (.tmp 37) (.tmp 36), none⟩])
          (.seq (.reg [⟨(some 38), .load 32 (.tmp 3), none⟩,
              ⟨none, .store 32 (.tmp 2) (.tmp 38), none⟩])
           .ret))))))))))))
theorem s49 : slimF Try.f49 = some (c49, [.c 2 32], 39) := by kernel_rfl
theorem o49 : okF [(7, g7), (48, g48), (69, g69), (70, g70), (71, g71), (72, g72)] Try.f49 = true := by kernel_rfl
theorem p49 : Pure Try.prog 49 g49 := by
  refine semOf_pure fun ⟨τ, x⟩ n h2 hb => ?_
  have hT : Table Try.prog [(7, g7), (48, g48), (69, g69), (70, g70), (71, g71), (72, g72)] := (.cons p7 (.cons p48 (.cons p69 (.cons p70 (.cons p71 (.cons p72 .nil))))))
  refine SatP.of_body hT hm Try.func49 s49 o49 h2 (by simp) ?_
  have hb' : ((x.base.length + (x.base.map enHead.tot).sum) + x.clients.length + (x.log.length + (x.log.map enEntry.tot).sum) + (x.chunks.length + (x.chunks.map enChunk.tot).sum)) ≤ 1048576 := by
    have := hb
    simp only [tot_PgSt] at this
    exact this
  have hn0 : n ≠ 0 := by omega
  simp (config := {maxSteps := 4000000, implicitDefEqProofs := false}) [c49, go_sem, hn0]
  all_goals omega
/- laws.toPgStateS -/
noncomputable def g40 : Fsem := toSem enPgSt.list enPgSt.list
@[go_sem] theorem g40_eq {n τ : Nat} {x : List PgSt} : g40 n [.sl τ 12 (x.map (enPgSt.av τ))] = ⟨(x.length + (x.map enPgSt.tot).sum) ≤ 1048576, .sl n 12 (x.map (enPgSt.av n))⟩ := by
  have h := toSem_eq (Ei := enPgSt.list) (Eo := enPgSt.list) (n := n) (τ := τ) (x := x)
  rw [tot_list] at h
  exact h
theorem s40 : slimF Try.f40 = some (toDeepC 3 38 43 54 32 49, [.t 2], 23) := by kernel_rfl
theorem o40 : okF [(49, g49)] Try.f40 = true := by kernel_rfl
theorem p40 : Pure Try.prog 40 g40 := toDeep_ok hm Try.func40 s40 o40 (by omega) ty_38 ty_43 fit_54 fitz_32 p49 (fun n τ x => toSem_eq)
/- laws.toStore -/
noncomputable def g14 : Fsem := toSem enStore enStore
@[go_sem] theorem g14_eq {n τ : Nat} {x : Store} : g14 n [.agg [.sl τ 12 (x.live.map (enPgSt.av τ)), .sl τ 12 (x.kept.map (enPgSt.av τ))]] = ⟨((x.live.length + (x.live.map enPgSt.tot).sum) + (x.kept.length + (x.kept.map enPgSt.tot).sum)) ≤ 1048576, .agg [.sl n 12 (x.live.map (enPgSt.av n)), .sl n 12 (x.kept.map (enPgSt.av n))]⟩ := by
  have h := toSem_eq (Ei := enStore) (Eo := enStore) (n := n) (τ := τ) (x := x)
  rw [tot_Store] at h
  exact h
def c14 : SCode := (.seq (.reg [⟨(some 1), .box 40 (.tmp 0), none⟩,
   ⟨(some 2), .alloc 45, none⟩])
(.seq (.reg [⟨(some 3), .alloc 45, none⟩])
 (.seq (.reg [⟨(some 4), .fieldAddr 40 (.tmp 1) 0, none⟩,
     ⟨(some 5), .load 38 (.tmp 4), none⟩,
     ⟨(some 6), .call ⟨(.value (.func 40)), #[(.tmp 5)], #[38]⟩, none⟩,
     ⟨(some 7), .fieldAddr 45 (.tmp 3) 0, none⟩,
     ⟨none, .store 43 (.tmp 7) (.tmp 6), none⟩])
  (.seq (.reg [⟨(some 8), .fieldAddr 40 (.tmp 1) 1, none⟩,
      ⟨(some 9), .load 38 (.tmp 8), none⟩,
      ⟨(some 10), .call ⟨(.value (.func 40)), #[(.tmp 9)], #[38]⟩, none⟩,
      ⟨(some 11), .fieldAddr 45 (.tmp 3) 1, none⟩,
      ⟨none, .store 43 (.tmp 11) (.tmp 10), none⟩])
   (.seq (.reg [⟨(some 12), .load 45 (.tmp 3), none⟩,
       ⟨none, .store 45 (.tmp 2) (.tmp 12), none⟩])
    .ret)))))
theorem s14 : slimF Try.f14 = some (c14, [.c 2 45], 13) := by kernel_rfl
theorem o14 : okF [(40, g40)] Try.f14 = true := by kernel_rfl
theorem p14 : Pure Try.prog 14 g14 := by
  refine semOf_pure fun ⟨τ, x⟩ n h2 hb => ?_
  have hT : Table Try.prog [(40, g40)] := (.cons p40 .nil)
  refine SatP.of_body hT hm Try.func14 s14 o14 h2 (by simp) ?_
  have hb' : ((x.live.length + (x.live.map enPgSt.tot).sum) + (x.kept.length + (x.kept.map enPgSt.tot).sum)) ≤ 1048576 := by
    have := hb
    simp only [tot_Store] at this
    exact this
  have hn0 : n ≠ 0 := by omega
  simp (config := {maxSteps := 4000000, implicitDefEqProofs := false}) [c14, go_sem, hn0]
  all_goals omega
/- laws.szOp -/
noncomputable def g46 : Fsem := szSemP enOp (fun x => zzOp x)
@[go_sem] theorem g46_eq {n : Nat} {x : Op} {b : Int} : g46 n [.agg [.int .i64 x.kind, .int .i64 x.at_, .str x.bytes], .int .i64 b] = ⟨0 ≤ b ∧ b ≤ bigB ∧ zzOp x, .int .i64 (szR b x.bytes.size)⟩ := by
  have h := szSemP_eq (E := enOp) (ok := fun x => zzOp x) (n := n) (τ := 0) (x := x) (b := b)
  rw [tot_Op] at h
  exact h
def c46 : SCode := (.seq (.reg [⟨(some 2), .box 62 (.tmp 0), none⟩,
   ⟨(some 4), .assign (.const (.int .i64 0)), none⟩])
(.seq (.reg [⟨(some 5), .move (.tmp 1), none⟩,
    ⟨(some 6), .fieldAddr 62 (.tmp 2) 2, none⟩,
    ⟨(some 7), .load 9 (.tmp 6), none⟩,
    ⟨(some 8), .call ⟨(.builtin .len), #[(.tmp 7)], #[9]⟩, none⟩,
    ⟨(some 9), .binOp .sub 3 (.tmp 5) (.tmp 8) 3, none⟩,
    ⟨(some 1), .assign (.tmp 9), none⟩])
 (.seq (.seq (.reg [⟨(some 10), .move (.tmp 1), none⟩,
      ⟨(some 11), .binOp .lss 3 (.tmp 10) (.const (.int .i64 0)) 3, none⟩])
   (.cond (.tmp 11) (.seq (.reg [⟨(some 4), .assign (.const (.int .i64 (-1))), none⟩])
     .ret)
    .skip))
  (.seq (.reg [⟨(some 12), .move (.tmp 1), none⟩,
      ⟨(some 4), .assign (.tmp 12), none⟩])
   .ret))))
theorem s46 : slimF Try.f46 = some (c46, [.t 4], 13) := by kernel_rfl
theorem o46 : okF [] Try.f46 = true := by kernel_rfl
theorem p46 : Pure Try.prog 46 g46 := by
  refine semOf_pure fun ⟨τ, x, b⟩ n h2 ⟨hb1, hb2, hz⟩ => ?_
  have hT : Table Try.prog [] := .nil
  refine SatP.of_body hT hm Try.func46 s46 o46 h2 (by simp) ?_
  replace hb1 : 0 ≤ b := hb1
  replace hb2 : b ≤ 4611686018427387904 := hb2
  replace hz : zzOp x := hz
  simp only [zzOp, strB] at hz
  have hw0 : IntKind.i64.wrap (b - (x.bytes.size : Int)) = b - (x.bytes.size : Int) := wrap_ok (by omega) (by omega)
  have := szR_spec b x.bytes.size
  simp (config := {contextual := true, maxSteps := 4000000, implicitDefEqProofs := false}) [c46, go_sem, tot_Op, bigB, hb1, hb2, hz, strB, hw0]
  omega
/- laws.szMsg -/
noncomputable def g17 : Fsem := szSemP enMsg (fun x => zzMsg x)
@[go_sem] theorem g17_eq {n τ : Nat} {x : Msg} {b : Int} : g17 n [.agg [.int .i64 x.kind, .int .i64 x.from_, .int .i64 x.to_, .int .i64 x.pg.pool, .int .i64 x.pg.no, .int .i64 x.epoch, .str x.name, .int .i64 x.ver.epoch, .int .i64 x.ver.seq, .int .i64 x.firm.epoch, .int .i64 x.firm.seq, .int .i64 x.state.pg.pool, .int .i64 x.state.pg.no, .int .i64 x.state.seen, .int .i64 x.state.started, .int .i64 x.state.tail.epoch, .int .i64 x.state.tail.seq, .sl τ 5 (x.state.base.map (enHead.av τ)), .sl τ 4 (x.state.clients.map (enLst.av τ)), .sl τ 10 (x.state.log.map (enEntry.av τ)), .int .i64 x.state.firm.epoch, .int .i64 x.state.firm.seq, .sl τ 6 (x.state.chunks.map (enChunk.av τ)), .int .i64 x.entry.ver.epoch, .int .i64 x.entry.ver.seq, .int .i64 x.entry.prior.epoch, .int .i64 x.entry.prior.seq, .str x.entry.name, .bool x.entry.gone, .int .i64 x.entry.size, .int .i64 x.entry.sum, .int .i64 x.entry.req.client, .int .i64 x.entry.req.no, .str x.chunk.name, .int .i64 x.chunk.ver.epoch, .int .i64 x.chunk.ver.seq, .int .i64 x.chunk.pos, .int .i64 x.chunk.sum, .str x.chunk.bytes, .int .i64 x.op.kind, .int .i64 x.op.at_, .str x.op.bytes, .int .i64 x.req.client, .int .i64 x.req.no, .int .i64 x.code, .str x.body], .int .i64 b] = ⟨0 ≤ b ∧ b ≤ bigB ∧ zzMsg x, .int .i64 (szR b ((x.name.size + ((x.state.base.length + (x.state.base.map enHead.tot).sum) + x.state.clients.length + (x.state.log.length + (x.state.log.map enEntry.tot).sum) + (x.state.chunks.length + (x.state.chunks.map enChunk.tot).sum)) + x.entry.name.size + (x.chunk.name.size + x.chunk.bytes.size) + x.op.bytes.size + x.body.size)))⟩ := by
  have h := szSemP_eq (E := enMsg) (ok := fun x => zzMsg x) (n := n) (τ := τ) (x := x) (b := b)
  rw [tot_Msg] at h
  exact h
def c17 : SCode := (.seq (.reg [⟨(some 2), .box 64 (.tmp 0), none⟩,
   ⟨(some 4), .assign (.const (.int .i64 0)), none⟩])
(.seq (.reg [⟨(some 5), .move (.tmp 1), none⟩,
    ⟨(some 6), .fieldAddr 64 (.tmp 2) 5, none⟩,
    ⟨(some 7), .load 9 (.tmp 6), none⟩,
    ⟨(some 8), .call ⟨(.builtin .len), #[(.tmp 7)], #[9]⟩, none⟩,
    ⟨(some 9), .binOp .sub 3 (.tmp 5) (.tmp 8) 3, none⟩,
    ⟨(some 1), .assign (.tmp 9), none⟩])
 (.seq (.seq (.reg [⟨(some 10), .move (.tmp 1), none⟩,
      ⟨(some 11), .binOp .lss 3 (.tmp 10) (.const (.int .i64 0)) 3, none⟩])
   (.cond (.tmp 11) (.seq (.reg [⟨(some 4), .assign (.const (.int .i64 (-1))), none⟩])
     .ret)
    .skip))
  (.seq (.reg [⟨(some 12), .fieldAddr 64 (.tmp 2) 8, none⟩,
      ⟨(some 13), .load 54 (.tmp 12), none⟩,
      ⟨(some 14), .move (.tmp 1), none⟩,
      ⟨(some 15), .call ⟨(.value (.func 43)), #[(.tmp 13), (.tmp 14)], #[54, 3]⟩, none⟩,
      ⟨(some 1), .assign (.tmp 15), none⟩])
   (.seq (.seq (.reg [⟨(some 16), .move (.tmp 1), none⟩,
        ⟨(some 17), .binOp .lss 3 (.tmp 16) (.const (.int .i64 0)) 3, none⟩])
     (.cond (.tmp 17) (.seq (.reg [⟨(some 4), .assign (.const (.int .i64 (-1))), none⟩])
       .ret)
      .skip))
    (.seq (.reg [⟨(some 18), .fieldAddr 64 (.tmp 2) 9, none⟩,
        ⟨(some 19), .load 58 (.tmp 18), none⟩,
        ⟨(some 20), .move (.tmp 1), none⟩,
        ⟨(some 21), .call ⟨(.value (.func 44)), #[(.tmp 19), (.tmp 20)], #[58, 3]⟩, none⟩,
        ⟨(some 1), .assign (.tmp 21), none⟩])
     (.seq (.seq (.reg [⟨(some 22), .move (.tmp 1), none⟩,
          ⟨(some 23), .binOp .lss 3 (.tmp 22) (.const (.int .i64 0)) 3, none⟩])
       (.cond (.tmp 23) (.seq (.reg [⟨(some 4), .assign (.const (.int .i64 (-1))), none⟩])
         .ret)
        .skip))
      (.seq (.reg [⟨(some 24), .fieldAddr 64 (.tmp 2) 10, none⟩,
          ⟨(some 25), .load 60 (.tmp 24), none⟩,
          ⟨(some 26), .move (.tmp 1), none⟩,
          ⟨(some 27), .call ⟨(.value (.func 45)), #[(.tmp 25), (.tmp 26)], #[60, 3]⟩, none⟩,
          ⟨(some 1), .assign (.tmp 27), none⟩])
       (.seq (.seq (.reg [⟨(some 28), .move (.tmp 1), none⟩,
            ⟨(some 29), .binOp .lss 3 (.tmp 28) (.const (.int .i64 0)) 3, none⟩])
         (.cond (.tmp 29) (.seq (.reg [⟨(some 4), .assign (.const (.int .i64 (-1))), none⟩])
           .ret)
          .skip))
        (.seq (.reg [⟨(some 30), .fieldAddr 64 (.tmp 2) 11, none⟩,
            ⟨(some 31), .load 62 (.tmp 30), none⟩,
            ⟨(some 32), .move (.tmp 1), none⟩,
            ⟨(some 33), .call ⟨(.value (.func 46)), #[(.tmp 31), (.tmp 32)], #[62, 3]⟩, none⟩,
            ⟨(some 1), .assign (.tmp 33), none⟩])
         (.seq (.seq (.reg [⟨(some 34), .move (.tmp 1), none⟩,
              ⟨(some 35), .binOp .lss 3 (.tmp 34) (.const (.int .i64 0)) 3, none⟩])
           (.cond (.tmp 35) (.seq (.reg [⟨(some 4), .assign (.const (.int .i64 (-1))), none⟩])
             .ret)
            .skip))
          (.seq (.reg [⟨(some 36), .move (.tmp 1), none⟩,
              ⟨(some 37), .fieldAddr 64 (.tmp 2) 14, none⟩,
              ⟨(some 38), .load 9 (.tmp 37), none⟩,
              ⟨(some 39), .call ⟨(.builtin .len), #[(.tmp 38)], #[9]⟩, none⟩,
              ⟨(some 40), .binOp .sub 3 (.tmp 36) (.tmp 39) 3, none⟩,
              ⟨(some 1), .assign (.tmp 40), none⟩])
           (.seq (.seq (.reg [⟨(some 41), .move (.tmp 1), none⟩,
                ⟨(some 42), .binOp .lss 3 (.tmp 41) (.const (.int .i64 0)) 3, none⟩])
             (.cond (.tmp 42) (.seq (.reg [⟨(some 4), .assign (.const (.int .i64 (-1))), none⟩])
               .ret)
              .skip))
            (.seq (.reg [⟨(some 43), .move (.tmp 1), none⟩,
                ⟨(some 4), .assign (.tmp 43), none⟩])
             .ret))))))))))))))
theorem s17 : slimF Try.f17 = some (c17, [.t 4], 44) := by kernel_rfl
theorem o17 : okF [(43, g43), (44, g44), (45, g45), (46, g46)] Try.f17 = true := by kernel_rfl
theorem p17 : Pure Try.prog 17 g17 := by
  refine semOf_pure fun ⟨τ, x, b⟩ n h2 ⟨hb1, hb2, hz⟩ => ?_
  have hT : Table Try.prog [(43, g43), (44, g44), (45, g45), (46, g46)] := (.cons p43 (.cons p44 (.cons p45 (.cons p46 .nil))))
  refine SatP.of_body hT hm Try.func17 s17 o17 h2 (by simp) ?_
  replace hb1 : 0 ≤ b := hb1
  replace hb2 : b ≤ 4611686018427387904 := hb2
  replace hz : zzMsg x := hz
  simp only [zzMsg, strB] at hz
  have hw0 : IntKind.i64.wrap (b - (x.name.size : Int)) = b - (x.name.size : Int) := wrap_ok (by omega) (by omega)
  have := szR_spec (b - (x.name.size : Int)) (((x.state.base.length + (x.state.base.map enHead.tot).sum) + x.state.clients.length + (x.state.log.length + (x.state.log.map enEntry.tot).sum) + (x.state.chunks.length + (x.state.chunks.map enChunk.tot).sum)))
  have := szR_spec (szR (b - (x.name.size : Int)) (((x.state.base.length + (x.state.base.map enHead.tot).sum) + x.state.clients.length + (x.state.log.length + (x.state.log.map enEntry.tot).sum) + (x.state.chunks.length + (x.state.chunks.map enChunk.tot).sum)))) x.entry.name.size
  have := szR_spec (szR (szR (b - (x.name.size : Int)) (((x.state.base.length + (x.state.base.map enHead.tot).sum) + x.state.clients.length + (x.state.log.length + (x.state.log.map enEntry.tot).sum) + (x.state.chunks.length + (x.state.chunks.map enChunk.tot).sum)))) x.entry.name.size) ((x.chunk.name.size + x.chunk.bytes.size))
  have := szR_spec (szR (szR (szR (b - (x.name.size : Int)) (((x.state.base.length + (x.state.base.map enHead.tot).sum) + x.state.clients.length + (x.state.log.length + (x.state.log.map enEntry.tot).sum) + (x.state.chunks.length + (x.state.chunks.map enChunk.tot).sum)))) x.entry.name.size) ((x.chunk.name.size + x.chunk.bytes.size))) x.op.bytes.size
  have hw1 : IntKind.i64.wrap ((szR (szR (szR (szR (b - (x.name.size : Int)) (((x.state.base.length + (x.state.base.map enHead.tot).sum) + x.state.clients.length + (x.state.log.length + (x.state.log.map enEntry.tot).sum) + (x.state.chunks.length + (x.state.chunks.map enChunk.tot).sum)))) x.entry.name.size) ((x.chunk.name.size + x.chunk.bytes.size))) x.op.bytes.size) - (x.body.size : Int)) = (szR (szR (szR (szR (b - (x.name.size : Int)) (((x.state.base.length + (x.state.base.map enHead.tot).sum) + x.state.clients.length + (x.state.log.length + (x.state.log.map enEntry.tot).sum) + (x.state.chunks.length + (x.state.chunks.map enChunk.tot).sum)))) x.entry.name.size) ((x.chunk.name.size + x.chunk.bytes.size))) x.op.bytes.size) - (x.body.size : Int) := wrap_ok (by omega) (by omega)
  have := szR_spec b ((x.name.size + ((x.state.base.length + (x.state.base.map enHead.tot).sum) + x.state.clients.length + (x.state.log.length + (x.state.log.map enEntry.tot).sum) + (x.state.chunks.length + (x.state.chunks.map enChunk.tot).sum)) + x.entry.name.size + (x.chunk.name.size + x.chunk.bytes.size) + x.op.bytes.size + x.body.size))
  simp (config := {contextual := true, maxSteps := 4000000, implicitDefEqProofs := false}) [c17, go_sem, tot_Msg, bigB, hb1, hb2, hz, strB, hw0, hw1]
  omega
/- laws.toOp -/
noncomputable def g52 : Fsem := toSem enOp enOp
@[go_sem] theorem g52_eq {n : Nat} {x : Op} : g52 n [.agg [.int .i64 x.kind, .int .i64 x.at_, .str x.bytes]] = ⟨x.bytes.size ≤ 1048576, .agg [.int .i64 x.kind, .int .i64 x.at_, .str x.bytes]⟩ := by
  have h := toSem_eq (Ei := enOp) (Eo := enOp) (n := n) (τ := 0) (x := x)
  rw [tot_Op] at h
  exact h
def c52 : SCode := (.seq (.reg [⟨(some 1), .box 62 (.tmp 0), none⟩,
   ⟨(some 2), .alloc 72, none⟩])
(.seq (.reg [⟨(some 3), .alloc 72, none⟩])
 (.seq (.reg [⟨(some 4), .fieldAddr 62 (.tmp 1) 0, none⟩,
     ⟨(some 5), .load 2 (.tmp 4), none⟩,
     ⟨(some 6), .fieldAddr 72 (.tmp 3) 0, none⟩,
     ⟨none, .store 2 (.tmp 6) (.tmp 5), none⟩])
  (.seq (.reg [⟨(some 7), .fieldAddr 62 (.tmp 1) 1, none⟩,
      ⟨(some 8), .load 2 (.tmp 7), none⟩,
      ⟨(some 9), .fieldAddr 72 (.tmp 3) 1, none⟩,
      ⟨none, .store 2 (.tmp 9) (.tmp 8), none⟩])
   (.seq (.reg [⟨(some 10), .fieldAddr 62 (.tmp 1) 2, none⟩,
       ⟨(some 11), .load 9 (.tmp 10), none⟩,
       ⟨(some 12), .fieldAddr 72 (.tmp 3) 2, none⟩,
       ⟨none, .store 9 (.tmp 12) (.tmp 11), none⟩])
    (.seq (.reg [⟨(some 13), .load 72 (.tmp 3), none⟩,
        ⟨none, .store 72 (.tmp 2) (.tmp 13), none⟩])
     .ret))))))
theorem s52 : slimF Try.f52 = some (c52, [.c 2 72], 14) := by kernel_rfl
theorem o52 : okF [] Try.f52 = true := by kernel_rfl
theorem p52 : Pure Try.prog 52 g52 := by
  refine semOf_pure fun ⟨τ, x⟩ n h2 hb => ?_
  have hT : Table Try.prog [] := .nil
  refine SatP.of_body hT hm Try.func52 s52 o52 h2 (by simp) ?_
  have hb' : x.bytes.size ≤ 1048576 := by
    have := hb
    simp only [tot_Op] at this
    exact this
  have hn0 : n ≠ 0 := by omega
  simp (config := {maxSteps := 4000000, implicitDefEqProofs := false}) [c52, go_sem, hn0]
  all_goals omega
/- laws.toMsg -/
noncomputable def g19 : Fsem := toSem enMsg enMsg
@[go_sem] theorem g19_eq {n τ : Nat} {x : Msg} : g19 n [.agg [.int .i64 x.kind, .int .i64 x.from_, .int .i64 x.to_, .int .i64 x.pg.pool, .int .i64 x.pg.no, .int .i64 x.epoch, .str x.name, .int .i64 x.ver.epoch, .int .i64 x.ver.seq, .int .i64 x.firm.epoch, .int .i64 x.firm.seq, .int .i64 x.state.pg.pool, .int .i64 x.state.pg.no, .int .i64 x.state.seen, .int .i64 x.state.started, .int .i64 x.state.tail.epoch, .int .i64 x.state.tail.seq, .sl τ 5 (x.state.base.map (enHead.av τ)), .sl τ 4 (x.state.clients.map (enLst.av τ)), .sl τ 10 (x.state.log.map (enEntry.av τ)), .int .i64 x.state.firm.epoch, .int .i64 x.state.firm.seq, .sl τ 6 (x.state.chunks.map (enChunk.av τ)), .int .i64 x.entry.ver.epoch, .int .i64 x.entry.ver.seq, .int .i64 x.entry.prior.epoch, .int .i64 x.entry.prior.seq, .str x.entry.name, .bool x.entry.gone, .int .i64 x.entry.size, .int .i64 x.entry.sum, .int .i64 x.entry.req.client, .int .i64 x.entry.req.no, .str x.chunk.name, .int .i64 x.chunk.ver.epoch, .int .i64 x.chunk.ver.seq, .int .i64 x.chunk.pos, .int .i64 x.chunk.sum, .str x.chunk.bytes, .int .i64 x.op.kind, .int .i64 x.op.at_, .str x.op.bytes, .int .i64 x.req.client, .int .i64 x.req.no, .int .i64 x.code, .str x.body]] = ⟨(x.name.size + ((x.state.base.length + (x.state.base.map enHead.tot).sum) + x.state.clients.length + (x.state.log.length + (x.state.log.map enEntry.tot).sum) + (x.state.chunks.length + (x.state.chunks.map enChunk.tot).sum)) + x.entry.name.size + (x.chunk.name.size + x.chunk.bytes.size) + x.op.bytes.size + x.body.size) ≤ 1048576, .agg [.int .i64 x.kind, .int .i64 x.from_, .int .i64 x.to_, .int .i64 x.pg.pool, .int .i64 x.pg.no, .int .i64 x.epoch, .str x.name, .int .i64 x.ver.epoch, .int .i64 x.ver.seq, .int .i64 x.firm.epoch, .int .i64 x.firm.seq, .int .i64 x.state.pg.pool, .int .i64 x.state.pg.no, .int .i64 x.state.seen, .int .i64 x.state.started, .int .i64 x.state.tail.epoch, .int .i64 x.state.tail.seq, .sl n 5 (x.state.base.map (enHead.av n)), .sl n 4 (x.state.clients.map (enLst.av n)), .sl n 10 (x.state.log.map (enEntry.av n)), .int .i64 x.state.firm.epoch, .int .i64 x.state.firm.seq, .sl n 6 (x.state.chunks.map (enChunk.av n)), .int .i64 x.entry.ver.epoch, .int .i64 x.entry.ver.seq, .int .i64 x.entry.prior.epoch, .int .i64 x.entry.prior.seq, .str x.entry.name, .bool x.entry.gone, .int .i64 x.entry.size, .int .i64 x.entry.sum, .int .i64 x.entry.req.client, .int .i64 x.entry.req.no, .str x.chunk.name, .int .i64 x.chunk.ver.epoch, .int .i64 x.chunk.ver.seq, .int .i64 x.chunk.pos, .int .i64 x.chunk.sum, .str x.chunk.bytes, .int .i64 x.op.kind, .int .i64 x.op.at_, .str x.op.bytes, .int .i64 x.req.client, .int .i64 x.req.no, .int .i64 x.code, .str x.body]⟩ := by
  have h := toSem_eq (Ei := enMsg) (Eo := enMsg) (n := n) (τ := τ) (x := x)
  rw [tot_Msg] at h
  exact h
def c19 : SCode := (.seq (.reg [⟨(some 1), .box 64 (.tmp 0), none⟩,
   ⟨(some 2), .alloc 74, none⟩])
(.seq (.reg [⟨(some 3), .alloc 74, none⟩])
 (.seq (.reg [⟨(some 4), .fieldAddr 64 (.tmp 1) 0, none⟩,
     ⟨(some 5), .load 2 (.tmp 4), none⟩,
     ⟨(some 6), .fieldAddr 74 (.tmp 3) 0, none⟩,
     ⟨none, .store 2 (.tmp 6) (.tmp 5), none⟩])
  (.seq (.reg [⟨(some 7), .fieldAddr 64 (.tmp 1) 1, none⟩,
      ⟨(some 8), .load 2 (.tmp 7), none⟩,
      ⟨(some 9), .fieldAddr 74 (.tmp 3) 1, none⟩,
      ⟨none, .store 2 (.tmp 9) (.tmp 8), none⟩])
   (.seq (.reg [⟨(some 10), .fieldAddr 64 (.tmp 1) 2, none⟩,
       ⟨(some 11), .load 2 (.tmp 10), none⟩,
       ⟨(some 12), .fieldAddr 74 (.tmp 3) 2, none⟩,
       ⟨none, .store 2 (.tmp 12) (.tmp 11), none⟩])
    (.seq (.reg [⟨(some 13), .fieldAddr 64 (.tmp 1) 3, none⟩,
        ⟨(some 14), .load 23 (.tmp 13), none⟩,
        ⟨(some 15), .call ⟨(.value (.func 7)), #[(.tmp 14)], #[23]⟩, none⟩,
        ⟨(some 16), .fieldAddr 74 (.tmp 3) 3, none⟩,
        ⟨none, .store 24 (.tmp 16) (.tmp 15), none⟩])
     (.seq (.reg [⟨(some 17), .fieldAddr 64 (.tmp 1) 4, none⟩,
         ⟨(some 18), .load 2 (.tmp 17), none⟩,
         ⟨(some 19), .fieldAddr 74 (.tmp 3) 4, none⟩,
         ⟨none, .store 2 (.tmp 19) (.tmp 18), none⟩])
      (.seq (.reg [⟨(some 20), .fieldAddr 64 (.tmp 1) 5, none⟩,
          ⟨(some 21), .load 9 (.tmp 20), none⟩,
          ⟨(some 22), .fieldAddr 74 (.tmp 3) 5, none⟩,
          ⟨none, .store 9 (.tmp 22) (.tmp 21), none⟩])
       (.seq (.reg [⟨(some 23), .fieldAddr 64 (.tmp 1) 6, none⟩,
           ⟨(some 24), .load 48 (.tmp 23), none⟩,
           ⟨(some 25), .call ⟨(.value (.func 48)), #[(.tmp 24)], #[48]⟩, none⟩,
           ⟨(some 26), .fieldAddr 74 (.tmp 3) 6, none⟩,
           ⟨none, .store 26 (.tmp 26) (.tmp 25), none⟩])
        (.seq (.reg [⟨(some 27), .fieldAddr 64 (.tmp 1) 7, none⟩,
            ⟨(some 28), .load 48 (.tmp 27), none⟩,
            ⟨(some 29), .call ⟨(.value (.func 48)), #[(.tmp 28)], #[48]⟩, none⟩,
            ⟨(some 30), .fieldAddr 74 (.tmp 3) 7, none⟩,
            ⟨none, .store 26 (.tmp 30) (.tmp 29), none⟩])
         (.seq (.reg [⟨(some 31), .fieldAddr 64 (.tmp 1) 8, none⟩,
             ⟨(some 32), .load 54 (.tmp 31), none⟩,
             ⟨(some 33), .call ⟨(.value (.func 49)), #[(.tmp 32)], #[54]⟩, none⟩,
             ⟨(some 34), .fieldAddr 74 (.tmp 3) 8, none⟩,
             ⟨none, .store 32 (.tmp 34) (.tmp 33), none⟩])
          (.seq (.reg [⟨(some 35), .fieldAddr 64 (.tmp 1) 9, none⟩,
              ⟨(some 36), .load 58 (.tmp 35), none⟩,
              ⟨(some 37), .call ⟨(.value (.func 50)), #[(.tmp 36)], #[58]⟩, none⟩,
              ⟨(some 38), .fieldAddr 74 (.tmp 3) 9, none⟩,
              ⟨none, .store 69 (.tmp 38) (.tmp 37), none⟩])
           (.seq (.reg [⟨(some 39), .fieldAddr 64 (.tmp 1) 10, none⟩,
               ⟨(some 40), .load 60 (.tmp 39), none⟩,
               ⟨(some 41), .call ⟨(.value (.func 51)), #[(.tmp 40)], #[60]⟩, none⟩,
               ⟨(some 42), .fieldAddr 74 (.tmp 3) 10, none⟩,
               ⟨none, .store 71 (.tmp 42) (.tmp 41), none⟩])
            (.seq (.reg [⟨(some 43), .fieldAddr 64 (.tmp 1) 11, none⟩,
                ⟨(some 44), .load 62 (.tmp 43), none⟩,
                ⟨(some 45), .call ⟨(.value (.func 52)), #[(.tmp 44)], #[62]⟩, none⟩,
                ⟨(some 46), .fieldAddr 74 (.tmp 3) 11, none⟩,
                ⟨none, .store 72 (.tmp 46) (.tmp 45), none⟩])
             (.seq (.reg [⟨(some 47), .fieldAddr 64 (.tmp 1) 12, none⟩,
                 ⟨(some 48), .load 56 (.tmp 47), none⟩,
                 ⟨(some 49), .call ⟨(.value (.func 53)), #[(.tmp 48)], #[56]⟩, none⟩,
                 ⟨(some 50), .fieldAddr 74 (.tmp 3) 12, none⟩,
                 ⟨none, .store 67 (.tmp 50) (.tmp 49), none⟩])
              (.seq (.reg [⟨(some 51), .fieldAddr 64 (.tmp 1) 13, none⟩,
                  ⟨(some 52), .load 2 (.tmp 51), none⟩,
                  ⟨(some 53), .fieldAddr 74 (.tmp 3) 13, none⟩,
                  ⟨none, .store 2 (.tmp 53) (.tmp 52), none⟩])
               (.seq (.reg [⟨(some 54), .fieldAddr 64 (.tmp 1) 14, none⟩,
                   ⟨(some 55), .load 9 (.tmp 54), none⟩,
                   ⟨(some 56), .fieldAddr 74 (.tmp 3) 14, none⟩,
                   ⟨none, .store 9 (.tmp 56) (.tmp 55), none⟩])
                (.seq (.reg [⟨(some 57), .load 74 (.tmp 3), none⟩,
                    ⟨none, .store 74 (.tmp 2) (.tmp 57), none⟩])
                 .ret))))))))))))))))))
theorem s19 : slimF Try.f19 = some (c19, [.c 2 74], 58) := by kernel_rfl
theorem o19 : okF [(7, g7), (48, g48), (49, g49), (50, g50), (51, g51), (52, g52), (53, g53)] Try.f19 = true := by kernel_rfl
theorem p19 : Pure Try.prog 19 g19 := by
  refine semOf_pure fun ⟨τ, x⟩ n h2 hb => ?_
  have hT : Table Try.prog [(7, g7), (48, g48), (49, g49), (50, g50), (51, g51), (52, g52), (53, g53)] := (.cons p7 (.cons p48 (.cons p49 (.cons p50 (.cons p51 (.cons p52 (.cons p53 .nil)))))))
  refine SatP.of_body hT hm Try.func19 s19 o19 h2 (by simp) ?_
  have hb' : (x.name.size + ((x.state.base.length + (x.state.base.map enHead.tot).sum) + x.state.clients.length + (x.state.log.length + (x.state.log.map enEntry.tot).sum) + (x.state.chunks.length + (x.state.chunks.map enChunk.tot).sum)) + x.entry.name.size + (x.chunk.name.size + x.chunk.bytes.size) + x.op.bytes.size + x.body.size) ≤ 1048576 := by
    have := hb
    simp only [tot_Msg] at this
    exact this
  have hn0 : n ≠ 0 := by omega
  simp (config := {maxSteps := 4000000, implicitDefEqProofs := false}) [c19, go_sem, hn0]
  all_goals omega
end Go.Ve
