/- Comparisons of the program. No condition. -/
import Derived.Test.YtabpcpoclcmjiaaV2b
namespace Go.Ve
open Go.Proofs Go.RowKit
set_option linter.unusedVariables false
set_option linter.unusedSimpArgs false
set_option maxRecDepth 10000
set_option maxHeartbeats 4000000
theorem eqB_zip {α : Type} : ∀ {l l' : List α}, l.length = l'.length → eqB l l' = (l.zip l').all fun p => eqB p.1 p.2
  | [], [], _ => by simp [eqB]
  | x :: l, y :: l', h => by
    have ih := eqB_zip (l := l) (l' := l') (by simpa using h)
    simp only [List.zip_cons_cons, List.all_cons, ← ih]
    rw [Bool.eq_iff_iff]
    simp [eqB]
theorem eqB_ne_len {α : Type} {l l' : List α} (h : l.length ≠ l'.length) : eqB l l' = false := eqB_not.2 fun h' => h (by rw [h'])
theorem zip_parts2 {α : Type} {l l' : List α} (h : l.length = l'.length) {pre post : List (α × α)} {x : α × α} (hl : pre ++ x :: post = l.zip l') : l = (pre ++ x :: post).map Prod.fst ∧ l' = (pre ++ x :: post).map Prod.snd := by
  rw [hl]
  exact ⟨(List.map_fst_zip (by omega)).symm, (List.map_snd_zip (by omega)).symm⟩
theorem zip_nth {α : Type} {f g : α → AV} {l l' : List α} (h : l.length = l'.length) {pre post : List (α × α)} {x : α × α} (hl : pre ++ x :: post = l.zip l') : nth (l.map f) pre.length = f x.1 ∧ nth (l'.map g) pre.length = g x.2 ∧ l.length = pre.length + (post.length + 1) ∧ l'.length = pre.length + (post.length + 1) := by
  obtain ⟨h1, h2⟩ := zip_parts2 h hl
  refine ⟨?_, ?_, ?_, ?_⟩
  · rw [h1]; simp [nth]
  · rw [h2]; simp [nth]
  · rw [h1]; simp
  · rw [h2]; simp

theorem eqB_Pg {a b : Pg} : eqB a b = (decide (a.pool = b.pool) && decide (a.no = b.no)) := by
  rw [Bool.eq_iff_iff]; simp [eqB, eq_Pg, and_assoc]
theorem eqB_Ver {a b : Ver} : eqB a b = (decide (a.epoch = b.epoch) && decide (a.seq = b.seq)) := by
  rw [Bool.eq_iff_iff]; simp [eqB, eq_Ver, and_assoc]
theorem eqB_Req {a b : Req} : eqB a b = (decide (a.client = b.client) && decide (a.no = b.no)) := by
  rw [Bool.eq_iff_iff]; simp [eqB, eq_Req, and_assoc]
theorem eqB_Head {a b : Head} : eqB a b = (decide (a.name = b.name) && (decide (a.ver.epoch = b.ver.epoch) && (decide (a.ver.seq = b.ver.seq) && (decide (a.size = b.size) && decide (a.sum = b.sum))))) := by
  rw [Bool.eq_iff_iff]; simp [eqB, eq_Head, eq_Ver, and_assoc]
theorem eqB_Lst {a b : Lst} : eqB a b = (decide (a.client = b.client) && (decide (a.no = b.no) && (decide (a.ver.epoch = b.ver.epoch) && decide (a.ver.seq = b.ver.seq)))) := by
  rw [Bool.eq_iff_iff]; simp [eqB, eq_Lst, eq_Ver, and_assoc]
theorem eqB_Entry {a b : Entry} : eqB a b = (decide (a.ver.epoch = b.ver.epoch) && (decide (a.ver.seq = b.ver.seq) && (decide (a.prior.epoch = b.prior.epoch) && (decide (a.prior.seq = b.prior.seq) && (decide (a.name = b.name) && ((a.gone == b.gone) && (decide (a.size = b.size) && (decide (a.sum = b.sum) && (decide (a.req.client = b.req.client) && decide (a.req.no = b.req.no)))))))))) := by
  rw [Bool.eq_iff_iff]; simp [eqB, eq_Entry, eq_Req, eq_Ver, and_assoc]
theorem eqB_Chunk {a b : Chunk} : eqB a b = (decide (a.name = b.name) && (decide (a.ver.epoch = b.ver.epoch) && (decide (a.ver.seq = b.ver.seq) && (decide (a.pos = b.pos) && (decide (a.sum = b.sum) && decide (a.bytes = b.bytes)))))) := by
  rw [Bool.eq_iff_iff]; simp [eqB, eq_Chunk, eq_Ver, and_assoc]
theorem eqB_PgSt {a b : PgSt} : eqB a b = (eqB a.pg b.pg && (decide (a.seen = b.seen) && (decide (a.started = b.started) && (eqB a.tail b.tail && (eqB a.base b.base && (eqB a.clients b.clients && (eqB a.log b.log && (eqB a.firm b.firm && eqB a.chunks b.chunks)))))))) := by
  rw [Bool.eq_iff_iff]; simp [eqB, eq_PgSt, and_assoc]
theorem eqB_Store {a b : Store} : eqB a b = (eqB a.live b.live && eqB a.kept b.kept) := by
  rw [Bool.eq_iff_iff]; simp [eqB, eq_Store, and_assoc]
theorem eqB_Op {a b : Op} : eqB a b = (decide (a.kind = b.kind) && (decide (a.at_ = b.at_) && decide (a.bytes = b.bytes))) := by
  rw [Bool.eq_iff_iff]; simp [eqB, eq_Op, and_assoc]
theorem eqB_Msg {a b : Msg} : eqB a b = (decide (a.kind = b.kind) && (decide (a.from_ = b.from_) && (decide (a.to_ = b.to_) && (eqB a.pg b.pg && (decide (a.epoch = b.epoch) && (decide (a.name = b.name) && (eqB a.ver b.ver && (eqB a.firm b.firm && (eqB a.state b.state && (eqB a.entry b.entry && (eqB a.chunk b.chunk && (eqB a.op b.op && (eqB a.req b.req && (decide (a.code = b.code) && decide (a.body = b.body))))))))))))))) := by
  rw [Bool.eq_iff_iff]; simp [eqB, eq_Msg, and_assoc]
theorem s73 : slimF Try.f73 = some (eqC 27 108, [.t 4], 26) := by kernel_rfl
theorem o73 : okF [] Try.f73 = true := by kernel_rfl
noncomputable def g73 : Fsem := eqSem enHead.list enHead.list
@[go_sem] theorem g73_eq {n τ τ' : Nat} {x y : List Head} : g73 n [.sl τ 5 (x.map (enHead.av τ)), .sl τ' 5 (y.map (enHead.av τ'))] = ⟨True, .bool (eqB x y)⟩ := eqSem_eq (E := enHead.list) (E' := enHead.list) (n := n) (τ := τ) (τ' := τ') (x := x) (y := y)
theorem p73 : Pure Try.prog 73 g73 := eq_ok hm Try.func73 s73 o73 (by omega) ty_27 fit_108 fit_108 (fun τ x τ' x' => by simp [go_sem, eqB_Head])
theorem s74 : slimF Try.f74 = some (eqC 28 111, [.t 4], 26) := by kernel_rfl
theorem o74 : okF [] Try.f74 = true := by kernel_rfl
noncomputable def g74 : Fsem := eqSem enLst.list enLst.list
@[go_sem] theorem g74_eq {n τ τ' : Nat} {x y : List Lst} : g74 n [.sl τ 4 (x.map (enLst.av τ)), .sl τ' 4 (y.map (enLst.av τ'))] = ⟨True, .bool (eqB x y)⟩ := eqSem_eq (E := enLst.list) (E' := enLst.list) (n := n) (τ := τ) (τ' := τ') (x := x) (y := y)
theorem p74 : Pure Try.prog 74 g74 := eq_ok hm Try.func74 s74 o74 (by omega) ty_28 fit_111 fit_111 (fun τ x τ' x' => by simp [go_sem, eqB_Lst])
theorem s75 : slimF Try.f75 = some (eqC 29 69, [.t 4], 26) := by kernel_rfl
theorem o75 : okF [] Try.f75 = true := by kernel_rfl
noncomputable def g75 : Fsem := eqSem enEntry.list enEntry.list
@[go_sem] theorem g75_eq {n τ τ' : Nat} {x y : List Entry} : g75 n [.sl τ 10 (x.map (enEntry.av τ)), .sl τ' 10 (y.map (enEntry.av τ'))] = ⟨True, .bool (eqB x y)⟩ := eqSem_eq (E := enEntry.list) (E' := enEntry.list) (n := n) (τ := τ) (τ' := τ') (x := x) (y := y)
theorem p75 : Pure Try.prog 75 g75 := eq_ok hm Try.func75 s75 o75 (by omega) ty_29 fit_69 fit_69 (fun τ x τ' x' => by simp [go_sem, eqB_Entry])
theorem s76 : slimF Try.f76 = some (eqC 30 71, [.t 4], 26) := by kernel_rfl
theorem o76 : okF [] Try.f76 = true := by kernel_rfl
noncomputable def g76 : Fsem := eqSem enChunk.list enChunk.list
@[go_sem] theorem g76_eq {n τ τ' : Nat} {x y : List Chunk} : g76 n [.sl τ 6 (x.map (enChunk.av τ)), .sl τ' 6 (y.map (enChunk.av τ'))] = ⟨True, .bool (eqB x y)⟩ := eqSem_eq (E := enChunk.list) (E' := enChunk.list) (n := n) (τ := τ) (τ' := τ') (x := x) (y := y)
theorem p76 : Pure Try.prog 76 g76 := eq_ok hm Try.func76 s76 o76 (by omega) ty_30 fit_71 fit_71 (fun τ x τ' x' => by simp [go_sem, eqB_Chunk])
/- impl.sameState -/
def c54 : SCode := (.seq (.reg [⟨(some 2), .box 32 (.tmp 0), none⟩,
   ⟨(some 3), .box 32 (.tmp 1), none⟩,
   ⟨(some 4), .assign (.const (.bool false)), none⟩])
(.seq (.reg [⟨(some 5), .fieldAddr 32 (.tmp 2) 0, none⟩,
    ⟨(some 6), .load 24 (.tmp 5), none⟩,
    ⟨(some 7), .fieldAddr 32 (.tmp 3) 0, none⟩,
    ⟨(some 8), .load 24 (.tmp 7), none⟩,
    ⟨(some 9), .binOp .eql 24 (.tmp 6) (.tmp 8) 24, none⟩,
    ⟨(some 10), .move (.tmp 9), none⟩,
    ⟨(some 11), .fieldAddr 32 (.tmp 2) 1, (some (10, true))⟩,
    ⟨(some 12), .load 2 (.tmp 11), (some (10, true))⟩,
    ⟨(some 13), .fieldAddr 32 (.tmp 3) 1, (some (10, true))⟩,
    ⟨(some 14), .load 2 (.tmp 13), (some (10, true))⟩,
    ⟨(some 15), .binOp .eql 2 (.tmp 12) (.tmp 14) 2, (some (10, true))⟩,
    ⟨(some 16), .pick (.tmp 10) (.tmp 15) (.const (.bool false)), none⟩,
    ⟨(some 17), .move (.tmp 16), none⟩,
    ⟨(some 18), .fieldAddr 32 (.tmp 2) 2, (some (17, true))⟩,
    ⟨(some 19), .load 2 (.tmp 18), (some (17, true))⟩,
    ⟨(some 20), .fieldAddr 32 (.tmp 3) 2, (some (17, true))⟩,
    ⟨(some 21), .load 2 (.tmp 20), (some (17, true))⟩,
    ⟨(some 22), .binOp .eql 2 (.tmp 19) (.tmp 21) 2, (some (17, true))⟩,
    ⟨(some 23), .pick (.tmp 17) (.tmp 22) (.const (.bool false)), none⟩,
    ⟨(some 24), .move (.tmp 23), none⟩,
    ⟨(some 25), .fieldAddr 32 (.tmp 2) 3, (some (24, true))⟩,
    ⟨(some 26), .load 26 (.tmp 25), (some (24, true))⟩,
    ⟨(some 27), .fieldAddr 32 (.tmp 3) 3, (some (24, true))⟩,
    ⟨(some 28), .load 26 (.tmp 27), (some (24, true))⟩,
    ⟨(some 29), .binOp .eql 26 (.tmp 26) (.tmp 28) 26, (some (24, true))⟩,
    ⟨(some 30), .pick (.tmp 24) (.tmp 29) (.const (.bool false)), none⟩,
    ⟨(some 31), .move (.tmp 30), none⟩,
    ⟨(some 32), .fieldAddr 32 (.tmp 2) 7, (some (31, true))⟩,
    ⟨(some 33), .load 26 (.tmp 32), (some (31, true))⟩,
    ⟨(some 34), .fieldAddr 32 (.tmp 3) 7, (some (31, true))⟩,
    ⟨(some 35), .load 26 (.tmp 34), (some (31, true))⟩,
    ⟨(some 36), .binOp .eql 26 (.tmp 33) (.tmp 35) 26, (some (31, true))⟩,
    ⟨(some 37), .pick (.tmp 31) (.tmp 36) (.const (.bool false)), none⟩,
    ⟨(some 38), .move (.tmp 37), none⟩,
    ⟨(some 39), .fieldAddr 32 (.tmp 2) 4, (some (38, true))⟩,
    ⟨(some 40), .load 27 (.tmp 39), (some (38, true))⟩,
    ⟨(some 41), .fieldAddr 32 (.tmp 3) 4, (some (38, true))⟩,
    ⟨(some 42), .load 27 (.tmp 41), (some (38, true))⟩,
    ⟨(some 43), .call ⟨(.value (.func 73)), #[(.tmp 40), (.tmp 42)], #[27, 27]⟩, (some (38, true))⟩,
    ⟨(some 44), .pick (.tmp 38) (.tmp 43) (.const (.bool false)), none⟩,
    ⟨(some 45), .move (.tmp 44), none⟩,
    ⟨(some 46), .fieldAddr 32 (.tmp 2) 5, (some (45, true))⟩,
    ⟨(some 47), .load 28 (.tmp 46), (some (45, true))⟩,
    ⟨(some 48), .fieldAddr 32 (.tmp 3) 5, (some (45, true))⟩,
    ⟨(some 49), .load 28 (.tmp 48), (some (45, true))⟩,
    ⟨(some 50), .call ⟨(.value (.func 74)), #[(.tmp 47), (.tmp 49)], #[28, 28]⟩, (some (45, true))⟩,
    ⟨(some 51), .pick (.tmp 45) (.tmp 50) (.const (.bool false)), none⟩,
    ⟨(some 52), .move (.tmp 51), none⟩,
    ⟨(some 53), .fieldAddr 32 (.tmp 2) 6, (some (52, true))⟩,
    ⟨(some 54), .load 29 (.tmp 53), (some (52, true))⟩,
    ⟨(some 55), .fieldAddr 32 (.tmp 3) 6, (some (52, true))⟩,
    ⟨(some 56), .load 29 (.tmp 55), (some (52, true))⟩,
    ⟨(some 57), .call ⟨(.value (.func 75)), #[(.tmp 54), (.tmp 56)], #[29, 29]⟩, (some (52, true))⟩,
    ⟨(some 58), .pick (.tmp 52) (.tmp 57) (.const (.bool false)), none⟩,
    ⟨(some 59), .move (.tmp 58), none⟩,
    ⟨(some 60), .fieldAddr 32 (.tmp 2) 8, (some (59, true))⟩,
    ⟨(some 61), .load 30 (.tmp 60), (some (59, true))⟩,
    ⟨(some 62), .fieldAddr 32 (.tmp 3) 8, (some (59, true))⟩,
    ⟨(some 63), .load 30 (.tmp 62), (some (59, true))⟩,
    ⟨(some 64), .call ⟨(.value (.func 76)), #[(.tmp 61), (.tmp 63)], #[30, 30]⟩, (some (59, true))⟩,
    ⟨(some 65), .pick (.tmp 59) (.tmp 64) (.const (.bool false)), none⟩,
    ⟨(some 4), .assign (.tmp 65), none⟩])
 .ret))
theorem s54 : slimF Try.f54 = some (c54, [.t 4], 66) := by kernel_rfl
theorem o54 : okF [(73, g73), (74, g74), (75, g75), (76, g76)] Try.f54 = true := by kernel_rfl
noncomputable def g54 : Fsem := sem2 enPgSt enPgSt (fun x y => True) (fun n x y => .bool (eqB x y))
@[go_sem] theorem g54_eq {n τ τ' : Nat} {x : PgSt} {y : PgSt} : g54 n [.agg [.int .i64 x.pg.pool, .int .i64 x.pg.no, .int .i64 x.seen, .int .i64 x.started, .int .i64 x.tail.epoch, .int .i64 x.tail.seq, .sl τ 5 (x.base.map (enHead.av τ)), .sl τ 4 (x.clients.map (enLst.av τ)), .sl τ 10 (x.log.map (enEntry.av τ)), .int .i64 x.firm.epoch, .int .i64 x.firm.seq, .sl τ 6 (x.chunks.map (enChunk.av τ))], .agg [.int .i64 y.pg.pool, .int .i64 y.pg.no, .int .i64 y.seen, .int .i64 y.started, .int .i64 y.tail.epoch, .int .i64 y.tail.seq, .sl τ' 5 (y.base.map (enHead.av τ')), .sl τ' 4 (y.clients.map (enLst.av τ')), .sl τ' 10 (y.log.map (enEntry.av τ')), .int .i64 y.firm.epoch, .int .i64 y.firm.seq, .sl τ' 6 (y.chunks.map (enChunk.av τ'))]] = ⟨True, .bool (eqB x y)⟩ := sem2_eq  (E := enPgSt) (F := enPgSt)
theorem p54 : Pure Try.prog 54 g54 := by
  refine sem2_pure fun τ τ' x y n h2 hpre => ?_
  have hT : Table Try.prog [(73, g73), (74, g74), (75, g75), (76, g76)] := (.cons p73 (.cons p74 (.cons p75 (.cons p76 .nil))))
  have hn0 : n ≠ 0 := by omega
  refine SatP.of_body hT hm Try.func54 s54 o54 h2 (by simp) ?_
  rw [eqB_PgSt]
  simp (config := {contextual := true, maxSteps := 2000000, implicitDefEqProofs := false}) [c54, go_sem, eqB_Pg, eqB_Ver, eqB_Req, eqB_Head, eqB_Lst, eqB_Entry, eqB_Chunk, eqB_Op] <;> first | done | ac_rfl | grind (splits := 60)
theorem s64 : slimF Try.f64 = some (eqFuncC 43 32, [.t 6], 32) := by kernel_rfl
theorem o64 : okF [(54, g54)] Try.f64 = true := by kernel_rfl
noncomputable def g64 : Fsem := eqfSem enPgSt enPgSt 54
@[go_sem] theorem g64_eq {n τ τ' : Nat} {x y : List PgSt} : g64 n [.sl τ 12 (x.map (enPgSt.av τ)), .sl τ' 12 (y.map (enPgSt.av τ')), .fn 54 []] = ⟨True, .bool (eqB x y)⟩ := eqfSem_eq (E := enPgSt) (E' := enPgSt) (n := n) (fe := 54) (τ := τ) (τ' := τ') (x := x) (y := y)
theorem p64 : Pure Try.prog 64 g64 := eqFunc_ok hm Try.func64 s64 o64 (by omega) ty_43 fit_32 fit_32 fitz_32 p54 (fun n τ x τ' x' => by simp [go_sem])
/- impl.sameStates -/
def c41 : SCode := (.seq (.reg [⟨(some 4), .assign (.const (.bool false)), none⟩])
(.seq (.reg [⟨(some 5), .move (.tmp 0), none⟩,
    ⟨(some 6), .move (.tmp 1), none⟩,
    ⟨(some 7), .call ⟨(.value (.func 64)), #[(.tmp 5), (.tmp 6), (.func 54)], #[43, 43, 35]⟩, none⟩,
    ⟨(some 4), .assign (.tmp 7), none⟩])
 .ret))
theorem s41 : slimF Try.f41 = some (c41, [.t 4], 8) := by kernel_rfl
theorem o41 : okF [(64, g64), (54, g54)] Try.f41 = true := by kernel_rfl
noncomputable def g41 : Fsem := sem2 enPgSt.list enPgSt.list (fun x y => True) (fun n x y => .bool (eqB x y))
@[go_sem] theorem g41_eq {n τ τ' : Nat} {x : List PgSt} {y : List PgSt} : g41 n [.sl τ 12 (x.map (enPgSt.av τ)), .sl τ' 12 (y.map (enPgSt.av τ'))] = ⟨True, .bool (eqB x y)⟩ := sem2_eq  (E := enPgSt.list) (F := enPgSt.list)
theorem p41 : Pure Try.prog 41 g41 := by
  refine sem2_pure fun τ τ' x y n h2 hpre => ?_
  have hT : Table Try.prog [(64, g64), (54, g54)] := (.cons p64 (.cons p54 .nil))
  have hn0 : n ≠ 0 := by omega
  refine SatP.of_body hT hm Try.func41 s41 o41 h2 (by simp) ?_
  simp (config := {contextual := true, maxSteps := 2000000, implicitDefEqProofs := false}) [c41, go_sem]
/- impl.SameStore -/
def c15 : SCode := (.seq (.reg [⟨(some 2), .box 45 (.tmp 0), none⟩,
   ⟨(some 3), .box 45 (.tmp 1), none⟩,
   ⟨(some 4), .assign (.const (.bool false)), none⟩])
(.seq (.reg [⟨(some 5), .fieldAddr 45 (.tmp 2) 0, none⟩,
    ⟨(some 6), .load 43 (.tmp 5), none⟩,
    ⟨(some 7), .fieldAddr 45 (.tmp 3) 0, none⟩,
    ⟨(some 8), .load 43 (.tmp 7), none⟩,
    ⟨(some 9), .call ⟨(.value (.func 41)), #[(.tmp 6), (.tmp 8)], #[43, 43]⟩, none⟩,
    ⟨(some 10), .move (.tmp 9), none⟩,
    ⟨(some 11), .fieldAddr 45 (.tmp 2) 1, (some (10, true))⟩,
    ⟨(some 12), .load 43 (.tmp 11), (some (10, true))⟩,
    ⟨(some 13), .fieldAddr 45 (.tmp 3) 1, (some (10, true))⟩,
    ⟨(some 14), .load 43 (.tmp 13), (some (10, true))⟩,
    ⟨(some 15), .call ⟨(.value (.func 41)), #[(.tmp 12), (.tmp 14)], #[43, 43]⟩, (some (10, true))⟩,
    ⟨(some 16), .pick (.tmp 10) (.tmp 15) (.const (.bool false)), none⟩,
    ⟨(some 4), .assign (.tmp 16), none⟩])
 .ret))
theorem s15 : slimF Try.f15 = some (c15, [.t 4], 17) := by kernel_rfl
theorem o15 : okF [(41, g41)] Try.f15 = true := by kernel_rfl
noncomputable def g15 : Fsem := sem2 enStore enStore (fun x y => True) (fun n x y => .bool (eqB x y))
@[go_sem] theorem g15_eq {n τ τ' : Nat} {x : Store} {y : Store} : g15 n [.agg [.sl τ 12 (x.live.map (enPgSt.av τ)), .sl τ 12 (x.kept.map (enPgSt.av τ))], .agg [.sl τ' 12 (y.live.map (enPgSt.av τ')), .sl τ' 12 (y.kept.map (enPgSt.av τ'))]] = ⟨True, .bool (eqB x y)⟩ := sem2_eq  (E := enStore) (F := enStore)
theorem p15 : Pure Try.prog 15 g15 := by
  refine sem2_pure fun τ τ' x y n h2 hpre => ?_
  have hT : Table Try.prog [(41, g41)] := (.cons p41 .nil)
  have hn0 : n ≠ 0 := by omega
  refine SatP.of_body hT hm Try.func15 s15 o15 h2 (by simp) ?_
  rw [eqB_Store]
  simp (config := {contextual := true, maxSteps := 2000000, implicitDefEqProofs := false}) [c15, go_sem]
/- impl.MsgSame -/
def c20 : SCode := (.seq (.reg [⟨(some 2), .box 74 (.tmp 0), none⟩,
   ⟨(some 3), .box 74 (.tmp 1), none⟩,
   ⟨(some 4), .assign (.const (.bool false)), none⟩])
(.seq (.reg [⟨(some 5), .fieldAddr 74 (.tmp 2) 0, none⟩,
    ⟨(some 6), .load 2 (.tmp 5), none⟩,
    ⟨(some 7), .fieldAddr 74 (.tmp 3) 0, none⟩,
    ⟨(some 8), .load 2 (.tmp 7), none⟩,
    ⟨(some 9), .binOp .eql 2 (.tmp 6) (.tmp 8) 2, none⟩,
    ⟨(some 10), .move (.tmp 9), none⟩,
    ⟨(some 11), .fieldAddr 74 (.tmp 2) 1, (some (10, true))⟩,
    ⟨(some 12), .load 2 (.tmp 11), (some (10, true))⟩,
    ⟨(some 13), .fieldAddr 74 (.tmp 3) 1, (some (10, true))⟩,
    ⟨(some 14), .load 2 (.tmp 13), (some (10, true))⟩,
    ⟨(some 15), .binOp .eql 2 (.tmp 12) (.tmp 14) 2, (some (10, true))⟩,
    ⟨(some 16), .pick (.tmp 10) (.tmp 15) (.const (.bool false)), none⟩,
    ⟨(some 17), .move (.tmp 16), none⟩,
    ⟨(some 18), .fieldAddr 74 (.tmp 2) 2, (some (17, true))⟩,
    ⟨(some 19), .load 2 (.tmp 18), (some (17, true))⟩,
    ⟨(some 20), .fieldAddr 74 (.tmp 3) 2, (some (17, true))⟩,
    ⟨(some 21), .load 2 (.tmp 20), (some (17, true))⟩,
    ⟨(some 22), .binOp .eql 2 (.tmp 19) (.tmp 21) 2, (some (17, true))⟩,
    ⟨(some 23), .pick (.tmp 17) (.tmp 22) (.const (.bool false)), none⟩,
    ⟨(some 24), .move (.tmp 23), none⟩,
    ⟨(some 25), .fieldAddr 74 (.tmp 2) 3, (some (24, true))⟩,
    ⟨(some 26), .load 24 (.tmp 25), (some (24, true))⟩,
    ⟨(some 27), .fieldAddr 74 (.tmp 3) 3, (some (24, true))⟩,
    ⟨(some 28), .load 24 (.tmp 27), (some (24, true))⟩,
    ⟨(some 29), .binOp .eql 24 (.tmp 26) (.tmp 28) 24, (some (24, true))⟩,
    ⟨(some 30), .pick (.tmp 24) (.tmp 29) (.const (.bool false)), none⟩,
    ⟨(some 31), .move (.tmp 30), none⟩,
    ⟨(some 32), .fieldAddr 74 (.tmp 2) 4, (some (31, true))⟩,
    ⟨(some 33), .load 2 (.tmp 32), (some (31, true))⟩,
    ⟨(some 34), .fieldAddr 74 (.tmp 3) 4, (some (31, true))⟩,
    ⟨(some 35), .load 2 (.tmp 34), (some (31, true))⟩,
    ⟨(some 36), .binOp .eql 2 (.tmp 33) (.tmp 35) 2, (some (31, true))⟩,
    ⟨(some 37), .pick (.tmp 31) (.tmp 36) (.const (.bool false)), none⟩,
    ⟨(some 38), .move (.tmp 37), none⟩,
    ⟨(some 39), .fieldAddr 74 (.tmp 2) 5, (some (38, true))⟩,
    ⟨(some 40), .load 9 (.tmp 39), (some (38, true))⟩,
    ⟨(some 41), .fieldAddr 74 (.tmp 3) 5, (some (38, true))⟩,
    ⟨(some 42), .load 9 (.tmp 41), (some (38, true))⟩,
    ⟨(some 43), .binOp .eql 9 (.tmp 40) (.tmp 42) 9, (some (38, true))⟩,
    ⟨(some 44), .pick (.tmp 38) (.tmp 43) (.const (.bool false)), none⟩,
    ⟨(some 45), .move (.tmp 44), none⟩,
    ⟨(some 46), .fieldAddr 74 (.tmp 2) 6, (some (45, true))⟩,
    ⟨(some 47), .load 26 (.tmp 46), (some (45, true))⟩,
    ⟨(some 48), .fieldAddr 74 (.tmp 3) 6, (some (45, true))⟩,
    ⟨(some 49), .load 26 (.tmp 48), (some (45, true))⟩,
    ⟨(some 50), .binOp .eql 26 (.tmp 47) (.tmp 49) 26, (some (45, true))⟩,
    ⟨(some 51), .pick (.tmp 45) (.tmp 50) (.const (.bool false)), none⟩,
    ⟨(some 52), .move (.tmp 51), none⟩,
    ⟨(some 53), .fieldAddr 74 (.tmp 2) 7, (some (52, true))⟩,
    ⟨(some 54), .load 26 (.tmp 53), (some (52, true))⟩,
    ⟨(some 55), .fieldAddr 74 (.tmp 3) 7, (some (52, true))⟩,
    ⟨(some 56), .load 26 (.tmp 55), (some (52, true))⟩,
    ⟨(some 57), .binOp .eql 26 (.tmp 54) (.tmp 56) 26, (some (52, true))⟩,
    ⟨(some 58), .pick (.tmp 52) (.tmp 57) (.const (.bool false)), none⟩,
    ⟨(some 59), .move (.tmp 58), none⟩,
    ⟨(some 60), .fieldAddr 74 (.tmp 2) 8, (some (59, true))⟩,
    ⟨(some 61), .load 32 (.tmp 60), (some (59, true))⟩,
    ⟨(some 62), .fieldAddr 74 (.tmp 3) 8, (some (59, true))⟩,
    ⟨(some 63), .load 32 (.tmp 62), (some (59, true))⟩,
    ⟨(some 64), .call ⟨(.value (.func 54)), #[(.tmp 61), (.tmp 63)], #[32, 32]⟩, (some (59, true))⟩,
    ⟨(some 65), .pick (.tmp 59) (.tmp 64) (.const (.bool false)), none⟩,
    ⟨(some 66), .move (.tmp 65), none⟩,
    ⟨(some 67), .fieldAddr 74 (.tmp 2) 9, (some (66, true))⟩,
    ⟨(some 68), .load 69 (.tmp 67), (some (66, true))⟩,
    ⟨(some 69), .fieldAddr 74 (.tmp 3) 9, (some (66, true))⟩,
    ⟨(some 70), .load 69 (.tmp 69), (some (66, true))⟩,
    ⟨(some 71), .binOp .eql 69 (.tmp 68) (.tmp 70) 69, (some (66, true))⟩,
    ⟨(some 72), .pick (.tmp 66) (.tmp 71) (.const (.bool false)), none⟩,
    ⟨(some 73), .move (.tmp 72), none⟩,
    ⟨(some 74), .fieldAddr 74 (.tmp 2) 10, (some (73, true))⟩,
    ⟨(some 75), .load 71 (.tmp 74), (some (73, true))⟩,
    ⟨(some 76), .fieldAddr 74 (.tmp 3) 10, (some (73, true))⟩,
    ⟨(some 77), .load 71 (.tmp 76), (some (73, true))⟩,
    ⟨(some 78), .binOp .eql 71 (.tmp 75) (.tmp 77) 71, (some (73, true))⟩,
    ⟨(some 79), .pick (.tmp 73) (.tmp 78) (.const (.bool false)), none⟩,
    ⟨(some 80), .move (.tmp 79), none⟩,
    ⟨(some 81), .fieldAddr 74 (.tmp 2) 11, (some (80, true))⟩,
    ⟨(some 82), .load 72 (.tmp 81), (some (80, true))⟩,
    ⟨(some 83), .fieldAddr 74 (.tmp 3) 11, (some (80, true))⟩,
    ⟨(some 84), .load 72 (.tmp 83), (some (80, true))⟩,
    ⟨(some 85), .binOp .eql 72 (.tmp 82) (.tmp 84) 72, (some (80, true))⟩,
    ⟨(some 86), .pick (.tmp 80) (.tmp 85) (.const (.bool false)), none⟩,
    ⟨(some 87), .move (.tmp 86), none⟩,
    ⟨(some 88), .fieldAddr 74 (.tmp 2) 12, (some (87, true))⟩,
    ⟨(some 89), .load 67 (.tmp 88), (some (87, true))⟩,
    ⟨(some 90), .fieldAddr 74 (.tmp 3) 12, (some (87, true))⟩,
    ⟨(some 91), .load 67 (.tmp 90), (some (87, true))⟩,
    ⟨(some 92), .binOp .eql 67 (.tmp 89) (.tmp 91) 67, (some (87, true))⟩,
    ⟨(some 93), .pick (.tmp 87) (.tmp 92) (.const (.bool false)), none⟩,
    ⟨(some 94), .move (.tmp 93), none⟩,
    ⟨(some 95), .fieldAddr 74 (.tmp 2) 13, (some (94, true))⟩,
    ⟨(some 96), .load 2 (.tmp 95), (some (94, true))⟩,
    ⟨(some 97), .fieldAddr 74 (.tmp 3) 13, (some (94, true))⟩,
    ⟨(some 98), .load 2 (.tmp 97), (some (94, true))⟩,
    ⟨(some 99), .binOp .eql 2 (.tmp 96) (.tmp 98) 2, (some (94, true))⟩,
    ⟨(some 100), .pick (.tmp 94) (.tmp 99) (.const (.bool false)), none⟩,
    ⟨(some 101), .move (.tmp 100), none⟩,
    ⟨(some 102), .fieldAddr 74 (.tmp 2) 14, (some (101, true))⟩,
    ⟨(some 103), .load 9 (.tmp 102), (some (101, true))⟩,
    ⟨(some 104), .fieldAddr 74 (.tmp 3) 14, (some (101, true))⟩,
    ⟨(some 105), .load 9 (.tmp 104), (some (101, true))⟩,
    ⟨(some 106), .binOp .eql 9 (.tmp 103) (.tmp 105) 9, (some (101, true))⟩,
    ⟨(some 107), .pick (.tmp 101) (.tmp 106) (.const (.bool false)), none⟩,
    ⟨(some 4), .assign (.tmp 107), none⟩])
 .ret))
theorem s20 : slimF Try.f20 = some (c20, [.t 4], 108) := by kernel_rfl
theorem o20 : okF [(54, g54)] Try.f20 = true := by kernel_rfl
noncomputable def g20 : Fsem := sem2 enMsg enMsg (fun x y => True) (fun n x y => .bool (eqB x y))
@[go_sem] theorem g20_eq {n τ τ' : Nat} {x : Msg} {y : Msg} : g20 n [.agg [.int .i64 x.kind, .int .i64 x.from_, .int .i64 x.to_, .int .i64 x.pg.pool, .int .i64 x.pg.no, .int .i64 x.epoch, .str x.name, .int .i64 x.ver.epoch, .int .i64 x.ver.seq, .int .i64 x.firm.epoch, .int .i64 x.firm.seq, .int .i64 x.state.pg.pool, .int .i64 x.state.pg.no, .int .i64 x.state.seen, .int .i64 x.state.started, .int .i64 x.state.tail.epoch, .int .i64 x.state.tail.seq, .sl τ 5 (x.state.base.map (enHead.av τ)), .sl τ 4 (x.state.clients.map (enLst.av τ)), .sl τ 10 (x.state.log.map (enEntry.av τ)), .int .i64 x.state.firm.epoch, .int .i64 x.state.firm.seq, .sl τ 6 (x.state.chunks.map (enChunk.av τ)), .int .i64 x.entry.ver.epoch, .int .i64 x.entry.ver.seq, .int .i64 x.entry.prior.epoch, .int .i64 x.entry.prior.seq, .str x.entry.name, .bool x.entry.gone, .int .i64 x.entry.size, .int .i64 x.entry.sum, .int .i64 x.entry.req.client, .int .i64 x.entry.req.no, .str x.chunk.name, .int .i64 x.chunk.ver.epoch, .int .i64 x.chunk.ver.seq, .int .i64 x.chunk.pos, .int .i64 x.chunk.sum, .str x.chunk.bytes, .int .i64 x.op.kind, .int .i64 x.op.at_, .str x.op.bytes, .int .i64 x.req.client, .int .i64 x.req.no, .int .i64 x.code, .str x.body], .agg [.int .i64 y.kind, .int .i64 y.from_, .int .i64 y.to_, .int .i64 y.pg.pool, .int .i64 y.pg.no, .int .i64 y.epoch, .str y.name, .int .i64 y.ver.epoch, .int .i64 y.ver.seq, .int .i64 y.firm.epoch, .int .i64 y.firm.seq, .int .i64 y.state.pg.pool, .int .i64 y.state.pg.no, .int .i64 y.state.seen, .int .i64 y.state.started, .int .i64 y.state.tail.epoch, .int .i64 y.state.tail.seq, .sl τ' 5 (y.state.base.map (enHead.av τ')), .sl τ' 4 (y.state.clients.map (enLst.av τ')), .sl τ' 10 (y.state.log.map (enEntry.av τ')), .int .i64 y.state.firm.epoch, .int .i64 y.state.firm.seq, .sl τ' 6 (y.state.chunks.map (enChunk.av τ')), .int .i64 y.entry.ver.epoch, .int .i64 y.entry.ver.seq, .int .i64 y.entry.prior.epoch, .int .i64 y.entry.prior.seq, .str y.entry.name, .bool y.entry.gone, .int .i64 y.entry.size, .int .i64 y.entry.sum, .int .i64 y.entry.req.client, .int .i64 y.entry.req.no, .str y.chunk.name, .int .i64 y.chunk.ver.epoch, .int .i64 y.chunk.ver.seq, .int .i64 y.chunk.pos, .int .i64 y.chunk.sum, .str y.chunk.bytes, .int .i64 y.op.kind, .int .i64 y.op.at_, .str y.op.bytes, .int .i64 y.req.client, .int .i64 y.req.no, .int .i64 y.code, .str y.body]] = ⟨True, .bool (eqB x y)⟩ := sem2_eq  (E := enMsg) (F := enMsg)
theorem p20 : Pure Try.prog 20 g20 := by
  refine sem2_pure fun τ τ' x y n h2 hpre => ?_
  have hT : Table Try.prog [(54, g54)] := (.cons p54 .nil)
  have hn0 : n ≠ 0 := by omega
  refine SatP.of_body hT hm Try.func20 s20 o20 h2 (by simp) ?_
  rw [eqB_Msg]
  simp (config := {contextual := true, maxSteps := 2000000, implicitDefEqProofs := false}) [c20, go_sem, eqB_Pg, eqB_Ver, eqB_Req, eqB_Head, eqB_Lst, eqB_Entry, eqB_Chunk, eqB_Op] <;> first | done | ac_rfl | grind (splits := 60)
end Go.Ve
