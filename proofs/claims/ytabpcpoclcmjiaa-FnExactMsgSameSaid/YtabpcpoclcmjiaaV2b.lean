/- The laws' helpers of the seat: comparisons. No condition. -/
import Derived.Test.YtabpcpoclcmjiaaV2
namespace Go.Ve
open Go.Proofs Go.RowKit
set_option linter.unusedVariables false
set_option linter.unusedSimpArgs false
set_option maxRecDepth 10000
set_option maxHeartbeats 4000000
/- laws.eqPg -/
noncomputable def g24 : Fsem := eqSem enPg enPg
@[go_sem] theorem g24_eq {n : Nat} {x y : Pg} : g24 n [.agg [.int .i64 x.pool, .int .i64 x.no], .agg [.int .i64 y.pool, .int .i64 y.no]] = ⟨True, .bool (eqB x y)⟩ := eqSem_eq (E := enPg) (E' := enPg) (n := n) (τ := 0) (τ' := 0) (x := x) (y := y)
def c24 : SCode := (.seq (.reg [⟨(some 2), .box 24 (.tmp 0), none⟩,
   ⟨(some 3), .box 24 (.tmp 1), none⟩,
   ⟨(some 4), .assign (.const (.bool false)), none⟩])
(.seq (.seq (.reg [⟨(some 5), .fieldAddr 24 (.tmp 2) 0, none⟩,
     ⟨(some 6), .load 2 (.tmp 5), none⟩,
     ⟨(some 7), .fieldAddr 24 (.tmp 3) 0, none⟩,
     ⟨(some 8), .load 2 (.tmp 7), none⟩,
     ⟨(some 9), .binOp .neq 2 (.tmp 6) (.tmp 8) 2, none⟩])
  (.cond (.tmp 9) (.seq (.reg [⟨(some 4), .assign (.const (.bool false)), none⟩])
    .ret)
   .skip))
 (.seq (.seq (.reg [⟨(some 10), .fieldAddr 24 (.tmp 2) 1, none⟩,
      ⟨(some 11), .load 2 (.tmp 10), none⟩,
      ⟨(some 12), .fieldAddr 24 (.tmp 3) 1, none⟩,
      ⟨(some 13), .load 2 (.tmp 12), none⟩,
      ⟨(some 14), .binOp .neq 2 (.tmp 11) (.tmp 13) 2, none⟩])
   (.cond (.tmp 14) (.seq (.reg [⟨(some 4), .assign (.const (.bool false)), none⟩])
     .ret)
    .skip))
  (.seq (.reg [⟨(some 4), .assign (.const (.bool true)), none⟩])
   .ret))))
theorem s24 : slimF Try.f24 = some (c24, [.t 4], 15) := by kernel_rfl
theorem o24 : okF [] Try.f24 = true := by kernel_rfl
theorem p24 : Pure Try.prog 24 g24 := by
  refine semOf_pure fun ⟨τ, τ', x, y⟩ n h2 _ => ?_
  have hT : Table Try.prog [] := .nil
  refine SatP.of_body hT hm Try.func24 s24 o24 h2 (by simp) ?_
  rcases Bool.eq_false_or_eq_true (eqB x y) with hxy | hxy
  · rw [hxy]
    have h := eqB_iff.1 hxy
    subst h
    simp (config := {contextual := true, maxSteps := 4000000, implicitDefEqProofs := false}) [c24, go_sem, eqB_iff, eqB_not]
  · rw [hxy]
    have h := eqB_not.1 hxy
    rw [eq_Pg] at h
    simp (config := {contextual := true, maxSteps := 4000000, implicitDefEqProofs := false}) [c24, go_sem, eqB_iff, eqB_not]
    simpa using h
/- laws.eqVer -/
noncomputable def g25 : Fsem := eqSem enVer enVer
@[go_sem] theorem g25_eq {n : Nat} {x y : Ver} : g25 n [.agg [.int .i64 x.epoch, .int .i64 x.seq], .agg [.int .i64 y.epoch, .int .i64 y.seq]] = ⟨True, .bool (eqB x y)⟩ := eqSem_eq (E := enVer) (E' := enVer) (n := n) (τ := 0) (τ' := 0) (x := x) (y := y)
def c25 : SCode := (.seq (.reg [⟨(some 2), .box 26 (.tmp 0), none⟩,
   ⟨(some 3), .box 26 (.tmp 1), none⟩,
   ⟨(some 4), .assign (.const (.bool false)), none⟩])
(.seq (.seq (.reg [⟨(some 5), .fieldAddr 26 (.tmp 2) 0, none⟩,
     ⟨(some 6), .load 2 (.tmp 5), none⟩,
     ⟨(some 7), .fieldAddr 26 (.tmp 3) 0, none⟩,
     ⟨(some 8), .load 2 (.tmp 7), none⟩,
     ⟨(some 9), .binOp .neq 2 (.tmp 6) (.tmp 8) 2, none⟩])
  (.cond (.tmp 9) (.seq (.reg [⟨(some 4), .assign (.const (.bool false)), none⟩])
    .ret)
   .skip))
 (.seq (.seq (.reg [⟨(some 10), .fieldAddr 26 (.tmp 2) 1, none⟩,
      ⟨(some 11), .load 2 (.tmp 10), none⟩,
      ⟨(some 12), .fieldAddr 26 (.tmp 3) 1, none⟩,
      ⟨(some 13), .load 2 (.tmp 12), none⟩,
      ⟨(some 14), .binOp .neq 2 (.tmp 11) (.tmp 13) 2, none⟩])
   (.cond (.tmp 14) (.seq (.reg [⟨(some 4), .assign (.const (.bool false)), none⟩])
     .ret)
    .skip))
  (.seq (.reg [⟨(some 4), .assign (.const (.bool true)), none⟩])
   .ret))))
theorem s25 : slimF Try.f25 = some (c25, [.t 4], 15) := by kernel_rfl
theorem o25 : okF [] Try.f25 = true := by kernel_rfl
theorem p25 : Pure Try.prog 25 g25 := by
  refine semOf_pure fun ⟨τ, τ', x, y⟩ n h2 _ => ?_
  have hT : Table Try.prog [] := .nil
  refine SatP.of_body hT hm Try.func25 s25 o25 h2 (by simp) ?_
  rcases Bool.eq_false_or_eq_true (eqB x y) with hxy | hxy
  · rw [hxy]
    have h := eqB_iff.1 hxy
    subst h
    simp (config := {contextual := true, maxSteps := 4000000, implicitDefEqProofs := false}) [c25, go_sem, eqB_iff, eqB_not]
  · rw [hxy]
    have h := eqB_not.1 hxy
    rw [eq_Ver] at h
    simp (config := {contextual := true, maxSteps := 4000000, implicitDefEqProofs := false}) [c25, go_sem, eqB_iff, eqB_not]
    simpa using h
/- laws.eqHead -/
noncomputable def g61 : Fsem := eqSem enHead enHead
@[go_sem] theorem g61_eq {n : Nat} {x y : Head} : g61 n [.agg [.str x.name, .int .i64 x.ver.epoch, .int .i64 x.ver.seq, .int .i64 x.size, .int .i64 x.sum], .agg [.str y.name, .int .i64 y.ver.epoch, .int .i64 y.ver.seq, .int .i64 y.size, .int .i64 y.sum]] = ⟨True, .bool (eqB x y)⟩ := eqSem_eq (E := enHead) (E' := enHead) (n := n) (τ := 0) (τ' := 0) (x := x) (y := y)
def c61 : SCode := (.seq (.reg [⟨(some 2), .box 108 (.tmp 0), none⟩,
   ⟨(some 3), .box 108 (.tmp 1), none⟩,
   ⟨(some 4), .assign (.const (.bool false)), none⟩])
(.seq (.seq (.reg [⟨(some 5), .fieldAddr 108 (.tmp 2) 0, none⟩,
     ⟨(some 6), .load 9 (.tmp 5), none⟩,
     ⟨(some 7), .fieldAddr 108 (.tmp 3) 0, none⟩,
     ⟨(some 8), .load 9 (.tmp 7), none⟩,
     ⟨(some 9), .binOp .neq 9 (.tmp 6) (.tmp 8) 9, none⟩])
  (.cond (.tmp 9) (.seq (.reg [⟨(some 4), .assign (.const (.bool false)), none⟩])
    .ret)
   .skip))
 (.seq (.seq (.reg [⟨(some 10), .fieldAddr 108 (.tmp 2) 1, none⟩,
      ⟨(some 11), .load 26 (.tmp 10), none⟩,
      ⟨(some 12), .fieldAddr 108 (.tmp 3) 1, none⟩,
      ⟨(some 13), .load 26 (.tmp 12), none⟩,
      ⟨(some 14), .call ⟨(.value (.func 25)), #[(.tmp 11), (.tmp 13)], #[26, 26]⟩, none⟩,
      ⟨(some 15), .unOp .not 4 (.tmp 14), none⟩])
   (.cond (.tmp 15) (.seq (.reg [⟨(some 4), .assign (.const (.bool false)), none⟩])
     .ret)
    .skip))
  (.seq (.seq (.reg [⟨(some 16), .fieldAddr 108 (.tmp 2) 2, none⟩,
       ⟨(some 17), .load 2 (.tmp 16), none⟩,
       ⟨(some 18), .fieldAddr 108 (.tmp 3) 2, none⟩,
       ⟨(some 19), .load 2 (.tmp 18), none⟩,
       ⟨(some 20), .binOp .neq 2 (.tmp 17) (.tmp 19) 2, none⟩])
    (.cond (.tmp 20) (.seq (.reg [⟨(some 4), .assign (.const (.bool false)), none⟩])
      .ret)
     .skip))
   (.seq (.seq (.reg [⟨(some 21), .fieldAddr 108 (.tmp 2) 3, none⟩,
        ⟨(some 22), .load 2 (.tmp 21), none⟩,
        ⟨(some 23), .fieldAddr 108 (.tmp 3) 3, none⟩,
        ⟨(some 24), .load 2 (.tmp 23), none⟩,
        ⟨(some 25), .binOp .neq 2 (.tmp 22) (.tmp 24) 2, none⟩])
     (.cond (.tmp 25) (.seq (.reg [⟨(some 4), .assign (.const (.bool false)), none⟩])
       .ret)
      .skip))
    (.seq (.reg [⟨(some 4), .assign (.const (.bool true)), none⟩])
     .ret))))))
theorem s61 : slimF Try.f61 = some (c61, [.t 4], 26) := by kernel_rfl
theorem o61 : okF [(25, g25)] Try.f61 = true := by kernel_rfl
theorem p61 : Pure Try.prog 61 g61 := by
  refine semOf_pure fun ⟨τ, τ', x, y⟩ n h2 _ => ?_
  have hT : Table Try.prog [(25, g25)] := (.cons p25 .nil)
  refine SatP.of_body hT hm Try.func61 s61 o61 h2 (by simp) ?_
  rcases Bool.eq_false_or_eq_true (eqB x y) with hxy | hxy
  · rw [hxy]
    have h := eqB_iff.1 hxy
    subst h
    simp (config := {contextual := true, maxSteps := 4000000, implicitDefEqProofs := false}) [c61, go_sem, eqB_iff, eqB_not]
  · rw [hxy]
    have h := eqB_not.1 hxy
    rw [eq_Head] at h
    simp (config := {contextual := true, maxSteps := 4000000, implicitDefEqProofs := false}) [c61, go_sem, eqB_iff, eqB_not]
    simpa using h
/- laws.eqHeadS -/
noncomputable def g26 : Fsem := eqSem enHead.list enHead.list
@[go_sem] theorem g26_eq {n τ τ' : Nat} {x y : List Head} : g26 n [.sl τ 5 (x.map (enHead.av τ)), .sl τ' 5 (y.map (enHead.av τ'))] = ⟨True, .bool (eqB x y)⟩ := eqSem_eq (E := enHead.list) (E' := enHead.list) (n := n) (τ := τ) (τ' := τ') (x := x) (y := y)
theorem s26 : slimF Try.f26 = some (eqDeepC 3 4 27 108 61, [.t 4], 27) := by kernel_rfl
theorem o26 : okF [(61, g61)] Try.f26 = true := by kernel_rfl
theorem p26 : Pure Try.prog 26 g26 := eqDeep_ok hm Try.func26 s26 o26 (by omega) ty_27 fit_108 fit_108 p61 (fun n τ x τ' x' => eqSem_eq)
/- laws.eqLast -/
noncomputable def g62 : Fsem := eqSem enLst enLst
@[go_sem] theorem g62_eq {n : Nat} {x y : Lst} : g62 n [.agg [.int .i64 x.client, .int .i64 x.no, .int .i64 x.ver.epoch, .int .i64 x.ver.seq], .agg [.int .i64 y.client, .int .i64 y.no, .int .i64 y.ver.epoch, .int .i64 y.ver.seq]] = ⟨True, .bool (eqB x y)⟩ := eqSem_eq (E := enLst) (E' := enLst) (n := n) (τ := 0) (τ' := 0) (x := x) (y := y)
def c62 : SCode := (.seq (.reg [⟨(some 2), .box 111 (.tmp 0), none⟩,
   ⟨(some 3), .box 111 (.tmp 1), none⟩,
   ⟨(some 4), .assign (.const (.bool false)), none⟩])
(.seq (.seq (.reg [⟨(some 5), .fieldAddr 111 (.tmp 2) 0, none⟩,
     ⟨(some 6), .load 2 (.tmp 5), none⟩,
     ⟨(some 7), .fieldAddr 111 (.tmp 3) 0, none⟩,
     ⟨(some 8), .load 2 (.tmp 7), none⟩,
     ⟨(some 9), .binOp .neq 2 (.tmp 6) (.tmp 8) 2, none⟩])
  (.cond (.tmp 9) (.seq (.reg [⟨(some 4), .assign (.const (.bool false)), none⟩])
    .ret)
   .skip))
 (.seq (.seq (.reg [⟨(some 10), .fieldAddr 111 (.tmp 2) 1, none⟩,
      ⟨(some 11), .load 2 (.tmp 10), none⟩,
      ⟨(some 12), .fieldAddr 111 (.tmp 3) 1, none⟩,
      ⟨(some 13), .load 2 (.tmp 12), none⟩,
      ⟨(some 14), .binOp .neq 2 (.tmp 11) (.tmp 13) 2, none⟩])
   (.cond (.tmp 14) (.seq (.reg [⟨(some 4), .assign (.const (.bool false)), none⟩])
     .ret)
    .skip))
  (.seq (.seq (.reg [⟨(some 15), .fieldAddr 111 (.tmp 2) 2, none⟩,
       ⟨(some 16), .load 26 (.tmp 15), none⟩,
       ⟨(some 17), .fieldAddr 111 (.tmp 3) 2, none⟩,
       ⟨(some 18), .load 26 (.tmp 17), none⟩,
       ⟨(some 19), .call ⟨(.value (.func 25)), #[(.tmp 16), (.tmp 18)], #[26, 26]⟩, none⟩,
       ⟨(some 20), .unOp .not 4 (.tmp 19), none⟩])
    (.cond (.tmp 20) (.seq (.reg [⟨(some 4), .assign (.const (.bool false)), none⟩])
      .ret)
     .skip))
   (.seq (.reg [⟨(some 4), .assign (.const (.bool true)), none⟩])
    .ret)))))
theorem s62 : slimF Try.f62 = some (c62, [.t 4], 21) := by kernel_rfl
theorem o62 : okF [(25, g25)] Try.f62 = true := by kernel_rfl
theorem p62 : Pure Try.prog 62 g62 := by
  refine semOf_pure fun ⟨τ, τ', x, y⟩ n h2 _ => ?_
  have hT : Table Try.prog [(25, g25)] := (.cons p25 .nil)
  refine SatP.of_body hT hm Try.func62 s62 o62 h2 (by simp) ?_
  rcases Bool.eq_false_or_eq_true (eqB x y) with hxy | hxy
  · rw [hxy]
    have h := eqB_iff.1 hxy
    subst h
    simp (config := {contextual := true, maxSteps := 4000000, implicitDefEqProofs := false}) [c62, go_sem, eqB_iff, eqB_not]
  · rw [hxy]
    have h := eqB_not.1 hxy
    rw [eq_Lst] at h
    simp (config := {contextual := true, maxSteps := 4000000, implicitDefEqProofs := false}) [c62, go_sem, eqB_iff, eqB_not]
    simpa using h
/- laws.eqLastS -/
noncomputable def g27 : Fsem := eqSem enLst.list enLst.list
@[go_sem] theorem g27_eq {n τ τ' : Nat} {x y : List Lst} : g27 n [.sl τ 4 (x.map (enLst.av τ)), .sl τ' 4 (y.map (enLst.av τ'))] = ⟨True, .bool (eqB x y)⟩ := eqSem_eq (E := enLst.list) (E' := enLst.list) (n := n) (τ := τ) (τ' := τ') (x := x) (y := y)
theorem s27 : slimF Try.f27 = some (eqDeepC 3 4 28 111 62, [.t 4], 27) := by kernel_rfl
theorem o27 : okF [(62, g62)] Try.f27 = true := by kernel_rfl
theorem p27 : Pure Try.prog 27 g27 := eqDeep_ok hm Try.func27 s27 o27 (by omega) ty_28 fit_111 fit_111 p62 (fun n τ x τ' x' => eqSem_eq)
/- laws.eqReq -/
noncomputable def g58 : Fsem := eqSem enReq enReq
@[go_sem] theorem g58_eq {n : Nat} {x y : Req} : g58 n [.agg [.int .i64 x.client, .int .i64 x.no], .agg [.int .i64 y.client, .int .i64 y.no]] = ⟨True, .bool (eqB x y)⟩ := eqSem_eq (E := enReq) (E' := enReq) (n := n) (τ := 0) (τ' := 0) (x := x) (y := y)
def c58 : SCode := (.seq (.reg [⟨(some 2), .box 67 (.tmp 0), none⟩,
   ⟨(some 3), .box 67 (.tmp 1), none⟩,
   ⟨(some 4), .assign (.const (.bool false)), none⟩])
(.seq (.seq (.reg [⟨(some 5), .fieldAddr 67 (.tmp 2) 0, none⟩,
     ⟨(some 6), .load 2 (.tmp 5), none⟩,
     ⟨(some 7), .fieldAddr 67 (.tmp 3) 0, none⟩,
     ⟨(some 8), .load 2 (.tmp 7), none⟩,
     ⟨(some 9), .binOp .neq 2 (.tmp 6) (.tmp 8) 2, none⟩])
  (.cond (.tmp 9) (.seq (.reg [⟨(some 4), .assign (.const (.bool false)), none⟩])
    .ret)
   .skip))
 (.seq (.seq (.reg [⟨(some 10), .fieldAddr 67 (.tmp 2) 1, none⟩,
      ⟨(some 11), .load 2 (.tmp 10), none⟩,
      ⟨(some 12), .fieldAddr 67 (.tmp 3) 1, none⟩,
      ⟨(some 13), .load 2 (.tmp 12), none⟩,
      ⟨(some 14), .binOp .neq 2 (.tmp 11) (.tmp 13) 2, none⟩])
   (.cond (.tmp 14) (.seq (.reg [⟨(some 4), .assign (.const (.bool false)), none⟩])
     .ret)
    .skip))
  (.seq (.reg [⟨(some 4), .assign (.const (.bool true)), none⟩])
   .ret))))
theorem s58 : slimF Try.f58 = some (c58, [.t 4], 15) := by kernel_rfl
theorem o58 : okF [] Try.f58 = true := by kernel_rfl
theorem p58 : Pure Try.prog 58 g58 := by
  refine semOf_pure fun ⟨τ, τ', x, y⟩ n h2 _ => ?_
  have hT : Table Try.prog [] := .nil
  refine SatP.of_body hT hm Try.func58 s58 o58 h2 (by simp) ?_
  rcases Bool.eq_false_or_eq_true (eqB x y) with hxy | hxy
  · rw [hxy]
    have h := eqB_iff.1 hxy
    subst h
    simp (config := {contextual := true, maxSteps := 4000000, implicitDefEqProofs := false}) [c58, go_sem, eqB_iff, eqB_not]
  · rw [hxy]
    have h := eqB_not.1 hxy
    rw [eq_Req] at h
    simp (config := {contextual := true, maxSteps := 4000000, implicitDefEqProofs := false}) [c58, go_sem, eqB_iff, eqB_not]
    simpa using h
/- laws.eqEntry -/
noncomputable def g55 : Fsem := eqSem enEntry enEntry
@[go_sem] theorem g55_eq {n : Nat} {x y : Entry} : g55 n [.agg [.int .i64 x.ver.epoch, .int .i64 x.ver.seq, .int .i64 x.prior.epoch, .int .i64 x.prior.seq, .str x.name, .bool x.gone, .int .i64 x.size, .int .i64 x.sum, .int .i64 x.req.client, .int .i64 x.req.no], .agg [.int .i64 y.ver.epoch, .int .i64 y.ver.seq, .int .i64 y.prior.epoch, .int .i64 y.prior.seq, .str y.name, .bool y.gone, .int .i64 y.size, .int .i64 y.sum, .int .i64 y.req.client, .int .i64 y.req.no]] = ⟨True, .bool (eqB x y)⟩ := eqSem_eq (E := enEntry) (E' := enEntry) (n := n) (τ := 0) (τ' := 0) (x := x) (y := y)
def c55 : SCode := (.seq (.reg [⟨(some 2), .box 69 (.tmp 0), none⟩,
   ⟨(some 3), .box 69 (.tmp 1), none⟩,
   ⟨(some 4), .assign (.const (.bool false)), none⟩])
(.seq (.seq (.reg [⟨(some 5), .fieldAddr 69 (.tmp 2) 0, none⟩,
     ⟨(some 6), .load 26 (.tmp 5), none⟩,
     ⟨(some 7), .fieldAddr 69 (.tmp 3) 0, none⟩,
     ⟨(some 8), .load 26 (.tmp 7), none⟩,
     ⟨(some 9), .call ⟨(.value (.func 25)), #[(.tmp 6), (.tmp 8)], #[26, 26]⟩, none⟩,
     ⟨(some 10), .unOp .not 4 (.tmp 9), none⟩])
  (.cond (.tmp 10) (.seq (.reg [⟨(some 4), .assign (.const (.bool false)), none⟩])
    .ret)
   .skip))
 (.seq (.seq (.reg [⟨(some 11), .fieldAddr 69 (.tmp 2) 1, none⟩,
      ⟨(some 12), .load 26 (.tmp 11), none⟩,
      ⟨(some 13), .fieldAddr 69 (.tmp 3) 1, none⟩,
      ⟨(some 14), .load 26 (.tmp 13), none⟩,
      ⟨(some 15), .call ⟨(.value (.func 25)), #[(.tmp 12), (.tmp 14)], #[26, 26]⟩, none⟩,
      ⟨(some 16), .unOp .not 4 (.tmp 15), none⟩])
   (.cond (.tmp 16) (.seq (.reg [⟨(some 4), .assign (.const (.bool false)), none⟩])
     .ret)
    .skip))
  (.seq (.seq (.reg [⟨(some 17), .fieldAddr 69 (.tmp 2) 2, none⟩,
       ⟨(some 18), .load 9 (.tmp 17), none⟩,
       ⟨(some 19), .fieldAddr 69 (.tmp 3) 2, none⟩,
       ⟨(some 20), .load 9 (.tmp 19), none⟩,
       ⟨(some 21), .binOp .neq 9 (.tmp 18) (.tmp 20) 9, none⟩])
    (.cond (.tmp 21) (.seq (.reg [⟨(some 4), .assign (.const (.bool false)), none⟩])
      .ret)
     .skip))
   (.seq (.seq (.reg [⟨(some 22), .fieldAddr 69 (.tmp 2) 3, none⟩,
        ⟨(some 23), .load 4 (.tmp 22), none⟩,
        ⟨(some 24), .fieldAddr 69 (.tmp 3) 3, none⟩,
        ⟨(some 25), .load 4 (.tmp 24), none⟩,
        ⟨(some 26), .binOp .neq 4 (.tmp 23) (.tmp 25) 4, none⟩])
     (.cond (.tmp 26) (.seq (.reg [⟨(some 4), .assign (.const (.bool false)), none⟩])
       .ret)
      .skip))
    (.seq (.seq (.reg [⟨(some 27), .fieldAddr 69 (.tmp 2) 4, none⟩,
         ⟨(some 28), .load 2 (.tmp 27), none⟩,
         ⟨(some 29), .fieldAddr 69 (.tmp 3) 4, none⟩,
         ⟨(some 30), .load 2 (.tmp 29), none⟩,
         ⟨(some 31), .binOp .neq 2 (.tmp 28) (.tmp 30) 2, none⟩])
      (.cond (.tmp 31) (.seq (.reg [⟨(some 4), .assign (.const (.bool false)), none⟩])
        .ret)
       .skip))
     (.seq (.seq (.reg [⟨(some 32), .fieldAddr 69 (.tmp 2) 5, none⟩,
          ⟨(some 33), .load 2 (.tmp 32), none⟩,
          ⟨(some 34), .fieldAddr 69 (.tmp 3) 5, none⟩,
          ⟨(some 35), .load 2 (.tmp 34), none⟩,
          ⟨(some 36), .binOp .neq 2 (.tmp 33) (.tmp 35) 2, none⟩])
       (.cond (.tmp 36) (.seq (.reg [⟨(some 4), .assign (.const (.bool false)), none⟩])
         .ret)
        .skip))
      (.seq (.seq (.reg [⟨(some 37), .fieldAddr 69 (.tmp 2) 6, none⟩,
           ⟨(some 38), .load 67 (.tmp 37), none⟩,
           ⟨(some 39), .fieldAddr 69 (.tmp 3) 6, none⟩,
           ⟨(some 40), .load 67 (.tmp 39), none⟩,
           ⟨(some 41), .call ⟨(.value (.func 58)), #[(.tmp 38), (.tmp 40)], #[67, 67]⟩, none⟩,
           ⟨(some 42), .unOp .not 4 (.tmp 41), none⟩])
        (.cond (.tmp 42) (.seq (.reg [⟨(some 4), .assign (.const (.bool false)), none⟩])
          .ret)
         .skip))
       (.seq (.reg [⟨(some 4), .assign (.const (.bool true)), none⟩])
        .ret)))))))))
theorem s55 : slimF Try.f55 = some (c55, [.t 4], 43) := by kernel_rfl
theorem o55 : okF [(25, g25), (58, g58)] Try.f55 = true := by kernel_rfl
theorem p55 : Pure Try.prog 55 g55 := by
  refine semOf_pure fun ⟨τ, τ', x, y⟩ n h2 _ => ?_
  have hT : Table Try.prog [(25, g25), (58, g58)] := (.cons p25 (.cons p58 .nil))
  refine SatP.of_body hT hm Try.func55 s55 o55 h2 (by simp) ?_
  rcases Bool.eq_false_or_eq_true (eqB x y) with hxy | hxy
  · rw [hxy]
    have h := eqB_iff.1 hxy
    subst h
    simp (config := {contextual := true, maxSteps := 4000000, implicitDefEqProofs := false}) [c55, go_sem, eqB_iff, eqB_not]
  · rw [hxy]
    have h := eqB_not.1 hxy
    rw [eq_Entry] at h
    simp (config := {contextual := true, maxSteps := 4000000, implicitDefEqProofs := false}) [c55, go_sem, eqB_iff, eqB_not]
    simpa using h
/- laws.eqEntryS -/
noncomputable def g28 : Fsem := eqSem enEntry.list enEntry.list
@[go_sem] theorem g28_eq {n τ τ' : Nat} {x y : List Entry} : g28 n [.sl τ 10 (x.map (enEntry.av τ)), .sl τ' 10 (y.map (enEntry.av τ'))] = ⟨True, .bool (eqB x y)⟩ := eqSem_eq (E := enEntry.list) (E' := enEntry.list) (n := n) (τ := τ) (τ' := τ') (x := x) (y := y)
theorem s28 : slimF Try.f28 = some (eqDeepC 3 4 29 69 55, [.t 4], 27) := by kernel_rfl
theorem o28 : okF [(55, g55)] Try.f28 = true := by kernel_rfl
theorem p28 : Pure Try.prog 28 g28 := eqDeep_ok hm Try.func28 s28 o28 (by omega) ty_29 fit_69 fit_69 p55 (fun n τ x τ' x' => eqSem_eq)
/- laws.eqChunk -/
noncomputable def g56 : Fsem := eqSem enChunk enChunk
@[go_sem] theorem g56_eq {n : Nat} {x y : Chunk} : g56 n [.agg [.str x.name, .int .i64 x.ver.epoch, .int .i64 x.ver.seq, .int .i64 x.pos, .int .i64 x.sum, .str x.bytes], .agg [.str y.name, .int .i64 y.ver.epoch, .int .i64 y.ver.seq, .int .i64 y.pos, .int .i64 y.sum, .str y.bytes]] = ⟨True, .bool (eqB x y)⟩ := eqSem_eq (E := enChunk) (E' := enChunk) (n := n) (τ := 0) (τ' := 0) (x := x) (y := y)
def c56 : SCode := (.seq (.reg [⟨(some 2), .box 71 (.tmp 0), none⟩,
   ⟨(some 3), .box 71 (.tmp 1), none⟩,
   ⟨(some 4), .assign (.const (.bool false)), none⟩])
(.seq (.seq (.reg [⟨(some 5), .fieldAddr 71 (.tmp 2) 0, none⟩,
     ⟨(some 6), .load 9 (.tmp 5), none⟩,
     ⟨(some 7), .fieldAddr 71 (.tmp 3) 0, none⟩,
     ⟨(some 8), .load 9 (.tmp 7), none⟩,
     ⟨(some 9), .binOp .neq 9 (.tmp 6) (.tmp 8) 9, none⟩])
  (.cond (.tmp 9) (.seq (.reg [⟨(some 4), .assign (.const (.bool false)), none⟩])
    .ret)
   .skip))
 (.seq (.seq (.reg [⟨(some 10), .fieldAddr 71 (.tmp 2) 1, none⟩,
      ⟨(some 11), .load 26 (.tmp 10), none⟩,
      ⟨(some 12), .fieldAddr 71 (.tmp 3) 1, none⟩,
      ⟨(some 13), .load 26 (.tmp 12), none⟩,
      ⟨(some 14), .call ⟨(.value (.func 25)), #[(.tmp 11), (.tmp 13)], #[26, 26]⟩, none⟩,
      ⟨(some 15), .unOp .not 4 (.tmp 14), none⟩])
   (.cond (.tmp 15) (.seq (.reg [⟨(some 4), .assign (.const (.bool false)), none⟩])
     .ret)
    .skip))
  (.seq (.seq (.reg [⟨(some 16), .fieldAddr 71 (.tmp 2) 2, none⟩,
       ⟨(some 17), .load 2 (.tmp 16), none⟩,
       ⟨(some 18), .fieldAddr 71 (.tmp 3) 2, none⟩,
       ⟨(some 19), .load 2 (.tmp 18), none⟩,
       ⟨(some 20), .binOp .neq 2 (.tmp 17) (.tmp 19) 2, none⟩])
    (.cond (.tmp 20) (.seq (.reg [⟨(some 4), .assign (.const (.bool false)), none⟩])
      .ret)
     .skip))
   (.seq (.seq (.reg [⟨(some 21), .fieldAddr 71 (.tmp 2) 3, none⟩,
        ⟨(some 22), .load 2 (.tmp 21), none⟩,
        ⟨(some 23), .fieldAddr 71 (.tmp 3) 3, none⟩,
        ⟨(some 24), .load 2 (.tmp 23), none⟩,
        ⟨(some 25), .binOp .neq 2 (.tmp 22) (.tmp 24) 2, none⟩])
     (.cond (.tmp 25) (.seq (.reg [⟨(some 4), .assign (.const (.bool false)), none⟩])
       .ret)
      .skip))
    (.seq (.seq (.reg [⟨(some 26), .fieldAddr 71 (.tmp 2) 4, none⟩,
         ⟨(some 27), .load 9 (.tmp 26), none⟩,
         ⟨(some 28), .fieldAddr 71 (.tmp 3) 4, none⟩,
         ⟨(some 29), .load 9 (.tmp 28), none⟩,
         ⟨(some 30), .binOp .neq 9 (.tmp 27) (.tmp 29) 9, none⟩])
      (.cond (.tmp 30) (.seq (.reg [⟨(some 4), .assign (.const (.bool false)), none⟩])
        .ret)
       .skip))
     (.seq (.reg [⟨(some 4), .assign (.const (.bool true)), none⟩])
      .ret)))))))
theorem s56 : slimF Try.f56 = some (c56, [.t 4], 31) := by kernel_rfl
theorem o56 : okF [(25, g25)] Try.f56 = true := by kernel_rfl
theorem p56 : Pure Try.prog 56 g56 := by
  refine semOf_pure fun ⟨τ, τ', x, y⟩ n h2 _ => ?_
  have hT : Table Try.prog [(25, g25)] := (.cons p25 .nil)
  refine SatP.of_body hT hm Try.func56 s56 o56 h2 (by simp) ?_
  rcases Bool.eq_false_or_eq_true (eqB x y) with hxy | hxy
  · rw [hxy]
    have h := eqB_iff.1 hxy
    subst h
    simp (config := {contextual := true, maxSteps := 4000000, implicitDefEqProofs := false}) [c56, go_sem, eqB_iff, eqB_not]
  · rw [hxy]
    have h := eqB_not.1 hxy
    rw [eq_Chunk] at h
    simp (config := {contextual := true, maxSteps := 4000000, implicitDefEqProofs := false}) [c56, go_sem, eqB_iff, eqB_not]
    simpa using h
/- laws.eqChunkS -/
noncomputable def g29 : Fsem := eqSem enChunk.list enChunk.list
@[go_sem] theorem g29_eq {n τ τ' : Nat} {x y : List Chunk} : g29 n [.sl τ 6 (x.map (enChunk.av τ)), .sl τ' 6 (y.map (enChunk.av τ'))] = ⟨True, .bool (eqB x y)⟩ := eqSem_eq (E := enChunk.list) (E' := enChunk.list) (n := n) (τ := τ) (τ' := τ') (x := x) (y := y)
theorem s29 : slimF Try.f29 = some (eqDeepC 3 4 30 71 56, [.t 4], 27) := by kernel_rfl
theorem o29 : okF [(56, g56)] Try.f29 = true := by kernel_rfl
theorem p29 : Pure Try.prog 29 g29 := eqDeep_ok hm Try.func29 s29 o29 (by omega) ty_30 fit_71 fit_71 p56 (fun n τ x τ' x' => eqSem_eq)
/- laws.eqPgState -/
noncomputable def g9 : Fsem := eqSem enPgSt enPgSt
@[go_sem] theorem g9_eq {n τ τ' : Nat} {x y : PgSt} : g9 n [.agg [.int .i64 x.pg.pool, .int .i64 x.pg.no, .int .i64 x.seen, .int .i64 x.started, .int .i64 x.tail.epoch, .int .i64 x.tail.seq, .sl τ 5 (x.base.map (enHead.av τ)), .sl τ 4 (x.clients.map (enLst.av τ)), .sl τ 10 (x.log.map (enEntry.av τ)), .int .i64 x.firm.epoch, .int .i64 x.firm.seq, .sl τ 6 (x.chunks.map (enChunk.av τ))], .agg [.int .i64 y.pg.pool, .int .i64 y.pg.no, .int .i64 y.seen, .int .i64 y.started, .int .i64 y.tail.epoch, .int .i64 y.tail.seq, .sl τ' 5 (y.base.map (enHead.av τ')), .sl τ' 4 (y.clients.map (enLst.av τ')), .sl τ' 10 (y.log.map (enEntry.av τ')), .int .i64 y.firm.epoch, .int .i64 y.firm.seq, .sl τ' 6 (y.chunks.map (enChunk.av τ'))]] = ⟨True, .bool (eqB x y)⟩ := eqSem_eq (E := enPgSt) (E' := enPgSt) (n := n) (τ := τ) (τ' := τ') (x := x) (y := y)
def c9 : SCode := (.seq (.reg [⟨(some 2), .box 32 (.tmp 0), none⟩,
   ⟨(some 3), .box 32 (.tmp 1), none⟩,
   ⟨(some 4), .assign (.const (.bool false)), none⟩])
(.seq (.seq (.reg [⟨(some 5), .fieldAddr 32 (.tmp 2) 0, none⟩,
     ⟨(some 6), .load 24 (.tmp 5), none⟩,
     ⟨(some 7), .fieldAddr 32 (.tmp 3) 0, none⟩,
     ⟨(some 8), .load 24 (.tmp 7), none⟩,
     ⟨(some 9), .call ⟨(.value (.func 24)), #[(.tmp 6), (.tmp 8)], #[24, 24]⟩, none⟩,
     ⟨(some 10), .unOp .not 4 (.tmp 9), none⟩])
  (.cond (.tmp 10) (.seq (.reg [⟨(some 4), .assign (.const (.bool false)), none⟩])
    .ret)
   .skip))
 (.seq (.seq (.reg [⟨(some 11), .fieldAddr 32 (.tmp 2) 1, none⟩,
      ⟨(some 12), .load 2 (.tmp 11), none⟩,
      ⟨(some 13), .fieldAddr 32 (.tmp 3) 1, none⟩,
      ⟨(some 14), .load 2 (.tmp 13), none⟩,
      ⟨(some 15), .binOp .neq 2 (.tmp 12) (.tmp 14) 2, none⟩])
   (.cond (.tmp 15) (.seq (.reg [⟨(some 4), .assign (.const (.bool false)), none⟩])
     .ret)
    .skip))
  (.seq (.seq (.reg [⟨(some 16), .fieldAddr 32 (.tmp 2) 2, none⟩,
       ⟨(some 17), .load 2 (.tmp 16), none⟩,
       ⟨(some 18), .fieldAddr 32 (.tmp 3) 2, none⟩,
       ⟨(some 19), .load 2 (.tmp 18), none⟩,
       ⟨(some 20), .binOp .neq 2 (.tmp 17) (.tmp 19) 2, none⟩])
    (.cond (.tmp 20) (.seq (.reg [⟨(some 4), .assign (.const (.bool false)), none⟩])
      .ret)
     .skip))
   (.seq (.seq (.reg [⟨(some 21), .fieldAddr 32 (.tmp 2) 3, none⟩,
        ⟨(some 22), .load 26 (.tmp 21), none⟩,
        ⟨(some 23), .fieldAddr 32 (.tmp 3) 3, none⟩,
        ⟨(some 24), .load 26 (.tmp 23), none⟩,
        ⟨(some 25), .call ⟨(.value (.func 25)), #[(.tmp 22), (.tmp 24)], #[26, 26]⟩, none⟩,
        ⟨(some 26), .unOp .not 4 (.tmp 25), none⟩])
     (.cond (.tmp 26) (.seq (.reg [⟨(some 4), .assign (.const (.bool false)), none⟩])
       .ret)
      .skip))
    (.seq (.seq (.reg [⟨(some 27), .fieldAddr 32 (.tmp 2) 4, none⟩,
         ⟨(some 28), .load 27 (.tmp 27), none⟩,
         ⟨(some 29), .fieldAddr 32 (.tmp 3) 4, none⟩,
         ⟨(some 30), .load 27 (.tmp 29), none⟩,
         ⟨(some 31), .call ⟨(.value (.func 26)), #[(.tmp 28), (.tmp 30)], #[27, 27]⟩, none⟩,
         ⟨(some 32), .unOp .not 4 (.tmp 31), none⟩])
      (.cond (.tmp 32) (.seq (.reg [⟨(some 4), .assign (.const (.bool false)), none⟩])
        .ret)
       .skip))
     (.seq (.seq (.reg [⟨(some 33), .fieldAddr 32 (.tmp 2) 5, none⟩,
          ⟨(some 34), .load 28 (.tmp 33), none⟩,
          ⟨(some 35), .fieldAddr 32 (.tmp 3) 5, none⟩,
          ⟨(some 36), .load 28 (.tmp 35), none⟩,
          ⟨(some 37), .call ⟨(.value (.func 27)), #[(.tmp 34), (.tmp 36)], #[28, 28]⟩, none⟩,
          ⟨(some 38), .unOp .not 4 (.tmp 37), none⟩])
       (.cond (.tmp 38) (.seq (.reg [⟨(some 4), .assign (.const (.bool false)), none⟩])
         .ret)
        .skip))
      (.seq (.seq (.reg [⟨(some 39), .fieldAddr 32 (.tmp 2) 6, none⟩,
           ⟨(some 40), .load 29 (.tmp 39), none⟩,
           ⟨(some 41), .fieldAddr 32 (.tmp 3) 6, none⟩,
           ⟨(some 42), .load 29 (.tmp 41), none⟩,
           ⟨(some 43), .call ⟨(.value (.func 28)), #[(.tmp 40), (.tmp 42)], #[29, 29]⟩, none⟩,
           ⟨(some 44), .unOp .not 4 (.tmp 43), none⟩])
        (.cond (.tmp 44) (.seq (.reg [⟨(some 4), .assign (.const (.bool false)), none⟩])
          .ret)
         .skip))
       (.seq (.seq (.reg [⟨(some 45), .fieldAddr 32 (.tmp 2) 7, none⟩,
            ⟨(some 46), .load 26 (.tmp 45), none⟩,
            ⟨(some 47), .fieldAddr 32 (.tmp 3) 7, none⟩,
            ⟨(some 48), .load 26 (.tmp 47), none⟩,
            ⟨(some 49), .call ⟨(.value (.func 25)), #[(.tmp 46), (.tmp 48)], #[26, 26]⟩, none⟩,
            ⟨(some 50), .unOp .not 4 (.tmp 49), none⟩])
         (.cond (.tmp 50) (.seq (.reg [⟨(some 4), .assign (.const (.bool false)), none⟩])
           .ret)
          .skip))
        (.seq (.seq (.reg [⟨(some 51), .fieldAddr 32 (.tmp 2) 8, none⟩,
             ⟨(some 52), .load 30 (.tmp 51), none⟩,
             ⟨(some 53), .fieldAddr 32 (.tmp 3) 8, none⟩,
             ⟨(some 54), .load 30 (.tmp 53), none⟩,
             ⟨(some 55), .call ⟨(.value (.func 29)), #[(.tmp 52), (.tmp 54)], #[30, 30]⟩, none⟩,
             ⟨(some 56), .unOp .not 4 (.tmp 55), none⟩])
          (.cond (.tmp 56) (.seq (.reg [⟨(some 4), .assign (.const (.bool false)), none⟩])
            .ret)
           .skip))
         (.seq (.reg [⟨(some 4), .assign (.const (.bool true)), none⟩])
          .ret)))))))))))
theorem s9 : slimF Try.f9 = some (c9, [.t 4], 57) := by kernel_rfl
theorem o9 : okF [(24, g24), (25, g25), (26, g26), (27, g27), (28, g28), (29, g29)] Try.f9 = true := by kernel_rfl
theorem p9 : Pure Try.prog 9 g9 := by
  refine semOf_pure fun ⟨τ, τ', x, y⟩ n h2 _ => ?_
  have hT : Table Try.prog [(24, g24), (25, g25), (26, g26), (27, g27), (28, g28), (29, g29)] := (.cons p24 (.cons p25 (.cons p26 (.cons p27 (.cons p28 (.cons p29 .nil))))))
  refine SatP.of_body hT hm Try.func9 s9 o9 h2 (by simp) ?_
  rcases Bool.eq_false_or_eq_true (eqB x y) with hxy | hxy
  · rw [hxy]
    have h := eqB_iff.1 hxy
    subst h
    simp (config := {contextual := true, maxSteps := 4000000, implicitDefEqProofs := false}) [c9, go_sem, eqB_iff, eqB_not]
  · rw [hxy]
    have h := eqB_not.1 hxy
    rw [eq_PgSt] at h
    simp (config := {contextual := true, maxSteps := 4000000, implicitDefEqProofs := false}) [c9, go_sem, eqB_iff, eqB_not]
    simpa using h
/- laws.eqPgStateS -/
noncomputable def g42 : Fsem := eqSem enPgSt.list enPgSt.list
@[go_sem] theorem g42_eq {n τ τ' : Nat} {x y : List PgSt} : g42 n [.sl τ 12 (x.map (enPgSt.av τ)), .sl τ' 12 (y.map (enPgSt.av τ'))] = ⟨True, .bool (eqB x y)⟩ := eqSem_eq (E := enPgSt.list) (E' := enPgSt.list) (n := n) (τ := τ) (τ' := τ') (x := x) (y := y)
theorem s42 : slimF Try.f42 = some (eqDeepC 3 4 43 32 9, [.t 4], 27) := by kernel_rfl
theorem o42 : okF [(9, g9)] Try.f42 = true := by kernel_rfl
theorem p42 : Pure Try.prog 42 g42 := eqDeep_ok hm Try.func42 s42 o42 (by omega) ty_43 fit_32 fit_32 p9 (fun n τ x τ' x' => eqSem_eq)
/- laws.eqStore -/
noncomputable def g16 : Fsem := eqSem enStore enStore
@[go_sem] theorem g16_eq {n τ τ' : Nat} {x y : Store} : g16 n [.agg [.sl τ 12 (x.live.map (enPgSt.av τ)), .sl τ 12 (x.kept.map (enPgSt.av τ))], .agg [.sl τ' 12 (y.live.map (enPgSt.av τ')), .sl τ' 12 (y.kept.map (enPgSt.av τ'))]] = ⟨True, .bool (eqB x y)⟩ := eqSem_eq (E := enStore) (E' := enStore) (n := n) (τ := τ) (τ' := τ') (x := x) (y := y)
def c16 : SCode := (.seq (.reg [⟨(some 2), .box 45 (.tmp 0), none⟩,
   ⟨(some 3), .box 45 (.tmp 1), none⟩,
   ⟨(some 4), .assign (.const (.bool false)), none⟩])
(.seq (.seq (.reg [⟨(some 5), .fieldAddr 45 (.tmp 2) 0, none⟩,
     ⟨(some 6), .load 43 (.tmp 5), none⟩,
     ⟨(some 7), .fieldAddr 45 (.tmp 3) 0, none⟩,
     ⟨(some 8), .load 43 (.tmp 7), none⟩,
     ⟨(some 9), .call ⟨(.value (.func 42)), #[(.tmp 6), (.tmp 8)], #[43, 43]⟩, none⟩,
     ⟨(some 10), .unOp .not 4 (.tmp 9), none⟩])
  (.cond (.tmp 10) (.seq (.reg [⟨(some 4), .assign (.const (.bool false)), none⟩])
    .ret)
   .skip))
 (.seq (.seq (.reg [⟨(some 11), .fieldAddr 45 (.tmp 2) 1, none⟩,
      ⟨(some 12), .load 43 (.tmp 11), none⟩,
      ⟨(some 13), .fieldAddr 45 (.tmp 3) 1, none⟩,
      ⟨(some 14), .load 43 (.tmp 13), none⟩,
      ⟨(some 15), .call ⟨(.value (.func 42)), #[(.tmp 12), (.tmp 14)], #[43, 43]⟩, none⟩,
      ⟨(some 16), .unOp .not 4 (.tmp 15), none⟩])
   (.cond (.tmp 16) (.seq (.reg [⟨(some 4), .assign (.const (.bool false)), none⟩])
     .ret)
    .skip))
  (.seq (.reg [⟨(some 4), .assign (.const (.bool true)), none⟩])
   .ret))))
theorem s16 : slimF Try.f16 = some (c16, [.t 4], 17) := by kernel_rfl
theorem o16 : okF [(42, g42)] Try.f16 = true := by kernel_rfl
theorem p16 : Pure Try.prog 16 g16 := by
  refine semOf_pure fun ⟨τ, τ', x, y⟩ n h2 _ => ?_
  have hT : Table Try.prog [(42, g42)] := (.cons p42 .nil)
  refine SatP.of_body hT hm Try.func16 s16 o16 h2 (by simp) ?_
  rcases Bool.eq_false_or_eq_true (eqB x y) with hxy | hxy
  · rw [hxy]
    have h := eqB_iff.1 hxy
    subst h
    simp (config := {contextual := true, maxSteps := 4000000, implicitDefEqProofs := false}) [c16, go_sem, eqB_iff, eqB_not]
  · rw [hxy]
    have h := eqB_not.1 hxy
    rw [eq_Store] at h
    simp (config := {contextual := true, maxSteps := 4000000, implicitDefEqProofs := false}) [c16, go_sem, eqB_iff, eqB_not]
    simpa using h
/- laws.eqOp -/
noncomputable def g57 : Fsem := eqSem enOp enOp
@[go_sem] theorem g57_eq {n : Nat} {x y : Op} : g57 n [.agg [.int .i64 x.kind, .int .i64 x.at_, .str x.bytes], .agg [.int .i64 y.kind, .int .i64 y.at_, .str y.bytes]] = ⟨True, .bool (eqB x y)⟩ := eqSem_eq (E := enOp) (E' := enOp) (n := n) (τ := 0) (τ' := 0) (x := x) (y := y)
def c57 : SCode := (.seq (.reg [⟨(some 2), .box 72 (.tmp 0), none⟩,
   ⟨(some 3), .box 72 (.tmp 1), none⟩,
   ⟨(some 4), .assign (.const (.bool false)), none⟩])
(.seq (.seq (.reg [⟨(some 5), .fieldAddr 72 (.tmp 2) 0, none⟩,
     ⟨(some 6), .load 2 (.tmp 5), none⟩,
     ⟨(some 7), .fieldAddr 72 (.tmp 3) 0, none⟩,
     ⟨(some 8), .load 2 (.tmp 7), none⟩,
     ⟨(some 9), .binOp .neq 2 (.tmp 6) (.tmp 8) 2, none⟩])
  (.cond (.tmp 9) (.seq (.reg [⟨(some 4), .assign (.const (.bool false)), none⟩])
    .ret)
   .skip))
 (.seq (.seq (.reg [⟨(some 10), .fieldAddr 72 (.tmp 2) 1, none⟩,
      ⟨(some 11), .load 2 (.tmp 10), none⟩,
      ⟨(some 12), .fieldAddr 72 (.tmp 3) 1, none⟩,
      ⟨(some 13), .load 2 (.tmp 12), none⟩,
      ⟨(some 14), .binOp .neq 2 (.tmp 11) (.tmp 13) 2, none⟩])
   (.cond (.tmp 14) (.seq (.reg [⟨(some 4), .assign (.const (.bool false)), none⟩])
     .ret)
    .skip))
  (.seq (.seq (.reg [⟨(some 15), .fieldAddr 72 (.tmp 2) 2, none⟩,
       ⟨(some 16), .load 9 (.tmp 15), none⟩,
       ⟨(some 17), .fieldAddr 72 (.tmp 3) 2, none⟩,
       ⟨(some 18), .load 9 (.tmp 17), none⟩,
       ⟨(some 19), .binOp .neq 9 (.tmp 16) (.tmp 18) 9, none⟩])
    (.cond (.tmp 19) (.seq (.reg [⟨(some 4), .assign (.const (.bool false)), none⟩])
      .ret)
     .skip))
   (.seq (.reg [⟨(some 4), .assign (.const (.bool true)), none⟩])
    .ret)))))
theorem s57 : slimF Try.f57 = some (c57, [.t 4], 20) := by kernel_rfl
theorem o57 : okF [] Try.f57 = true := by kernel_rfl
theorem p57 : Pure Try.prog 57 g57 := by
  refine semOf_pure fun ⟨τ, τ', x, y⟩ n h2 _ => ?_
  have hT : Table Try.prog [] := .nil
  refine SatP.of_body hT hm Try.func57 s57 o57 h2 (by simp) ?_
  rcases Bool.eq_false_or_eq_true (eqB x y) with hxy | hxy
  · rw [hxy]
    have h := eqB_iff.1 hxy
    subst h
    simp (config := {contextual := true, maxSteps := 4000000, implicitDefEqProofs := false}) [c57, go_sem, eqB_iff, eqB_not]
  · rw [hxy]
    have h := eqB_not.1 hxy
    rw [eq_Op] at h
    simp (config := {contextual := true, maxSteps := 4000000, implicitDefEqProofs := false}) [c57, go_sem, eqB_iff, eqB_not]
    simpa using h
/- laws.eqMsg -/
noncomputable def g21 : Fsem := eqSem enMsg enMsg
@[go_sem] theorem g21_eq {n τ τ' : Nat} {x y : Msg} : g21 n [.agg [.int .i64 x.kind, .int .i64 x.from_, .int .i64 x.to_, .int .i64 x.pg.pool, .int .i64 x.pg.no, .int .i64 x.epoch, .str x.name, .int .i64 x.ver.epoch, .int .i64 x.ver.seq, .int .i64 x.firm.epoch, .int .i64 x.firm.seq, .int .i64 x.state.pg.pool, .int .i64 x.state.pg.no, .int .i64 x.state.seen, .int .i64 x.state.started, .int .i64 x.state.tail.epoch, .int .i64 x.state.tail.seq, .sl τ 5 (x.state.base.map (enHead.av τ)), .sl τ 4 (x.state.clients.map (enLst.av τ)), .sl τ 10 (x.state.log.map (enEntry.av τ)), .int .i64 x.state.firm.epoch, .int .i64 x.state.firm.seq, .sl τ 6 (x.state.chunks.map (enChunk.av τ)), .int .i64 x.entry.ver.epoch, .int .i64 x.entry.ver.seq, .int .i64 x.entry.prior.epoch, .int .i64 x.entry.prior.seq, .str x.entry.name, .bool x.entry.gone, .int .i64 x.entry.size, .int .i64 x.entry.sum, .int .i64 x.entry.req.client, .int .i64 x.entry.req.no, .str x.chunk.name, .int .i64 x.chunk.ver.epoch, .int .i64 x.chunk.ver.seq, .int .i64 x.chunk.pos, .int .i64 x.chunk.sum, .str x.chunk.bytes, .int .i64 x.op.kind, .int .i64 x.op.at_, .str x.op.bytes, .int .i64 x.req.client, .int .i64 x.req.no, .int .i64 x.code, .str x.body], .agg [.int .i64 y.kind, .int .i64 y.from_, .int .i64 y.to_, .int .i64 y.pg.pool, .int .i64 y.pg.no, .int .i64 y.epoch, .str y.name, .int .i64 y.ver.epoch, .int .i64 y.ver.seq, .int .i64 y.firm.epoch, .int .i64 y.firm.seq, .int .i64 y.state.pg.pool, .int .i64 y.state.pg.no, .int .i64 y.state.seen, .int .i64 y.state.started, .int .i64 y.state.tail.epoch, .int .i64 y.state.tail.seq, .sl τ' 5 (y.state.base.map (enHead.av τ')), .sl τ' 4 (y.state.clients.map (enLst.av τ')), .sl τ' 10 (y.state.log.map (enEntry.av τ')), .int .i64 y.state.firm.epoch, .int .i64 y.state.firm.seq, .sl τ' 6 (y.state.chunks.map (enChunk.av τ')), .int .i64 y.entry.ver.epoch, .int .i64 y.entry.ver.seq, .int .i64 y.entry.prior.epoch, .int .i64 y.entry.prior.seq, .str y.entry.name, .bool y.entry.gone, .int .i64 y.entry.size, .int .i64 y.entry.sum, .int .i64 y.entry.req.client, .int .i64 y.entry.req.no, .str y.chunk.name, .int .i64 y.chunk.ver.epoch, .int .i64 y.chunk.ver.seq, .int .i64 y.chunk.pos, .int .i64 y.chunk.sum, .str y.chunk.bytes, .int .i64 y.op.kind, .int .i64 y.op.at_, .str y.op.bytes, .int .i64 y.req.client, .int .i64 y.req.no, .int .i64 y.code, .str y.body]] = ⟨True, .bool (eqB x y)⟩ := eqSem_eq (E := enMsg) (E' := enMsg) (n := n) (τ := τ) (τ' := τ') (x := x) (y := y)
def c21 : SCode := (.seq (.reg [⟨(some 2), .box 74 (.tmp 0), none⟩,
   ⟨(some 3), .box 74 (.tmp 1), none⟩,
   ⟨(some 4), .assign (.const (.bool false)), none⟩])
(.seq (.seq (.reg [⟨(some 5), .fieldAddr 74 (.tmp 2) 0, none⟩,
     ⟨(some 6), .load 2 (.tmp 5), none⟩,
     ⟨(some 7), .fieldAddr 74 (.tmp 3) 0, none⟩,
     ⟨(some 8), .load 2 (.tmp 7), none⟩,
     ⟨(some 9), .binOp .neq 2 (.tmp 6) (.tmp 8) 2, none⟩])
  (.cond (.tmp 9) (.seq (.reg [⟨(some 4), .assign (.const (.bool false)), none⟩])
    .ret)
   .skip))
 (.seq (.seq (.reg [⟨(some 10), .fieldAddr 74 (.tmp 2) 1, none⟩,
      ⟨(some 11), .load 2 (.tmp 10), none⟩,
      ⟨(some 12), .fieldAddr 74 (.tmp 3) 1, none⟩,
      ⟨(some 13), .load 2 (.tmp 12), none⟩,
      ⟨(some 14), .binOp .neq 2 (.tmp 11) (.tmp 13) 2, none⟩])
   (.cond (.tmp 14) (.seq (.reg [⟨(some 4), .assign (.const (.bool false)), none⟩])
     .ret)
    .skip))
  (.seq (.seq (.reg [⟨(some 15), .fieldAddr 74 (.tmp 2) 2, none⟩,
       ⟨(some 16), .load 2 (.tmp 15), none⟩,
       ⟨(some 17), .fieldAddr 74 (.tmp 3) 2, none⟩,
       ⟨(some 18), .load 2 (.tmp 17), none⟩,
       ⟨(some 19), .binOp .neq 2 (.tmp 16) (.tmp 18) 2, none⟩])
    (.cond (.tmp 19) (.seq (.reg [⟨(some 4), .assign (.const (.bool false)), none⟩])
      .ret)
     .skip))
   (.seq (.seq (.reg [⟨(some 20), .fieldAddr 74 (.tmp 2) 3, none⟩,
        ⟨(some 21), .load 24 (.tmp 20), none⟩,
        ⟨(some 22), .fieldAddr 74 (.tmp 3) 3, none⟩,
        ⟨(some 23), .load 24 (.tmp 22), none⟩,
        ⟨(some 24), .call ⟨(.value (.func 24)), #[(.tmp 21), (.tmp 23)], #[24, 24]⟩, none⟩,
        ⟨(some 25), .unOp .not 4 (.tmp 24), none⟩])
     (.cond (.tmp 25) (.seq (.reg [⟨(some 4), .assign (.const (.bool false)), none⟩])
       .ret)
      .skip))
    (.seq (.seq (.reg [⟨(some 26), .fieldAddr 74 (.tmp 2) 4, none⟩,
         ⟨(some 27), .load 2 (.tmp 26), none⟩,
         ⟨(some 28), .fieldAddr 74 (.tmp 3) 4, none⟩,
         ⟨(some 29), .load 2 (.tmp 28), none⟩,
         ⟨(some 30), .binOp .neq 2 (.tmp 27) (.tmp 29) 2, none⟩])
      (.cond (.tmp 30) (.seq (.reg [⟨(some 4), .assign (.const (.bool false)), none⟩])
        .ret)
       .skip))
     (.seq (.seq (.reg [⟨(some 31), .fieldAddr 74 (.tmp 2) 5, none⟩,
          ⟨(some 32), .load 9 (.tmp 31), none⟩,
          ⟨(some 33), .fieldAddr 74 (.tmp 3) 5, none⟩,
          ⟨(some 34), .load 9 (.tmp 33), none⟩,
          ⟨(some 35), .binOp .neq 9 (.tmp 32) (.tmp 34) 9, none⟩])
       (.cond (.tmp 35) (.seq (.reg [⟨(some 4), .assign (.const (.bool false)), none⟩])
         .ret)
        .skip))
      (.seq (.seq (.reg [⟨(some 36), .fieldAddr 74 (.tmp 2) 6, none⟩,
           ⟨(some 37), .load 26 (.tmp 36), none⟩,
           ⟨(some 38), .fieldAddr 74 (.tmp 3) 6, none⟩,
           ⟨(some 39), .load 26 (.tmp 38), none⟩,
           ⟨(some 40), .call ⟨(.value (.func 25)), #[(.tmp 37), (.tmp 39)], #[26, 26]⟩, none⟩,
           ⟨(some 41), .unOp .not 4 (.tmp 40), none⟩])
        (.cond (.tmp 41) (.seq (.reg [⟨(some 4), .assign (.const (.bool false)), none⟩])
          .ret)
         .skip))
       (.seq (.seq (.reg [⟨(some 42), .fieldAddr 74 (.tmp 2) 7, none⟩,
            ⟨(some 43), .load 26 (.tmp 42), none⟩,
            ⟨(some 44), .fieldAddr 74 (.tmp 3) 7, none⟩,
            ⟨(some 45), .load 26 (.tmp 44), none⟩,
            ⟨(some 46), .call ⟨(.value (.func 25)), #[(.tmp 43), (.tmp 45)], #[26, 26]⟩, none⟩,
            ⟨(some 47), .unOp .not 4 (.tmp 46), none⟩])
         (.cond (.tmp 47) (.seq (.reg [⟨(some 4), .assign (.const (.bool false)), none⟩])
           .ret)
          .skip))
        (.seq (.seq (.reg [⟨(some 48), .fieldAddr 74 (.tmp 2) 8, none⟩,
             ⟨(some 49), .load 32 (.tmp 48), none⟩,
             ⟨(some 50), .fieldAddr 74 (.tmp 3) 8, none⟩,
             ⟨(some 51), .load 32 (.tmp 50), none⟩,
             ⟨(some 52), .call ⟨(.value (.func 9)), #[(.tmp 49), (.tmp 51)], #[32, 32]⟩, none⟩,
             ⟨(some 53), .unOp .not 4 (.tmp 52), none⟩])
          (.cond (.tmp 53) (.seq (.reg [⟨(some 4), .assign (.const (.bool false)), none⟩])
            .ret)
           .skip))
         (.seq (.seq (.reg [⟨(some 54), .fieldAddr 74 (.tmp 2) 9, none⟩,
              ⟨(some 55), .load 69 (.tmp 54), none⟩,
              ⟨(some 56), .fieldAddr 74 (.tmp 3) 9, none⟩,
              ⟨(some 57), .load 69 (.tmp 56), none⟩,
              ⟨(some 58), .call ⟨(.value (.func 55)), #[(.tmp 55), (.tmp 57)], #[69, 69]⟩, none⟩,
              ⟨(some 59), .unOp .not 4 (.tmp 58), none⟩])
           (.cond (.tmp 59) (.seq (.reg [⟨(some 4), .assign (.const (.bool false)), none⟩])
             .ret)
            .skip))
          (.seq (.seq (.reg [⟨(some 60), .fieldAddr 74 (.tmp 2) 10, none⟩,
               ⟨(some 61), .load 71 (.tmp 60), none⟩,
               ⟨(some 62), .fieldAddr 74 (.tmp 3) 10, none⟩,
               ⟨(some 63), .load 71 (.tmp 62), none⟩,
               ⟨(some 64), .call ⟨(.value (.func 56)), #[(.tmp 61), (.tmp 63)], #[71, 71]⟩, none⟩,
               ⟨(some 65), .unOp .not 4 (.tmp 64), none⟩])
            (.cond (.tmp 65) (.seq (.reg [⟨(some 4), .assign (.const (.bool false)), none⟩])
              .ret)
             .skip))
           (.seq (.seq (.reg [⟨(some 66), .fieldAddr 74 (.tmp 2) 11, none⟩,
                ⟨(some 67), .load 72 (.tmp 66), none⟩,
                ⟨(some 68), .fieldAddr 74 (.tmp 3) 11, none⟩,
                ⟨(some 69), .load 72 (.tmp 68), none⟩,
                ⟨(some 70), .call ⟨(.value (.func 57)), #[(.tmp 67), (.tmp 69)], #[72, 72]⟩, none⟩,
                ⟨(some 71), .unOp .not 4 (.tmp 70), none⟩])
             (.cond (.tmp 71) (.seq (.reg [⟨(some 4), .assign (.const (.bool false)), none⟩])
               .ret)
              .skip))
            (.seq (.seq (.reg [⟨(some 72), .fieldAddr 74 (.tmp 2) 12, none⟩,
                 ⟨(some 73), .load 67 (.tmp 72), none⟩,
                 ⟨(some 74), .fieldAddr 74 (.tmp 3) 12, none⟩,
                 ⟨(some 75), .load 67 (.tmp 74), none⟩,
                 ⟨(some 76), .call ⟨(.value (.func 58)), #[(.tmp 73), (.tmp 75)], #[67, 67]⟩, none⟩,
                 ⟨(some 77), .unOp .not 4 (.tmp 76), none⟩])
              (.cond (.tmp 77) (.seq (.reg [⟨(some 4), .assign (.const (.bool false)), none⟩])
                .ret)
               .skip))
             (.seq (.seq (.reg [⟨(some 78), .fieldAddr 74 (.tmp 2) 13, none⟩,
                  ⟨(some 79), .load 2 (.tmp 78), none⟩,
                  ⟨(some 80), .fieldAddr 74 (.tmp 3) 13, none⟩,
                  ⟨(some 81), .load 2 (.tmp 80), none⟩,
                  ⟨(some 82), .binOp .neq 2 (.tmp 79) (.tmp 81) 2, none⟩])
               (.cond (.tmp 82) (.seq (.reg [⟨(some 4), .assign (.const (.bool false)), none⟩])
                 .ret)
                .skip))
              (.seq (.seq (.reg [⟨(some 83), .fieldAddr 74 (.tmp 2) 14, none⟩,
                   ⟨(some 84), .load 9 (.tmp 83), none⟩,
                   ⟨(some 85), .fieldAddr 74 (.tmp 3) 14, none⟩,
                   ⟨(some 86), .load 9 (.tmp 85), none⟩,
                   ⟨(some 87), .binOp .neq 9 (.tmp 84) (.tmp 86) 9, none⟩])
                (.cond (.tmp 87) (.seq (.reg [⟨(some 4), .assign (.const (.bool false)), none⟩])
                  .ret)
                 .skip))
               (.seq (.reg [⟨(some 4), .assign (.const (.bool true)), none⟩])
                .ret)))))))))))))))))
theorem s21 : slimF Try.f21 = some (c21, [.t 4], 88) := by kernel_rfl
theorem o21 : okF [(24, g24), (25, g25), (9, g9), (55, g55), (56, g56), (57, g57), (58, g58)] Try.f21 = true := by kernel_rfl
theorem p21 : Pure Try.prog 21 g21 := by
  refine semOf_pure fun ⟨τ, τ', x, y⟩ n h2 _ => ?_
  have hT : Table Try.prog [(24, g24), (25, g25), (9, g9), (55, g55), (56, g56), (57, g57), (58, g58)] := (.cons p24 (.cons p25 (.cons p9 (.cons p55 (.cons p56 (.cons p57 (.cons p58 .nil)))))))
  refine SatP.of_body hT hm Try.func21 s21 o21 h2 (by simp) ?_
  rcases Bool.eq_false_or_eq_true (eqB x y) with hxy | hxy
  · rw [hxy]
    have h := eqB_iff.1 hxy
    subst h
    simp (config := {contextual := true, maxSteps := 4000000, implicitDefEqProofs := false}) [c21, go_sem, eqB_iff, eqB_not]
  · rw [hxy]
    have h := eqB_not.1 hxy
    rw [eq_Msg] at h
    simp (config := {contextual := true, maxSteps := 4000000, implicitDefEqProofs := false}) [c21, go_sem, eqB_iff, eqB_not]
    simpa using h
end Go.Ve
