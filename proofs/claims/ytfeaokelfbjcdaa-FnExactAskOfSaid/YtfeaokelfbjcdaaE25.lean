/- The engine, part 25: the sizes, copies and comparisons that laws make, for data of any type. No condition. -/
import Derived.Test.YtfeaokelfbjcdaaE24
namespace Go.Ve
open Go.RowKit
set_option linter.unusedVariables false
set_option linter.unusedSimpArgs false
set_option maxRecDepth 10000

def szFlatC (ti t : Nat) : SCode := (.seq (.reg [⟨(some 4), .assign (.const (.int .i64 0)), none⟩])
(.seq (.reg [⟨(some 5), .move (.tmp 1), none⟩,
    ⟨(some 6), .move (.tmp 0), none⟩,
    ⟨(some 7), .call ⟨(.builtin .len), #[(.tmp 6)], #[t]⟩, none⟩,
    ⟨(some 8), .binOp .sub ti (.tmp 5) (.tmp 7) ti, none⟩,
    ⟨(some 1), .assign (.tmp 8), none⟩])
 (.seq (.seq (.reg [⟨(some 9), .move (.tmp 1), none⟩,
      ⟨(some 10), .binOp .lss ti (.tmp 9) (.const (.int .i64 0)) ti, none⟩])
   (.cond (.tmp 10) (.seq (.reg [⟨(some 4), .assign (.const (.int .i64 (-1))), none⟩])
     .ret)
    .skip))
  (.seq (.reg [⟨(some 11), .move (.tmp 1), none⟩,
      ⟨(some 4), .assign (.tmp 11), none⟩])
   .ret))))
def szDeepC (ti t e fe : Nat) : SCode := (.seq (.reg [⟨(some 4), .assign (.const (.int .i64 0)), none⟩])
(.seq (.reg [⟨(some 6), .move (.tmp 1), none⟩,
    ⟨(some 7), .move (.tmp 0), none⟩,
    ⟨(some 8), .call ⟨(.builtin .len), #[(.tmp 7)], #[t]⟩, none⟩,
    ⟨(some 9), .binOp .sub ti (.tmp 6) (.tmp 8) ti, none⟩,
    ⟨(some 1), .assign (.tmp 9), none⟩])
 (.seq (.seq (.reg [⟨(some 10), .move (.tmp 1), none⟩,
      ⟨(some 11), .binOp .lss ti (.tmp 10) (.const (.int .i64 0)) ti, none⟩])
   (.cond (.tmp 11) (.seq (.reg [⟨(some 4), .assign (.const (.int .i64 (-1))), none⟩])
     .ret)
    .skip))
  (.seq (.seq (.reg [⟨(some 5), .assign (.const (.int .i64 0)), none⟩])
    (.block 0 (.loop (.seq (.seq (.reg [⟨(some 12), .move (.tmp 5), none⟩,
           ⟨(some 13), .move (.tmp 0), none⟩,
           ⟨(some 14), .call ⟨(.builtin .len), #[(.tmp 13)], #[t]⟩, none⟩,
           ⟨(some 15), .binOp .lss ti (.tmp 12) (.tmp 14) ti, none⟩])
        (.cond (.tmp 15) .skip
         (.exit 0)))
       (.seq (.block 1 (.seq (.reg [⟨(some 18), .move (.tmp 0), none⟩,
             ⟨(some 19), .move (.tmp 5), none⟩,
             ⟨(some 20), .indexAddr t (.tmp 18) (.tmp 19), none⟩,
             ⟨(some 21), .load e (.tmp 20), none⟩,
             ⟨(some 22), .move (.tmp 1), none⟩,
             ⟨(some 23), .call ⟨(.value (.func fe)), #[(.tmp 21), (.tmp 22)], #[e, ti]⟩, none⟩,
             ⟨(some 1), .assign (.tmp 23), none⟩])
          (.seq (.reg [⟨(some 24), .move (.tmp 1), none⟩,
              ⟨(some 25), .binOp .lss ti (.tmp 24) (.const (.int .i64 0)) ti, none⟩])
           (.cond (.tmp 25) (.seq (.reg [⟨(some 4), .assign (.const (.int .i64 (-1))), none⟩])
             .ret)
            .skip))))
        (.reg [⟨(some 16), .move (.tmp 5), none⟩,
           ⟨(some 17), .binOp .add ti (.tmp 16) (.const (.int .i64 1)) ti, none⟩,
           ⟨(some 5), .assign (.tmp 17), none⟩]))))))
   (.seq (.reg [⟨(some 26), .move (.tmp 1), none⟩,
       ⟨(some 4), .assign (.tmp 26), none⟩])
    .ret)))))
def toDeepC (ti t u e d fe : Nat) : SCode := (.seq (.reg [⟨(some 2), .assign (.const (.slice none 0 0)), none⟩])
(.seq (.reg [⟨(some 5), .move (.tmp 0), none⟩,
    ⟨(some 6), .call ⟨(.builtin .len), #[(.tmp 5)], #[t]⟩, none⟩,
    ⟨(some 7), .makeSlice u (.tmp 6) (.tmp 6), none⟩,
    ⟨(some 3), .assign (.tmp 7), none⟩])
 (.seq (.seq (.reg [⟨(some 4), .assign (.const (.int .i64 0)), none⟩])
   (.block 0 (.loop (.seq (.seq (.reg [⟨(some 8), .move (.tmp 4), none⟩,
          ⟨(some 9), .move (.tmp 0), none⟩,
          ⟨(some 10), .call ⟨(.builtin .len), #[(.tmp 9)], #[t]⟩, none⟩,
          ⟨(some 11), .binOp .lss ti (.tmp 8) (.tmp 10) ti, none⟩])
       (.cond (.tmp 11) .skip
        (.exit 0)))
      (.seq (.block 1 (.reg [⟨(some 14), .move (.tmp 3), none⟩,
           ⟨(some 15), .move (.tmp 4), none⟩,
           ⟨(some 16), .move (.tmp 0), none⟩,
           ⟨(some 17), .move (.tmp 4), none⟩,
           ⟨(some 18), .indexAddr t (.tmp 16) (.tmp 17), none⟩,
           ⟨(some 19), .load e (.tmp 18), none⟩,
           ⟨(some 20), .call ⟨(.value (.func fe)), #[(.tmp 19)], #[e]⟩, none⟩,
           ⟨(some 21), .indexAddr u (.tmp 14) (.tmp 15), none⟩,
           ⟨none, .store d (.tmp 21) (.tmp 20), none⟩]))
       (.reg [⟨(some 12), .move (.tmp 4), none⟩,
          ⟨(some 13), .binOp .add ti (.tmp 12) (.const (.int .i64 1)) ti, none⟩,
          ⟨(some 4), .assign (.tmp 13), none⟩]))))))
  (.seq (.reg [⟨(some 22), .move (.tmp 3), none⟩,
      ⟨(some 2), .assign (.tmp 22), none⟩])
   .ret))))
def toFlatC (ti t e : Nat) : SCode := (.seq (.reg [⟨(some 2), .assign (.const (.slice none 0 0)), none⟩])
(.seq (.reg [⟨(some 5), .move (.tmp 0), none⟩,
    ⟨(some 6), .call ⟨(.builtin .len), #[(.tmp 5)], #[t]⟩, none⟩,
    ⟨(some 7), .makeSlice t (.tmp 6) (.tmp 6), none⟩,
    ⟨(some 3), .assign (.tmp 7), none⟩])
 (.seq (.seq (.reg [⟨(some 4), .assign (.const (.int .i64 0)), none⟩])
   (.block 0 (.loop (.seq (.seq (.reg [⟨(some 8), .move (.tmp 4), none⟩,
          ⟨(some 9), .move (.tmp 0), none⟩,
          ⟨(some 10), .call ⟨(.builtin .len), #[(.tmp 9)], #[t]⟩, none⟩,
          ⟨(some 11), .binOp .lss ti (.tmp 8) (.tmp 10) ti, none⟩])
       (.cond (.tmp 11) .skip
        (.exit 0)))
      (.seq (.block 1 (.reg [⟨(some 14), .move (.tmp 3), none⟩,
           ⟨(some 15), .move (.tmp 4), none⟩,
           ⟨(some 16), .move (.tmp 0), none⟩,
           ⟨(some 17), .move (.tmp 4), none⟩,
           ⟨(some 18), .indexAddr t (.tmp 16) (.tmp 17), none⟩,
           ⟨(some 19), .load e (.tmp 18), none⟩,
           ⟨(some 20), .indexAddr t (.tmp 14) (.tmp 15), none⟩,
           ⟨none, .store e (.tmp 20) (.tmp 19), none⟩]))
       (.reg [⟨(some 12), .move (.tmp 4), none⟩,
          ⟨(some 13), .binOp .add ti (.tmp 12) (.const (.int .i64 1)) ti, none⟩,
          ⟨(some 4), .assign (.tmp 13), none⟩]))))))
  (.seq (.reg [⟨(some 21), .move (.tmp 3), none⟩,
      ⟨(some 2), .assign (.tmp 21), none⟩])
   .ret))))
def eqDeepC (ti tb t e fe : Nat) : SCode := (.seq (.reg [⟨(some 4), .assign (.const (.bool false)), none⟩])
(.seq (.seq (.reg [⟨(some 6), .move (.tmp 0), none⟩,
     ⟨(some 7), .call ⟨(.builtin .len), #[(.tmp 6)], #[t]⟩, none⟩,
     ⟨(some 8), .move (.tmp 1), none⟩,
     ⟨(some 9), .call ⟨(.builtin .len), #[(.tmp 8)], #[t]⟩, none⟩,
     ⟨(some 10), .binOp .neq ti (.tmp 7) (.tmp 9) ti, none⟩])
  (.cond (.tmp 10) (.seq (.reg [⟨(some 4), .assign (.const (.bool false)), none⟩])
    .ret)
   .skip))
 (.seq (.seq (.reg [⟨(some 5), .assign (.const (.int .i64 0)), none⟩])
   (.block 0 (.loop (.seq (.seq (.reg [⟨(some 11), .move (.tmp 5), none⟩,
          ⟨(some 12), .move (.tmp 0), none⟩,
          ⟨(some 13), .call ⟨(.builtin .len), #[(.tmp 12)], #[t]⟩, none⟩,
          ⟨(some 14), .binOp .lss ti (.tmp 11) (.tmp 13) ti, none⟩])
       (.cond (.tmp 14) .skip
        (.exit 0)))
      (.seq (.block 1 (.seq (.draw [⟨(some 17), .move (.tmp 0), none⟩,
            ⟨(some 18), .move (.tmp 5), none⟩,
            ⟨(some 19), .indexAddr t (.tmp 17) (.tmp 18), none⟩,
            ⟨(some 20), .load e (.tmp 19), none⟩,
            ⟨(some 21), .move (.tmp 1), none⟩,
            ⟨(some 22), .move (.tmp 5), none⟩,
            ⟨(some 23), .indexAddr t (.tmp 21) (.tmp 22), none⟩,
            ⟨(some 24), .load e (.tmp 23), none⟩,
            ⟨(some 25), .call ⟨(.value (.func fe)), #[(.tmp 20), (.tmp 24)], #[e, e]⟩, none⟩,
            ⟨(some 26), .unOp .not tb (.tmp 25), none⟩] [[], [], [0, 1], [0, 1, 2], [], [], [4, 5], [4, 5, 6], [0, 1, 2, 3, 4, 5, 6, 7], [0, 1, 2, 3, 4, 5, 6, 7, 8]])
         (.cond (.tmp 26) (.seq (.reg [⟨(some 4), .assign (.const (.bool false)), none⟩])
           .ret)
          .skip)))
       (.reg [⟨(some 15), .move (.tmp 5), none⟩,
          ⟨(some 16), .binOp .add ti (.tmp 15) (.const (.int .i64 1)) ti, none⟩,
          ⟨(some 5), .assign (.tmp 16), none⟩]))))))
  (.seq (.reg [⟨(some 4), .assign (.const (.bool true)), none⟩])
   .ret))))
def eqFlatC (ti t e : Nat) : SCode := (.seq (.reg [⟨(some 4), .assign (.const (.bool false)), none⟩])
(.seq (.seq (.reg [⟨(some 6), .move (.tmp 0), none⟩,
     ⟨(some 7), .call ⟨(.builtin .len), #[(.tmp 6)], #[t]⟩, none⟩,
     ⟨(some 8), .move (.tmp 1), none⟩,
     ⟨(some 9), .call ⟨(.builtin .len), #[(.tmp 8)], #[t]⟩, none⟩,
     ⟨(some 10), .binOp .neq ti (.tmp 7) (.tmp 9) ti, none⟩])
  (.cond (.tmp 10) (.seq (.reg [⟨(some 4), .assign (.const (.bool false)), none⟩])
    .ret)
   .skip))
 (.seq (.seq (.reg [⟨(some 5), .assign (.const (.int .i64 0)), none⟩])
   (.block 0 (.loop (.seq (.seq (.reg [⟨(some 11), .move (.tmp 5), none⟩,
          ⟨(some 12), .move (.tmp 0), none⟩,
          ⟨(some 13), .call ⟨(.builtin .len), #[(.tmp 12)], #[t]⟩, none⟩,
          ⟨(some 14), .binOp .lss ti (.tmp 11) (.tmp 13) ti, none⟩])
       (.cond (.tmp 14) .skip
        (.exit 0)))
      (.seq (.block 1 (.seq (.draw [⟨(some 17), .move (.tmp 0), none⟩,
            ⟨(some 18), .move (.tmp 5), none⟩,
            ⟨(some 19), .indexAddr t (.tmp 17) (.tmp 18), none⟩,
            ⟨(some 20), .load e (.tmp 19), none⟩,
            ⟨(some 21), .move (.tmp 1), none⟩,
            ⟨(some 22), .move (.tmp 5), none⟩,
            ⟨(some 23), .indexAddr t (.tmp 21) (.tmp 22), none⟩,
            ⟨(some 24), .load e (.tmp 23), none⟩,
            ⟨(some 25), .binOp .neq e (.tmp 20) (.tmp 24) e, none⟩] [[], [], [0, 1], [0, 1, 2], [], [], [4, 5], [4, 5, 6], [0, 1, 2, 3, 4, 5, 6, 7]])
         (.cond (.tmp 25) (.seq (.reg [⟨(some 4), .assign (.const (.bool false)), none⟩])
           .ret)
          .skip)))
       (.reg [⟨(some 15), .move (.tmp 5), none⟩,
          ⟨(some 16), .binOp .add ti (.tmp 15) (.const (.int .i64 1)) ti, none⟩,
          ⟨(some 5), .assign (.tmp 16), none⟩]))))))
  (.seq (.reg [⟨(some 4), .assign (.const (.bool true)), none⟩])
   .ret))))

theorem tot_list {α : Type} {E : En α} {l : List α} : E.list.tot l = l.length + (l.map E.tot).sum := rfl
theorem sum_zero {α : Type} {l : List α} : (l.map fun _ => 0).sum = 0 := by
  induction l with
  | nil => rfl
  | cons x l ih => simp [ih]
/-- What is left of a budget. -/
def szR (b : Int) (t : Nat) : Int := if (t : Int) ≤ b then b - t else -1
def bigB : Int := 4611686018427387904
theorem szR_spec (b : Int) (t : Nat) : ((t : Int) ≤ b ∧ szR b t = b - t) ∨ (b < t ∧ szR b t = -1) := by
  unfold szR
  split <;> omega
/-- Equal or not. -/
noncomputable def eqB {α : Type} (x y : α) : Bool := open Classical in decide (x = y)
theorem eqB_iff {α : Type} {x y : α} : eqB x y = true ↔ x = y := by simp [eqB]
theorem eqB_not {α : Type} {x y : α} : eqB x y = false ↔ ¬ x = y := by simp [eqB]
theorem eqB_dec {α : Type} [DecidableEq α] {x y : α} : eqB x y = decide (x = y) := by
  by_cases h : x = y
  · rw [eqB_iff.2 h]; simp [h]
  · rw [eqB_not.2 h]; simp [h]
noncomputable def szSem {α : Type} (E : En α) : Fsem := semOf (fun i : Nat × α × Int => [E.av i.1 i.2.1, .int .i64 i.2.2]) (fun i => 0 ≤ i.2.2 ∧ i.2.2 ≤ bigB) (fun _ i => .int .i64 (szR i.2.2 (E.tot i.2.1)))
noncomputable def toSem {α : Type} (Ei Eo : En α) : Fsem := semOf (fun i : Nat × α => [Ei.av i.1 i.2]) (fun i => Ei.tot i.2 ≤ 1048576) (fun n i => Eo.av n i.2)
noncomputable def eqSem {α : Type} (E E' : En α) : Fsem := semOf (fun i : Nat × Nat × α × α => [E.av i.1 i.2.2.1, E'.av i.2.1 i.2.2.2]) (fun _ => True) (fun _ i => .bool (eqB (i.2.2.1) (i.2.2.2)))
section
variable {α : Type} {E Ei Eo : En α} {n : Nat}
theorem szSem_eq {τ : Nat} {x : α} {b : Int} : szSem E n [E.av τ x, .int .i64 b] = ⟨0 ≤ b ∧ b ≤ bigB, .int .i64 (szR b (E.tot x))⟩ :=
  semOf_eq (τ, x, b) rfl fun ⟨τ', x', b'⟩ h => by
    simp only [List.cons.injEq, AV.int.injEq, and_true, true_and] at h
    obtain ⟨h1, h2⟩ := h
    have := E.inj h1
    subst this h2
    exact ⟨Iff.rfl, rfl⟩
theorem toSem_eq {τ : Nat} {x : α} : toSem Ei Eo n [Ei.av τ x] = ⟨Ei.tot x ≤ 1048576, Eo.av n x⟩ :=
  semOf_eq (τ, x) rfl fun ⟨τ', x'⟩ h => by
    simp only [List.cons.injEq, and_true] at h
    have := Ei.inj h
    subst this
    exact ⟨Iff.rfl, rfl⟩
theorem eqSem_eq {E' : En α} {τ τ' : Nat} {x y : α} : eqSem E E' n [E.av τ x, E'.av τ' y] = ⟨True, .bool (eqB (x) (y))⟩ :=
  semOf_eq (τ, τ', x, y) rfl fun ⟨t, t', x', y'⟩ h => by
    simp only [List.cons.injEq, and_true] at h
    have h1 := E.inj h.1
    have h2 := E'.inj h.2
    subst h1 h2
    exact ⟨Iff.rfl, rfl⟩
end

/-- A variable's load gives the datum. -/
def FitE (P : Program) (e : Nat) {α : Type} (E : En α) : Prop := (P.info? e).isSome = true ∧ P.cellsOf e = E.w ∧ ∀ τ x, ldvR E.w (tyOf P e) (E.cs τ x) = ⟨True, E.av τ x⟩

section
variable {P : Program} {α : Type} {E Ei Eo : En α} {f : FuncId} {fn : Func} {nt : Nat}
theorem sum_flat (hE : ∀ x, E.tot x = 0) (l : List α) : (l.map E.tot).sum = 0 := by
  induction l with
  | nil => rfl
  | cons x l ih => simp [hE x, ih]
theorem szFlat_ok {ti t e : Nat} (hm : P.follows .mixedOrders = true) (hf : P.funcs[f]? = some fn) (hsl : slimF fn = some (szFlatC ti t, [.t 4], nt)) (ho : okF [] fn = true) (hnt : 2 ≤ nt)
    (ht : tyOf P t = .sl e) (hE : ∀ x, E.tot x = 0) : Pure P f (szSem E.list) := by
  refine semOf_pure fun ⟨τ, l, b⟩ n h2 ⟨hb1, hb2⟩ => ?_
  refine SatP.of_body Table.nil hm hf hsl ho h2 (by simpa using hnt) ?_
  simp (config := {contextual := true}) only [szFlatC, go_sem, ht, ↓reduceIte, Nat.reduceEqDiff, Nat.reduceAdd, true_and, and_true, tot_list, sum_flat hE, Nat.add_zero, List.length_map]
  intro hL
  simp only [bigB, maxLen] at hL hb1 hb2
  rw [wrap_ok (by omega) (by omega)]
  simp only [decide_eq_true_eq, decide_eq_false_iff_not, AV.int.injEq, true_and, szR]
  constructor
  · intro h
    rw [if_neg (by omega)]
  · intro h
    rw [if_pos (by omega)]

theorem sum_take_le (l : List α) (i : Nat) : ((l.take i).map E.tot).sum ≤ (l.map E.tot).sum := by
  conv => rhs; rw [← List.take_append_drop i l]
  rw [List.map_append, List.sum_append]
  exact Nat.le_add_right _ _
theorem sum_take_succ (l : List α) (i : Nat) (h : i < l.length) : ((l.take (i + 1)).map E.tot).sum = ((l.take i).map E.tot).sum + E.tot l[i] := by
  rw [List.take_succ_eq_append_getElem h, List.map_append, List.sum_append]
  simp
theorem sum_take_all (l : List α) (i : Nat) (h : l.length ≤ i) : ((l.take i).map E.tot).sum = (l.map E.tot).sum := by
  rw [List.take_of_length_le h]
theorem szDeep_ok {ti t e fe : Nat} {sem : Fsem} (hm : P.follows .mixedOrders = true) (hf : P.funcs[f]? = some fn) (hsl : slimF fn = some (szDeepC ti t e fe, [.t 4], nt)) (ho : okF [(fe, sem)] fn = true) (hnt : 2 ≤ nt)
    (ht : tyOf P t = .sl e) (hE : FitE P e E) (hfe : Pure P fe sem) (hs : ∀ n τ x b, sem n [E.av τ x, .int .i64 b] = ⟨0 ≤ b ∧ b ≤ bigB, .int .i64 (szR b (E.tot x))⟩) : Pure P f (szSem E.list) := by
  refine semOf_pure fun ⟨τ, l, b⟩ n h2 ⟨hb1, hb2⟩ => ?_
  have hT : Table P [(fe, sem)] := .cons hfe .nil
  refine SatP.of_body hT hm hf hsl ho h2 (by simpa using hnt) ?_
  obtain ⟨hE0, hE1, hE2⟩ := hE
  simp (config := {contextual := true}) only [szDeepC, go_sem, ht, ↓reduceIte, Nat.reduceEqDiff, Nat.reduceAdd, true_and, and_true, tot_list, List.length_map]
  intro hL
  have hL' := hL
  simp only [bigB, maxLen] at hL' hb1 hb2
  rw [wrap_ok (by omega) (by omega)]
  simp only [decide_eq_true_eq, decide_eq_false_iff_not, AV.int.injEq, true_and, szR]
  refine ⟨fun h => by rw [if_neg (by omega)], fun hb => ?_⟩
  refine VW_for hT h2 hm (fun i : Nat => ⟨[(5, .int .i64 i), (1, .int .i64 (b - l.length - ((l.take i).map E.tot).sum)), (0, .sl τ E.w (l.map (E.av τ)))], []⟩) (fun i => i ≤ l.length ∧ (((l.take i).map E.tot).sum : Int) ≤ b - l.length) (fun i => l.length - i) (· + 1) 0 ?_ ?_ ?_
  · simp; omega
  · simp [SubI, go_sem]
  · rintro i ⟨hi, hall⟩
    have hw : i < l.length → IntKind.i64.wrap ((i : Int) + 1) = (i : Int) + 1 := wrap_next hL
    have hn : ∀ h : i < l.length, nth (l.map (E.av τ)) i = E.av τ l[i] := fun h => nth_av E h
    have hw2 : (0 : Int) ≤ i := by omega
    have hc1 : 0 ≤ b - l.length - ((l.take i).map E.tot).sum := by omega
    have hc2 : b - l.length - ((l.take i).map E.tot).sum ≤ bigB := by simp only [bigB]; omega
    simp (config := {contextual := true}) only [go_sem, ht, hE0, hE1, hE2, hs, hn, hw, hw2, hc1, hc2, E.cells, ↓reduceIte, Nat.reduceEqDiff, Nat.reduceAdd, true_and, and_true, List.length_map, List.toList_toArray, List.mem_cons, List.not_mem_nil, or_false, forall_eq_or_imp, forall_eq, List.map_cons, List.map_nil, List.append_nil, decide_eq_true_eq, decide_eq_false_iff_not, Int.ofNat_lt, Int.toNat_natCast, SubI, List.cons_append, List.nil_append]
    have hsr : ∀ h : i < l.length, szR (b - l.length - ((l.take i).map E.tot).sum) (E.tot l[i]) = if ((l.length + ((l.take (i + 1)).map E.tot).sum : Nat) : Int) ≤ b then b - l.length - ((l.take (i + 1)).map E.tot).sum else -1 := fun h => by
      rw [sum_take_succ (E := E) l i h, szR]
      split <;> split <;> omega
    intro _
    refine ⟨fun a => ?_, fun h => ?_⟩
    · rw [hsr a]
      have h1 := sum_take_le (E := E) l (i + 1)
      split
      · refine ⟨fun h => by omega, fun _ => ⟨by omega, ⟨by omega, by omega⟩, by simp, rfl⟩⟩
      · refine ⟨fun _ => by rw [if_neg (by omega)], fun h => absurd (by omega) h⟩
    · rw [sum_take_all (E := E) l i (by omega)] at hall ⊢
      rw [if_pos (by omega)]
      congr 1
      omega

theorem eqDeep_ok {ti tb t e fe : Nat} {sem : Fsem} {E' : En α} (hm : P.follows .mixedOrders = true) (hf : P.funcs[f]? = some fn) (hsl : slimF fn = some (eqDeepC ti tb t e fe, [.t 4], nt)) (ho : okF [(fe, sem)] fn = true) (hnt : 2 ≤ nt)
    (ht : tyOf P t = .sl e) (hE : FitE P e E) (hE' : FitE P e E') (hfe : Pure P fe sem) (hs : ∀ n τ x τ' x', sem n [E.av τ x, E'.av τ' x'] = ⟨True, .bool (eqB (x) (x'))⟩) : Pure P f (eqSem E.list E'.list) := by
  refine semOf_pure fun ⟨τ, τ', l, l'⟩ n h2 _ => ?_
  have hT : Table P [(fe, sem)] := .cons hfe .nil
  refine SatP.of_body hT hm hf hsl ho h2 (by simpa using hnt) ?_
  obtain ⟨hE0, hE1, hE2⟩ := hE
  obtain ⟨hE0', hE1', hE2'⟩ := hE'
  have hEw : E'.w = E.w := hE1'.symm.trans hE1
  rw [hEw] at hE2'
  simp (config := {contextual := true}) only [eqDeepC, go_sem, ht, hEw, ↓reduceIte, Nat.reduceEqDiff, Nat.reduceAdd, true_and, and_true, List.length_map, List.mem_cons, List.not_mem_nil, or_false, forall_eq_or_imp, forall_eq]
  intro hL hL'
  refine ⟨fun h => ?_, fun h => ?_⟩
  · simp only [Bool.not_eq_true', decide_eq_false_iff_not] at h
    congr 1
    exact (eqB_not.2 fun h' => h (by rw [h'])).symm
  have hll : l.length = l'.length := by
    have : (l.length : Int) = l'.length := by simpa using h
    omega
  refine VW_for hT h2 hm (fun i : Nat => ⟨[(5, .int .i64 i), (0, .sl τ E.w (l.map (E.av τ))), (1, .sl τ' E.w (l'.map (E'.av τ')))], []⟩) (fun i => i ≤ l.length ∧ l.take i = l'.take i) (fun i => l.length - i) (· + 1) 0 ?_ ?_ ?_
  · simp
  · simp [SubI, go_sem]
  · rintro i ⟨hi, hall⟩
    have hw : i < l.length → IntKind.i64.wrap ((i : Int) + 1) = (i : Int) + 1 := wrap_next hL
    have hn : ∀ h : i < l.length, nth (l.map (E.av τ)) i = E.av τ l[i] := fun h => nth_av E h
    have hn' : ∀ h : i < l.length, nth (l'.map (E'.av τ')) i = E'.av τ' (l'[i]'(by omega)) := fun h => nth_av E' _
    have hw2 : (0 : Int) ≤ i := by omega
    have hlt : (i < l'.length) = (i < l.length) := by rw [hll]
    simp (config := {contextual := true}) [go_sem, ht, hE0, hE1, hE2, hE2', hs, hn, hn', hw, hw2, hlt, E.cells, E'.cells, SubI, eqB_iff, eqB_not]
    intro _
    refine ⟨fun a => ⟨fun hne h => hne (by subst h; rfl), fun he => ⟨by omega, by omega, ?_⟩⟩, fun h => ?_⟩
    · rw [List.take_succ_eq_append_getElem a, List.take_succ_eq_append_getElem (by omega : i < l'.length), hall, he]
    · rw [List.take_of_length_le h, List.take_of_length_le (by omega)] at hall
      exact hall

theorem eqFlat_ok {ti t e : Nat} {E' : En α} (hm : P.follows .mixedOrders = true) (hf : P.funcs[f]? = some fn) (hsl : slimF fn = some (eqFlatC ti t e, [.t 4], nt)) (ho : okF [] fn = true) (hnt : 2 ≤ nt)
    (ht : tyOf P t = .sl e) (hE : FitE P e E) (hE' : FitE P e E') (hs : ∀ τ x τ' x', vbin P .neq e (E.av τ x) (E'.av τ' x') = ⟨True, .bool (!(eqB (x) (x')))⟩) : Pure P f (eqSem E.list E'.list) := by
  refine semOf_pure fun ⟨τ, τ', l, l'⟩ n h2 _ => ?_
  have hT : Table P [] := .nil
  refine SatP.of_body hT hm hf hsl ho h2 (by simpa using hnt) ?_
  obtain ⟨hE0, hE1, hE2⟩ := hE
  obtain ⟨hE0', hE1', hE2'⟩ := hE'
  have hEw : E'.w = E.w := hE1'.symm.trans hE1
  rw [hEw] at hE2'
  simp (config := {contextual := true}) only [eqFlatC, go_sem, ht, hEw, ↓reduceIte, Nat.reduceEqDiff, Nat.reduceAdd, true_and, and_true, List.length_map, List.mem_cons, List.not_mem_nil, or_false, forall_eq_or_imp, forall_eq]
  intro hL hL'
  refine ⟨fun h => ?_, fun h => ?_⟩
  · simp only [Bool.not_eq_true', decide_eq_false_iff_not] at h
    congr 1
    exact (eqB_not.2 fun h' => h (by rw [h'])).symm
  have hll : l.length = l'.length := by
    have : (l.length : Int) = l'.length := by simpa using h
    omega
  refine VW_for hT h2 hm (fun i : Nat => ⟨[(5, .int .i64 i), (0, .sl τ E.w (l.map (E.av τ))), (1, .sl τ' E.w (l'.map (E'.av τ')))], []⟩) (fun i => i ≤ l.length ∧ l.take i = l'.take i) (fun i => l.length - i) (· + 1) 0 ?_ ?_ ?_
  · simp
  · simp [SubI, go_sem]
  · rintro i ⟨hi, hall⟩
    have hw : i < l.length → IntKind.i64.wrap ((i : Int) + 1) = (i : Int) + 1 := wrap_next hL
    have hn : ∀ h : i < l.length, nth (l.map (E.av τ)) i = E.av τ l[i] := fun h => nth_av E h
    have hn' : ∀ h : i < l.length, nth (l'.map (E'.av τ')) i = E'.av τ' (l'[i]'(by omega)) := fun h => nth_av E' _
    have hw2 : (0 : Int) ≤ i := by omega
    have hlt : (i < l'.length) = (i < l.length) := by rw [hll]
    simp (config := {contextual := true}) [go_sem, ht, hE0, hE1, hE2, hE2', hs, hn, hn', hw, hw2, hlt, E.cells, E'.cells, SubI, eqB_iff, eqB_not]
    intro _
    refine ⟨fun a => ⟨fun hne h => hne (by subst h; rfl), fun he => ⟨by omega, by omega, ?_⟩⟩, fun h => ?_⟩
    · rw [List.take_succ_eq_append_getElem a, List.take_succ_eq_append_getElem (by omega : i < l'.length), hall, he]
    · rw [List.take_of_length_le h, List.take_of_length_le (by omega)] at hall
      exact hall

/-- A new variable's element, and what a store makes of it. -/
def FitZ (P : Program) (d : Nat) {α : Type} (E : En α) : Prop :=
  (P.info? d).isSome = true ∧ P.cellsOf d = E.w ∧ zOk P d = true ∧ (∀ y ∈ zcells P d, y.isD = true) ∧ (zel P d).cells = zcells P d ∧ (zcells P d).length = E.w ∧ P.bytesOf d ≤ 1048576 ∧ ∀ τ x, setEl (zel P d) 0 (E.cs τ x) = E.av τ x

theorem tot_mem {l : List α} {x : α} (h : x ∈ l) : E.tot x ≤ (l.map E.tot).sum := by
  induction l with
  | nil => cases h
  | cons y l ih =>
    simp only [List.map_cons, List.sum_cons]
    cases h with
    | head => omega
    | tail _ h => have := ih h; omega
theorem set_fill {A : Type} {l : List A} {z : A} {i m : Nat} (hi : l.length = i) (hm : i < m) (v : A) : (l ++ List.replicate (m - i) z).set i v = l ++ [v] ++ List.replicate (m - (i + 1)) z := by
  subst hi
  obtain ⟨q, rfl⟩ : ∃ q, m = l.length + (q + 1) := ⟨m - l.length - 1, by omega⟩
  have h1 : l.length + (q + 1) - l.length = q + 1 := by omega
  have h2 : l.length + (q + 1) - (l.length + 1) = q := by omega
  rw [h1, h2, List.replicate_succ, List.set_append_right _ _ (Nat.le_refl _)]
  simp
theorem nth_fill {l : List AV} {z : AV} {i m : Nat} (hi : l.length = i) (hm : i < m) : nth (l ++ List.replicate (m - i) z) i = z := by
  subst hi
  simp only [nth, List.getD_eq_getElem?_getD]
  rw [List.getElem?_append_right (Nat.le_refl _), Nat.sub_self, List.getElem?_replicate, if_pos (by omega)]
  rfl

theorem toDeep_ok {ti t u e d fe : Nat} {sem : Fsem} (hm : P.follows .mixedOrders = true) (hf : P.funcs[f]? = some fn) (hsl : slimF fn = some (toDeepC ti t u e d fe, [.t 2], nt)) (ho : okF [(fe, sem)] fn = true) (hnt : 2 ≤ nt)
    (ht : tyOf P t = .sl e) (hu : tyOf P u = .sl d) (hE : FitE P e Ei) (hZ : FitZ P d Eo) (hfe : Pure P fe sem) (hs : ∀ n τ x, sem n [Ei.av τ x] = ⟨Ei.tot x ≤ 1048576, Eo.av n x⟩) : Pure P f (toSem Ei.list Eo.list) := by
  refine semOf_pure fun ⟨τ, l⟩ n h2 hb => ?_
  have hT : Table P [(fe, sem)] := .cons hfe .nil
  refine SatP.of_body hT hm hf hsl ho h2 (by simp; omega) ?_
  obtain ⟨hE0, hE1, hE2⟩ := hE
  obtain ⟨z0, z1, z2, z3, z4, z5, z6, z7⟩ := hZ
  have hb' : l.length + (l.map Ei.tot).sum ≤ 1048576 := hb
  have hby : P.bytesOf d * l.length ≤ 1099511627776 := Nat.le_trans (Nat.mul_le_mul z6 (by omega : l.length ≤ 1048576)) (by omega)
  have hby' : (P.bytesOf d : Int) * (l.length : Int) ≤ 140737488355328 := by
    rw [← Int.natCast_mul]
    omega
  have hpos : 0 < Eo.w := Eo.pos
  have hl0 : (0 : Int) ≤ l.length := by omega
  have hl1 : (l.length : Int) ≤ 140737488355328 := by omega
  simp (config := {contextual := true}) only [toDeepC, go_sem, ht, hu, z0, z1, z2, z3, z4, hpos, hl0, hl1, hby', ↓reduceIte, Nat.reduceEqDiff, Nat.reduceAdd, true_and, and_true, List.length_map, List.mem_cons, List.not_mem_nil, or_false, forall_eq_or_imp, forall_eq, Int.le_refl, List.nil_append, List.length_nil, Int.toNat_natCast, implies_true, z3]
  intro hL
  refine VW_for hT h2 hm (fun i : Nat => ⟨[(4, .int .i64 i), (3, .osl 0 Eo.w 0 l.length), (0, .sl τ Ei.w (l.map (Ei.av τ)))], [.row d Eo.w ((l.map (Eo.av n)).take i ++ List.replicate (l.length - i) (zel P d))]⟩) (fun i => i ≤ l.length) (fun i => l.length - i) (· + 1) 0 ?_ ?_ ?_
  · simp
  · simp [SubI, go_sem]
  · rintro i hi
    have hw : i < l.length → IntKind.i64.wrap ((i : Int) + 1) = (i : Int) + 1 := wrap_next hL
    have hn : ∀ h : i < l.length, nth (l.map (Ei.av τ)) i = Ei.av τ l[i] := fun h => nth_av Ei h
    have hw2 : (0 : Int) ≤ i := by omega
    have hlen : ((l.map (Eo.av n)).take i).length = i := by simp; omega
    have hz1 : ∀ h : i < l.length, nth ((l.map (Eo.av n)).take i ++ List.replicate (l.length - i) (zel P d)) i = zel P d := fun h => nth_fill hlen h
    have hset : ∀ h : i < l.length, ((l.map (Eo.av n)).take i ++ List.replicate (l.length - i) (zel P d)).set i (Eo.av n l[i]) = (l.map (Eo.av n)).take (i + 1) ++ List.replicate (l.length - (i + 1)) (zel P d) := fun h => by
      rw [set_fill hlen h, List.take_succ_eq_append_getElem (by simpa using h)]
      simp
    have hcs : ∀ τ x, (Eo.cs τ x).length = Eo.w := Eo.len
    have hdrop : List.drop Eo.w (zcells P d) = [] := List.drop_of_length_le (by omega)
    have htot : ∀ h : i < l.length, Ei.tot l[i] ≤ 1048576 := fun h => by
      have := tot_mem (E := Ei) (List.getElem_mem h)
      omega
    have hrl : i + (l.length - i) = l.length := by omega
    have hlt : min i l.length + (l.length - i) = l.length := by omega
    simp (config := {contextual := true}) [go_sem, ht, hu, hE0, hE1, hE2, z0, z1, z4, z7, hs, hn, hw, hw2, hz1, hset, hcs, hdrop, htot, hrl, hlt, Ei.cells, Eo.cells, SubI]
    intro _
    refine ⟨fun a => ⟨by omega, by omega⟩, fun h => ?_⟩
    have hall : List.take i (List.map (Eo.av n) l) = List.map (Eo.av n) l := List.take_of_length_le (by simpa using h)
    have hall2 : List.take l.length (List.take i (List.map (Eo.av n) l)) = List.map (Eo.av n) l := by
      rw [hall]
      exact List.take_of_length_le (by simp)
    rw [hall2]
    refine ⟨.inr ⟨by omega, fun x hx y hy => ?_⟩, rfl⟩
    obtain ⟨a, _, rfl⟩ := List.mem_map.1 hx
    rw [Eo.cells] at hy
    exact Eo.nz n a (by omega) y hy


theorem toFlat_ok {ti t e : Nat} (hm : P.follows .mixedOrders = true) (hf : P.funcs[f]? = some fn) (hsl : slimF fn = some (toFlatC ti t e, [.t 2], nt)) (ho : okF [] fn = true) (hnt : 2 ≤ nt)
    (ht : tyOf P t = .sl e) (hE : FitE P e Ei) (hZ : FitZ P e Eo) (hw0 : Ei.w = Eo.w) (hs : ∀ n τ x, Ei.av τ x = Eo.av n x) : Pure P f (toSem Ei.list Eo.list) := by
  refine semOf_pure fun ⟨τ, l⟩ n h2 hb => ?_
  have hT : Table P [] := .nil
  refine SatP.of_body hT hm hf hsl ho h2 (by simp; omega) ?_
  obtain ⟨hE0, hE1, hE2⟩ := hE
  obtain ⟨z0, z1, z2, z3, z4, z5, z6, z7⟩ := hZ
  have hE3 : ∀ x, ldvR Eo.w (tyOf P e) (Eo.cs n x) = ⟨True, Eo.av n x⟩ := fun x => by
    have h1 := hE2 1 x
    rw [hs n 1 x, hw0] at h1
    have h3 := congrArg AV.cells (hs n 1 x)
    rw [Ei.cells, Eo.cells] at h3
    rw [h3] at h1
    exact h1
  have hb' : l.length + (l.map Ei.tot).sum ≤ 1048576 := hb
  have hby : P.bytesOf e * l.length ≤ 1099511627776 := Nat.le_trans (Nat.mul_le_mul z6 (by omega : l.length ≤ 1048576)) (by omega)
  have hby' : (P.bytesOf e : Int) * (l.length : Int) ≤ 140737488355328 := by
    rw [← Int.natCast_mul]
    omega
  have hpos : 0 < Eo.w := Eo.pos
  have hl0 : (0 : Int) ≤ l.length := by omega
  have hl1 : (l.length : Int) ≤ 140737488355328 := by omega
  simp (config := {contextual := true}) only [toFlatC, go_sem, ht, z0, z1, z2, z3, z4, hpos, hl0, hl1, hby', ↓reduceIte, Nat.reduceEqDiff, Nat.reduceAdd, true_and, and_true, List.length_map, List.mem_cons, List.not_mem_nil, or_false, forall_eq_or_imp, forall_eq, Int.le_refl, List.nil_append, List.length_nil, Int.toNat_natCast, implies_true, z3]
  intro hL
  refine VW_for hT h2 hm (fun i : Nat => ⟨[(4, .int .i64 i), (3, .osl 0 Eo.w 0 l.length), (0, .sl τ Ei.w (l.map (Ei.av τ)))], [.row e Eo.w ((l.map (Eo.av n)).take i ++ List.replicate (l.length - i) (zel P e))]⟩) (fun i => i ≤ l.length) (fun i => l.length - i) (· + 1) 0 ?_ ?_ ?_
  · simp
  · simp [SubI, go_sem]
  · rintro i hi
    have hw : i < l.length → IntKind.i64.wrap ((i : Int) + 1) = (i : Int) + 1 := wrap_next hL
    have hn : ∀ h : i < l.length, nth (l.map (Ei.av τ)) i = Eo.av n l[i] := fun h => (nth_av Ei h).trans (hs n τ _)
    have hw2 : (0 : Int) ≤ i := by omega
    have hlen : ((l.map (Eo.av n)).take i).length = i := by simp; omega
    have hz1 : ∀ h : i < l.length, nth ((l.map (Eo.av n)).take i ++ List.replicate (l.length - i) (zel P e)) i = zel P e := fun h => nth_fill hlen h
    have hset : ∀ h : i < l.length, ((l.map (Eo.av n)).take i ++ List.replicate (l.length - i) (zel P e)).set i (Eo.av n l[i]) = (l.map (Eo.av n)).take (i + 1) ++ List.replicate (l.length - (i + 1)) (zel P e) := fun h => by
      rw [set_fill hlen h, List.take_succ_eq_append_getElem (by simpa using h)]
      simp
    have hcs : ∀ τ x, (Eo.cs τ x).length = Eo.w := Eo.len
    have hdrop : List.drop Eo.w (zcells P e) = [] := List.drop_of_length_le (by omega)
    have htot : ∀ h : i < l.length, Ei.tot l[i] ≤ 1048576 := fun h => by
      have := tot_mem (E := Ei) (List.getElem_mem h)
      omega
    have hrl : i + (l.length - i) = l.length := by omega
    have hlt : min i l.length + (l.length - i) = l.length := by omega
    simp (config := {contextual := true}) [go_sem, ht, hE0, hE1, hE3, z0, z1, z4, z7, hw0, hn, hw, hw2, hz1, hset, hcs, hdrop, htot, hrl, hlt, Ei.cells, Eo.cells, SubI]
    intro _
    refine ⟨fun a => ⟨by omega, by omega⟩, fun h => ?_⟩
    have hall : List.take i (List.map (Eo.av n) l) = List.map (Eo.av n) l := List.take_of_length_le (by simpa using h)
    have hall2 : List.take l.length (List.take i (List.map (Eo.av n) l)) = List.map (Eo.av n) l := by
      rw [hall]
      exact List.take_of_length_le (by simp)
    rw [hall2]
    refine ⟨.inr ⟨by omega, fun x hx y hy => ?_⟩, rfl⟩
    obtain ⟨a, _, rfl⟩ := List.mem_map.1 hx
    rw [Eo.cells] at hy
    exact Eo.nz n a (by omega) y hy

end
end Go.Ve
