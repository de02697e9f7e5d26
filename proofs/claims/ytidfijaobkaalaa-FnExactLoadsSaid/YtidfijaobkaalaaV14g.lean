/- Contracts of the seat: slices.Grow at a nil slice. No condition. -/
import Derived.Test.YtidfijaobkaalaaV8
import Derived.Lib.AppendZerosOnto
import Derived.Shelf.RegionOpenPlain
import Derived.Lib.Walk
import Derived.Lib.SliceRun
namespace Go.Ve
open Go.Proofs Go.RowKit Go.Lib
set_option linter.unusedVariables false
set_option linter.unusedSimpArgs false
set_option maxRecDepth 100000
set_option maxHeartbeats 4000000
theorem o133 : okF [] Try.f133 = true := by kernel_rfl
theorem grow_calls (n : Nat) (w : World) (hn : 0 < n) (hbig : n ≤ 1048576) :
    Calls Try.prog 133 #[.slice none 0 0, .int .i64 n] w fun e w' =>
      e = .returned (.slice (some ⟨w.heap.size, 0, none⟩) 0 (grownCap w n 0 2)) ∧
      w' = w.drew.alloc (.cells (#[] ++ Builtin.zeroCells #[.int .i64 0] n ++ Builtin.zeroCells #[.int .i64 0] (grownCap w n 0 2 - n)) 2) := by
  have h1 : ¬ ((n : Int) < 0) := by omega
  have h2 : wrap64 ((0 : Int) - (0 : Int)) = 0 := by unfold wrap64; omega
  have h3 : wrap64 ((n : Int) - 0) = (n : Int) := by unfold wrap64; omega
  have h4 : (n : Int) > 0 := by omega
  have hrz : ∀ ty, (Builtin.append_ #[28, 3] ty #[.slice none 0 0, .int .i64 (n : Int)]).run Try.prog w =
      .ok (.slice (some ⟨w.heap.size, 0, none⟩) n (grownCap w n 0 2)) (w.drew.alloc (.cells (#[] ++ Builtin.zeroCells #[.int .i64 0] n ++ Builtin.zeroCells #[.int .i64 0] (grownCap w n 0 2 - n)) 2)) := fun ty => by
    obtain ⟨i, hi, hz, hs, hb⟩ : ∃ i, Try.prog.info? 2 = some i ∧ i.zero = some (.int .i64 0) ∧ i.size = 1 ∧ i.bytes = 8 := ⟨_, rfl, rfl, rfl, rfl⟩
    have h := Lib.run_append_grow_zeros (P := Try.prog) w 28 3 ty 2 i (.int .i64 0) .i64 .i64 Try.underlying28 Try.underlying3 hi hz none 0 0 [] (run_firstCells_none w.drew i.size 0 0 0) n hn (by omega) (by omega) (by omega) (by rw [hb]; omega) (growslice_fits (by omega) (by rw [hb]; omega))
    have e0 : (Value.int IntKind.i64 0).cells = #[Value.int IntKind.i64 0] := rfl
    simpa [e0] using h
  go_enter Try.func133, Try.ntmps133
  go_wp2_with (at_builtin; refine Lib.wpList_append_run _ rfl _ _ _ _ rfl _ _ rfl rfl _ _ (hrz _) ?_)
  all_goals (go_ret; exact ⟨rfl, rfl⟩)
theorem grow_calls0 (w : World) : Calls Try.prog 133 #[.slice none 0 0, .int .i64 0] w fun e w' => e = .returned (.slice none 0 0) ∧ w' = w := by
  have h1 : ¬ ((0 : Int) < 0) := by omega
  have h2 : wrap64 ((0 : Int) - (0 : Int)) = 0 := by unfold wrap64; omega
  have h4 : ¬ ((0 : Int) > 0) := by omega
  go_enter Try.func133, Try.ntmps133
  go_wp2
  go_ret
  exact ⟨rfl, rfl⟩
theorem sat_grow {n m : Nat} (hm : m ≤ 1048576) : SatM Try.prog n 133 [] [.nils, .int .i64 m] [.row 2 1 []] (.osl 0 1 0 0) := by
  refine ⟨enters_of Try.func133 o133, fun W D β vs hn0 hst hlt hsep hbx hl ha => ?_⟩
  obtain ⟨v0, v1, rfl⟩ : ∃ v0 v1, vs = [v0, v1] := by
    match vs, hl with
    | [a, b], _ => exact ⟨a, b, rfl⟩
  obtain ⟨u0, e0, hu0, _⟩ := ha 0 _ rfl
  obtain ⟨u1, e1, hu1, _⟩ := ha 1 _ rfl
  simp only [List.getElem?_cons_zero, List.getElem?_cons_succ, Option.some.injEq] at e0 e1
  subst e0 e1
  obtain rfl := rep_nils hu0
  obtain rfl := rep_int hu1
  have h0 : St ⟨W, D, fun b => ∃ r, Live [] r ∧ β r = some b, n, β, ([] : List Root).length⟩ 0 ⟨enT 0 [], []⟩ { tmps := ([] : List Value).toArray ++ Array.replicate (0 - ([] : List Value).toArray.size) Go.undef, defers := [] } W D β :=
    body_start (args := []) (vs := []) hst hlt hsep hbx rfl (fun i x hx => by simp at hx) (Nat.le_refl _)
  have fin : ∀ {W' : World} {v : Value} {β' : Nat → Option Nat}, St ⟨W, D, fun b => ∃ r, Live [] r ∧ β r = some b, n, β, ([] : List Root).length⟩ 0 ⟨enT 0 [], [.row 2 1 []]⟩ { tmps := ([] : List Value).toArray ++ Array.replicate (0 - ([] : List Value).toArray.size) Go.undef, defers := [] } W' D β' → Rep W' D β' v (.osl 0 1 0 0) →
      ∃ v' D' β', Ending.returned v = Ending.returned v' ∧ MemOk ⟨W, D, fun b => ∃ r, Live [] r ∧ β r = some b, n, β, ([] : List Root).length⟩ W' D' β' [.row 2 1 []] ∧
      (∀ r R, ([.row 2 1 []] : List Root)[r]? = some R → RootOk W' (noz D') β' r R) ∧ (∀ (r t : Nat) (cs : List AV) (y : AV) (q : Nat), ([.row 2 1 []] : List Root)[r]? = some (Root.box t cs) → y ∈ cs → Names y q → q < ([.row 2 1 []] : List Root).length) ∧
      Rep W' (noz D') β' v' (.osl 0 1 0 0) ∧ ∀ q, Names (.osl 0 1 0 0) q → q < ([.row 2 1 []] : List Root).length := by
    intro W' v β' hs hr
    refine ⟨v, D, β', rfl, hs.mem, fun r R hR => (hs.mem.store.root r R hR).noz ?_, fun r t cs y q hR => ?_, hr.noz (.osl _ _ _ _ rfl), fun q hq => by cases hq; simp⟩
    · rcases r with _ | r
      · simp at hR; subst hR; intro x hx; cases hx
      · simp at hR
    · rcases r with _ | r <;> simp at hR
  rcases Nat.eq_zero_or_pos m with rfl | hp
  · refine (grow_calls0 W).mono ?_
    rintro e W' ⟨rfl, rfl⟩
    obtain ⟨β', _, k2, k3⟩ := h0.virt 2 1
    exact fin k2 k3
  · refine (grow_calls m W hp hm).mono ?_
    rintro e W' ⟨rfl, rfl⟩
    obtain ⟨k1, k2⟩ := h0.drew.new_row (t := 2) (w := 1) (cap := grownCap W m 0 2) (xs := []) (cur := #[] ++ Builtin.zeroCells #[.int .i64 0] m ++ Builtin.zeroCells #[.int .i64 0] (grownCap W m 0 2 - m)) (by
      have := grownCap_ge W m 0 2
      simp [Builtin.zeroCells]
      try omega) (grownCap_le_maxLen W m 0 2 (by unfold maxLen; omega)) (Nat.zero_le _) (fun i x hx => by simp at hx)
    exact fin k1 k2
end Go.Ve
