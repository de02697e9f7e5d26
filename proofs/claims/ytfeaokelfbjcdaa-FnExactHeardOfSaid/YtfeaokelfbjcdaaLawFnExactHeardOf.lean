/- The row of the law FnExactHeardOf: called with any values that can be read as data it returns true, without a data race, and its arguments read afterwards as before. No condition beside the form's own reach. -/
import Derived.Test.YtfeaokelfbjcdaaRows
import Derived.Test.YtfeaokelfbjcdaaStmtFnExactHeardOf
import Derived.Test.YtfeaokelfbjcdaaPureFnExactHeardOf
import Derived.WalkKit
import Derived.ProofKit
import Derived.OpenShut
import Derived.ShutString
import Derived.ChangeOld
import Derived.Below
import Derived.SizedLaws
namespace Go.Proofs.Ytfeaokelfbjcdaa.fnExactHeardOf
open Go.ChangeShapes Go.WideShapes Go.ChangeAt Go.RowKit Go.Proofs.Ytfeaokelfbjcdaa.Opens Go.Proofs.YtfeaokelfbjcdaaW.PrintWords
set_option linter.unusedVariables false
theorem own : ownKnob Try.prog.godebug = none := by kernel_rfl
theorem laidOut : laidOutB Try.prog = true := by kernel_rfl
set_option maxRecDepth 100000 in
theorem lifted (os : Os) (started : os.Started) (H : Type) (enc : TypeId × Value → H) :
    ReturnsInHanded {} Try.checked os 10 .any (Rows.fnExactHeardOfSpec.pre6 enc Try.prog Try.f10 Rows.fnExactHeardOfRow.domain false) (Rows.fnExactHeardOfSpec.post enc Try.prog Try.f10 false true false false) := by
  refine returnsInHanded_of_change_sized (C := Try.checked) own started (by kernel_rfl) Try.func10
    (ChangeSpec.witness6 (enc := enc) (C := Try.checked) false ⟨#[], #[.agg #[.int .i64 0, .int .i64 0, .slice none 0 0, .bool false], .slice none 0 0], []⟩ 16 (by kernel_rfl) (by kernel_rfl) (by kernel_rfl) (by kernel_rfl)) ?_
  intro W base args ds gs before hval0 hW hcnd hsz0 _
  have hsz : (DataW.weightsEach Try.prog (Try.f10.params.toList ++ Rows.fnExactHeardOfSpec.plain.varTypes Try.prog) (ds ++ gs)).all (· ≤ reachBytes) = true := hsz0
  have hval : ∀ (j : Nat) t v, Try.f10.params[j]? = some t → args[j]? = some v → Value.okWide Try.prog W .any base t v := hval0
  have hW' := hW
  obtain ⟨p, q, hA0, hV, rfl, hfz, hnd⟩ := hW
  have hA : DataW.TrodAll enc Try.prog W 0 (fun _ => true) true Try.f10.params.toList args.toList ds p := hA0
  rw [Try.params10] at hA hval hsz
  obtain ⟨v0, vs0, d0, ds0, p0, q0, hargs, rfl, rfl, h0, r0⟩ := trodAll_cons hA
  obtain ⟨v1, vs1, d1, ds1, p1, q1, rfl, rfl, rfl, h1, r1⟩ := trodAll_cons r0
  obtain ⟨rfl, rfl, rfl⟩ := trodAll_nil r1
  obtain rfl : args = #[v0, v1] := by cases args; simp_all
  obtain ⟨rfl, rfl⟩ := trodVars_none hV
  have k0 := h0
  have lt0 : ∀ x ∈ p0, x.block < W.heap.size := by obtain ⟨m, hm⟩ := k0; exact DataW.trod_lt m _ _ _ hm
  have g0 := reads_row Stmt.FnExactHeardOf.reads_par0 hsz (j := 0) rfl rfl h0
  obtain ⟨⟨cs0⟩, rfl, hn0⟩ := okWide_struct Try.underlying40 (hval 0 40 v0 rfl rfl)
  clear hn0 h0
  obtain ⟨_, _, rfl, _, ⟨a0_0, rfl, w0_0⟩, _, _, rfl, _, ⟨a0_1, rfl, w0_1⟩, _, _, rfl, _, ⟨l0_2, ⟨A0_2, c0_2, rfl, e0_2, q0_2⟩, w0_2⟩, _, _, rfl, _, ⟨a0_3, rfl, w0_3⟩, rfl⟩ := g0
  have k1 := h1
  have lt1 : ∀ x ∈ p1, x.block < W.heap.size := by obtain ⟨m, hm⟩ := k1; exact DataW.trod_lt m _ _ _ hm
  have g1 := reads_row Stmt.FnExactHeardOf.reads_par1 hsz (j := 1) rfl rfl h1
  obtain ⟨A1, n1, c1, rfl⟩ := okWide_slice Try.underlying22 (hval 1 22 v1 rfl rfl)
  obtain ⟨l1, ⟨A1', c1', he1, e1, q1⟩, w1⟩ := g1
  simp [Value.cells] at he1
  obtain ⟨rfl, rfl, rfl⟩ := he1
  clear hA0 hval0 hsz0 hsz
  refine (Stmt.FnExactHeardOf.walk Pure.FnExactHeardOf a0_0 a0_1 A0_2 c0_2 l0_2 a0_3 A1 c1 l1 W w0_0 w0_1 e0_2 q0_2 w0_2  e1 q1 w1).mono fun e W' ⟨he, bel⟩ => ?_
  subst he
  exact ⟨_, rfl, _, _, _, [], _, [], hW', trodAll_mk1 (shut_bool Try.underlying4 _), (trodAll_cons_mk (Below.trod laidOut (by kernel_rfl) (of_decide_eq_true (by kernel_rfl)) k0 bel lt0) (trodAll_cons_mk (Below.trod laidOut (by kernel_rfl) (of_decide_eq_true (by kernel_rfl)) k1 bel lt1) trodAll_mk0)), rfl, bel.frame _, fun h => by cases h⟩
theorem over : Rows.fnExactHeardOfRow.holds Try.pinned (OpenSpec.ofChange Rows.fnExactHeardOfSpec) :=
  OpenClaim.holds_of_wide 10 Try.f10 rfl rfl rfl rfl rfl rfl rfl ⟨rfl, rfl, rfl, rfl, rfl⟩ rfl rfl rfl rfl rfl (by kernel_rfl) Try.func10 (by kernel_rfl)
    (of_decide_eq_true (by kernel_rfl)) (by unfold Func.isWrapper; first | (rw [if_pos (by decide +kernel)]; kernel_rfl) | (rw [if_neg (by decide +kernel)]; exact ⟨rfl, rfl⟩))
    (fun os started H enc _ => lifted os started H enc)
theorem proved : Rows.FnExactHeardOfSaid := over
#print axioms proved
end Go.Proofs.Ytfeaokelfbjcdaa.fnExactHeardOf
namespace Go.Proofs.Ytfeaokelfbjcdaa
/-- The row, under a short name, for the claim. -/
theorem fnExactHeardOf_holds : Rows.FnExactHeardOfSaid := fnExactHeardOf.proved
end Go.Proofs.Ytfeaokelfbjcdaa
