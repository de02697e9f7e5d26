/- The row of the law FnExactAskOf: called with any values that can be read as data it returns true, without a data race, and its arguments read afterwards as before. No condition beside the form's own reach. -/
import Derived.Test.YtfeaokelfbjcdaaRows
import Derived.Test.YtfeaokelfbjcdaaW9
import Derived.WalkKit
import Derived.ProofKit
import Derived.OpenShut
import Derived.ShutString
import Derived.ChangeOld
import Derived.Below
import Derived.SizedLaws
namespace Go.Proofs.Ytfeaokelfbjcdaa.fnExactAskOf
open Go.ChangeShapes Go.WideShapes Go.ChangeAt Go.RowKit Go.Ve
set_option linter.unusedVariables false
theorem own : ownKnob Try.prog.godebug = none := by kernel_rfl
theorem laidOut : laidOutB Try.prog = true := by kernel_rfl
set_option maxRecDepth 100000 in
theorem lifted (os : Os) (started : os.Started) (H : Type) (enc : TypeId × Value → H) :
    ReturnsInHanded {} Try.checked os 9 .any (Rows.fnExactAskOfSpec.pre6 enc Try.prog Try.f9 Rows.fnExactAskOfRow.domain false) (Rows.fnExactAskOfSpec.post enc Try.prog Try.f9 false true false false) := by
  refine returnsInHanded_of_change_sized (C := Try.checked) own started (by kernel_rfl) Try.func9
    (ChangeSpec.witness6 (enc := enc) (C := Try.checked) false ⟨#[], #[.slice none 0 0], []⟩ 16 (by kernel_rfl) (by kernel_rfl) (by kernel_rfl) (by kernel_rfl)) ?_
  intro W base args ds gs before hval0 hW hcnd hsz0 _
  have hsz : (DataW.weightsEach Try.prog (Try.f9.params.toList ++ Rows.fnExactAskOfSpec.plain.varTypes Try.prog) (ds ++ gs)).all (· ≤ reachBytes) = true := hsz0
  have hval : ∀ (j : Nat) t v, Try.f9.params[j]? = some t → args[j]? = some v → Value.okWide Try.prog W .any base t v := hval0
  have hW' := hW
  obtain ⟨p, q, hA0, hV, rfl, hfz, hnd⟩ := hW
  have hA : DataW.TrodAll enc Try.prog W 0 (fun _ => true) true Try.f9.params.toList args.toList ds p := hA0
  rw [Try.params9] at hA hval hsz
  obtain ⟨v0, vs0, d0, ds0, p0, q0, hargs, rfl, rfl, h0, r0⟩ := trodAll_cons hA
  obtain ⟨rfl, rfl, rfl⟩ := trodAll_nil r0
  obtain rfl : args = #[v0] := by cases args; simp_all
  obtain ⟨rfl, rfl⟩ := trodVars_none hV
  have k0 := h0
  have lt0 : ∀ x ∈ p0, x.block < W.heap.size := by obtain ⟨m, hm⟩ := k0; exact DataW.trod_lt m _ _ _ hm
  have g0 := reads_row (rd_list 48 Try.underlying30 (by kernel_rfl) (by kernel_rfl) rd_40) hsz (j := 0) rfl rfl h0
  obtain ⟨A0, n0, c0, rfl⟩ := okWide_slice Try.underlying30 (hval 0 30 v0 rfl rfl)
  obtain ⟨x0, o0, e0⟩ := g0
  refine (law_callsO (P := Try.prog) (f := 9) (W := W) (vs := [.slice A0 n0 c0]) (lawz_FnExactAskOf x0 o0) rfl ?_).mono fun e W' ⟨he, bel⟩ => ?_
  · intro i y hy
    match i, hy with
    | 0, hy => obtain rfl := Option.some.inj hy; exact ⟨_, rfl, rep_one rfl e0, en_noNames _ _ _⟩
    | i + 1, hy => simp at hy
  subst he
  exact ⟨_, rfl, _, _, _, [], _, [], hW', trodAll_mk1 (shut_bool Try.underlying4 _), (trodAll_cons_mk (Below.trod laidOut (by kernel_rfl) (of_decide_eq_true (by kernel_rfl)) k0 bel lt0) trodAll_mk0), rfl, bel.frame _, fun h => by cases h⟩
theorem over : Rows.fnExactAskOfRow.holds Try.pinned (OpenSpec.ofChange Rows.fnExactAskOfSpec) :=
  OpenClaim.holds_of_wide 9 Try.f9 rfl rfl rfl rfl rfl rfl rfl ⟨rfl, rfl, rfl, rfl, rfl⟩ rfl rfl rfl rfl rfl (by kernel_rfl) Try.func9 (by kernel_rfl)
    (of_decide_eq_true (by kernel_rfl)) (by unfold Func.isWrapper; first | (rw [if_pos (by decide +kernel)]; kernel_rfl) | (rw [if_neg (by decide +kernel)]; exact ⟨rfl, rfl⟩))
    (fun os started H enc _ => lifted os started H enc)
theorem proved : Rows.FnExactAskOfSaid := over
#print axioms proved
end Go.Proofs.Ytfeaokelfbjcdaa.fnExactAskOf
namespace Go.Proofs.Ytfeaokelfbjcdaa
/-- The row, under a short name, for the claim. -/
theorem fnExactAskOf_holds : Rows.FnExactAskOfSaid := fnExactAskOf.proved
end Go.Proofs.Ytfeaokelfbjcdaa
