/- The row of the law FnExactEntryOk: called with any values that can be read as data it returns true, without a data race, and its arguments read afterwards as before. No condition beside the form's own reach. -/
import Derived.Test.YtchajonibjacaaaRows
import Derived.Test.YtchajonibjacaaaStmtFnExactEntryOk
import Derived.Test.YtchajonibjacaaaPureFnExactEntryOk
import Derived.WalkKit
import Derived.ProofKit
import Derived.OpenShut
import Derived.ShutString
import Derived.ChangeOld
import Derived.Below
import Derived.SizedLaws
namespace Go.Proofs.Ytchajonibjacaaa.fnExactEntryOk
open Go.ChangeShapes Go.WideShapes Go.ChangeAt Go.RowKit Go.Proofs.Ytchajonibjacaaa.Opens Go.Proofs.YtchajonibjacaaaW.PrintWords
set_option linter.unusedVariables false
theorem own : ownKnob Try.prog.godebug = none := by kernel_rfl
theorem laidOut : laidOutB Try.prog = true := by kernel_rfl
set_option maxRecDepth 100000 in
theorem lifted (os : Os) (started : os.Started) (H : Type) (enc : TypeId × Value → H) :
    ReturnsInHanded {} Try.checked os 11 .any (Rows.fnExactEntryOkSpec.pre6 enc Try.prog Try.f11 Rows.fnExactEntryOkRow.domain false) (Rows.fnExactEntryOkSpec.post enc Try.prog Try.f11 false true false false) := by
  refine returnsInHanded_of_change_sized (C := Try.checked) own started (by kernel_rfl) Try.func11
    (ChangeSpec.witness6 (enc := enc) (C := Try.checked) false ⟨#[], #[.agg #[.int .i64 0, .int .i64 0, .int .i64 0, .int .i64 0, .string ByteArray.empty, .bool false, .int .i64 0, .int .i64 0, .int .i64 0, .int .i64 0]], []⟩ 16 (by kernel_rfl) (by kernel_rfl) (by kernel_rfl) (by kernel_rfl)) ?_
  intro W base args ds gs before hval0 hW hcnd hsz0 _
  have hsz : (DataW.weightsEach Try.prog (Try.f11.params.toList ++ Rows.fnExactEntryOkSpec.plain.varTypes Try.prog) (ds ++ gs)).all (· ≤ reachBytes) = true := hsz0
  have hval : ∀ (j : Nat) t v, Try.f11.params[j]? = some t → args[j]? = some v → Value.okWide Try.prog W .any base t v := hval0
  have hW' := hW
  obtain ⟨p, q, hA0, hV, rfl, hfz, hnd⟩ := hW
  have hA : DataW.TrodAll enc Try.prog W 0 (fun _ => true) true Try.f11.params.toList args.toList ds p := hA0
  rw [Try.params11] at hA hval hsz
  obtain ⟨v0, vs0, d0, ds0, p0, q0, hargs, rfl, rfl, h0, r0⟩ := trodAll_cons hA
  obtain ⟨rfl, rfl, rfl⟩ := trodAll_nil r0
  obtain rfl : args = #[v0] := by cases args; simp_all
  obtain ⟨rfl, rfl⟩ := trodVars_none hV
  have k0 := h0
  have lt0 : ∀ x ∈ p0, x.block < W.heap.size := by obtain ⟨m, hm⟩ := k0; exact DataW.trod_lt m _ _ _ hm
  have g0 := reads_row Stmt.FnExactEntryOk.reads_par0 hsz (j := 0) rfl rfl h0
  obtain ⟨⟨cs0⟩, rfl, hn0⟩ := okWide_struct Try.underlying63 (hval 0 63 v0 rfl rfl)
  clear hn0 h0
  obtain ⟨_, _, rfl, _, ⟨_, _, rfl, _, ⟨a0_0, rfl, w0_0⟩, _, _, rfl, _, ⟨a0_1, rfl, w0_1⟩, rfl⟩, _, _, rfl, _, ⟨_, _, rfl, _, ⟨a0_2, rfl, w0_2⟩, _, _, rfl, _, ⟨a0_3, rfl, w0_3⟩, rfl⟩, _, _, rfl, _, ⟨a0_4, rfl, w0_4⟩, _, _, rfl, _, ⟨a0_5, rfl, w0_5⟩, _, _, rfl, _, ⟨a0_6, rfl, w0_6⟩, _, _, rfl, _, ⟨a0_7, rfl, w0_7⟩, _, _, rfl, _, ⟨_, _, rfl, _, ⟨a0_8, rfl, w0_8⟩, _, _, rfl, _, ⟨a0_9, rfl, w0_9⟩, rfl⟩, rfl⟩ := g0
  clear hA0 hval0 hsz0 hsz
  refine (Stmt.FnExactEntryOk.walk Pure.FnExactEntryOk a0_0 a0_1 a0_2 a0_3 a0_4 a0_5 a0_6 a0_7 a0_8 a0_9 W w0_0 w0_1 w0_2 w0_3 w0_4  w0_6 w0_7 w0_8 w0_9).mono fun e W' ⟨he, bel⟩ => ?_
  subst he
  exact ⟨_, rfl, _, _, _, [], _, [], hW', trodAll_mk1 (shut_bool Try.underlying4 _), (trodAll_cons_mk (Below.trod laidOut (by kernel_rfl) (of_decide_eq_true (by kernel_rfl)) k0 bel lt0) trodAll_mk0), rfl, bel.frame _, fun h => by cases h⟩
theorem over : Rows.fnExactEntryOkRow.holds Try.pinned (OpenSpec.ofChange Rows.fnExactEntryOkSpec) :=
  OpenClaim.holds_of_wide 11 Try.f11 rfl rfl rfl rfl rfl rfl rfl ⟨rfl, rfl, rfl, rfl, rfl⟩ rfl rfl rfl rfl rfl (by kernel_rfl) Try.func11 (by kernel_rfl)
    (of_decide_eq_true (by kernel_rfl)) (by unfold Func.isWrapper; first | (rw [if_pos (by decide +kernel)]; kernel_rfl) | (rw [if_neg (by decide +kernel)]; exact ⟨rfl, rfl⟩))
    (fun os started H enc _ => lifted os started H enc)
theorem proved : Rows.FnExactEntryOkSaid := over
#print axioms proved
end Go.Proofs.Ytchajonibjacaaa.fnExactEntryOk
namespace Go.Proofs.Ytchajonibjacaaa
/-- The row, under a short name, for the claim. -/
theorem fnExactEntryOk_holds : Rows.FnExactEntryOkSaid := fnExactEntryOk.proved
end Go.Proofs.Ytchajonibjacaaa
