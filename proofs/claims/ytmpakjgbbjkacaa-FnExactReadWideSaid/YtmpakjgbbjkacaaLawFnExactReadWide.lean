/- The row of the law FnExactReadWide: called with any values that can be read as data it returns true, without a data race, and its arguments read afterwards as before. No condition beside the form's own reach. -/
import Derived.Test.YtmpakjgbbjkacaaRows
import Derived.Test.YtmpakjgbbjkacaaStmtFnExactReadWide
import Derived.Test.YtmpakjgbbjkacaaPureFnExactReadWide
import Derived.WalkKit
import Derived.ProofKit
import Derived.OpenShut
import Derived.ShutString
import Derived.ChangeOld
import Derived.Below
import Derived.SizedLaws
namespace Go.Proofs.Ytmpakjgbbjkacaa.fnExactReadWide
open Go.ChangeShapes Go.WideShapes Go.ChangeAt Go.RowKit Go.Proofs.Ytmpakjgbbjkacaa.Opens Go.Proofs.YtmpakjgbbjkacaaW.PrintWords
set_option linter.unusedVariables false
theorem own : ownKnob Try.prog.godebug = none := by kernel_rfl
theorem laidOut : laidOutB Try.prog = true := by kernel_rfl
set_option maxRecDepth 100000 in
theorem lifted (os : Os) (started : os.Started) (H : Type) (enc : TypeId × Value → H) :
    ReturnsInHanded {} Try.checked os 4 .any (Rows.fnExactReadWideSpec.pre6 enc Try.prog Try.f4 Rows.fnExactReadWideRow.domain false) (Rows.fnExactReadWideSpec.post enc Try.prog Try.f4 false true false false) := by
  refine returnsInHanded_of_change_sized (C := Try.checked) own started (by kernel_rfl) Try.func4
    (ChangeSpec.witness6 (enc := enc) (C := Try.checked) false ⟨#[], #[.agg #[.int .i64 0, .int .i64 0, .int .i64 0, .int .i64 0, .slice none 0 0], .int .i64 0, .int .i64 0], []⟩ 16 (by kernel_rfl) (by kernel_rfl) (by kernel_rfl) (by kernel_rfl)) ?_
  intro W base args ds gs before hval0 hW hcnd hsz0 _
  have hsz : (DataW.weightsEach Try.prog (Try.f4.params.toList ++ Rows.fnExactReadWideSpec.plain.varTypes Try.prog) (ds ++ gs)).all (· ≤ reachBytes) = true := hsz0
  have hval : ∀ (j : Nat) t v, Try.f4.params[j]? = some t → args[j]? = some v → Value.okWide Try.prog W .any base t v := hval0
  have hW' := hW
  obtain ⟨p, q, hA0, hV, rfl, hfz, hnd⟩ := hW
  have hA : DataW.TrodAll enc Try.prog W 0 (fun _ => true) true Try.f4.params.toList args.toList ds p := hA0
  rw [Try.params4] at hA hval hsz
  obtain ⟨v0, vs0, d0, ds0, p0, q0, hargs, rfl, rfl, h0, r0⟩ := trodAll_cons hA
  obtain ⟨v1, vs1, d1, ds1, p1, q1, rfl, rfl, rfl, h1, r1⟩ := trodAll_cons r0
  obtain ⟨v2, vs2, d2, ds2, p2, q2, rfl, rfl, rfl, h2, r2⟩ := trodAll_cons r1
  obtain ⟨rfl, rfl, rfl⟩ := trodAll_nil r2
  obtain rfl : args = #[v0, v1, v2] := by cases args; simp_all
  obtain ⟨rfl, rfl⟩ := trodVars_none hV
  have k0 := h0
  have lt0 : ∀ x ∈ p0, x.block < W.heap.size := by obtain ⟨m, hm⟩ := k0; exact DataW.trod_lt m _ _ _ hm
  have g0 := reads_row Stmt.FnExactReadWide.reads_par0 hsz (j := 0) rfl rfl h0
  obtain ⟨⟨cs0⟩, rfl, hn0⟩ := okWide_struct Try.underlying26 (hval 0 26 v0 rfl rfl)
  clear hn0 h0
  obtain ⟨_, _, rfl, _, ⟨_, _, rfl, _, ⟨a0_0, rfl, w0_0⟩, _, _, rfl, _, ⟨a0_1, rfl, w0_1⟩, rfl⟩, _, _, rfl, _, ⟨a0_2, rfl, w0_2⟩, _, _, rfl, _, ⟨a0_3, rfl, w0_3⟩, _, _, rfl, _, ⟨l0_4, ⟨A0_4, c0_4, rfl, e0_4, q0_4⟩, w0_4⟩, rfl⟩ := g0
  have k1 := h1
  have lt1 : ∀ x ∈ p1, x.block < W.heap.size := by obtain ⟨m, hm⟩ := k1; exact DataW.trod_lt m _ _ _ hm
  have g1 := reads_row Stmt.FnExactReadWide.reads_par1 hsz (j := 1) rfl rfl h1
  obtain ⟨a1, rfl, rfl, rfl, _⟩ := open_int Try.underlying2 (hval 1 2 v1 rfl rfl) h1
  obtain ⟨y1, hy1, w1⟩ := g1
  obtain rfl : a1 = y1 := by have z := hy1; simp [Value.cells, Kd.int, Kd.scalar] at z; exact z
  have k2 := h2
  have lt2 : ∀ x ∈ p2, x.block < W.heap.size := by obtain ⟨m, hm⟩ := k2; exact DataW.trod_lt m _ _ _ hm
  have g2 := reads_row Stmt.FnExactReadWide.reads_par2 hsz (j := 2) rfl rfl h2
  obtain ⟨a2, rfl, rfl, rfl, _⟩ := open_int Try.underlying2 (hval 2 2 v2 rfl rfl) h2
  obtain ⟨y2, hy2, w2⟩ := g2
  obtain rfl : a2 = y2 := by have z := hy2; simp [Value.cells, Kd.int, Kd.scalar] at z; exact z
  clear hA0 hval0 hsz0 hsz
  refine (Stmt.FnExactReadWide.walk Pure.FnExactReadWide a0_0 a0_1 a0_2 a0_3 A0_4 c0_4 l0_4 a1 a2 W w0_0 w0_1 w0_2 w0_3 e0_4 q0_4 w0_4 w1 w2).mono fun e W' ⟨he, bel⟩ => ?_
  subst he
  exact ⟨_, rfl, _, _, _, [], _, [], hW', trodAll_mk1 (shut_bool Try.underlying4 _), (trodAll_cons_mk (Below.trod laidOut (by kernel_rfl) (of_decide_eq_true (by kernel_rfl)) k0 bel lt0) (trodAll_cons_mk (Below.trod laidOut (by kernel_rfl) (of_decide_eq_true (by kernel_rfl)) k1 bel lt1) (trodAll_cons_mk (Below.trod laidOut (by kernel_rfl) (of_decide_eq_true (by kernel_rfl)) k2 bel lt2) trodAll_mk0))), rfl, bel.frame _, fun h => by cases h⟩
theorem over : Rows.fnExactReadWideRow.holds Try.pinned (OpenSpec.ofChange Rows.fnExactReadWideSpec) :=
  OpenClaim.holds_of_wide 4 Try.f4 rfl rfl rfl rfl rfl rfl rfl ⟨rfl, rfl, rfl, rfl, rfl⟩ rfl rfl rfl rfl rfl (by kernel_rfl) Try.func4 (by kernel_rfl)
    (of_decide_eq_true (by kernel_rfl)) (by unfold Func.isWrapper; first | (rw [if_pos (by decide +kernel)]; kernel_rfl) | (rw [if_neg (by decide +kernel)]; exact ⟨rfl, rfl⟩))
    (fun os started H enc _ => lifted os started H enc)
theorem proved : Rows.FnExactReadWideSaid := over
#print axioms proved
end Go.Proofs.Ytmpakjgbbjkacaa.fnExactReadWide
namespace Go.Proofs.Ytmpakjgbbjkacaa
/-- The row, under a short name, for the claim. -/
theorem fnExactReadWide_holds : Rows.FnExactReadWideSaid := fnExactReadWide.proved
end Go.Proofs.Ytmpakjgbbjkacaa
