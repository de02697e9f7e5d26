/- The row of the law FnExactExcepted: called with any values that can be read as data it returns true, without a data race, and its arguments read afterwards as before. No condition beside the form's own reach. -/
import Derived.Test.YtidfijaobkaalaaGreatRows
import Derived.Test.YtidfijaobkaalaaGreatPF2
import Derived.WalkKit
import Derived.ProofKit
import Derived.OpenShut
import Derived.ShutString
import Derived.ChangeOld
import Derived.Below
import Derived.SizedLaws
namespace Go.Proofs.YtidfijaobkaalaaGreat.fnExactExcepted
open Go.ChangeShapes Go.WideShapes Go.ChangeAt Go.RowKit Go.Ve
set_option linter.unusedVariables false
theorem own : ownKnob Tryz.prog.godebug = none := by kernel_rfl
theorem laidOut : laidOutB Tryz.prog = true := by kernel_rfl
set_option maxRecDepth 100000 in
theorem lifted (os : Os) (started : os.Started) (H : Type) (enc : TypeId × Value → H) :
    ReturnsInHanded {} Tryz.checked os 3 .any (Rows.fnExactExceptedSpec.pre6 enc Tryz.prog Tryz.f3 Rows.fnExactExceptedRow.domain false) (Rows.fnExactExceptedSpec.post enc Tryz.prog Tryz.f3 false true false false) := by
  refine returnsInHanded_of_change_sized (C := Tryz.checked) own started (by kernel_rfl) Tryz.func3
    (ChangeSpec.witness6 (enc := enc) (C := Tryz.checked) false ⟨#[], #[.agg #[.slice none 0 0, .slice none 0 0], .agg #[.int .i64 0, .int .i64 0, .int .i64 0, .bool false], .slice none 0 0, .agg #[.int .i64 0, .int .i64 0], .slice none 0 0], []⟩ 16 (by kernel_rfl) (by kernel_rfl) (by kernel_rfl) (by kernel_rfl)) ?_
  intro W base args ds gs before hval0 hW hcnd hsz0 _
  have hsz : (DataW.weightsEach Tryz.prog (Tryz.f3.params.toList ++ Rows.fnExactExceptedSpec.plain.varTypes Tryz.prog) (ds ++ gs)).all (· ≤ reachBytes) = true := hsz0
  have hval : ∀ (j : Nat) t v, Tryz.f3.params[j]? = some t → args[j]? = some v → Value.okWide Tryz.prog W .any base t v := hval0
  have hW' := hW
  obtain ⟨p, q, hA0, hV, rfl, hfz, hnd⟩ := hW
  have hA : DataW.TrodAll enc Tryz.prog W 0 (fun _ => true) true Tryz.f3.params.toList args.toList ds p := hA0
  rw [Tryz.params3] at hA hval hsz
  obtain ⟨v0, vs0, d0, ds0, p0, q0, hargs, rfl, rfl, h0, r0⟩ := trodAll_cons hA
  obtain ⟨v1, vs1, d1, ds1, p1, q1, rfl, rfl, rfl, h1, r1⟩ := trodAll_cons r0
  obtain ⟨v2, vs2, d2, ds2, p2, q2, rfl, rfl, rfl, h2, r2⟩ := trodAll_cons r1
  obtain ⟨v3, vs3, d3, ds3, p3, q3, rfl, rfl, rfl, h3, r3⟩ := trodAll_cons r2
  obtain ⟨v4, vs4, d4, ds4, p4, q4, rfl, rfl, rfl, h4, r4⟩ := trodAll_cons r3
  obtain ⟨rfl, rfl, rfl⟩ := trodAll_nil r4
  obtain rfl : args = #[v0, v1, v2, v3, v4] := by cases args; simp_all
  obtain ⟨rfl, rfl⟩ := trodVars_none hV
  have k0 := h0
  have lt0 : ∀ x ∈ p0, x.block < W.heap.size := by obtain ⟨m, hm⟩ := k0; exact DataW.trod_lt m _ _ _ hm
  have g0 := reads_row rd_25 hsz (j := 0) rfl rfl h0
  obtain ⟨⟨cs0⟩, rfl, hn0⟩ := okWide_struct Tryz.underlying25 (hval 0 25 v0 rfl rfl)
  obtain ⟨x0, o0, e0⟩ := g0
  have k1 := h1
  have lt1 : ∀ x ∈ p1, x.block < W.heap.size := by obtain ⟨m, hm⟩ := k1; exact DataW.trod_lt m _ _ _ hm
  have g1 := reads_row rd_27 hsz (j := 1) rfl rfl h1
  obtain ⟨⟨cs1⟩, rfl, hn1⟩ := okWide_struct Tryz.underlying27 (hval 1 27 v1 rfl rfl)
  obtain ⟨x1, o1, e1⟩ := g1
  have k2 := h2
  have lt2 : ∀ x ∈ p2, x.block < W.heap.size := by obtain ⟨m, hm⟩ := k2; exact DataW.trod_lt m _ _ _ hm
  have g2 := reads_row (rd_list 8 Tryz.underlying28 (by kernel_rfl) (by kernel_rfl) (rd_int Tryz.underlying2)) hsz (j := 2) rfl rfl h2
  obtain ⟨A2, n2, c2, rfl⟩ := okWide_slice Tryz.underlying28 (hval 2 28 v2 rfl rfl)
  obtain ⟨x2, o2, e2⟩ := g2
  have k3 := h3
  have lt3 : ∀ x ∈ p3, x.block < W.heap.size := by obtain ⟨m, hm⟩ := k3; exact DataW.trod_lt m _ _ _ hm
  have g3 := reads_row rd_30 hsz (j := 3) rfl rfl h3
  obtain ⟨⟨cs3⟩, rfl, hn3⟩ := okWide_struct Tryz.underlying30 (hval 3 30 v3 rfl rfl)
  obtain ⟨x3, o3, e3⟩ := g3
  have k4 := h4
  have lt4 : ∀ x ∈ p4, x.block < W.heap.size := by obtain ⟨m, hm⟩ := k4; exact DataW.trod_lt m _ _ _ hm
  have g4 := reads_row (rd_list 32 Tryz.underlying31 (by kernel_rfl) (by kernel_rfl) rd_96) hsz (j := 4) rfl rfl h4
  obtain ⟨A4, n4, c4, rfl⟩ := okWide_slice Tryz.underlying31 (hval 4 31 v4 rfl rfl)
  obtain ⟨x4, o4, e4⟩ := g4
  refine (law_callsO (P := Tryz.prog) (f := 3) (W := W) (vs := [.agg ⟨cs0⟩, .agg ⟨cs1⟩, .slice A2 n2 c2, .agg ⟨cs3⟩, .slice A4 n4 c4]) (lawz_FnExactExcepted x0 x1 x2 x3 x4 o0 o1 o2 o3 o4) rfl ?_).mono fun e W' ⟨he, bel⟩ => ?_
  · intro i y hy
    match i, hy with
    | 0, hy => obtain rfl := Option.some.inj hy; exact ⟨_, rfl, rep_agg rfl e0, en_noNames _ _ _⟩
    | 1, hy => obtain rfl := Option.some.inj hy; exact ⟨_, rfl, rep_agg rfl e1, en_noNames _ _ _⟩
    | 2, hy => obtain rfl := Option.some.inj hy; exact ⟨_, rfl, rep_one rfl e2, en_noNames _ _ _⟩
    | 3, hy => obtain rfl := Option.some.inj hy; exact ⟨_, rfl, rep_agg rfl e3, en_noNames _ _ _⟩
    | 4, hy => obtain rfl := Option.some.inj hy; exact ⟨_, rfl, rep_one rfl e4, en_noNames _ _ _⟩
    | i + 5, hy => simp at hy
  subst he
  exact ⟨_, rfl, _, _, _, [], _, [], hW', trodAll_mk1 (shut_bool Tryz.underlying4 _), (trodAll_cons_mk (Below.trod laidOut (by kernel_rfl) (of_decide_eq_true (by kernel_rfl)) k0 bel lt0) (trodAll_cons_mk (Below.trod laidOut (by kernel_rfl) (of_decide_eq_true (by kernel_rfl)) k1 bel lt1) (trodAll_cons_mk (Below.trod laidOut (by kernel_rfl) (of_decide_eq_true (by kernel_rfl)) k2 bel lt2) (trodAll_cons_mk (Below.trod laidOut (by kernel_rfl) (of_decide_eq_true (by kernel_rfl)) k3 bel lt3) (trodAll_cons_mk (Below.trod laidOut (by kernel_rfl) (of_decide_eq_true (by kernel_rfl)) k4 bel lt4) trodAll_mk0))))), rfl, bel.frame _, fun h => by cases h⟩
theorem over : Rows.fnExactExceptedRow.holds Tryz.pinned (OpenSpec.ofChange Rows.fnExactExceptedSpec) :=
  OpenClaim.holds_of_wide 3 Tryz.f3 rfl rfl rfl rfl rfl rfl rfl ⟨rfl, rfl, rfl, rfl, rfl⟩ rfl rfl rfl rfl rfl (by kernel_rfl) Tryz.func3 (by kernel_rfl)
    (of_decide_eq_true (by kernel_rfl)) (by unfold Func.isWrapper; first | (rw [if_pos (by decide +kernel)]; kernel_rfl) | (rw [if_neg (by decide +kernel)]; exact ⟨rfl, rfl⟩))
    (fun os started H enc _ => lifted os started H enc)
theorem proved : Rows.FnExactExceptedSaid := over
#print axioms proved
end Go.Proofs.YtidfijaobkaalaaGreat.fnExactExcepted
namespace Go.Proofs.YtidfijaobkaalaaGreat
/-- The row, under a short name, for the claim. -/
theorem fnExactExcepted_holds : Rows.FnExactExceptedSaid := fnExactExcepted.proved
end Go.Proofs.YtidfijaobkaalaaGreat
