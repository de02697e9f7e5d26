/- The engine, part 22: contracts by families of arguments, loops with a next state, words for data. No condition. -/
import Derived.Test.YtfeaokelfbjcdaaE21
namespace Go.Ve
open Go.RowKit
set_option linter.unusedVariables false
set_option linter.unusedSimpArgs false

/-- What a function gives, told by a family of arguments. -/
noncomputable def semOf {ι : Type} (args : ι → List AV) (pre : ι → Prop) (res : Nat → ι → AV) : Fsem := fun n a =>
  ⟨∃ i, args i = a ∧ pre i, open Classical in if h : ∃ i, args i = a ∧ pre i then res n (Classical.choose h) else if h : ∃ i, args i = a then res n (Classical.choose h) else .undef⟩
theorem semOf_pure {P : Program} {f : FuncId} {ι : Type} {args : ι → List AV} {pre : ι → Prop} {res : Nat → ι → AV} (h : ∀ (i : ι) (n : Nat), 2 ≤ n → pre i → SatM P n f [] (args i) [] (res n i)) : Pure P f (semOf args pre res) := by
  intro n a h2 hc
  have hc' : ∃ i, args i = a ∧ pre i := hc
  simp only [semOf, dif_pos hc']
  obtain ⟨h3, h4⟩ := Classical.choose_spec hc'
  have := h (Classical.choose hc') n h2 h4
  rw [h3] at this
  exact this
theorem semOf_eq {ι : Type} {args : ι → List AV} {pre : ι → Prop} {res : Nat → ι → AV} {n : Nat} {a : List AV} (i : ι) (ha : args i = a) (hi : ∀ j, args j = args i → (pre j ↔ pre i) ∧ res n j = res n i) : semOf args pre res n a = ⟨pre i, res n i⟩ := by
  subst ha
  have h1 : (∃ j, args j = args i ∧ pre j) = pre i := propext ⟨fun ⟨j, h, hp⟩ => (hi j h).1.1 hp, fun h => ⟨i, rfl, h⟩⟩
  have h2 : ∃ j, args j = args i := ⟨i, rfl⟩
  simp only [semOf]
  congr 1
  split
  · rename_i h
    exact (hi _ (Classical.choose_spec h).1).2
  · exact (hi _ (Classical.choose_spec h2)).2

section
variable {P : Program} {n k : Nat} {T : List (Nat × Fsem)}
/-- A contract out of a body. -/
theorem SatP.of_body {f : FuncId} {fn : Func} {T : List (Nat × Fsem)} {s : SCode} {rs : List RV} {nt : Nat} {args : List AV} {r : AV} (hT : Table P T) (hm : P.follows .mixedOrders = true) (hf : P.funcs[f]? = some fn) (hsl : slimF fn = some (s, rs, nt)) (ho : okF T fn = true) (h2 : 2 ≤ n)
    (hnt : args.length ≤ nt) (h : vc P n 0 T s (retP P n rs r) ⟨enT 0 args, []⟩) : SatM P n f [] args [] r := by
  have : Pure P f (fun m a => ⟨m = n ∧ a = args, r⟩) := by
    refine Pure.of_body hT hm hf hsl ho fun m a hm2 hc => ?_
    obtain ⟨rfl, rfl⟩ := hc
    exact ⟨hnt, h⟩
  exact this n args h2 ⟨rfl, rfl⟩

/-- A loop whose next state is told; the roots stay as they are. -/
theorem VW_for (hT : Table P T) (h2 : 2 ≤ n) (hm : P.follows .mixedOrders = true) {a : SCode} {Q : Exit → Env → Prop} {e : Env} {σ : Type} (I : σ → Env) (ok : σ → Prop) (μ : σ → Nat) (nx : σ → σ) (s0 : σ) (h0 : ok s0) (he : SubI e (I s0))
    (step : ∀ s, ok s → vc P n k T a (thenQ (fun e' => μ (nx s) < μ s ∧ ok (nx s) ∧ SubI e' (I (nx s))) Q) (I s)) : VW P n k T (.loop a) Q e :=
  VW_loop hT h2 hm I ok μ s0 h0 he.sub _ (fun s e' ⟨h1, h2, h3⟩ => ⟨nx s, h1, h2, h3.sub⟩) step
/-- The roots are seen anew at the loop's head. -/
theorem VW_rows (hT : Table P T) (h2 : 2 ≤ n) (hm : P.follows .mixedOrders = true) {a : SCode} {Q : Exit → Env → Prop} {e : Env} {σ : Type} (viv : List (Nat × Nat × Nat)) (anch : List Nat) (I : σ → Env) (ok : σ → Prop) (μ : σ → Nat) (nx : σ → σ) (s0 : σ) (h0 : ok s0) (he : SubE k viv anch e (I s0))
    (step : ∀ s, ok s → vc P n k T a (thenQ (fun e' => μ (nx s) < μ s ∧ ok (nx s) ∧ SubE k viv anch e' (I (nx s))) Q) (I s)) : VW P n k T (.loop a) Q e :=
  VW_loop hT h2 hm I ok μ s0 h0 he.sub _ (fun s e' ⟨h1, h2, h3⟩ => ⟨nx s, h1, h2, h3.sub⟩) step
end
end Go.Ve
