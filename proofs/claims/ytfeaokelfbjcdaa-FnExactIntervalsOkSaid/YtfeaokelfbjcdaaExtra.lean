/- A value that a row's owner shows to be a slice can be stored into any cell. No condition. -/
import Derived.Test.YtfeaokelfbjcdaaWWords
namespace Go.Proofs.YtfeaokelfbjcdaaW.PrintWords
open Go.RowKit
theorem store_of_row {P : Program} {α : Type} {d : Kd α} {e base : Nat} {ok : Nat → Prop} {w : World} {v : Value} {xs : List α} (h : d.R e w base ok v xs) :
    ∀ (a : Addr) (W : World) (old : Value), W.cell? a = some old → W.frozen? a = false → Sem.run P (store a v) W = .ok () (W.setCell a v) := by
  intro a W old hc hf
  obtain ⟨A, c, rfl⟩ := Kd.R_slice h
  go_simp
end Go.Proofs.YtfeaokelfbjcdaaW.PrintWords
