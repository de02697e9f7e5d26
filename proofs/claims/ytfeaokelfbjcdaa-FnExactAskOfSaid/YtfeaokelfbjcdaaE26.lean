/- The engine, part 26: structs out of their fields, arguments that are read, and what a law's contract says of a call. No condition. -/
import Derived.Test.YtfeaokelfbjcdaaE25
namespace Go.Ve
open Go.RowKit Go.Deep
set_option linter.unusedVariables false
set_option linter.unusedSimpArgs false

section
variable {α β : Type}
def En.prod (E : En α) (F : En β) : En (α × β) where
  w := E.w + F.w
  pos := Nat.lt_of_lt_of_le E.pos (Nat.le_add_right _ _)
  one := false
  cs τ p := E.cs τ p.1 ++ F.cs τ p.2
  tot p := E.tot p.1 + F.tot p.2
  dec l := (E.dec (l.take E.w), F.dec (l.drop E.w))
  len τ p := by rw [List.length_append, E.len, F.len]
  hone h := by cases h
  dat τ p y hy := by
    rcases List.mem_append.1 hy with hy | hy
    · exact E.dat τ _ y hy
    · exact F.dat τ _ y hy
  nz τ p hτ y hy := by
    rcases List.mem_append.1 hy with hy | hy
    · exact E.nz τ _ hτ y hy
    · exact F.nz τ _ hτ y hy
  hdec τ p := by
    rw [List.take_left' (E.len τ p.1), List.drop_left' (E.len τ p.1), E.hdec, F.hdec]
/-- A struct whose fields lie as those of E. -/
def En.iso (E : En α) (f : β → α) (g : α → β) (h : ∀ x, g (f x) = x) : En β where
  w := E.w
  pos := E.pos
  one := false
  cs τ x := E.cs τ (f x)
  tot x := E.tot (f x)
  dec l := g (E.dec l)
  len τ x := E.len τ _
  hone h := by cases h
  dat τ x := E.dat τ _
  nz τ x := E.nz τ _
  hdec τ x := by rw [E.hdec, h]
end

theorem rowq_one {α : Type} {E : En α} {ok : α → Prop} {w : World} {cs : List Value} (h : RowQ [(E.w, QE E ok)] w cs) : QE E ok w cs := by
  unfold RowQ at h
  obtain ⟨c, rest, rfl, hl, hq, h⟩ := h
  unfold RowQ at h
  subst h
  simpa using hq
theorem rowq_cons {α β : Type} {E : En α} {F : En β} {ok : α → Prop} {ok' : β → Prop} {w : World} {r : List (Nat × (World → List Value → Prop))} {cs : List Value} (hr : ∀ cs, RowQ r w cs → QE F ok' w cs) (h : RowQ ((E.w, QE E ok) :: r) w cs) : QE (E.prod F) (fun p => ok p.1 ∧ ok' p.2) w cs := by
  unfold RowQ at h
  obtain ⟨c, rest, rfl, hl, ⟨x, h1, h2⟩, h⟩ := h
  obtain ⟨y, h3, h4⟩ := hr rest h
  exact ⟨(x, y), ⟨h1, h3⟩, h2.append h4⟩
theorem qe_iso {α β : Type} {E : En α} {ok : α → Prop} {f : β → α} {g : α → β} {h : ∀ x, g (f x) = x} (hf : ∀ a, f (g a) = a) {w : World} {cs : List Value} (hq : QE E ok w cs) : QE (E.iso f g h) (fun x => ok (f x)) w cs := by
  obtain ⟨a, h1, h2⟩ := hq
  refine ⟨g a, by simp only [hf]; exact h1, ?_⟩
  show ReadAs w cs (E.cs 1 (f (g a)))
  rw [hf]
  exact h2
theorem Reads.imp {P : Program} {T : TypeId} {Q Q' : World → List Value → Prop} (h : Reads P T Q) (hq : ∀ w cs, Q w cs → Q' w cs) : Reads P T Q' :=
  fun H enc w base spare held fuel cs x hx hf => hq _ _ (h H enc w base spare held fuel cs x hx hf)

theorem rep_agg {α : Type} {E : En α} (h1 : E.one = false) {w : World} {β : Nat → Option Nat} {cs : Array Value} {x : α} (h : ReadAs w cs.toList (E.cs 1 x)) : Rep w (oldD w) β (.agg cs) (E.av 1 x) := by
  have he : E.av 1 x = .agg (E.cs 1 x) := by simp [En.av, h1]
  rw [he]
  have key : ∀ (j : Nat) (y : AV), (E.cs 1 x)[j]? = some y → ∃ u, cs[j]? = some u ∧ RepD w (oldD w) u y := fun j y hy => by simpa using h.2 j y hy
  refine .agg cs _ (fun j => (cs[j]?).getD undef) (by simpa using h.1) (fun j y hy => ?_) (fun j y hy => ?_) (fun j y hy => ?_)
  all_goals
    obtain ⟨u, u1, u2⟩ := key j y hy
    simp only [u1, Option.getD_some]
  · exact u2.oneCell
  · exact .data _ _ u2
theorem rep_one {α : Type} {E : En α} (h1 : E.one = true) {w : World} {β : Nat → Option Nat} {v : Value} {x : α} (h : ReadAs w [v] (E.cs 1 x)) : Rep w (oldD w) β v (E.av 1 x) := by
  rcases E.shape 1 x with ⟨h2, h3⟩ | h2
  · rw [h3] at h
    obtain ⟨u, u1, u2⟩ := h.2 0 _ rfl
    simp at u1
    subst u1
    exact .data _ _ u2
  · exfalso
    have := E.len 1 x
    rw [E.hone h1] at this
    have hc := E.cells 1 x
    have hd := E.dat 1 x
    simp only [En.av, h1, cond_true] at h2
    match hcs : E.cs 1 x, this, hd with
    | [y], _, hd =>
      rw [hcs] at h2
      simp at h2
      have := hd y (by simp)
      rw [h2] at this
      cases this

/-- What a contract says of a call from the old memory. -/
theorem law_calls {P : Program} {f : FuncId} {args : List AV} {vs : List Value} {W : World} (h : SatM P 2 f [] args [] (.bool true)) (hl : vs.length = args.length) (ha : ∀ (i : Nat) (x : AV), args[i]? = some x → ∃ v, vs[i]? = some v ∧ Rep W (oldD W) (fun _ => none) v x ∧ ∀ q, ¬ Names x q) :
    Calls P f vs.toArray W fun e W' => e = .returned (.bool true) ∧ Below W.heap.size W W' := by
  refine (h.2 W (oldD W) (fun _ => none) vs (by omega) ⟨fun r R hr => by simp at hr, fun r r' g h1 => by obtain ⟨R, h1, _⟩ := h1; simp at h1, fun r g ρ h1 => by obtain ⟨R, h1, _⟩ := h1; simp at h1⟩ (fun ρ b hb => hb.2) (fun ρ ρ' b h1 h2 => h1.1.trans h2.1.symm)
    (fun r t cs y q hr => by simp at hr) hl (fun i x hx => by obtain ⟨v, h1, h2, h3⟩ := ha i x hx; exact ⟨v, h1, h2, fun q hq => (h3 q hq).elim⟩)).mono ?_
  rintro e W' ⟨v, D', β', rfl, hM, _, _, hv, _⟩
  rw [rep_bool hv]
  exact ⟨rfl, hM.os, hM.tape, hM.output, hM.size, fun b hb => hM.frame b hb fun ⟨r, hr, _⟩ => by obtain ⟨R, h1, _⟩ := hr; simp at h1⟩
theorem en_noNames {α : Type} (E : En α) (τ : Nat) (x : α) : ∀ q, ¬ Names (E.av τ x) q := by
  intro q hq
  rcases E.shape τ x with ⟨h, _⟩ | h
  · revert h hq
    cases E.av τ x <;> intro hq h <;> first | (cases hq; done) | (cases h; done)
  · rw [h] at hq
    cases hq with
    | agg _ y _ hy hq =>
      have := E.dat τ x y hy
      cases y <;> first | (cases hq; done) | (cases this; done)
end Go.Ve
