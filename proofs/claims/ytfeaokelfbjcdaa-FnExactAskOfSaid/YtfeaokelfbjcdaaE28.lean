/- The engine, part 28: searches and comparisons of Go's library (IndexFunc, ContainsFunc, Equal, EqualFunc) for data of any type. No condition. -/
import Derived.Test.YtfeaokelfbjcdaaE27
namespace Go.Ve
open Go.RowKit
set_option linter.unusedVariables false
set_option linter.unusedSimpArgs false
set_option maxRecDepth 10000

/-! ### Where the first of a kind stands -/
def idxF {α : Type} (p : α → Bool) : List α → Nat → Int
  | [], _ => -1
  | x :: l, i => if p x = true then (i : Int) else idxF p l (i + 1)
def idx {α : Type} (p : α → Bool) (l : List α) : Int := idxF p l 0
theorem idxF_spec {α : Type} (p : α → Bool) : ∀ (l : List α) (i : Nat), (idxF p l i = -1 ∧ l.find? p = none) ∨ ∃ a x b, l = a ++ x :: b ∧ p x = true ∧ idxF p l i = (i + a.length : Nat) ∧ l.find? p = some x
  | [], i => .inl ⟨rfl, rfl⟩
  | x :: l, i => by
    unfold idxF
    cases hp : p x
    · rcases idxF_spec p l (i + 1) with ⟨h1, h2⟩ | ⟨a, y, b, rfl, h2, h3, h4⟩
      · exact .inl ⟨by simpa using h1, by simp [hp, h2]⟩
      · refine .inr ⟨x :: a, y, b, rfl, h2, ?_, by rw [List.find?_cons, hp]; exact h4⟩
        simp only [Bool.false_eq_true, if_false, h3, List.length_cons]
        omega
    · exact .inr ⟨[], x, l, rfl, hp, by simp, by simp [hp]⟩
theorem idx_spec {α : Type} (p : α → Bool) (l : List α) : (idx p l = -1 ∧ l.find? p = none) ∨ ∃ a x b, l = a ++ x :: b ∧ p x = true ∧ idx p l = a.length ∧ l.find? p = some x := by
  have := idxF_spec p l 0
  simpa [idx] using this
theorem idx_nonneg {α : Type} (p : α → Bool) (l : List α) : 0 ≤ idx p l ↔ l.any p = true := by
  rcases idx_spec p l with ⟨h1, h2⟩ | ⟨a, x, b, rfl, h2, h3, h4⟩
  · rw [h1]
    rw [List.find?_eq_none] at h2
    constructor
    · intro h; omega
    · intro h
      obtain ⟨x, hx, hp⟩ := List.any_eq_true.1 h
      exact absurd hp (h2 x hx)
  · rw [h3]
    simp [h2]
theorem idx_congr {α : Type} {p q : α → Bool} {l : List α} (h : ∀ x, p x = q x) : idx p l = idx q l := by rw [show p = q from funext h]
/-! ### IndexFunc, ContainsFunc -/
def idxC (t e : Nat) : SCode := (.seq (.reg [⟨(some 4), .assign (.const (.int .i64 0)), none⟩])
(.seq (.seq (.reg [⟨(some 6), .move (.tmp 0), none⟩,
     ⟨(some 7), .call ⟨(.builtin .len), #[(.tmp 6)], #[t]⟩, none⟩,
     ⟨(some 8), .move (.const (.int .i64 0)), none⟩])
  (.block 0 (.loop (.seq (.reg [⟨(some 9), .binOp .lss 3 (.tmp 8) (.tmp 7) 3, none⟩])
     (.seq (.cond (.tmp 9) .skip
       (.exit 0))
      (.seq (.block 1 (.seq (.reg [⟨(some 10), .move (.tmp 8), none⟩,
            ⟨(some 5), .assign (.tmp 10), none⟩])
         (.seq (.reg [⟨(some 11), .move (.tmp 1), none⟩,
             ⟨(some 12), .move (.tmp 0), none⟩,
             ⟨(some 13), .move (.tmp 5), none⟩,
             ⟨(some 14), .indexAddr t (.tmp 12) (.tmp 13), none⟩,
             ⟨(some 15), .load e (.tmp 14), none⟩,
             ⟨(some 16), .call ⟨(.value (.tmp 11)), #[(.tmp 15)], #[e]⟩, none⟩])
          (.cond (.tmp 16) (.seq (.reg [⟨(some 17), .move (.tmp 5), none⟩,
               ⟨(some 4), .assign (.tmp 17), none⟩])
            .ret)
           .skip))))
       (.reg [⟨(some 18), .binOp .add 3 (.tmp 8) (.const (.int .i64 1)) 3, none⟩,
          ⟨(some 8), .move (.tmp 18), none⟩])))))))
 (.seq (.reg [⟨(some 4), .assign (.const (.int .i64 (-1))), none⟩])
  .ret)))
def cfC (t ft k : Nat) : SCode := (.seq (.reg [⟨(some 4), .assign (.const (.bool false)), none⟩])
(.seq (.reg [⟨(some 5), .move (.tmp 0), none⟩,
    ⟨(some 6), .move (.tmp 1), none⟩,
    ⟨(some 7), .call ⟨(.value (.func k)), #[(.tmp 5), (.tmp 6)], #[t, ft]⟩, none⟩,
    ⟨(some 8), .binOp .geq 3 (.tmp 7) (.const (.int .i64 0)) 3, none⟩,
    ⟨(some 4), .assign (.tmp 8), none⟩])
 .ret))
theorem isD_cv {st : List Root} {pos : Nat → Option Nat} {y : AV} (h : y.isD = true) : cv st pos y = (True, y) := by
  have := isD_cv1 (st := st) (pos := pos) h
  cases y <;> first | exact this | cases h
theorem cv_caps {st : List Root} {pos : Nat → Option Nat} {caps : List AV} (h : ∀ c ∈ caps, c.isD = true) : caps.map (fun x => (cv st pos x).2) = caps := map_id_of fun y hy => by rw [isD_cv (h y hy)]
theorem cv_capsT {st : List Root} {pos : Nat → Option Nat} {caps : List AV} (h : ∀ c ∈ caps, c.isD = true) : (∀ x ∈ caps, (cv st pos x).1) = True := eq_true fun y hy => by rw [isD_cv (h y hy)]; trivial
theorem cv0_caps {st : List Root} {pos : Nat → Option Nat} {caps : List AV} (h : ∀ c ∈ caps, c.isD = true) : caps.map (fun x => (cv0 st pos x).2) = caps := map_id_of fun y hy => by rw [isD_cv0 (h y hy)]
theorem cv0_capsT {st : List Root} {pos : Nat → Option Nat} {caps : List AV} (h : ∀ c ∈ caps, c.isD = true) : (∀ x ∈ caps, (cv0 st pos x).1) = True := eq_true fun y hy => by rw [isD_cv0 (h y hy)]; trivial

section
variable {P : Program} {α : Type} {E : En α} {f : FuncId} {fn : Func} {nt n : Nat}
theorem indexFunc_ok {t e fid : Nat} {caps : List AV} {gf : Fsem} {p : α → Bool} (hm : P.follows .mixedOrders = true) (hf : P.funcs[f]? = some fn) (hsl : slimF fn = some (idxC t e, [.t 4], nt)) (ho : okF [(fid, gf)] fn = true) (hnt : 2 ≤ nt)
    (ht : tyOf P t = .sl e) (hE : FitE P e E) (hfe : Pure P fid gf) (hc : ∀ c ∈ caps, c.isD = true) (hs : ∀ n τ x, gf n (E.av τ x :: caps) = ⟨True, .bool (p x)⟩) (h2 : 2 ≤ n) {τ : Nat} {l : List α} :
    SatM P n f [] [.sl τ E.w (l.map (E.av τ)), .fn fid caps] [] (.int .i64 (idx p l)) := by
  have hT : Table P [(fid, gf)] := .cons hfe .nil
  refine SatP.of_body hT hm hf hsl ho h2 (by simpa using hnt) ?_
  obtain ⟨hE0, hE1, hE2⟩ := hE
  simp (config := {contextual := true}) only [idxC, go_sem, ht, ↓reduceIte, Nat.reduceEqDiff, Nat.reduceAdd, true_and, and_true, List.length_map]
  intro hL
  refine VW_listK hT h2 hm l [0, 1, 7] (fun pre post (_ : Unit) => [(8, .int .i64 pre.length)]) (fun pre post _ => idxF p post pre.length = idx p l) () rfl ?_ ?_ ?_
  · simp [SubI, go_sem]
  · intro b hR
    have hR' : -1 = idx p l := hR
    simp [go_sem, ← hR']
  · rintro pre x post b rfl hlen hR
    have hw : IntKind.i64.wrap ((pre.length : Int) + 1) = (pre.length : Int) + 1 := wrap_next hL (by simp)
    have h3 : (0 : Int) ≤ pre.length := by omega
    have h4 : (pre.length : Int) < (pre.length : Int) + ((post.length : Int) + 1) := by omega
    have h5 : ¬ (pre.length : Int) + ((post.length : Int) + 1) ≤ (pre.length : Int) := by omega
    unfold idxF at hR
    cases hp : p x
    · rw [hp] at hR
      simp at hR
      simp (config := {contextual := true}) [go_sem, ht, hE0, hE1, hE2, hs, hp, hw, h3, h4, h5, E.cells, cv_caps hc, cv_capsT hc, SubI, hR]
    · rw [hp] at hR
      simp at hR
      simp (config := {contextual := true}) [go_sem, ht, hE0, hE1, hE2, hs, hp, hw, h3, h4, h5, E.cells, cv_caps hc, cv_capsT hc, SubI, ← hR]
/-- What IndexFunc gives with a closure, told by what the closure holds. -/
noncomputable def idxSem {ι : Type} (E : En α) (fid : Nat) (caps : ι → List AV) (p : ι → α → Bool) : Fsem :=
  semOf (fun i : Nat × List α × ι => [.sl i.1 E.w (i.2.1.map (E.av i.1)), .fn fid (caps i.2.2)]) (fun _ => True) (fun _ i => .int .i64 (idx (p i.2.2) i.2.1))
theorem idxSem_eq {ι : Type} {fid : Nat} {caps : ι → List AV} {p : ι → α → Bool} {τ : Nat} {l : List α} (i : ι) (hi : ∀ j, caps j = caps i → p j = p i) : idxSem E fid caps p n [.sl τ E.w (l.map (E.av τ)), .fn fid (caps i)] = ⟨True, .int .i64 (idx (p i) l)⟩ :=
  semOf_eq (τ, l, i) rfl fun ⟨τ', l', j⟩ h => by
    obtain ⟨h1, h⟩ := cons_inj h
    obtain ⟨h2, _⟩ := cons_inj h
    have h3 : l' = l := E.list.inj (τ := τ') (τ' := τ) h1
    have h4 : caps j = caps i := by simpa using h2
    simp [hi j h4, h3]
theorem idxSem_pure {t e fid : Nat} {ι : Type} {caps : ι → List AV} {gf : Fsem} {p : ι → α → Bool} (hm : P.follows .mixedOrders = true) (hf : P.funcs[f]? = some fn) (hsl : slimF fn = some (idxC t e, [.t 4], nt)) (ho : okF [(fid, gf)] fn = true) (hnt : 2 ≤ nt)
    (ht : tyOf P t = .sl e) (hE : FitE P e E) (hfe : Pure P fid gf) (hc : ∀ i, ∀ c ∈ caps i, c.isD = true) (hs : ∀ i n τ x, gf n (E.av τ x :: caps i) = ⟨True, .bool (p i x)⟩) : Pure P f (idxSem E fid caps p) :=
  semOf_pure fun ⟨τ, l, i⟩ n h2 _ => indexFunc_ok hm hf hsl ho hnt ht hE hfe (hc i) (hs i) h2
noncomputable def cfSem {ι : Type} (E : En α) (fid : Nat) (caps : ι → List AV) (p : ι → α → Bool) : Fsem :=
  semOf (fun i : Nat × List α × ι => [.sl i.1 E.w (i.2.1.map (E.av i.1)), .fn fid (caps i.2.2)]) (fun _ => True) (fun _ i => .bool (i.2.1.any (p i.2.2)))
theorem cfSem_eq {ι : Type} {fid : Nat} {caps : ι → List AV} {p : ι → α → Bool} {τ : Nat} {l : List α} (i : ι) (hi : ∀ j, caps j = caps i → p j = p i) : cfSem E fid caps p n [.sl τ E.w (l.map (E.av τ)), .fn fid (caps i)] = ⟨True, .bool (l.any (p i))⟩ :=
  semOf_eq (τ, l, i) rfl fun ⟨τ', l', j⟩ h => by
    obtain ⟨h1, h⟩ := cons_inj h
    obtain ⟨h2, _⟩ := cons_inj h
    have h3 : l' = l := E.list.inj (τ := τ') (τ' := τ) h1
    have h4 : caps j = caps i := by simpa using h2
    simp [hi j h4, h3]
theorem cfSem_pure {t ft k fid : Nat} {ι : Type} {caps : ι → List AV} {gi : Fsem} {p : ι → α → Bool} (hm : P.follows .mixedOrders = true) (hf : P.funcs[f]? = some fn) (hsl : slimF fn = some (cfC t ft k, [.t 4], nt)) (ho : okF [(k, gi)] fn = true) (hnt : 2 ≤ nt)
    (hi : Pure P k gi) (hc : ∀ i, ∀ c ∈ caps i, c.isD = true) (hs : ∀ i n τ l, gi n [.sl τ E.w (l.map (E.av τ)), .fn fid (caps i)] = ⟨True, .int .i64 (idx (p i) l)⟩) : Pure P f (cfSem E fid caps p) :=
  semOf_pure fun ⟨τ, l, i⟩ n h2 _ => by
    have hT : Table P [(k, gi)] := .cons hi .nil
    refine SatP.of_body hT hm hf hsl ho h2 (by simpa using hnt) ?_
    have hb : decide (0 ≤ idx (p i) l) = l.any (p i) := by
      rw [Bool.eq_iff_iff, decide_eq_true_iff]
      exact idx_nonneg _ _
    simp (config := {contextual := true}) [cfC, go_sem, hs, hb, cv0_caps (hc i), cv0_capsT (hc i)]

/-! ### Equal, EqualFunc -/
def eqC (t e : Nat) : SCode := (.seq (.reg [⟨(some 4), .assign (.const (.bool false)), none⟩])
(.seq (.seq (.reg [⟨(some 6), .move (.tmp 0), none⟩,
     ⟨(some 7), .call ⟨(.builtin .len), #[(.tmp 6)], #[t]⟩, none⟩,
     ⟨(some 8), .move (.tmp 1), none⟩,
     ⟨(some 9), .call ⟨(.builtin .len), #[(.tmp 8)], #[t]⟩, none⟩,
     ⟨(some 10), .binOp .neq 3 (.tmp 7) (.tmp 9) 3, none⟩])
  (.cond (.tmp 10) (.seq (.reg [⟨(some 4), .assign (.const (.bool false)), none⟩])
    .ret)
   .skip))
 (.seq (.seq (.reg [⟨(some 11), .move (.tmp 0), none⟩,
      ⟨(some 12), .call ⟨(.builtin .len), #[(.tmp 11)], #[t]⟩, none⟩,
      ⟨(some 13), .move (.const (.int .i64 0)), none⟩])
   (.block 0 (.loop (.seq (.reg [⟨(some 14), .binOp .lss 3 (.tmp 13) (.tmp 12) 3, none⟩])
      (.seq (.cond (.tmp 14) .skip
        (.exit 0))
       (.seq (.block 1 (.seq (.reg [⟨(some 15), .move (.tmp 13), none⟩,
             ⟨(some 5), .assign (.tmp 15), none⟩])
          (.seq (.draw [⟨(some 16), .move (.tmp 0), none⟩,
              ⟨(some 17), .move (.tmp 5), none⟩,
              ⟨(some 18), .indexAddr t (.tmp 16) (.tmp 17), none⟩,
              ⟨(some 19), .load e (.tmp 18), none⟩,
              ⟨(some 20), .move (.tmp 1), none⟩,
              ⟨(some 21), .move (.tmp 5), none⟩,
              ⟨(some 22), .indexAddr t (.tmp 20) (.tmp 21), none⟩,
              ⟨(some 23), .load e (.tmp 22), none⟩,
              ⟨(some 24), .binOp .neq e (.tmp 19) (.tmp 23) e, none⟩] [[], [], [0, 1], [0, 1, 2], [], [], [4, 5], [4, 5, 6], [0, 1, 2, 3, 4, 5, 6, 7]])
           (.cond (.tmp 24) (.seq (.reg [⟨(some 4), .assign (.const (.bool false)), none⟩])
             .ret)
            .skip))))
        (.reg [⟨(some 25), .binOp .add 3 (.tmp 13) (.const (.int .i64 1)) 3, none⟩,
           ⟨(some 13), .move (.tmp 25), none⟩])))))))
  (.seq (.reg [⟨(some 4), .assign (.const (.bool true)), none⟩])
   .ret))))
def eqFuncC (t e : Nat) : SCode := (.seq (.reg [⟨(some 6), .assign (.const (.bool false)), none⟩])
(.seq (.seq (.reg [⟨(some 10), .move (.tmp 0), none⟩,
     ⟨(some 11), .call ⟨(.builtin .len), #[(.tmp 10)], #[t]⟩, none⟩,
     ⟨(some 12), .move (.tmp 1), none⟩,
     ⟨(some 13), .call ⟨(.builtin .len), #[(.tmp 12)], #[t]⟩, none⟩,
     ⟨(some 14), .binOp .neq 3 (.tmp 11) (.tmp 13) 3, none⟩])
  (.cond (.tmp 14) (.seq (.reg [⟨(some 6), .assign (.const (.bool false)), none⟩])
    .ret)
   .skip))
 (.seq (.seq (.reg [⟨(some 15), .move (.tmp 0), none⟩,
      ⟨(some 16), .call ⟨(.builtin .len), #[(.tmp 15)], #[t]⟩, none⟩,
      ⟨(some 17), .move (.const (.int .i64 0)), none⟩])
   (.block 0 (.loop (.seq (.reg [⟨(some 18), .binOp .lss 3 (.tmp 17) (.tmp 16) 3, none⟩])
      (.seq (.cond (.tmp 18) .skip
        (.exit 0))
       (.seq (.block 1 (.seq (.reg [⟨(some 19), .move (.tmp 17), none⟩,
             ⟨(some 20), .indexAddr t (.tmp 15) (.tmp 17), none⟩,
             ⟨(some 21), .load e (.tmp 20), none⟩,
             ⟨(some 8), .alloc e, none⟩,
             ⟨(some 7), .assign (.tmp 19), none⟩,
             ⟨none, .store e (.tmp 8) (.tmp 21), none⟩])
          (.seq (.reg [⟨(some 22), .move (.tmp 1), none⟩,
              ⟨(some 23), .move (.tmp 7), none⟩,
              ⟨(some 24), .indexAddr t (.tmp 22) (.tmp 23), none⟩,
              ⟨(some 25), .load e (.tmp 24), none⟩,
              ⟨(some 9), .alloc e, none⟩,
              ⟨none, .store e (.tmp 9) (.tmp 25), none⟩])
           (.seq (.reg [⟨(some 26), .move (.tmp 2), none⟩,
               ⟨(some 27), .load e (.tmp 8), none⟩,
               ⟨(some 28), .load e (.tmp 9), none⟩,
               ⟨(some 29), .call ⟨(.value (.tmp 26)), #[(.tmp 27), (.tmp 28)], #[e, e]⟩, none⟩,
               ⟨(some 30), .unOp .not 4 (.tmp 29), none⟩])
            (.cond (.tmp 30) (.seq (.reg [⟨(some 6), .assign (.const (.bool false)), none⟩])
              .ret)
             .skip)))))
        (.reg [⟨(some 31), .binOp .add 3 (.tmp 17) (.const (.int .i64 1)) 3, none⟩,
           ⟨(some 17), .move (.tmp 31), none⟩])))))))
  (.seq (.reg [⟨(some 6), .assign (.const (.bool true)), none⟩])
   .ret))))
theorem eq_ok {t e : Nat} {E' : En α} (hm : P.follows .mixedOrders = true) (hf : P.funcs[f]? = some fn) (hsl : slimF fn = some (eqC t e, [.t 4], nt)) (ho : okF [] fn = true) (hnt : 2 ≤ nt)
    (ht : tyOf P t = .sl e) (hE : FitE P e E) (hE' : FitE P e E') (hs : ∀ τ x τ' x', vbin P .neq e (E.av τ x) (E'.av τ' x') = ⟨True, .bool (!(eqB (x) (x')))⟩) : Pure P f (eqSem E.list E'.list) := by
  refine semOf_pure fun ⟨τ, τ', l, l'⟩ n h2 _ => ?_
  have hT : Table P [] := .nil
  refine SatP.of_body hT hm hf hsl ho h2 (by simpa using hnt) ?_
  obtain ⟨hE0, hE1, hE2⟩ := hE
  obtain ⟨hE0', hE1', hE2'⟩ := hE'
  have hEw : E'.w = E.w := hE1'.symm.trans hE1
  rw [hEw] at hE2'
  simp (config := {contextual := true}) only [eqC, go_sem, ht, hEw, ↓reduceIte, Nat.reduceEqDiff, Nat.reduceAdd, true_and, and_true, List.length_map, List.mem_cons, List.not_mem_nil, or_false, forall_eq_or_imp, forall_eq]
  intro hL hL'
  refine ⟨fun h => ?_, fun h _ => ?_⟩
  · simp only [Bool.not_eq_true', decide_eq_false_iff_not] at h
    congr 1
    exact (eqB_not.2 fun h' => h (by rw [h'])).symm
  have hll : l.length = l'.length := by
    have : (l.length : Int) = l'.length := by simpa using h
    omega
  refine VW_for hT h2 hm (fun i : Nat => ⟨[(13, .int .i64 i), (12, .int .i64 l.length), (0, .sl τ E.w (l.map (E.av τ))), (1, .sl τ' E.w (l'.map (E'.av τ')))], []⟩) (fun i => i ≤ l.length ∧ l.take i = l'.take i) (fun i => l.length - i) (· + 1) 0 ?_ ?_ ?_
  · simp
  · simp [SubI, go_sem]
  · rintro i ⟨hi, hall⟩
    have hw : i < l.length → IntKind.i64.wrap ((i : Int) + 1) = (i : Int) + 1 := wrap_next hL
    have hn : ∀ h : i < l.length, nth (l.map (E.av τ)) i = E.av τ l[i] := fun h => nth_av E h
    have hn' : ∀ h : i < l.length, nth (l'.map (E'.av τ')) i = E'.av τ' (l'[i]'(by omega)) := fun h => nth_av E' _
    have hw2 : (0 : Int) ≤ i := by omega
    have hlt : (i < l'.length) = (i < l.length) := by rw [hll]
    simp (config := {contextual := true}) [go_sem, ht, hE0, hE1, hE2, hE2', hs, hn, hn', hw, hw2, hlt, E.cells, E'.cells, SubI, eqB_iff, eqB_not]
    refine ⟨fun a => ⟨fun hne h => hne (by subst h; rfl), fun he => ⟨by omega, by omega, ?_⟩⟩, fun h => ?_⟩
    · rw [List.take_succ_eq_append_getElem a, List.take_succ_eq_append_getElem (by omega : i < l'.length), hall, he]
    · rw [List.take_of_length_le h, List.take_of_length_le (by omega)] at hall
      exact hall
noncomputable def eqfSem (E E' : En α) (fe : Nat) : Fsem := semOf (fun i : Nat × Nat × List α × List α => [.sl i.1 E.w (i.2.2.1.map (E.av i.1)), .sl i.2.1 E'.w (i.2.2.2.map (E'.av i.2.1)), .fn fe []]) (fun _ => True) (fun _ i => .bool (eqB i.2.2.1 i.2.2.2))
theorem eqfSem_eq {E' : En α} {fe τ τ' : Nat} {x y : List α} : eqfSem E E' fe n [.sl τ E.w (x.map (E.av τ)), .sl τ' E'.w (y.map (E'.av τ')), .fn fe []] = ⟨True, .bool (eqB x y)⟩ :=
  semOf_eq (τ, τ', x, y) rfl fun ⟨t, t', x', y'⟩ h => by
    obtain ⟨h1, h⟩ := cons_inj h
    obtain ⟨h2, h⟩ := cons_inj h
    have h3 := E.list.inj (τ := t) (τ' := τ) (x := x') (y := x) h1
    have h4 := E'.list.inj (τ := t') (τ' := τ') (x := y') (y := y) h2
    simp [h3, h4]
theorem eqFunc_ok {t e fe : Nat} {E' : En α} {sem : Fsem} (hm : P.follows .mixedOrders = true) (hf : P.funcs[f]? = some fn) (hsl : slimF fn = some (eqFuncC t e, [.t 6], nt)) (ho : okF [(fe, sem)] fn = true) (hnt : 3 ≤ nt)
    (ht : tyOf P t = .sl e) (hE : FitE P e E) (hE' : FitE P e E') (hZ : FitZ P e E) (hfe : Pure P fe sem) (hs : ∀ n τ x τ' x', sem n [E.av τ x, E'.av τ' x'] = ⟨True, .bool (eqB (x) (x'))⟩) : Pure P f (eqfSem E E' fe) := by
  refine semOf_pure fun ⟨τ, τ', l, l'⟩ n h2 _ => ?_
  have hT : Table P [(fe, sem)] := .cons hfe .nil
  refine SatP.of_body hT hm hf hsl ho h2 (by simpa using hnt) ?_
  obtain ⟨hE0, hE1, hE2⟩ := hE
  obtain ⟨hE0', hE1', hE2'⟩ := hE'
  obtain ⟨z0, z1, z2, z3, z4, z5, z6, z7⟩ := hZ
  have hEw : E'.w = E.w := hE1'.symm.trans hE1
  rw [hEw] at hE2'
  simp (config := {contextual := true}) only [eqFuncC, go_sem, ht, hEw, ↓reduceIte, Nat.reduceEqDiff, Nat.reduceAdd, true_and, and_true, List.length_map, List.mem_cons, List.not_mem_nil, or_false, forall_eq_or_imp, forall_eq]
  intro hL hL'
  refine ⟨fun h => ?_, fun h _ => ?_⟩
  · simp only [Bool.not_eq_true', decide_eq_false_iff_not] at h
    congr 1
    exact (eqB_not.2 fun h' => h (by rw [h'])).symm
  have hll : l.length = l'.length := by
    have : (l.length : Int) = l'.length := by simpa using h
    omega
  refine VW_rows hT h2 hm [] [] (fun i : Nat => ⟨[(17, .int .i64 i), (16, .int .i64 l.length), (15, .sl τ E.w (l.map (E.av τ))), (0, .sl τ E.w (l.map (E.av τ))), (1, .sl τ' E.w (l'.map (E'.av τ'))), (2, .fn fe [])], []⟩) (fun i => i ≤ l.length ∧ l.take i = l'.take i) (fun i => l.length - i) (· + 1) 0 ?_ ?_ ?_
  · simp
  · simp [SubE, SubR, go_sem]
  · rintro i ⟨hi, hall⟩
    have hw : i < l.length → IntKind.i64.wrap ((i : Int) + 1) = (i : Int) + 1 := wrap_next hL
    have hn : ∀ h : i < l.length, nth (l.map (E.av τ)) i = E.av τ l[i] := fun h => nth_av E h
    have hn' : ∀ h : i < l.length, nth (l'.map (E'.av τ')) i = E'.av τ' (l'[i]'(by omega)) := fun h => nth_av E' _
    have hw2 : (0 : Int) ≤ i := by omega
    have hlt : (i < l'.length) = (i < l.length) := by rw [hll]
    have hcs : ∀ τ x, (E.cs τ x).length = E.w := E.len
    have hcs' : ∀ τ x, (E'.cs τ x).length = E.w := fun τ x => (E'.len τ x).trans hEw
    have hdrop : List.drop E.w (zcells P e) = [] := List.drop_of_length_le (by omega)
    simp (config := {contextual := true}) [go_sem, ht, hE0, hE1, hE2, hE2', z0, z1, z2, z5, hs, hn, hn', hw, hw2, hlt, hcs, hcs', hdrop, E.cells, E'.cells, SubE, SubR, eqB_iff, eqB_not]
    refine ⟨fun a => ⟨fun hne h => hne (by subst h; rfl), fun he => ⟨by omega, by omega, ?_⟩⟩, fun h => ?_⟩
    · rw [List.take_succ_eq_append_getElem a, List.take_succ_eq_append_getElem (by omega : i < l'.length), hall, he]
    · rw [List.take_of_length_le h, List.take_of_length_le (by omega)] at hall
      exact hall
end
end Go.Ve
