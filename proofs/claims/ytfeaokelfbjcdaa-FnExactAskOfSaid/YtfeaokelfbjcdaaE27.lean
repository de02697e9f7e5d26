/- The engine, part 27: loops over lists, arguments that may be nil, closures told apart, maps as sets. No condition. -/
import Derived.Test.YtfeaokelfbjcdaaE26
namespace Go.Ve
open Go.RowKit
set_option linter.unusedVariables false
set_option linter.unusedSimpArgs false

/-! ### Loops over lists -/
section
variable {P : Program} {n k : Nat} {T : List (Nat × Fsem)}
/-- What the end of a round must show: the next head, or that there is none. -/
def nextL {α B : Type} (S : Env → Env → Prop) (l : List α) (I : List α → List α → B → Env) (R : List α → List α → B → Prop) (s : List α × List α × B) (e' : Env) : Prop :=
  match s.2.1 with
  | [] => False
  | x :: post => s.1 ++ x :: post = l ∧ ∃ b', R (s.1 ++ [x]) post b' ∧ S e' (I (s.1 ++ [x]) post b')
theorem VW_listS {S : Env → Env → Prop} (hS : ∀ e e', S e e' → Sub k e e') (hT : Table P T) (h2 : 2 ≤ n) (hm : P.follows .mixedOrders = true) {a : SCode} {Q : Exit → Env → Prop} {e : Env} {α B : Type} (l : List α) (I : List α → List α → B → Env) (R : List α → List α → B → Prop) (b0 : B)
    (h0 : R [] l b0) (he : S e (I [] l b0))
    (hnil : ∀ b, R l [] b → vc P n k T a (thenQ (fun _ => False) Q) (I l [] b))
    (hcons : ∀ pre x post b, pre ++ x :: post = l → pre.length + (post.length + 1) = l.length → R pre (x :: post) b → vc P n k T a (thenQ (fun e' => ∃ b', R (pre ++ [x]) post b' ∧ S e' (I (pre ++ [x]) post b')) Q) (I pre (x :: post) b)) : VW P n k T (.loop a) Q e := by
  refine VW_loop hT h2 hm (σ := List α × List α × B) (fun s => I s.1 s.2.1 s.2.2) (fun s => s.1 ++ s.2.1 = l ∧ R s.1 s.2.1 s.2.2) (fun s => s.2.1.length) ([], l, b0) ⟨rfl, h0⟩ (hS _ _ he)
    (nextL S l I R) ?_ ?_
  · rintro ⟨pre, post, b⟩ e' h
    cases post with
    | nil => exact h.elim
    | cons x post =>
      obtain ⟨h1, b', h2, h3⟩ := h
      exact ⟨(pre ++ [x], post, b'), Nat.lt_succ_self _, ⟨by simpa using h1, h2⟩, hS _ _ h3⟩
  · rintro ⟨pre, post, b⟩ ⟨hl, hR⟩
    cases post with
    | nil =>
      have hp : pre = l := by simpa using hl
      subst hp
      exact hnil b hR
    | cons x post =>
      have : nextL S l I R (pre, x :: post, b) = fun e' => ∃ b', R (pre ++ [x]) post b' ∧ S e' (I (pre ++ [x]) post b') := by
        funext e'
        have hl' : pre ++ x :: post = l := hl
        simp only [nextL, hl', true_and]
      rw [this]
      exact hcons pre x post b hl (by rw [← hl]; simp) hR
/-- A loop over a list; the roots stay as they are. -/
theorem VW_list (hT : Table P T) (h2 : 2 ≤ n) (hm : P.follows .mixedOrders = true) {a : SCode} {Q : Exit → Env → Prop} {e : Env} {α B : Type} (l : List α) (I : List α → List α → B → Env) (R : List α → List α → B → Prop) (b0 : B)
    (h0 : R [] l b0) (he : SubI e (I [] l b0))
    (hnil : ∀ b, R l [] b → vc P n k T a (thenQ (fun _ => False) Q) (I l [] b))
    (hcons : ∀ pre x post b, pre ++ x :: post = l → pre.length + (post.length + 1) = l.length → R pre (x :: post) b → vc P n k T a (thenQ (fun e' => ∃ b', R (pre ++ [x]) post b' ∧ SubI e' (I (pre ++ [x]) post b')) Q) (I pre (x :: post) b)) : VW P n k T (.loop a) Q e :=
  VW_listS (fun _ _ h => h.sub) hT h2 hm l I R b0 h0 he hnil hcons
/-- A loop over a list; the roots are seen anew at the loop's head. -/
theorem VW_listE (viv : List (Nat × Nat × Nat)) (anch : List Nat) (hT : Table P T) (h2 : 2 ≤ n) (hm : P.follows .mixedOrders = true) {a : SCode} {Q : Exit → Env → Prop} {e : Env} {α B : Type} (l : List α) (I : List α → List α → B → Env) (R : List α → List α → B → Prop) (b0 : B)
    (h0 : R [] l b0) (he : SubE k viv anch e (I [] l b0))
    (hnil : ∀ b, R l [] b → vc P n k T a (thenQ (fun _ => False) Q) (I l [] b))
    (hcons : ∀ pre x post b, pre ++ x :: post = l → pre.length + (post.length + 1) = l.length → R pre (x :: post) b → vc P n k T a (thenQ (fun e' => ∃ b', R (pre ++ [x]) post b' ∧ SubE k viv anch e' (I (pre ++ [x]) post b')) Q) (I pre (x :: post) b)) : VW P n k T (.loop a) Q e :=
  VW_listS (fun _ _ h => h.sub) hT h2 hm l I R b0 h0 he hnil hcons
/-- A loop that counts to N. -/
theorem VW_numS {S : Env → Env → Prop} (hS : ∀ e e', S e e' → Sub k e e') (hT : Table P T) (h2 : 2 ≤ n) (hm : P.follows .mixedOrders = true) {a : SCode} {Q : Exit → Env → Prop} {e : Env} {B : Type} (N : Nat) (I : Nat → B → Env) (R : Nat → B → Prop) (b0 : B)
    (h0 : R 0 b0) (he : S e (I 0 b0))
    (hend : ∀ b, R N b → vc P n k T a (thenQ (fun _ => False) Q) (I N b))
    (hstep : ∀ i b, i < N → R i b → vc P n k T a (thenQ (fun e' => ∃ b', R (i + 1) b' ∧ S e' (I (i + 1) b')) Q) (I i b)) : VW P n k T (.loop a) Q e := by
  refine VW_loop hT h2 hm (σ := Nat × B) (fun s => I s.1 s.2) (fun s => s.1 ≤ N ∧ R s.1 s.2) (fun s => N - s.1) (0, b0) ⟨Nat.zero_le _, h0⟩ (hS _ _ he)
    (fun s e' => s.1 < N ∧ ∃ b', R (s.1 + 1) b' ∧ S e' (I (s.1 + 1) b')) ?_ ?_
  · rintro ⟨i, b⟩ e' ⟨h1, b', h2, h3⟩
    have h1' : i < N := h1
    exact ⟨(i + 1, b'), by show N - (i + 1) < N - i; omega, ⟨h1', h2⟩, hS _ _ h3⟩
  · rintro ⟨i, b⟩ ⟨hi, hR⟩
    by_cases h : i < N
    · have : (fun e' => (i, b).1 < N ∧ ∃ b', R ((i, b).1 + 1) b' ∧ S e' (I ((i, b).1 + 1) b')) = fun e' => ∃ b', R (i + 1) b' ∧ S e' (I (i + 1) b') := by
        funext e'
        simp only [h, true_and]
      rw [this]
      exact hstep i b h hR
    · have hN : i = N := by have : i ≤ N := hi; omega
      subst hN
      have : (fun e' => (i, b).1 < i ∧ ∃ b', R ((i, b).1 + 1) b' ∧ S e' (I ((i, b).1 + 1) b')) = fun e' => False := by
        funext e'
        simp
      rw [this]
      exact hend b hR
theorem VW_num (hT : Table P T) (h2 : 2 ≤ n) (hm : P.follows .mixedOrders = true) {a : SCode} {Q : Exit → Env → Prop} {e : Env} {B : Type} (N : Nat) (I : Nat → B → Env) (R : Nat → B → Prop) (b0 : B)
    (h0 : R 0 b0) (he : SubI e (I 0 b0))
    (hend : ∀ b, R N b → vc P n k T a (thenQ (fun _ => False) Q) (I N b))
    (hstep : ∀ i b, i < N → R i b → vc P n k T a (thenQ (fun e' => ∃ b', R (i + 1) b' ∧ SubI e' (I (i + 1) b')) Q) (I i b)) : VW P n k T (.loop a) Q e :=
  VW_numS (fun _ _ h => h.sub) hT h2 hm N I R b0 h0 he hend hstep
theorem VW_numE (viv : List (Nat × Nat × Nat)) (anch : List Nat) (hT : Table P T) (h2 : 2 ≤ n) (hm : P.follows .mixedOrders = true) {a : SCode} {Q : Exit → Env → Prop} {e : Env} {B : Type} (N : Nat) (I : Nat → B → Env) (R : Nat → B → Prop) (b0 : B)
    (h0 : R 0 b0) (he : SubE k viv anch e (I 0 b0))
    (hend : ∀ b, R N b → vc P n k T a (thenQ (fun _ => False) Q) (I N b))
    (hstep : ∀ i b, i < N → R i b → vc P n k T a (thenQ (fun e' => ∃ b', R (i + 1) b' ∧ SubE k viv anch e' (I (i + 1) b')) Q) (I i b)) : VW P n k T (.loop a) Q e :=
  VW_numS (fun _ _ h => h.sub) hT h2 hm N I R b0 h0 he hend hstep
end
/-- Values that a loop leaves alone. -/
def keepT (tm : List (Nat × AV)) (ks : List Nat) : List (Nat × AV) := ks.map fun t => (t, tv tm t)
@[go_sem] theorem keepT_nil {tm : List (Nat × AV)} : keepT tm [] = [] := rfl
@[go_sem] theorem keepT_cons {tm : List (Nat × AV)} {k : Nat} {ks : List Nat} : keepT tm (k :: ks) = (k, tv tm k) :: keepT tm ks := rfl
section
variable {P : Program} {n k : Nat} {T : List (Nat × Fsem)}
/-- A loop over a list: what is turned each round is told, what is kept is named; the roots stay as they are. -/
theorem VW_listK (hT : Table P T) (h2 : 2 ≤ n) (hm : P.follows .mixedOrders = true) {a : SCode} {Q : Exit → Env → Prop} {e : Env} {α B : Type} (l : List α) (kept : List Nat) (I : List α → List α → B → List (Nat × AV)) (R : List α → List α → B → Prop) (b0 : B)
    (h0 : R [] l b0) (he : SubI e ⟨I [] l b0 ++ keepT e.tm kept, e.st⟩)
    (hnil : ∀ b, R l [] b → vc P n k T a (thenQ (fun _ => False) Q) ⟨I l [] b ++ keepT e.tm kept, e.st⟩)
    (hcons : ∀ pre x post b, pre ++ x :: post = l → pre.length + (post.length + 1) = l.length → R pre (x :: post) b → vc P n k T a (thenQ (fun e' => ∃ b', R (pre ++ [x]) post b' ∧ SubI e' ⟨I (pre ++ [x]) post b' ++ keepT e.tm kept, e.st⟩) Q) ⟨I pre (x :: post) b ++ keepT e.tm kept, e.st⟩) : VW P n k T (.loop a) Q e :=
  VW_list hT h2 hm l (fun pre post b => ⟨I pre post b ++ keepT e.tm kept, e.st⟩) R b0 h0 he hnil hcons
/-- The same; the roots are seen anew at the loop's head. -/
theorem VW_listKE (viv : List (Nat × Nat × Nat)) (anch : List Nat) (hT : Table P T) (h2 : 2 ≤ n) (hm : P.follows .mixedOrders = true) {a : SCode} {Q : Exit → Env → Prop} {e : Env} {α B : Type} (l : List α) (kept : List Nat) (st : List α → List α → B → List Root) (I : List α → List α → B → List (Nat × AV)) (R : List α → List α → B → Prop) (b0 : B)
    (h0 : R [] l b0) (he : SubE k viv anch e ⟨I [] l b0 ++ keepT e.tm kept, st [] l b0⟩)
    (hnil : ∀ b, R l [] b → vc P n k T a (thenQ (fun _ => False) Q) ⟨I l [] b ++ keepT e.tm kept, st l [] b⟩)
    (hcons : ∀ pre x post b, pre ++ x :: post = l → pre.length + (post.length + 1) = l.length → R pre (x :: post) b → vc P n k T a (thenQ (fun e' => ∃ b', R (pre ++ [x]) post b' ∧ SubE k viv anch e' ⟨I (pre ++ [x]) post b' ++ keepT e.tm kept, st (pre ++ [x]) post b'⟩) Q) ⟨I pre (x :: post) b ++ keepT e.tm kept, st pre (x :: post) b⟩) : VW P n k T (.loop a) Q e :=
  VW_listE viv anch hT h2 hm l (fun pre post b => ⟨I pre post b ++ keepT e.tm kept, st pre post b⟩) R b0 h0 he hnil hcons
/-- The same; the roots at the head are those ahead of the loop. -/
theorem VW_listKe (viv : List (Nat × Nat × Nat)) (anch : List Nat) (hT : Table P T) (h2 : 2 ≤ n) (hm : P.follows .mixedOrders = true) {a : SCode} {Q : Exit → Env → Prop} {e : Env} {α B : Type} (l : List α) (kept : List Nat) (I : List α → List α → B → List (Nat × AV)) (R : List α → List α → B → Prop) (b0 : B)
    (h0 : R [] l b0) (he : SubE k viv anch e ⟨I [] l b0 ++ keepT e.tm kept, e.st⟩)
    (hnil : ∀ b, R l [] b → vc P n k T a (thenQ (fun _ => False) Q) ⟨I l [] b ++ keepT e.tm kept, e.st⟩)
    (hcons : ∀ pre x post b, pre ++ x :: post = l → pre.length + (post.length + 1) = l.length → R pre (x :: post) b → vc P n k T a (thenQ (fun e' => ∃ b', R (pre ++ [x]) post b' ∧ SubE k viv anch e' ⟨I (pre ++ [x]) post b' ++ keepT e.tm kept, e.st⟩) Q) ⟨I pre (x :: post) b ++ keepT e.tm kept, e.st⟩) : VW P n k T (.loop a) Q e :=
  VW_listE viv anch hT h2 hm l (fun pre post b => ⟨I pre post b ++ keepT e.tm kept, e.st⟩) R b0 h0 he hnil hcons
theorem VW_numK (hT : Table P T) (h2 : 2 ≤ n) (hm : P.follows .mixedOrders = true) {a : SCode} {Q : Exit → Env → Prop} {e : Env} {B : Type} (N : Nat) (kept : List Nat) (I : Nat → B → List (Nat × AV)) (R : Nat → B → Prop) (b0 : B)
    (h0 : R 0 b0) (he : SubI e ⟨I 0 b0 ++ keepT e.tm kept, e.st⟩)
    (hend : ∀ b, R N b → vc P n k T a (thenQ (fun _ => False) Q) ⟨I N b ++ keepT e.tm kept, e.st⟩)
    (hstep : ∀ i b, i < N → R i b → vc P n k T a (thenQ (fun e' => ∃ b', R (i + 1) b' ∧ SubI e' ⟨I (i + 1) b' ++ keepT e.tm kept, e.st⟩) Q) ⟨I i b ++ keepT e.tm kept, e.st⟩) : VW P n k T (.loop a) Q e :=
  VW_num hT h2 hm N (fun i b => ⟨I i b ++ keepT e.tm kept, e.st⟩) R b0 h0 he hend hstep
theorem VW_numKE (viv : List (Nat × Nat × Nat)) (anch : List Nat) (hT : Table P T) (h2 : 2 ≤ n) (hm : P.follows .mixedOrders = true) {a : SCode} {Q : Exit → Env → Prop} {e : Env} {B : Type} (N : Nat) (kept : List Nat) (st : Nat → B → List Root) (I : Nat → B → List (Nat × AV)) (R : Nat → B → Prop) (b0 : B)
    (h0 : R 0 b0) (he : SubE k viv anch e ⟨I 0 b0 ++ keepT e.tm kept, st 0 b0⟩)
    (hend : ∀ b, R N b → vc P n k T a (thenQ (fun _ => False) Q) ⟨I N b ++ keepT e.tm kept, st N b⟩)
    (hstep : ∀ i b, i < N → R i b → vc P n k T a (thenQ (fun e' => ∃ b', R (i + 1) b' ∧ SubE k viv anch e' ⟨I (i + 1) b' ++ keepT e.tm kept, st (i + 1) b'⟩) Q) ⟨I i b ++ keepT e.tm kept, st i b⟩) : VW P n k T (.loop a) Q e :=
  VW_numE viv anch hT h2 hm N (fun i b => ⟨I i b ++ keepT e.tm kept, st i b⟩) R b0 h0 he hend hstep
end
@[go_sem] theorem nth_pre {a b : List AV} {y : AV} : nth (a ++ y :: b) a.length = y := by simp [nth]
@[go_sem] theorem nth_pre2 {a b : List AV} {y z : AV} : nth (a ++ y :: z :: b) (a.length + 1) = z := by simp [nth]
@[go_sem] theorem nth_pre2_map {α : Type} {f : α → AV} {l : List α} {b : List AV} {y z : AV} : nth (l.map f ++ y :: z :: b) (l.length + 1) = z := by
  have := nth_pre2 (a := l.map f) (b := b) (y := y) (z := z)
  rwa [List.length_map] at this
@[go_sem] theorem nth_pre_map {α : Type} {f : α → AV} {l : List α} {b : List AV} {y : AV} : nth (l.map f ++ y :: b) l.length = y := by
  have := nth_pre (a := l.map f) (b := b) (y := y)
  rwa [List.length_map] at this

/-! ### Roots, named anew -/
section
variable {pos : Nat → Option Nat}
def rnpO (p : Option Nat) (w off len : Nat) : AV :=
  match p with
  | some k => .osl k w off len
  | none => .undef
def rnpP (p : Option Nat) (w i j : Nat) : AV :=
  match p with
  | some k => .ptr k w i j
  | none => .undef
def rnpM (p : Option Nat) : AV :=
  match p with
  | some k => .map k
  | none => .undef
@[go_sem] theorem rnpO_some {k w off len : Nat} : rnpO (some k) w off len = .osl k w off len := rfl
@[go_sem] theorem rnpP_some {k w i j : Nat} : rnpP (some k) w i j = .ptr k w i j := rfl
@[go_sem] theorem rnpM_some {k : Nat} : rnpM (some k) = .map k := rfl
@[go_sem] theorem rnp0_undef : AV.rnp0 pos (.undef) = .undef := rfl
@[go_sem] theorem rnp0_int {k : IntKind} {n : Int} : AV.rnp0 pos (.int k n) = .int k n := rfl
@[go_sem] theorem rnp0_bool {b : Bool} : AV.rnp0 pos (.bool b) = .bool b := rfl
@[go_sem] theorem rnp0_str {s : ByteArray} : AV.rnp0 pos (.str s) = .str s := rfl
@[go_sem] theorem rnp0_nilp : AV.rnp0 pos (.nilp) = .nilp := rfl
@[go_sem] theorem rnp0_nils : AV.rnp0 pos (.nils) = .nils := rfl
@[go_sem] theorem rnp0_nili : AV.rnp0 pos (.nili) = .nili := rfl
@[go_sem] theorem rnp0_sl {τ w : Nat} {xs : List AV} : AV.rnp0 pos (.sl τ w xs) = .sl τ w xs := rfl
@[go_sem] theorem rnp0_dptr {τ : Nat} {xs : List AV} : AV.rnp0 pos (.dptr τ xs) = .dptr τ xs := rfl
@[go_sem] theorem rnp0_osl {r w off len : Nat} : AV.rnp0 pos (.osl r w off len) = rnpO (pos r) w off len := rfl
@[go_sem] theorem rnp0_ptr {r w i j : Nat} : AV.rnp0 pos (.ptr r w i j) = rnpP (pos r) w i j := rfl
@[go_sem] theorem rnp0_map {r : Nat} : AV.rnp0 pos (.map r) = rnpM (pos r) := rfl
@[go_sem] theorem rnp1_undef : AV.rnp1 pos (.undef) = .undef := rfl
@[go_sem] theorem rnp1_int {k : IntKind} {n : Int} : AV.rnp1 pos (.int k n) = .int k n := rfl
@[go_sem] theorem rnp1_bool {b : Bool} : AV.rnp1 pos (.bool b) = .bool b := rfl
@[go_sem] theorem rnp1_str {s : ByteArray} : AV.rnp1 pos (.str s) = .str s := rfl
@[go_sem] theorem rnp1_nilp : AV.rnp1 pos (.nilp) = .nilp := rfl
@[go_sem] theorem rnp1_nils : AV.rnp1 pos (.nils) = .nils := rfl
@[go_sem] theorem rnp1_nili : AV.rnp1 pos (.nili) = .nili := rfl
@[go_sem] theorem rnp1_sl {τ w : Nat} {xs : List AV} : AV.rnp1 pos (.sl τ w xs) = .sl τ w xs := rfl
@[go_sem] theorem rnp1_dptr {τ : Nat} {xs : List AV} : AV.rnp1 pos (.dptr τ xs) = .dptr τ xs := rfl
@[go_sem] theorem rnp1_osl {r w off len : Nat} : AV.rnp1 pos (.osl r w off len) = rnpO (pos r) w off len := rfl
@[go_sem] theorem rnp1_ptr {r w i j : Nat} : AV.rnp1 pos (.ptr r w i j) = rnpP (pos r) w i j := rfl
@[go_sem] theorem rnp1_map {r : Nat} : AV.rnp1 pos (.map r) = rnpM (pos r) := rfl
@[go_sem] theorem rnp1_fn {f : FuncId} {cs : List AV} : AV.rnp1 pos (.fn f cs) = .fn f (cs.map (AV.rnp0 pos)) := rfl
@[go_sem] theorem rnp2_undef : AV.rnp2 pos (.undef) = .undef := rfl
@[go_sem] theorem rnp2_int {k : IntKind} {n : Int} : AV.rnp2 pos (.int k n) = .int k n := rfl
@[go_sem] theorem rnp2_bool {b : Bool} : AV.rnp2 pos (.bool b) = .bool b := rfl
@[go_sem] theorem rnp2_str {s : ByteArray} : AV.rnp2 pos (.str s) = .str s := rfl
@[go_sem] theorem rnp2_nilp : AV.rnp2 pos (.nilp) = .nilp := rfl
@[go_sem] theorem rnp2_nils : AV.rnp2 pos (.nils) = .nils := rfl
@[go_sem] theorem rnp2_nili : AV.rnp2 pos (.nili) = .nili := rfl
@[go_sem] theorem rnp2_sl {τ w : Nat} {xs : List AV} : AV.rnp2 pos (.sl τ w xs) = .sl τ w xs := rfl
@[go_sem] theorem rnp2_dptr {τ : Nat} {xs : List AV} : AV.rnp2 pos (.dptr τ xs) = .dptr τ xs := rfl
@[go_sem] theorem rnp2_osl {r w off len : Nat} : AV.rnp2 pos (.osl r w off len) = rnpO (pos r) w off len := rfl
@[go_sem] theorem rnp2_ptr {r w i j : Nat} : AV.rnp2 pos (.ptr r w i j) = rnpP (pos r) w i j := rfl
@[go_sem] theorem rnp2_map {r : Nat} : AV.rnp2 pos (.map r) = rnpM (pos r) := rfl
@[go_sem] theorem rnp2_fn {f : FuncId} {cs : List AV} : AV.rnp2 pos (.fn f cs) = .fn f (cs.map (AV.rnp0 pos)) := rfl
@[go_sem] theorem rnp2_agg {cs : List AV} : AV.rnp2 pos (.agg cs) = .agg (cs.map (AV.rnp1 pos)) := rfl
@[go_sem] theorem rnp_undef : AV.rnp pos (.undef) = .undef := rfl
@[go_sem] theorem rnp_int {k : IntKind} {n : Int} : AV.rnp pos (.int k n) = .int k n := rfl
@[go_sem] theorem rnp_bool {b : Bool} : AV.rnp pos (.bool b) = .bool b := rfl
@[go_sem] theorem rnp_str {s : ByteArray} : AV.rnp pos (.str s) = .str s := rfl
@[go_sem] theorem rnp_nilp : AV.rnp pos (.nilp) = .nilp := rfl
@[go_sem] theorem rnp_nils : AV.rnp pos (.nils) = .nils := rfl
@[go_sem] theorem rnp_nili : AV.rnp pos (.nili) = .nili := rfl
@[go_sem] theorem rnp_sl {τ w : Nat} {xs : List AV} : AV.rnp pos (.sl τ w xs) = .sl τ w xs := rfl
@[go_sem] theorem rnp_dptr {τ : Nat} {xs : List AV} : AV.rnp pos (.dptr τ xs) = .dptr τ xs := rfl
@[go_sem] theorem rnp_osl {r w off len : Nat} : AV.rnp pos (.osl r w off len) = rnpO (pos r) w off len := rfl
@[go_sem] theorem rnp_ptr {r w i j : Nat} : AV.rnp pos (.ptr r w i j) = rnpP (pos r) w i j := rfl
@[go_sem] theorem rnp_map {r : Nat} : AV.rnp pos (.map r) = rnpM (pos r) := rfl
@[go_sem] theorem rnp_fn {f : FuncId} {cs : List AV} : AV.rnp pos (.fn f cs) = .fn f (cs.map (AV.rnp0 pos)) := rfl
@[go_sem] theorem rnp_agg {cs : List AV} : AV.rnp pos (.agg cs) = .agg (cs.map (AV.rnp1 pos)) := rfl
@[go_sem] theorem rnp_tup {cs : List AV} : AV.rnp pos (.tup cs) = .tup (cs.map (AV.rnp2 pos)) := rfl
theorem isD_rnp1 {y : AV} (h : y.isD = true) : y.rnp1 pos = y := by cases y <;> first | rfl | cases h
theorem isD_rnp {y : AV} (h : y.isD = true) : y.rnp pos = y := by cases y <;> first | rfl | cases h
@[go_sem] theorem En.rnp {α : Type} (E : En α) (τ : Nat) (x : α) : AV.rnp pos (E.av τ x) = E.av τ x := by
  rcases E.shape τ x with ⟨h, _⟩ | h
  · exact isD_rnp h
  · rw [h, rnp_agg]
    congr 1
    exact map_id_of fun y hy => isD_rnp1 (E.dat τ x y hy)
@[go_sem] theorem En.rnp1s {α : Type} (E : En α) (τ : Nat) (x : α) : (E.cs τ x).map (AV.rnp1 pos) = E.cs τ x := map_id_of fun y hy => isD_rnp1 (E.dat τ x y hy)
end

@[go_sem] theorem rinOf_cons {st : List Root} {r : Nat} {m : List Nat} : rinOf st (r :: m) = (r :: m).map fun q => (st.getD q .gone).rnp (posOf (r :: m)) := rfl
/-! ### Values seen as others -/
/-- What is x is x', too. -/
def Wk (x x' : AV) : Prop := (∀ (W : World) (D : Nat → Nat → Prop) (β : Nat → Option Nat) (v : Value), Rep W D β v x → Rep W D β v x') ∧ ∀ q, Names x' q → Names x q
theorem Wk.refl (x : AV) : Wk x x := ⟨fun _ _ _ _ h => h, fun _ h => h⟩
theorem Wk.nils (τ w : Nat) : Wk .nils (.sl τ w []) := ⟨fun W D β v h => by rw [rep_nils h]; exact .data _ _ (.sl0 ..), fun q h => by cases h⟩
theorem Wk.agg {cs cs' : List AV} (hl : cs'.length = cs.length) (h : ∀ (i : Nat) (y' : AV), cs'[i]? = some y' → ∃ y, cs[i]? = some y ∧ Wk y y') : Wk (.agg cs) (.agg cs') := by
  refine ⟨fun W D β v hv => ?_, fun q hq => ?_⟩
  · obtain ⟨vs, rfl, hs, hr⟩ := agg_inv hv
    have key : ∀ (i : Nat) (y' : AV), cs'[i]? = some y' → ∃ u, vs[i]? = some u ∧ u.oneCell' = true ∧ Rep W D β u y' := fun i y' hy => by
      obtain ⟨y, h1, h2⟩ := h i y' hy
      obtain ⟨u, u1, u2, u3⟩ := hr i y h1
      exact ⟨u, u1, u2, h2.1 _ _ _ _ u3⟩
    refine .agg vs cs' (fun i => (vs[i]?).getD undef) (hs.trans hl.symm) (fun i y hy => ?_) (fun i y hy => ?_) (fun i y hy => ?_)
    all_goals
      obtain ⟨u, u1, u2, u3⟩ := key i y hy
      simp only [u1, Option.getD_some]
    · exact u2
    · exact u3
  · cases hq with
    | agg _ y _ hy hq =>
      obtain ⟨i, hi, rfl⟩ := List.mem_iff_getElem.1 hy
      obtain ⟨y, h1, h2⟩ := h i _ (List.getElem?_eq_getElem hi)
      exact .agg cs y q (List.mem_of_getElem? h1) (h2.2 q hq)
theorem Wk.tup {cs cs' : List AV} (hl : cs'.length = cs.length) (h : ∀ (i : Nat) (y' : AV), cs'[i]? = some y' → ∃ y, cs[i]? = some y ∧ Wk y y') : Wk (.tup cs) (.tup cs') := by
  refine ⟨fun W D β v hv => ?_, fun q hq => ?_⟩
  · obtain ⟨vs, rfl, hs, hr⟩ := tup_inv hv
    have key : ∀ (i : Nat) (y' : AV), cs'[i]? = some y' → ∃ u, vs[i]? = some u ∧ Rep W D β u y' := fun i y' hy => by
      obtain ⟨y, h1, h2⟩ := h i y' hy
      obtain ⟨u, u1, u3⟩ := hr i y h1
      exact ⟨u, u1, h2.1 _ _ _ _ u3⟩
    refine .tup vs cs' (fun i => (vs[i]?).getD undef) (hs.trans hl.symm) (fun i y hy => ?_) (fun i y hy => ?_)
    all_goals
      obtain ⟨u, u1, u3⟩ := key i y hy
      simp only [u1, Option.getD_some]
    · exact u3
  · cases hq with
    | tup _ y _ hy hq =>
      obtain ⟨i, hi, rfl⟩ := List.mem_iff_getElem.1 hy
      obtain ⟨y, h1, h2⟩ := h i _ (List.getElem?_eq_getElem hi)
      exact .tup cs y q (List.mem_of_getElem? h1) (h2.2 q hq)
theorem SatM.wk {P : Program} {n : Nat} {f : FuncId} {rin rout : List Root} {args args' : List AV} {res res' : AV} (h : SatM P n f rin args' rout res') (hl : args'.length = args.length) (ha : ∀ (i : Nat) (x' : AV), args'[i]? = some x' → ∃ x, args[i]? = some x ∧ Wk x x') (hr : Wk res' res) : SatM P n f rin args rout res := by
  refine ⟨h.1, fun W D β vs h0 h1 h2 h3 h4 h5 h6 => (h.2 W D β vs h0 h1 h2 h3 h4 (h5.trans hl.symm) fun i x' hx => ?_).mono ?_⟩
  · obtain ⟨x, k1, k2⟩ := ha i x' hx
    obtain ⟨v, v1, v2, v3⟩ := h6 i x k1
    exact ⟨v, v1, k2.1 _ _ _ _ v2, fun q hq => v3 q (k2.2 q hq)⟩
  · rintro e W' ⟨v, D', β', he, hM, hR, hB, hv, hn⟩
    exact ⟨v, D', β', he, hM, hR, hB, hr.1 _ _ _ _ hv, fun q hq => hn q (hr.2 q hq)⟩
/-- A slice that may be nil, as one of w cells an element. -/
def toSl (w : Option Nat) (v : AV) : AV :=
  match w, v with
  | some w, .nils => .sl 0 w []
  | _, v => v
theorem toSl_wk (w : Option Nat) (v : AV) : Wk v (toSl w v) := by
  unfold toSl
  split
  · exact Wk.nils ..
  · exact Wk.refl _
def cellw : List (Option Nat) → List AV → List AV
  | _, [] => []
  | [], c :: cs => c :: cs
  | w :: ws, c :: cs => toSl w c :: cellw ws cs
theorem cellw_wk : ∀ (ws : List (Option Nat)) (cs : List AV), (cellw ws cs).length = cs.length ∧ ∀ (i : Nat) (y' : AV), (cellw ws cs)[i]? = some y' → ∃ y, cs[i]? = some y ∧ Wk y y'
  | ws, [] => by cases ws <;> exact ⟨rfl, fun i y' h => by simp [cellw] at h⟩
  | [], c :: cs => ⟨rfl, fun i y' h => ⟨y', h, Wk.refl _⟩⟩
  | w :: ws, c :: cs => by
    obtain ⟨h1, h2⟩ := cellw_wk ws cs
    refine ⟨by simp [cellw, h1], fun i y' h => ?_⟩
    cases i with
    | zero =>
      simp [cellw] at h
      subst h
      exact ⟨c, rfl, toSl_wk w c⟩
    | succ i => exact h2 i y' (by simpa [cellw] using h)
inductive Sh where
  | k
  | c (w : Nat)
  | a (ws : List (Option Nat))
def toSh (s : Sh) (v : AV) : AV :=
  match s with
  | .k => v
  | .c w => toSl (some w) v
  | .a ws => match v with
    | .agg cs => .agg (cellw ws cs)
    | v => v
theorem toSh_wk (s : Sh) (v : AV) : Wk v (toSh s v) := by
  unfold toSh
  split
  · exact Wk.refl _
  · exact toSl_wk _ _
  · rename_i ws
    split
    · rename_i cs
      exact Wk.agg (cellw_wk ws cs).1 (cellw_wk ws cs).2
    · exact Wk.refl _
def argw : List Sh → List AV → List AV
  | _, [] => []
  | [], c :: cs => c :: cs
  | w :: ws, c :: cs => toSh w c :: argw ws cs
theorem argw_wk : ∀ (ws : List Sh) (cs : List AV), (argw ws cs).length = cs.length ∧ ∀ (i : Nat) (y' : AV), (argw ws cs)[i]? = some y' → ∃ y, cs[i]? = some y ∧ Wk y y'
  | ws, [] => by cases ws <;> exact ⟨rfl, fun i y' h => by simp [argw] at h⟩
  | [], c :: cs => ⟨rfl, fun i y' h => ⟨y', h, Wk.refl _⟩⟩
  | w :: ws, c :: cs => by
    obtain ⟨h1, h2⟩ := argw_wk ws cs
    refine ⟨by simp [argw, h1], fun i y' h => ?_⟩
    cases i with
    | zero =>
      simp [argw] at h
      subst h
      exact ⟨c, rfl, toSh_wk w c⟩
    | succ i => exact h2 i y' (by simpa [argw] using h)
/-- Arguments that may be nil. -/
def nilw (sh : List Sh) (s : Fsem) : Fsem := fun n a => s n (argw sh a)
theorem nilw_pure {P : Program} {f : FuncId} {s : Fsem} (sh : List Sh) (h : Pure P f s) : Pure P f (nilw sh s) := fun n a h2 hc =>
  (h n (argw sh a) h2 hc).wk (argw_wk sh a).1 (argw_wk sh a).2 (Wk.refl _)
@[go_sem] theorem nilw_eq {sh : List Sh} {s : Fsem} {n : Nat} {a : List AV} : nilw sh s n a = s n (argw sh a) := rfl
@[go_sem] theorem argw_nil {sh : List Sh} : argw sh [] = [] := by cases sh <;> rfl
@[go_sem] theorem argw_nil' {c : AV} {cs : List AV} : argw [] (c :: cs) = c :: cs := rfl
@[go_sem] theorem argw_cons {w : Sh} {ws : List Sh} {c : AV} {cs : List AV} : argw (w :: ws) (c :: cs) = toSh w c :: argw ws cs := rfl
@[go_sem] theorem toSh_k {v : AV} : toSh .k v = v := rfl
@[go_sem] theorem toSh_c {w : Nat} {v : AV} : toSh (.c w) v = toSl (some w) v := rfl
@[go_sem] theorem toSh_a {ws : List (Option Nat)} {cs : List AV} : toSh (.a ws) (.agg cs) = .agg (cellw ws cs) := rfl
@[go_sem] theorem cellw_nil {ws : List (Option Nat)} : cellw ws [] = [] := by cases ws <;> rfl
@[go_sem] theorem cellw_nil' {c : AV} {cs : List AV} : cellw [] (c :: cs) = c :: cs := rfl
@[go_sem] theorem cellw_cons {w : Option Nat} {ws : List (Option Nat)} {c : AV} {cs : List AV} : cellw (w :: ws) (c :: cs) = toSl w c :: cellw ws cs := rfl
@[go_sem] theorem toSl_none {v : AV} : toSl none v = v := rfl
@[go_sem] theorem toSl_nils {w : Nat} : toSl (some w) .nils = .sl 0 w [] := rfl
@[go_sem] theorem toSl_sl {w τ w' : Nat} {xs : List AV} : toSl (some w) (.sl τ w' xs) = .sl τ w' xs := rfl

/-! ### A function that calls closures: by the closure's number -/
def dspO (o : Option Fsem) (n : Nat) (a : List AV) : OpR :=
  match o with
  | some s => s n a
  | none => .no
/-- The closure is the last argument. -/
def dsp (L : List (Nat × Fsem)) : Fsem := fun n a =>
  match a.getLast? with
  | some (.fn k _) => dspO (tget L k) n a
  | _ => .no
theorem dsp_pure {P : Program} {f : FuncId} {L : List (Nat × Fsem)} (h : ∀ p ∈ L, Pure P f p.2) : Pure P f (dsp L) := by
  intro n a h2 hc
  have key : ∀ {L : List (Nat × Fsem)} {k : Nat} {s : Fsem}, tget L k = some s → ∃ p ∈ L, p.2 = s := by
    intro L k s
    induction L with
    | nil => intro h; cases h
    | cons p L ih =>
      obtain ⟨g, s0⟩ := p
      intro h
      rw [tget] at h
      cases hb : Nat.beq g k
      · rw [hb] at h
        obtain ⟨p, hp, h2⟩ := ih h
        exact ⟨p, List.mem_cons_of_mem _ hp, h2⟩
      · rw [hb] at h
        cases h
        exact ⟨_, List.mem_cons_self, rfl⟩
  unfold dsp at hc ⊢
  split at hc
  · rename_i k c hk
    cases ht : tget L k with
    | none => rw [ht] at hc; exact hc.elim
    | some s =>
      obtain ⟨p, hp, rfl⟩ := key ht
      rw [ht] at hc
      exact h p hp n a h2 hc
  · exact hc.elim
@[go_sem] theorem dsp_two {L : List (Nat × Fsem)} {n : Nat} {x : AV} {k : Nat} {c : List AV} : dsp L n [x, .fn k c] = dspO (tget L k) n [x, .fn k c] := rfl
@[go_sem] theorem dsp_three {L : List (Nat × Fsem)} {n : Nat} {x y : AV} {k : Nat} {c : List AV} : dsp L n [x, y, .fn k c] = dspO (tget L k) n [x, y, .fn k c] := rfl
@[go_sem] theorem dspO_some {s : Fsem} {n : Nat} {a : List AV} : dspO (some s) n a = s n a := rfl

/-! ### Maps of whole numbers to true -/
def kvs (l : List Int) : List (AV × AV) := l.map fun k => (.int .i64 k, .bool true)
def ins (l : List Int) (k : Int) : List Int := if k ∈ l then l else l ++ [k]
@[go_sem] theorem kvFind_kvs {k : Int} : ∀ {l : List Int}, kvFind (kvs l) (.int .i64 k) = some (if k ∈ l then some (.bool true) else none)
  | [] => rfl
  | a :: l => by
    have ih := kvFind_kvs (k := k) (l := l)
    simp only [kvs, List.map_cons] at ih ⊢
    simp only [kvFind, cellEq, if_true, ih]
    by_cases h : k = a
    · subst h; simp
    · simp [h]
@[go_sem] theorem kvSet_kvs {k : Int} : ∀ {l : List Int}, kvSet (kvs l) (.int .i64 k) (.bool true) = some (kvs (ins l k))
  | [] => rfl
  | a :: l => by
    have ih := kvSet_kvs (k := k) (l := l)
    simp only [kvs, List.map_cons] at ih ⊢
    simp only [kvSet, cellEq, if_true, ih]
    by_cases h : k = a
    · subst h; simp [ins]
    · by_cases h' : k ∈ l <;> simp [ins, h, h']
@[go_sem] theorem kvs_len {l : List Int} : (kvs l).length = l.length := by simp [kvs]
theorem mem_ins {l : List Int} {k x : Int} : x ∈ ins l k ↔ x ∈ l ∨ x = k := by
  unfold ins
  split
  · rename_i h
    constructor
    · exact .inl
    · rintro (h1 | rfl)
      · exact h1
      · exact h
  · simp

/-! ### Looking up in maps -/
def zeroHas (P : Program) (t : Nat) : Bool := ((P.info? t).bind (·.zero)).isSome
def keyOkR (ty : Ty) (k : AV) : Bool :=
  match ty, k with
  | .int _, .int _ _ => true
  | .bool, .bool _ => true
  | .str, .str _ => true
  | _, _ => false
@[go_sem] theorem keyOk_eq {P : Program} {t : Nat} {k : AV} : keyOk P t k = keyOkR (tyOf P t) k := rfl
@[go_sem] theorem keyOkR_int {k k' : IntKind} {n : Int} : keyOkR (.int k) (.int k' n) = true := rfl
@[go_sem] theorem keyOkR_bool {b : Bool} : keyOkR .bool (.bool b) = true := rfl
@[go_sem] theorem keyOkR_str {s : ByteArray} : keyOkR .str (.str s) = true := rfl
def lkV (ok : Bool) (o : Option AV) (z : AV) : AV := bif ok then .tup [o.getD z, .bool o.isSome] else o.getD z
def lkS (P : Program) (kt et : Nat) (k : AV) (ok : Bool) (o : Option (Option AV)) : OpR :=
  match o with
  | some o => ⟨keyOk P kt k = true ∧ zeroHas P et = true, lkV ok o (zeroAV P et)⟩
  | none => .no
def lkR (P : Program) (kt et : Nat) (k : AV) (ok : Bool) (R : Option Root) : OpR :=
  match R with
  | some (.mp kv) => lkS P kt et k ok (kvFind kv k)
  | _ => .no
def lkT (P : Program) (st : List Root) (ty : Ty) (x k : AV) (ok : Bool) : OpR :=
  match ty, x with
  | .mp kt et, .map r => lkR P kt et k ok (st[r]?)
  | _, _ => .no
@[go_sem] theorem vLookup_eq {P : Program} {st : List Root} {t : Nat} {x k : AV} {ok : Bool} : vLookup P st t x k ok = lkT P st (tyOf P t) x k ok := by
  unfold vLookup lkT lkR lkS lkV zeroHas
  cases tyOf P t <;> cases x <;> try rfl
  all_goals
    rename_i r
    simp only
    split
    · rename_i kv h
      cases kvFind kv k <;> rfl
    · rfl
@[go_sem] theorem lkT_mp {P : Program} {st : List Root} {kt et r : Nat} {k : AV} {ok : Bool} : lkT P st (.mp kt et) (.map r) k ok = lkR P kt et k ok (st[r]?) := rfl
@[go_sem] theorem lkR_mp {P : Program} {kt et : Nat} {k : AV} {ok : Bool} {kv : List (AV × AV)} : lkR P kt et k ok (some (.mp kv)) = lkS P kt et k ok (kvFind kv k) := rfl
@[go_sem] theorem lkS_some {P : Program} {kt et : Nat} {k : AV} {ok : Bool} {o : Option AV} : lkS P kt et k ok (some o) = ⟨keyOk P kt k = true ∧ zeroHas P et = true, lkV ok o (zeroAV P et)⟩ := rfl
@[go_sem] theorem lkV_set {c : Prop} [Decidable c] : lkV false (if c then some (.bool true) else none) (.bool false) = .bool (decide c) := by
  by_cases h : c <;> simp [lkV, h]
@[go_sem] theorem lkV_setk {c : Prop} [Decidable c] : lkV true (if c then some (.bool true) else none) (.bool false) = .tup [.bool (decide c), .bool (decide c)] := by
  by_cases h : c <;> simp [lkV, h]
@[go_sem] theorem kvs_empty : kvs [] = [] := rfl
/-! ### Contracts for data of any types -/
@[go_sem] theorem cs_list {α : Type} {E : En α} {τ : Nat} {l : List α} : E.list.cs τ l = [.sl τ E.w (l.map (E.av τ))] := rfl
@[go_sem] theorem en_int_fun {k : IntKind} {τ : Nat} : (En.int k).av τ = AV.int k := rfl
@[go_sem] theorem en_bool_fun {τ : Nat} : En.bool.av τ = AV.bool := rfl
@[go_sem] theorem en_str_fun {τ : Nat} : En.str.av τ = AV.str := rfl
section
variable {α β γ δ ε ζ : Type} {P : Program} {f : FuncId}
theorem cons_inj {x y : AV} {l m : List AV} (h : x :: l = y :: m) : x = y ∧ l = m := by cases h; exact ⟨rfl, rfl⟩
noncomputable def sem1 (E : En α) (pre : α → Prop) (res : Nat → α → AV) : Fsem := semOf (fun i : Nat × α => [E.av i.1 i.2]) (fun i => pre i.2) (fun n i => res n i.2)
theorem sem1_pure {E : En α} {pre : α → Prop} {res : Nat → α → AV} (h : ∀ τ x n, 2 ≤ n → pre x → SatM P n f [] [E.av τ x] [] (res n x)) : Pure P f (sem1 E pre res) := semOf_pure fun ⟨τ, x⟩ n h2 hp => h τ x n h2 hp
theorem sem1_eq {E : En α} {pre : α → Prop} {res : Nat → α → AV} {n τ : Nat} {x : α} : sem1 E pre res n [E.av τ x] = ⟨pre x, res n x⟩ :=
  semOf_eq (τ, x) rfl fun ⟨τ', x'⟩ h => by
    obtain ⟨h1, _⟩ := cons_inj h
    have := E.inj h1
    subst this
    exact ⟨Iff.rfl, rfl⟩
noncomputable def sem2 (E : En α) (F : En β) (pre : α → β → Prop) (res : Nat → α → β → AV) : Fsem := semOf (fun i : (Nat × Nat) × α × β => [E.av i.1.1 i.2.1, F.av i.1.2 i.2.2]) (fun i => pre i.2.1 i.2.2) (fun n i => res n i.2.1 i.2.2)
theorem sem2_pure {E : En α} {F : En β} {pre : α → β → Prop} {res : Nat → α → β → AV} (h : ∀ τ τ' x y n, 2 ≤ n → pre x y → SatM P n f [] [E.av τ x, F.av τ' y] [] (res n x y)) : Pure P f (sem2 E F pre res) := semOf_pure fun ⟨⟨τ, τ'⟩, x, y⟩ n h2 hp => h τ τ' x y n h2 hp
theorem sem2_eq {E : En α} {F : En β} {pre : α → β → Prop} {res : Nat → α → β → AV} {n τ τ' : Nat} {x : α} {y : β} : sem2 E F pre res n [E.av τ x, F.av τ' y] = ⟨pre x y, res n x y⟩ :=
  semOf_eq ((τ, τ'), x, y) rfl fun ⟨⟨t, t'⟩, x', y'⟩ h => by
    obtain ⟨h1, h⟩ := cons_inj h
    obtain ⟨h2, _⟩ := cons_inj h
    have := E.inj h1
    have := F.inj h2
    subst_vars
    exact ⟨Iff.rfl, rfl⟩
noncomputable def sem3 (E : En α) (F : En β) (G : En γ) (pre : α → β → γ → Prop) (res : Nat → α → β → γ → AV) : Fsem := semOf (fun i : (Nat × Nat × Nat) × α × β × γ => [E.av i.1.1 i.2.1, F.av i.1.2.1 i.2.2.1, G.av i.1.2.2 i.2.2.2]) (fun i => pre i.2.1 i.2.2.1 i.2.2.2) (fun n i => res n i.2.1 i.2.2.1 i.2.2.2)
theorem sem3_pure {E : En α} {F : En β} {G : En γ} {pre : α → β → γ → Prop} {res : Nat → α → β → γ → AV} (h : ∀ τ τ' τ'' x y z n, 2 ≤ n → pre x y z → SatM P n f [] [E.av τ x, F.av τ' y, G.av τ'' z] [] (res n x y z)) : Pure P f (sem3 E F G pre res) := semOf_pure fun ⟨⟨τ, τ', τ''⟩, x, y, z⟩ n h2 hp => h τ τ' τ'' x y z n h2 hp
theorem sem3_eq {E : En α} {F : En β} {G : En γ} {pre : α → β → γ → Prop} {res : Nat → α → β → γ → AV} {n τ τ' τ'' : Nat} {x : α} {y : β} {z : γ} : sem3 E F G pre res n [E.av τ x, F.av τ' y, G.av τ'' z] = ⟨pre x y z, res n x y z⟩ :=
  semOf_eq ((τ, τ', τ''), x, y, z) rfl fun ⟨⟨t, t', t''⟩, x', y', z'⟩ h => by
    obtain ⟨h1, h⟩ := cons_inj h
    obtain ⟨h2, h⟩ := cons_inj h
    obtain ⟨h3, _⟩ := cons_inj h
    have := E.inj h1
    have := F.inj h2
    have := G.inj h3
    subst_vars
    exact ⟨Iff.rfl, rfl⟩
noncomputable def sem4 (E : En α) (F : En β) (G : En γ) (H : En δ) (pre : α → β → γ → δ → Prop) (res : Nat → α → β → γ → δ → AV) : Fsem := semOf (fun i : (Nat × Nat × Nat × Nat) × α × β × γ × δ => [E.av i.1.1 i.2.1, F.av i.1.2.1 i.2.2.1, G.av i.1.2.2.1 i.2.2.2.1, H.av i.1.2.2.2 i.2.2.2.2]) (fun i => pre i.2.1 i.2.2.1 i.2.2.2.1 i.2.2.2.2) (fun n i => res n i.2.1 i.2.2.1 i.2.2.2.1 i.2.2.2.2)
theorem sem4_pure {E : En α} {F : En β} {G : En γ} {H : En δ} {pre : α → β → γ → δ → Prop} {res : Nat → α → β → γ → δ → AV} (h : ∀ τ τ' τ'' τ3 x y z u n, 2 ≤ n → pre x y z u → SatM P n f [] [E.av τ x, F.av τ' y, G.av τ'' z, H.av τ3 u] [] (res n x y z u)) : Pure P f (sem4 E F G H pre res) := semOf_pure fun ⟨⟨τ, τ', τ'', τ3⟩, x, y, z, u⟩ n h2 hp => h τ τ' τ'' τ3 x y z u n h2 hp
theorem sem4_eq {E : En α} {F : En β} {G : En γ} {H : En δ} {pre : α → β → γ → δ → Prop} {res : Nat → α → β → γ → δ → AV} {n τ τ' τ'' τ3 : Nat} {x : α} {y : β} {z : γ} {u : δ} : sem4 E F G H pre res n [E.av τ x, F.av τ' y, G.av τ'' z, H.av τ3 u] = ⟨pre x y z u, res n x y z u⟩ :=
  semOf_eq ((τ, τ', τ'', τ3), x, y, z, u) rfl fun ⟨⟨t, t', t'', t3⟩, x', y', z', u'⟩ h => by
    obtain ⟨h1, h⟩ := cons_inj h
    obtain ⟨h2, h⟩ := cons_inj h
    obtain ⟨h3, h⟩ := cons_inj h
    obtain ⟨h4, _⟩ := cons_inj h
    have := E.inj h1
    have := F.inj h2
    have := G.inj h3
    have := H.inj h4
    subst_vars
    exact ⟨Iff.rfl, rfl⟩
noncomputable def sem5 (E : En α) (F : En β) (G : En γ) (H : En δ) (J : En ε) (pre : α → β → γ → δ → ε → Prop) (res : Nat → α → β → γ → δ → ε → AV) : Fsem := semOf (fun i : (Nat × Nat × Nat × Nat × Nat) × α × β × γ × δ × ε => [E.av i.1.1 i.2.1, F.av i.1.2.1 i.2.2.1, G.av i.1.2.2.1 i.2.2.2.1, H.av i.1.2.2.2.1 i.2.2.2.2.1, J.av i.1.2.2.2.2 i.2.2.2.2.2]) (fun i => pre i.2.1 i.2.2.1 i.2.2.2.1 i.2.2.2.2.1 i.2.2.2.2.2) (fun n i => res n i.2.1 i.2.2.1 i.2.2.2.1 i.2.2.2.2.1 i.2.2.2.2.2)
theorem sem5_pure {E : En α} {F : En β} {G : En γ} {H : En δ} {J : En ε} {pre : α → β → γ → δ → ε → Prop} {res : Nat → α → β → γ → δ → ε → AV} (h : ∀ τ τ' τ'' τ3 τ4 x y z u v n, 2 ≤ n → pre x y z u v → SatM P n f [] [E.av τ x, F.av τ' y, G.av τ'' z, H.av τ3 u, J.av τ4 v] [] (res n x y z u v)) : Pure P f (sem5 E F G H J pre res) := semOf_pure fun ⟨⟨τ, τ', τ'', τ3, τ4⟩, x, y, z, u, v⟩ n h2 hp => h τ τ' τ'' τ3 τ4 x y z u v n h2 hp
theorem sem5_eq {E : En α} {F : En β} {G : En γ} {H : En δ} {J : En ε} {pre : α → β → γ → δ → ε → Prop} {res : Nat → α → β → γ → δ → ε → AV} {n τ τ' τ'' τ3 τ4 : Nat} {x : α} {y : β} {z : γ} {u : δ} {v : ε} : sem5 E F G H J pre res n [E.av τ x, F.av τ' y, G.av τ'' z, H.av τ3 u, J.av τ4 v] = ⟨pre x y z u v, res n x y z u v⟩ :=
  semOf_eq ((τ, τ', τ'', τ3, τ4), x, y, z, u, v) rfl fun ⟨⟨t, t', t'', t3, t4⟩, x', y', z', u', v'⟩ h => by
    obtain ⟨h1, h⟩ := cons_inj h
    obtain ⟨h2, h⟩ := cons_inj h
    obtain ⟨h3, h⟩ := cons_inj h
    obtain ⟨h4, h⟩ := cons_inj h
    obtain ⟨h5, _⟩ := cons_inj h
    have := E.inj h1
    have := F.inj h2
    have := G.inj h3
    have := H.inj h4
    have := J.inj h5
    subst_vars
    exact ⟨Iff.rfl, rfl⟩
noncomputable def sem6 (E : En α) (F : En β) (G : En γ) (H : En δ) (J : En ε) (K : En ζ) (pre : α → β → γ → δ → ε → ζ → Prop) (res : Nat → α → β → γ → δ → ε → ζ → AV) : Fsem := semOf (fun i : (Nat × Nat × Nat × Nat × Nat × Nat) × α × β × γ × δ × ε × ζ => [E.av i.1.1 i.2.1, F.av i.1.2.1 i.2.2.1, G.av i.1.2.2.1 i.2.2.2.1, H.av i.1.2.2.2.1 i.2.2.2.2.1, J.av i.1.2.2.2.2.1 i.2.2.2.2.2.1, K.av i.1.2.2.2.2.2 i.2.2.2.2.2.2]) (fun i => pre i.2.1 i.2.2.1 i.2.2.2.1 i.2.2.2.2.1 i.2.2.2.2.2.1 i.2.2.2.2.2.2) (fun n i => res n i.2.1 i.2.2.1 i.2.2.2.1 i.2.2.2.2.1 i.2.2.2.2.2.1 i.2.2.2.2.2.2)
theorem sem6_pure {E : En α} {F : En β} {G : En γ} {H : En δ} {J : En ε} {K : En ζ} {pre : α → β → γ → δ → ε → ζ → Prop} {res : Nat → α → β → γ → δ → ε → ζ → AV} (h : ∀ τ τ' τ'' τ3 τ4 τ5 x y z u v w n, 2 ≤ n → pre x y z u v w → SatM P n f [] [E.av τ x, F.av τ' y, G.av τ'' z, H.av τ3 u, J.av τ4 v, K.av τ5 w] [] (res n x y z u v w)) : Pure P f (sem6 E F G H J K pre res) := semOf_pure fun ⟨⟨τ, τ', τ'', τ3, τ4, τ5⟩, x, y, z, u, v, w⟩ n h2 hp => h τ τ' τ'' τ3 τ4 τ5 x y z u v w n h2 hp
theorem sem6_eq {E : En α} {F : En β} {G : En γ} {H : En δ} {J : En ε} {K : En ζ} {pre : α → β → γ → δ → ε → ζ → Prop} {res : Nat → α → β → γ → δ → ε → ζ → AV} {n τ τ' τ'' τ3 τ4 τ5 : Nat} {x : α} {y : β} {z : γ} {u : δ} {v : ε} {w : ζ} : sem6 E F G H J K pre res n [E.av τ x, F.av τ' y, G.av τ'' z, H.av τ3 u, J.av τ4 v, K.av τ5 w] = ⟨pre x y z u v w, res n x y z u v w⟩ :=
  semOf_eq ((τ, τ', τ'', τ3, τ4, τ5), x, y, z, u, v, w) rfl fun ⟨⟨t, t', t'', t3, t4, t5⟩, x', y', z', u', v', w'⟩ h => by
    obtain ⟨h1, h⟩ := cons_inj h
    obtain ⟨h2, h⟩ := cons_inj h
    obtain ⟨h3, h⟩ := cons_inj h
    obtain ⟨h4, h⟩ := cons_inj h
    obtain ⟨h5, h⟩ := cons_inj h
    obtain ⟨h6, _⟩ := cons_inj h
    have := E.inj h1
    have := F.inj h2
    have := G.inj h3
    have := H.inj h4
    have := J.inj h5
    have := K.inj h6
    subst_vars
    exact ⟨Iff.rfl, rfl⟩
/-- The region of the first argument is seen in it. -/
def Seen {α : Type} (E : En α) : Prop := ∀ τ τ' x y, E.av τ x = E.av τ' y → τ = τ'

noncomputable def semT1 (E : En α) (pre : Nat → α → Prop) (res : Nat → Nat → α → AV) : Fsem := semOf (fun i : (Nat) × α => [E.av i.1 i.2]) (fun i => pre i.1 i.2) (fun n i => res n i.1 i.2)
theorem semT1_pure {E : En α} {pre : Nat → α → Prop} {res : Nat → Nat → α → AV} (h : ∀ τ x n, 2 ≤ n → pre τ x → SatM P n f [] [E.av τ x] [] (res n τ x)) : Pure P f (semT1 E pre res) := semOf_pure fun ⟨τ, x⟩ n h2 hp => h τ x n h2 hp
theorem semT1_eq {E : En α} {pre : Nat → α → Prop} {res : Nat → Nat → α → AV} {n τ : Nat} {x : α} (hv : Seen E) : semT1 E pre res n [E.av τ x] = ⟨pre τ x, res n τ x⟩ :=
  semOf_eq (τ, x) rfl fun ⟨t0, x0⟩ h => by
    obtain ⟨h1, _⟩ := cons_inj h
    have := hv _ _ _ _ h1
    have := E.inj h1
    subst_vars
    exact ⟨Iff.rfl, rfl⟩
noncomputable def semT2 (E : En α) (F : En β) (pre : Nat → α → β → Prop) (res : Nat → Nat → α → β → AV) : Fsem := semOf (fun i : (Nat × Nat) × α × β => [E.av i.1.1 i.2.1, F.av i.1.2 i.2.2]) (fun i => pre i.1.1 i.2.1 i.2.2) (fun n i => res n i.1.1 i.2.1 i.2.2)
theorem semT2_pure {E : En α} {F : En β} {pre : Nat → α → β → Prop} {res : Nat → Nat → α → β → AV} (h : ∀ τ τ' x y n, 2 ≤ n → pre τ x y → SatM P n f [] [E.av τ x, F.av τ' y] [] (res n τ x y)) : Pure P f (semT2 E F pre res) := semOf_pure fun ⟨⟨τ, τ'⟩, x, y⟩ n h2 hp => h τ τ' x y n h2 hp
theorem semT2_eq {E : En α} {F : En β} {pre : Nat → α → β → Prop} {res : Nat → Nat → α → β → AV} {n τ τ' : Nat} {x : α} {y : β} (hv : Seen E) : semT2 E F pre res n [E.av τ x, F.av τ' y] = ⟨pre τ x y, res n τ x y⟩ :=
  semOf_eq ((τ, τ'), x, y) rfl fun ⟨⟨t0, t1⟩, x0, x1⟩ h => by
    obtain ⟨h1, h⟩ := cons_inj h
    obtain ⟨h2, _⟩ := cons_inj h
    have := hv _ _ _ _ h1
    have := E.inj h1
    have := F.inj h2
    subst_vars
    exact ⟨Iff.rfl, rfl⟩
noncomputable def semT3 (E : En α) (F : En β) (G : En γ) (pre : Nat → α → β → γ → Prop) (res : Nat → Nat → α → β → γ → AV) : Fsem := semOf (fun i : (Nat × Nat × Nat) × α × β × γ => [E.av i.1.1 i.2.1, F.av i.1.2.1 i.2.2.1, G.av i.1.2.2 i.2.2.2]) (fun i => pre i.1.1 i.2.1 i.2.2.1 i.2.2.2) (fun n i => res n i.1.1 i.2.1 i.2.2.1 i.2.2.2)
theorem semT3_pure {E : En α} {F : En β} {G : En γ} {pre : Nat → α → β → γ → Prop} {res : Nat → Nat → α → β → γ → AV} (h : ∀ τ τ' τ'' x y z n, 2 ≤ n → pre τ x y z → SatM P n f [] [E.av τ x, F.av τ' y, G.av τ'' z] [] (res n τ x y z)) : Pure P f (semT3 E F G pre res) := semOf_pure fun ⟨⟨τ, τ', τ''⟩, x, y, z⟩ n h2 hp => h τ τ' τ'' x y z n h2 hp
theorem semT3_eq {E : En α} {F : En β} {G : En γ} {pre : Nat → α → β → γ → Prop} {res : Nat → Nat → α → β → γ → AV} {n τ τ' τ'' : Nat} {x : α} {y : β} {z : γ} (hv : Seen E) : semT3 E F G pre res n [E.av τ x, F.av τ' y, G.av τ'' z] = ⟨pre τ x y z, res n τ x y z⟩ :=
  semOf_eq ((τ, τ', τ''), x, y, z) rfl fun ⟨⟨t0, t1, t2⟩, x0, x1, x2⟩ h => by
    obtain ⟨h1, h⟩ := cons_inj h
    obtain ⟨h2, h⟩ := cons_inj h
    obtain ⟨h3, _⟩ := cons_inj h
    have := hv _ _ _ _ h1
    have := E.inj h1
    have := F.inj h2
    have := G.inj h3
    subst_vars
    exact ⟨Iff.rfl, rfl⟩
noncomputable def semT4 (E : En α) (F : En β) (G : En γ) (H : En δ) (pre : Nat → α → β → γ → δ → Prop) (res : Nat → Nat → α → β → γ → δ → AV) : Fsem := semOf (fun i : (Nat × Nat × Nat × Nat) × α × β × γ × δ => [E.av i.1.1 i.2.1, F.av i.1.2.1 i.2.2.1, G.av i.1.2.2.1 i.2.2.2.1, H.av i.1.2.2.2 i.2.2.2.2]) (fun i => pre i.1.1 i.2.1 i.2.2.1 i.2.2.2.1 i.2.2.2.2) (fun n i => res n i.1.1 i.2.1 i.2.2.1 i.2.2.2.1 i.2.2.2.2)
theorem semT4_pure {E : En α} {F : En β} {G : En γ} {H : En δ} {pre : Nat → α → β → γ → δ → Prop} {res : Nat → Nat → α → β → γ → δ → AV} (h : ∀ τ τ' τ'' τ3 x y z u n, 2 ≤ n → pre τ x y z u → SatM P n f [] [E.av τ x, F.av τ' y, G.av τ'' z, H.av τ3 u] [] (res n τ x y z u)) : Pure P f (semT4 E F G H pre res) := semOf_pure fun ⟨⟨τ, τ', τ'', τ3⟩, x, y, z, u⟩ n h2 hp => h τ τ' τ'' τ3 x y z u n h2 hp
theorem semT4_eq {E : En α} {F : En β} {G : En γ} {H : En δ} {pre : Nat → α → β → γ → δ → Prop} {res : Nat → Nat → α → β → γ → δ → AV} {n τ τ' τ'' τ3 : Nat} {x : α} {y : β} {z : γ} {u : δ} (hv : Seen E) : semT4 E F G H pre res n [E.av τ x, F.av τ' y, G.av τ'' z, H.av τ3 u] = ⟨pre τ x y z u, res n τ x y z u⟩ :=
  semOf_eq ((τ, τ', τ'', τ3), x, y, z, u) rfl fun ⟨⟨t0, t1, t2, t3⟩, x0, x1, x2, x3⟩ h => by
    obtain ⟨h1, h⟩ := cons_inj h
    obtain ⟨h2, h⟩ := cons_inj h
    obtain ⟨h3, h⟩ := cons_inj h
    obtain ⟨h4, _⟩ := cons_inj h
    have := hv _ _ _ _ h1
    have := E.inj h1
    have := F.inj h2
    have := G.inj h3
    have := H.inj h4
    subst_vars
    exact ⟨Iff.rfl, rfl⟩
noncomputable def semT5 (E : En α) (F : En β) (G : En γ) (H : En δ) (J : En ε) (pre : Nat → α → β → γ → δ → ε → Prop) (res : Nat → Nat → α → β → γ → δ → ε → AV) : Fsem := semOf (fun i : (Nat × Nat × Nat × Nat × Nat) × α × β × γ × δ × ε => [E.av i.1.1 i.2.1, F.av i.1.2.1 i.2.2.1, G.av i.1.2.2.1 i.2.2.2.1, H.av i.1.2.2.2.1 i.2.2.2.2.1, J.av i.1.2.2.2.2 i.2.2.2.2.2]) (fun i => pre i.1.1 i.2.1 i.2.2.1 i.2.2.2.1 i.2.2.2.2.1 i.2.2.2.2.2) (fun n i => res n i.1.1 i.2.1 i.2.2.1 i.2.2.2.1 i.2.2.2.2.1 i.2.2.2.2.2)
theorem semT5_pure {E : En α} {F : En β} {G : En γ} {H : En δ} {J : En ε} {pre : Nat → α → β → γ → δ → ε → Prop} {res : Nat → Nat → α → β → γ → δ → ε → AV} (h : ∀ τ τ' τ'' τ3 τ4 x y z u v n, 2 ≤ n → pre τ x y z u v → SatM P n f [] [E.av τ x, F.av τ' y, G.av τ'' z, H.av τ3 u, J.av τ4 v] [] (res n τ x y z u v)) : Pure P f (semT5 E F G H J pre res) := semOf_pure fun ⟨⟨τ, τ', τ'', τ3, τ4⟩, x, y, z, u, v⟩ n h2 hp => h τ τ' τ'' τ3 τ4 x y z u v n h2 hp
theorem semT5_eq {E : En α} {F : En β} {G : En γ} {H : En δ} {J : En ε} {pre : Nat → α → β → γ → δ → ε → Prop} {res : Nat → Nat → α → β → γ → δ → ε → AV} {n τ τ' τ'' τ3 τ4 : Nat} {x : α} {y : β} {z : γ} {u : δ} {v : ε} (hv : Seen E) : semT5 E F G H J pre res n [E.av τ x, F.av τ' y, G.av τ'' z, H.av τ3 u, J.av τ4 v] = ⟨pre τ x y z u v, res n τ x y z u v⟩ :=
  semOf_eq ((τ, τ', τ'', τ3, τ4), x, y, z, u, v) rfl fun ⟨⟨t0, t1, t2, t3, t4⟩, x0, x1, x2, x3, x4⟩ h => by
    obtain ⟨h1, h⟩ := cons_inj h
    obtain ⟨h2, h⟩ := cons_inj h
    obtain ⟨h3, h⟩ := cons_inj h
    obtain ⟨h4, h⟩ := cons_inj h
    obtain ⟨h5, _⟩ := cons_inj h
    have := hv _ _ _ _ h1
    have := E.inj h1
    have := F.inj h2
    have := G.inj h3
    have := H.inj h4
    have := J.inj h5
    subst_vars
    exact ⟨Iff.rfl, rfl⟩
noncomputable def semT6 (E : En α) (F : En β) (G : En γ) (H : En δ) (J : En ε) (K : En ζ) (pre : Nat → α → β → γ → δ → ε → ζ → Prop) (res : Nat → Nat → α → β → γ → δ → ε → ζ → AV) : Fsem := semOf (fun i : (Nat × Nat × Nat × Nat × Nat × Nat) × α × β × γ × δ × ε × ζ => [E.av i.1.1 i.2.1, F.av i.1.2.1 i.2.2.1, G.av i.1.2.2.1 i.2.2.2.1, H.av i.1.2.2.2.1 i.2.2.2.2.1, J.av i.1.2.2.2.2.1 i.2.2.2.2.2.1, K.av i.1.2.2.2.2.2 i.2.2.2.2.2.2]) (fun i => pre i.1.1 i.2.1 i.2.2.1 i.2.2.2.1 i.2.2.2.2.1 i.2.2.2.2.2.1 i.2.2.2.2.2.2) (fun n i => res n i.1.1 i.2.1 i.2.2.1 i.2.2.2.1 i.2.2.2.2.1 i.2.2.2.2.2.1 i.2.2.2.2.2.2)
theorem semT6_pure {E : En α} {F : En β} {G : En γ} {H : En δ} {J : En ε} {K : En ζ} {pre : Nat → α → β → γ → δ → ε → ζ → Prop} {res : Nat → Nat → α → β → γ → δ → ε → ζ → AV} (h : ∀ τ τ' τ'' τ3 τ4 τ5 x y z u v w n, 2 ≤ n → pre τ x y z u v w → SatM P n f [] [E.av τ x, F.av τ' y, G.av τ'' z, H.av τ3 u, J.av τ4 v, K.av τ5 w] [] (res n τ x y z u v w)) : Pure P f (semT6 E F G H J K pre res) := semOf_pure fun ⟨⟨τ, τ', τ'', τ3, τ4, τ5⟩, x, y, z, u, v, w⟩ n h2 hp => h τ τ' τ'' τ3 τ4 τ5 x y z u v w n h2 hp
theorem semT6_eq {E : En α} {F : En β} {G : En γ} {H : En δ} {J : En ε} {K : En ζ} {pre : Nat → α → β → γ → δ → ε → ζ → Prop} {res : Nat → Nat → α → β → γ → δ → ε → ζ → AV} {n τ τ' τ'' τ3 τ4 τ5 : Nat} {x : α} {y : β} {z : γ} {u : δ} {v : ε} {w : ζ} (hv : Seen E) : semT6 E F G H J K pre res n [E.av τ x, F.av τ' y, G.av τ'' z, H.av τ3 u, J.av τ4 v, K.av τ5 w] = ⟨pre τ x y z u v w, res n τ x y z u v w⟩ :=
  semOf_eq ((τ, τ', τ'', τ3, τ4, τ5), x, y, z, u, v, w) rfl fun ⟨⟨t0, t1, t2, t3, t4, t5⟩, x0, x1, x2, x3, x4, x5⟩ h => by
    obtain ⟨h1, h⟩ := cons_inj h
    obtain ⟨h2, h⟩ := cons_inj h
    obtain ⟨h3, h⟩ := cons_inj h
    obtain ⟨h4, h⟩ := cons_inj h
    obtain ⟨h5, h⟩ := cons_inj h
    obtain ⟨h6, _⟩ := cons_inj h
    have := hv _ _ _ _ h1
    have := E.inj h1
    have := F.inj h2
    have := G.inj h3
    have := H.inj h4
    have := J.inj h5
    have := K.inj h6
    subst_vars
    exact ⟨Iff.rfl, rfl⟩
end
end Go.Ve
