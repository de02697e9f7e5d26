/- Contracts of the seat: tables of places. No condition. -/
import Derived.Test.YtidfijaobkaalaaV8
namespace Go.Ve
open Go.Proofs Go.RowKit
set_option linter.unusedVariables false
set_option linter.unusedSimpArgs false
set_option maxRecDepth 10000
set_option maxHeartbeats 4000000
def rowOk (h r : List Int) : Bool := decide (r.length = h.length) && decide (r.length ≤ 7) && r.all fun x => btw x (-1) 15
def hdL : List (List Int) → List Int
  | [] => []
  | r :: _ => r
def tblOk (p : List (List Int)) : Bool := decide ((p.length : Int) ≤ 16) && p.all (rowOk (hdL p))
theorem any_not_all {α : Type} {f : α → Bool} {l : List α} : l.any (fun x => !f x) = !l.all f := by
  induction l with
  | nil => rfl
  | cons x l ih => simp [ih]
def cnt (id : Int) : List Int → Int
  | [] => 0
  | x :: l => (if x = id then 1 else 0) + cnt id l
theorem cnt_append {id : Int} : ∀ {a b : List Int}, cnt id (a ++ b) = cnt id a + cnt id b
  | [], b => by simp [cnt]
  | x :: a, b => by simp only [List.cons_append, cnt, cnt_append (a := a) (b := b)]; omega
theorem cnt_le {id : Int} : ∀ {l : List Int}, 0 ≤ cnt id l ∧ cnt id l ≤ l.length
  | [] => by simp [cnt]
  | x :: l => by
    have := cnt_le (id := id) (l := l)
    simp only [cnt, List.length_cons]
    split <;> omega
theorem tbl_rows {p : List (List Int)} (h : tblOk p = true) : p.length ≤ 16 ∧ ∀ r ∈ p, r.length ≤ 7 := by
  simp only [tblOk, rowOk, Bool.and_eq_true, decide_eq_true_eq, List.all_eq_true] at h
  exact ⟨by omega, fun r hr => (h.2 r hr).1.2⟩
def flatL : List (List Int) → List Int
  | [] => []
  | x :: p => x ++ flatL p
theorem flatL_append : ∀ {a b : List (List Int)}, flatL (a ++ b) = flatL a ++ flatL b
  | [], b => rfl
  | x :: a, b => by simp only [List.cons_append, flatL, flatL_append (a := a) (b := b), List.append_assoc]
theorem flatL_one {a : List (List Int)} {x : List Int} : flatL (a ++ [x]) = flatL a ++ x := by simp [flatL_append, flatL]
theorem tbl_flat {p : List (List Int)} (h : p.length ≤ 16 ∧ ∀ r ∈ p, r.length ≤ 7) : (flatL p).length ≤ 7 * p.length := by
  have h2 := h.2
  clear h
  induction p with
  | nil => simp [flatL]
  | cons r p ih =>
    have := ih fun x hx => h2 x (by simp [hx])
    have h1 := h2 r (by simp)
    simp only [flatL, List.length_append, List.length_cons]
    omega
section
variable {P : Program} {α : Type} {E : En α} {f : FuncId} {fn : Func} {nt n : Nat}
theorem indexFunc_okC {t e fid : Nat} {caps : List AV} {gf : Fsem} {p : α → Bool} {ok : Prop} (hm : P.follows .mixedOrders = true) (hf : P.funcs[f]? = some fn) (hsl : slimF fn = some (idxC t e, [.t 4], nt)) (ho : okF [(fid, gf)] fn = true) (hnt : 2 ≤ nt)
    (ht : tyOf P t = .sl e) (hE : FitE P e E) (hfe : Pure P fid gf) (hc : ∀ c ∈ caps, c.isD = true) (hs0 : ∀ n τ x, gf n (E.av τ x :: caps) = ⟨ok, .bool (p x)⟩) (h2 : 2 ≤ n) {τ : Nat} {l : List α} (hok : l ≠ [] → ok) :
    SatM P n f [] [.sl τ E.w (l.map (E.av τ)), .fn fid caps] [] (.int .i64 (idx p l)) := by
  have hT : Table P [(fid, gf)] := .cons hfe .nil
  refine SatP.of_body hT hm hf hsl ho h2 (by simpa using hnt) ?_
  obtain ⟨hE0, hE1, hE2⟩ := hE
  simp (config := {contextual := true}) only [idxC, go_sem, ht, ↓reduceIte, Nat.reduceEqDiff, Nat.reduceAdd, true_and, and_true, List.length_map]
  intro hL
  refine VW_listK hT h2 hm l [0, 1, 7] (fun pre post (_ : Unit) => [(8, .int .i64 pre.length)]) (fun pre post _ => idxF p post pre.length = idx p l) () rfl ?_ ?_ ?_
  · simp [SubI, go_sem]
  · intro b hR
    have hR' : -1 = idx p l := hR
    simp [go_sem, ← hR']
  · rintro pre x post b rfl hlen hR
    have hok' : ok := hok (by simp)
    have hs : ∀ n τ x, gf n (E.av τ x :: caps) = ⟨True, .bool (p x)⟩ := fun n τ x => by rw [hs0, eq_true hok']
    have hw : IntKind.i64.wrap ((pre.length : Int) + 1) = (pre.length : Int) + 1 := wrap_next hL (by simp)
    have h3 : (0 : Int) ≤ pre.length := by omega
    have h4 : (pre.length : Int) < (pre.length : Int) + ((post.length : Int) + 1) := by omega
    have h5 : ¬ (pre.length : Int) + ((post.length : Int) + 1) ≤ (pre.length : Int) := by omega
    unfold idxF at hR
    cases hp : p x
    · rw [hp] at hR
      simp at hR
      simp (config := {contextual := true}) [go_sem, ht, hE0, hE1, hE2, hs, hp, hw, h3, h4, h5, E.cells, cv_caps hc, cv_capsT hc, SubI, hR]
    · rw [hp] at hR
      simp at hR
      simp (config := {contextual := true}) [go_sem, ht, hE0, hE1, hE2, hs, hp, hw, h3, h4, h5, E.cells, cv_caps hc, cv_capsT hc, SubI, ← hR]
end

/- impl.allBetween$1 -/
def c132 : SCode := (.seq (.reg [⟨(some 4), .assign (.const (.bool false)), none⟩])
(.seq (.reg [⟨(some 5), .move (.tmp 0), none⟩,
    ⟨(some 6), .load 2 (.tmp 1), none⟩,
    ⟨(some 7), .load 2 (.tmp 2), none⟩,
    ⟨(some 8), .call ⟨(.value (.func 40)), #[(.tmp 5), (.tmp 6), (.tmp 7)], #[2, 2, 2]⟩, none⟩,
    ⟨(some 9), .unOp .not 4 (.tmp 8), none⟩,
    ⟨(some 4), .assign (.tmp 9), none⟩])
 .ret))
theorem s132 : slimF Try.f132 = some (c132, [.t 4], 10) := by kernel_rfl
theorem o132 : okF [(40, g40)] Try.f132 = true := by kernel_rfl
noncomputable def g132 : Fsem := semOf (fun i : Int × Nat × Int × Nat × Int => [.int .i64 i.1, .dptr i.2.1 [.int .i64 i.2.2.1], .dptr i.2.2.2.1 [.int .i64 i.2.2.2.2]]) (fun _ => True) (fun _ i => .bool (!btw i.1 i.2.2.1 i.2.2.2.2))
@[go_sem] theorem g132_eq {n τ τ' : Nat} {x lo hi : Int} : g132 n [.int .i64 x, .dptr τ [.int .i64 lo], .dptr τ' [.int .i64 hi]] = ⟨True, .bool (!btw x lo hi)⟩ :=
  semOf_eq (x, τ, lo, τ', hi) rfl fun ⟨_, _, _, _, _⟩ h => by
    simp at h
    simp [h]
theorem p132 : Pure Try.prog 132 g132 := by
  refine semOf_pure fun ⟨x, τ, lo, τ', hi⟩ n h2 _ => ?_
  have hT : Table Try.prog [(40, g40)] := (.cons p40 .nil)
  refine SatP.of_body hT hm Try.func132 s132 o132 h2 (by simp) ?_
  simp (config := {contextual := true, implicitDefEqProofs := false}) [c132, go_sem]
theorem o126_132 : okF [(132, g132)] Try.f126 = true := by kernel_rfl
noncomputable def g126_132 : Fsem := idxSem (ι := Nat × Int × Nat × Int) (En.int .i64) 132 (fun i => [.dptr i.1 [.int .i64 i.2.1], .dptr i.2.2.1 [.int .i64 i.2.2.2]]) (fun i x => !btw x i.2.1 i.2.2.2)
theorem g126_132_eq {n τ τ' τ'' : Nat} {l : List Int} {lo hi : Int} : g126_132 n [.sl τ 1 (l.map (AV.int .i64)), .fn 132 [.dptr τ' [.int .i64 lo], .dptr τ'' [.int .i64 hi]]] = ⟨True, .int .i64 (idx (fun x => !btw x lo hi) l)⟩ :=
  idxSem_eq (E := En.int .i64) (caps := fun i : Nat × Int × Nat × Int => [.dptr i.1 [.int .i64 i.2.1], .dptr i.2.2.1 [.int .i64 i.2.2.2]]) (p := fun i x => !btw x i.2.1 i.2.2.2) (τ', lo, τ'', hi) (fun j h => by
    simp at h
    simp [h])
theorem p126_132 : Pure Try.prog 126 g126_132 := idxSem_pure hm Try.func126 s126 o126_132 (by omega) ty_28 (fite_2) p132 (fun i c hc => by simp at hc; rcases hc with rfl | rfl <;> rfl) (fun i n τ x => by simp [go_sem])
theorem o87_132 : okF [(126, g126_132)] Try.f87 = true := by kernel_rfl
noncomputable def g87_132 : Fsem := cfSem (ι := Nat × Int × Nat × Int) (En.int .i64) 132 (fun i => [.dptr i.1 [.int .i64 i.2.1], .dptr i.2.2.1 [.int .i64 i.2.2.2]]) (fun i x => !btw x i.2.1 i.2.2.2)
@[go_sem] theorem g87_132_eq {n τ τ' τ'' : Nat} {l : List Int} {lo hi : Int} : g87_132 n [.sl τ 1 (l.map (AV.int .i64)), .fn 132 [.dptr τ' [.int .i64 lo], .dptr τ'' [.int .i64 hi]]] = ⟨True, .bool (l.any (fun x => !btw x lo hi))⟩ :=
  cfSem_eq (E := En.int .i64) (caps := fun i : Nat × Int × Nat × Int => [.dptr i.1 [.int .i64 i.2.1], .dptr i.2.2.1 [.int .i64 i.2.2.2]]) (p := fun i x => !btw x i.2.1 i.2.2.2) (τ', lo, τ'', hi) (fun j h => by
    simp at h
    simp [h])
theorem p87_132 : Pure Try.prog 87 g87_132 := cfSem_pure hm Try.func87 s87 o87_132 (by omega) p126_132 (fun i c hc => by simp at hc; rcases hc with rfl | rfl <;> rfl) (fun i n τ l => g126_132_eq)
/- impl.allBetween -/
def c108 : SCode := (.seq (.reg [⟨(some 4), .box 2 (.tmp 1), none⟩,
   ⟨(some 5), .box 2 (.tmp 2), none⟩,
   ⟨(some 6), .assign (.const (.bool false)), none⟩])
(.seq (.reg [⟨(some 7), .move (.tmp 0), none⟩,
    ⟨(some 8), .makeFunc (Fn.func 132) #[] #[(.tmp 4), (.tmp 5)], none⟩,
    ⟨(some 9), .call ⟨(.value (.func 87)), #[(.tmp 7), (.tmp 8)], #[28, 121]⟩, none⟩,
    ⟨(some 10), .unOp .not 4 (.tmp 9), none⟩,
    ⟨(some 6), .assign (.tmp 10), none⟩])
 .ret))
theorem s108 : slimF Try.f108 = some (c108, [.t 6], 11) := by kernel_rfl
theorem o108 : okF [(87, (dsp [(132, g87_132)]))] Try.f108 = true := by kernel_rfl
noncomputable def g108 : Fsem := sem3 (En.int .i64).list (En.int .i64) (En.int .i64) (fun l lo hi => True) (fun n l lo hi => .bool (l.all fun x => btw x lo hi))
@[go_sem] theorem g108_eq {n τ : Nat} {l : List Int} {lo : Int} {hi : Int} : g108 n [.sl τ 1 (l.map (AV.int .i64)), .int .i64 lo, .int .i64 hi] = ⟨True, .bool (l.all fun x => btw x lo hi)⟩ := sem3_eq (τ' := 0) (τ'' := 0) (E := (En.int .i64).list) (F := (En.int .i64)) (G := (En.int .i64))
theorem p108 : Pure Try.prog 108 g108 := by
  refine sem3_pure fun τ τ' τ'' l lo hi n h2 hpre => ?_
  have hT : Table Try.prog [(87, (dsp [(132, g87_132)]))] := (.cons (dsp_pure (by simp only [List.mem_cons, List.not_mem_nil, or_false, forall_eq]; exact p87_132)) .nil)
  have hn0 : n ≠ 0 := by omega
  refine SatP.of_body hT hm Try.func108 s108 o108 h2 (by simp) ?_
  rw [show (l.all fun x => btw x lo hi) = !(l.any fun x => !btw x lo hi) by rw [any_not_all, Bool.not_not]]
  simp (config := {contextual := true, maxSteps := 2000000, implicitDefEqProofs := false}) [c108, go_sem]
/- impl.tableOk$1 -/
def c107 : SCode := (.seq (.reg [⟨(some 3), .assign (.const (.bool false)), none⟩])
(.seq (.reg [⟨(some 4), .move (.tmp 0), none⟩,
    ⟨(some 5), .call ⟨(.builtin .len), #[(.tmp 4)], #[28]⟩, none⟩,
    ⟨(some 6), .load 53 (.tmp 1), none⟩,
    ⟨(some 7), .indexAddr 53 (.tmp 6) (.const (.int .i64 0)), none⟩,
    ⟨(some 8), .load 28 (.tmp 7), none⟩,
    ⟨(some 9), .call ⟨(.builtin .len), #[(.tmp 8)], #[28]⟩, none⟩,
    ⟨(some 10), .binOp .neq 3 (.tmp 5) (.tmp 9) 3, none⟩,
    ⟨(some 11), .move (.tmp 10), none⟩,
    ⟨(some 12), .move (.tmp 0), (some (11, false))⟩,
    ⟨(some 13), .call ⟨(.builtin .len), #[(.tmp 12)], #[28]⟩, (some (11, false))⟩,
    ⟨(some 14), .binOp .gtr 3 (.tmp 13) (.const (.int .i64 7)) 3, (some (11, false))⟩,
    ⟨(some 15), .pick (.tmp 11) (.const (.bool true)) (.tmp 14), none⟩,
    ⟨(some 16), .move (.tmp 15), none⟩,
    ⟨(some 17), .move (.tmp 0), (some (16, false))⟩,
    ⟨(some 18), .call ⟨(.value (.func 108)), #[(.tmp 17), (.const (.int .i64 (-1))), (.const (.int .i64 15))], #[28, 2, 2]⟩, (some (16, false))⟩,
    ⟨(some 19), .unOp .not 4 (.tmp 18), (some (16, false))⟩,
    ⟨(some 20), .pick (.tmp 16) (.const (.bool true)) (.tmp 19), none⟩,
    ⟨(some 3), .assign (.tmp 20), none⟩])
 .ret))
theorem s107 : slimF Try.f107 = some (c107, [.t 3], 21) := by kernel_rfl
theorem o107 : okF [(108, g108)] Try.f107 = true := by kernel_rfl
noncomputable def g107 : Fsem := semOf (fun i : Nat × List Int × Nat × Nat × List (List Int) => [.sl i.1 1 (i.2.1.map (AV.int .i64)), .dptr i.2.2.1 ((En.list (En.int .i64)).list.cs i.2.2.2.1 i.2.2.2.2)]) (fun i => i.2.2.2.2 ≠ []) (fun _ i => .bool (!rowOk (hdL i.2.2.2.2) i.2.1))
theorem g107_eq {n τ τ' τ'' : Nat} {r : List Int} {p : List (List Int)} : g107 n [.sl τ 1 (r.map (AV.int .i64)), .dptr τ' ((En.list (En.int .i64)).list.cs τ'' p)] = ⟨p ≠ [], .bool (!rowOk (hdL p) r)⟩ :=
  semOf_eq (τ, r, τ', τ'', p) rfl fun ⟨_, r', _, _, p'⟩ h => by
    obtain ⟨h1, h⟩ := cons_inj h
    obtain ⟨h2, _⟩ := cons_inj h
    have e1 : r' = r := (En.int .i64).list.inj h1
    simp only [AV.dptr.injEq] at h2
    have e2 : p' = p := by
      have := congrArg (En.list (En.int .i64)).list.dec h2.2
      rwa [(En.list (En.int .i64)).list.hdec, (En.list (En.int .i64)).list.hdec] at this
    subst e1 e2
    exact ⟨Iff.rfl, rfl⟩
theorem p107 : Pure Try.prog 107 g107 := by
  refine semOf_pure fun ⟨τ, r, τ', τ'', p⟩ n h2 hp => ?_
  have hT : Table Try.prog [(108, g108)] := (.cons p108 .nil)
  refine SatP.of_body hT hm Try.func107 s107 o107 h2 (by simp) ?_
  cases p with
  | nil => exact absurd rfl hp
  | cons h rs =>
    simp (config := {contextual := true, implicitDefEqProofs := false}) [c107, go_sem, rowOk, hdL]
    grind
theorem fitl_28 : FitE Try.prog 28 (En.list (En.int .i64)) := ⟨by simp only [go_sem], by simp only [go_sem], fun τ x => by simp [go_sem]⟩
theorem s131 : slimF Try.f131 = some (idxC 53 28, [.t 4], 19) := by kernel_rfl
theorem o131 : okF [(107, g107)] Try.f131 = true := by kernel_rfl
noncomputable def g131 : Fsem := semOf (fun i : Nat × List (List Int) × Nat × Nat × List (List Int) => [.sl i.1 1 (i.2.1.map ((En.list (En.int .i64)).av i.1)), .fn 107 [.dptr i.2.2.1 ((En.list (En.int .i64)).list.cs i.2.2.2.1 i.2.2.2.2)]]) (fun i => i.2.1 ≠ [] → i.2.2.2.2 ≠ []) (fun _ i => .int .i64 (idx (fun r => !rowOk (hdL i.2.2.2.2) r) i.2.1))
theorem g131_eq {n τ τ' τ'' : Nat} {l p : List (List Int)} : g131 n [.sl τ 1 (l.map ((En.list (En.int .i64)).av τ)), .fn 107 [.dptr τ' ((En.list (En.int .i64)).list.cs τ'' p)]] = ⟨l ≠ [] → p ≠ [], .int .i64 (idx (fun r => !rowOk (hdL p) r) l)⟩ :=
  semOf_eq (τ, l, τ', τ'', p) rfl fun ⟨_, l', _, _, p'⟩ h => by
    obtain ⟨h1, h⟩ := cons_inj h
    obtain ⟨h2, _⟩ := cons_inj h
    have e1 : l' = l := (En.list (En.int .i64)).list.inj h1
    simp only [AV.fn.injEq, List.cons.injEq, AV.dptr.injEq, and_true, true_and] at h2
    have e2 : p' = p := by
      have := congrArg (En.list (En.int .i64)).list.dec h2.2
      rwa [(En.list (En.int .i64)).list.hdec, (En.list (En.int .i64)).list.hdec] at this
    subst e1 e2
    exact ⟨Iff.rfl, rfl⟩
theorem g131_eq2 {n τ τ' τ'' : Nat} {l p : List (List Int)} : g131 n [.sl τ 1 (l.map ((En.list (En.int .i64)).av τ)), .fn 107 [.dptr τ' [.sl τ'' 1 (p.map ((En.list (En.int .i64)).av τ''))]]] = ⟨l ≠ [] → p ≠ [], .int .i64 (idx (fun r => !rowOk (hdL p) r) l)⟩ := g131_eq
theorem p131 : Pure Try.prog 131 g131 :=
  semOf_pure fun ⟨τ, l, τ', τ'', p⟩ n h2 hp => indexFunc_okC hm Try.func131 s131 o131 (by omega) ty_53 fitl_28 p107 (fun c hc => by simp at hc; subst hc; rfl) (fun n τ x => g107_eq) h2 hp
theorem s106 : slimF Try.f106 = some (cfC 53 78 131, [.t 4], 9) := by kernel_rfl
theorem o106 : okF [(131, g131)] Try.f106 = true := by kernel_rfl
noncomputable def g106 : Fsem := semOf (fun i : Nat × List (List Int) × Nat × Nat × List (List Int) => [.sl i.1 1 (i.2.1.map ((En.list (En.int .i64)).av i.1)), .fn 107 [.dptr i.2.2.1 ((En.list (En.int .i64)).list.cs i.2.2.2.1 i.2.2.2.2)]]) (fun i => i.2.1 ≠ [] → i.2.2.2.2 ≠ []) (fun _ i => .bool (i.2.1.any (fun r => !rowOk (hdL i.2.2.2.2) r)))
theorem g106_eq' {n τ τ' τ'' : Nat} {l p : List (List Int)} : g106 n [.sl τ 1 (l.map ((En.list (En.int .i64)).av τ)), .fn 107 [.dptr τ' ((En.list (En.int .i64)).list.cs τ'' p)]] = ⟨l ≠ [] → p ≠ [], .bool (l.any fun r => !rowOk (hdL p) r)⟩ :=
  semOf_eq (τ, l, τ', τ'', p) rfl fun ⟨_, l', _, _, p'⟩ h => by
    obtain ⟨h1, h⟩ := cons_inj h
    obtain ⟨h2, _⟩ := cons_inj h
    have e1 : l' = l := (En.list (En.int .i64)).list.inj h1
    simp only [AV.fn.injEq, List.cons.injEq, AV.dptr.injEq, and_true, true_and] at h2
    have e2 : p' = p := by
      have := congrArg (En.list (En.int .i64)).list.dec h2.2
      rwa [(En.list (En.int .i64)).list.hdec, (En.list (En.int .i64)).list.hdec] at this
    subst e1 e2
    exact ⟨Iff.rfl, rfl⟩
@[go_sem] theorem g106_eq {n τ τ' τ'' : Nat} {l p : List (List Int)} : g106 n [.sl τ 1 (l.map ((En.int .i64).list.av τ)), .fn 107 [.dptr τ' [.sl τ'' 1 (p.map ((En.int .i64).list.av τ''))]]] = ⟨l ≠ [] → p ≠ [], .bool (l.any fun r => !rowOk (hdL p) r)⟩ := g106_eq'
theorem p106 : Pure Try.prog 106 g106 := by
  refine semOf_pure fun ⟨τ, l, τ', τ'', p⟩ n h2 hp => ?_
  have hT : Table Try.prog [(131, g131)] := .cons p131 .nil
  refine SatP.of_body hT hm Try.func106 s106 o106 h2 (by simp) ?_
  have hb : decide (0 ≤ idx (fun r => !rowOk (hdL p) r) l) = l.any fun r => !rowOk (hdL p) r := by
    rw [Bool.eq_iff_iff, decide_eq_true_iff]
    exact idx_nonneg _ _
  have hp' : l ≠ [] → p ≠ [] := hp
  have hcap : ∀ c ∈ [AV.dptr τ' ((En.list (En.int .i64)).list.cs τ'' p)], c.isD = true := fun c hc => by simp at hc; subst hc; rfl
  simp (config := {contextual := true}) [cfC, go_sem, g131_eq2, hb, hp', cv0_caps hcap, cv0_capsT hcap]
/- impl.tableOk -/
def c63 : SCode := (.seq (.reg [⟨(some 1), .box 53 (.tmp 0), none⟩,
   ⟨(some 2), .assign (.const (.bool false)), none⟩])
(.seq (.reg [⟨(some 3), .load 53 (.tmp 1), none⟩,
    ⟨(some 4), .call ⟨(.builtin .len), #[(.tmp 3)], #[53]⟩, none⟩,
    ⟨(some 5), .binOp .leq 3 (.tmp 4) (.const (.int .i64 16)) 3, none⟩,
    ⟨(some 6), .move (.tmp 5), none⟩,
    ⟨(some 7), .load 53 (.tmp 1), (some (6, true))⟩,
    ⟨(some 8), .makeFunc (Fn.func 107) #[] #[(.tmp 1)], (some (6, true))⟩,
    ⟨(some 9), .call ⟨(.value (.func 106)), #[(.tmp 7), (.tmp 8)], #[53, 78]⟩, (some (6, true))⟩,
    ⟨(some 10), .unOp .not 4 (.tmp 9), (some (6, true))⟩,
    ⟨(some 11), .pick (.tmp 6) (.tmp 10) (.const (.bool false)), none⟩,
    ⟨(some 2), .assign (.tmp 11), none⟩])
 .ret))
theorem s63 : slimF Try.f63 = some (c63, [.t 2], 12) := by kernel_rfl
theorem o63 : okF [(106, g106)] Try.f63 = true := by kernel_rfl
noncomputable def g63 : Fsem := sem1 (En.int .i64).list.list (fun p => True) (fun n p => .bool (tblOk p))
@[go_sem] theorem g63_eq {n τ : Nat} {p : List (List Int)} : g63 n [.sl τ 1 (p.map ((En.int .i64).list.av τ))] = ⟨True, .bool (tblOk p)⟩ := sem1_eq  (E := (En.int .i64).list.list)
theorem p63 : Pure Try.prog 63 g63 := by
  refine sem1_pure fun τ p n h2 hpre => ?_
  have hT : Table Try.prog [(106, g106)] := (.cons p106 .nil)
  have hn0 : n ≠ 0 := by omega
  refine SatP.of_body hT hm Try.func63 s63 o63 h2 (by simp) ?_
  simp only [tblOk]
  rw [show (p.all (rowOk (hdL p))) = !(p.any fun r => !rowOk (hdL p) r) by rw [any_not_all, Bool.not_not]]
  simp (config := {contextual := true, maxSteps := 2000000, implicitDefEqProofs := false}) [c63, go_sem]
/- spec.l10Rows -/
def c59 : SCode := (.seq (.reg [⟨(some 2), .assign (.const (.bool false)), none⟩])
(.seq (.seq (.reg [⟨(some 5), .move (.tmp 0), none⟩,
     ⟨(some 6), .call ⟨(.builtin .len), #[(.tmp 5)], #[53]⟩, none⟩,
     ⟨(some 7), .binOp .gtr 3 (.tmp 6) (.const (.int .i64 16)) 3, none⟩])
  (.cond (.tmp 7) (.seq (.reg [⟨(some 2), .assign (.const (.bool false)), none⟩])
    .ret)
   .skip))
 (.seq (.seq (.reg [⟨(some 3), .assign (.const (.int .i64 0)), none⟩])
   (.block 0 (.loop (.seq (.seq (.reg [⟨(some 8), .move (.tmp 3), none⟩,
          ⟨(some 9), .move (.tmp 0), none⟩,
          ⟨(some 10), .call ⟨(.builtin .len), #[(.tmp 9)], #[53]⟩, none⟩,
          ⟨(some 11), .binOp .lss 3 (.tmp 8) (.tmp 10) 3, none⟩])
       (.cond (.tmp 11) .skip
        (.exit 0)))
      (.seq (.block 1 (.seq (.seq (.draw [⟨(some 14), .move (.tmp 0), none⟩,
             ⟨(some 15), .move (.tmp 3), none⟩,
             ⟨(some 16), .indexAddr 53 (.tmp 14) (.tmp 15), none⟩,
             ⟨(some 17), .load 28 (.tmp 16), none⟩,
             ⟨(some 18), .call ⟨(.builtin .len), #[(.tmp 17)], #[28]⟩, none⟩,
             ⟨(some 19), .binOp .gtr 3 (.tmp 18) (.const (.int .i64 7)) 3, none⟩,
             ⟨(some 20), .move (.tmp 19), none⟩,
             ⟨(some 21), .move (.tmp 0), (some (20, false))⟩,
             ⟨(some 22), .move (.tmp 3), (some (20, false))⟩,
             ⟨(some 23), .indexAddr 53 (.tmp 21) (.tmp 22), (some (20, false))⟩,
             ⟨(some 24), .load 28 (.tmp 23), (some (20, false))⟩,
             ⟨(some 25), .call ⟨(.builtin .len), #[(.tmp 24)], #[28]⟩, (some (20, false))⟩,
             ⟨(some 26), .move (.tmp 0), (some (20, false))⟩,
             ⟨(some 27), .indexAddr 53 (.tmp 26) (.const (.int .i64 0)), (some (20, false))⟩,
             ⟨(some 28), .load 28 (.tmp 27), (some (20, false))⟩,
             ⟨(some 29), .call ⟨(.builtin .len), #[(.tmp 28)], #[28]⟩, (some (20, false))⟩,
             ⟨(some 30), .binOp .neq 3 (.tmp 25) (.tmp 29) 3, (some (20, false))⟩,
             ⟨(some 31), .pick (.tmp 20) (.const (.bool true)) (.tmp 30), none⟩] [[], [], [0, 1], [0, 1, 2], [0, 1, 2, 3], [0, 1, 2, 3, 4], [0, 1, 2, 3, 4, 5], [0, 1, 2, 3, 4, 5, 6], [0, 1, 2, 3, 4, 5, 6], [0, 1, 2, 3, 4, 5, 6, 7, 8], [0, 1, 2, 3, 4, 5, 6, 7, 8, 9], [0, 1, 2, 3, 4, 5, 6, 7, 8, 9, 10], [0, 1, 2, 3, 4, 5, 6], [0, 1, 2, 3, 4, 5, 6, 12], [0, 1, 2, 3, 4, 5, 6, 12, 13], [0, 1, 2, 3, 4, 5, 6, 12, 13, 14], [0, 1, 2, 3, 4, 5, 6, 7, 8, 9, 10, 11, 12, 13, 14, 15], [0, 1, 2, 3, 4, 5, 6, 7, 8, 9, 10, 11, 12, 13, 14, 15, 16]])
          (.cond (.tmp 31) (.seq (.reg [⟨(some 2), .assign (.const (.bool false)), none⟩])
            .ret)
           .skip))
         (.seq (.reg [⟨(some 4), .assign (.const (.int .i64 0)), none⟩])
          (.block 2 (.loop (.seq (.seq (.reg [⟨(some 32), .move (.tmp 4), none⟩,
                 ⟨(some 33), .move (.tmp 0), none⟩,
                 ⟨(some 34), .move (.tmp 3), none⟩,
                 ⟨(some 35), .indexAddr 53 (.tmp 33) (.tmp 34), none⟩,
                 ⟨(some 36), .load 28 (.tmp 35), none⟩,
                 ⟨(some 37), .call ⟨(.builtin .len), #[(.tmp 36)], #[28]⟩, none⟩,
                 ⟨(some 38), .binOp .lss 3 (.tmp 32) (.tmp 37) 3, none⟩])
              (.cond (.tmp 38) .skip
               (.exit 2)))
             (.seq (.block 3 (.seq (.reg [⟨(some 41), .move (.tmp 0), none⟩,
                   ⟨(some 42), .move (.tmp 3), none⟩,
                   ⟨(some 43), .indexAddr 53 (.tmp 41) (.tmp 42), none⟩,
                   ⟨(some 44), .load 28 (.tmp 43), none⟩,
                   ⟨(some 45), .move (.tmp 4), none⟩,
                   ⟨(some 46), .indexAddr 28 (.tmp 44) (.tmp 45), none⟩,
                   ⟨(some 47), .load 2 (.tmp 46), none⟩,
                   ⟨(some 48), .call ⟨(.value (.func 73)), #[(.tmp 47), (.const (.int .i64 (-1))), (.const (.int .i64 15))], #[2, 2, 2]⟩, none⟩,
                   ⟨(some 49), .unOp .not 4 (.tmp 48), none⟩])
                (.cond (.tmp 49) (.seq (.reg [⟨(some 2), .assign (.const (.bool false)), none⟩])
                  .ret)
                 .skip)))
              (.reg [⟨(some 39), .move (.tmp 4), none⟩,
                 ⟨(some 40), .binOp .add 3 (.tmp 39) (.const (.int .i64 1)) 3, none⟩,
                 ⟨(some 4), .assign (.tmp 40), none⟩]))))))))
       (.reg [⟨(some 12), .move (.tmp 3), none⟩,
          ⟨(some 13), .binOp .add 3 (.tmp 12) (.const (.int .i64 1)) 3, none⟩,
          ⟨(some 3), .assign (.tmp 13), none⟩]))))))
  (.seq (.reg [⟨(some 2), .assign (.const (.bool true)), none⟩])
   .ret))))
theorem s59 : slimF Try.f59 = some (c59, [.t 2], 50) := by kernel_rfl
theorem o59 : okF [(73, g73)] Try.f59 = true := by kernel_rfl
noncomputable def g59 : Fsem := sem1 (En.int .i64).list.list (fun p => True) (fun n p => .bool (tblOk p))
@[go_sem] theorem g59_eq {n τ : Nat} {p : List (List Int)} : g59 n [.sl τ 1 (p.map ((En.int .i64).list.av τ))] = ⟨True, .bool (tblOk p)⟩ := sem1_eq  (E := (En.int .i64).list.list)
theorem p59 : Pure Try.prog 59 g59 := by
  refine sem1_pure fun τ p n h2 hpre => ?_
  have hT : Table Try.prog [(73, g73)] := (.cons p73 .nil)
  have hn0 : n ≠ 0 := by omega
  refine SatP.of_body hT hm Try.func59 s59 o59 h2 (by simp) ?_
  simp only [tblOk]
  generalize hr : p.all (rowOk (hdL p)) = r
  simp (config := {contextual := true, maxSteps := 2000000, implicitDefEqProofs := false}) [c59, go_sem]
  intro hL
  refine ⟨fun h => by grind, fun h => ?_⟩
  refine VW_listK hT h2 hm p [0] (fun pre post (b : Unit) => [(3, .int .i64 pre.length)]) (fun pre post (b : Unit) => post.all (rowOk (hdL p)) = r) () ?_ ?_ ?_ ?_
  · exact hr
  · simp [SubI, go_sem]
  · rintro _ hR
    simp (config := {contextual := true, maxSteps := 2000000, implicitDefEqProofs := false}) [go_sem]
    simp at hR
    grind
  · rintro pre0 x rest _ hl hlen hR
    have hln : p.length = pre0.length + (rest.length + 1) := by rw [← hl]; simp
    have hn : nth (List.map ((En.list (En.int .i64)).av τ) p) (pre0.length) = ((En.list (En.int .i64)).av τ) x := by rw [← hl]; simp [go_sem]
    have hw : p.length ≤ maxLen → IntKind.i64.wrap ((pre0.length : Int) + 1) = (pre0.length : Int) + 1 := fun h => wrap_ok (by omega) (by simp only [maxLen] at h; omega)
    have h3 : (0 : Int) ≤ (pre0.length : Int) := by omega
    have h4 : (pre0.length : Int) < (p.length : Int) := by omega
    have h5 : ¬ (p.length : Int) ≤ (pre0.length : Int) := by omega
    have h0 : nth (List.map ((En.list (En.int .i64)).av τ) p) 0 = (En.list (En.int .i64)).av τ (hdL p) := by
      cases p with
      | nil => simp at hln
      | cons y q => rfl
    have h01 : (0 : Int) < (p.length : Int) := by omega
    simp only [List.all_cons, rowOk] at hR
    simp (config := {contextual := true, maxSteps := 2000000, implicitDefEqProofs := false}) [go_sem, hn, hw, h3, h4, h5, h0, h01]
    intro hLp
    refine ⟨fun _ => by omega, fun h => by grind, fun g1 g2 => ?_⟩
    have e1 : x.length ≤ 7 := by omega
    have e2 : x.length = (hdL p).length := by omega
    simp only [decide_eq_true e1, decide_eq_true e2, Bool.true_and] at hR
    refine VW_listK hT h2 hm x [0, 3] (fun pre post (b : Unit) => [(4, .int .i64 pre.length)]) (fun pre post (b : Unit) => ((post.all fun y => btw y (-1) 15) && rest.all (rowOk (hdL p))) = r) () ?_ ?_ ?_ ?_
    · exact hR
    · simp [SubI, go_sem]
    · rintro _ hR2
      simp (config := {contextual := true, maxSteps := 2000000, implicitDefEqProofs := false}) [go_sem, SubI, hn, hw, h3, h4, h5, hLp]
      intro _
      simpa using hR2
    · rintro pre y post _ hl' hlen' hR2
      have hln' : x.length = pre.length + (post.length + 1) := by rw [← hl']; simp
      have hn' : nth (List.map (AV.int .i64) x) (pre.length) = (AV.int .i64) y := by rw [← hl']; simp [go_sem]
      have hw' : x.length ≤ maxLen → IntKind.i64.wrap ((pre.length : Int) + 1) = (pre.length : Int) + 1 := fun h => wrap_ok (by omega) (by simp only [maxLen] at h; omega)
      have h3' : (0 : Int) ≤ (pre.length : Int) := by omega
      have h4' : (pre.length : Int) < (x.length : Int) := by omega
      have h5' : ¬ (x.length : Int) ≤ (pre.length : Int) := by omega
      simp only [List.all_cons] at hR2
      simp (config := {contextual := true, maxSteps := 2000000, implicitDefEqProofs := false}) [go_sem, SubI, hn, hw, h3, h4, h5, hn', hw', h3', h4', h5'] <;> grind
end Go.Ve
