/- Contracts of the seat: loads and spreads, the reference. No condition. -/
import Derived.Test.YtidfijaobkaalaaV14c
import Derived.Test.YtidfijaobkaalaaV14d
import Derived.Test.YtidfijaobkaalaaE29
namespace Go.Ve
open Go.Proofs Go.RowKit
set_option linter.unusedVariables false
set_option linter.unusedSimpArgs false
set_option maxRecDepth 10000
set_option maxHeartbeats 4000000
def wOf (t : Tree) (id : Int) : Int := match t.devices.find? (fun d : Dev => decide (d.id = id)) with
  | some d => d.weight
  | none => 0
def fullOf (w c : Int) : Int := (840 * c).tdiv w
def ldOf (p : List (List Int)) (d : Dev) : Load := ⟨d.id, cnt d.id (flatL p)⟩
def loadsOf (t : Tree) (p : List (List Int)) : List Load := t.devices.map (ldOf p)
def utilsL : List Dev → List Load → List Int
  | d :: l, x :: xs => if d.weight = 0 then utilsL l xs else fullOf d.weight x.count :: utilsL l xs
  | _, _ => []
def utils (p : List (List Int)) : List Dev → List Int
  | [] => []
  | d :: l => if d.weight = 0 then utils p l else fullOf d.weight (cnt d.id (flatL p)) :: utils p l
def hiL : List Int → Int → Int
  | [], h => h
  | n :: l, h => hiL l (if h > n then h else n)
def loL : List Int → Int → Int
  | [], m => m
  | n :: l, m => loL l (if m < 0 ∨ n < m then n else m)
def maxL : List Int → Int → Int
  | [], h => h
  | n :: l, h => maxL l (max h n)
def minL : List Int → Int → Int
  | [], h => h
  | n :: l, h => minL l (min h n)
theorem utilsL_eq {p : List (List Int)} : ∀ {l : List Dev}, utilsL l (l.map (ldOf p)) = utils p l
  | [] => rfl
  | d :: l => by simp only [List.map_cons, utilsL, utils, utilsL_eq (l := l), ldOf]
@[go_sem] theorem loads_len {t : Tree} {p : List (List Int)} : (loadsOf t p).length = t.devices.length := by simp [loadsOf]
theorem hi_max : ∀ (l : List Int) (h : Int), hiL l h = maxL l h
  | [], h => rfl
  | n :: l, h => by
    simp only [hiL, maxL, hi_max l]
    congr 1
    split <;> omega
theorem lo_min : ∀ (l : List Int) (h : Int), 0 ≤ h → (∀ x ∈ l, 0 ≤ x) → loL l h = minL l h
  | [], h, _, _ => rfl
  | n :: l, h, h0, hx => by
    have hn := hx n (by simp)
    have e : (if h < 0 ∨ n < h then n else h) = min h n := by split <;> omega
    simp only [loL, minL, e]
    exact lo_min l _ (by omega) fun x h => hx x (by simp [h])
def spreadL (l : List Int) : Int := hiL l (-1) - loL l (-1)
def spreadM : List Int → Int
  | [] => 0
  | n :: l => maxL l n - minL l n
theorem spread_eq {l : List Int} (h : ∀ x ∈ l, 0 ≤ x) : spreadL l = spreadM l := by
  cases l with
  | nil => rfl
  | cons n l =>
    have hn := h n (by simp)
    simp only [spreadL, spreadM, hiL, loL]
    have e1 : (if (-1 : Int) > n then -1 else n) = n := by split <;> omega
    have e2 : (if (-1 : Int) < 0 ∨ n < -1 then n else -1) = n := by rw [if_pos (.inl (by omega))]
    rw [e1, e2, hi_max, lo_min l n hn fun x hx => h x (by simp [hx])]
theorem full_bnd {w c : Int} (hw : 0 < w) (hc : 0 ≤ c ∧ c ≤ 1000) : 0 ≤ fullOf w c ∧ fullOf w c ≤ 840000 := by
  unfold fullOf
  have h0 : 0 ≤ 840 * c := by omega
  rw [Int.tdiv_eq_ediv_of_nonneg h0]
  refine ⟨Int.ediv_nonneg h0 (by omega), ?_⟩
  have := Int.ediv_le_self w h0
  omega
theorem utils_bnd {p : List (List Int)} (hp : (flatL p).length ≤ 1000) : ∀ {l : List Dev}, (∀ d ∈ l, 0 ≤ d.weight) → ∀ x ∈ utils p l, 0 ≤ x ∧ x ≤ 840000
  | [], _, x, hx => by cases hx
  | d :: l, h, x, hx => by
    have ih := utils_bnd hp (l := l) fun d hd => h d (by simp [hd])
    simp only [utils] at hx
    split at hx
    · exact ih x hx
    · rename_i hw
      have hd := h d (by simp)
      rcases List.mem_cons.1 hx with rfl | hx
      · have := cnt_le (id := d.id) (l := flatL p)
        exact full_bnd (by omega) ⟨this.1, by omega⟩
      · exact ih x hx
theorem hi_bnd {B : Int} : ∀ {l : List Int} {h : Int}, (∀ x ∈ l, 0 ≤ x ∧ x ≤ B) → -1 ≤ h ∧ h ≤ B → -1 ≤ hiL l h ∧ hiL l h ≤ B
  | [], h, _, hb => hb
  | n :: l, h, hx, hb => by
    have hn := hx n (by simp)
    simp only [hiL]
    refine hi_bnd (fun x h => hx x (by simp [h])) ?_
    split <;> omega
theorem lo_bnd {B : Int} : ∀ {l : List Int} {h : Int}, (∀ x ∈ l, 0 ≤ x ∧ x ≤ B) → -1 ≤ h ∧ h ≤ B → -1 ≤ loL l h ∧ loL l h ≤ B
  | [], h, _, hb => hb
  | n :: l, h, hx, hb => by
    have hn := hx n (by simp)
    simp only [loL]
    refine lo_bnd (fun x h => hx x (by simp [h])) ?_
    split <;> omega
theorem max_bnd {B : Int} : ∀ {l : List Int} {h : Int}, (∀ x ∈ l, 0 ≤ x ∧ x ≤ B) → 0 ≤ h ∧ h ≤ B → 0 ≤ maxL l h ∧ maxL l h ≤ B
  | [], h, _, hb => hb
  | n :: l, h, hx, hb => by
    have hn := hx n (by simp)
    simp only [maxL]
    exact max_bnd (fun x h => hx x (by simp [h])) (by omega)
theorem min_bnd {B : Int} : ∀ {l : List Int} {h : Int}, (∀ x ∈ l, 0 ≤ x ∧ x ≤ B) → 0 ≤ h ∧ h ≤ B → 0 ≤ minL l h ∧ minL l h ≤ B
  | [], h, _, hb => hb
  | n :: l, h, hx, hb => by
    have hn := hx n (by simp)
    simp only [minL]
    exact min_bnd (fun x h => hx x (by simp [h])) (by omega)
theorem tbl_1000 {p : List (List Int)} (h : tblOk p = true) : (flatL p).length ≤ 112 := by
  have h1 := tbl_rows h
  have := tbl_flat h1
  have := h1.1
  omega
theorem devs_parts {t : Tree} (h : devsOk t = true) : t.devices.length ≤ 16 ∧ ∀ d ∈ t.devices, 0 ≤ d.weight ∧ d.weight ≤ 8 := by
  simp only [devsOk, Bool.and_eq_true, decide_eq_true_eq] at h
  refine ⟨h.2, fun d hd => ?_⟩
  obtain ⟨o, ho⟩ := chk_mem h.1 d hd
  simp only [devOk, btw, Bool.and_eq_true, decide_eq_true_eq] at ho
  grind
theorem devs_find {t : Tree} (h : devsOk t = true) {a b : List Dev} {d : Dev} (hl : a ++ d :: b = t.devices) : t.devices.find? (fun x : Dev => decide (x.id = d.id)) = some d := by
  simp only [devsOk, Bool.and_eq_true] at h
  have h1 := h.1
  rw [← hl] at h1 ⊢
  clear hl h
  have key : ∀ (a : List Dev) (o : Option Dev), chk devOk o (a ++ d :: b) = true → (∀ y, o = some y → y.id < d.id) ∧ (a ++ d :: b).find? (fun x : Dev => decide (x.id = d.id)) = some d := by
    intro a
    induction a with
    | nil =>
      intro o h
      simp only [List.nil_append, chk, Bool.and_eq_true] at h
      refine ⟨fun y hy => ?_, by simp⟩
      subst hy
      have h2 := h.1
      simp only [devOk, Bool.and_eq_true, decide_eq_true_eq] at h2
      grind
    | cons x a ih =>
      intro o h
      simp only [List.cons_append, chk, Bool.and_eq_true] at h
      obtain ⟨h2, h3⟩ := ih (some x) h.2
      have h4 := h2 x rfl
      have h5 := h.1
      refine ⟨fun y hy => ?_, ?_⟩
      · subst hy
        simp only [devOk, Bool.and_eq_true, decide_eq_true_eq] at h5
        grind
      · rw [List.cons_append, List.find?_cons]
        have : decide (x.id = d.id) = false := by simp; omega
        rw [this]
        exact h3
  exact (key a none h1).2

/- spec.l00Max -/
def c113 : SCode := (.seq (.reg [⟨(some 4), .assign (.const (.int .i64 0)), none⟩])
(.seq (.seq (.reg [⟨(some 5), .move (.tmp 0), none⟩,
     ⟨(some 6), .move (.tmp 1), none⟩,
     ⟨(some 7), .binOp .gtr 2 (.tmp 5) (.tmp 6) 2, none⟩])
  (.cond (.tmp 7) (.seq (.reg [⟨(some 8), .move (.tmp 0), none⟩,
       ⟨(some 4), .assign (.tmp 8), none⟩])
    .ret)
   .skip))
 (.seq (.reg [⟨(some 9), .move (.tmp 1), none⟩,
     ⟨(some 4), .assign (.tmp 9), none⟩])
  .ret)))
theorem s113 : slimF Try.f113 = some (c113, [.t 4], 10) := by kernel_rfl
theorem o113 : okF [] Try.f113 = true := by kernel_rfl
noncomputable def g113 : Fsem := sem2 (En.int .i64) (En.int .i64) (fun a b => True) (fun n a b => .int .i64 (if a > b then a else b))
@[go_sem] theorem g113_eq {n : Nat} {a : Int} {b : Int} : g113 n [.int .i64 a, .int .i64 b] = ⟨True, .int .i64 (if a > b then a else b)⟩ := sem2_eq (τ := 0) (τ' := 0) (E := (En.int .i64)) (F := (En.int .i64))
theorem p113 : Pure Try.prog 113 g113 := by
  refine sem2_pure fun τ τ' a b n h2 hpre => ?_
  have hT : Table Try.prog [] := .nil
  have hn0 : n ≠ 0 := by omega
  refine SatP.of_body hT hm Try.func113 s113 o113 h2 (by simp) ?_
  by_cases h : a > b
  · have h' : b < a := h
    simp (config := {contextual := true, maxSteps := 2000000, implicitDefEqProofs := false}) [c113, go_sem, h, h']
  · have h' : ¬ b < a := h
    simp (config := {contextual := true, maxSteps := 2000000, implicitDefEqProofs := false}) [c113, go_sem, h, h']
/- spec.l10Full -/
def c112 : SCode := (.seq (.reg [⟨(some 2), .box 36 (.tmp 0), none⟩,
   ⟨(some 3), .box 97 (.tmp 1), none⟩,
   ⟨(some 4), .assign (.const (.int .i64 0)), none⟩])
(.seq (.draw [⟨(some 5), .fieldAddr 97 (.tmp 3) 1, none⟩,
    ⟨(some 6), .load 2 (.tmp 5), none⟩,
    ⟨(some 7), .binOp .mul 2 (.const (.int .i64 840)) (.tmp 6) 2, none⟩,
    ⟨(some 8), .fieldAddr 36 (.tmp 2) 0, none⟩,
    ⟨(some 9), .load 33 (.tmp 8), none⟩,
    ⟨(some 10), .load 36 (.tmp 2), none⟩,
    ⟨(some 11), .fieldAddr 97 (.tmp 3) 0, none⟩,
    ⟨(some 12), .load 2 (.tmp 11), none⟩,
    ⟨(some 13), .call ⟨(.value (.func 134)), #[(.tmp 10), (.tmp 12)], #[36, 2]⟩, none⟩,
    ⟨(some 14), .indexAddr 33 (.tmp 9) (.tmp 13), none⟩,
    ⟨(some 15), .fieldAddr 125 (.tmp 14) 1, none⟩,
    ⟨(some 16), .load 2 (.tmp 15), none⟩,
    ⟨(some 17), .binOp .quo 2 (.tmp 7) (.tmp 16) 2, none⟩,
    ⟨(some 4), .assign (.tmp 17), none⟩] [[], [0], [0, 1], [], [3], [], [], [6], [5, 6, 7], [3, 4, 5, 6, 7, 8], [3, 4, 5, 6, 7, 8, 9], [3, 4, 5, 6, 7, 8, 9, 10], [0, 1, 2, 3, 4, 5, 6, 7, 8, 9, 10, 11], [0, 1, 2, 3, 4, 5, 6, 7, 8, 9, 10, 11, 12]])
 .ret))
theorem s112 : slimF Try.f112 = some (c112, [.t 4], 18) := by kernel_rfl
theorem o112 : okF [(134, g134)] Try.f112 = true := by kernel_rfl
noncomputable def g112 : Fsem := sem2 enTree enLoad (fun t x => 0 < wOf t x.node ∧ wOf t x.node ≤ 8 ∧ 0 ≤ x.count ∧ x.count ≤ 1000) (fun n t x => .int .i64 (fullOf (wOf t x.node) x.count))
@[go_sem] theorem g112_eq {n τ : Nat} {t : Tree} {x : Load} : g112 n [.agg [.sl τ 2 (t.devices.map (enDev.av τ)), .sl τ 3 (t.buckets.map (enBkt.av τ))], .agg [.int .i64 x.node, .int .i64 x.count]] = ⟨0 < wOf t x.node ∧ wOf t x.node ≤ 8 ∧ 0 ≤ x.count ∧ x.count ≤ 1000, .int .i64 (fullOf (wOf t x.node) x.count)⟩ := sem2_eq (τ' := 0) (E := enTree) (F := enLoad)
theorem p112 : Pure Try.prog 112 g112 := by
  refine sem2_pure fun τ τ' t x n h2 hpre => ?_
  have hT : Table Try.prog [(134, g134)] := (.cons p134 .nil)
  have hn0 : n ≠ 0 := by omega
  refine SatP.of_body hT hm Try.func112 s112 o112 h2 (by simp) ?_
  obtain ⟨p1, p2, p3, p4⟩ := hpre
  rcases idx_spec (fun d : Dev => decide (d.id = x.node)) t.devices with ⟨h1, hb⟩ | ⟨a, d, b, hl, h2, h3, hb⟩
  · simp [wOf, hb] at p1
  · have hw : wOf t x.node = d.weight := by simp [wOf, hb]
    rw [hw] at p1 p2 ⊢
    have h4 : (0 : Int) ≤ a.length := by omega
    have h6 : (a.length : Int) < (t.devices.length : Int) := by rw [hl]; simp; omega
    have h7 : nth (List.map (enDev.av τ) t.devices) a.length = enDev.av τ d := by rw [hl]; simp [go_sem]
    have w1 : IntKind.i64.wrap (840 * x.count) = 840 * x.count := wrap_ok (by omega) (by omega)
    have hf := full_bnd (w := d.weight) (c := x.count) p1 ⟨p3, p4⟩
    have w2 : IntKind.i64.wrap (fullOf d.weight x.count) = fullOf d.weight x.count := wrap_ok (by omega) (by omega)
    have hne : ¬ d.weight = 0 := by omega
    simp only [fullOf] at w2 ⊢
    simp (config := {contextual := true, maxSteps := 2000000, implicitDefEqProofs := false}) [c112, go_sem, devI, h3, h4, h6, h7, w1, w2, hne]
/- spec.l10Loads -/
def c60 : SCode := (.seq (.reg [⟨(some 2), .box 36 (.tmp 0), none⟩,
   ⟨(some 4), .assign (.const (.slice none 0 0)), none⟩])
(.seq (.reg [⟨(some 7), .buildSlice 56 0 #[], none⟩,
    ⟨(some 5), .assign (.tmp 7), none⟩])
 (.seq (.seq (.reg [⟨(some 6), .assign (.const (.int .i64 0)), none⟩])
   (.block 0 (.loop (.seq (.seq (.reg [⟨(some 8), .move (.tmp 6), none⟩,
          ⟨(some 9), .fieldAddr 36 (.tmp 2) 0, none⟩,
          ⟨(some 10), .load 33 (.tmp 9), none⟩,
          ⟨(some 11), .call ⟨(.builtin .len), #[(.tmp 10)], #[33]⟩, none⟩,
          ⟨(some 12), .binOp .lss 3 (.tmp 8) (.tmp 11) 3, none⟩])
       (.cond (.tmp 12) .skip
        (.exit 0)))
      (.seq (.block 1 (.draw [⟨(some 15), .move (.tmp 5), none⟩,
           ⟨(some 16), .fieldAddr 36 (.tmp 2) 0, none⟩,
           ⟨(some 17), .load 33 (.tmp 16), none⟩,
           ⟨(some 18), .move (.tmp 6), none⟩,
           ⟨(some 19), .indexAddr 33 (.tmp 17) (.tmp 18), none⟩,
           ⟨(some 20), .fieldAddr 125 (.tmp 19) 0, none⟩,
           ⟨(some 21), .load 2 (.tmp 20), none⟩,
           ⟨(some 22), .move (.tmp 1), none⟩,
           ⟨(some 23), .fieldAddr 36 (.tmp 2) 0, none⟩,
           ⟨(some 24), .load 33 (.tmp 23), none⟩,
           ⟨(some 25), .move (.tmp 6), none⟩,
           ⟨(some 26), .indexAddr 33 (.tmp 24) (.tmp 25), none⟩,
           ⟨(some 27), .fieldAddr 125 (.tmp 26) 0, none⟩,
           ⟨(some 28), .load 2 (.tmp 27), none⟩,
           ⟨(some 29), .call ⟨(.value (.func 103)), #[(.tmp 22), (.tmp 28)], #[53, 2]⟩, none⟩,
           ⟨(some 30), .build 97 #[(0, (.tmp 21)), (1, (.tmp 29))], none⟩,
           ⟨(some 31), .buildSlice 56 1 #[(0, (.tmp 30))], none⟩,
           ⟨(some 32), .call ⟨(.builtin .append), #[(.tmp 15), (.tmp 31)], #[56, 56]⟩, none⟩,
           ⟨(some 5), .assign (.tmp 32), none⟩] [[], [], [1], [], [1, 2, 3], [1, 2, 3, 4], [1, 2, 3, 4, 5], [], [], [8], [], [8, 9, 10], [8, 9, 10, 11], [8, 9, 10, 11, 12], [7, 8, 9, 10, 11, 12, 13], [1, 2, 3, 4, 5, 6, 7, 8, 9, 10, 11, 12, 13, 14], [1, 2, 3, 4, 5, 6, 7, 8, 9, 10, 11, 12, 13, 14, 15], [0, 1, 2, 3, 4, 5, 6, 7, 8, 9, 10, 11, 12, 13, 14, 15, 16], [0, 1, 2, 3, 4, 5, 6, 7, 8, 9, 10, 11, 12, 13, 14, 15, 16, 17]]))
       (.reg [⟨(some 13), .move (.tmp 6), none⟩,
          ⟨(some 14), .binOp .add 3 (.tmp 13) (.const (.int .i64 1)) 3, none⟩,
          ⟨(some 6), .assign (.tmp 14), none⟩]))))))
  (.seq (.reg [⟨(some 33), .move (.tmp 5), none⟩,
      ⟨(some 4), .assign (.tmp 33), none⟩])
   .ret))))
theorem s60 : slimF Try.f60 = some (c60, [.t 4], 34) := by kernel_rfl
theorem o60 : okF [(103, g103)] Try.f60 = true := by kernel_rfl
noncomputable def g60 : Fsem := sem2 enTree (En.int .i64).list.list (fun t p => devsOk t = true ∧ tblOk p = true) (fun n t p => .sl n 2 ((loadsOf t p).map (enLoad.av n)))
@[go_sem] theorem g60_eq {n τ τ' : Nat} {t : Tree} {p : List (List Int)} : g60 n [.agg [.sl τ 2 (t.devices.map (enDev.av τ)), .sl τ 3 (t.buckets.map (enBkt.av τ))], .sl τ' 1 (p.map ((En.int .i64).list.av τ'))] = ⟨devsOk t = true ∧ tblOk p = true, .sl n 2 ((loadsOf t p).map (enLoad.av n))⟩ := sem2_eq  (E := enTree) (F := (En.int .i64).list.list)
theorem p60 : Pure Try.prog 60 g60 := by
  refine sem2_pure fun τ τ' t p n h2 hpre => ?_
  have hT : Table Try.prog [(103, g103)] := (.cons p103 .nil)
  have hn0 : n ≠ 0 := by omega
  refine SatP.of_body hT hm Try.func60 s60 o60 h2 (by simp) ?_
  obtain ⟨hp1, hp2⟩ := hpre
  obtain ⟨hd16, hdw⟩ := devs_parts hp1
  simp (config := {contextual := true, maxSteps := 2000000, implicitDefEqProofs := false}) [c60, go_sem]
  refine VW_listKE [] [2, 5] hT h2 hm t.devices [1, 2] (fun pre post (acc : List Load) => [.box 36 [.sl τ 2 (t.devices.map (enDev.av τ)), .sl τ 3 (t.buckets.map (enBkt.av τ))], .row 97 2 (acc.map (enLoad.av n))]) (fun pre post (acc : List Load) => [(6, .int .i64 pre.length), (5, .osl 1 2 0 acc.length)]) (fun pre post (acc : List Load) => acc = pre.map (ldOf p)) [] ?_ ?_ ?_ ?_
  · rfl
  · simp [SubE, SubR, go_sem]
  · rintro acc hR
    subst hR
    simp (config := {contextual := true, maxSteps := 2000000, implicitDefEqProofs := false}) [go_sem, hn0, loadsOf]
  · rintro pre x rest acc hl hlen hR
    have hln : t.devices.length = pre.length + (rest.length + 1) := by rw [← hl]; simp
    have hn : nth (List.map (enDev.av τ) t.devices) (pre.length) = (enDev.av τ) x := by rw [← hl]; simp [go_sem]
    have hw : t.devices.length ≤ maxLen → IntKind.i64.wrap ((pre.length : Int) + 1) = (pre.length : Int) + 1 := fun h => wrap_ok (by omega) (by simp only [maxLen] at h; omega)
    have h3 : (0 : Int) ≤ (pre.length : Int) := by omega
    have h4 : (pre.length : Int) < (t.devices.length : Int) := by omega
    have h5 : ¬ (t.devices.length : Int) ≤ (pre.length : Int) := by omega
    have hal : acc.length = pre.length := by rw [hR]; simp
    have hf : (pre ++ [x]).map (ldOf p) = acc ++ [ldOf p x] := by rw [hR]; simp
    have ha16 : acc.length ≤ 16 := by omega
    simp (config := {contextual := true, maxSteps := 2000000, implicitDefEqProofs := false}) [go_sem, hn, hw, h3, h4, h5, hp2, hf, SubE, SubR, ldOf]
    grind
end Go.Ve
