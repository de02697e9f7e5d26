/- Contracts of the seat: spreads. No condition. -/
import Derived.Test.YtidfijaobkaalaaV16
namespace Go.Ve
open Go.Proofs Go.RowKit
set_option linter.unusedVariables false
set_option linter.unusedSimpArgs false
set_option maxRecDepth 10000
set_option maxHeartbeats 4000000
def IsU (t : Tree) (p : List (List Int)) (post : List Dev) (acc : List Int) : Prop := acc ++ utils p post = utils p t.devices
theorem isU_nil {t : Tree} {p : List (List Int)} : IsU t p t.devices [] := rfl
theorem isU_zero {t : Tree} {p : List (List Int)} {post : List Dev} {acc : List Int} {x : Dev} (h : IsU t p (x :: post) acc) (hz : x.weight = 0) : IsU t p post acc := by
  unfold IsU at h ⊢
  simpa [utils, hz] using h
theorem isU_one {t : Tree} {p : List (List Int)} {post : List Dev} {acc : List Int} {x : Dev} (h : IsU t p (x :: post) acc) (hz : ¬ x.weight = 0) : IsU t p post (acc ++ [fullOf x.weight (cnt x.id (flatL p))]) := by
  unfold IsU at h ⊢
  simpa [utils, hz] using h
theorem utils_len {p : List (List Int)} : ∀ {l : List Dev}, (utils p l).length ≤ l.length
  | [] => Nat.le_refl _
  | d :: l => by
    have := utils_len (p := p) (l := l)
    simp only [utils]
    split <;> simp <;> omega
theorem hdmax_bnd {B : Int} {l : List Int} (h : ∀ x ∈ l, 0 ≤ x ∧ x ≤ B) (hl : l ≠ []) : 0 ≤ hdmaxL l ∧ hdmaxL l ≤ B := by
  cases l with
  | nil => exact absurd rfl hl
  | cons y l => exact max_bnd (fun x hx => h x (by simp [hx])) (h y (by simp))
theorem hdmin_bnd {B : Int} {l : List Int} (h : ∀ x ∈ l, 0 ≤ x ∧ x ≤ B) (hl : l ≠ []) : 0 ≤ hdminL l ∧ hdminL l ≤ B := by
  cases l with
  | nil => exact absurd rfl hl
  | cons y l => exact min_bnd (fun x hx => h x (by simp [hx])) (h y (by simp))

/- (impl.Tree).spread -/
def c72 : SCode := (.seq (.reg [⟨(some 2), .box 36 (.tmp 0), none⟩,
   ⟨(some 4), .assign (.const (.int .i64 0)), none⟩])
(.seq (.reg [⟨(some 5), .assign (.const (.slice none 0 0)), none⟩])
 (.seq (.seq (.reg [⟨(some 9), .load 36 (.tmp 2), none⟩,
      ⟨(some 10), .move (.tmp 1), none⟩,
      ⟨(some 11), .call ⟨(.value (.func 64)), #[(.tmp 9), (.tmp 10)], #[36, 53]⟩, none⟩,
      ⟨(some 12), .call ⟨(.builtin .len), #[(.tmp 11)], #[56]⟩, none⟩,
      ⟨(some 13), .move (.const (.int .i64 0)), none⟩])
   (.block 0 (.loop (.seq (.reg [⟨(some 14), .binOp .lss 3 (.tmp 13) (.tmp 12) 3, none⟩])
      (.seq (.cond (.tmp 14) .skip
        (.exit 0))
       (.seq (.block 1 (.seq (.reg [⟨(some 15), .move (.tmp 13), none⟩,
             ⟨(some 16), .indexAddr 56 (.tmp 11) (.tmp 13), none⟩,
             ⟨(some 17), .load 97 (.tmp 16), none⟩,
             ⟨(some 7), .alloc 97, none⟩,
             ⟨(some 6), .assign (.tmp 15), none⟩,
             ⟨none, .store 97 (.tmp 7) (.tmp 17), none⟩])
          (.seq (.reg [⟨(some 18), .fieldAddr 36 (.tmp 2) 0, none⟩,
              ⟨(some 19), .load 33 (.tmp 18), none⟩,
              ⟨(some 20), .move (.tmp 6), none⟩,
              ⟨(some 21), .indexAddr 33 (.tmp 19) (.tmp 20), none⟩,
              ⟨(some 22), .fieldAddr 125 (.tmp 21) 1, none⟩,
              ⟨(some 23), .load 2 (.tmp 22), none⟩,
              ⟨(some 8), .assign (.tmp 23), none⟩])
           (.seq (.reg [⟨(some 24), .move (.tmp 8), none⟩,
               ⟨(some 25), .binOp .gtr 2 (.tmp 24) (.const (.int .i64 0)) 2, none⟩])
            (.cond (.tmp 25) (.reg [⟨(some 26), .move (.tmp 5), none⟩,
                ⟨(some 27), .fieldAddr 97 (.tmp 7) 1, none⟩,
                ⟨(some 28), .load 2 (.tmp 27), none⟩,
                ⟨(some 29), .binOp .mul 2 (.const (.int .i64 840)) (.tmp 28) 2, none⟩,
                ⟨(some 30), .move (.tmp 8), none⟩,
                ⟨(some 31), .binOp .quo 2 (.tmp 29) (.tmp 30) 2, none⟩,
                ⟨(some 32), .buildSlice 28 1 #[(0, (.tmp 31))], none⟩,
                ⟨(some 33), .call ⟨(.builtin .append), #[(.tmp 26), (.tmp 32)], #[28, 28]⟩, none⟩,
                ⟨(some 5), .assign (.tmp 33), none⟩])
             .skip)))))
        (.reg [⟨(some 34), .binOp .add 3 (.tmp 13) (.const (.int .i64 1)) 3, none⟩,
           ⟨(some 13), .move (.tmp 34), none⟩])))))))
  (.seq (.seq (.reg [⟨(some 35), .move (.tmp 5), none⟩,
       ⟨(some 36), .call ⟨(.builtin .len), #[(.tmp 35)], #[28]⟩, none⟩,
       ⟨(some 37), .binOp .eql 3 (.tmp 36) (.const (.int .i64 0)) 3, none⟩])
    (.cond (.tmp 37) (.seq (.reg [⟨(some 4), .assign (.const (.int .i64 0)), none⟩])
      .ret)
     .skip))
   (.seq (.reg [⟨(some 38), .move (.tmp 5), none⟩,
       ⟨(some 39), .call ⟨(.value (.func 114)), #[(.tmp 38)], #[28]⟩, none⟩,
       ⟨(some 40), .move (.tmp 5), none⟩,
       ⟨(some 41), .call ⟨(.value (.func 115)), #[(.tmp 40)], #[28]⟩, none⟩,
       ⟨(some 42), .binOp .sub 2 (.tmp 39) (.tmp 41) 2, none⟩,
       ⟨(some 4), .assign (.tmp 42), none⟩])
    .ret)))))
theorem s72 : slimF Try.f72 = some (c72, [.t 4], 43) := by kernel_rfl
theorem o72 : okF [(64, g64), (114, g114), (115, g115)] Try.f72 = true := by kernel_rfl
noncomputable def g72 : Fsem := sem2 enTree (En.int .i64).list.list (fun t p => tblOk p = true ∧ devsOk t = true) (fun n t p => .int .i64 (spreadM (utils p t.devices)))
@[go_sem] theorem g72_eq {n τ τ' : Nat} {t : Tree} {p : List (List Int)} : g72 n [.agg [.sl τ 2 (t.devices.map (enDev.av τ)), .sl τ 3 (t.buckets.map (enBkt.av τ))], .sl τ' 1 (p.map ((En.int .i64).list.av τ'))] = ⟨tblOk p = true ∧ devsOk t = true, .int .i64 (spreadM (utils p t.devices))⟩ := sem2_eq  (E := enTree) (F := (En.int .i64).list.list)
theorem p72 : Pure Try.prog 72 g72 := by
  refine sem2_pure fun τ τ' t p n h2 hpre => ?_
  have hT : Table Try.prog [(64, g64), (114, g114), (115, g115)] := (.cons p64 (.cons p114 (.cons p115 .nil)))
  have hn0 : n ≠ 0 := by omega
  refine SatP.of_body hT hm Try.func72 s72 o72 h2 (by simp) ?_
  obtain ⟨hp1, hp2⟩ := hpre
  obtain ⟨hd16, hdw⟩ := devs_parts hp2
  have h112 := tbl_1000 hp1
  have h20 : (flatL p).length ≤ 1048576 := by omega
  have hub := utils_bnd (p := p) (by omega) (l := t.devices) fun d hd => (hdw d hd).1
  have hul := utils_len (p := p) (l := t.devices)
  simp (config := {contextual := true, maxSteps := 2000000, implicitDefEqProofs := false}) [c72, go_sem, hd16, h20]
  intro hL
  refine VW_listKE [(5, 2, 1)] [2, 5] hT h2 hm t.devices [2, 11, 12] (fun pre post (acc : List Int) => [.box 36 [.sl τ 2 (t.devices.map (enDev.av τ)), .sl τ 3 (t.buckets.map (enBkt.av τ))], .row 2 1 (acc.map (AV.int .i64))]) (fun pre post (acc : List Int) => [(13, .int .i64 pre.length), (5, .osl 1 1 0 acc.length)]) (fun pre post (acc : List Int) => IsU t p post acc ∧ acc.length ≤ pre.length) [] ?_ ?_ ?_ ?_
  · exact ⟨isU_nil, by simp⟩
  · simp [SubE, SubR, go_sem, vivs, vivT]
  · rintro acc ⟨hR, hR2⟩
    simp only [IsU, utils, List.append_nil] at hR
    rw [← hR] at hub ⊢
    by_cases hU : acc = []
    · subst hU
      simp (config := {contextual := true, maxSteps := 2000000, implicitDefEqProofs := false}) [go_sem, spreadM]
    · have b1 := hdmax_bnd hub hU
      have b2 := hdmin_bnd hub hU
      have hw : IntKind.i64.wrap (hdmaxL acc - hdminL acc) = hdmaxL acc - hdminL acc := wrap_ok (by omega) (by omega)
      have hne : ¬ (acc.length : Int) = 0 := by
        have := List.length_pos_iff.2 hU
        omega
      rw [spreadM_eq hU]
      simp (config := {contextual := true, maxSteps := 2000000, implicitDefEqProofs := false}) [go_sem, hU, hne, hw]
  · rintro pre x rest acc hl hlen ⟨hR, hR2⟩
    have hln : t.devices.length = pre.length + (rest.length + 1) := by rw [← hl]; simp
    have hn : nth (List.map (enDev.av τ) t.devices) (pre.length) = (enDev.av τ) x := by rw [← hl]; simp [go_sem]
    have hw : t.devices.length ≤ maxLen → IntKind.i64.wrap ((pre.length : Int) + 1) = (pre.length : Int) + 1 := fun h => wrap_ok (by omega) (by simp only [maxLen] at h; omega)
    have h3 : (0 : Int) ≤ (pre.length : Int) := by omega
    have h4 : (pre.length : Int) < (t.devices.length : Int) := by omega
    have h5 : ¬ (t.devices.length : Int) ≤ (pre.length : Int) := by omega
    have hn2 : nth (List.map (enLoad.av n) (loadsOf t p)) pre.length = enLoad.av n ⟨x.id, cnt x.id (flatL p)⟩ := by
      rw [loadsOf, ← hl]; simp [go_sem, ldOf]
    have hxw := hdw x (by rw [← hl]; simp)
    have hc := cnt_le (id := x.id) (l := flatL p)
    generalize hcc : cnt x.id (flatL p) = c at *
    have ha16 : acc.length + 1 ≤ 17 := by omega
    have w1 : IntKind.i64.wrap (840 * c) = 840 * c := wrap_ok (by omega) (by omega)
    by_cases hz : x.weight = 0
    · have hz' : ¬ 0 < x.weight := by omega
      have hR3 := isU_zero hR hz
      simp (config := {contextual := true, maxSteps := 2000000, implicitDefEqProofs := false}) [go_sem, hn, hn2, hw, h3, h4, h5, hz', hz, hL, SubE, SubR, vivs, vivT]
      exact ⟨acc, ⟨hR3, by omega⟩, rfl, rfl⟩
    · have hx0 : 0 < x.weight := by omega
      have hf := full_bnd (w := x.weight) (c := c) hx0 ⟨by omega, by omega⟩
      have w2 : IntKind.i64.wrap (fullOf x.weight c) = fullOf x.weight c := wrap_ok (by omega) (by omega)
      have hR3 := isU_one hR hz
      rw [hcc] at hR3
      simp only [fullOf] at w2 hR3
      simp (config := {contextual := true, maxSteps := 2000000, implicitDefEqProofs := false}) [go_sem, hn, hn2, hw, h3, h4, h5, hx0, hz, hL, w1, w2, SubE, SubR, vivs, vivT]
      exact ⟨by omega, acc ++ [(840 * c).tdiv x.weight], ⟨hR3, by simp; omega⟩, by simp, by simp⟩
/- impl.Spread -/
def c32 : SCode := (.seq (.reg [⟨(some 2), .box 36 (.tmp 0), none⟩,
   ⟨(some 4), .assign (.const (.int .i64 0)), none⟩,
   ⟨(some 5), .assign (.const (.int .i64 0)), none⟩])
(.seq (.seq (.reg [⟨(some 6), .load 36 (.tmp 2), none⟩,
     ⟨(some 7), .call ⟨(.value (.func 41)), #[(.tmp 6)], #[36]⟩, none⟩,
     ⟨(some 8), .unOp .not 4 (.tmp 7), none⟩,
     ⟨(some 9), .move (.tmp 8), none⟩,
     ⟨(some 10), .move (.tmp 1), (some (9, false))⟩,
     ⟨(some 11), .call ⟨(.value (.func 63)), #[(.tmp 10)], #[53]⟩, (some (9, false))⟩,
     ⟨(some 12), .unOp .not 4 (.tmp 11), (some (9, false))⟩,
     ⟨(some 13), .pick (.tmp 9) (.const (.bool true)) (.tmp 12), none⟩])
  (.cond (.tmp 13) (.seq (.reg [⟨(some 4), .assign (.const (.int .i64 0)), none⟩,
       ⟨(some 5), .assign (.const (.int .i64 1)), none⟩])
    .ret)
   .skip))
 (.seq (.reg [⟨(some 14), .load 36 (.tmp 2), none⟩,
     ⟨(some 15), .move (.tmp 1), none⟩,
     ⟨(some 16), .call ⟨(.value (.func 72)), #[(.tmp 14), (.tmp 15)], #[36, 53]⟩, none⟩,
     ⟨(some 4), .assign (.tmp 16), none⟩,
     ⟨(some 5), .assign (.const (.int .i64 0)), none⟩])
  .ret)))
theorem s32 : slimF Try.f32 = some (c32, [.t 4, .t 5], 17) := by kernel_rfl
theorem o32 : okF [(41, g41), (63, g63), (72, g72)] Try.f32 = true := by kernel_rfl
noncomputable def g32 : Fsem := semT2 enTree (En.int .i64).list.list (fun τ t p => τ ≠ 0) (fun n τ t p => .tup [.int .i64 (spR t p), .int .i64 (cdR t p)])
@[go_sem] theorem g32_eq {n τ τ' : Nat} {t : Tree} {p : List (List Int)} : g32 n [.agg [.sl τ 2 (t.devices.map (enDev.av τ)), .sl τ 3 (t.buckets.map (enBkt.av τ))], .sl τ' 1 (p.map ((En.int .i64).list.av τ'))] = ⟨τ ≠ 0, .tup [.int .i64 (spR t p), .int .i64 (cdR t p)]⟩ := semT2_eq  (E := enTree) (F := (En.int .i64).list.list) (seen_Tree)
theorem p32 : Pure Try.prog 32 g32 := by
  refine semT2_pure fun τ τ' t p n h2 hpre => ?_
  have hT : Table Try.prog [(41, g41), (63, g63), (72, g72)] := (.cons p41 (.cons p63 (.cons p72 .nil)))
  have hn0 : n ≠ 0 := by omega
  refine SatP.of_body hT hm Try.func32 s32 o32 h2 (by simp) ?_
  have hp0 : τ ≠ 0 := hpre
  cases ht : treeOk t
  · simp (config := {contextual := true, maxSteps := 2000000, implicitDefEqProofs := false}) [c32, go_sem, ht, hp0, spR, cdR, okTP]
  · cases hp : tblOk p
    · simp (config := {contextual := true, maxSteps := 2000000, implicitDefEqProofs := false}) [c32, go_sem, ht, hp, hp0, spR, cdR, okTP]
    · have hd := (treeOk_parts ht).1
      simp (config := {contextual := true, maxSteps := 2000000, implicitDefEqProofs := false}) [c32, go_sem, ht, hp, hd, hp0, spR, cdR, okTP]
end Go.Ve
