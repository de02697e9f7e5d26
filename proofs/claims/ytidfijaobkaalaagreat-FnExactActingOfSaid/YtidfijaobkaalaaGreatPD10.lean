/- The texts of this claim, part PD 10: the engine that runs the code on values, the data, the contracts. No condition. -/
import Derived.Test.YtidfijaobkaalaaGreatPD9
namespace Go.Ve
open Go.Proofs Go.RowKit
set_option linter.unusedVariables false
set_option linter.unusedSimpArgs false
set_option maxRecDepth 10000
set_option maxHeartbeats 4000000
theorem sat_sortL {n : Nat} {l : List Int} (hl : l.length ≤ 1048576) : SatM Tryz.prog n 152 [.row 2 1 (l.map (AV.int .i64))] [.osl 0 1 0 l.length] [.row 2 1 ((sortL l).map (AV.int .i64))] (.tup []) := sat_sort hl
def c147 : SCode := (.seq (.reg [⟨(some 4), .assign (.const (.slice none 0 0)), none⟩])
(.seq (.reg [⟨(some 8), .buildSlice 28 0 #[], none⟩,
    ⟨(some 5), .assign (.tmp 8), none⟩])
 (.seq (.reg [⟨(some 6), .assign (.const (.bool false)), none⟩])
  (.seq (.seq (.reg [⟨(some 7), .assign (.const (.int .i64 0)), none⟩])
    (.block 0 (.loop (.seq (.seq (.reg [⟨(some 9), .move (.tmp 7), none⟩,
           ⟨(some 10), .move (.tmp 0), none⟩,
           ⟨(some 11), .call ⟨(.builtin .len), #[(.tmp 10)], #[28]⟩, none⟩,
           ⟨(some 12), .binOp .lss 3 (.tmp 9) (.tmp 11) 3, none⟩])
        (.cond (.tmp 12) .skip
         (.exit 0)))
       (.seq (.block 1 (.seq (.seq (.reg [⟨(some 15), .move (.tmp 6), none⟩,
              ⟨(some 16), .unOp .not 4 (.tmp 15), none⟩,
              ⟨(some 17), .move (.tmp 16), none⟩,
              ⟨(some 18), .move (.tmp 0), (some (17, true))⟩,
              ⟨(some 19), .move (.tmp 7), (some (17, true))⟩,
              ⟨(some 20), .indexAddr 28 (.tmp 18) (.tmp 19), (some (17, true))⟩,
              ⟨(some 21), .load 2 (.tmp 20), (some (17, true))⟩,
              ⟨(some 22), .move (.tmp 1), (some (17, true))⟩,
              ⟨(some 23), .binOp .geq 2 (.tmp 21) (.tmp 22) 2, (some (17, true))⟩,
              ⟨(some 24), .pick (.tmp 17) (.tmp 23) (.const (.bool false)), none⟩])
           (.cond (.tmp 24) (.seq (.reg [⟨(some 6), .assign (.const (.bool true)), none⟩])
             (.seq (.reg [⟨(some 25), .move (.tmp 0), none⟩,
                 ⟨(some 26), .move (.tmp 7), none⟩,
                 ⟨(some 27), .indexAddr 28 (.tmp 25) (.tmp 26), none⟩,
                 ⟨(some 28), .load 2 (.tmp 27), none⟩,
                 ⟨(some 29), .move (.tmp 1), none⟩,
                 ⟨(some 30), .binOp .gtr 2 (.tmp 28) (.tmp 29) 2, none⟩])
              (.cond (.tmp 30) (.reg [⟨(some 31), .move (.tmp 5), none⟩,
                  ⟨(some 32), .move (.tmp 1), none⟩,
                  ⟨(some 33), .buildSlice 28 1 #[(0, (.tmp 32))], none⟩,
                  ⟨(some 34), .call ⟨(.builtin .append), #[(.tmp 31), (.tmp 33)], #[28, 28]⟩, none⟩,
                  ⟨(some 5), .assign (.tmp 34), none⟩])
               .skip)))
            .skip))
          (.reg [⟨(some 35), .move (.tmp 5), none⟩,
             ⟨(some 36), .move (.tmp 0), none⟩,
             ⟨(some 37), .move (.tmp 7), none⟩,
             ⟨(some 38), .indexAddr 28 (.tmp 36) (.tmp 37), none⟩,
             ⟨(some 39), .load 2 (.tmp 38), none⟩,
             ⟨(some 40), .buildSlice 28 1 #[(0, (.tmp 39))], none⟩,
             ⟨(some 41), .call ⟨(.builtin .append), #[(.tmp 35), (.tmp 40)], #[28, 28]⟩, none⟩,
             ⟨(some 5), .assign (.tmp 41), none⟩])))
        (.reg [⟨(some 13), .move (.tmp 7), none⟩,
           ⟨(some 14), .binOp .add 3 (.tmp 13) (.const (.int .i64 1)) 3, none⟩,
           ⟨(some 7), .assign (.tmp 14), none⟩]))))))
   (.seq (.seq (.reg [⟨(some 42), .move (.tmp 6), none⟩,
        ⟨(some 43), .unOp .not 4 (.tmp 42), none⟩])
     (.cond (.tmp 43) (.reg [⟨(some 44), .move (.tmp 5), none⟩,
         ⟨(some 45), .move (.tmp 1), none⟩,
         ⟨(some 46), .buildSlice 28 1 #[(0, (.tmp 45))], none⟩,
         ⟨(some 47), .call ⟨(.builtin .append), #[(.tmp 44), (.tmp 46)], #[28, 28]⟩, none⟩,
         ⟨(some 5), .assign (.tmp 47), none⟩])
      .skip))
    (.seq (.reg [⟨(some 48), .move (.tmp 5), none⟩,
        ⟨(some 4), .assign (.tmp 48), none⟩])
     .ret))))))
theorem s147 : slimF Tryz.f147 = some (c147, [.t 4], 49) := by kernel_rfl
theorem o147 : okF [] Tryz.f147 = true := by kernel_rfl
theorem sat_147 {n : Nat} (h2 : 2 ≤ n) {τ : Nat} {l : List Int} {v : Int} (hl : l.length ≤ 1048576) : SatM Tryz.prog n 147 [] [.sl τ 1 (l.map (AV.int .i64)), .int .i64 v] [.row 2 1 ((insL v l).map (AV.int .i64))] (.osl 0 1 0 (insL v l).length) := by
  have hT : Table Tryz.prog [] := .nil
  have hn0 : n ≠ 0 := by omega
  refine SatM.of_bodyV hT hm Tryz.func147 s147 o147 h2 (by simp) ?_
  have hl20 := hl
  generalize hr : insL v l = r
  rw [← insG_false] at hr
  simp (config := {contextual := true, maxSteps := 2000000, implicitDefEqProofs := false}) [c147, go_sem]
  refine VW_listKE [] [5] hT h2 hm l [0, 1] (fun pre post (b : List Int × Bool) => [.row 2 1 (b.1.map (AV.int .i64))]) (fun pre post (b : List Int × Bool) => [(7, .int .i64 pre.length), (5, .osl 0 1 0 b.1.length), (6, .bool b.2)]) (fun pre post (b : List Int × Bool) => b.1 ++ insG v b.2 post = r ∧ b.1.length ≤ pre.length + (if b.2 then 1 else 0)) ([], false) ?_ ?_ ?_ ?_
  · exact ⟨by simpa using hr, by simp⟩
  · simp [SubE, SubR, go_sem]
  · rintro ⟨acc, d⟩ ⟨hR, hR2⟩
    simp only at hR hR2
    cases d
    · simp [insG] at hR
      simp (config := {contextual := true, maxSteps := 2000000, implicitDefEqProofs := false}) [go_sem, ← hR]
      intro _
      refine ⟨by simp at hR2; omega, _, [2], Sub.refl 0 _, ?_⟩
      simp [retM, resAV, rvV, rinOf, Root.rnp, AV.rnp, AV.rnp2, AV.rnp1, AV.rnp0, posOf, go_sem, Rz, nz_int, nz_osl, nz_tup]
      intro x hx y hy
      rcases hx with ⟨a, _, rfl⟩ | rfl <;> (simp only [AV.cells, List.mem_cons, List.not_mem_nil, or_false] at hy; subst hy; exact .int ..)
    · simp [insG] at hR
      simp (config := {contextual := true, maxSteps := 2000000, implicitDefEqProofs := false}) [go_sem, hR]
      intro _
      refine ⟨_, [0], Sub.refl 0 _, ?_⟩
      simp [retM, resAV, rvV, rinOf, Root.rnp, AV.rnp, AV.rnp2, AV.rnp1, AV.rnp0, posOf, go_sem, Rz, nz_int, nz_osl, nz_tup]
  · rintro pre x post ⟨acc, d⟩ hl hlen ⟨hR, hR2⟩
    have hln : l.length = pre.length + (post.length + 1) := by rw [← hl]; simp
    have hn : nth (List.map (AV.int .i64) l) (pre.length) = (AV.int .i64) x := by rw [← hl]; simp [go_sem]
    have hw : l.length ≤ maxLen → IntKind.i64.wrap ((pre.length : Int) + 1) = (pre.length : Int) + 1 := fun h => wrap_ok (by omega) (by simp only [maxLen] at h; omega)
    have h3 : (0 : Int) ≤ (pre.length : Int) := by omega
    have h4 : (pre.length : Int) < (l.length : Int) := by omega
    have h5 : ¬ (l.length : Int) ≤ (pre.length : Int) := by omega
    simp only at hR hR2
    simp only [insG] at hR
    have hal : acc.length ≤ 1048580 := by split at hR2 <;> omega
    simp (config := {contextual := true, maxSteps := 2000000, implicitDefEqProofs := false}) [go_sem, hn, hw, h3, h4, h5, SubE, SubR]
    intro _
    cases d
    · simp at hR hR2
      refine ⟨fun _ hvx => ⟨fun hlt => ⟨by omega, by omega, acc ++ [v, x], ⟨by rw [if_pos hvx, if_pos hlt] at hR; simpa using hR, by simp; omega⟩, by simp, by simp⟩, fun hge => ⟨by omega, acc ++ [x], ⟨by rw [if_pos hvx, if_neg (by omega)] at hR; simpa using hR, by simp; omega⟩, by simp, by simp⟩⟩, fun hc => ⟨by omega, acc ++ [x], .inl ⟨⟨by rw [if_neg (by have := hc rfl; omega)] at hR; simpa using hR, by simp; omega⟩, by simp, by simp, rfl⟩⟩⟩
    · simp at hR hR2
      exact ⟨fun h => (by cases h), fun _ => ⟨by omega, acc ++ [x], .inr ⟨⟨by simpa using hR, by simp; omega⟩, by simp, by simp, rfl⟩⟩⟩
theorem dev_at {t : Tree} {n : Int} {τ : Nat} (h : 0 ≤ devI t n) : ∃ a : Nat, devI t n = a ∧ a < t.devices.length ∧ ∃ d : Dev, nth (t.devices.map (enDev.av τ)) a = enDev.av τ d ∧ d.weight = devW t n := by
  rcases idx_spec (fun d : Dev => decide (d.id = n)) t.devices with ⟨h1, hb⟩ | ⟨a, x, b, hl, h2, h3, hb⟩
  · unfold devI at h; omega
  · refine ⟨a.length, h3, by rw [hl]; simp, x, by rw [hl]; simp [go_sem], ?_⟩
    unfold devW
    rw [hb]
theorem bkt_at {t : Tree} {id : Int} {τ : Nat} {b : Bkt} (h : bktO t id = some b) : ∃ a : Nat, bktI t id = a ∧ a < t.buckets.length ∧ nth (t.buckets.map (enBkt.av τ)) a = enBkt.av τ b := by
  rcases idx_spec (fun b : Bkt => decide (b.id = id)) t.buckets with ⟨h1, hb⟩ | ⟨a, x, q, hl, h2, h3, hb⟩
  · unfold bktO at h; rw [hb] at h; cases h
  · unfold bktO at h
    rw [hb] at h
    obtain rfl := Option.some.inj h
    exact ⟨a.length, h3, by rw [hl]; simp, by rw [hl]; simp [go_sem]⟩
theorem bkt_no {t : Tree} {id : Int} (h : bktO t id = none) : bktI t id = -1 := by
  rcases idx_spec (fun b : Bkt => decide (b.id = id)) t.buckets with ⟨h1, hb⟩ | ⟨a, x, q, hl, h2, h3, hb⟩
  · exact h1
  · unfold bktO at h; rw [hb] at h; cases h
theorem under_32 {t : Tree} (h : treeOk t = true) {k : Nat} (hk : k ≤ 5) (id : Int) : (underF k t id).length ≤ 32768 := Nat.le_trans (under_len h k id) (pow8 hk)
theorem underG_32 {t : Tree} (h : treeOk t = true) {k : Nat} (hk : k ≤ 5) (id : Int) : (underG k t id).length ≤ 32768 := Nat.le_trans (underG_len h k id) (pow8 hk)
def c165 : SCode := (.seq (.reg [⟨(some 2), .box 39 (.tmp 0), none⟩,
   ⟨(some 4), .assign (.const (.slice none 0 0)), none⟩])
(.seq (.reg [⟨(some 9), .load 39 (.tmp 2), none⟩,
    ⟨(some 10), .move (.tmp 1), none⟩,
    ⟨(some 11), .call ⟨(.value (.func 195)), #[(.tmp 9), (.tmp 10)], #[39, 2]⟩, none⟩,
    ⟨(some 5), .assign (.tmp 11), none⟩])
 (.seq (.seq (.reg [⟨(some 12), .move (.tmp 5), none⟩,
      ⟨(some 13), .binOp .eql 209 (.tmp 12) (.const (.pointer none)) 209, none⟩])
   (.cond (.tmp 13) (.seq (.reg [⟨(some 14), .move (.tmp 1), none⟩,
        ⟨(some 15), .buildSlice 28 1 #[(0, (.tmp 14))], none⟩,
        ⟨(some 4), .assign (.tmp 15), none⟩])
     .ret)
    .skip))
  (.seq (.reg [⟨(some 6), .assign (.const (.slice none 0 0)), none⟩])
   (.seq (.seq (.reg [⟨(some 16), .move (.tmp 5), none⟩,
        ⟨(some 17), .nilCheck (.tmp 16), none⟩,
        ⟨(some 18), .fieldAddr 125 (.tmp 17) 2, none⟩,
        ⟨(some 19), .load 28 (.tmp 18), none⟩,
        ⟨(some 20), .call ⟨(.builtin .len), #[(.tmp 19)], #[28]⟩, none⟩,
        ⟨(some 21), .move (.const (.int .i64 0)), none⟩])
     (.block 0 (.loop (.seq (.reg [⟨(some 22), .binOp .lss 3 (.tmp 21) (.tmp 20) 3, none⟩])
        (.seq (.cond (.tmp 22) .skip
          (.exit 0))
         (.seq (.block 1 (.seq (.reg [⟨(some 23), .indexAddr 28 (.tmp 19) (.tmp 21), none⟩,
               ⟨(some 24), .load 2 (.tmp 23), none⟩,
               ⟨(some 8), .assign (.tmp 24), none⟩])
            (.reg [⟨(some 25), .move (.tmp 6), none⟩,
               ⟨(some 26), .load 39 (.tmp 2), none⟩,
               ⟨(some 27), .move (.tmp 8), none⟩,
               ⟨(some 28), .call ⟨(.value (.func 165)), #[(.tmp 26), (.tmp 27)], #[39, 2]⟩, none⟩,
               ⟨(some 29), .call ⟨(.builtin .append), #[(.tmp 25), (.tmp 28)], #[28, 28]⟩, none⟩,
               ⟨(some 6), .assign (.tmp 29), none⟩])))
          (.reg [⟨(some 30), .binOp .add 3 (.tmp 21) (.const (.int .i64 1)) 3, none⟩,
             ⟨(some 21), .move (.tmp 30), none⟩])))))))
    (.seq (.reg [⟨(some 31), .move (.tmp 6), none⟩,
        ⟨(some 32), .call ⟨(.value (.func 152)), #[(.tmp 31)], #[28]⟩, none⟩])
     (.seq (.reg [⟨(some 33), .move (.tmp 6), none⟩,
         ⟨(some 4), .assign (.tmp 33), none⟩])
      .ret)))))))
theorem s165 : slimF Tryz.f165 = some (c165, [.t 4], 34) := by kernel_rfl
noncomputable def gF165 (K : Nat) : Fsem := semT2 enTree (En.int .i64) (fun τ t id => τ ≠ 0 ∧ treeOk t = true ∧ kindOf t id + 1 < (K : Int)) (fun n τ t id => .sl n 1 ((underF K t id).map (AV.int .i64)))
@[go_sem] theorem gF165_eq {K n τ : Nat} {t : Tree} {id : Int} : gF165 K n [.agg [.sl τ 2 (t.devices.map (enDev.av τ)), .sl τ 3 (t.buckets.map (enBkt.av τ))], .int .i64 id] = ⟨τ ≠ 0 ∧ treeOk t = true ∧ kindOf t id + 1 < (K : Int), .sl n 1 ((underF K t id).map (AV.int .i64))⟩ := semT2_eq (τ' := 0) (E := enTree) (F := (En.int .i64)) (seen_Tree)
theorem o165 {K : Nat} : okF [(195, g195), (165, (gF165 K))] Tryz.f165 = true := by kernel_rfl
theorem pF165 : ∀ K : Nat, K ≤ 5 → Pure Tryz.prog 165 (gF165 K) := by
  intro K
  induction K with
  | zero =>
    intro _
    refine semT2_pure fun τ τ' t id n h2 hpre => ?_
    have := (kind_in hpre.2.1 id).1; have := hpre.2.2; omega
  | succ K ih =>
    intro hK
    refine semT2_pure fun τ τ' t id n h2 hpre => ?_
    have hT : Table Tryz.prog [(195, g195), (165, (gF165 K))] := (.cons p195 (.cons (ih (by omega)) .nil))
    have hn0 : n ≠ 0 := by omega
    refine SatP.of_body hT hm Tryz.func165 s165 o165 h2 (by simp) ?_
    obtain ⟨hp, ht, hk⟩ := hpre
    cases hb : bktO t id with
    | none =>
      simp only [underF, hb]
      simp (config := {contextual := true, maxSteps := 2000000, implicitDefEqProofs := false}) [c165, go_sem, hb, hp, hn0]
    | some b =>
      have hs := kind_some ht hb
      have h8 := items8 ht hs.2.2.2.1
      simp only [underF, hb]
      simp (config := {contextual := true, maxSteps := 2000000, implicitDefEqProofs := false}) [c165, go_sem, hb, hp]
      intro hL
      refine VW_listKE [(6, 2, 1)] [2, 6] hT h2 hm b.items [2, 19, 20] (fun pre post (u0 : Unit) => [.box 39 [.sl τ 2 (t.devices.map (enDev.av τ)), .sl τ 3 (t.buckets.map (enBkt.av τ))], .row 2 1 ((catF (underF K t) pre).map (AV.int .i64))]) (fun pre post (u0 : Unit) => [(21, .int .i64 pre.length), (6, .osl 1 1 0 (catF (underF K t) pre).length)]) (fun pre post (u0 : Unit) => (catF (underF K t) pre).length ≤ 32768 * pre.length) () ?_ ?_ ?_ ?_
      · simp [catF]
      · simp only [subE_go, subR_go, anOf_nil, anOf_cons, tmOk_nil, tmOk_cons]
        simp [go_sem, vivV, catF, subE_go, subR_go, anOf_nil, anOf_cons, tmOk_nil, tmOk_cons]
      · rintro u0 hR
        have hlc : (catF (underF K t) b.items).length ≤ 1048576 := by omega
        simp (config := {contextual := true, maxSteps := 2000000, implicitDefEqProofs := false}) [go_sem]
        refine ⟨152, [], rfl, [1], n, [.row 2 1 ((sortL (catF (underF K t) b.items)).map (AV.int .i64))], .tup [], Nat.le_refl _, by simp, by simp, by simp [go_sem, posOf], by simpa [go_sem, rinOf, posOf] using sat_sortL (n := n) (l := catF (underF K t) b.items) hlc, ?_⟩
        simp (config := {contextual := true, maxSteps := 2000000, implicitDefEqProofs := false}) [go_sem, stOf, putAll, gmap, Root.ren, AV.ren, AV.ren2, AV.ren1, AV.ren0]
        have hql := sortL_len (l := catF (underF K t) b.items)
        generalize sortL (catF (underF K t) b.items) = q at *
        rw [← hql]
        simp (config := {contextual := true, maxSteps := 2000000, implicitDefEqProofs := false}) [go_sem, hn0]
      · rintro pre x post u0 hl hlen hR
        have hln : b.items.length = pre.length + (post.length + 1) := by rw [← hl]; simp
        have hn : nth (List.map (AV.int .i64) b.items) (pre.length) = (AV.int .i64) x := by rw [← hl]; simp [go_sem]
        have hw : b.items.length ≤ maxLen → IntKind.i64.wrap ((pre.length : Int) + 1) = (pre.length : Int) + 1 := fun h => wrap_ok (by omega) (by simp only [maxLen] at h; omega)
        have h3 : (0 : Int) ≤ (pre.length : Int) := by omega
        have h4 : (pre.length : Int) < (b.items.length : Int) := by omega
        have h5 : ¬ (b.items.length : Int) ≤ (pre.length : Int) := by omega
        have hx : x ∈ b.items := by rw [← hl]; simp
        have hkx : kindOf t x + 1 < (K : Int) := by have := kind_item ht hs.2.2.2.1 hx; omega
        have hlx := under_32 ht (show K ≤ 5 by omega) x
        simp (config := {contextual := true, maxSteps := 2000000, implicitDefEqProofs := false}) [go_sem, hn, hw, h3, h4, h5, hL, hp, ht, hkx]
        rw [catF_one]
        generalize catF (underF K t) pre = q1 at *
        generalize underF K t x = q2 at *
        simp only [subE_go, subR_go, anOf_nil, anOf_cons, tmOk_nil, tmOk_cons]
        simp (config := {contextual := true, maxSteps := 2000000, implicitDefEqProofs := false}) [go_sem, subE_go, subR_go, anOf_nil, anOf_cons, tmOk_nil, tmOk_cons]
        omega
noncomputable def g165 : Fsem := gF165 5
@[go_sem] theorem g165_eq {n τ : Nat} {t : Tree} {id : Int} : g165 n [.agg [.sl τ 2 (t.devices.map (enDev.av τ)), .sl τ 3 (t.buckets.map (enBkt.av τ))], .int .i64 id] = ⟨τ ≠ 0 ∧ treeOk t = true ∧ kindOf t id + 1 < 5, .sl n 1 ((underF 5 t id).map (AV.int .i64))⟩ := gF165_eq
theorem p165 : Pure Tryz.prog 165 g165 := pF165 5 (Nat.le_refl _)
end Go.Ve
namespace Go.Ve
open Go.Proofs Go.RowKit
set_option linter.unusedVariables false
set_option linter.unusedSimpArgs false
set_option maxRecDepth 10000
set_option maxHeartbeats 4000000
def c155 : SCode := (.seq (.reg [⟨(some 2), .box 39 (.tmp 0), none⟩,
   ⟨(some 4), .assign (.const (.slice none 0 0)), none⟩])
(.seq (.reg [⟨(some 10), .load 39 (.tmp 2), none⟩,
    ⟨(some 11), .move (.tmp 1), none⟩,
    ⟨(some 12), .call ⟨(.value (.func 153)), #[(.tmp 10), (.tmp 11)], #[39, 2]⟩, none⟩,
    ⟨(some 5), .assign (.tmp 12), none⟩])
 (.seq (.seq (.reg [⟨(some 13), .move (.tmp 5), none⟩,
      ⟨(some 14), .binOp .lss 3 (.tmp 13) (.const (.int .i64 0)) 3, none⟩])
   (.cond (.tmp 14) (.seq (.reg [⟨(some 15), .move (.tmp 1), none⟩,
        ⟨(some 16), .buildSlice 28 1 #[(0, (.tmp 15))], none⟩,
        ⟨(some 4), .assign (.tmp 16), none⟩])
     .ret)
    .skip))
  (.seq (.reg [⟨(some 17), .buildSlice 28 0 #[], none⟩,
      ⟨(some 6), .assign (.tmp 17), none⟩])
   (.seq (.seq (.reg [⟨(some 7), .assign (.const (.int .i64 0)), none⟩])
     (.block 0 (.loop (.seq (.seq (.reg [⟨(some 18), .move (.tmp 7), none⟩,
            ⟨(some 19), .fieldAddr 39 (.tmp 2) 1, none⟩,
            ⟨(some 20), .load 37 (.tmp 19), none⟩,
            ⟨(some 21), .move (.tmp 5), none⟩,
            ⟨(some 22), .indexAddr 37 (.tmp 20) (.tmp 21), none⟩,
            ⟨(some 23), .fieldAddr 125 (.tmp 22) 2, none⟩,
            ⟨(some 24), .load 28 (.tmp 23), none⟩,
            ⟨(some 25), .call ⟨(.builtin .len), #[(.tmp 24)], #[28]⟩, none⟩,
            ⟨(some 26), .binOp .lss 3 (.tmp 18) (.tmp 25) 3, none⟩])
         (.cond (.tmp 26) .skip
          (.exit 0)))
        (.seq (.block 1 (.seq (.draw [⟨(some 29), .load 39 (.tmp 2), none⟩,
              ⟨(some 30), .fieldAddr 39 (.tmp 2) 1, none⟩,
              ⟨(some 31), .load 37 (.tmp 30), none⟩,
              ⟨(some 32), .move (.tmp 5), none⟩,
              ⟨(some 33), .indexAddr 37 (.tmp 31) (.tmp 32), none⟩,
              ⟨(some 34), .fieldAddr 125 (.tmp 33) 2, none⟩,
              ⟨(some 35), .load 28 (.tmp 34), none⟩,
              ⟨(some 36), .move (.tmp 7), none⟩,
              ⟨(some 37), .indexAddr 28 (.tmp 35) (.tmp 36), none⟩,
              ⟨(some 38), .load 2 (.tmp 37), none⟩,
              ⟨(some 39), .call ⟨(.value (.func 155)), #[(.tmp 29), (.tmp 38)], #[39, 2]⟩, none⟩,
              ⟨(some 8), .assign (.tmp 39), none⟩] [[], [], [1], [], [1, 2, 3], [1, 2, 3, 4], [1, 2, 3, 4, 5], [], [1, 2, 3, 4, 5, 6, 7], [1, 2, 3, 4, 5, 6, 7, 8], [0, 1, 2, 3, 4, 5, 6, 7, 8, 9], [0, 1, 2, 3, 4, 5, 6, 7, 8, 9, 10]])
           (.seq (.reg [⟨(some 9), .assign (.const (.int .i64 0)), none⟩])
            (.block 2 (.loop (.seq (.seq (.reg [⟨(some 40), .move (.tmp 9), none⟩,
                   ⟨(some 41), .move (.tmp 8), none⟩,
                   ⟨(some 42), .call ⟨(.builtin .len), #[(.tmp 41)], #[28]⟩, none⟩,
                   ⟨(some 43), .binOp .lss 3 (.tmp 40) (.tmp 42) 3, none⟩])
                (.cond (.tmp 43) .skip
                 (.exit 2)))
               (.seq (.block 3 (.reg [⟨(some 46), .move (.tmp 6), none⟩,
                    ⟨(some 47), .move (.tmp 8), none⟩,
                    ⟨(some 48), .move (.tmp 9), none⟩,
                    ⟨(some 49), .indexAddr 28 (.tmp 47) (.tmp 48), none⟩,
                    ⟨(some 50), .load 2 (.tmp 49), none⟩,
                    ⟨(some 51), .call ⟨(.value (.func 147)), #[(.tmp 46), (.tmp 50)], #[28, 2]⟩, none⟩,
                    ⟨(some 6), .assign (.tmp 51), none⟩]))
                (.reg [⟨(some 44), .move (.tmp 9), none⟩,
                   ⟨(some 45), .binOp .add 3 (.tmp 44) (.const (.int .i64 1)) 3, none⟩,
                   ⟨(some 9), .assign (.tmp 45), none⟩]))))))))
         (.reg [⟨(some 27), .move (.tmp 7), none⟩,
            ⟨(some 28), .binOp .add 3 (.tmp 27) (.const (.int .i64 1)) 3, none⟩,
            ⟨(some 7), .assign (.tmp 28), none⟩]))))))
    (.seq (.reg [⟨(some 52), .move (.tmp 6), none⟩,
        ⟨(some 4), .assign (.tmp 52), none⟩])
     .ret))))))
theorem s155 : slimF Tryz.f155 = some (c155, [.t 4], 53) := by kernel_rfl
noncomputable def gF155 (K : Nat) : Fsem := semT2 enTree (En.int .i64) (fun τ t id => τ ≠ 0 ∧ treeOk t = true ∧ kindOf t id + 1 < (K : Int)) (fun n τ t id => .sl n 1 ((underG K t id).map (AV.int .i64)))
@[go_sem] theorem gF155_eq {K n τ : Nat} {t : Tree} {id : Int} : gF155 K n [.agg [.sl τ 2 (t.devices.map (enDev.av τ)), .sl τ 3 (t.buckets.map (enBkt.av τ))], .int .i64 id] = ⟨τ ≠ 0 ∧ treeOk t = true ∧ kindOf t id + 1 < (K : Int), .sl n 1 ((underG K t id).map (AV.int .i64))⟩ := semT2_eq (τ' := 0) (E := enTree) (F := (En.int .i64)) (seen_Tree)
theorem o155 {K : Nat} : okF [(153, g153), (155, (gF155 K))] Tryz.f155 = true := by kernel_rfl
theorem pF155 : ∀ K : Nat, K ≤ 5 → Pure Tryz.prog 155 (gF155 K) := by
  intro K
  induction K with
  | zero =>
    intro _
    refine semT2_pure fun τ τ' t id n h2 hpre => ?_
    have := (kind_in hpre.2.1 id).1; have := hpre.2.2; omega
  | succ K ih =>
    intro hK
    refine semT2_pure fun τ τ' t id n h2 hpre => ?_
    have hT : Table Tryz.prog [(153, g153), (155, (gF155 K))] := (.cons p153 (.cons (ih (by omega)) .nil))
    have hn0 : n ≠ 0 := by omega
    refine SatP.of_body hT hm Tryz.func155 s155 o155 h2 (by simp) ?_
    obtain ⟨hp, ht, hk⟩ := hpre
    cases hb : bktO t id with
    | none =>
      have hbn := bkt_no hb
      simp only [underG, hb]
      simp (config := {contextual := true, maxSteps := 2000000, implicitDefEqProofs := false}) [c155, go_sem, hb, hbn, hp, hn0]
    | some b =>
      have hs := kind_some ht hb
      have h8 := items8 ht hs.2.2.2.1
      obtain ⟨a, ha, hal, han⟩ := bkt_at (τ := τ) hb
      have ha0 : (0 : Int) ≤ a := by omega
      have ha1 : ¬ (a : Int) < 0 := by omega
      have ha2 : (a : Int) < (t.buckets.length : Int) := by omega
      simp only [underG, hb]
      generalize hr : putF (underG K t) [] b.items = r
      simp (config := {contextual := true, maxSteps := 2000000, implicitDefEqProofs := false}) [c155, go_sem, ha, ha1, hp]
      refine VW_listKE [] [2, 6] hT h2 hm b.items [2, 5] (fun pre post (acc : List Int) => [.box 39 [.sl τ 2 (t.devices.map (enDev.av τ)), .sl τ 3 (t.buckets.map (enBkt.av τ))], .row 2 1 (acc.map (AV.int .i64))]) (fun pre post (acc : List Int) => [(7, .int .i64 pre.length), (6, .osl 1 1 0 acc.length)]) (fun pre post (acc : List Int) => putF (underG K t) acc post = r ∧ acc.length ≤ 32768 * pre.length) [] ?_ ?_ ?_ ?_
      · exact ⟨hr, by simp⟩
      · simp only [subE_go, subR_go, anOf_nil, anOf_cons, tmOk_nil, tmOk_cons]
        simp [go_sem, subE_go, subR_go, anOf_nil, anOf_cons, tmOk_nil, tmOk_cons]
      · rintro acc ⟨hR, hR2⟩
        simp only [putF] at hR
        subst hR
        simp (config := {contextual := true, maxSteps := 2000000, implicitDefEqProofs := false}) [go_sem, ha0, ha2, hal, han, hn0]
      · rintro pre0 x rest acc hl hlen ⟨hR, hR2⟩
        have hln : b.items.length = pre0.length + (rest.length + 1) := by rw [← hl]; simp
        have hn : nth (List.map (AV.int .i64) b.items) (pre0.length) = (AV.int .i64) x := by rw [← hl]; simp [go_sem]
        have hw : b.items.length ≤ maxLen → IntKind.i64.wrap ((pre0.length : Int) + 1) = (pre0.length : Int) + 1 := fun h => wrap_ok (by omega) (by simp only [maxLen] at h; omega)
        have h3 : (0 : Int) ≤ (pre0.length : Int) := by omega
        have h4 : (pre0.length : Int) < (b.items.length : Int) := by omega
        have h5 : ¬ (b.items.length : Int) ≤ (pre0.length : Int) := by omega
        have hx : x ∈ b.items := by rw [← hl]; simp
        have hkx : kindOf t x + 1 < (K : Int) := by have := kind_item ht hs.2.2.2.1 hx; omega
        have hlx := underG_32 ht (show K ≤ 5 by omega) x
        simp only [putF] at hR
        simp (config := {contextual := true, maxSteps := 2000000, implicitDefEqProofs := false}) [go_sem, hn, hw, h3, h4, h5, ha0, ha2, hal, han, hp, ht, hkx]
        intro hL
        generalize underG K t x = ms at *
        refine VW_listKE [] [2, 6] hT h2 hm ms [2, 5, 7, 8] (fun pre post (acc : List Int) => [.box 39 [.sl τ 2 (t.devices.map (enDev.av τ)), .sl τ 3 (t.buckets.map (enBkt.av τ))], .row 2 1 (acc.map (AV.int .i64))]) (fun pre post (acc : List Int) => [(9, .int .i64 pre.length), (6, .osl 1 1 0 acc.length)]) (fun pre post (acc : List Int) => putF (underG K t) (putAllL acc post) rest = r ∧ acc.length ≤ 32768 * pre0.length + pre.length) acc ?_ ?_ ?_ ?_
        · exact ⟨hR, by simpa using hR2⟩
        · simp only [subE_go, subR_go, anOf_nil, anOf_cons, tmOk_nil, tmOk_cons]
          simp [go_sem, subE_go, subR_go, anOf_nil, anOf_cons, tmOk_nil, tmOk_cons]
        · rintro acc ⟨hS, hS2⟩
          simp only [putAllL] at hS
          simp (config := {contextual := true, maxSteps := 2000000, implicitDefEqProofs := false}) [go_sem, hw, hL]
          intro _
          refine ⟨acc, ⟨hS, by omega⟩, ?_⟩
          simp only [subE_go, subR_go, anOf_nil, anOf_cons, tmOk_nil, tmOk_cons]
          simp (config := {contextual := true, maxSteps := 2000000, implicitDefEqProofs := false}) [go_sem, subE_go, subR_go, anOf_nil, anOf_cons, tmOk_nil, tmOk_cons]
        · rintro pre y post acc hl' hlen' ⟨hS, hS2⟩
          have hln' : ms.length = pre.length + (post.length + 1) := by rw [← hl']; simp
          have hn' : nth (List.map (AV.int .i64) ms) (pre.length) = (AV.int .i64) y := by rw [← hl']; simp [go_sem]
          have hw' : ms.length ≤ maxLen → IntKind.i64.wrap ((pre.length : Int) + 1) = (pre.length : Int) + 1 := fun h => wrap_ok (by omega) (by simp only [maxLen] at h; omega)
          have h3' : (0 : Int) ≤ (pre.length : Int) := by omega
          have h4' : (pre.length : Int) < (ms.length : Int) := by omega
          have h5' : ¬ (ms.length : Int) ≤ (pre.length : Int) := by omega
          simp only [putAllL] at hS
          have hpl : pre0.length ≤ 8 := by omega
          simp (config := {contextual := true, maxSteps := 2000000, implicitDefEqProofs := false}) [go_sem, hn', hw', h3', h4', h5']
          intro hL'
          refine ⟨147, [], rfl, [], n, [.row 2 1 ((insL y acc).map (AV.int .i64))], .osl 0 1 0 (insL y acc).length, Nat.le_refl _, by simp, by simp, by simp [go_sem, posOf], by simpa [go_sem, rinOf, posOf] using sat_147 h2 (τ := 0) (l := acc) (v := y) (by omega), ?_⟩
          simp (config := {contextual := true, maxSteps := 2000000, implicitDefEqProofs := false}) [go_sem, stOf, putAll, gmap, Root.ren, AV.ren, AV.ren2, AV.ren1, AV.ren0, hw', hL']
          have hil := insL_len y acc
          refine ⟨insL y acc, ⟨hS, by omega⟩, ?_⟩
          generalize insL y acc = q at *
          simp only [subE_go, subR_go, anOf_nil, anOf_cons, tmOk_nil, tmOk_cons]
          simp (config := {contextual := true, maxSteps := 2000000, implicitDefEqProofs := false}) [go_sem, subE_go, subR_go, anOf_nil, anOf_cons, tmOk_nil, tmOk_cons]
noncomputable def g155 : Fsem := gF155 5
@[go_sem] theorem g155_eq {n τ : Nat} {t : Tree} {id : Int} : g155 n [.agg [.sl τ 2 (t.devices.map (enDev.av τ)), .sl τ 3 (t.buckets.map (enBkt.av τ))], .int .i64 id] = ⟨τ ≠ 0 ∧ treeOk t = true ∧ kindOf t id + 1 < 5, .sl n 1 ((underG 5 t id).map (AV.int .i64))⟩ := gF155_eq
theorem p155 : Pure Tryz.prog 155 g155 := pF155 5 (Nat.le_refl _)
def c166 : SCode := (.seq (.reg [⟨(some 2), .box 39 (.tmp 0), none⟩,
   ⟨(some 4), .assign (.const (.int .i64 0)), none⟩])
(.seq (.reg [⟨(some 5), .assign (.const (.int .i64 0)), none⟩])
 (.seq (.seq (.reg [⟨(some 8), .load 39 (.tmp 2), none⟩,
      ⟨(some 9), .move (.tmp 1), none⟩,
      ⟨(some 10), .call ⟨(.value (.func 165)), #[(.tmp 8), (.tmp 9)], #[39, 2]⟩, none⟩,
      ⟨(some 11), .call ⟨(.builtin .len), #[(.tmp 10)], #[28]⟩, none⟩,
      ⟨(some 12), .move (.const (.int .i64 0)), none⟩])
   (.block 0 (.loop (.seq (.reg [⟨(some 13), .binOp .lss 3 (.tmp 12) (.tmp 11) 3, none⟩])
      (.seq (.cond (.tmp 13) .skip
        (.exit 0))
       (.seq (.block 1 (.seq (.reg [⟨(some 14), .indexAddr 28 (.tmp 10) (.tmp 12), none⟩,
             ⟨(some 15), .load 2 (.tmp 14), none⟩,
             ⟨(some 7), .assign (.tmp 15), none⟩])
          (.draw [⟨(some 16), .move (.tmp 5), none⟩,
             ⟨(some 17), .fieldAddr 39 (.tmp 2) 0, none⟩,
             ⟨(some 18), .load 36 (.tmp 17), none⟩,
             ⟨(some 19), .load 39 (.tmp 2), none⟩,
             ⟨(some 20), .move (.tmp 7), none⟩,
             ⟨(some 21), .call ⟨(.value (.func 163)), #[(.tmp 19), (.tmp 20)], #[39, 2]⟩, none⟩,
             ⟨(some 22), .indexAddr 36 (.tmp 18) (.tmp 21), none⟩,
             ⟨(some 23), .fieldAddr 135 (.tmp 22) 1, none⟩,
             ⟨(some 24), .load 2 (.tmp 23), none⟩,
             ⟨(some 25), .binOp .add 2 (.tmp 16) (.tmp 24) 2, none⟩,
             ⟨(some 5), .assign (.tmp 25), none⟩] [[], [], [1], [], [], [3, 4], [1, 2, 3, 4, 5], [1, 2, 3, 4, 5, 6], [1, 2, 3, 4, 5, 6, 7], [0, 1, 2, 3, 4, 5, 6, 7, 8], [0, 1, 2, 3, 4, 5, 6, 7, 8, 9]])))
        (.reg [⟨(some 26), .binOp .add 3 (.tmp 12) (.const (.int .i64 1)) 3, none⟩,
           ⟨(some 12), .move (.tmp 26), none⟩])))))))
  (.seq (.reg [⟨(some 27), .move (.tmp 5), none⟩,
      ⟨(some 4), .assign (.tmp 27), none⟩])
   .ret))))
theorem s166 : slimF Tryz.f166 = some (c166, [.t 4], 28) := by kernel_rfl
theorem o166 : okF [(165, g165), (163, g163)] Tryz.f166 = true := by kernel_rfl
noncomputable def g166 : Fsem := semT2 enTree (En.int .i64) (fun τ t id => τ ≠ 0 ∧ treeOk t = true ∧ 0 ≤ kindOf t id) (fun n τ t id => .int .i64 (wt t id))
@[go_sem] theorem g166_eq {n τ : Nat} {t : Tree} {id : Int} : g166 n [.agg [.sl τ 2 (t.devices.map (enDev.av τ)), .sl τ 3 (t.buckets.map (enBkt.av τ))], .int .i64 id] = ⟨τ ≠ 0 ∧ treeOk t = true ∧ 0 ≤ kindOf t id, .int .i64 (wt t id)⟩ := semT2_eq (τ' := 0) (E := enTree) (F := (En.int .i64)) (seen_Tree)
theorem p166 : Pure Tryz.prog 166 g166 := by
  refine semT2_pure fun τ τ' t id n h2 hpre => ?_
  have hT : Table Tryz.prog [(165, g165), (163, g163)] := (.cons p165 (.cons p163 .nil))
  have hn0 : n ≠ 0 := by omega
  refine SatP.of_body hT hm Tryz.func166 s166 o166 h2 (by simp) ?_
  obtain ⟨hp, ht, hk⟩ := hpre
  have hk5 : ∀ x, kindOf t x + 1 < 5 := fun x => by have := kind_in ht x; omega
  have hk6 : ∀ x, kindOf t x < 4 := fun x => by have := kind_in ht x; omega
  generalize hr : wt t id = r
  unfold wt at hr
  have hd := under_dev ht 5 id hk (by have := hk6 id; omega)
  have hl5 := under_32 ht (Nat.le_refl 5) id
  simp (config := {contextual := true, maxSteps := 2000000, implicitDefEqProofs := false}) [c166, go_sem, hp, ht, hk5, hk6]
  intro hL
  generalize underF 5 t id = ls at *
  refine VW_listK hT h2 hm ls [2, 10, 11] (fun pre post (b : Int) => [(12, .int .i64 pre.length), (5, .int .i64 b)]) (fun pre post (b : Int) => sumW t b post = r ∧ 0 ≤ b ∧ b ≤ 8 * (pre.length : Int)) 0 ?_ ?_ ?_ ?_
  · exact ⟨hr, by decide, by simp⟩
  · simp [SubI, go_sem]
  · rintro b ⟨hR, hb0, hb1⟩
    simp (config := {contextual := true, maxSteps := 2000000, implicitDefEqProofs := false}) [go_sem]
    simpa [sumW] using hR
  · rintro pre x post b hl hlen ⟨hR, hb0, hb1⟩
    have hln : ls.length = pre.length + (post.length + 1) := by rw [← hl]; simp
    have hn : nth (List.map (AV.int .i64) ls) (pre.length) = (AV.int .i64) x := by rw [← hl]; simp [go_sem]
    have hw : ls.length ≤ maxLen → IntKind.i64.wrap ((pre.length : Int) + 1) = (pre.length : Int) + 1 := fun h => wrap_ok (by omega) (by simp only [maxLen] at h; omega)
    have h3 : (0 : Int) ≤ (pre.length : Int) := by omega
    have h4 : (pre.length : Int) < (ls.length : Int) := by omega
    have h5 : ¬ (ls.length : Int) ≤ (pre.length : Int) := by omega
    obtain ⟨a, ha, hal, d, han, hdw⟩ := dev_at (τ := τ) (hd x (by rw [← hl]; simp))
    have ha0 : (0 : Int) ≤ a := by omega
    have ha2 : (a : Int) < (t.devices.length : Int) := by omega
    have hwi := devW_in ht x
    have hwb : IntKind.i64.wrap (b + d.weight) = b + devW t x := by rw [hdw]; exact wrap_ok (by omega) (by omega)
    simp only [sumW] at hR
    simp (config := {contextual := true, maxSteps := 2000000, implicitDefEqProofs := false}) [go_sem, hn, hw, hL, h3, h4, h5, ha, ha0, ha2, hal, han, hwb, hp, SubI]
    exact ⟨hR, by omega, by omega⟩
def c236 : SCode := (.seq (.reg [⟨(some 2), .box 39 (.tmp 0), none⟩,
   ⟨(some 4), .assign (.const (.int .i64 0)), none⟩])
(.seq (.reg [⟨(some 8), .load 39 (.tmp 2), none⟩,
    ⟨(some 9), .move (.tmp 1), none⟩,
    ⟨(some 10), .call ⟨(.value (.func 155)), #[(.tmp 8), (.tmp 9)], #[39, 2]⟩, none⟩,
    ⟨(some 5), .assign (.tmp 10), none⟩])
 (.seq (.reg [⟨(some 6), .assign (.const (.int .i64 0)), none⟩])
  (.seq (.seq (.reg [⟨(some 7), .assign (.const (.int .i64 0)), none⟩])
    (.block 0 (.loop (.seq (.seq (.reg [⟨(some 11), .move (.tmp 7), none⟩,
           ⟨(some 12), .move (.tmp 5), none⟩,
           ⟨(some 13), .call ⟨(.builtin .len), #[(.tmp 12)], #[28]⟩, none⟩,
           ⟨(some 14), .binOp .lss 3 (.tmp 11) (.tmp 13) 3, none⟩])
        (.cond (.tmp 14) .skip
         (.exit 0)))
       (.seq (.block 1 (.draw [⟨(some 17), .move (.tmp 6), none⟩,
            ⟨(some 18), .fieldAddr 39 (.tmp 2) 0, none⟩,
            ⟨(some 19), .load 36 (.tmp 18), none⟩,
            ⟨(some 20), .load 39 (.tmp 2), none⟩,
            ⟨(some 21), .move (.tmp 5), none⟩,
            ⟨(some 22), .move (.tmp 7), none⟩,
            ⟨(some 23), .indexAddr 28 (.tmp 21) (.tmp 22), none⟩,
            ⟨(some 24), .load 2 (.tmp 23), none⟩,
            ⟨(some 25), .call ⟨(.value (.func 97)), #[(.tmp 20), (.tmp 24)], #[39, 2]⟩, none⟩,
            ⟨(some 26), .indexAddr 36 (.tmp 19) (.tmp 25), none⟩,
            ⟨(some 27), .fieldAddr 135 (.tmp 26) 1, none⟩,
            ⟨(some 28), .load 2 (.tmp 27), none⟩,
            ⟨(some 29), .binOp .add 2 (.tmp 17) (.tmp 28) 2, none⟩,
            ⟨(some 6), .assign (.tmp 29), none⟩] [[], [], [1], [], [], [], [4, 5], [4, 5, 6], [3, 4, 5, 6, 7], [1, 2, 3, 4, 5, 6, 7, 8], [1, 2, 3, 4, 5, 6, 7, 8, 9], [1, 2, 3, 4, 5, 6, 7, 8, 9, 10], [0, 1, 2, 3, 4, 5, 6, 7, 8, 9, 10, 11], [0, 1, 2, 3, 4, 5, 6, 7, 8, 9, 10, 11, 12]]))
        (.reg [⟨(some 15), .move (.tmp 7), none⟩,
           ⟨(some 16), .binOp .add 3 (.tmp 15) (.const (.int .i64 1)) 3, none⟩,
           ⟨(some 7), .assign (.tmp 16), none⟩]))))))
   (.seq (.reg [⟨(some 30), .move (.tmp 6), none⟩,
       ⟨(some 4), .assign (.tmp 30), none⟩])
    .ret)))))
theorem s236 : slimF Tryz.f236 = some (c236, [.t 4], 31) := by kernel_rfl
theorem o236 : okF [(155, g155), (97, g97)] Tryz.f236 = true := by kernel_rfl
noncomputable def g236 : Fsem := semT2 enTree (En.int .i64) (fun τ t id => τ ≠ 0 ∧ treeOk t = true ∧ 0 ≤ kindOf t id) (fun n τ t id => .int .i64 (wt t id))
@[go_sem] theorem g236_eq {n τ : Nat} {t : Tree} {id : Int} : g236 n [.agg [.sl τ 2 (t.devices.map (enDev.av τ)), .sl τ 3 (t.buckets.map (enBkt.av τ))], .int .i64 id] = ⟨τ ≠ 0 ∧ treeOk t = true ∧ 0 ≤ kindOf t id, .int .i64 (wt t id)⟩ := semT2_eq (τ' := 0) (E := enTree) (F := (En.int .i64)) (seen_Tree)
theorem p236 : Pure Tryz.prog 236 g236 := by
  refine semT2_pure fun τ τ' t id n h2 hpre => ?_
  have hT : Table Tryz.prog [(155, g155), (97, g97)] := (.cons p155 (.cons p97 .nil))
  have hn0 : n ≠ 0 := by omega
  refine SatP.of_body hT hm Tryz.func236 s236 o236 h2 (by simp) ?_
  obtain ⟨hp, ht, hk⟩ := hpre
  have hk5 : ∀ x, kindOf t x + 1 < 5 := fun x => by have := kind_in ht x; omega
  have hk6 : ∀ x, kindOf t x < 4 := fun x => by have := kind_in ht x; omega
  have hug := underG_eq ht 5
  generalize hr : wt t id = r
  unfold wt at hr
  have hd := under_dev ht 5 id hk (by have := hk6 id; omega)
  have hl5 := under_32 ht (Nat.le_refl 5) id
  simp (config := {contextual := true, maxSteps := 2000000, implicitDefEqProofs := false}) [c236, go_sem, hp, ht, hk5, hk6, hug]
  generalize underF 5 t id = ls at *
  refine VW_listK hT h2 hm ls [2, 5] (fun pre post (b : Int) => [(7, .int .i64 pre.length), (6, .int .i64 b)]) (fun pre post (b : Int) => sumW t b post = r ∧ 0 ≤ b ∧ b ≤ 8 * (pre.length : Int)) 0 ?_ ?_ ?_ ?_
  · exact ⟨hr, by decide, by simp⟩
  · simp [SubI, go_sem]
  · rintro b ⟨hR, hb0, hb1⟩
    simp (config := {contextual := true, maxSteps := 2000000, implicitDefEqProofs := false}) [go_sem]
    intro _
    simpa [sumW] using hR
  · rintro pre x post b hl hlen ⟨hR, hb0, hb1⟩
    have hln : ls.length = pre.length + (post.length + 1) := by rw [← hl]; simp
    have hn : nth (List.map (AV.int .i64) ls) (pre.length) = (AV.int .i64) x := by rw [← hl]; simp [go_sem]
    have hw : ls.length ≤ maxLen → IntKind.i64.wrap ((pre.length : Int) + 1) = (pre.length : Int) + 1 := fun h => wrap_ok (by omega) (by simp only [maxLen] at h; omega)
    have h3 : (0 : Int) ≤ (pre.length : Int) := by omega
    have h4 : (pre.length : Int) < (ls.length : Int) := by omega
    have h5 : ¬ (ls.length : Int) ≤ (pre.length : Int) := by omega
    obtain ⟨a, ha, hal, d, han, hdw⟩ := dev_at (τ := τ) (hd x (by rw [← hl]; simp))
    have ha0 : (0 : Int) ≤ a := by omega
    have ha2 : (a : Int) < (t.devices.length : Int) := by omega
    have hwi := devW_in ht x
    have hwb : IntKind.i64.wrap (b + d.weight) = b + devW t x := by rw [hdw]; exact wrap_ok (by omega) (by omega)
    simp only [sumW] at hR
    simp (config := {contextual := true, maxSteps := 2000000, implicitDefEqProofs := false}) [go_sem, hn, hw, h3, h4, h5, ha, ha0, ha2, hal, han, hwb, hp, SubI]
    intro _
    exact ⟨hR, by omega, by omega⟩
end Go.Ve
namespace Go.Ve
open Go.Proofs Go.RowKit
set_option linter.unusedVariables false
set_option linter.unusedSimpArgs false
set_option maxRecDepth 10000
set_option maxHeartbeats 4000000
def c113 : SCode := (.seq (.reg [⟨(some 4), .assign (.const (.int .i64 0)), none⟩])
(.seq (.seq (.reg [⟨(some 6), .move (.tmp 0), none⟩,
     ⟨(some 7), .call ⟨(.builtin .len), #[(.tmp 6)], #[28]⟩, none⟩,
     ⟨(some 8), .move (.const (.int .i64 0)), none⟩])
  (.block 0 (.loop (.seq (.reg [⟨(some 9), .binOp .lss 3 (.tmp 8) (.tmp 7) 3, none⟩])
     (.seq (.cond (.tmp 9) .skip
       (.exit 0))
      (.seq (.block 1 (.seq (.reg [⟨(some 10), .move (.tmp 8), none⟩,
            ⟨(some 5), .assign (.tmp 10), none⟩])
         (.seq (.reg [⟨(some 11), .move (.tmp 1), none⟩,
             ⟨(some 12), .move (.tmp 0), none⟩,
             ⟨(some 13), .move (.tmp 5), none⟩,
             ⟨(some 14), .indexAddr 28 (.tmp 12) (.tmp 13), none⟩,
             ⟨(some 15), .load 2 (.tmp 14), none⟩,
             ⟨(some 16), .binOp .eql 2 (.tmp 11) (.tmp 15) 2, none⟩])
          (.cond (.tmp 16) (.seq (.reg [⟨(some 17), .move (.tmp 5), none⟩,
               ⟨(some 4), .assign (.tmp 17), none⟩])
            .ret)
           .skip))))
       (.reg [⟨(some 18), .binOp .add 3 (.tmp 8) (.const (.int .i64 1)) 3, none⟩,
          ⟨(some 8), .move (.tmp 18), none⟩])))))))
 (.seq (.reg [⟨(some 4), .assign (.const (.int .i64 (-1))), none⟩])
  .ret)))
theorem s113 : slimF Tryz.f113 = some (c113, [.t 4], 19) := by kernel_rfl
theorem o113 : okF [] Tryz.f113 = true := by kernel_rfl
noncomputable def g113 : Fsem := sem2 (En.int .i64).list (En.int .i64) (fun l v => True) (fun n l v => .int .i64 (idx (fun y => decide (v = y)) l))
@[go_sem] theorem g113_eq {n τ : Nat} {l : List Int} {v : Int} : g113 n [.sl τ 1 (l.map (AV.int .i64)), .int .i64 v] = ⟨True, .int .i64 (idx (fun y => decide (v = y)) l)⟩ := sem2_eq (τ' := 0) (E := (En.int .i64).list) (F := (En.int .i64))
theorem p113 : Pure Tryz.prog 113 g113 := by
  refine sem2_pure fun τ τ' l v n h2 hpre => ?_
  have hT : Table Tryz.prog [] := .nil
  have hn0 : n ≠ 0 := by omega
  refine SatP.of_body hT hm Tryz.func113 s113 o113 h2 (by simp) ?_
  simp (config := {contextual := true, maxSteps := 2000000, implicitDefEqProofs := false}) [c113, go_sem]
  intro hL
  refine VW_listK hT h2 hm l [0, 1, 7] (fun pre post (b : Unit) => [(8, .int .i64 pre.length)]) (fun pre post (b : Unit) => idxF (fun y => decide (v = y)) post pre.length = idx (fun y => decide (v = y)) l) () ?_ ?_ ?_ ?_
  · rfl
  · simp [SubI, go_sem]
  · rintro _ hR
    have hR' : -1 = idx (fun y => decide (v = y)) l := hR
    simp (config := {contextual := true, maxSteps := 2000000, implicitDefEqProofs := false}) [go_sem, ← hR']
  · rintro pre x post _ hl hlen hR
    have hln : l.length = pre.length + (post.length + 1) := by rw [← hl]; simp
    have hn : nth (List.map (AV.int .i64) l) (pre.length) = (AV.int .i64) x := by rw [← hl]; simp [go_sem]
    have hw : l.length ≤ maxLen → IntKind.i64.wrap ((pre.length : Int) + 1) = (pre.length : Int) + 1 := fun h => wrap_ok (by omega) (by simp only [maxLen] at h; omega)
    have h3 : (0 : Int) ≤ (pre.length : Int) := by omega
    have h4 : (pre.length : Int) < (l.length : Int) := by omega
    have h5 : ¬ (l.length : Int) ≤ (pre.length : Int) := by omega
    simp only [idxF] at hR
    simp (config := {contextual := true, maxSteps := 2000000, implicitDefEqProofs := false}) [go_sem, hn, hw, h3, h4, h5, hL, SubI]
    grind
theorem has_idx {l : List Int} {v : Int} : decide (0 ≤ idx (fun y => decide (v = y)) l) = has l v := by
  rw [Bool.eq_iff_iff, decide_eq_true_iff, idx_nonneg]
  simp [has]
def c83 : SCode := (.seq (.reg [⟨(some 4), .assign (.const (.bool false)), none⟩])
(.seq (.reg [⟨(some 5), .move (.tmp 0), none⟩,
    ⟨(some 6), .move (.tmp 1), none⟩,
    ⟨(some 7), .call ⟨(.value (.func 113)), #[(.tmp 5), (.tmp 6)], #[28, 2]⟩, none⟩,
    ⟨(some 8), .binOp .geq 3 (.tmp 7) (.const (.int .i64 0)) 3, none⟩,
    ⟨(some 4), .assign (.tmp 8), none⟩])
 .ret))
theorem s83 : slimF Tryz.f83 = some (c83, [.t 4], 9) := by kernel_rfl
theorem o83 : okF [(113, g113)] Tryz.f83 = true := by kernel_rfl
noncomputable def g83 : Fsem := sem2 (En.int .i64).list (En.int .i64) (fun l v => True) (fun n l v => .bool (has l v))
@[go_sem] theorem g83_eq {n τ : Nat} {l : List Int} {v : Int} : g83 n [.sl τ 1 (l.map (AV.int .i64)), .int .i64 v] = ⟨True, .bool (has l v)⟩ := sem2_eq (τ' := 0) (E := (En.int .i64).list) (F := (En.int .i64))
theorem p83 : Pure Tryz.prog 83 g83 := by
  refine sem2_pure fun τ τ' l v n h2 hpre => ?_
  have hT : Table Tryz.prog [(113, g113)] := (.cons p113 .nil)
  have hn0 : n ≠ 0 := by omega
  refine SatP.of_body hT hm Tryz.func83 s83 o83 h2 (by simp) ?_
  rw [← has_idx]
  simp (config := {contextual := true, maxSteps := 2000000, implicitDefEqProofs := false}) [c83, go_sem]
def c164 : SCode := (.seq (.reg [⟨(some 3), .box 39 (.tmp 0), none⟩,
   ⟨(some 6), .assign (.const (.int .i64 0)), none⟩])
(.seq (.seq (.reg [⟨(some 9), .fieldAddr 39 (.tmp 3) 1, none⟩,
     ⟨(some 10), .load 37 (.tmp 9), none⟩,
     ⟨(some 11), .call ⟨(.builtin .len), #[(.tmp 10)], #[37]⟩, none⟩,
     ⟨(some 12), .move (.const (.int .i64 0)), none⟩])
  (.block 0 (.loop (.seq (.reg [⟨(some 13), .binOp .lss 3 (.tmp 12) (.tmp 11) 3, none⟩])
     (.seq (.cond (.tmp 13) .skip
       (.exit 0))
      (.seq (.block 1 (.seq (.reg [⟨(some 14), .indexAddr 37 (.tmp 10) (.tmp 12), none⟩,
            ⟨(some 15), .load 125 (.tmp 14), none⟩,
            ⟨(some 8), .alloc 125, none⟩,
            ⟨none, .store 125 (.tmp 8) (.tmp 15), none⟩])
         (.seq (.seq (.reg [⟨(some 16), .fieldAddr 125 (.tmp 8) 2, none⟩,
              ⟨(some 17), .load 28 (.tmp 16), none⟩,
              ⟨(some 18), .move (.tmp 1), none⟩,
              ⟨(some 19), .call ⟨(.value (.func 83)), #[(.tmp 17), (.tmp 18)], #[28, 2]⟩, none⟩,
              ⟨(some 20), .unOp .not 4 (.tmp 19), none⟩])
           (.cond (.tmp 20) (.exit 1)
            .skip))
          (.seq (.seq (.reg [⟨(some 21), .fieldAddr 125 (.tmp 8) 1, none⟩,
               ⟨(some 22), .load 2 (.tmp 21), none⟩,
               ⟨(some 23), .move (.tmp 2), none⟩,
               ⟨(some 24), .binOp .eql 2 (.tmp 22) (.tmp 23) 2, none⟩])
            (.cond (.tmp 24) (.seq (.reg [⟨(some 25), .fieldAddr 125 (.tmp 8) 0, none⟩,
                 ⟨(some 26), .load 2 (.tmp 25), none⟩,
                 ⟨(some 6), .assign (.tmp 26), none⟩])
              .ret)
             .skip))
           (.seq (.reg [⟨(some 27), .load 39 (.tmp 3), none⟩,
               ⟨(some 28), .fieldAddr 125 (.tmp 8) 0, none⟩,
               ⟨(some 29), .load 2 (.tmp 28), none⟩,
               ⟨(some 30), .move (.tmp 2), none⟩,
               ⟨(some 31), .call ⟨(.value (.func 164)), #[(.tmp 27), (.tmp 29), (.tmp 30)], #[39, 2, 2]⟩, none⟩,
               ⟨(some 6), .assign (.tmp 31), none⟩])
            .ret)))))
       (.reg [⟨(some 32), .binOp .add 3 (.tmp 12) (.const (.int .i64 1)) 3, none⟩,
          ⟨(some 12), .move (.tmp 32), none⟩])))))))
 (.seq (.reg [⟨(some 6), .assign (.const (.int .i64 0)), none⟩])
  .ret)))
theorem s164 : slimF Tryz.f164 = some (c164, [.t 6], 33) := by kernel_rfl
noncomputable def gF164 (K : Nat) : Fsem := semT3 enTree (En.int .i64) (En.int .i64) (fun τ t id kind => treeOk t = true ∧ 3 < kindOf t id + (K : Int)) (fun n τ t id kind => .int .i64 (aboveF K t id kind))
@[go_sem] theorem gF164_eq {K n τ : Nat} {t : Tree} {id : Int} {kind : Int} : gF164 K n [.agg [.sl τ 2 (t.devices.map (enDev.av τ)), .sl τ 3 (t.buckets.map (enBkt.av τ))], .int .i64 id, .int .i64 kind] = ⟨treeOk t = true ∧ 3 < kindOf t id + (K : Int), .int .i64 (aboveF K t id kind)⟩ := semT3_eq (τ' := 0) (τ'' := 0) (E := enTree) (F := (En.int .i64)) (G := (En.int .i64)) (seen_Tree)
theorem o164 {K : Nat} : okF [(83, g83), (164, (gF164 K))] Tryz.f164 = true := by kernel_rfl
theorem pF164 : ∀ K : Nat, K ≤ 5 → Pure Tryz.prog 164 (gF164 K) := by
  intro K
  induction K with
  | zero =>
    intro _
    refine semT3_pure fun τ τ' τ'' t id kind n h2 hpre => ?_
    have := (kind_in hpre.1 id).2; have := hpre.2; omega
  | succ K ih =>
    intro hK
    refine semT3_pure fun τ τ' τ'' t id kind n h2 hpre => ?_
    have hT : Table Tryz.prog [(83, g83), (164, (gF164 K))] := (.cons p83 (.cons (ih (by omega)) .nil))
    have hn0 : n ≠ 0 := by omega
    refine SatP.of_body hT hm Tryz.func164 s164 o164 h2 (by simp) ?_
    obtain ⟨ht, hk⟩ := hpre
    simp only [aboveF]
    simp (config := {contextual := true, maxSteps := 2000000, implicitDefEqProofs := false}) [c164, go_sem]
    intro hL
    refine VW_listKE [] [3] hT h2 hm t.buckets [1, 2, 3, 10, 11] (fun pre post (u0 : Unit) => [.box 39 [.sl τ 2 (t.devices.map (enDev.av τ)), .sl τ 3 (t.buckets.map (enBkt.av τ))]]) (fun pre post (u0 : Unit) => [(12, .int .i64 pre.length)]) (fun pre post (u0 : Unit) => post.find? (fun b : Bkt => has b.items id) = inB t id) () ?_ ?_ ?_ ?_
    · rfl
    · simp [SubE, SubR, go_sem]
    · rintro _ hR
      have hR' : inB t id = none := hR.symm
      simp (config := {contextual := true, maxSteps := 2000000, implicitDefEqProofs := false}) [go_sem, hR']
    · rintro pre x post _ hl hlen hR
      have hln : t.buckets.length = pre.length + (post.length + 1) := by rw [← hl]; simp
      have hn : nth (List.map (enBkt.av τ) t.buckets) (pre.length) = (enBkt.av τ) x := by rw [← hl]; simp [go_sem]
      have hw : t.buckets.length ≤ maxLen → IntKind.i64.wrap ((pre.length : Int) + 1) = (pre.length : Int) + 1 := fun h => wrap_ok (by omega) (by simp only [maxLen] at h; omega)
      have h3 : (0 : Int) ≤ (pre.length : Int) := by omega
      have h4 : (pre.length : Int) < (t.buckets.length : Int) := by omega
      have h5 : ¬ (t.buckets.length : Int) ≤ (pre.length : Int) := by omega
      cases hx : has x.items id with
      | false =>
        have hR2 : post.find? (fun b : Bkt => has b.items id) = inB t id := by rw [← hR, List.find?_cons, hx]
        simp (config := {contextual := true, maxSteps := 2000000, implicitDefEqProofs := false}) [go_sem, hn, hw, hL, h3, h4, h5, hx]
        refine ⟨hR2, ?_⟩
        simp only [subE_go, subR_go, anOf_nil, anOf_cons, tmOk_nil, tmOk_cons]
        simp (config := {contextual := true, maxSteps := 2000000, implicitDefEqProofs := false}) [go_sem, subE_go, subR_go, anOf_nil, anOf_cons, tmOk_nil, tmOk_cons]
      | true =>
        have hR2 : inB t id = some x := by rw [← hR, List.find?_cons, hx]
        have hi := inB_some ht hR2
        have hk2 : 3 < kindOf t x.id + (K : Int) := by omega
        by_cases hkk : x.kind = kind
        · simp (config := {contextual := true, maxSteps := 2000000, implicitDefEqProofs := false}) [go_sem, hn, hw, hL, h3, h4, h5, hx, hR2, hkk]
        · simp (config := {contextual := true, maxSteps := 2000000, implicitDefEqProofs := false}) [go_sem, hn, hw, hL, h3, h4, h5, hx, hR2, hkk, hk2, ht]
noncomputable def g164 : Fsem := gF164 5
@[go_sem] theorem g164_eq {n τ : Nat} {t : Tree} {id : Int} {kind : Int} : g164 n [.agg [.sl τ 2 (t.devices.map (enDev.av τ)), .sl τ 3 (t.buckets.map (enBkt.av τ))], .int .i64 id, .int .i64 kind] = ⟨treeOk t = true ∧ 3 < kindOf t id + 5, .int .i64 (aboveF 5 t id kind)⟩ := gF164_eq
theorem p164 : Pure Tryz.prog 164 g164 := pF164 5 (Nat.le_refl _)
def c154 : SCode := (.seq (.reg [⟨(some 3), .box 39 (.tmp 0), none⟩,
   ⟨(some 6), .assign (.const (.int .i64 0)), none⟩])
(.seq (.seq (.reg [⟨(some 7), .assign (.const (.int .i64 0)), none⟩])
  (.block 0 (.loop (.seq (.seq (.reg [⟨(some 9), .move (.tmp 7), none⟩,
         ⟨(some 10), .fieldAddr 39 (.tmp 3) 1, none⟩,
         ⟨(some 11), .load 37 (.tmp 10), none⟩,
         ⟨(some 12), .call ⟨(.builtin .len), #[(.tmp 11)], #[37]⟩, none⟩,
         ⟨(some 13), .binOp .lss 3 (.tmp 9) (.tmp 12) 3, none⟩])
      (.cond (.tmp 13) .skip
       (.exit 0)))
     (.seq (.block 1 (.seq (.reg [⟨(some 16), .fieldAddr 39 (.tmp 3) 1, none⟩,
           ⟨(some 17), .load 37 (.tmp 16), none⟩,
           ⟨(some 18), .move (.tmp 7), none⟩,
           ⟨(some 19), .indexAddr 37 (.tmp 17) (.tmp 18), none⟩,
           ⟨(some 20), .load 125 (.tmp 19), none⟩,
           ⟨(some 8), .alloc 125, none⟩,
           ⟨none, .store 125 (.tmp 8) (.tmp 20), none⟩])
        (.seq (.reg [⟨(some 21), .fieldAddr 125 (.tmp 8) 2, none⟩,
            ⟨(some 22), .load 28 (.tmp 21), none⟩,
            ⟨(some 23), .move (.tmp 1), none⟩,
            ⟨(some 24), .call ⟨(.value (.func 126)), #[(.tmp 22), (.tmp 23)], #[28, 2]⟩, none⟩])
         (.cond (.tmp 24) (.seq (.seq (.reg [⟨(some 25), .fieldAddr 125 (.tmp 8) 1, none⟩,
               ⟨(some 26), .load 2 (.tmp 25), none⟩,
               ⟨(some 27), .move (.tmp 2), none⟩,
               ⟨(some 28), .binOp .eql 2 (.tmp 26) (.tmp 27) 2, none⟩])
            (.cond (.tmp 28) (.seq (.reg [⟨(some 29), .fieldAddr 125 (.tmp 8) 0, none⟩,
                 ⟨(some 30), .load 2 (.tmp 29), none⟩,
                 ⟨(some 6), .assign (.tmp 30), none⟩])
              .ret)
             .skip))
           (.seq (.reg [⟨(some 31), .load 39 (.tmp 3), none⟩,
               ⟨(some 32), .fieldAddr 125 (.tmp 8) 0, none⟩,
               ⟨(some 33), .load 2 (.tmp 32), none⟩,
               ⟨(some 34), .move (.tmp 2), none⟩,
               ⟨(some 35), .call ⟨(.value (.func 154)), #[(.tmp 31), (.tmp 33), (.tmp 34)], #[39, 2, 2]⟩, none⟩,
               ⟨(some 6), .assign (.tmp 35), none⟩])
            .ret))
          .skip))))
      (.reg [⟨(some 14), .move (.tmp 7), none⟩,
         ⟨(some 15), .binOp .add 3 (.tmp 14) (.const (.int .i64 1)) 3, none⟩,
         ⟨(some 7), .assign (.tmp 15), none⟩]))))))
 (.seq (.reg [⟨(some 6), .assign (.const (.int .i64 0)), none⟩])
  .ret)))
theorem s154 : slimF Tryz.f154 = some (c154, [.t 6], 36) := by kernel_rfl
noncomputable def gF154 (K : Nat) : Fsem := semT3 enTree (En.int .i64) (En.int .i64) (fun τ t id kind => treeOk t = true ∧ 3 < kindOf t id + (K : Int)) (fun n τ t id kind => .int .i64 (aboveF K t id kind))
@[go_sem] theorem gF154_eq {K n τ : Nat} {t : Tree} {id : Int} {kind : Int} : gF154 K n [.agg [.sl τ 2 (t.devices.map (enDev.av τ)), .sl τ 3 (t.buckets.map (enBkt.av τ))], .int .i64 id, .int .i64 kind] = ⟨treeOk t = true ∧ 3 < kindOf t id + (K : Int), .int .i64 (aboveF K t id kind)⟩ := semT3_eq (τ' := 0) (τ'' := 0) (E := enTree) (F := (En.int .i64)) (G := (En.int .i64)) (seen_Tree)
theorem o154 {K : Nat} : okF [(126, g126), (154, (gF154 K))] Tryz.f154 = true := by kernel_rfl
theorem pF154 : ∀ K : Nat, K ≤ 5 → Pure Tryz.prog 154 (gF154 K) := by
  intro K
  induction K with
  | zero =>
    intro _
    refine semT3_pure fun τ τ' τ'' t id kind n h2 hpre => ?_
    have := (kind_in hpre.1 id).2; have := hpre.2; omega
  | succ K ih =>
    intro hK
    refine semT3_pure fun τ τ' τ'' t id kind n h2 hpre => ?_
    have hT : Table Tryz.prog [(126, g126), (154, (gF154 K))] := (.cons p126 (.cons (ih (by omega)) .nil))
    have hn0 : n ≠ 0 := by omega
    refine SatP.of_body hT hm Tryz.func154 s154 o154 h2 (by simp) ?_
    obtain ⟨ht, hk⟩ := hpre
    simp only [aboveF]
    simp (config := {contextual := true, maxSteps := 2000000, implicitDefEqProofs := false}) [c154, go_sem]
    refine VW_listKE [] [3] hT h2 hm t.buckets [1, 2, 3] (fun pre post (u0 : Unit) => [.box 39 [.sl τ 2 (t.devices.map (enDev.av τ)), .sl τ 3 (t.buckets.map (enBkt.av τ))]]) (fun pre post (u0 : Unit) => [(7, .int .i64 pre.length)]) (fun pre post (u0 : Unit) => post.find? (fun b : Bkt => has b.items id) = inB t id) () ?_ ?_ ?_ ?_
    · rfl
    · simp [SubE, SubR, go_sem]
    · rintro _ hR
      have hR' : inB t id = none := hR.symm
      simp (config := {contextual := true, maxSteps := 2000000, implicitDefEqProofs := false}) [go_sem, hR']
    · rintro pre x post _ hl hlen hR
      have hln : t.buckets.length = pre.length + (post.length + 1) := by rw [← hl]; simp
      have hn : nth (List.map (enBkt.av τ) t.buckets) (pre.length) = (enBkt.av τ) x := by rw [← hl]; simp [go_sem]
      have hw : t.buckets.length ≤ maxLen → IntKind.i64.wrap ((pre.length : Int) + 1) = (pre.length : Int) + 1 := fun h => wrap_ok (by omega) (by simp only [maxLen] at h; omega)
      have h3 : (0 : Int) ≤ (pre.length : Int) := by omega
      have h4 : (pre.length : Int) < (t.buckets.length : Int) := by omega
      have h5 : ¬ (t.buckets.length : Int) ≤ (pre.length : Int) := by omega
      cases hx : has x.items id with
      | false =>
        have hR2 : post.find? (fun b : Bkt => has b.items id) = inB t id := by rw [← hR, List.find?_cons, hx]
        simp (config := {contextual := true, maxSteps := 2000000, implicitDefEqProofs := false}) [go_sem, hn, hw, h3, h4, h5, hx]
        intro _
        refine ⟨hR2, ?_⟩
        simp only [subE_go, subR_go, anOf_nil, anOf_cons, tmOk_nil, tmOk_cons]
        simp (config := {contextual := true, maxSteps := 2000000, implicitDefEqProofs := false}) [go_sem, subE_go, subR_go, anOf_nil, anOf_cons, tmOk_nil, tmOk_cons]
      | true =>
        have hR2 : inB t id = some x := by rw [← hR, List.find?_cons, hx]
        have hi := inB_some ht hR2
        have hk2 : 3 < kindOf t x.id + (K : Int) := by omega
        by_cases hkk : x.kind = kind
        · simp (config := {contextual := true, maxSteps := 2000000, implicitDefEqProofs := false}) [go_sem, hn, hw, h3, h4, h5, hx, hR2, hkk]
        · simp (config := {contextual := true, maxSteps := 2000000, implicitDefEqProofs := false}) [go_sem, hn, hw, h3, h4, h5, hx, hR2, hkk, hk2, ht]
noncomputable def g154 : Fsem := gF154 5
@[go_sem] theorem g154_eq {n τ : Nat} {t : Tree} {id : Int} {kind : Int} : g154 n [.agg [.sl τ 2 (t.devices.map (enDev.av τ)), .sl τ 3 (t.buckets.map (enBkt.av τ))], .int .i64 id, .int .i64 kind] = ⟨treeOk t = true ∧ 3 < kindOf t id + 5, .int .i64 (aboveF 5 t id kind)⟩ := gF154_eq
theorem p154 : Pure Tryz.prog 154 g154 := pF154 5 (Nat.le_refl _)
def domI (t : Tree) (kind node : Int) : Int := if 0 ≤ devI t node then (if kind = 0 then node else aboveF 5 t node kind) else 0
def domB (t : Tree) (kind node : Int) : Bool := decide (0 ≤ devI t node) && (decide (kind = 0) || !decide (aboveF 5 t node kind = 0))
def domS (t : Tree) (kind node : Int) : Int := if kind = 0 then node else aboveF 5 t node kind
def confL (dom : Int → Int) (own a node : Int) : Nat → List Int → Bool
  | _, [] => false
  | i, o :: l => if (i : Int) = a ∨ o < 0 then confL dom own a node (i + 1) l else (decide (o = node) || decide (dom o = own)) || confL dom own a node (i + 1) l
theorem confL_congr {d1 d2 : Int → Int} {own a node : Int} : ∀ {l : List Int} {i : Nat}, (∀ o ∈ l, 0 ≤ o → d1 o = d2 o) → confL d1 own a node i l = confL d2 own a node i l
  | [], _, _ => rfl
  | o :: l, i, h => by
    simp only [confL]
    rw [confL_congr (l := l) fun x hx => h x (List.mem_cons_of_mem _ hx)]
    by_cases h1 : (i : Int) = a ∨ o < 0
    · rw [if_pos h1, if_pos h1]
    · rw [if_neg h1, if_neg h1, h o (List.mem_cons_self ..) (by omega)]
theorem domI_eq {t : Tree} {kind node : Int} (h : 0 ≤ devI t node) : domI t kind node = domS t kind node := by
  unfold domI domS
  rw [if_pos h]
def confS (t : Tree) (kind : Int) (l : List Int) (a node : Int) : Bool := confL (domS t kind) (domS t kind node) a node 0 l
theorem confI_eq {t : Tree} {kind a node : Int} {l : List Int} (h : ∀ o ∈ l, 0 ≤ o → 0 ≤ devI t o) (hn : 0 ≤ devI t node) : confL (domI t kind) (domI t kind node) a node 0 l = confS t kind l a node := by
  unfold confS
  rw [domI_eq hn]
  exact confL_congr fun o ho h0 => domI_eq (h o ho h0)
def c111 : SCode := (.seq (.reg [⟨(some 3), .box 39 (.tmp 0), none⟩,
   ⟨(some 6), .assign (.const (.int .i64 0)), none⟩,
   ⟨(some 7), .assign (.const (.bool false)), none⟩])
(.seq (.seq (.reg [⟨(some 9), .load 39 (.tmp 3), none⟩,
     ⟨(some 10), .move (.tmp 2), none⟩,
     ⟨(some 11), .call ⟨(.value (.func 163)), #[(.tmp 9), (.tmp 10)], #[39, 2]⟩, none⟩,
     ⟨(some 12), .binOp .lss 3 (.tmp 11) (.const (.int .i64 0)) 3, none⟩])
  (.cond (.tmp 12) (.seq (.reg [⟨(some 6), .assign (.const (.int .i64 0)), none⟩,
       ⟨(some 7), .assign (.const (.bool false)), none⟩])
    .ret)
   .skip))
 (.seq (.seq (.reg [⟨(some 13), .move (.tmp 1), none⟩,
      ⟨(some 14), .binOp .eql 2 (.tmp 13) (.const (.int .i64 0)) 2, none⟩])
   (.cond (.tmp 14) (.seq (.reg [⟨(some 15), .move (.tmp 2), none⟩,
        ⟨(some 6), .assign (.tmp 15), none⟩,
        ⟨(some 7), .assign (.const (.bool true)), none⟩])
     .ret)
    .skip))
  (.seq (.reg [⟨(some 16), .load 39 (.tmp 3), none⟩,
      ⟨(some 17), .move (.tmp 2), none⟩,
      ⟨(some 18), .move (.tmp 1), none⟩,
      ⟨(some 19), .call ⟨(.value (.func 164)), #[(.tmp 16), (.tmp 17), (.tmp 18)], #[39, 2, 2]⟩, none⟩,
      ⟨(some 8), .assign (.tmp 19), none⟩])
   (.seq (.reg [⟨(some 20), .move (.tmp 8), none⟩,
       ⟨(some 21), .move (.tmp 8), none⟩,
       ⟨(some 22), .binOp .neq 2 (.tmp 21) (.const (.int .i64 0)) 2, none⟩,
       ⟨(some 6), .assign (.tmp 20), none⟩,
       ⟨(some 7), .assign (.tmp 22), none⟩])
    .ret)))))
theorem s111 : slimF Tryz.f111 = some (c111, [.t 6, .t 7], 23) := by kernel_rfl
theorem o111 : okF [(163, g163), (164, g164)] Tryz.f111 = true := by kernel_rfl
noncomputable def g111 : Fsem := semT3 enTree (En.int .i64) (En.int .i64) (fun τ t kind node => treeOk t = true) (fun n τ t kind node => .tup [.int .i64 (domI t kind node), .bool (domB t kind node)])
@[go_sem] theorem g111_eq {n τ : Nat} {t : Tree} {kind : Int} {node : Int} : g111 n [.agg [.sl τ 2 (t.devices.map (enDev.av τ)), .sl τ 3 (t.buckets.map (enBkt.av τ))], .int .i64 kind, .int .i64 node] = ⟨treeOk t = true, .tup [.int .i64 (domI t kind node), .bool (domB t kind node)]⟩ := semT3_eq (τ' := 0) (τ'' := 0) (E := enTree) (F := (En.int .i64)) (G := (En.int .i64)) (seen_Tree)
theorem p111 : Pure Tryz.prog 111 g111 := by
  refine semT3_pure fun τ τ' τ'' t kind node n h2 hpre => ?_
  have hT : Table Tryz.prog [(163, g163), (164, g164)] := (.cons p163 (.cons p164 .nil))
  have hn0 : n ≠ 0 := by omega
  refine SatP.of_body hT hm Tryz.func111 s111 o111 h2 (by simp) ?_
  have ht : treeOk t = true := hpre
  have hk : ∀ x, 3 < kindOf t x + 5 := fun x => by have := kind_in ht x; omega
  by_cases h1 : 0 ≤ devI t node
  · have h1' : ¬ devI t node < 0 := by omega
    by_cases h2 : kind = 0
    · simp (config := {contextual := true, maxSteps := 2000000, implicitDefEqProofs := false}) [c111, go_sem, ht, hk, domI, domB, h1, h1', h2]
    · simp (config := {contextual := true, maxSteps := 2000000, implicitDefEqProofs := false}) [c111, go_sem, ht, hk, domI, domB, h1, h1', h2]
  · have h1' : devI t node < 0 := by omega
    simp (config := {contextual := true, maxSteps := 2000000, implicitDefEqProofs := false}) [c111, go_sem, ht, hk, domI, domB, h1, h1']
def c98 : SCode := (.seq (.reg [⟨(some 3), .box 39 (.tmp 0), none⟩,
   ⟨(some 6), .assign (.const (.int .i64 0)), none⟩])
(.seq (.seq (.reg [⟨(some 7), .move (.tmp 1), none⟩,
     ⟨(some 8), .binOp .eql 2 (.tmp 7) (.const (.int .i64 0)) 2, none⟩])
  (.cond (.tmp 8) (.seq (.reg [⟨(some 9), .move (.tmp 2), none⟩,
       ⟨(some 6), .assign (.tmp 9), none⟩])
    .ret)
   .skip))
 (.seq (.reg [⟨(some 10), .load 39 (.tmp 3), none⟩,
     ⟨(some 11), .move (.tmp 2), none⟩,
     ⟨(some 12), .move (.tmp 1), none⟩,
     ⟨(some 13), .call ⟨(.value (.func 154)), #[(.tmp 10), (.tmp 11), (.tmp 12)], #[39, 2, 2]⟩, none⟩,
     ⟨(some 6), .assign (.tmp 13), none⟩])
  .ret)))
theorem s98 : slimF Tryz.f98 = some (c98, [.t 6], 14) := by kernel_rfl
theorem o98 : okF [(154, g154)] Tryz.f98 = true := by kernel_rfl
noncomputable def g98 : Fsem := semT3 enTree (En.int .i64) (En.int .i64) (fun τ t kind node => treeOk t = true) (fun n τ t kind node => .int .i64 (domS t kind node))
@[go_sem] theorem g98_eq {n τ : Nat} {t : Tree} {kind : Int} {node : Int} : g98 n [.agg [.sl τ 2 (t.devices.map (enDev.av τ)), .sl τ 3 (t.buckets.map (enBkt.av τ))], .int .i64 kind, .int .i64 node] = ⟨treeOk t = true, .int .i64 (domS t kind node)⟩ := semT3_eq (τ' := 0) (τ'' := 0) (E := enTree) (F := (En.int .i64)) (G := (En.int .i64)) (seen_Tree)
theorem p98 : Pure Tryz.prog 98 g98 := by
  refine semT3_pure fun τ τ' τ'' t kind node n h2 hpre => ?_
  have hT : Table Tryz.prog [(154, g154)] := (.cons p154 .nil)
  have hn0 : n ≠ 0 := by omega
  refine SatP.of_body hT hm Tryz.func98 s98 o98 h2 (by simp) ?_
  have ht : treeOk t = true := hpre
  have hk : ∀ x, 3 < kindOf t x + 5 := fun x => by have := kind_in ht x; omega
  by_cases h2 : kind = 0
  · simp (config := {contextual := true, maxSteps := 2000000, implicitDefEqProofs := false}) [c98, go_sem, ht, hk, domS, h2]
  · simp (config := {contextual := true, maxSteps := 2000000, implicitDefEqProofs := false}) [c98, go_sem, ht, hk, domS, h2]
def c167 : SCode := (.seq (.reg [⟨(some 5), .box 39 (.tmp 0), none⟩,
   ⟨(some 10), .assign (.const (.bool false)), none⟩])
(.seq (.reg [⟨(some 18), .load 39 (.tmp 5), none⟩,
    ⟨(some 19), .move (.tmp 1), none⟩,
    ⟨(some 20), .move (.tmp 4), none⟩,
    ⟨(some 21), .call ⟨(.value (.func 111)), #[(.tmp 18), (.tmp 19), (.tmp 20)], #[39, 2, 2]⟩, none⟩,
    ⟨(some 17), .move (.tmp 21), none⟩,
    ⟨(some 22), .extract (.tmp 17) 0, none⟩,
    ⟨(some 23), .extract (.tmp 17) 1, none⟩,
    ⟨(some 11), .assign (.tmp 22), none⟩,
    ⟨(some 12), .assign (.tmp 23), none⟩])
 (.seq (.seq (.reg [⟨(some 24), .move (.tmp 2), none⟩,
      ⟨(some 25), .call ⟨(.builtin .len), #[(.tmp 24)], #[28]⟩, none⟩,
      ⟨(some 26), .move (.const (.int .i64 0)), none⟩])
   (.block 0 (.loop (.seq (.reg [⟨(some 27), .binOp .lss 3 (.tmp 26) (.tmp 25) 3, none⟩])
      (.seq (.cond (.tmp 27) .skip
        (.exit 0))
       (.seq (.block 1 (.seq (.reg [⟨(some 28), .move (.tmp 26), none⟩,
             ⟨(some 29), .indexAddr 28 (.tmp 24) (.tmp 26), none⟩,
             ⟨(some 30), .load 2 (.tmp 29), none⟩,
             ⟨(some 13), .assign (.tmp 28), none⟩,
             ⟨(some 14), .assign (.tmp 30), none⟩])
          (.seq (.seq (.reg [⟨(some 31), .move (.tmp 13), none⟩,
               ⟨(some 32), .move (.tmp 3), none⟩,
               ⟨(some 33), .binOp .eql 2 (.tmp 31) (.tmp 32) 2, none⟩,
               ⟨(some 34), .move (.tmp 33), none⟩,
               ⟨(some 35), .move (.tmp 14), (some (34, false))⟩,
               ⟨(some 36), .binOp .lss 2 (.tmp 35) (.const (.int .i64 0)) 2, (some (34, false))⟩,
               ⟨(some 37), .pick (.tmp 34) (.const (.bool true)) (.tmp 36), none⟩])
            (.cond (.tmp 37) (.exit 1)
             .skip))
           (.seq (.reg [⟨(some 39), .load 39 (.tmp 5), none⟩,
               ⟨(some 40), .move (.tmp 1), none⟩,
               ⟨(some 41), .move (.tmp 14), none⟩,
               ⟨(some 42), .call ⟨(.value (.func 111)), #[(.tmp 39), (.tmp 40), (.tmp 41)], #[39, 2, 2]⟩, none⟩,
               ⟨(some 38), .move (.tmp 42), none⟩,
               ⟨(some 43), .extract (.tmp 38) 0, none⟩,
               ⟨(some 44), .extract (.tmp 38) 1, none⟩,
               ⟨(some 15), .assign (.tmp 43), none⟩,
               ⟨(some 16), .assign (.tmp 44), none⟩])
            (.seq (.reg [⟨(some 45), .move (.tmp 14), none⟩,
                ⟨(some 46), .move (.tmp 4), none⟩,
                ⟨(some 47), .binOp .eql 2 (.tmp 45) (.tmp 46) 2, none⟩,
                ⟨(some 48), .move (.tmp 47), none⟩,
                ⟨(some 49), .move (.tmp 15), (some (48, false))⟩,
                ⟨(some 50), .move (.tmp 11), (some (48, false))⟩,
                ⟨(some 51), .binOp .eql 2 (.tmp 49) (.tmp 50) 2, (some (48, false))⟩,
                ⟨(some 52), .pick (.tmp 48) (.const (.bool true)) (.tmp 51), none⟩])
             (.cond (.tmp 52) (.seq (.reg [⟨(some 10), .assign (.const (.bool true)), none⟩])
               .ret)
              .skip))))))
        (.reg [⟨(some 53), .binOp .add 3 (.tmp 26) (.const (.int .i64 1)) 3, none⟩,
           ⟨(some 26), .move (.tmp 53), none⟩])))))))
  (.seq (.reg [⟨(some 10), .assign (.const (.bool false)), none⟩])
   .ret))))
theorem s167 : slimF Tryz.f167 = some (c167, [.t 10], 54) := by kernel_rfl
theorem o167 : okF [(111, g111)] Tryz.f167 = true := by kernel_rfl
noncomputable def g167 : Fsem := semT5 enTree (En.int .i64) (En.int .i64).list (En.int .i64) (En.int .i64) (fun τ t kind l a node => treeOk t = true) (fun n τ t kind l a node => .bool (confL (domI t kind) (domI t kind node) a node 0 l))
@[go_sem] theorem g167_eq {n τ τ'' : Nat} {t : Tree} {kind : Int} {l : List Int} {a : Int} {node : Int} : g167 n [.agg [.sl τ 2 (t.devices.map (enDev.av τ)), .sl τ 3 (t.buckets.map (enBkt.av τ))], .int .i64 kind, .sl τ'' 1 (l.map (AV.int .i64)), .int .i64 a, .int .i64 node] = ⟨treeOk t = true, .bool (confL (domI t kind) (domI t kind node) a node 0 l)⟩ := semT5_eq (τ' := 0) (τ3 := 0) (τ4 := 0) (E := enTree) (F := (En.int .i64)) (G := (En.int .i64).list) (H := (En.int .i64)) (J := (En.int .i64)) (seen_Tree)
theorem p167 : Pure Tryz.prog 167 g167 := by
  refine semT5_pure fun τ τ' τ'' τ3 τ4 t kind l a node n h2 hpre => ?_
  have hT : Table Tryz.prog [(111, g111)] := (.cons p111 .nil)
  have hn0 : n ≠ 0 := by omega
  refine SatP.of_body hT hm Tryz.func167 s167 o167 h2 (by simp) ?_
  have ht : treeOk t = true := hpre
  generalize hr : confL (domI t kind) (domI t kind node) a node 0 l = r
  simp (config := {contextual := true, maxSteps := 2000000, implicitDefEqProofs := false}) [c167, go_sem, ht]
  intro hL
  refine VW_listK hT h2 hm l [1, 3, 4, 5, 11, 24, 25] (fun pre post (b : Unit) => [(26, .int .i64 pre.length)]) (fun pre post (b : Unit) => confL (domI t kind) (domI t kind node) a node pre.length post = r) () ?_ ?_ ?_ ?_
  · exact hr
  · simp [SubI, go_sem]
  · rintro _ hR
    have hR' : false = r := hR
    subst hR'
    simp (config := {contextual := true, maxSteps := 2000000, implicitDefEqProofs := false}) [go_sem]
  · rintro pre x post _ hl hlen hR
    have hln : l.length = pre.length + (post.length + 1) := by rw [← hl]; simp
    have hn : nth (List.map (AV.int .i64) l) (pre.length) = (AV.int .i64) x := by rw [← hl]; simp [go_sem]
    have hw : l.length ≤ maxLen → IntKind.i64.wrap ((pre.length : Int) + 1) = (pre.length : Int) + 1 := fun h => wrap_ok (by omega) (by simp only [maxLen] at h; omega)
    have h3 : (0 : Int) ≤ (pre.length : Int) := by omega
    have h4 : (pre.length : Int) < (l.length : Int) := by omega
    have h5 : ¬ (l.length : Int) ≤ (pre.length : Int) := by omega
    simp only [confL] at hR
    simp (config := {contextual := true, maxSteps := 2000000, implicitDefEqProofs := false}) [go_sem, hn, hw, hL, h3, h4, h5, ht, SubI]
    by_cases hc : (pre.length : Int) = a ∨ x < 0
    · rw [if_pos hc] at hR
      grind
    · rw [if_neg hc] at hR
      generalize confL (domI t kind) (domI t kind node) a node (pre.length + 1) post = q at *
      generalize domI t kind node = own at *
      generalize domI t kind x = dx at *
      grind
def c99 : SCode := (.seq (.reg [⟨(some 5), .box 39 (.tmp 0), none⟩,
   ⟨(some 10), .assign (.const (.bool false)), none⟩])
(.seq (.seq (.reg [⟨(some 11), .assign (.const (.int .i64 0)), none⟩])
  (.block 0 (.loop (.seq (.seq (.reg [⟨(some 12), .move (.tmp 11), none⟩,
         ⟨(some 13), .move (.tmp 2), none⟩,
         ⟨(some 14), .call ⟨(.builtin .len), #[(.tmp 13)], #[28]⟩, none⟩,
         ⟨(some 15), .binOp .lss 3 (.tmp 12) (.tmp 14) 3, none⟩])
      (.cond (.tmp 15) .skip
       (.exit 0)))
     (.seq (.block 1 (.seq (.draw [⟨(some 18), .move (.tmp 11), none⟩,
           ⟨(some 19), .move (.tmp 3), none⟩,
           ⟨(some 20), .binOp .neq 3 (.tmp 18) (.tmp 19) 3, none⟩,
           ⟨(some 21), .move (.tmp 20), none⟩,
           ⟨(some 22), .move (.tmp 2), (some (21, true))⟩,
           ⟨(some 23), .move (.tmp 11), (some (21, true))⟩,
           ⟨(some 24), .indexAddr 28 (.tmp 22) (.tmp 23), (some (21, true))⟩,
           ⟨(some 25), .load 2 (.tmp 24), (some (21, true))⟩,
           ⟨(some 26), .binOp .geq 2 (.tmp 25) (.const (.int .i64 0)) 2, (some (21, true))⟩,
           ⟨(some 27), .pick (.tmp 21) (.tmp 26) (.const (.bool false)), none⟩,
           ⟨(some 28), .move (.tmp 27), none⟩,
           ⟨(some 29), .move (.tmp 2), (some (28, true))⟩,
           ⟨(some 30), .move (.tmp 11), (some (28, true))⟩,
           ⟨(some 31), .indexAddr 28 (.tmp 29) (.tmp 30), (some (28, true))⟩,
           ⟨(some 32), .load 2 (.tmp 31), (some (28, true))⟩,
           ⟨(some 33), .move (.tmp 4), (some (28, true))⟩,
           ⟨(some 34), .binOp .eql 2 (.tmp 32) (.tmp 33) 2, (some (28, true))⟩,
           ⟨(some 35), .move (.tmp 34), (some (28, true))⟩,
           ⟨(some 36), .load 39 (.tmp 5), (some (35, false))⟩,
           ⟨(some 37), .move (.tmp 1), (some (35, false))⟩,
           ⟨(some 38), .move (.tmp 2), (some (35, false))⟩,
           ⟨(some 39), .move (.tmp 11), (some (35, false))⟩,
           ⟨(some 40), .indexAddr 28 (.tmp 38) (.tmp 39), (some (35, false))⟩,
           ⟨(some 41), .load 2 (.tmp 40), (some (35, false))⟩,
           ⟨(some 42), .call ⟨(.value (.func 98)), #[(.tmp 36), (.tmp 37), (.tmp 41)], #[39, 2, 2]⟩, (some (35, false))⟩,
           ⟨(some 43), .load 39 (.tmp 5), (some (35, false))⟩,
           ⟨(some 44), .move (.tmp 1), (some (35, false))⟩,
           ⟨(some 45), .move (.tmp 4), (some (35, false))⟩,
           ⟨(some 46), .call ⟨(.value (.func 98)), #[(.tmp 43), (.tmp 44), (.tmp 45)], #[39, 2, 2]⟩, (some (35, false))⟩,
           ⟨(some 47), .binOp .eql 2 (.tmp 42) (.tmp 46) 2, (some (35, false))⟩,
           ⟨(some 48), .pick (.tmp 35) (.const (.bool true)) (.tmp 47), (some (28, true))⟩,
           ⟨(some 49), .pick (.tmp 28) (.tmp 48) (.const (.bool false)), none⟩] [[], [], [0, 1], [0, 1, 2], [0, 1, 2, 3], [0, 1, 2, 3], [0, 1, 2, 3, 4, 5], [0, 1, 2, 3, 4, 5, 6], [0, 1, 2, 3, 4, 5, 6, 7], [0, 1, 2, 3, 4, 5, 6, 7, 8], [0, 1, 2, 3, 4, 5, 6, 7, 8, 9], [0, 1, 2, 3, 4, 5, 6, 7, 8, 9, 10], [0, 1, 2, 3, 4, 5, 6, 7, 8, 9, 10], [0, 1, 2, 3, 4, 5, 6, 7, 8, 9, 10, 11, 12], [0, 1, 2, 3, 4, 5, 6, 7, 8, 9, 10, 11, 12, 13], [0, 1, 2, 3, 4, 5, 6, 7, 8, 9, 10], [0, 1, 2, 3, 4, 5, 6, 7, 8, 9, 10, 11, 12, 13, 14, 15], [0, 1, 2, 3, 4, 5, 6, 7, 8, 9, 10, 11, 12, 13, 14, 15, 16], [0, 1, 2, 3, 4, 5, 6, 7, 8, 9, 10, 11, 12, 13, 14, 15, 16, 17], [0, 1, 2, 3, 4, 5, 6, 7, 8, 9, 10, 11, 12, 13, 14, 15, 16, 17], [0, 1, 2, 3, 4, 5, 6, 7, 8, 9, 10, 11, 12, 13, 14, 15, 16, 17], [0, 1, 2, 3, 4, 5, 6, 7, 8, 9, 10, 11, 12, 13, 14, 15, 16, 17], [0, 1, 2, 3, 4, 5, 6, 7, 8, 9, 10, 11, 12, 13, 14, 15, 16, 17, 20, 21], [0, 1, 2, 3, 4, 5, 6, 7, 8, 9, 10, 11, 12, 13, 14, 15, 16, 17, 20, 21, 22], [0, 1, 2, 3, 4, 5, 6, 7, 8, 9, 10, 11, 12, 13, 14, 15, 16, 17, 18, 19, 20, 21, 22, 23], [0, 1, 2, 3, 4, 5, 6, 7, 8, 9, 10, 11, 12, 13, 14, 15, 16, 17], [0, 1, 2, 3, 4, 5, 6, 7, 8, 9, 10, 11, 12, 13, 14, 15, 16, 17], [0, 1, 2, 3, 4, 5, 6, 7, 8, 9, 10, 11, 12, 13, 14, 15, 16, 17], [0, 1, 2, 3, 4, 5, 6, 7, 8, 9, 10, 11, 12, 13, 14, 15, 16, 17, 18, 19, 20, 21, 22, 23, 24, 25, 26, 27], [0, 1, 2, 3, 4, 5, 6, 7, 8, 9, 10, 11, 12, 13, 14, 15, 16, 17, 18, 19, 20, 21, 22, 23, 24, 25, 26, 27, 28], [0, 1, 2, 3, 4, 5, 6, 7, 8, 9, 10, 11, 12, 13, 14, 15, 16, 17, 18, 19, 20, 21, 22, 23, 24, 25, 26, 27, 28, 29], [0, 1, 2, 3, 4, 5, 6, 7, 8, 9, 10, 11, 12, 13, 14, 15, 16, 17, 18, 19, 20, 21, 22, 23, 24, 25, 26, 27, 28, 29, 30]])
        (.cond (.tmp 49) (.seq (.reg [⟨(some 10), .assign (.const (.bool false)), none⟩])
          .ret)
         .skip)))
      (.reg [⟨(some 16), .move (.tmp 11), none⟩,
         ⟨(some 17), .binOp .add 3 (.tmp 16) (.const (.int .i64 1)) 3, none⟩,
         ⟨(some 11), .assign (.tmp 17), none⟩]))))))
 (.seq (.reg [⟨(some 10), .assign (.const (.bool true)), none⟩])
  .ret)))
theorem s99 : slimF Tryz.f99 = some (c99, [.t 10], 50) := by kernel_rfl
theorem o99 : okF [(98, g98)] Tryz.f99 = true := by kernel_rfl
noncomputable def g99 : Fsem := semT5 enTree (En.int .i64) (En.int .i64).list (En.int .i64) (En.int .i64) (fun τ t kind l a node => treeOk t = true) (fun n τ t kind l a node => .bool (!confS t kind l a node))
@[go_sem] theorem g99_eq {n τ τ'' : Nat} {t : Tree} {kind : Int} {l : List Int} {a : Int} {node : Int} : g99 n [.agg [.sl τ 2 (t.devices.map (enDev.av τ)), .sl τ 3 (t.buckets.map (enBkt.av τ))], .int .i64 kind, .sl τ'' 1 (l.map (AV.int .i64)), .int .i64 a, .int .i64 node] = ⟨treeOk t = true, .bool (!confS t kind l a node)⟩ := semT5_eq (τ' := 0) (τ3 := 0) (τ4 := 0) (E := enTree) (F := (En.int .i64)) (G := (En.int .i64).list) (H := (En.int .i64)) (J := (En.int .i64)) (seen_Tree)
theorem p99 : Pure Tryz.prog 99 g99 := by
  refine semT5_pure fun τ τ' τ'' τ3 τ4 t kind l a node n h2 hpre => ?_
  have hT : Table Tryz.prog [(98, g98)] := (.cons p98 .nil)
  have hn0 : n ≠ 0 := by omega
  refine SatP.of_body hT hm Tryz.func99 s99 o99 h2 (by simp) ?_
  have ht : treeOk t = true := hpre
  unfold confS
  generalize hr : confL (domS t kind) (domS t kind node) a node 0 l = r
  simp (config := {contextual := true, maxSteps := 2000000, implicitDefEqProofs := false}) [c99, go_sem, ht]
  refine VW_listK hT h2 hm l [1, 2, 3, 4, 5] (fun pre post (b : Unit) => [(11, .int .i64 pre.length)]) (fun pre post (b : Unit) => confL (domS t kind) (domS t kind node) a node pre.length post = r) () ?_ ?_ ?_ ?_
  · exact hr
  · simp [SubI, go_sem]
  · rintro _ hR
    have hR' : false = r := hR
    subst hR'
    simp (config := {contextual := true, maxSteps := 2000000, implicitDefEqProofs := false}) [go_sem]
  · rintro pre x post _ hl hlen hR
    have hln : l.length = pre.length + (post.length + 1) := by rw [← hl]; simp
    have hn : nth (List.map (AV.int .i64) l) (pre.length) = (AV.int .i64) x := by rw [← hl]; simp [go_sem]
    have hw : l.length ≤ maxLen → IntKind.i64.wrap ((pre.length : Int) + 1) = (pre.length : Int) + 1 := fun h => wrap_ok (by omega) (by simp only [maxLen] at h; omega)
    have h3 : (0 : Int) ≤ (pre.length : Int) := by omega
    have h4 : (pre.length : Int) < (l.length : Int) := by omega
    have h5 : ¬ (l.length : Int) ≤ (pre.length : Int) := by omega
    simp only [confL] at hR
    simp (config := {contextual := true, maxSteps := 2000000, implicitDefEqProofs := false}) [go_sem, hn, hw, h3, h4, h5, ht, SubI]
    by_cases hc : (pre.length : Int) = a ∨ x < 0
    · rw [if_pos hc] at hR
      grind
    · rw [if_neg hc] at hR
      generalize confL (domS t kind) (domS t kind node) a node (pre.length + 1) post = q at *
      generalize domS t kind node = own at *
      generalize domS t kind x = dx at *
      grind
end Go.Ve
namespace Go.Ve
open Go.Proofs Go.RowKit
set_option linter.unusedVariables false
set_option linter.unusedSimpArgs false
set_option maxRecDepth 10000
set_option maxHeartbeats 4000000
def itms (t : Tree) (l : List Int) : List Itm := l.map fun i => ⟨i, wt t i⟩
def chooseR (t : Tree) (id seed try_ : Int) : Int × Bool := match bktO t id with
  | none => (0, false)
  | some b => ((chL seed try_ (-1) 0 (itms t b.items)).2, decide (0 ≤ (chL seed try_ (-1) 0 (itms t b.items)).1))
theorem chooseR_no {t : Tree} {id seed try_ : Int} (h : (chooseR t id seed try_).2 = false) : (chooseR t id seed try_).1 = 0 := by
  unfold chooseR at h ⊢
  cases hb : bktO t id with
  | none => rfl
  | some b =>
    rw [hb] at h
    simp only [decide_eq_false_iff_not] at h ⊢
    rcases chL_spec (seed := seed) (try_ := try_) (l := itms t b.items) (m := -1) (i := 0) with h1 | ⟨h1, _⟩
    · rw [h1]
    · omega
theorem chooseR_ok {t : Tree} {id seed try_ : Int} (ht : treeOk t = true) (h : (chooseR t id seed try_).2 = true) : 0 ≤ kindOf t (chooseR t id seed try_).1 ∧ kindOf t (chooseR t id seed try_).1 < kindOf t id := by
  unfold chooseR at h ⊢
  cases hb : bktO t id with
  | none => rw [hb] at h; cases h
  | some b =>
    rw [hb] at h
    simp only [decide_eq_true_eq] at h ⊢
    have hs := kind_some ht hb
    rcases chL_spec (seed := seed) (try_ := try_) (l := itms t b.items) (m := -1) (i := 0) with h1 | ⟨_, x, hx, h2⟩
    · rw [h1] at h; simp at h
    · rw [h2]
      simp only [itms, List.mem_map] at hx
      obtain ⟨i, hi, rfl⟩ := hx
      have := kind_item ht hs.2.2.2.1 hi
      rw [hs.1]
      exact ⟨this.1, this.2.1⟩
theorem itms_wt {t : Tree} (ht : treeOk t = true) {l : List Int} : ∀ x ∈ itms t l, x.weight ≤ 1000000 := by
  intro x hx
  simp only [itms, List.mem_map] at hx
  obtain ⟨i, _, rfl⟩ := hx
  have := wt_in ht i
  show wt t i ≤ 1000000
  omega
def descF (t : Tree) (kind seed n : Int) : Nat → Int → Int × Bool
  | 0, id => (id, true)
  | k + 1, id => if kindOf t id = kind then (id, true) else if (chooseR t id seed n).2 = true then descF t kind seed n k (chooseR t id seed n).1 else (0, false)
theorem descF_ok {t : Tree} {kind seed n : Int} (ht : treeOk t = true) : ∀ (k : Nat) (id : Int), 0 ≤ kindOf t id → kindOf t id < (k : Int) → (descF t kind seed n k id).2 = true → kindOf t (descF t kind seed n k id).1 = kind
  | 0, id, h0, h1, _ => by omega
  | k + 1, id, h0, h1, h => by
    unfold descF at h ⊢
    by_cases hk : kindOf t id = kind
    · rw [if_pos hk]; exact hk
    · rw [if_neg hk] at h ⊢
      by_cases hc : (chooseR t id seed n).2 = true
      · rw [if_pos hc] at h ⊢
        have := chooseR_ok ht hc
        exact descF_ok ht k _ this.1 (by omega) h
      · rw [if_neg hc] at h; cases h
def desc (t : Tree) (kind seed n id : Int) : Int × Bool := descF t kind seed n 5 id
theorem desc_ok {t : Tree} {kind seed n id : Int} (ht : treeOk t = true) (h0 : 0 ≤ kindOf t id) (h : (desc t kind seed n id).2 = true) : kindOf t (desc t kind seed n id).1 = kind :=
  descF_ok ht 5 id h0 (by have := (kind_in ht id).2; omega) h
def findF (t : Tree) (r : Rule) (seed : Int) (places : List Int) (a : Int) (out : List Int) : Nat → Int → Int
  | 0, _ => -1
  | k + 1, i => if (desc t r.kind seed (i * 7 + a) r.root).2 = true then
      (if (desc t 0 seed (i * 7 + a) (desc t r.kind seed (i * 7 + a) r.root).1).2 = true ∧ has out (desc t 0 seed (i * 7 + a) (desc t r.kind seed (i * 7 + a) r.root).1).1 = false ∧ confS t r.kind places a (desc t 0 seed (i * 7 + a) (desc t r.kind seed (i * 7 + a) r.root).1).1 = false
        then (desc t 0 seed (i * 7 + a) (desc t r.kind seed (i * 7 + a) r.root).1).1
        else findF t r seed places a out k (i + 1))
    else -1
def findP (t : Tree) (r : Rule) (seed : Int) (places : List Int) (a : Int) (out : List Int) : Int := findF t r seed places a out 30 0
theorem desc2 {t : Tree} {r : Rule} (ht : treeOk t = true) (hr : ruleOk t r = true) {seed n : Int} (h1 : (desc t r.kind seed n r.root).2 = true) : 0 ≤ kindOf t (desc t r.kind seed n r.root).1 ∧ ((desc t 0 seed n (desc t r.kind seed n r.root).1).2 = true → 0 ≤ devI t (desc t 0 seed n (desc t r.kind seed n r.root).1).1) := by
  simp only [ruleOk, btw, Bool.and_eq_true, decide_eq_true_eq] at hr
  have h2 := desc_ok ht (by omega) h1
  have h3 : 0 ≤ kindOf t (desc t r.kind seed n r.root).1 := by omega
  exact ⟨h3, fun h4 => (kind_dev ht).1 (desc_ok ht h3 h4)⟩
theorem findF_in {t : Tree} {r : Rule} (ht : treeOk t = true) (hr : ruleOk t r = true) {seed : Int} {places : List Int} {a : Int} {out : List Int} : ∀ (k : Nat) (i : Int), findF t r seed places a out k i = -1 ∨ 0 ≤ devI t (findF t r seed places a out k i)
  | 0, _ => .inl rfl
  | k + 1, i => by
    unfold findF
    by_cases h1 : (desc t r.kind seed (i * 7 + a) r.root).2 = true
    · rw [if_pos h1]
      split
      · rename_i h2
        exact .inr ((desc2 ht hr h1).2 h2.1)
      · exact findF_in ht hr k (i + 1)
    · rw [if_neg h1]; exact .inl rfl
theorem findF_congr {t : Tree} {r : Rule} {seed : Int} {p1 p2 : List Int} {a : Int} {out : List Int} (h : ∀ x, confS t r.kind p1 a x = confS t r.kind p2 a x) : ∀ (k : Nat) (i : Int), findF t r seed p1 a out k i = findF t r seed p2 a out k i
  | 0, _ => rfl
  | k + 1, i => by
    unfold findF
    rw [h, findF_congr h k (i + 1)]
theorem confL_app {d : Int → Int} {own a node : Int} {k : Nat} : ∀ {l : List Int} {i : Nat}, confL d own a node i (l ++ List.replicate k (-1)) = confL d own a node i l
  | [], i => by
    induction k generalizing i with
    | zero => rfl
    | succ k ih =>
      simp only [List.nil_append, List.replicate_succ, confL]
      rw [if_pos (.inr (by decide))]
      have h := @ih (i + 1)
      simp only [List.nil_append, confL] at h
      exact h
  | o :: l, i => by
    simp only [List.cons_append, confL, confL_app (l := l) (i := i + 1)]
theorem findP_app {t : Tree} {r : Rule} {seed : Int} {p : List Int} {k : Nat} {a : Int} {out : List Int} : findP t r seed (p ++ List.replicate k (-1)) a out = findP t r seed p a out := findF_congr (fun x => confL_app) 30 0
def okN (t : Tree) (x : Int) : Prop := x = -1 ∨ 0 ≤ devI t x
theorem okN_lt {t : Tree} (ht : treeOk t = true) {x : Int} (h : okN t x) : -1 ≤ x ∧ x ≤ 15 ∧ (0 ≤ x ↔ x ≠ -1) := by
  rcases h with rfl | h
  · omega
  · obtain ⟨d, hd, e⟩ : ∃ d ∈ t.devices, d.id = x := by
      rw [devI, idx_nonneg, List.any_eq_true] at h
      obtain ⟨d, hd, e⟩ := h
      exact ⟨d, hd, by simpa using e⟩
    have := dev_in ht d hd
    omega
theorem findP_in {t : Tree} {r : Rule} (ht : treeOk t = true) (hr : ruleOk t r = true) {seed : Int} {places : List Int} {a : Int} {out : List Int} : okN t (findP t r seed places a out) := findF_in ht hr 30 0
def wholeF (t : Tree) (r : Rule) (seed : Int) : Nat → List Int → List Int
  | 0, acc => acc
  | k + 1, acc => wholeF t r seed k (acc ++ [findP t r seed acc acc.length []])
theorem wholeF_len {t : Tree} {r : Rule} {seed : Int} : ∀ (k : Nat) (acc : List Int), (wholeF t r seed k acc).length = acc.length + k
  | 0, acc => rfl
  | k + 1, acc => by
    rw [wholeF, wholeF_len k]
    simp
    omega
theorem wholeF_in {t : Tree} {r : Rule} (ht : treeOk t = true) (hr : ruleOk t r = true) {seed : Int} : ∀ (k : Nat) (acc : List Int), (∀ x ∈ acc, okN t x) → ∀ x ∈ wholeF t r seed k acc, okN t x
  | 0, acc, h => h
  | k + 1, acc, h => by
    refine wholeF_in ht hr k _ fun x hx => ?_
    rcases List.mem_append.1 hx with hx | hx
    · exact h x hx
    · rw [List.mem_singleton] at hx
      subst hx
      exact findP_in ht hr
theorem wholeF_succ {t : Tree} {r : Rule} {seed : Int} : ∀ (k : Nat) (acc : List Int), wholeF t r seed (k + 1) acc = wholeF t r seed k acc ++ [findP t r seed (wholeF t r seed k acc) (wholeF t r seed k acc).length []]
  | 0, acc => rfl
  | k + 1, acc => by
    rw [wholeF, wholeF_succ k]
    rfl
def wP (t : Tree) (r : Rule) (seed : Int) (N : Nat) : Nat → List Int
  | 0 => List.replicate N (-1)
  | i + 1 => (wP t r seed N i).set i (findP t r seed (wP t r seed N i) i [])
theorem wP_len {t : Tree} {r : Rule} {seed : Int} {N : Nat} : ∀ {i : Nat}, (wP t r seed N i).length = N
  | 0 => by simp [wP]
  | i + 1 => by rw [wP, List.length_set, wP_len]
theorem wP_eq {t : Tree} {r : Rule} {seed : Int} {N : Nat} : ∀ {i : Nat}, i ≤ N → wP t r seed N i = wholeF t r seed i [] ++ List.replicate (N - i) (-1)
  | 0, _ => by simp [wP, wholeF]
  | i + 1, h => by
    have hl : (wholeF t r seed i []).length = i := by rw [wholeF_len]; simp
    rw [wP, wP_eq (i := i) (by omega), findP_app, wholeF_succ, hl, show N - i = N - (i + 1) + 1 by omega, List.replicate_succ]
    rw [List.set_append_right _ _ (by omega), hl, Nat.sub_self, List.set_cons_zero, List.append_assoc]
    rfl
theorem wP_fin {t : Tree} {r : Rule} {seed : Int} {N : Nat} : wP t r seed N N = wholeF t r seed N [] := by
  rw [wP_eq (Nat.le_refl _), Nat.sub_self]
  simp
theorem wP_in {t : Tree} {r : Rule} (ht : treeOk t = true) (hr : ruleOk t r = true) {seed : Int} {N i : Nat} (hi : i ≤ N) : ∀ x ∈ wP t r seed N i, okN t x := by
  rw [wP_eq hi]
  intro x hx
  rcases List.mem_append.1 hx with hx | hx
  · exact wholeF_in ht hr _ _ (fun x hx => by cases hx) x hx
  · exact .inl (List.mem_replicate.1 hx).2
def iP (t : Tree) (r : Rule) (seed : Int) (out w : List Int) : Nat → List Int
  | 0 => w
  | i + 1 => if 0 ≤ (iP t r seed out w i).getD i (-1) ∧ has out ((iP t r seed out w i).getD i (-1)) = true then (iP t r seed out w i).set i (findP t r seed (iP t r seed out w i) i out) else iP t r seed out w i
theorem iP_len {t : Tree} {r : Rule} {seed : Int} {out w : List Int} : ∀ {i : Nat}, (iP t r seed out w i).length = w.length
  | 0 => rfl
  | i + 1 => by
    rw [iP]
    split
    · rw [List.length_set, iP_len]
    · exact iP_len
theorem iP_in {t : Tree} {r : Rule} (ht : treeOk t = true) (hr : ruleOk t r = true) {seed : Int} {out w : List Int} (hw : ∀ x ∈ w, okN t x) : ∀ {i : Nat}, ∀ x ∈ iP t r seed out w i, okN t x
  | 0 => hw
  | i + 1 => by
    rw [iP]
    split
    · intro x hx
      rcases List.mem_or_eq_of_mem_set hx with hx | rfl
      · exact iP_in ht hr hw x hx
      · exact findP_in ht hr
    · exact iP_in ht hr hw
theorem nth_get {l : List Int} {i : Nat} (h : i < l.length) : nth (l.map (AV.int .i64)) i = .int .i64 (l.getD i (-1)) := by
  simp [nth, h]
def wholeR (t : Tree) (r : Rule) (seed n : Int) : List Int := wholeF t r seed n.toNat []
def insR (t : Tree) (r : Rule) (seed n : Int) (out : List Int) : List Int := iP t r seed out (wholeR t r seed n) n.toNat
theorem wholeR_len {t : Tree} {r : Rule} {seed n : Int} : (wholeR t r seed n).length = n.toNat := by rw [wholeR, wholeF_len]; simp
theorem insR_len {t : Tree} {r : Rule} {seed n : Int} {out : List Int} : (insR t r seed n out).length = n.toNat := by rw [insR, iP_len, wholeR_len]
theorem wholeR_in {t : Tree} {r : Rule} (ht : treeOk t = true) (hr : ruleOk t r = true) {seed n : Int} : ∀ x ∈ wholeR t r seed n, okN t x := wholeF_in ht hr _ _ (fun x hx => by cases hx)
def frontF (l : List Int) : List Int := l.filter (fun x => !decide (x < 0)) ++ List.replicate (l.length - (l.filter fun x => !decide (x < 0)).length) (-1)
theorem frontF_len {l : List Int} : (frontF l).length = l.length := by
  have := List.length_filter_le (fun x : Int => !decide (x < 0)) l
  unfold frontF
  simp only [List.length_append, List.length_replicate]
  omega
def placeR (t : Tree) (r : Rule) (seed n : Int) (out : List Int) : List Int := if r.indep = true then insR t r seed n out else frontF (insR t r seed n out)
theorem placeR_len {t : Tree} {r : Rule} {seed n : Int} {out : List Int} : (placeR t r seed n out).length = n.toNat := by
  unfold placeR
  split
  · exact insR_len
  · rw [frontF_len, insR_len]
end Go.Ve
