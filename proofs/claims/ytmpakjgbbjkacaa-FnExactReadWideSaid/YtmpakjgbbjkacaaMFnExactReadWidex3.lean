-- Written by a program of this session (wip/tools/myprint.py) over the kit's print: it is not the kit's print.
import Derived.Test.YtmpakjgbbjkacaaExtra
import Derived.Test.YtmpakjgbbjkacaaMFnExactReadWidex0
import Derived.Test.YtmpakjgbbjkacaaMFnExactReadWidex1
import Derived.Test.YtmpakjgbbjkacaaMFnExactReadWidex2
namespace Go.Proofs.Ytmpakjgbbjkacaa.MFnExactReadWide
open Go.RowKit Go.Proofs.YtmpakjgbbjkacaaW.PrintWords Go.Proofs.YtmpakjgbbjkacaaW.PrintLast Go.Proofs.YtmpakjgbbjkacaaW.PrintMore
open List renaming setIfInBounds_toArray → sit, set_cons_zero → scz, set_cons_succ → scs, map_toArray → mta, map_cons → mco, map_nil → mni, length_drop → lnd, length_take → lnt
open World renaming block_lt_of_cell? → blc
attribute [local go_sem] max2_int min2_int max_two min_two max_three min_three max_four min_four   -- for this text's walks alone
set_option linter.unusedVariables false
set_option linter.unusedSimpArgs false

/-! ### spec_l05Read: function 36 -/
def spec_l05Read.l0 : Nat → Int → Int → List Int → Int → Int → Int → Int → Int → List ByteArray → Option (ByteArray)
 | 0, _, _, _, _, _, _, _, _, _ => none
 | k + 1, x1, x2, x7, x8, x140000, x140001, x140002, x140003, x140004 => if x8 < (wrap64 (x1 + x2)) then ((spec_l05Cell.f x140000 x140001 x140002 x140003 x140004 x8).bind fun bt143 => (if 0 ≤ bt143.1 then (if bt143.1 < (x140004.length : Int) then (if 0 ≤ bt143.2 then (if bt143.2 < ((rdOf ByteArray.empty x140004 bt143.1).size : Int) then (if x7.length < 140737488355328 then (spec_l05Read.l0 k x1 x2 (x7 ++ [bt (rdOf ByteArray.empty x140004 bt143.1) bt143.2]) (wrap64 (x8 + 1)) x140000 x140001 x140002 x140003 x140004) else (none)) else (none)) else (none)) else (none)) else (none))) else (some (strOfNums x7))
def spec_l05Read.f (k : Nat) (a0_0 : Int) (a0_1 : Int) (a0_2 : Int) (a0_3 : Int) (l0_4 : List ByteArray) (a1 : Int) (a2 : Int) : Option (ByteArray) := spec_l05Read.l0 k a1 a2 (([] : List Int)) a1 a0_0 a0_1 a0_2 a0_3 l0_4
theorem spec_l05Read.mono_l : ∀ k, (∀ y0 y1 y2 y3 y4 y5 y6 y7 y8, LeO (spec_l05Read.l0 k y0 y1 y2 y3 y4 y5 y6 y7 y8) (spec_l05Read.l0 (k + 1) y0 y1 y2 y3 y4 y5 y6 y7 y8))
 | 0 => fun _ _ _ _ _ _ _ _ _ r h => by simp [spec_l05Read.l0] at h
 | k + 1 => by
  have ih0 := spec_l05Read.mono_l k
  ·intro y0 y1 y2 y3 y4 y5 y6 y7 y8
   unfold spec_l05Read.l0
   repeat' first
   | (with_reducible exact ih0 _ _ _ _ _ _ _ _ _)
   | (with_reducible exact LeO.refl _)
   | (with_reducible exact LeO.none _)
   | (with_reducible refine LeO.ite ?_ ?_)
   | (with_reducible refine LeO.bind ?_ (fun _ => ?_))
   | exact ih0 _ _ _ _ _ _ _ _ _
   | exact LeO.none _
   | refine LeO.ite ?_ ?_
   | refine LeO.bind ?_ (fun _ => ?_)
theorem spec_l05Read.mono : ∀ a0 a1 a2 a3 a4 a5 a6 k, LeO (spec_l05Read.f k a0 a1 a2 a3 a4 a5 a6) (spec_l05Read.f (k + 1) a0 a1 a2 a3 a4 a5 a6) := by
 intro a0 a1 a2 a3 a4 a5 a6 k
 have ih0 := spec_l05Read.mono_l k
 unfold spec_l05Read.f
 repeat' first
   | (with_reducible exact ih0 _ _ _ _ _ _ _ _ _)
   | (with_reducible exact LeO.refl _)
   | (with_reducible exact LeO.none _)
   | (with_reducible refine LeO.ite ?_ ?_)
   | (with_reducible refine LeO.bind ?_ (fun _ => ?_))
   | exact ih0 _ _ _ _ _ _ _ _ _
   | exact LeO.none _
   | refine LeO.ite ?_ ?_
   | refine LeO.bind ?_ (fun _ => ?_)
set_option maxHeartbeats 8000000 in
set_option maxRecDepth 100000 in
theorem spec_l05Read.calls (k : Nat) (a0_0 : Int) (a0_1 : Int) (a0_2 : Int) (a0_3 : Int) (A0_4 : Option Addr) (c0_4 : Nat) (l0_4 : List ByteArray) (a1 : Int) (a2 : Int) (r : ByteArray) (w : World) (hr0_4 : Kd.C Kd.string w A0_4 l0_4.length l0_4) (hc0_4 : l0_4.length ≤ c0_4) (h : spec_l05Read.f k a0_0 a0_1 a0_2 a0_3 l0_4 a1 a2 = some r) :
  Calls Try.prog 36 #[.agg #[.int .i64 a0_0, .int .i64 a0_1, .int .i64 a0_2, .int .i64 a0_3, .slice A0_4 l0_4.length c0_4], .int .i64 a1, .int .i64 a2] w fun e w' => e = .returned (.string r) ∧ Below w.heap.size w w' := by
 have hu32 := Try.underlying32
 have HR0_4 := am hr0_4
 have HC0_4 := am hc0_4
 clear hr0_4 hc0_4
 have HB := am (Below.refl w.heap.size w)
 have H : (spec_l05Read.l0 k a1 a2 (([] : List Int)) a1 a0_0 a0_1 a0_2 a0_3 l0_4) = some r := h
 clear h
 obtain ⟨y140, hy140⟩ : ∃ y_ : List Int, y_ = (([] : List Int)) := ⟨_, rfl⟩
 replace H : (spec_l05Read.l0 k a1 a2 y140 a1 a0_0 a0_1 a0_2 a0_3 l0_4) = some r := by first | (rw [hy140]; with_reducible exact H) | (have H2_ := (Option.bind_some _ _).symm.trans H; rw [hy140]; with_reducible exact H2_) | (have H2_ := (Option.bind_some _ _).symm.trans H; with_reducible exact H2_) | with_reducible exact H | (rw [hy140]; exact H) | exact H
 have Ny140 := am hy140
 clear hy140
 have H' := am H
 clear H
 go_enter Try.func36, Try.ntmps36
 go_wp2_with (first | ((with_reducible refine gate_dst (N := 3) rfl ?_); refine box_event ?hg (N := 3) ?hd (cs := #[.int .i64 a0_0, .int .i64 a0_1, .int .i64 a0_2, .int .i64 a0_3, .slice A0_4 l0_4.length c0_4]) (t := 32) ?hr ?_; (case hd => rfl); (case hg => rfl); (case hr => first | (go_simp; done) | (go_simp; rfl)); intro gb139 hg w4 hbox hb; have n0_ := am (below_step (by repeat (first | (with_reducible first | exact HB.out | apply bal | apply pdn | apply bd1) | exact HB.out)) hb); have n1_ := am (hbox); have n2_ := am ((by rw [hg]; exact (below_size (by repeat (first | (with_reducible first | exact HB.out | apply bal | apply pdn | apply bd1) | exact HB.out))) : w.heap.size ≤ gb139)); have n3_ := am ((by rw [hg]; exact (below_size (by repeat (first | (with_reducible first | exact HB.out | apply bal | apply pdn | apply bd1) | exact HB.out))) : w.heap.size ≤ gb139)); clear HB; have HB := n0_; have BK139 := n1_; have GW139 := n2_; have GE139 := n3_; clear n0_ n1_ n2_ n3_; clear hb hbox hg) | ((with_reducible refine gate_dst (N := 11) rfl ?_); refine Kd.R_lit (Kd.int .u8) _ 5 ?hg (N := 11) ?hd (xs := ([] : List Int)) (inner := []) (ok := fun _ => True) (okp := fun _ => True) ?hr ?hp (fun _ hk => hk) trivial (Below.refl _ _) (Nat.le_refl _) (by simp) ?_; (case hd => rfl); (case hg => rfl); (case hr => first | (go_simp; done) | (go_simp; rfl)); (case hp => exact (Reps.none _ _)); intro v141 w5 ho6 hb hg_ hnew_; clear hg_ hnew_; (first | rw [← Ny140.out] at ho6 | (simp only [Int.reduceToNat] at ho6; rw [← Ny140.out] at ho6)); have n0_ := am (Kd.R_lower ho6 (below_size (by repeat (first | (with_reducible first | exact HB.out | apply bal | apply pdn | apply bd1 | refine bst ?_ GE139.out) | exact HB.out)))); have n1_ := am (kbb (g := gb139) (o := .cells #[.int .i64 a0_0, .int .i64 a0_1, .int .i64 a0_2, .int .i64 a0_3, .slice A0_4 l0_4.length c0_4] 32 (0, 0)) (by (with_reducible repeat (first | apply kdn | apply kdr | apply kal)); exact BK139.out) hb); have n2_ := am (below_step (by repeat (first | (with_reducible first | exact HB.out | apply bal | apply pdn | apply bd1 | refine bst ?_ GE139.out) | exact HB.out)) hb); clear BK139; clear HB; have HO142 := n0_; have BK139 := n1_; have HB := n2_; clear n0_ n1_ n2_; clear hb ho6))
 go_loopg [7, 8] k (fun kq v7 v8 w' => ∃ (x7_1 : List Int) (x8_1 : Int), v8 = .int .i64 x8_1 ∧ Aside0 (spec_l05Read.l0 kq a1 a2 x7_1 x8_1 a0_0 a0_1 a0_2 a0_3 l0_4 = some r) ∧ Aside0 (kq ≤ k) ∧ Aside0 (Kd.R (Kd.int .u8) 5 w' w.heap.size (fun _ => True) v7 x7_1) ∧ Aside0 (w'.heap[gb139]? = some (.cells #[.int .i64 a0_0, .int .i64 a0_1, .int .i64 a0_2, .int .i64 a0_3, (.slice A0_4 l0_4.length c0_4)] 32 (0, 0))) ∧ Aside0 (Below w.heap.size w w'))
 case atStart => exact ⟨(y140), (a1), (by first | rfl | (simp; done) | (simp [*]; done)), H', ⟨Nat.le_refl _⟩, ⟨by (with_reducible repeat (first | apply kra | apply krn | apply krd)); exact HO142.out⟩, ⟨by (with_reducible repeat (first | apply kdn | apply kdr | apply kal)); exact BK139.out⟩, ⟨by repeat (first | (with_reducible first | exact HB.out | apply bal | apply pdn | apply bd1 | refine bst ?_ GE139.out) | exact HB.out)⟩⟩
 case round =>
  clear H'
  obtain ⟨x7_1, x8_1, rfl, HA, HK1, HO_7, BK139, HB⟩ := hrel
  cases gk with
  | zero => exact absurd HA.out (by simp [spec_l05Read.l0])
  | succ k1 =>
   have H := HA.out
   clear HA
   simp only [spec_l05Read.l0] at H
   by_cases c7 : x8_1 < (wrap64 (a1 + a2))
   ·rw [if_pos c7] at H
    have c7b0 : decide (x8_1 < (wrap64 (a1 + a2))) = true := decide_eq_true c7
    clear c7
    replace H := Option.bind_eq_some_iff.mp H
    obtain ⟨⟨t143, t144⟩, A80, H⟩ := H
    replace H : (if 0 ≤ t143 then (if t143 < (l0_4.length : Int) then (if 0 ≤ t144 then (if t144 < ((rdOf ByteArray.empty l0_4 t143).size : Int) then (if x7_1.length < 140737488355328 then (spec_l05Read.l0 k1 a1 a2 (x7_1 ++ [bt (rdOf ByteArray.empty l0_4 t143) t144]) (wrap64 (x8_1 + 1)) a0_0 a0_1 a0_2 a0_3 l0_4) else (none)) else (none)) else (none)) else (none)) else (none)) = some r := H
    have A8 := am A80
    clear A80
    by_cases c9 : 0 ≤ t143
    ·rw [if_pos c9] at H
     have c9b0 : decide (0 ≤ t143) = true := decide_eq_true c9
     clear c9
     by_cases c10 : t143 < (l0_4.length : Int)
     ·rw [if_pos c10] at H
      have c10b0 : decide (t143 < (l0_4.length : Int)) = true := decide_eq_true c10
      clear c10
      by_cases c11 : 0 ≤ t144
      ·rw [if_pos c11] at H
       have c11b0 : decide (0 ≤ t144) = true := decide_eq_true c11
       clear c11
       by_cases c12 : t144 < ((rdOf ByteArray.empty l0_4 t143).size : Int)
       ·rw [if_pos c12] at H
        have c12b0 : decide (t144 < ((rdOf ByteArray.empty l0_4 t143).size : Int)) = true := decide_eq_true c12
        clear c12
        by_cases c14 : x7_1.length < 140737488355328
        ·rw [if_pos c14] at H
         have LMc14 := am c14
         clear c14
         obtain ⟨y146, hy146⟩ : ∃ y_ : List Int, y_ = (x7_1 ++ [bt (rdOf ByteArray.empty l0_4 t143) t144]) := ⟨_, rfl⟩
         replace H : (spec_l05Read.l0 k1 a1 a2 y146 (wrap64 (x8_1 + 1)) a0_0 a0_1 a0_2 a0_3 l0_4) = some r := by first | (rw [hy146]; with_reducible exact H) | (have H2_ := (Option.bind_some _ _).symm.trans H; rw [hy146]; with_reducible exact H2_) | (have H2_ := (Option.bind_some _ _).symm.trans H; with_reducible exact H2_) | with_reducible exact H | (rw [hy146]; exact H) | exact H
         have Ny146 := am hy146
         clear hy146
         have H' := am H
         clear H
         have hcz15_0 : wr.cell? ⟨gb139, 0, none⟩ = some (.int .i64 a0_0) := (kce BK139.out 0).trans rfl
         have hcz15_1 : wr.cell? ⟨gb139, 1, none⟩ = some (.int .i64 a0_1) := (kce BK139.out 1).trans rfl
         have hcz15_2 : wr.cell? ⟨gb139, 2, none⟩ = some (.int .i64 a0_2) := (kce BK139.out 2).trans rfl
         have hcz15_3 : wr.cell? ⟨gb139, 3, none⟩ = some (.int .i64 a0_3) := (kce BK139.out 3).trans rfl
         have hcz15_4 : wr.cell? ⟨gb139, 4, none⟩ = some (.slice A0_4 l0_4.length c0_4) := (kce BK139.out 4).trans rfl
         have hfz15_0 := kfr BK139.out 0
         have hfz15_1 := kfr BK139.out 1
         have hfz15_2 := kfr BK139.out 2
         have hfz15_3 := kfr BK139.out 3
         have hfz15_4 := kfr BK139.out 4
         go_wp2_with (first | ((with_reducible refine gate_callee (f := 71) rfl ?_); refine goesL_ (some 23) rfl rfl Try.func71 (by kernel_rfl) rfl #[.agg #[.int .i64 a0_0, .int .i64 a0_1, .int .i64 a0_2, .int .i64 a0_3, .slice A0_4 l0_4.length c0_4], .int .i64 x8_1] rfl (by (try simp only [mta, mco, mni]); first | done | rfl | (simp only [lnd, lnt]; rfl)) ?_; (with_reducible refine (spec_l05Cell.calls a0_0 a0_1 a0_2 a0_3 _ _ l0_4 x8_1 t143 t144 _ ?side1 ?side2 A8.out).mono ?_); (case side1 => repeat (first | exact (Kd.C_below HR0_4.out HB.out) | (with_reducible first | apply kca | apply kcn | apply kcd))); (case side2 => exact HC0_4.out); rintro e w16 ⟨rfl, hb⟩; refine ⟨_, rfl, ?_⟩; have n0_ := am (krb (by (with_reducible repeat (first | apply kra | apply krn | apply krd)); exact HO_7.out) hb); have n1_ := am (kbb (g := gb139) (o := .cells #[.int .i64 a0_0, .int .i64 a0_1, .int .i64 a0_2, .int .i64 a0_3, .slice A0_4 l0_4.length c0_4] 32 (0, 0)) (by (with_reducible repeat (first | apply kdn | apply kdr | apply kal)); exact BK139.out) hb); have n2_ := am (below_step (by repeat (first | (with_reducible first | exact HB.out | apply bal | apply pdn | apply bd1 | refine bst ?_ GE139.out) | exact HB.out)) hb); clear HO_7; clear BK139; clear HB; have HO_7 := n0_; have BK139 := n1_; have HB := n2_; clear n0_ n1_ n2_; (try clear hb); (try clear hb2); (try clear hk); (try clear hi); have hcz17_0 : w16.cell? ⟨gb139, 0, none⟩ = some (.int .i64 a0_0) := (kce BK139.out 0).trans rfl; have hcz17_1 : w16.cell? ⟨gb139, 1, none⟩ = some (.int .i64 a0_1) := (kce BK139.out 1).trans rfl; have hcz17_2 : w16.cell? ⟨gb139, 2, none⟩ = some (.int .i64 a0_2) := (kce BK139.out 2).trans rfl; have hcz17_3 : w16.cell? ⟨gb139, 3, none⟩ = some (.int .i64 a0_3) := (kce BK139.out 3).trans rfl; have hcz17_4 : w16.cell? ⟨gb139, 4, none⟩ = some (.slice A0_4 l0_4.length c0_4) := (kce BK139.out 4).trans rfl; have hfz17_0 := kfr BK139.out 0; have hfz17_1 := kfr BK139.out 1; have hfz17_2 := kfr BK139.out 2; have hfz17_3 := kfr BK139.out 3; have hfz17_4 := kfr BK139.out 4; have p145 : 0 ≤ (t143 : Int) := of_decide_eq_true (by first | (with_reducible assumption) | assumption); have q145 : t143 < (l0_4.length : Int) := of_decide_eq_true (by first | (with_reducible assumption) | assumption); obtain ⟨ad145, e145, hx145_0⟩ := Kd.at_string HR0_4.out t143 p145 q145; cases e145; replace hx145_0 := (HB.out.cell (blc w _ hx145_0)).trans hx145_0; replace p145 := eq_true p145; replace q145 := eq_true q145; have p13 : 0 ≤ (t144 : Int) := of_decide_eq_true (by first | (with_reducible assumption) | assumption); have q13 : t144 < ((rdOf ByteArray.empty l0_4 t143).size : Int) := of_decide_eq_true (by first | (with_reducible assumption) | assumption); have hx13 := bt_at (rdOf ByteArray.empty l0_4 t143) t144; replace p13 := eq_true p13; replace q13 := eq_true q13) | ((with_reducible refine gate_builtin (b := .append) (xs := #[.tmp 26, .tmp 34]) rfl ?_); at_builtin; refine Kd.R_append (Kd.int .u8) (w0 := w) w.heap.size rfl (.tmp 26) (.tmp 34) 107 5 (.int .u8 0) 1 rfl Try.underlying107 info5 rfl (by decide) (by omega) u7 x7_1 (bt (rdOf ByteArray.empty l0_4 t143) t144) [.int .u8 (bt (rdOf ByteArray.empty l0_4 t143) t144)] (fun _ => True) (fun _ => False) rfl rfl ?aP (fun _ hk => hk.elim) ?aF ?aO ?aB ?aS ?aL ?_; (case aP => exact rfl); (case aB => exact (by repeat (first | (with_reducible first | exact HB.out | apply bal | apply pdn | apply bd1 | refine bst ?_ GE139.out) | exact HB.out))); (case aF => exact (fun _ _ => trivial)); (case aO => exact (by (with_reducible repeat (first | apply kra | apply krn | apply krd)); exact HO_7.out)); (case aS => exact (below_size (by repeat (first | (with_reducible first | exact HB.out | apply bal | apply pdn | apply bd1 | refine bst ?_ GE139.out) | exact HB.out)))); (case aL => have := LMc14.out; omega); intro v147 w18 ho hb hg hat; rw [← Ny146.out] at ho; have n0_ := am (blk_grown (g := gb139) (o := .cells #[.int .i64 a0_0, .int .i64 a0_1, .int .i64 a0_2, .int .i64 a0_3, .slice (some ad145) l0_4.length c0_4] 32 (0, 0)) (by (with_reducible repeat (first | apply kdn | apply kdr | apply kal)); exact BK139.out) hg (Kd.R_ne HO_7.out BK139.out (by decide))); have n1_ := am (hb); have n2_ := am (ho); clear BK139; clear HB; clear HO_7; have BK139 := n0_; have HB := n1_; have HO148 := n2_; clear n0_ n1_ n2_; clear ho hb hg hat))
         go_roundg k1
         case measure => have := HK1.out; omega
         case rel => exact ⟨(y146), (wrap64 (x8_1 + 1)), (by first | rfl | (simp; done) | (simp [*]; done)), H', ⟨by have := HK1.out; omega⟩, ⟨by (with_reducible repeat (first | apply kra | apply krn | apply krd)); exact HO148.out⟩, ⟨by (with_reducible repeat (first | apply kdn | apply kdr | apply kal)); exact BK139.out⟩, ⟨by repeat (first | (with_reducible first | exact HB.out | apply bal | apply pdn | apply bd1 | refine bst ?_ GE139.out) | exact HB.out)⟩⟩
        ·rw [if_neg c14] at H
         exact absurd H (by simp)
       ·rw [if_neg c12] at H
        exact absurd H (by simp)
      ·rw [if_neg c11] at H
       exact absurd H (by simp)
     ·rw [if_neg c10] at H
      exact absurd H (by simp)
    ·rw [if_neg c9] at H
     exact absurd H (by simp)
   ·rw [if_neg c7] at H
    have c7b0 : decide (x8_1 < (wrap64 (a1 + a2))) = false := decide_eq_false c7
    clear c7
    obtain rfl := Option.some.inj H
    have hcv19 := own_string (P := Try.prog) Try.underlying107 Try.underlying5 Try.underlying9 (Kd.own_of_R HO_7.out)
    go_wp2
    go_ret
    exact ⟨by first | rfl | (simp [errW_none, errW_some] <;> rfl) | (simp [*, errW_none, errW_some] <;> rfl), by repeat (first | (with_reducible first | exact HB.out | apply bal | apply pdn | apply bd1 | refine bst ?_ GE139.out) | exact HB.out)⟩

/-! ### spec_l00Min: function 44 -/
def spec_l00Min.f (a0 : Int) (a1 : Int) : Option (Int) := if a0 < a1 then (some a0) else (some a1)
set_option maxHeartbeats 8000000 in
set_option maxRecDepth 100000 in
theorem spec_l00Min.calls (a0 : Int) (a1 : Int) (r : Int) (w : World) (h : spec_l00Min.f a0 a1 = some r) :
  Calls Try.prog 44 #[.int .i64 a0, .int .i64 a1] w fun e w' => e = .returned (.int .i64 r) ∧ Drawn0 w w' := by
 have H : (if a0 < a1 then (some a0) else (some a1)) = some r := h
 clear h
 by_cases c3 : a0 < a1
 ·rw [if_pos c3] at H
  have c3b0 : decide (a0 < a1) = true := decide_eq_true c3
  clear c3
  obtain rfl := Option.some.inj H
  go_enter Try.func44, Try.ntmps44
  go_wp2
  go_ret
  exact ⟨by first | rfl | (simp; done) | (simp [*]; done), by repeat (first | exact Drawn0.refl _ | apply Drawn0.step)⟩
 ·rw [if_neg c3] at H
  have c3b0 : decide (a0 < a1) = false := decide_eq_false c3
  clear c3
  obtain rfl := Option.some.inj H
  go_enter Try.func44, Try.ntmps44
  go_wp2
  go_ret
  exact ⟨by first | rfl | (simp; done) | (simp [*]; done), by repeat (first | exact Drawn0.refl _ | apply Drawn0.step)⟩

/-! ### spec_ReadWide: function 14 -/
def spec_ReadWide.j0 : Nat → Int → Int → Bool → Int → Int → Int → Int → List ByteArray → Option (ByteArray × Int)
 | 0, _, _, _, _, _, _, _, _ => none
 | k + 1, x1, x2, x19, x150000, x150001, x150002, x150003, x150004 => if x19 = true then (some ((⟨#[]⟩ : ByteArray), 2)) else ((spec_l00Min.f x2 (wrap64 (x150003 - x1))).bind fun t152 => ((spec_l05Read.f k x150000 x150001 x150002 x150003 x150004 x1 t152).bind fun t153 => (some (t153, 0))))
def spec_ReadWide.f (k : Nat) (a0_0 : Int) (a0_1 : Int) (a0_2 : Int) (a0_3 : Int) (l0_4 : List ByteArray) (a1 : Int) (a2 : Int) : Option (ByteArray × Int) := (spec_l05OK.f k a0_0 a0_1 a0_2 a0_3 l0_4).bind fun t150 => (if t150 = true then ((spec_l00In.f a1 0 a0_3).bind fun t151 => (if t151 = true then (spec_ReadWide.j0 k a1 a2 (decide (a2 < 0)) a0_0 a0_1 a0_2 a0_3 l0_4) else (spec_ReadWide.j0 k a1 a2 true a0_0 a0_1 a0_2 a0_3 l0_4))) else (some ((⟨#[]⟩ : ByteArray), 1)))
theorem spec_ReadWide.mono_l : ∀ k, (∀ y0 y1 y2 y3 y4 y5 y6 y7, LeO (spec_ReadWide.j0 k y0 y1 y2 y3 y4 y5 y6 y7) (spec_ReadWide.j0 (k + 1) y0 y1 y2 y3 y4 y5 y6 y7))
 | 0 => fun _ _ _ _ _ _ _ _ r h => by simp [spec_ReadWide.j0] at h
 | k + 1 => by
  have ih0 := spec_ReadWide.mono_l k
  ·intro y0 y1 y2 y3 y4 y5 y6 y7
   unfold spec_ReadWide.j0
   repeat' first
   | (with_reducible exact ih0 _ _ _ _ _ _ _ _)
   | (with_reducible exact spec_l05OK.mono _ _ _ _ _ _)
   | (with_reducible exact spec_l05Read.mono _ _ _ _ _ _ _ _)
   | (with_reducible exact LeO.refl _)
   | (with_reducible exact LeO.none _)
   | (with_reducible refine LeO.ite ?_ ?_)
   | (with_reducible refine LeO.bind ?_ (fun _ => ?_))
   | exact ih0 _ _ _ _ _ _ _ _
   | exact spec_l05OK.mono _ _ _ _ _ _
   | exact spec_l05Read.mono _ _ _ _ _ _ _ _
   | exact LeO.none _
   | refine LeO.ite ?_ ?_
   | refine LeO.bind ?_ (fun _ => ?_)
theorem spec_ReadWide.mono : ∀ a0 a1 a2 a3 a4 a5 a6 k, LeO (spec_ReadWide.f k a0 a1 a2 a3 a4 a5 a6) (spec_ReadWide.f (k + 1) a0 a1 a2 a3 a4 a5 a6) := by
 intro a0 a1 a2 a3 a4 a5 a6 k
 have ih0 := spec_ReadWide.mono_l k
 unfold spec_ReadWide.f
 repeat' first
   | (with_reducible exact ih0 _ _ _ _ _ _ _ _)
   | (with_reducible exact spec_l05OK.mono _ _ _ _ _ _)
   | (with_reducible exact spec_l05Read.mono _ _ _ _ _ _ _ _)
   | (with_reducible exact LeO.refl _)
   | (with_reducible exact LeO.none _)
   | (with_reducible refine LeO.ite ?_ ?_)
   | (with_reducible refine LeO.bind ?_ (fun _ => ?_))
   | exact ih0 _ _ _ _ _ _ _ _
   | exact spec_l05OK.mono _ _ _ _ _ _
   | exact spec_l05Read.mono _ _ _ _ _ _ _ _
   | exact LeO.none _
   | refine LeO.ite ?_ ?_
   | refine LeO.bind ?_ (fun _ => ?_)
def spec_ReadWide.T5 : Bool × List (List Nat × List Nat) := (true, [([], []), ([], []), ([], []), ([], []), ([3], [3]), ([], []), ([4, 5], [4, 5]), ([2, 6], [2, 6]), ([0, 1, 7, 7], [0, 1, 7]), ([8, 8, 0, 1, 2, 3, 4, 5, 6, 7, 8], [8]), ([9, 0, 1, 2, 3, 4, 5, 6, 7, 8, 9], [])])
def spec_ReadWide.B5 : List Nat := [0, 0, 0, 0, 8, 0, 56, 124, 255, 511, 1023]
theorem spec_ReadWide.tab5 : rtab .any (opsOf Try.f14 5) = spec_ReadWide.T5 := by kernel_rfl
theorem spec_ReadWide.bits5 : waitsOk spec_ReadWide.T5.2 spec_ReadWide.B5 = true := by kernel_rfl
set_option maxHeartbeats 8000000 in
set_option maxRecDepth 100000 in
theorem spec_ReadWide.calls (k : Nat) (a0_0 : Int) (a0_1 : Int) (a0_2 : Int) (a0_3 : Int) (A0_4 : Option Addr) (c0_4 : Nat) (l0_4 : List ByteArray) (a1 : Int) (a2 : Int) (r1 : ByteArray) (r2 : Int) (w : World) (hr0_4 : Kd.C Kd.string w A0_4 l0_4.length l0_4) (hc0_4 : l0_4.length ≤ c0_4) (h : spec_ReadWide.f k a0_0 a0_1 a0_2 a0_3 l0_4 a1 a2 = some (r1, r2)) :
  Calls Try.prog 14 #[.agg #[.int .i64 a0_0, .int .i64 a0_1, .int .i64 a0_2, .int .i64 a0_3, .slice A0_4 l0_4.length c0_4], .int .i64 a1, .int .i64 a2] w fun e w' => e = .returned (.tuple #[.string r1, .int .i64 r2]) ∧ Below w.heap.size w w' := by
 have hu32 := Try.underlying32
 have HR0_4 := am hr0_4
 have HC0_4 := am hc0_4
 clear hr0_4 hc0_4
 have HB := am (Below.refl w.heap.size w)
 have H : ((spec_l05OK.f k a0_0 a0_1 a0_2 a0_3 l0_4).bind fun t150 => (if t150 = true then ((spec_l00In.f a1 0 a0_3).bind fun t151 => (if t151 = true then (spec_ReadWide.j0 k a1 a2 (decide (a2 < 0)) a0_0 a0_1 a0_2 a0_3 l0_4) else (spec_ReadWide.j0 k a1 a2 true a0_0 a0_1 a0_2 a0_3 l0_4))) else (some ((⟨#[]⟩ : ByteArray), 1)))) = some (r1, r2) := h
 clear h
 replace H := Option.bind_eq_some_iff.mp H
 obtain ⟨t150, A40, H⟩ := H
 replace H : (if t150 = true then ((spec_l00In.f a1 0 a0_3).bind fun t151 => (if t151 = true then (spec_ReadWide.j0 k a1 a2 (decide (a2 < 0)) a0_0 a0_1 a0_2 a0_3 l0_4) else (spec_ReadWide.j0 k a1 a2 true a0_0 a0_1 a0_2 a0_3 l0_4))) else (some ((⟨#[]⟩ : ByteArray), 1))) = some (r1, r2) := H
 have A4 := am A40
 clear A40
 by_cases c5 : t150 = true
 ·subst c5
  have H1 : ((spec_l00In.f a1 0 a0_3).bind fun t151 => (if t151 = true then (spec_ReadWide.j0 k a1 a2 (decide (a2 < 0)) a0_0 a0_1 a0_2 a0_3 l0_4) else (spec_ReadWide.j0 k a1 a2 true a0_0 a0_1 a0_2 a0_3 l0_4))) = some (r1, r2) := by rw [if_pos rfl] at H; exact H
  clear H
  have H := H1
  clear H1
  have HC6 := am H
  clear H
  go_enter Try.func14, Try.ntmps14
  go_upto_region 3 with (first | ((with_reducible refine gate_dst (N := 3) rfl ?_); refine box_event ?hg (N := 3) ?hd (cs := #[.int .i64 a0_0, .int .i64 a0_1, .int .i64 a0_2, .int .i64 a0_3, .slice A0_4 l0_4.length c0_4]) (t := 32) ?hr ?_; (case hd => rfl); (case hg => rfl); (case hr => first | (go_simp; done) | (go_simp; rfl)); intro gb149 hg w7 hbox hb; have n0_ := am (below_step (by repeat (first | (with_reducible first | exact HB.out | apply bal | apply pdn | apply bd1) | exact HB.out)) hb); have n1_ := am (hbox); have n2_ := am ((by rw [hg]; exact (below_size (by repeat (first | (with_reducible first | exact HB.out | apply bal | apply pdn | apply bd1) | exact HB.out))) : w.heap.size ≤ gb149)); have n3_ := am ((by rw [hg]; exact (below_size (by repeat (first | (with_reducible first | exact HB.out | apply bal | apply pdn | apply bd1) | exact HB.out))) : w.heap.size ≤ gb149)); clear HB; have HB := n0_; have BK149 := n1_; have GW149 := n2_; have GE149 := n3_; clear n0_ n1_ n2_ n3_; clear hb hbox hg; have hcz8_0 : w7.cell? ⟨gb149, 0, none⟩ = some (.int .i64 a0_0) := (kce BK149.out 0).trans rfl; have hcz8_1 : w7.cell? ⟨gb149, 1, none⟩ = some (.int .i64 a0_1) := (kce BK149.out 1).trans rfl; have hcz8_2 : w7.cell? ⟨gb149, 2, none⟩ = some (.int .i64 a0_2) := (kce BK149.out 2).trans rfl; have hcz8_3 : w7.cell? ⟨gb149, 3, none⟩ = some (.int .i64 a0_3) := (kce BK149.out 3).trans rfl; have hcz8_4 : w7.cell? ⟨gb149, 4, none⟩ = some (.slice A0_4 l0_4.length c0_4) := (kce BK149.out 4).trans rfl; have hfz8_0 := kfr BK149.out 0; have hfz8_1 := kfr BK149.out 1; have hfz8_2 := kfr BK149.out 2; have hfz8_3 := kfr BK149.out 3; have hfz8_4 := kfr BK149.out 4) | ((with_reducible refine gate_callee (f := 35) rfl ?_); refine goesL_ (some 9) rfl rfl Try.func35 (by kernel_rfl) rfl #[.agg #[.int .i64 a0_0, .int .i64 a0_1, .int .i64 a0_2, .int .i64 a0_3, .slice A0_4 l0_4.length c0_4]] rfl (by (try simp only [mta, mco, mni]); first | done | rfl | (simp only [lnd, lnt]; rfl)) ?_; (with_reducible refine (spec_l05OK.calls k a0_0 a0_1 a0_2 a0_3 _ _ l0_4 true _ ?side1 ?side2 A4.out).mono ?_); (case side1 => repeat (first | exact (Kd.C_below HR0_4.out HB.out) | (with_reducible first | apply kca | apply kcn | apply kcd))); (case side2 => exact HC0_4.out); rintro e w9 ⟨rfl, hb⟩; refine ⟨_, rfl, ?_⟩; have n0_ := am (kbb (g := gb149) (o := .cells #[.int .i64 a0_0, .int .i64 a0_1, .int .i64 a0_2, .int .i64 a0_3, .slice A0_4 l0_4.length c0_4] 32 (0, 0)) (by (with_reducible repeat (first | apply kdn | apply kdr | apply kal)); exact BK149.out) hb); have n1_ := am (below_step (by repeat (first | (with_reducible first | exact HB.out | apply bal | apply pdn | apply bd1 | refine bst ?_ GE149.out) | exact HB.out)) hb); clear BK149; clear HB; have BK149 := n0_; have HB := n1_; clear n0_ n1_; (try clear hb); (try clear hb2); (try clear hk); (try clear hi)))
  (try simp only [Act.put, sit, scz, scs])
  go_cut [19] (fun v19 wc => ∃ (kq : Nat) (x19_5 : Bool), v19 = .bool x19_5 ∧ Aside0 (spec_ReadWide.j0 kq a1 a2 x19_5 a0_0 a0_1 a0_2 a0_3 l0_4 = some (r1, r2)) ∧ Aside0 (kq ≤ k) ∧ Aside0 (wc.heap[gb149]? = some (.cells #[.int .i64 a0_0, .int .i64 a0_1, .int .i64 a0_2, .int .i64 a0_3, (.slice A0_4 l0_4.length c0_4)] 32 (0, 0))) ∧ Aside0 (Below w.heap.size w wc))
  case first =>
   have H := HC6.out
   clear HC6
   replace H := Option.bind_eq_some_iff.mp H
   obtain ⟨t151, A100, H⟩ := H
   replace H : (if t151 = true then (spec_ReadWide.j0 k a1 a2 (decide (a2 < 0)) a0_0 a0_1 a0_2 a0_3 l0_4) else (spec_ReadWide.j0 k a1 a2 true a0_0 a0_1 a0_2 a0_3 l0_4)) = some (r1, r2) := H
   have A10 := am A100
   clear A100
   by_cases c11 : t151 = true
   ·subst c11
    have H1 : (spec_ReadWide.j0 k a1 a2 (decide (a2 < 0)) a0_0 a0_1 a0_2 a0_3 l0_4) = some (r1, r2) := by rw [if_pos rfl] at H; exact H
    clear H
    have H := H1
    clear H1
    have H' := am H
    clear H
    have hcz12_0 : w9.cell? ⟨gb149, 0, none⟩ = some (.int .i64 a0_0) := (kce BK149.out 0).trans rfl
    have hcz12_1 : w9.cell? ⟨gb149, 1, none⟩ = some (.int .i64 a0_1) := (kce BK149.out 1).trans rfl
    have hcz12_2 : w9.cell? ⟨gb149, 2, none⟩ = some (.int .i64 a0_2) := (kce BK149.out 2).trans rfl
    have hcz12_3 : w9.cell? ⟨gb149, 3, none⟩ = some (.int .i64 a0_3) := (kce BK149.out 3).trans rfl
    have hcz12_4 : w9.cell? ⟨gb149, 4, none⟩ = some (.slice A0_4 l0_4.length c0_4) := (kce BK149.out 4).trans rfl
    have hfz12_0 := kfr BK149.out 0
    have hfz12_1 := kfr BK149.out 1
    have hfz12_2 := kfr BK149.out 2
    have hfz12_3 := kfr BK149.out 3
    have hfz12_4 := kfr BK149.out 4
    go_wp2_with (first | ((with_reducible refine gate_callee (f := 43) rfl ?_); refine goesL_ (some 14) rfl rfl Try.func43 (by kernel_rfl) rfl #[.int .i64 a1, .int .i64 0, .int .i64 a0_3] rfl (by (try simp only [mta, mco, mni]); first | done | rfl | (simp only [lnd, lnt]; rfl)) ?_; (with_reducible refine (spec_l00In.calls a1 0 a0_3 true _ A10.out).mono ?_); rintro e w' ⟨rfl, ⟨nd, rfl⟩⟩; refine ⟨_, rfl, ?_⟩))
    go_meet
    case rel => exact ⟨_, (decide (a2 < 0)), (by first | rfl | (simp; done) | (simp [*]; done)), H', ⟨by first | omega | exact Nat.le_refl _⟩, ⟨by (with_reducible repeat (first | apply kdn | apply kdr | apply kal)); exact BK149.out⟩, ⟨by repeat (first | (with_reducible first | exact HB.out | apply bal | apply pdn | apply bd1 | refine bst ?_ GE149.out) | exact HB.out)⟩⟩
   ·replace c11 := Bool.eq_false_iff.mpr c11
    subst c11
    have H1 : (spec_ReadWide.j0 k a1 a2 true a0_0 a0_1 a0_2 a0_3 l0_4) = some (r1, r2) := by rw [if_neg (show ¬ (false = true) by decide)] at H; exact H
    clear H
    have H := H1
    clear H1
    have H' := am H
    clear H
    have hcz13_0 : w9.cell? ⟨gb149, 0, none⟩ = some (.int .i64 a0_0) := (kce BK149.out 0).trans rfl
    have hcz13_1 : w9.cell? ⟨gb149, 1, none⟩ = some (.int .i64 a0_1) := (kce BK149.out 1).trans rfl
    have hcz13_2 : w9.cell? ⟨gb149, 2, none⟩ = some (.int .i64 a0_2) := (kce BK149.out 2).trans rfl
    have hcz13_3 : w9.cell? ⟨gb149, 3, none⟩ = some (.int .i64 a0_3) := (kce BK149.out 3).trans rfl
    have hcz13_4 : w9.cell? ⟨gb149, 4, none⟩ = some (.slice A0_4 l0_4.length c0_4) := (kce BK149.out 4).trans rfl
    have hfz13_0 := kfr BK149.out 0
    have hfz13_1 := kfr BK149.out 1
    have hfz13_2 := kfr BK149.out 2
    have hfz13_3 := kfr BK149.out 3
    have hfz13_4 := kfr BK149.out 4
    go_wp2_with (first | ((with_reducible refine gate_callee (f := 43) rfl ?_); refine goesL_ (some 14) rfl rfl Try.func43 (by kernel_rfl) rfl #[.int .i64 a1, .int .i64 0, .int .i64 a0_3] rfl (by (try simp only [mta, mco, mni]); first | done | rfl | (simp only [lnd, lnt]; rfl)) ?_; (with_reducible refine (spec_l00In.calls a1 0 a0_3 false _ A10.out).mono ?_); rintro e w' ⟨rfl, ⟨nd, rfl⟩⟩; refine ⟨_, rfl, ?_⟩))
    go_meet
    case rel => exact ⟨_, (true), (by first | rfl | (simp; done) | (simp [*]; done)), H', ⟨by first | omega | exact Nat.le_refl _⟩, ⟨by (with_reducible repeat (first | apply kdn | apply kdr | apply kal)); exact BK149.out⟩, ⟨by repeat (first | (with_reducible first | exact HB.out | apply bal | apply pdn | apply bd1 | refine bst ?_ GE149.out) | exact HB.out)⟩⟩
  case rest =>
   clear HC6
   obtain ⟨kq, x19_5, rfl, HA, HJ5, BK149, HB⟩ := hcut
   cases kq with
   | zero => exact absurd HA.out (by simp [spec_ReadWide.j0])
   | succ kj5 =>
    have H := HA.out
    clear HA
    simp only [spec_ReadWide.j0] at H
    by_cases c14 : x19_5 = true
    ·subst c14
     have H1 : (some ((⟨#[]⟩ : ByteArray), 2)) = some (r1, r2) := by rw [if_pos rfl] at H; exact H
     clear H
     have H := H1
     clear H1
     simp only [Option.some.injEq, Prod.mk.injEq] at H
     obtain ⟨rfl, rfl⟩ := H
     go_wp2
     go_ret2
     exact ⟨by first | rfl | (simp [errW_none, errW_some] <;> rfl) | (simp [*, errW_none, errW_some] <;> rfl), by repeat (first | (with_reducible first | exact HB.out | apply bal | apply pdn | apply bd1 | refine bst ?_ GE149.out) | exact HB.out)⟩
    ·replace c14 := Bool.eq_false_iff.mpr c14
     subst c14
     have H1 : ((spec_l00Min.f a2 (wrap64 (a0_3 - a1))).bind fun t152 => ((spec_l05Read.f kj5 a0_0 a0_1 a0_2 a0_3 l0_4 a1 t152).bind fun t153 => (some (t153, 0)))) = some (r1, r2) := by rw [if_neg (show ¬ (false = true) by decide)] at H; exact H
     clear H
     have H := H1
     clear H1
     replace H := Option.bind_eq_some_iff.mp H
     obtain ⟨t152, A150, H⟩ := H
     replace H : ((spec_l05Read.f kj5 a0_0 a0_1 a0_2 a0_3 l0_4 a1 t152).bind fun t153 => (some (t153, 0))) = some (r1, r2) := H
     have A15 := am A150
     clear A150
     replace H := Option.bind_eq_some_iff.mp H
     obtain ⟨t153, A160, H⟩ := H
     replace H : (some (t153, 0)) = some (r1, r2) := H
     have A16 := am A160
     clear A160
     simp only [Option.some.injEq, Prod.mk.injEq] at H
     obtain ⟨rfl, rfl⟩ := H
     try go_wp2
     have n0_ := am (kdr BK149.out)
     have n1_ := am (bd1 HB.out)
     clear BK149
     clear HB
     have BK149 := n0_
     have HB := n1_
     clear n0_ n1_
     refine start_ (n := 11) (S := fun w' => w'.cell? ⟨gb149, 0, none⟩ = some (.int .i64 a0_0) ∧ w'.cell? ⟨gb149, 1, none⟩ = some (.int .i64 a0_1) ∧ w'.cell? ⟨gb149, 2, none⟩ = some (.int .i64 a0_2) ∧ w'.cell? ⟨gb149, 3, none⟩ = some (.int .i64 a0_3) ∧ w'.cell? ⟨gb149, 4, none⟩ = some (.slice A0_4 l0_4.length c0_4)) (ds := []) #[false, false, false, false, false, false, false, false, false, false, false] (by kernel_rfl) rfl rfl ⟨(kce BK149.out 0).trans rfl, (kce BK149.out 1).trans rfl, (kce BK149.out 2).trans rfl, (kce BK149.out 3).trans rfl, (kce BK149.out 4).trans rfl⟩ (fun hHeld => ?_); refine with_tabW spec_ReadWide.tab5 spec_ReadWide.bits5 (fun HT_ HW_ => ?_)
     generalize wc.drew = w17 at BK149 HB hHeld ⊢
     refine pure_ (i := 1) (N := some 21) (v := ?_) (a' := ?_) #[false, true, false, false, false, false, false, false, false, false, false] rfl rfl (any_of HT_.out (by kernel_rfl)) (fun _ _ _ h => h) (Or.inl ⟨by rfl, ?_⟩) ?_ ?_
     rotate_left
     ·intro w'
      go_simp
      with_reducible rfl
     rotate_left
     ·simp only [Act.put, sit, scz, scs, i64_w, i32_w]
      rfl
     refine pure_ (i := 2) (N := some 22) (v := ?_) (a' := ?_) #[false, true, true, false, false, false, false, false, false, false, false] rfl rfl (any_of HT_.out (by kernel_rfl)) (fun _ _ _ h => h) (Or.inl ⟨by rfl, ?_⟩) ?_ ?_
     rotate_left
     ·intro w'
      go_simp
      with_reducible rfl
     rotate_left
     ·simp only [Act.put, sit, scz, scs, i64_w, i32_w]
      rfl
     refine pure_ (i := 3) (N := some 23) (v := ?_) (a' := ?_) #[false, true, true, true, false, false, false, false, false, false, false] rfl rfl (any_of HT_.out (by kernel_rfl)) (fun _ _ _ h => h) (Or.inl ⟨by rfl, ?_⟩) ?_ ?_
     rotate_left
     ·intro w'
      go_simp
      with_reducible rfl
     rotate_left
     ·simp only [Act.put, sit, scz, scs, i64_w, i32_w]
      rfl
     refine pure_ (i := 5) (N := some 25) (v := ?_) (a' := ?_) #[false, true, true, true, false, true, false, false, false, false, false] rfl rfl (any_of HT_.out (by kernel_rfl)) (fun _ _ _ h => h) (Or.inl ⟨by rfl, ?_⟩) ?_ ?_
     rotate_left
     ·intro w'
      go_simp
      with_reducible rfl
     rotate_left
     ·simp only [Act.put, sit, scz, scs, i64_w, i32_w]
      rfl
     refine take_ (i := 0) (N := some 20) (v := ?_) (a' := ?_) #[true, true, true, true, false, true, false, false, false, false, false] rfl rfl (take_ofW HT_.out HW_.out (by kernel_rfl)) (fun _ _ _ h => h) (Or.inl ⟨by rfl, ?_⟩) hHeld ?_ ?_
     rotate_left
     ·rintro w' ⟨s0, s1, s2, s3, s4⟩
      go_simp
      with_reducible rfl
     rotate_left
     ·simp only [Act.put, sit, scz, scs, i64_w, i32_w]
      rfl
     refine take_ (i := 4) (N := some 24) (v := ?_) (a' := ?_) #[true, true, true, true, true, true, false, false, false, false, false] rfl rfl (take_ofW HT_.out HW_.out (by kernel_rfl)) (fun _ _ _ h => h) (Or.inl ⟨by rfl, ?_⟩) hHeld ?_ ?_
     rotate_left
     ·rintro w' ⟨s0, s1, s2, s3, s4⟩
      go_simp
      with_reducible rfl
     rotate_left
     ·simp only [Act.put, sit, scz, scs, i64_w, i32_w]
      rfl
     refine pure_ (i := 6) (N := some 26) (v := ?_) (a' := ?_) #[true, true, true, true, true, true, true, false, false, false, false] rfl rfl (any_of HT_.out (by kernel_rfl)) (fun _ _ _ h => h) (Or.inl ⟨by rfl, ?_⟩) ?_ ?_
     rotate_left
     ·intro w'
      go_simp
      with_reducible rfl
     rotate_left
     ·simp only [Act.put, sit, scz, scs, i64_w, i32_w]
      rfl
     refine one_ (i := 7) (N := some 27) #[true, true, true, true, true, true, true, true, false, false, false] rfl rfl (one_of HT_.out (by kernel_rfl)) (by decide) (fun K hK => ?_)
     refine goes_ Try.func44 (by kernel_rfl) rfl #[.int .i64 a2, .int .i64 (wrap64 (a0_3 - a1))] (by rfl) rfl rfl (by (try simp only [mta, mco, mni]); first | done | rfl | (simp only [lnd, lnt]; rfl)) ?_
     with_reducible refine (spec_l00Min.calls a2 (wrap64 (a0_3 - a1)) t152 _ A15.out).mono ?_
     rintro e w' ⟨rfl, ⟨nd, rfl⟩⟩
     refine ⟨_, rfl, ?_⟩
     refine hK.out _ _ ⟨(kce BK149.out 0).trans rfl, (kce BK149.out 1).trans rfl, (kce BK149.out 2).trans rfl, (kce BK149.out 3).trans rfl, (kce BK149.out 4).trans rfl⟩ (fun hHeld => ?_)
     clear hK K
     refine norm_ (a' := ?_) ?_ ?_
     rotate_left
     ·show Act.put _ (some 27) _ = _
      simp only [Act.put, sit, scz, scs, i64_w, i32_w]
      rfl
     refine one_ (i := 8) (N := some 28) #[true, true, true, true, true, true, true, true, true, false, false] rfl rfl (one_of HT_.out (by kernel_rfl)) (by decide) (fun K hK => ?_)
     refine goes_ Try.func36 (by kernel_rfl) rfl #[.agg #[.int .i64 a0_0, .int .i64 a0_1, .int .i64 a0_2, .int .i64 a0_3, .slice A0_4 l0_4.length c0_4], .int .i64 a1, .int .i64 t152] (by rfl) rfl rfl (by (try simp only [mta, mco, mni]); first | done | rfl | (simp only [lnd, lnt]; rfl)) ?_
     with_reducible refine (spec_l05Read.calls kj5 a0_0 a0_1 a0_2 a0_3 _ _ l0_4 a1 t152 t153 _ ?side1 ?side2 A16.out).mono ?_
     (case side1 => repeat (first | exact (Kd.C_below HR0_4.out (by repeat (first | (with_reducible first | exact HB.out | apply bal | apply pdn | apply bd1 | refine bst ?_ GE149.out) | exact HB.out))) | (with_reducible first | apply kca | apply kcn | apply kcd)))
     (case side2 => exact HC0_4.out)
     rintro e w18 ⟨rfl, hb⟩
     refine ⟨_, rfl, ?_⟩
     have n0_ := am (kbb (g := gb149) (o := .cells #[.int .i64 a0_0, .int .i64 a0_1, .int .i64 a0_2, .int .i64 a0_3, .slice A0_4 l0_4.length c0_4] 32 (0, 0)) (by (with_reducible repeat (first | apply kdn | apply kdr | apply kal)); exact BK149.out) hb)
     have n1_ := am (below_step (by repeat (first | (with_reducible first | exact HB.out | apply bal | apply pdn | apply bd1 | refine bst ?_ GE149.out) | exact HB.out)) hb)
     clear BK149
     clear HB
     have BK149 := n0_
     have HB := n1_
     clear n0_ n1_
     refine hK.out _ _ ⟨(kce BK149.out 0).trans rfl, (kce BK149.out 1).trans rfl, (kce BK149.out 2).trans rfl, (kce BK149.out 3).trans rfl, (kce BK149.out 4).trans rfl⟩ (fun hHeld => ?_)
     clear hK K
     refine norm_ (a' := ?_) ?_ ?_
     rotate_left
     ·show Act.put _ (some 28) _ = _
      simp only [Act.put, sit, scz, scs, i64_w, i32_w]
      rfl
     refine pure_ (i := 9) (N := some 6) (v := ?_) (a' := ?_) #[true, true, true, true, true, true, true, true, true, true, false] rfl rfl (any_of HT_.out (by kernel_rfl)) (fun _ _ _ h => h) (Or.inl ⟨by rfl, ?_⟩) ?_ ?_
     rotate_left
     ·intro w'
      go_simp
      with_reducible rfl
     rotate_left
     ·simp only [Act.put, sit, scz, scs, i64_w, i32_w]
      rfl
     refine pure_ (i := 10) (N := some 7) (v := ?_) (a' := ?_) #[true, true, true, true, true, true, true, true, true, true, true] rfl rfl (any_of HT_.out (by kernel_rfl)) (fun _ _ _ h => h) (Or.inl ⟨by rfl, ?_⟩) ?_ ?_
     rotate_left
     ·intro w'
      go_simp
      with_reducible rfl
     rotate_left
     ·simp only [Act.put, sit, scz, scs, i64_w, i32_w]
      rfl
     refine done_ (done_of HT_.out (by kernel_rfl)) ?_
     try go_wp2
     go_ret2
     exact ⟨by first | rfl | (simp [errW_none, errW_some] <;> rfl) | (simp [*, errW_none, errW_some] <;> rfl), by repeat (first | (with_reducible first | exact HB.out | apply bal | apply pdn | apply bd1 | refine bst ?_ GE149.out) | exact HB.out)⟩
 ·replace c5 := Bool.eq_false_iff.mpr c5
  subst c5
  have H1 : (some ((⟨#[]⟩ : ByteArray), 1)) = some (r1, r2) := by rw [if_neg (show ¬ (false = true) by decide)] at H; exact H
  clear H
  have H := H1
  clear H1
  simp only [Option.some.injEq, Prod.mk.injEq] at H
  obtain ⟨rfl, rfl⟩ := H
  go_enter Try.func14, Try.ntmps14
  go_wp2_with (first | ((with_reducible refine gate_dst (N := 3) rfl ?_); refine box_event ?hg (N := 3) ?hd (cs := #[.int .i64 a0_0, .int .i64 a0_1, .int .i64 a0_2, .int .i64 a0_3, .slice A0_4 l0_4.length c0_4]) (t := 32) ?hr ?_; (case hd => rfl); (case hg => rfl); (case hr => first | (go_simp; done) | (go_simp; rfl)); intro gb149 hg w19 hbox hb; have n0_ := am (below_step (by repeat (first | (with_reducible first | exact HB.out | apply bal | apply pdn | apply bd1) | exact HB.out)) hb); have n1_ := am (hbox); have n2_ := am ((by rw [hg]; exact (below_size (by repeat (first | (with_reducible first | exact HB.out | apply bal | apply pdn | apply bd1) | exact HB.out))) : w.heap.size ≤ gb149)); have n3_ := am ((by rw [hg]; exact (below_size (by repeat (first | (with_reducible first | exact HB.out | apply bal | apply pdn | apply bd1) | exact HB.out))) : w.heap.size ≤ gb149)); clear HB; have HB := n0_; have BK149 := n1_; have GW149 := n2_; have GE149 := n3_; clear n0_ n1_ n2_ n3_; clear hb hbox hg; have hcz20_0 : w19.cell? ⟨gb149, 0, none⟩ = some (.int .i64 a0_0) := (kce BK149.out 0).trans rfl; have hcz20_1 : w19.cell? ⟨gb149, 1, none⟩ = some (.int .i64 a0_1) := (kce BK149.out 1).trans rfl; have hcz20_2 : w19.cell? ⟨gb149, 2, none⟩ = some (.int .i64 a0_2) := (kce BK149.out 2).trans rfl; have hcz20_3 : w19.cell? ⟨gb149, 3, none⟩ = some (.int .i64 a0_3) := (kce BK149.out 3).trans rfl; have hcz20_4 : w19.cell? ⟨gb149, 4, none⟩ = some (.slice A0_4 l0_4.length c0_4) := (kce BK149.out 4).trans rfl; have hfz20_0 := kfr BK149.out 0; have hfz20_1 := kfr BK149.out 1; have hfz20_2 := kfr BK149.out 2; have hfz20_3 := kfr BK149.out 3; have hfz20_4 := kfr BK149.out 4) | ((with_reducible refine gate_callee (f := 35) rfl ?_); refine goesL_ (some 9) rfl rfl Try.func35 (by kernel_rfl) rfl #[.agg #[.int .i64 a0_0, .int .i64 a0_1, .int .i64 a0_2, .int .i64 a0_3, .slice A0_4 l0_4.length c0_4]] rfl (by (try simp only [mta, mco, mni]); first | done | rfl | (simp only [lnd, lnt]; rfl)) ?_; (with_reducible refine (spec_l05OK.calls k a0_0 a0_1 a0_2 a0_3 _ _ l0_4 false _ ?side1 ?side2 A4.out).mono ?_); (case side1 => repeat (first | exact (Kd.C_below HR0_4.out HB.out) | (with_reducible first | apply kca | apply kcn | apply kcd))); (case side2 => exact HC0_4.out); rintro e w21 ⟨rfl, hb⟩; refine ⟨_, rfl, ?_⟩; have n0_ := am (kbb (g := gb149) (o := .cells #[.int .i64 a0_0, .int .i64 a0_1, .int .i64 a0_2, .int .i64 a0_3, .slice A0_4 l0_4.length c0_4] 32 (0, 0)) (by (with_reducible repeat (first | apply kdn | apply kdr | apply kal)); exact BK149.out) hb); have n1_ := am (below_step (by repeat (first | (with_reducible first | exact HB.out | apply bal | apply pdn | apply bd1 | refine bst ?_ GE149.out) | exact HB.out)) hb); clear BK149; clear HB; have BK149 := n0_; have HB := n1_; clear n0_ n1_; (try clear hb); (try clear hb2); (try clear hk); (try clear hi)))
  go_ret2
  exact ⟨by first | rfl | (simp [errW_none, errW_some] <;> rfl) | (simp [*, errW_none, errW_some] <;> rfl), by repeat (first | (with_reducible first | exact HB.out | apply bal | apply pdn | apply bd1 | refine bst ?_ GE149.out) | exact HB.out)⟩

/-! ### impl_between: function 45 -/
def impl_between.f (a0 : Int) (a1 : Int) (a2 : Int) : Option (Bool) := if a0 ≥ a1 then (some (decide (a0 ≤ a2))) else (some false)
set_option maxHeartbeats 8000000 in
set_option maxRecDepth 100000 in
theorem impl_between.calls (a0 : Int) (a1 : Int) (a2 : Int) (r : Bool) (w : World) (h : impl_between.f a0 a1 a2 = some r) :
  Calls Try.prog 45 #[.int .i64 a0, .int .i64 a1, .int .i64 a2] w fun e w' => e = .returned (.bool r) ∧ Drawn0 w w' := by
 have H : (if a0 ≥ a1 then (some (decide (a0 ≤ a2))) else (some false)) = some r := h
 clear h
 by_cases c4 : a0 ≥ a1
 ·rw [if_pos c4] at H
  have c4b0 : decide (a1 ≤ a0) = true := decide_eq_true c4
  clear c4
  obtain rfl := Option.some.inj H
  go_enter Try.func45, Try.ntmps45
  go_wp2
  go_ret
  exact ⟨by first | rfl | (simp; done) | (simp [*]; done), by repeat (first | exact Drawn0.refl _ | apply Drawn0.step)⟩
 ·rw [if_neg c4] at H
  have c4b0 : decide (a1 ≤ a0) = false := decide_eq_false c4
  clear c4
  obtain rfl := Option.some.inj H
  go_enter Try.func45, Try.ntmps45
  go_wp2
  go_ret
  exact ⟨by first | rfl | (simp; done) | (simp [*]; done), by repeat (first | exact Drawn0.refl _ | apply Drawn0.step)⟩

/-! ### impl_Wide_stripe: function 80 -/
def impl_Wide_stripe.f (a0_0 : Int) (a0_1 : Int) (a0_2 : Int) (a0_3 : Int) (l0_4 : List ByteArray) : Option (Int) := some (wrap64 (a0_0 * a0_2))
set_option maxHeartbeats 8000000 in
set_option maxRecDepth 100000 in
theorem impl_Wide_stripe.calls (a0_0 : Int) (a0_1 : Int) (a0_2 : Int) (a0_3 : Int) (A0_4 : Option Addr) (c0_4 : Nat) (l0_4 : List ByteArray) (r : Int) (w : World) (hr0_4 : Kd.C Kd.string w A0_4 l0_4.length l0_4) (hc0_4 : l0_4.length ≤ c0_4) (h : impl_Wide_stripe.f a0_0 a0_1 a0_2 a0_3 l0_4 = some r) :
  Calls Try.prog 80 #[.agg #[.int .i64 a0_0, .int .i64 a0_1, .int .i64 a0_2, .int .i64 a0_3, .slice A0_4 l0_4.length c0_4]] w fun e w' => e = .returned (.int .i64 r) ∧ Below w.heap.size w w' := by
 have hu32 := Try.underlying32
 have HR0_4 := am hr0_4
 have HC0_4 := am hc0_4
 clear hr0_4 hc0_4
 have HB := am (Below.refl w.heap.size w)
 have H : (some (wrap64 (a0_0 * a0_2))) = some r := h
 clear h
 obtain rfl := Option.some.inj H
 go_enter Try.func80, Try.ntmps80
 go_wp2_with (first | ((with_reducible refine gate_dst (N := 1) rfl ?_); refine box_event ?hg (N := 1) ?hd (cs := #[.int .i64 a0_0, .int .i64 a0_1, .int .i64 a0_2, .int .i64 a0_3, .slice A0_4 l0_4.length c0_4]) (t := 32) ?hr ?_; (case hd => rfl); (case hg => rfl); (case hr => first | (go_simp; done) | (go_simp; rfl)); intro gb154 hg w2 hbox hb; have n0_ := am (below_step (by repeat (first | (with_reducible first | exact HB.out | apply bal | apply pdn | apply bd1) | exact HB.out)) hb); have n1_ := am (hbox); have n2_ := am ((by rw [hg]; exact (below_size (by repeat (first | (with_reducible first | exact HB.out | apply bal | apply pdn | apply bd1) | exact HB.out))) : w.heap.size ≤ gb154)); have n3_ := am ((by rw [hg]; exact (below_size (by repeat (first | (with_reducible first | exact HB.out | apply bal | apply pdn | apply bd1) | exact HB.out))) : w.heap.size ≤ gb154)); clear HB; have HB := n0_; have BK154 := n1_; have GW154 := n2_; have GE154 := n3_; clear n0_ n1_ n2_ n3_; clear hb hbox hg; have hcz3_0 : w2.cell? ⟨gb154, 0, none⟩ = some (.int .i64 a0_0) := (kce BK154.out 0).trans rfl; have hcz3_1 : w2.cell? ⟨gb154, 1, none⟩ = some (.int .i64 a0_1) := (kce BK154.out 1).trans rfl; have hcz3_2 : w2.cell? ⟨gb154, 2, none⟩ = some (.int .i64 a0_2) := (kce BK154.out 2).trans rfl; have hcz3_3 : w2.cell? ⟨gb154, 3, none⟩ = some (.int .i64 a0_3) := (kce BK154.out 3).trans rfl; have hcz3_4 : w2.cell? ⟨gb154, 4, none⟩ = some (.slice A0_4 l0_4.length c0_4) := (kce BK154.out 4).trans rfl; have hfz3_0 := kfr BK154.out 0; have hfz3_1 := kfr BK154.out 1; have hfz3_2 := kfr BK154.out 2; have hfz3_3 := kfr BK154.out 3; have hfz3_4 := kfr BK154.out 4))
 go_ret
 exact ⟨by first | rfl | (simp [errW_none, errW_some] <;> rfl) | (simp [*, errW_none, errW_some] <;> rfl), by repeat (first | (with_reducible first | exact HB.out | apply bal | apply pdn | apply bd1 | refine bst ?_ GE154.out) | exact HB.out)⟩

/-! ### impl_Wide_length: function 49 -/
def impl_Wide_length.f (a0_0 : Int) (a0_1 : Int) (a0_2 : Int) (a0_3 : Int) (l0_4 : List ByteArray) : Option (Int) := (impl_Wide_stripe.f a0_0 a0_1 a0_2 a0_3 l0_4).bind fun t156 => ((impl_Wide_stripe.f a0_0 a0_1 a0_2 a0_3 l0_4).bind fun t157 => (if t157 = 0 then (none) else (some (wrap64 ((wrap64 (Int.tdiv (wrap64 ((wrap64 (a0_3 + t156)) - 1)) t157)) * a0_2)))))
def impl_Wide_length.T1 : Bool × List (List Nat × List Nat) := (true, [([], []), ([0], [0]), ([], []), ([2], [2]), ([1, 3], [1, 3]), ([4], [4]), ([], []), ([6, 3], [6]), ([5, 7], [5, 7]), ([], []), ([9], [9]), ([8, 10], [8, 10]), ([11, 7, 0, 1, 2, 3, 4, 5, 6, 7, 8, 9, 10, 11], [11])])
def impl_Wide_length.B1 : List Nat := [0, 1, 0, 4, 15, 31, 0, 76, 255, 0, 512, 2047, 4095]
theorem impl_Wide_length.tab1 : rtab .any (opsOf Try.f49 1) = impl_Wide_length.T1 := by kernel_rfl
theorem impl_Wide_length.bits1 : waitsOk impl_Wide_length.T1.2 impl_Wide_length.B1 = true := by kernel_rfl
set_option maxHeartbeats 8000000 in
set_option maxRecDepth 100000 in
theorem impl_Wide_length.calls (a0_0 : Int) (a0_1 : Int) (a0_2 : Int) (a0_3 : Int) (A0_4 : Option Addr) (c0_4 : Nat) (l0_4 : List ByteArray) (r : Int) (w : World) (hr0_4 : Kd.C Kd.string w A0_4 l0_4.length l0_4) (hc0_4 : l0_4.length ≤ c0_4) (h : impl_Wide_length.f a0_0 a0_1 a0_2 a0_3 l0_4 = some r) :
  Calls Try.prog 49 #[.agg #[.int .i64 a0_0, .int .i64 a0_1, .int .i64 a0_2, .int .i64 a0_3, .slice A0_4 l0_4.length c0_4]] w fun e w' => e = .returned (.int .i64 r) ∧ Below w.heap.size w w' := by
 have hu32 := Try.underlying32
 have HR0_4 := am hr0_4
 have HC0_4 := am hc0_4
 clear hr0_4 hc0_4
 have HB := am (Below.refl w.heap.size w)
 have H : ((impl_Wide_stripe.f a0_0 a0_1 a0_2 a0_3 l0_4).bind fun t156 => ((impl_Wide_stripe.f a0_0 a0_1 a0_2 a0_3 l0_4).bind fun t157 => (if t157 = 0 then (none) else (some (wrap64 ((wrap64 (Int.tdiv (wrap64 ((wrap64 (a0_3 + t156)) - 1)) t157)) * a0_2)))))) = some r := h
 clear h
 replace H := Option.bind_eq_some_iff.mp H
 obtain ⟨t156, A20, H⟩ := H
 replace H : ((impl_Wide_stripe.f a0_0 a0_1 a0_2 a0_3 l0_4).bind fun t157 => (if t157 = 0 then (none) else (some (wrap64 ((wrap64 (Int.tdiv (wrap64 ((wrap64 (a0_3 + t156)) - 1)) t157)) * a0_2))))) = some r := H
 have A2 := am A20
 clear A20
 replace H := Option.bind_eq_some_iff.mp H
 obtain ⟨t157, A30, H⟩ := H
 replace H : (if t157 = 0 then (none) else (some (wrap64 ((wrap64 (Int.tdiv (wrap64 ((wrap64 (a0_3 + t156)) - 1)) t157)) * a0_2)))) = some r := H
 have A3 := am A30
 clear A30
 by_cases c4 : t157 = 0
 ·rw [if_pos c4] at H
  exact absurd H (by simp)
 ·rw [if_neg c4] at H
  have c4b0 : (t157 == 0) = false := beq_eq_false_iff_ne.mpr c4
  have c4b1 : (t157 != 0) = true := bne_iff_ne.mpr c4
  obtain rfl := Option.some.inj H
  go_enter Try.func49, Try.ntmps49
  try go_wp2_with (first | ((with_reducible refine gate_dst (N := 1) rfl ?_); refine box_event ?hg (N := 1) ?hd (cs := #[.int .i64 a0_0, .int .i64 a0_1, .int .i64 a0_2, .int .i64 a0_3, .slice A0_4 l0_4.length c0_4]) (t := 32) ?hr ?_; (case hd => rfl); (case hg => rfl); (case hr => first | (go_simp; done) | (go_simp; rfl)); intro gb155 hg w5 hbox hb; have n0_ := am (below_step (by repeat (first | (with_reducible first | exact HB.out | apply bal | apply pdn | apply bd1) | exact HB.out)) hb); have n1_ := am (hbox); have n2_ := am ((by rw [hg]; exact (below_size (by repeat (first | (with_reducible first | exact HB.out | apply bal | apply pdn | apply bd1) | exact HB.out))) : w.heap.size ≤ gb155)); have n3_ := am ((by rw [hg]; exact (below_size (by repeat (first | (with_reducible first | exact HB.out | apply bal | apply pdn | apply bd1) | exact HB.out))) : w.heap.size ≤ gb155)); clear HB; have HB := n0_; have BK155 := n1_; have GW155 := n2_; have GE155 := n3_; clear n0_ n1_ n2_ n3_; clear hb hbox hg))
  have n0_ := am (kdr BK155.out)
  have n1_ := am (bd1 HB.out)
  clear BK155
  clear HB
  have BK155 := n0_
  have HB := n1_
  clear n0_ n1_
  refine start_ (n := 13) (S := fun w' => w'.cell? ⟨gb155, 0, none⟩ = some (.int .i64 a0_0) ∧ w'.cell? ⟨gb155, 1, none⟩ = some (.int .i64 a0_1) ∧ w'.cell? ⟨gb155, 2, none⟩ = some (.int .i64 a0_2) ∧ w'.cell? ⟨gb155, 3, none⟩ = some (.int .i64 a0_3) ∧ w'.cell? ⟨gb155, 4, none⟩ = some (.slice A0_4 l0_4.length c0_4)) (ds := []) #[false, false, false, false, false, false, false, false, false, false, false, false, false] (by kernel_rfl) rfl rfl ⟨(kce BK155.out 0).trans rfl, (kce BK155.out 1).trans rfl, (kce BK155.out 2).trans rfl, (kce BK155.out 3).trans rfl, (kce BK155.out 4).trans rfl⟩ (fun hHeld => ?_); refine with_tabW impl_Wide_length.tab1 impl_Wide_length.bits1 (fun HT_ HW_ => ?_)
  generalize w5.drew = w6 at BK155 HB hHeld ⊢
  refine pure_ (i := 0) (N := some 3) (v := ?_) (a' := ?_) #[true, false, false, false, false, false, false, false, false, false, false, false, false] rfl rfl (any_of HT_.out (by kernel_rfl)) (fun _ _ _ h => h) (Or.inl ⟨by rfl, ?_⟩) ?_ ?_
  rotate_left
  ·intro w'
   go_simp
   with_reducible rfl
  rotate_left
  ·simp only [Act.put, sit, scz, scs, i64_w, i32_w]
   rfl
  refine pure_ (i := 9) (N := some 12) (v := ?_) (a' := ?_) #[true, false, false, false, false, false, false, false, false, true, false, false, false] rfl rfl (any_of HT_.out (by kernel_rfl)) (fun _ _ _ h => h) (Or.inl ⟨by rfl, ?_⟩) ?_ ?_
  rotate_left
  ·intro w'
   go_simp
   with_reducible rfl
  rotate_left
  ·simp only [Act.put, sit, scz, scs, i64_w, i32_w]
   rfl
  refine take_ (i := 1) (N := some 4) (v := ?_) (a' := ?_) #[true, true, false, false, false, false, false, false, false, true, false, false, false] rfl rfl (take_ofW HT_.out HW_.out (by kernel_rfl)) (fun _ _ _ h => h) (Or.inl ⟨by rfl, ?_⟩) hHeld ?_ ?_
  rotate_left
  ·rintro w' ⟨s0, s1, s2, s3, s4⟩
   go_simp
   with_reducible rfl
  rotate_left
  ·simp only [Act.put, sit, scz, scs, i64_w, i32_w]
   rfl
  refine take_ (i := 2) (N := some 5) (v := ?_) (a' := ?_) #[true, true, true, false, false, false, false, false, false, true, false, false, false] rfl rfl (take_ofW HT_.out HW_.out (by kernel_rfl)) (fun _ _ _ h => h) (Or.inl ⟨by rfl, ?_⟩) hHeld ?_ ?_
  rotate_left
  ·rintro w' ⟨s0, s1, s2, s3, s4⟩
   go_simp
   with_reducible rfl
  rotate_left
  ·simp only [Act.put, sit, scz, scs, i64_w, i32_w]
   rfl
  refine take_ (i := 6) (N := some 9) (v := ?_) (a' := ?_) #[true, true, true, false, false, false, true, false, false, true, false, false, false] rfl rfl (take_ofW HT_.out HW_.out (by kernel_rfl)) (fun _ _ _ h => h) (Or.inl ⟨by rfl, ?_⟩) hHeld ?_ ?_
  rotate_left
  ·rintro w' ⟨s0, s1, s2, s3, s4⟩
   go_simp
   with_reducible rfl
  rotate_left
  ·simp only [Act.put, sit, scz, scs, i64_w, i32_w]
   rfl
  refine take_ (i := 10) (N := some 13) (v := ?_) (a' := ?_) #[true, true, true, false, false, false, true, false, false, true, true, false, false] rfl rfl (take_ofW HT_.out HW_.out (by kernel_rfl)) (fun _ _ _ h => h) (Or.inl ⟨by rfl, ?_⟩) hHeld ?_ ?_
  rotate_left
  ·rintro w' ⟨s0, s1, s2, s3, s4⟩
   go_simp
   with_reducible rfl
  rotate_left
  ·simp only [Act.put, sit, scz, scs, i64_w, i32_w]
   rfl
  refine one_ (i := 3) (N := some 6) #[true, true, true, true, false, false, true, false, false, true, true, false, false] rfl rfl (one_of HT_.out (by kernel_rfl)) (by decide) (fun K hK => ?_)
  refine goes_ Try.func80 (by kernel_rfl) rfl #[.agg #[.int .i64 a0_0, .int .i64 a0_1, .int .i64 a0_2, .int .i64 a0_3, .slice A0_4 l0_4.length c0_4]] (by rfl) rfl rfl (by (try simp only [mta, mco, mni]); first | done | rfl | (simp only [lnd, lnt]; rfl)) ?_
  with_reducible refine (impl_Wide_stripe.calls a0_0 a0_1 a0_2 a0_3 _ _ l0_4 t156 _ ?side1 ?side2 A2.out).mono ?_
  (case side1 => repeat (first | exact (Kd.C_below HR0_4.out HB.out) | (with_reducible first | apply kca | apply kcn | apply kcd)))
  (case side2 => exact HC0_4.out)
  rintro e w7 ⟨rfl, hb⟩
  refine ⟨_, rfl, ?_⟩
  have n0_ := am (kbb (g := gb155) (o := .cells #[.int .i64 a0_0, .int .i64 a0_1, .int .i64 a0_2, .int .i64 a0_3, .slice A0_4 l0_4.length c0_4] 32 (0, 0)) (by (with_reducible repeat (first | apply kdn | apply kdr | apply kal)); exact BK155.out) hb)
  have n1_ := am (below_step (by repeat (first | (with_reducible first | exact HB.out | apply bal | apply pdn | apply bd1 | refine bst ?_ GE155.out) | exact HB.out)) hb)
  clear BK155
  clear HB
  have BK155 := n0_
  have HB := n1_
  clear n0_ n1_
  refine hK.out _ _ ⟨(kce BK155.out 0).trans rfl, (kce BK155.out 1).trans rfl, (kce BK155.out 2).trans rfl, (kce BK155.out 3).trans rfl, (kce BK155.out 4).trans rfl⟩ (fun hHeld => ?_)
  clear hK K
  refine norm_ (a' := ?_) ?_ ?_
  rotate_left
  ·show Act.put _ (some 6) _ = _
   simp only [Act.put, sit, scz, scs, i64_w, i32_w]
   rfl
  refine pure_ (i := 4) (N := some 7) (v := ?_) (a' := ?_) #[true, true, true, true, true, false, true, false, false, true, true, false, false] rfl rfl (any_of HT_.out (by kernel_rfl)) (fun _ _ _ h => h) (Or.inl ⟨by rfl, ?_⟩) ?_ ?_
  rotate_left
  ·intro w'
   go_simp
   with_reducible rfl
  rotate_left
  ·simp only [Act.put, sit, scz, scs, i64_w, i32_w]
   rfl
  refine pure_ (i := 5) (N := some 8) (v := ?_) (a' := ?_) #[true, true, true, true, true, true, true, false, false, true, true, false, false] rfl rfl (any_of HT_.out (by kernel_rfl)) (fun _ _ _ h => h) (Or.inl ⟨by rfl, ?_⟩) ?_ ?_
  rotate_left
  ·intro w'
   go_simp
   with_reducible rfl
  rotate_left
  ·simp only [Act.put, sit, scz, scs, i64_w, i32_w]
   rfl
  refine one_ (i := 7) (N := some 10) #[true, true, true, true, true, true, true, true, false, true, true, false, false] rfl rfl (one_of HT_.out (by kernel_rfl)) (by decide) (fun K hK => ?_)
  refine goes_ Try.func80 (by kernel_rfl) rfl #[.agg #[.int .i64 a0_0, .int .i64 a0_1, .int .i64 a0_2, .int .i64 a0_3, .slice A0_4 l0_4.length c0_4]] (by rfl) rfl rfl (by (try simp only [mta, mco, mni]); first | done | rfl | (simp only [lnd, lnt]; rfl)) ?_
  with_reducible refine (impl_Wide_stripe.calls a0_0 a0_1 a0_2 a0_3 _ _ l0_4 t157 _ ?side1 ?side2 A3.out).mono ?_
  (case side1 => repeat (first | exact (Kd.C_below HR0_4.out HB.out) | (with_reducible first | apply kca | apply kcn | apply kcd)))
  (case side2 => exact HC0_4.out)
  rintro e w8 ⟨rfl, hb⟩
  refine ⟨_, rfl, ?_⟩
  have n0_ := am (kbb (g := gb155) (o := .cells #[.int .i64 a0_0, .int .i64 a0_1, .int .i64 a0_2, .int .i64 a0_3, .slice A0_4 l0_4.length c0_4] 32 (0, 0)) (by (with_reducible repeat (first | apply kdn | apply kdr | apply kal)); exact BK155.out) hb)
  have n1_ := am (below_step (by repeat (first | (with_reducible first | exact HB.out | apply bal | apply pdn | apply bd1 | refine bst ?_ GE155.out) | exact HB.out)) hb)
  clear BK155
  clear HB
  have BK155 := n0_
  have HB := n1_
  clear n0_ n1_
  refine hK.out _ _ ⟨(kce BK155.out 0).trans rfl, (kce BK155.out 1).trans rfl, (kce BK155.out 2).trans rfl, (kce BK155.out 3).trans rfl, (kce BK155.out 4).trans rfl⟩ (fun hHeld => ?_)
  clear hK K
  refine norm_ (a' := ?_) ?_ ?_
  rotate_left
  ·show Act.put _ (some 10) _ = _
   simp only [Act.put, sit, scz, scs, i64_w, i32_w]
   rfl
  refine pure_ (i := 8) (N := some 11) (v := ?_) (a' := ?_) #[true, true, true, true, true, true, true, true, true, true, true, false, false] rfl rfl (any_of HT_.out (by kernel_rfl)) (fun _ _ _ h => h) (Or.inl ⟨by rfl, ?_⟩) ?_ ?_
  rotate_left
  ·intro w'
   go_simp
   with_reducible rfl
  rotate_left
  ·simp only [Act.put, sit, scz, scs, i64_w, i32_w]
   rfl
  refine pure_ (i := 11) (N := some 14) (v := ?_) (a' := ?_) #[true, true, true, true, true, true, true, true, true, true, true, true, false] rfl rfl (any_of HT_.out (by kernel_rfl)) (fun _ _ _ h => h) (Or.inl ⟨by rfl, ?_⟩) ?_ ?_
  rotate_left
  ·intro w'
   go_simp
   with_reducible rfl
  rotate_left
  ·simp only [Act.put, sit, scz, scs, i64_w, i32_w]
   rfl
  refine pure_ (i := 12) (N := some 2) (v := ?_) (a' := ?_) #[true, true, true, true, true, true, true, true, true, true, true, true, true] rfl rfl (any_of HT_.out (by kernel_rfl)) (fun _ _ _ h => h) (Or.inl ⟨by rfl, ?_⟩) ?_ ?_
  rotate_left
  ·intro w'
   go_simp
   with_reducible rfl
  rotate_left
  ·simp only [Act.put, sit, scz, scs, i64_w, i32_w]
   rfl
  refine done_ (done_of HT_.out (by kernel_rfl)) ?_
  try go_wp2
  go_ret
  exact ⟨by first | rfl | (simp [errW_none, errW_some] <;> rfl) | (simp [*, errW_none, errW_some] <;> rfl), by repeat (first | (with_reducible first | exact HB.out | apply bal | apply pdn | apply bd1 | refine bst ?_ GE155.out) | exact HB.out)⟩

/-! ### impl_CodeOk: function 72 -/
def impl_CodeOk.f (a0_0 : Int) (a0_1 : Int) : Option (Bool) := (impl_between.f a0_0 1 4).bind fun t159 => (if t159 = true then ((impl_between.f a0_1 0 3).bind fun t160 => (some t160)) else (some false))
set_option maxHeartbeats 8000000 in
set_option maxRecDepth 100000 in
theorem impl_CodeOk.calls (a0_0 : Int) (a0_1 : Int) (r : Bool) (w : World) (h : impl_CodeOk.f a0_0 a0_1 = some r) :
  Calls Try.prog 72 #[.agg #[.int .i64 a0_0, .int .i64 a0_1]] w fun e w' => e = .returned (.bool r) ∧ Below w.heap.size w w' := by
 have hu30 := Try.underlying30
 have HB := am (Below.refl w.heap.size w)
 have H : ((impl_between.f a0_0 1 4).bind fun t159 => (if t159 = true then ((impl_between.f a0_1 0 3).bind fun t160 => (some t160)) else (some false))) = some r := h
 clear h
 replace H := Option.bind_eq_some_iff.mp H
 obtain ⟨t159, A20, H⟩ := H
 replace H : (if t159 = true then ((impl_between.f a0_1 0 3).bind fun t160 => (some t160)) else (some false)) = some r := H
 have A2 := am A20
 clear A20
 by_cases c3 : t159 = true
 ·subst c3
  have H1 : ((impl_between.f a0_1 0 3).bind fun t160 => (some t160)) = some r := by rw [if_pos rfl] at H; exact H
  clear H
  have H := H1
  clear H1
  replace H := Option.bind_eq_some_iff.mp H
  obtain ⟨t160, A40, H⟩ := H
  replace H : (some t160) = some r := H
  have A4 := am A40
  clear A40
  obtain rfl := Option.some.inj H
  go_enter Try.func72, Try.ntmps72
  go_wp2_with (first | ((with_reducible refine gate_dst (N := 1) rfl ?_); refine box_event ?hg (N := 1) ?hd (cs := #[.int .i64 a0_0, .int .i64 a0_1]) (t := 30) ?hr ?_; (case hd => rfl); (case hg => rfl); (case hr => first | (go_simp; done) | (go_simp; rfl)); intro gb158 hg w5 hbox hb; have n0_ := am (below_step (by repeat (first | (with_reducible first | exact HB.out | apply bal | apply pdn | apply bd1) | exact HB.out)) hb); have n1_ := am (hbox); have n2_ := am ((by rw [hg]; exact (below_size (by repeat (first | (with_reducible first | exact HB.out | apply bal | apply pdn | apply bd1) | exact HB.out))) : w.heap.size ≤ gb158)); have n3_ := am ((by rw [hg]; exact (below_size (by repeat (first | (with_reducible first | exact HB.out | apply bal | apply pdn | apply bd1) | exact HB.out))) : w.heap.size ≤ gb158)); clear HB; have HB := n0_; have BK158 := n1_; have GW158 := n2_; have GE158 := n3_; clear n0_ n1_ n2_ n3_; clear hb hbox hg; have hcz6_0 : w5.cell? ⟨gb158, 0, none⟩ = some (.int .i64 a0_0) := (kce BK158.out 0).trans rfl; have hcz6_1 : w5.cell? ⟨gb158, 1, none⟩ = some (.int .i64 a0_1) := (kce BK158.out 1).trans rfl; have hfz6_0 := kfr BK158.out 0; have hfz6_1 := kfr BK158.out 1) | ((with_reducible refine gate_callee (f := 45) rfl ?_); refine goesL_ (some 5) rfl rfl Try.func45 (by kernel_rfl) rfl #[.int .i64 a0_0, .int .i64 1, .int .i64 4] rfl (by (try simp only [mta, mco, mni]); first | done | rfl | (simp only [lnd, lnt]; rfl)) ?_; (with_reducible refine (impl_between.calls a0_0 1 4 true _ A2.out).mono ?_); rintro e w' ⟨rfl, ⟨nd, rfl⟩⟩; refine ⟨_, rfl, ?_⟩) | (go_at_call 45; (with_reducible refine (impl_between.calls a0_1 0 3 t160 _ A4.out).mono ?_); rintro e w' ⟨rfl, ⟨nd, rfl⟩⟩))
  go_ret
  exact ⟨by first | rfl | (simp [errW_none, errW_some] <;> rfl) | (simp [*, errW_none, errW_some] <;> rfl), by repeat (first | (with_reducible first | exact HB.out | apply bal | apply pdn | apply bd1 | refine bst ?_ GE158.out) | exact HB.out)⟩
 ·replace c3 := Bool.eq_false_iff.mpr c3
  subst c3
  have H1 : (some false) = some r := by rw [if_neg (show ¬ (false = true) by decide)] at H; exact H
  clear H
  have H := H1
  clear H1
  obtain rfl := Option.some.inj H
  go_enter Try.func72, Try.ntmps72
  go_wp2_with (first | ((with_reducible refine gate_dst (N := 1) rfl ?_); refine box_event ?hg (N := 1) ?hd (cs := #[.int .i64 a0_0, .int .i64 a0_1]) (t := 30) ?hr ?_; (case hd => rfl); (case hg => rfl); (case hr => first | (go_simp; done) | (go_simp; rfl)); intro gb158 hg w7 hbox hb; have n0_ := am (below_step (by repeat (first | (with_reducible first | exact HB.out | apply bal | apply pdn | apply bd1) | exact HB.out)) hb); have n1_ := am (hbox); have n2_ := am ((by rw [hg]; exact (below_size (by repeat (first | (with_reducible first | exact HB.out | apply bal | apply pdn | apply bd1) | exact HB.out))) : w.heap.size ≤ gb158)); have n3_ := am ((by rw [hg]; exact (below_size (by repeat (first | (with_reducible first | exact HB.out | apply bal | apply pdn | apply bd1) | exact HB.out))) : w.heap.size ≤ gb158)); clear HB; have HB := n0_; have BK158 := n1_; have GW158 := n2_; have GE158 := n3_; clear n0_ n1_ n2_ n3_; clear hb hbox hg; have hcz8_0 : w7.cell? ⟨gb158, 0, none⟩ = some (.int .i64 a0_0) := (kce BK158.out 0).trans rfl; have hcz8_1 : w7.cell? ⟨gb158, 1, none⟩ = some (.int .i64 a0_1) := (kce BK158.out 1).trans rfl; have hfz8_0 := kfr BK158.out 0; have hfz8_1 := kfr BK158.out 1) | ((with_reducible refine gate_callee (f := 45) rfl ?_); refine goesL_ (some 5) rfl rfl Try.func45 (by kernel_rfl) rfl #[.int .i64 a0_0, .int .i64 1, .int .i64 4] rfl (by (try simp only [mta, mco, mni]); first | done | rfl | (simp only [lnd, lnt]; rfl)) ?_; (with_reducible refine (impl_between.calls a0_0 1 4 false _ A2.out).mono ?_); rintro e w' ⟨rfl, ⟨nd, rfl⟩⟩; refine ⟨_, rfl, ?_⟩))
  go_ret
  exact ⟨by first | rfl | (simp [errW_none, errW_some] <;> rfl) | (simp [*, errW_none, errW_some] <;> rfl), by repeat (first | (with_reducible first | exact HB.out | apply bal | apply pdn | apply bd1 | refine bst ?_ GE158.out) | exact HB.out)⟩

/-! ### impl_Code_size: function 73 -/
def impl_Code_size.f (a0_0 : Int) (a0_1 : Int) : Option (Int) := some (wrap64 (a0_0 + a0_1))
set_option maxHeartbeats 8000000 in
set_option maxRecDepth 100000 in
theorem impl_Code_size.calls (a0_0 : Int) (a0_1 : Int) (r : Int) (w : World) (h : impl_Code_size.f a0_0 a0_1 = some r) :
  Calls Try.prog 73 #[.agg #[.int .i64 a0_0, .int .i64 a0_1]] w fun e w' => e = .returned (.int .i64 r) ∧ Below w.heap.size w w' := by
 have hu30 := Try.underlying30
 have HB := am (Below.refl w.heap.size w)
 have H : (some (wrap64 (a0_0 + a0_1))) = some r := h
 clear h
 obtain rfl := Option.some.inj H
 go_enter Try.func73, Try.ntmps73
 go_wp2_with (first | ((with_reducible refine gate_dst (N := 1) rfl ?_); refine box_event ?hg (N := 1) ?hd (cs := #[.int .i64 a0_0, .int .i64 a0_1]) (t := 30) ?hr ?_; (case hd => rfl); (case hg => rfl); (case hr => first | (go_simp; done) | (go_simp; rfl)); intro gb161 hg w2 hbox hb; have n0_ := am (below_step (by repeat (first | (with_reducible first | exact HB.out | apply bal | apply pdn | apply bd1) | exact HB.out)) hb); have n1_ := am (hbox); have n2_ := am ((by rw [hg]; exact (below_size (by repeat (first | (with_reducible first | exact HB.out | apply bal | apply pdn | apply bd1) | exact HB.out))) : w.heap.size ≤ gb161)); have n3_ := am ((by rw [hg]; exact (below_size (by repeat (first | (with_reducible first | exact HB.out | apply bal | apply pdn | apply bd1) | exact HB.out))) : w.heap.size ≤ gb161)); clear HB; have HB := n0_; have BK161 := n1_; have GW161 := n2_; have GE161 := n3_; clear n0_ n1_ n2_ n3_; clear hb hbox hg; have hcz3_0 : w2.cell? ⟨gb161, 0, none⟩ = some (.int .i64 a0_0) := (kce BK161.out 0).trans rfl; have hcz3_1 : w2.cell? ⟨gb161, 1, none⟩ = some (.int .i64 a0_1) := (kce BK161.out 1).trans rfl; have hfz3_0 := kfr BK161.out 0; have hfz3_1 := kfr BK161.out 1))
 go_ret
 exact ⟨by first | rfl | (simp [errW_none, errW_some] <;> rfl) | (simp [*, errW_none, errW_some] <;> rfl), by repeat (first | (with_reducible first | exact HB.out | apply bal | apply pdn | apply bd1 | refine bst ?_ GE161.out) | exact HB.out)⟩

end Go.Proofs.Ytmpakjgbbjkacaa.MFnExactReadWide
