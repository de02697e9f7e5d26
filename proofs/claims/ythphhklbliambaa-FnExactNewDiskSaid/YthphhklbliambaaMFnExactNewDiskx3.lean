-- Written by a program of this session (wip/tools/myprint.py) over the kit's print: it is not the kit's print.
import Derived.Test.YthphhklbliambaaExtra
import Derived.Shelf.Strings.Repeat
import Derived.OwnWalk
import Derived.Laws.CopyOwn
import Derived.Lib.Agree
import Derived.Ground.NamesProg
import Derived.Shelf.Lay
import Derived.Shelf.Bits.Mul64
import Derived.Test.YthphhklbliambaaMFnExactNewDiskx0
import Derived.Test.YthphhklbliambaaMFnExactNewDiskx2
namespace Go.Proofs.Ythphhklbliambaa.MFnExactNewDisk
open Go.RowKit Go.Proofs.YthphhklbliambaaW.PrintWords Go.Proofs.YthphhklbliambaaW.PrintLast Go.Proofs.YthphhklbliambaaW.PrintMore
open List renaming setIfInBounds_toArray → sit, set_cons_zero → scz, set_cons_succ → scs, map_toArray → mta, map_cons → mco, map_nil → mni, length_drop → lnd, length_take → lnt
attribute [local go_sem] max2_int min2_int max_two min_two max_three min_three max_four min_four   -- for this text's walks alone
set_option linter.unusedVariables false
set_option linter.unusedSimpArgs false

/-! ### spec_NewDisk: function 26 -/
def spec_NewDisk.l0 : Nat → Int → ByteArray → Int → List ByteArray → Option (List ByteArray × (List (S55)) × Int)
 | 0, _, _, _, _ => none
 | k + 1, x0, x5, x6, x136000 => if x6 < x0 then (if x136000.length < 8796093022208 then (spec_NewDisk.l0 k x0 x5 (wrap64 (x6 + 1)) (x136000 ++ [x5])) else (none)) else (some (x136000, ([] : List (S55)), 0))
def spec_NewDisk.f (k : Nat) (a0 : Int) : Option (List ByteArray × (List (S55)) × Int) := (spec_l00In.f a0 1 1200).bind fun t134 => (if t134 = true then (if 64 ≤ 281474976710656 then (spec_NewDisk.l0 k a0 (strOfNums (List.replicate 64 0)) 0 ([] : List ByteArray)) else (none)) else (some (([] : List ByteArray), ([] : List (S55)), 2)))
theorem spec_NewDisk.mono_l : ∀ k, (∀ y0 y1 y2 y3, LeO (spec_NewDisk.l0 k y0 y1 y2 y3) (spec_NewDisk.l0 (k + 1) y0 y1 y2 y3))
 | 0 => fun _ _ _ _ r h => by simp [spec_NewDisk.l0] at h
 | k + 1 => by
  have ih0 := spec_NewDisk.mono_l k
  ·intro y0 y1 y2 y3
   unfold spec_NewDisk.l0
   repeat' first
   | (with_reducible exact ih0 _ _ _ _)
   | (with_reducible exact LeO.refl _)
   | (with_reducible exact LeO.none _)
   | (with_reducible refine LeO.ite ?_ ?_)
   | (with_reducible refine LeO.bind ?_ (fun _ => ?_))
   | exact ih0 _ _ _ _
   | exact LeO.none _
   | refine LeO.ite ?_ ?_
   | refine LeO.bind ?_ (fun _ => ?_)
theorem spec_NewDisk.mono : ∀ a0 k, LeO (spec_NewDisk.f k a0) (spec_NewDisk.f (k + 1) a0) := by
 intro a0 k
 have ih0 := spec_NewDisk.mono_l k
 unfold spec_NewDisk.f
 repeat' first
   | (with_reducible exact ih0 _ _ _ _)
   | (with_reducible exact LeO.refl _)
   | (with_reducible exact LeO.none _)
   | (with_reducible refine LeO.ite ?_ ?_)
   | (with_reducible refine LeO.bind ?_ (fun _ => ?_))
   | exact ih0 _ _ _ _
   | exact LeO.none _
   | refine LeO.ite ?_ ?_
   | refine LeO.bind ?_ (fun _ => ?_)
set_option maxHeartbeats 8000000 in
set_option maxRecDepth 100000 in
theorem spec_NewDisk.calls (k : Nat) (a0 : Int) (r1 : List ByteArray) (r2 : List (S55)) (r3 : Int) (w : World) (h : spec_NewDisk.f k a0 = some (r1, r2, r3)) :
  Calls Try.prog 26 #[.int .i64 a0] w fun e w' => ∃ v0_ v1_ : Value, e = .returned (.tuple #[.agg #[v0_, v1_], .int .i64 r3]) ∧ Kd.R Kd.string 9 w' w.heap.size (fun _ => True) v0_ r1 ∧ Kd.R k55 55 w' w.heap.size (fun _ => True) v1_ r2 ∧ Below w.heap.size w w' := by
 have hu30 := Try.underlying30
 have HB := am (Below.refl w.heap.size w)
 have H : ((spec_l00In.f a0 1 1200).bind fun t134 => (if t134 = true then (if 64 ≤ 281474976710656 then (spec_NewDisk.l0 k a0 (strOfNums (List.replicate 64 0)) 0 ([] : List ByteArray)) else (none)) else (some (([] : List ByteArray), ([] : List (S55)), 2)))) = some (r1, r2, r3) := h
 clear h
 replace H := Option.bind_eq_some_iff.mp H
 obtain ⟨t134, A20, H⟩ := H
 replace H : (if t134 = true then (if 64 ≤ 281474976710656 then (spec_NewDisk.l0 k a0 (strOfNums (List.replicate 64 0)) 0 ([] : List ByteArray)) else (none)) else (some (([] : List ByteArray), ([] : List (S55)), 2))) = some (r1, r2, r3) := H
 have A2 := am A20
 clear A20
 by_cases c3 : t134 = true
 ·subst c3
  have H1 : (if 64 ≤ 281474976710656 then (spec_NewDisk.l0 k a0 (strOfNums (List.replicate 64 0)) 0 ([] : List ByteArray)) else (none)) = some (r1, r2, r3) := by rw [if_pos rfl] at H; exact H
  clear H
  have H := H1
  clear H1
  by_cases c4 : 64 ≤ 281474976710656
  ·rw [if_pos c4] at H
   have c4b0 := eq_true c4
   have c4b1 : decide (64 ≤ 281474976710656) = true := decide_eq_true c4
   clear c4
   obtain ⟨y136, hy136⟩ : ∃ y_ : List Int, y_ = (List.replicate 64 0) := ⟨_, rfl⟩
   replace H : (spec_NewDisk.l0 k a0 (strOfNums y136) 0 ([] : List ByteArray)) = some (r1, r2, r3) := by first | (rw [hy136]; with_reducible exact H) | (have H2_ := (Option.bind_some _ _).symm.trans H; rw [hy136]; with_reducible exact H2_) | (have H2_ := (Option.bind_some _ _).symm.trans H; with_reducible exact H2_) | with_reducible exact H | (rw [hy136]; exact H) | exact H
   have Ny136 := am hy136
   clear hy136
   have H' := am H
   clear H
   go_enter Try.func26, Try.ntmps26
   go_wp2_with (first | ((with_reducible refine gate_dst (N := 2) rfl ?_); refine box_event ?hg (N := 2) ?hd (cs := #[.slice none 0 0, .slice none 0 0]) (t := 30) ?hr ?_; (case hd => rfl); (case hg => rfl); (case hr => first | (go_simp; done) | (go_simp; rfl)); intro gb133 hg w5 hbox hb; have n0_ := am (below_step (by repeat (first | (with_reducible first | exact HB.out | apply bal | apply pdn | apply bd1) | exact HB.out)) hb); have n1_ := am (hbox); have n2_ := am ((by rw [hg]; exact (below_size (by repeat (first | (with_reducible first | exact HB.out | apply bal | apply pdn | apply bd1) | exact HB.out))) : w.heap.size ≤ gb133)); have n3_ := am ((by rw [hg]; exact (below_size (by repeat (first | (with_reducible first | exact HB.out | apply bal | apply pdn | apply bd1) | exact HB.out))) : w.heap.size ≤ gb133)); clear HB; have HB := n0_; have BK133 := n1_; have GW133 := n2_; have GE133 := n3_; clear n0_ n1_ n2_ n3_; clear hb hbox hg) | ((with_reducible refine gate_callee (f := 57) rfl ?_); refine goesL_ (some 8) rfl rfl Try.func57 (by kernel_rfl) rfl #[.int .i64 a0, .int .i64 1, .int .i64 1200] rfl (by (try simp only [mta, mco, mni]); first | done | rfl | (simp only [lnd, lnt]; rfl)) ?_; (with_reducible refine (spec_l00In.calls a0 1 1200 true _ A2.out).mono ?_); rintro e w' ⟨rfl, ⟨nd, rfl⟩⟩; refine ⟨_, rfl, ?_⟩; (try (rw [drewN_self w5]; generalize hq_ : World.drewN w5 _ = w5; have n0_ := am (blk_at hq_ BK133.out); have n1_ := am (below_at hq_ HB.out); clear hq_ BK133 HB; have BK133 := n0_; have HB := n1_; clear n0_ n1_))) | ((with_reducible refine gate_dst (N := 4) rfl ?_); refine box_event ?hg (N := 4) ?hd (cs := #[.slice none 0 0, .slice none 0 0]) (t := 30) ?hr ?_; (case hd => rfl); (case hg => rfl); (case hr => first | (go_simp; done) | (go_simp; rfl)); intro gb135 hg w6 hbox hb; have n0_ := am (kbb (g := gb133) (o := .cells #[.slice none 0 0, .slice none 0 0] 30 (0, 0)) (by (with_reducible repeat (first | apply kdn | apply kdr | apply kal)); exact BK133.out) hb); have n1_ := am (below_step (by repeat (first | (with_reducible first | exact HB.out | apply bal | apply pdn | apply bd1 | refine bst ?_ GE133.out) | exact HB.out)) hb); have n2_ := am (hbox); have n3_ := am ((by rw [hg]; exact (below_size (by repeat (first | (with_reducible first | exact HB.out | apply bal | apply pdn | apply bd1 | refine bst ?_ GE133.out) | exact HB.out))) : w.heap.size ≤ gb135)); have n4_ := am ((by rw [hg]; exact (below_size (by repeat (first | (with_reducible first | exact HB.out | apply bal | apply pdn | apply bd1 | refine bst ?_ GE133.out) | exact HB.out))) : w.heap.size ≤ gb135)); have n5_ := am ((by rw [hg]; exact Nat.ne_of_lt (blk_lt (g := gb133) (o := .cells #[.slice none 0 0, .slice none 0 0] 30 (0, 0)) (by (with_reducible repeat (first | apply kdn | apply kdr | apply kal)); exact BK133.out)) : gb133 ≠ gb135)); have n6_ := am ((by rw [hg]; exact Nat.ne_of_gt (blk_lt (g := gb133) (o := .cells #[.slice none 0 0, .slice none 0 0] 30 (0, 0)) (by (with_reducible repeat (first | apply kdn | apply kdr | apply kal)); exact BK133.out)) : gb135 ≠ gb133)); clear BK133; clear HB; have BK133 := n0_; have HB := n1_; have BK135 := n2_; have GW135 := n3_; have GE135 := n4_; have NB133_135 := n5_; have NB135_133 := n6_; clear n0_ n1_ n2_ n3_ n4_ n5_ n6_; clear hb hbox hg; have hnb7 := NB135_133.out; have hnc7 := NB133_135.out; have hcz8_0 : w6.cell? ⟨gb135, 0, none⟩ = some (.slice none 0 0) := (kce BK135.out 0).trans rfl; have hcz8_1 : w6.cell? ⟨gb135, 1, none⟩ = some (.slice none 0 0) := (kce BK135.out 1).trans rfl; have hfz8_0 := kfr BK135.out 0; have hfz8_1 := kfr BK135.out 1) | ((with_reducible refine gate_dst (N := 12) rfl ?_); refine Kd.R_make (Kd.int .u8) _ 5 rfl (N := 12) rfl 48 _ _ rfl 64 rfl rfl Try.underlying48 (.int .u8 0) 1 info5 rfl (by decide) (by omega) 0 (ok := fun _ => True) (okp := fun _ => True) rfl (fun _ hk => hk) trivial (by omega) (by omega) (Below.refl _ _) (Nat.le_refl _) ?_; intro v137 w9 ho10 hb hg_ hnew_; clear hg_ hnew_; (first | rw [← Ny136.out] at ho10 | (simp only [Int.reduceToNat] at ho10; rw [← Ny136.out] at ho10)); have n0_ := am (Kd.R_lower ho10 (below_size (by repeat (first | (with_reducible first | exact HB.out | apply bal | apply pdn | apply bd1 | refine bst ?_ GE133.out | refine bst ?_ GE135.out) | exact HB.out)))); have n1_ := am (kbb (g := gb133) (o := .cells #[.slice none 0 0, .slice none 0 0] 30 (0, 0)) (by (with_reducible repeat (first | apply kdn | apply kdr | apply kal)); refine blk_far ?_ NB133_135.out _; (with_reducible repeat (first | apply kdn | apply kdr | apply kal)); refine blk_far ?_ NB133_135.out _; (with_reducible repeat (first | apply kdn | apply kdr | apply kal)); exact BK133.out) hb); have n2_ := am (kbb (g := gb135) (o := .cells #[.slice none 0 0, .slice none 0 0] 30 (0, 0)) (by (with_reducible repeat (first | apply kdn | apply kdr | apply kal)); refine blk_put (cs := #[.slice none 0 0, .slice none 0 0]) ?_ 1 _ rfl; (with_reducible repeat (first | apply kdn | apply kdr | apply kal)); refine blk_put (cs := #[.slice none 0 0, .slice none 0 0]) ?_ 0 _ rfl; (with_reducible repeat (first | apply kdn | apply kdr | apply kal)); exact BK135.out) hb); have n3_ := am (below_step (by repeat (first | (with_reducible first | exact HB.out | apply bal | apply pdn | apply bd1 | refine bst ?_ GE133.out | refine bst ?_ GE135.out) | exact HB.out)) hb); clear BK133; clear BK135; clear HB; have HO138 := n0_; have BK133 := n1_; have BK135 := n2_; have HB := n3_; clear n0_ n1_ n2_ n3_; clear hb ho10; have hcv11 := own_string (P := Try.prog) Try.underlying48 Try.underlying5 Try.underlying9 (Kd.own_of_R HO138.out)))
   go_loopg [6] k (fun kq v6 w' => ∃ (x6_1 : Int) (x136000_1 : List ByteArray) (u136000 : Value), v6 = .int .i64 x6_1 ∧ Aside0 (spec_NewDisk.l0 kq a0 (strOfNums y136) x6_1 x136000_1 = some (r1, r2, r3)) ∧ Aside0 (kq ≤ k) ∧ Aside0 (Kd.R Kd.string 9 w' w.heap.size (fun _ => True) u136000 x136000_1) ∧ Aside0 (w'.heap[gb133]? = some (.cells #[(.slice none 0 0), (.slice none 0 0)] 30 (0, 0))) ∧ Aside0 (w'.heap[gb135]? = some (.cells #[u136000, (.slice none 0 0)] 30 (0, 0))) ∧ Aside0 (Below w.heap.size w w'))
   case atStart => exact ⟨(0), (([] : List ByteArray)), (.slice none 0 0), (by first | rfl | (simp; done) | (simp [*]; done)), H', ⟨Nat.le_refl _⟩, ⟨by first | exact Kd.R_nil _ _ _ _ _ | exact Kd.N_nil _ _ _ _ _ | exact Kd.V_nil _ _ _ _ _ | exact Kd.Q_nil _ _ _ _ _ | exact Kd.S_nil _ _ _ _ _⟩, ⟨by (with_reducible repeat (first | apply kdn | apply kdr | apply kal)); exact BK133.out⟩, ⟨by (with_reducible repeat (first | apply kdn | apply kdr | apply kal)); exact BK135.out⟩, ⟨by repeat (first | (with_reducible first | exact HB.out | apply bal | apply pdn | apply bd1 | refine bst ?_ GE133.out | refine bst ?_ GE135.out) | exact HB.out)⟩⟩
   case round =>
    clear H'
    obtain ⟨x6_1, x136000_1, u136000, rfl, HA, HK1, HO_136000, BK133, BK135, HB⟩ := hrel
    cases gk with
    | zero => exact absurd HA.out (by simp [spec_NewDisk.l0])
    | succ k1 =>
     have H := HA.out
     clear HA
     simp only [spec_NewDisk.l0] at H
     by_cases c12 : x6_1 < a0
     ·rw [if_pos c12] at H
      have c12b0 : decide (x6_1 < a0) = true := decide_eq_true c12
      clear c12
      by_cases c13 : x136000_1.length < 8796093022208
      ·rw [if_pos c13] at H
       have LMc13 := am c13
       clear c13
       obtain ⟨y139, hy139⟩ : ∃ y_ : List ByteArray, y_ = (x136000_1 ++ [(strOfNums y136)]) := ⟨_, rfl⟩
       replace H : (spec_NewDisk.l0 k1 a0 (strOfNums y136) (wrap64 (x6_1 + 1)) y139) = some (r1, r2, r3) := by first | (rw [hy139]; with_reducible exact H) | (have H2_ := (Option.bind_some _ _).symm.trans H; rw [hy139]; with_reducible exact H2_) | (have H2_ := (Option.bind_some _ _).symm.trans H; with_reducible exact H2_) | with_reducible exact H | (rw [hy139]; exact H) | exact H
       have Ny139 := am hy139
       clear hy139
       have H' := am H
       clear H
       have hnb14 := NB135_133.out
       have hnc14 := NB133_135.out
       have hcz15_0 : wr.cell? ⟨gb135, 0, none⟩ = some (u136000) := (kce BK135.out 0).trans rfl
       have hcz15_1 : wr.cell? ⟨gb135, 1, none⟩ = some (.slice none 0 0) := (kce BK135.out 1).trans rfl
       have hfz15_0 := kfr BK135.out 0
       have hfz15_1 := kfr BK135.out 1
       go_wp2_with (first | ((with_reducible refine gate_builtin (b := .append) (xs := #[.tmp 20, .tmp 22]) rfl ?_); at_builtin; refine Kd.R_append Kd.string (w0 := w) w.heap.size rfl (.tmp 20) (.tmp 22) 22 9 (.string ⟨#[]⟩) 16 rfl Try.underlying22 info9 rfl (by decide) (by omega) u136000 x136000_1 (strOfNums y136) [.string (strOfNums y136)] (fun _ => True) (fun _ => False) rfl rfl ?aP (fun _ hk => hk.elim) ?aF ?aO ?aB ?aS ?aL ?_; (case aP => exact rfl); (case aB => exact (by repeat (first | (with_reducible first | exact HB.out | apply bal | apply pdn | apply bd1 | refine bst ?_ GE133.out | refine bst ?_ GE135.out) | exact HB.out))); (case aF => exact (fun _ _ => trivial)); (case aO => exact (by (with_reducible repeat (first | apply kra | apply krn | apply krd)); exact HO_136000.out)); (case aS => exact (below_size (by repeat (first | (with_reducible first | exact HB.out | apply bal | apply pdn | apply bd1 | refine bst ?_ GE133.out | refine bst ?_ GE135.out) | exact HB.out)))); (case aL => have := LMc13.out; omega); intro v140 w16 ho hb hg hat; rw [← Ny139.out] at ho; have n0_ := am (blk_grown (g := gb133) (o := .cells #[.slice none 0 0, .slice none 0 0] 30 (0, 0)) (by (with_reducible repeat (first | apply kdn | apply kdr | apply kal)); exact BK133.out) hg (Kd.R_ne HO_136000.out BK133.out (by decide))); have n1_ := am (blk_grown (g := gb135) (o := .cells #[u136000, .slice none 0 0] 30 (0, 0)) (by (with_reducible repeat (first | apply kdn | apply kdr | apply kal)); exact BK135.out) hg (Kd.R_ne HO_136000.out BK135.out (by decide))); have n2_ := am (hb); have n3_ := am (ho); clear BK133; clear BK135; clear HB; clear HO_136000; have BK133 := n0_; have BK135 := n1_; have HB := n2_; have HO141 := n3_; clear n0_ n1_ n2_ n3_; clear ho hb hg hat; obtain ⟨Ao17, co17, eo17⟩ := Kd.R_slice HO141.out; subst eo17; have hcz18_0 : w16.cell? ⟨gb135, 0, none⟩ = some (u136000) := (kce BK135.out 0).trans rfl; have hcz18_1 : w16.cell? ⟨gb135, 1, none⟩ = some (.slice none 0 0) := (kce BK135.out 1).trans rfl; have hfz18_0 := kfr BK135.out 0; have hfz18_1 := kfr BK135.out 1))
       go_roundg k1
       case measure => have := HK1.out; omega
       case rel => exact ⟨(wrap64 (x6_1 + 1)), (y139), (.slice Ao17 y139.length co17), (by first | rfl | (simp; done) | (simp [*]; done)), H', ⟨by have := HK1.out; omega⟩, ⟨by (with_reducible repeat (first | apply kra | apply krn | apply krd)); exact Kd.R_mono (kfa (p := ⟨gb135, 0, none⟩) (Kd.R_types HO141.out BK135.out (by decide)) (fun _ hk => hk.2) (.slice Ao17 y139.length co17)) (fun _ hk => trivial)⟩, ⟨by (with_reducible repeat (first | apply kdn | apply kdr | apply kal)); refine blk_far ?_ NB133_135.out _; (with_reducible repeat (first | apply kdn | apply kdr | apply kal)); exact BK133.out⟩, ⟨by (with_reducible repeat (first | apply kdn | apply kdr | apply kal)); refine blk_put (cs := #[u136000, .slice none 0 0]) ?_ 0 _ rfl; (with_reducible repeat (first | apply kdn | apply kdr | apply kal)); exact BK135.out⟩, ⟨by repeat (first | (with_reducible first | exact HB.out | apply bal | apply pdn | apply bd1 | refine bst ?_ GE133.out | refine bst ?_ GE135.out) | exact HB.out)⟩⟩
      ·rw [if_neg c13] at H
       exact absurd H (by simp)
     ·rw [if_neg c12] at H
      have c12b0 : decide (x6_1 < a0) = false := decide_eq_false c12
      clear c12
      simp only [Option.some.injEq, Prod.mk.injEq] at H
      obtain ⟨rfl, rfl, rfl⟩ := H
      have hnb19 := NB135_133.out
      have hnc19 := NB133_135.out
      have hcz20_0 : wr.cell? ⟨gb135, 0, none⟩ = some (u136000) := (kce BK135.out 0).trans rfl
      have hcz20_1 : wr.cell? ⟨gb135, 1, none⟩ = some (.slice none 0 0) := (kce BK135.out 1).trans rfl
      have hfz20_0 := kfr BK135.out 0
      have hfz20_1 := kfr BK135.out 1
      obtain ⟨Ao21, co21, eo21⟩ := Kd.R_slice HO_136000.out
      subst eo21
      have hcz22_0 : wr.cell? ⟨gb133, 0, none⟩ = some (.slice none 0 0) := (kce BK133.out 0).trans rfl
      have hcz22_1 : wr.cell? ⟨gb133, 1, none⟩ = some (.slice none 0 0) := (kce BK133.out 1).trans rfl
      have hfz22_0 := kfr BK133.out 0
      have hfz22_1 := kfr BK133.out 1
      go_wp2
      refine bodyPost_ret (results_ct rfl _ _ gb133 30 #[.slice Ao21 x136000_1.length co21, .slice none 0 0] (0, 0) _ rfl (by (with_reducible repeat (first | apply kdn | apply kdr | apply kal)); refine blk_put (cs := #[.slice Ao21 x136000_1.length co21, .slice none 0 0]) ?_ 1 _ rfl; (with_reducible repeat (first | apply kdn | apply kdr | apply kal)); refine blk_put (cs := #[.slice none 0 0, .slice none 0 0]) ?_ 0 _ rfl; (with_reducible repeat (first | apply kdn | apply kdr | apply kal)); exact BK133.out) Try.underlying30 rfl (by kernel_rfl)) rfl ?_
      exact ⟨_, _, by first | rfl | (simp [errW_none, errW_some] <;> rfl) | (simp [*, errW_none, errW_some] <;> rfl), by (with_reducible repeat (first | apply kra | apply krn | apply krd)); exact Kd.R_mono (kfa (p := ⟨gb133, 1, none⟩) (kfa (p := ⟨gb133, 0, none⟩) (Kd.R_types HO_136000.out BK133.out (by decide)) (fun _ hk => hk.2) (.slice Ao21 x136000_1.length co21)) (fun _ hk => hk.2) (.slice none 0 0)) (fun _ hk => trivial), by first | exact Kd.R_nil _ _ _ _ _ | exact Kd.N_nil _ _ _ _ _ | exact Kd.V_nil _ _ _ _ _ | exact Kd.Q_nil _ _ _ _ _ | exact Kd.S_nil _ _ _ _ _, by repeat (first | (with_reducible first | exact HB.out | apply bal | apply pdn | apply bd1 | refine bst ?_ GE133.out | refine bst ?_ GE135.out) | exact HB.out)⟩
  ·rw [if_neg c4] at H
   exact absurd H (by simp)
 ·replace c3 := Bool.eq_false_iff.mpr c3
  subst c3
  have H1 : (some (([] : List ByteArray), ([] : List (S55)), 2)) = some (r1, r2, r3) := by rw [if_neg (show ¬ (false = true) by decide)] at H; exact H
  clear H
  have H := H1
  clear H1
  simp only [Option.some.injEq, Prod.mk.injEq] at H
  obtain ⟨rfl, rfl, rfl⟩ := H
  go_enter Try.func26, Try.ntmps26
  go_wp2_with (first | ((with_reducible refine gate_dst (N := 2) rfl ?_); refine box_event ?hg (N := 2) ?hd (cs := #[.slice none 0 0, .slice none 0 0]) (t := 30) ?hr ?_; (case hd => rfl); (case hg => rfl); (case hr => first | (go_simp; done) | (go_simp; rfl)); intro gb133 hg w23 hbox hb; have n0_ := am (below_step (by repeat (first | (with_reducible first | exact HB.out | apply bal | apply pdn | apply bd1) | exact HB.out)) hb); have n1_ := am (hbox); have n2_ := am ((by rw [hg]; exact (below_size (by repeat (first | (with_reducible first | exact HB.out | apply bal | apply pdn | apply bd1) | exact HB.out))) : w.heap.size ≤ gb133)); have n3_ := am ((by rw [hg]; exact (below_size (by repeat (first | (with_reducible first | exact HB.out | apply bal | apply pdn | apply bd1) | exact HB.out))) : w.heap.size ≤ gb133)); clear HB; have HB := n0_; have BK133 := n1_; have GW133 := n2_; have GE133 := n3_; clear n0_ n1_ n2_ n3_; clear hb hbox hg) | ((with_reducible refine gate_callee (f := 57) rfl ?_); refine goesL_ (some 8) rfl rfl Try.func57 (by kernel_rfl) rfl #[.int .i64 a0, .int .i64 1, .int .i64 1200] rfl (by (try simp only [mta, mco, mni]); first | done | rfl | (simp only [lnd, lnt]; rfl)) ?_; (with_reducible refine (spec_l00In.calls a0 1 1200 false _ A2.out).mono ?_); rintro e w' ⟨rfl, ⟨nd, rfl⟩⟩; refine ⟨_, rfl, ?_⟩; (try (rw [drewN_self w23]; generalize hq_ : World.drewN w23 _ = w23; have n0_ := am (blk_at hq_ BK133.out); have n1_ := am (below_at hq_ HB.out); clear hq_ BK133 HB; have BK133 := n0_; have HB := n1_; clear n0_ n1_)); have hcz24_0 : w23.cell? ⟨gb133, 0, none⟩ = some (.slice none 0 0) := (kce BK133.out 0).trans rfl; have hcz24_1 : w23.cell? ⟨gb133, 1, none⟩ = some (.slice none 0 0) := (kce BK133.out 1).trans rfl; have hfz24_0 := kfr BK133.out 0; have hfz24_1 := kfr BK133.out 1))
  refine bodyPost_ret (results_ct rfl _ _ gb133 30 #[.slice none 0 0, .slice none 0 0] (0, 0) _ rfl (by (with_reducible repeat (first | apply kdn | apply kdr | apply kal)); refine blk_put (cs := #[.slice none 0 0, .slice none 0 0]) ?_ 1 _ rfl; (with_reducible repeat (first | apply kdn | apply kdr | apply kal)); refine blk_put (cs := #[.slice none 0 0, .slice none 0 0]) ?_ 0 _ rfl; (with_reducible repeat (first | apply kdn | apply kdr | apply kal)); exact BK133.out) Try.underlying30 rfl (by kernel_rfl)) rfl ?_
  exact ⟨_, _, by first | rfl | (simp [errW_none, errW_some] <;> rfl) | (simp [*, errW_none, errW_some] <;> rfl), by first | exact Kd.R_nil _ _ _ _ _ | exact Kd.N_nil _ _ _ _ _ | exact Kd.V_nil _ _ _ _ _ | exact Kd.Q_nil _ _ _ _ _ | exact Kd.S_nil _ _ _ _ _, by first | exact Kd.R_nil _ _ _ _ _ | exact Kd.N_nil _ _ _ _ _ | exact Kd.V_nil _ _ _ _ _ | exact Kd.Q_nil _ _ _ _ _ | exact Kd.S_nil _ _ _ _ _, by repeat (first | (with_reducible first | exact HB.out | apply bal | apply pdn | apply bd1 | refine bst ?_ GE133.out) | exact HB.out)⟩

/-! ### impl_between: function 60 -/
def impl_between.f (a0 : Int) (a1 : Int) (a2 : Int) : Option (Bool) := if a0 ≥ a1 then (some (decide (a0 ≤ a2))) else (some false)
set_option maxHeartbeats 8000000 in
set_option maxRecDepth 100000 in
theorem impl_between.calls (a0 : Int) (a1 : Int) (a2 : Int) (r : Bool) (w : World) (h : impl_between.f a0 a1 a2 = some r) :
  Calls Try.prog 60 #[.int .i64 a0, .int .i64 a1, .int .i64 a2] w fun e w' => e = .returned (.bool r) ∧ Drawn0 w w' := by
 have H : (if a0 ≥ a1 then (some (decide (a0 ≤ a2))) else (some false)) = some r := h
 clear h
 by_cases c4 : a0 ≥ a1
 ·rw [if_pos c4] at H
  have c4b0 : decide (a1 ≤ a0) = true := decide_eq_true c4
  clear c4
  obtain rfl := Option.some.inj H
  go_enter Try.func60, Try.ntmps60
  go_wp2
  go_ret
  exact ⟨by first | rfl | (simp; done) | (simp [*]; done), by repeat (first | exact Drawn0.refl _ | apply Drawn0.step)⟩
 ·rw [if_neg c4] at H
  have c4b0 : decide (a1 ≤ a0) = false := decide_eq_false c4
  clear c4
  obtain rfl := Option.some.inj H
  go_enter Try.func60, Try.ntmps60
  go_wp2
  go_ret
  exact ⟨by first | rfl | (simp; done) | (simp [*]; done), by repeat (first | exact Drawn0.refl _ | apply Drawn0.step)⟩

/-! ### slices_Repeat_string_string: function 109 -/
open Go.Shelf Go.Lib in
shelf_lay Lays.n212 Nm 212 at Try as slices_Repeat_string_string_lm
theorem slices_Repeat_string_string.num : slices_Repeat_string_string_lm_ren.f 212 = 127 := by kernel_rfl
/-- Of a row of one string alone. -/
def slices_Repeat_string_string.f (l : List ByteArray) (a : Int) : Option (List ByteArray) := if l.length = 1 ∧ 1 ≤ a ∧ a ≤ 10000 then some (List.replicate a.toNat (rdOf ByteArray.empty l 0)) else none
/-- The block g holds c cells, the first n of them z. -/
def slices_Repeat_string_string.Row (w : World) (g c n : Nat) (z : Value) : Prop := ∃ L : List Value, w.heap[g]? = some (.cells L.toArray 9 (0, 0)) ∧ L.length = c ∧ L.take n = List.replicate n z
theorem slices_Repeat_string_string.Row.le {w : World} {g c n m : Nat} {z : Value} (h : slices_Repeat_string_string.Row w g c n z) (hm : m ≤ n) : slices_Repeat_string_string.Row w g c m z := by
 obtain ⟨L, h1, h2, h3⟩ := h
 refine ⟨L, h1, h2, ?_⟩
 have : L.take m = (L.take n).take m := by rw [List.take_take, show min m n = m from by omega]
 rw [this, h3, List.take_replicate, show min m n = m from by omega]
theorem slices_Repeat_string_string.cellOf {w : World} {g c n q j : Nat} {L : List Value} {z v : Value} (h : w.heap[g]? = some (.cells L.toArray 9 (0, 0))) (hl : L.length = c) (ht : L.take n = List.replicate n z) (hq : q ≤ n) (hj : (List.replicate q z)[j]? = some v) : w.cell? ((⟨g, 0, none⟩ : Addr).add j) = some v := by
 have hjq : j < q := by
  rw [List.getElem?_replicate] at hj
  split at hj
  ·assumption
  ·cases hj
 have hv : L[j]? = some v := by
  have h1 : (L.take n)[j]? = some z := by rw [ht, List.getElem?_replicate, if_pos (by omega)]
  rw [List.getElem?_take, if_pos (by omega)] at h1
  rw [List.getElem?_replicate, if_pos hjq] at hj
  rw [h1, hj]
 have e : (⟨g, 0, none⟩ : Addr).add j = ⟨g, j, none⟩ := by unfold Addr.add; split <;> simp_all
 rw [e]
 simp [World.cell?, h, hv]
theorem slices_Repeat_string_string.spliced {L : List Value} {c n q : Nat} {z : Value} (hl : L.length = c) (ht : L.take n = List.replicate n z) (hc : n + q ≤ c) : (splice L n (List.replicate q z)).take (n + q) = List.replicate (n + q) z := by
 have hln : (L.take n).length = n := by rw [lnt]; omega
 unfold splice
 rw [List.take_append, hln, List.take_of_length_le (by omega), ht, show n + q - n = q from by omega, List.take_append, List.length_replicate, Nat.sub_self, List.take_zero, List.append_nil, List.take_of_length_le (by simp), List.replicate_append_replicate]
theorem slices_Repeat_string_string.made {w : World} {g n B : Nat} {z : ByteArray} (h : slices_Repeat_string_string.Row w g n n (.string z)) (hn : n ≤ maxLen) (hB : B ≤ g) : Kd.R Kd.string 9 w B (fun _ => True) (.slice (some ⟨g, 0, none⟩) n n) (List.replicate n z) := by
 obtain ⟨L, h1, h2, h3⟩ := h
 refine Kd.R_of_own (enc := Value.string) ?_ (fun _ _ => trivial)
 refine ⟨by simp [encs], Or.inr ⟨g, n, L.toArray, by simp, hB, h1, by simp, hn, by simp [h2], ?_⟩⟩
 simp [encs, h3]
def slices_Repeat_string_string.T9 : Bool × List (List Nat × List Nat) := (true, [([], []), ([], []), ([], []), ([1, 2], [1, 2]), ([], []), ([], []), ([4, 5], [4, 5]), ([3, 6], [3, 6]), ([0, 7], [0, 7]), ([8, 7, 0, 1, 2, 3, 4, 5, 6, 7, 8], [0, 2, 5, 8])])
def slices_Repeat_string_string.B9 : List Nat := [0, 0, 0, 6, 0, 0, 48, 126, 255, 511]
theorem slices_Repeat_string_string.tab9 : rtab .any (opsOf Try.f109 9) = slices_Repeat_string_string.T9 := by kernel_rfl
theorem slices_Repeat_string_string.bits9 : waitsOk slices_Repeat_string_string.T9.2 slices_Repeat_string_string.B9 = true := by kernel_rfl
set_option maxHeartbeats 4000000 in
set_option maxRecDepth 100000 in
theorem slices_Repeat_string_string.calls (A0 : Option Addr) (c0 : Nat) (l0 : List ByteArray) (a1 : Int) (r : List ByteArray) (w : World) (hr0 : Kd.C Kd.string w A0 l0.length l0) (hc0 : l0.length ≤ c0) (h : slices_Repeat_string_string.f l0 a1 = some r) :
  Calls Try.prog 109 #[.slice A0 l0.length c0, .int .i64 a1] w fun e w' => ∃ v0_ : Value, e = .returned (v0_) ∧ Kd.R Kd.string 9 w' w.heap.size (fun _ => True) v0_ r ∧ Below w.heap.size w w' := by
 unfold slices_Repeat_string_string.f at h
 split at h
 case isFalse => cases h
 rename_i hcc
 obtain ⟨h1, h2, h3⟩ := hcc
 obtain ⟨c, rfl⟩ := Int.eq_ofNat_of_zero_le (show 0 ≤ a1 by omega)
 rw [Int.toNat_natCast] at h
 obtain rfl := Option.some.inj h
 clear h
 obtain ⟨ad, e, hx⟩ := Kd.at_string hr0 0 (by omega) (by omega)
 cases e
 have hX : ∀ w1, Below w.heap.size w w1 → w1.cell? (ad.add 0) = some (.string (rdOf ByteArray.empty l0 0)) := fun w1 hb => by
  obtain ⟨ad2, e, h⟩ := Kd.at_string (Kd.C_below hr0 hb) 0 (by omega) (by omega)
  cases e
  exact h
 generalize rdOf ByteArray.empty l0 0 = z at hX ⊢
 rw [h1]
 have HX := am hX
 clear hX
 have HC1 := am (show 1 ≤ c ∧ c ≤ 10000 from by omega)
 have hMul := Go.Proofs.Any.bits_Mul slices_Repeat_string_string_lm 1 c (by decide) (by omega) w
 rw [slices_Repeat_string_string.num, Nat.one_mul, Nat.div_eq_of_lt (show c < 18446744073709551616 by omega), Nat.mod_eq_of_lt (show c < 18446744073709551616 by omega)] at hMul
 have hneg : decide ((c : Int) < 0) = false := decide_eq_false (by omega)
 have hover : decide ((9223372036854775807 : Int) < (c : Int)) = false := decide_eq_false (by omega)
 have hover2 : decide (9223372036854775807 < c) = false := decide_eq_false (by omega)
 clear hr0 hc0 h1 h2 h3 hx
 have HW : Aside0 (IntKind.wrap .u64 (c : Int) = (c : Int)) := ⟨by have := HC1.out; simp [IntKind.wrap, IntKind.bits, IntKind.signed]; omega⟩
 have HW2 : Aside0 (wrap64 (c : Int) = (c : Int)) := ⟨by have := HC1.out; unfold wrap64; omega⟩
 have HMUL : Aside0 (Calls Try.prog 127 #[.int .u64 1, .int .u64 (IntKind.wrap .u64 (c : Int))] w fun e w' => e = .returned (.tuple #[.int .u64 0, .int .u64 (c : Int)]) ∧ w' = w) := ⟨by rw [HW.out]; exact hMul⟩
 clear hMul
 obtain ⟨i0, hi, hz0, hz1, hz2⟩ := info_parts (P := Try.prog) (e := 9) (z := .string ByteArray.empty) (size := 1) (bytes := 16) (by kernel_rfl)
 go_enter Try.func109, Try.ntmps109
 go_upto_region 7 with (first | (go_at_call 127; go_loud (refine HMUL.out.mono ?_); rintro e w' ⟨rfl, hw⟩; rw [hw]) | (refine wpList_make_full w rfl (.tmp 29) (.tmp 29) 22 rfl w.heap.size 9 i0 (.string ByteArray.empty) 1 (by kernel_rfl) hi hz0 hz1 .i64 .i64 (wrap64 c) (wrap64 c) c rfl rfl HW2.out HW2.out (by rw [hz2]; have := HC1.out; omega) (by have := HC1.out; unfold maxLen; omega) (Nat.le_refl _) ?_; intro w1 ho1 hg1))
 have HB1 := am ((Below.refl w.heap.size w).grown hg1 (Nat.le_refl _) (fun k e => by cases e))
 obtain ⟨L, hL, hLc⟩ : ∃ L : List Value, w1.heap[w.heap.size]? = some (.cells L.toArray 9 (0, 0)) ∧ L.length = c := by
  rcases ho1.2 with ⟨hq, _⟩ | ⟨g, cap, cur, hq, _, hh, _, _, hs, _⟩
  ·cases hq
  ·cases hq
   exact ⟨cur.toList, by rw [Array.toArray_toList]; exact hh, by rw [Array.length_toList, hs]; omega⟩
 have HX1 := am (HX.out w1 HB1.out)
 have HCO : Aside0 (∀ (j : Nat) (v : Value), ([.string z] : List Value)[j]? = some v → w1.cell? (ad.add j) = some v) := ⟨fun j v hj => by
  cases j with
  | zero => rw [← Option.some.inj hj]; exact HX1.out
  | succ j => simp at hj⟩
 have HL := am hL
 have HLC := am hLc
 clear ho1 hg1 hL hLc
 go_wp2_with ((with_reducible refine gate_builtin (b := .copy) (xs := #[.tmp 31, .tmp 32]) rfl ?_); (refine wpList_copy_splice rfl (.tmp 31) (.tmp 32) 22 22 rfl 9 (by kernel_rfl) (by kernel_rfl) _ _ c c 1 c0 rfl rfl w.heap.size 0 L 9 HL.out [.string z] (by have := HC1.out; simp [Nat.min_def]; omega) (fun _ => ⟨rfl, ad, rfl, HCO.out⟩) (by have := HLC.out; have := HC1.out; simp; omega) (by simp [Value.oneCell']) w.heap.size w HB1.out (Nat.le_refl _) ?_); intro w2 hL2 hb2)
 have HR2 : Aside0 (slices_Repeat_string_string.Row w2 w.heap.size c 1 (.string z)) := ⟨⟨_, hL2, by rw [length_splice _ _ _ (by have := HLC.out; have := HC1.out; simp; omega)]; exact HLC.out, by simp [splice]⟩⟩
 have HB2 := am hb2
 clear hL2 hb2 HL HLC HX1 HCO HB1
 go_loopg [8] c (fun gg s8 wr => ∃ n : Nat, s8 = .int .i64 n ∧ Aside0 (1 ≤ n ∧ n ≤ c ∧ c - n ≤ gg) ∧ Aside0 (slices_Repeat_string_string.Row wr w.heap.size c n (.string z)) ∧ Aside0 (Below w.heap.size w wr))
 case atStart => exact ⟨1, rfl, ⟨Nat.le_refl _, HC1.out.1, by have := HC1.out; omega⟩, HR2, HB2⟩
 case round =>
  obtain ⟨n, rfl, HN, HR, HB⟩ := hrel
  by_cases hlt : n < c
  ·have hltz : (n : Int) < (c : Int) := by omega
   have hn0 := HN.out
   have hq0 : ((0 : Int) ≤ (n : Int)) = True := eq_true (by omega)
   have hq1 : ((n : Int) ≤ (c : Int)) = True := eq_true (by omega)
   have hq2 : (n ≤ c) = True := eq_true (by omega)
   have hq3 : (c = n) = False := eq_false (by omega)
   clear hn0
   go_wp2
   have HS0 : Aside0 (slices_Repeat_string_string.Row wr.drew w.heap.size c n (.string z) ∧ Below w.heap.size w wr.drew) := ⟨HR.out, HB.out.trans ⟨rfl, rfl, rfl, Nat.le_refl _, fun _ _ => rfl⟩⟩
   refine start_ (n := 10) (S := fun w' => slices_Repeat_string_string.Row w' w.heap.size c n (.string z) ∧ Below w.heap.size w w') (ds := []) #[false, false, false, false, false, false, false, false, false, false] (by kernel_rfl) rfl rfl HS0.out (fun hHeld => ?_)
   refine with_tabW slices_Repeat_string_string.tab9 slices_Repeat_string_string.bits9 (fun HT_ HW_ => ?_)
   generalize wr.drew = w9 at hHeld ⊢
   refine pure_ (i := 0) (N := some 38) (v := ?_) (a' := ?_) #[true, false, false, false, false, false, false, false, false, false] rfl rfl (any_of HT_.out (by kernel_rfl)) (fun _ _ _ h => h) (Or.inl ⟨by rfl, ?_⟩) ?_ ?_
   rotate_left
   ·intro w'
    go_simp
    with_reducible rfl
   rotate_left
   ·simp only [Act.put, sit, scz, scs, i64_w, i32_w]
    rfl
   refine pure_ (i := 1) (N := some 39) (v := ?_) (a' := ?_) #[true, true, false, false, false, false, false, false, false, false] rfl rfl (any_of HT_.out (by kernel_rfl)) (fun _ _ _ h => h) (Or.inl ⟨by rfl, ?_⟩) ?_ ?_
   rotate_left
   ·intro w'
    go_simp
    with_reducible rfl
   rotate_left
   ·simp only [Act.put, sit, scz, scs, i64_w, i32_w]
    rfl
   refine pure_ (i := 2) (N := some 40) (v := ?_) (a' := ?_) #[true, true, true, false, false, false, false, false, false, false] rfl rfl (any_of HT_.out (by kernel_rfl)) (fun _ _ _ h => h) (Or.inl ⟨by rfl, ?_⟩) ?_ ?_
   rotate_left
   ·intro w'
    go_simp
    with_reducible rfl
   rotate_left
   ·simp only [Act.put, sit, scz, scs, i64_w, i32_w]
    rfl
   refine pure_ (i := 3) (N := some 41) (v := ?_) (a' := ?_) #[true, true, true, true, false, false, false, false, false, false] rfl rfl (any_of HT_.out (by kernel_rfl)) (fun _ _ _ h => h) (Or.inl ⟨by rfl, ?_⟩) ?_ ?_
   rotate_left
   ·intro w'
    go_simp
    with_reducible rfl
   rotate_left
   ·simp only [Act.put, sit, scz, scs, i64_w, i32_w]
    rfl
   refine pure_ (i := 4) (N := some 42) (v := ?_) (a' := ?_) #[true, true, true, true, true, false, false, false, false, false] rfl rfl (any_of HT_.out (by kernel_rfl)) (fun _ _ _ h => h) (Or.inl ⟨by rfl, ?_⟩) ?_ ?_
   rotate_left
   ·intro w'
    go_simp
    with_reducible rfl
   rotate_left
   ·simp only [Act.put, sit, scz, scs, i64_w, i32_w]
    rfl
   refine pure_ (i := 5) (N := some 43) (v := ?_) (a' := ?_) #[true, true, true, true, true, true, false, false, false, false] rfl rfl (any_of HT_.out (by kernel_rfl)) (fun _ _ _ h => h) (Or.inl ⟨by rfl, ?_⟩) ?_ ?_
   rotate_left
   ·intro w'
    go_simp
    with_reducible rfl
   rotate_left
   ·simp only [Act.put, sit, scz, scs, i64_w, i32_w]
    rfl
   refine pure_ (i := 6) (N := some 44) (v := ?_) (a' := ?_) #[true, true, true, true, true, true, true, false, false, false] rfl rfl (any_of HT_.out (by kernel_rfl)) (fun _ _ _ h => h) (Or.inl ⟨by rfl, ?_⟩) ?_ ?_
   rotate_left
   ·intro w'
    go_simp
    with_reducible rfl
   rotate_left
   ·simp only [Act.put, sit, scz, scs, i64_w, i32_w]
    rfl
   obtain ⟨⟨L1, hL1, hL1c, hL1t⟩, hb9⟩ := hHeld
   have hn0 := HN.out
   obtain ⟨q, hq, hqn⟩ : ∃ q : Nat, Nat.min n (c - n) = q ∧ (q ≤ n ∧ n + q ≤ c ∧ 1 ≤ q) := ⟨_, rfl, by simp only [Nat.min_def]; split <;> omega⟩
   have hcells : ∀ (j : Nat) (v : Value), (List.replicate q (Value.string z))[j]? = some v → w9.cell? ((⟨w.heap.size, 0, none⟩ : Addr).add j) = some v := fun j v hj => slices_Repeat_string_string.cellOf hL1 hL1c hL1t hqn.1 hj
   refine one_ (i := 7) (N := some 45) #[true, true, true, true, true, true, true, true, false, false] rfl rfl (one_of HT_.out (by kernel_rfl)) (by decide) (fun KQ hK => ?_)
   refine step_copy_splice rfl (.tmp 41) (.tmp 44) 22 22 rfl 9 (by kernel_rfl) (by kernel_rfl) _ _ (c - n) (c - n) n c rfl rfl w.heap.size n L1 9 hL1 (List.replicate q (.string z)) (by rw [List.length_replicate]; exact hq.symm) (fun _ => ⟨rfl, _, rfl, hcells⟩) (by rw [List.length_replicate]; omega) (by intro v hv; rw [List.eq_of_mem_replicate hv]; rfl) w.heap.size w hb9 (Nat.le_refl _) ?_
   intro w2 hg2 hb2
   have HR2 : Aside0 (slices_Repeat_string_string.Row w2 w.heap.size c (n + q) (.string z)) := ⟨⟨_, hg2, by rw [length_splice _ _ _ (by rw [List.length_replicate]; omega)]; exact hL1c, slices_Repeat_string_string.spliced hL1c hL1t hqn.2.1⟩⟩
   have HB2 := am hb2
   have hwq : Aside0 (wrap64 ((n : Int) + (q : Int)) = ((n + q : Nat) : Int)) := ⟨by have := HC1.out; unfold wrap64; omega⟩
   have HQ := am hqn
   rw [List.length_replicate]
   refine hK.out _ _ ⟨slices_Repeat_string_string.Row.le HR2.out (by omega), hb2⟩ (fun hHeld => ?_)
   clear hK KQ hHeld hg2 hb2 hcells hL1 hL1c hL1t hb9 hn0 hq hqn
   refine norm_ (a' := ?_) ?_ ?_
   rotate_left
   ·show Act.put _ (some 45) _ = _
    simp only [Act.put, sit, scz, scs, i64_w, i32_w]
    rfl
   refine pure_ (i := 8) (N := some 46) (v := ?_) (a' := ?_) #[true, true, true, true, true, true, true, true, true, false] rfl rfl (any_of HT_.out (by kernel_rfl)) (fun _ _ _ h => h) (Or.inl ⟨by rfl, ?_⟩) ?_ ?_
   rotate_left
   ·intro w'
    go_simp
    with_reducible rfl
   rotate_left
   ·simp only [Act.put, sit, scz, scs, i64_w, i32_w]
    rfl
   refine pure_ (i := 9) (N := some 8) (v := ?_) (a' := ?_) #[true, true, true, true, true, true, true, true, true, true] rfl rfl (any_of HT_.out (by kernel_rfl)) (fun _ _ _ h => h) (Or.inl ⟨by rfl, ?_⟩) ?_ ?_
   rotate_left
   ·intro w'
    go_simp
    with_reducible rfl
   rotate_left
   ·simp only [Act.put, sit, scz, scs, i64_w, i32_w]
    rfl
   refine done_ (done_of HT_.out (by kernel_rfl)) ?_
   go_wp2
   go_roundg (c - (n + q))
   case measure => have := HN.out; have := HQ.out; omega
   case rel =>
    exact ⟨n + q, by rw [hwq.out], ⟨by have := HN.out; omega, by have := HQ.out; omega, Nat.le_refl _⟩, HR2, HB2⟩
  ·have hltz : ¬ (n : Int) < (c : Int) := by omega
   have hn0 := HN.out
   obtain rfl : n = c := by omega
   clear hn0
   go_wp2
   go_ret
   refine ⟨_, rfl, ?_, HB.out⟩
   exact slices_Repeat_string_string.made HR.out (by have := HC1.out; unfold maxLen; omega) (Nat.le_refl _)

/-! ### strings_Repeat: function 128 -/
open Go.Shelf Go.Lib in
shelf_lay Lays.n105 Nm 105 at Try as strings_Repeat_lays
open Go.Shelf Go.Lib in
theorem strings_Repeat.extra : Builder.Extra Try.prog strings_Repeat_lays_ren where
 sizeBuilder := by kernel_rfl
 liesBuilder := by kernel_rfl
 t5 := strings_Repeat_lays.t5
 a5 := strings_Repeat_lays.a5
 z5 := strings_Repeat_lays.z5
 v5 := strings_Repeat_lays.v5
 infoByte := by kernel_rfl
 cellsByte := by kernel_rfl
 sizeByte := by kernel_rfl
 neB5 := by decide
theorem strings_Repeat.num : strings_Repeat_lays_ren.f 105 = 128 := by kernel_rfl
def strings_Repeat.f (a0 : ByteArray) (a1 : Int) : Option (ByteArray) := if 0 ≤ a1 ∧ a0.size * a1.toNat ≤ 1000000 ∧ a1 ≤ 1000000 then some ⟨(Go.Lib.repeatL a0.data.toList a1.toNat).toArray⟩ else none
theorem strings_Repeat.calls (a0 : ByteArray) (a1 : Int) (r : ByteArray) (w : World) (h : strings_Repeat.f a0 a1 = some r) :
  Calls Try.prog 128 #[.string a0, .int .i64 a1] w fun e w' => e = .returned (.string r) ∧ Below w.heap.size w w' := by
 unfold strings_Repeat.f at h
 split at h
 ·rename_i hc
  obtain rfl := Option.some.inj h
  have h1 := Go.Proofs.Any.strings_Repeat strings_Repeat_lays strings_Repeat.extra a0 a1.toNat w (by omega) (by omega)
  rw [strings_Repeat.num, Int.toNat_of_nonneg hc.1] at h1
  exact h1
 ·cases h

/-! ### impl_zeroSector: function 110 -/
def impl_zeroSector.f  : Option (ByteArray) := (strings_Repeat.f (⟨#[0]⟩ : ByteArray) 64).bind fun t142 => (some t142)
set_option maxHeartbeats 8000000 in
set_option maxRecDepth 100000 in
theorem impl_zeroSector.calls  (r : ByteArray) (w : World) (h : impl_zeroSector.f  = some r) :
  Calls Try.prog 110 #[] w fun e w' => e = .returned (.string r) ∧ Below w.heap.size w w' := by
 have HB := am (Below.refl w.heap.size w)
 have H : ((strings_Repeat.f (⟨#[0]⟩ : ByteArray) 64).bind fun t142 => (some t142)) = some r := h
 clear h
 replace H := Option.bind_eq_some_iff.mp H
 obtain ⟨t142, A10, H⟩ := H
 replace H : (some t142) = some r := H
 have A1 := am A10
 clear A10
 obtain rfl := Option.some.inj H
 go_enter Try.func110, Try.ntmps110
 go_wp2_with (first | ((with_reducible refine gate_callee (f := 128) rfl ?_); refine goesL_ (some 1) rfl rfl Try.func128 (by kernel_rfl) rfl #[.string (⟨#[0]⟩ : ByteArray), .int .i64 64] rfl (by (try simp only [mta, mco, mni]); first | done | rfl | (simp only [lnd, lnt]; rfl)) ?_; (with_reducible refine (strings_Repeat.calls (⟨#[0]⟩ : ByteArray) 64 t142 _ A1.out).mono ?_); rintro e w2 ⟨rfl, hb⟩; refine ⟨_, rfl, ?_⟩; have n0_ := am (below_step (by repeat (first | (with_reducible first | exact HB.out | apply bal | apply pdn | apply bd1) | exact HB.out)) hb); clear HB; have HB := n0_; clear n0_; (try clear hb); (try clear hb2); (try clear hk); (try clear hi)))
 go_ret
 exact ⟨by first | rfl | (simp [errW_none, errW_some] <;> rfl) | (simp [*, errW_none, errW_some] <;> rfl), by repeat (first | (with_reducible first | exact HB.out | apply bal | apply pdn | apply bd1) | exact HB.out)⟩

/-! ### impl_newDisk: function 75 -/
def impl_newDisk.f (a0 : Int) : Option (List ByteArray × (List (S55))) := (impl_zeroSector.f).bind fun t144 => ((slices_Repeat_string_string.f (([t144] : List ByteArray)) a0).bind fun t148 => (some (t148, ([] : List (S55)))))
set_option maxHeartbeats 8000000 in
set_option maxRecDepth 100000 in
theorem impl_newDisk.calls (a0 : Int) (r1 : List ByteArray) (r2 : List (S55)) (w : World) (h : impl_newDisk.f a0 = some (r1, r2)) :
  Calls Try.prog 75 #[.int .i64 a0] w fun e w' => ∃ v0_ v1_ : Value, e = .returned (.agg #[v0_, v1_]) ∧ Kd.R Kd.string 9 w' w.heap.size (fun _ => True) v0_ r1 ∧ Kd.R k55 55 w' w.heap.size (fun _ => True) v1_ r2 ∧ Below w.heap.size w w' := by
 have hu30 := Try.underlying30
 have HB := am (Below.refl w.heap.size w)
 have H : ((impl_zeroSector.f).bind fun t144 => ((slices_Repeat_string_string.f (([t144] : List ByteArray)) a0).bind fun t148 => (some (t148, ([] : List (S55)))))) = some (r1, r2) := h
 clear h
 replace H := Option.bind_eq_some_iff.mp H
 obtain ⟨t144, A20, H⟩ := H
 replace H : ((slices_Repeat_string_string.f (([t144] : List ByteArray)) a0).bind fun t148 => (some (t148, ([] : List (S55))))) = some (r1, r2) := H
 have A2 := am A20
 clear A20
 obtain ⟨y145, hy145⟩ : ∃ y_ : List ByteArray, y_ = (([t144] : List ByteArray)) := ⟨_, rfl⟩
 replace H : ((slices_Repeat_string_string.f y145 a0).bind fun t148 => (some (t148, ([] : List (S55))))) = some (r1, r2) := by first | (rw [hy145]; with_reducible exact H) | (have H2_ := (Option.bind_some _ _).symm.trans H; rw [hy145]; with_reducible exact H2_) | (have H2_ := (Option.bind_some _ _).symm.trans H; with_reducible exact H2_) | with_reducible exact H | (rw [hy145]; exact H) | exact H
 have Ny145 := am hy145
 clear hy145
 replace H := Option.bind_eq_some_iff.mp H
 obtain ⟨t148, A30, H⟩ := H
 replace H : (some (t148, ([] : List (S55)))) = some (r1, r2) := H
 have A3 := am A30
 clear A30
 simp only [Option.some.injEq, Prod.mk.injEq] at H
 obtain ⟨rfl, rfl⟩ := H
 go_enter Try.func75, Try.ntmps75
 go_wp2_with (first | ((with_reducible refine gate_dst (N := 2) rfl ?_); refine box_event ?hg (N := 2) ?hd (cs := #[.slice none 0 0, .slice none 0 0]) (t := 30) ?hr ?_; (case hd => rfl); (case hg => rfl); (case hr => first | (go_simp; done) | (go_simp; rfl)); intro gb143 hg w4 hbox hb; have n0_ := am (below_step (by repeat (first | (with_reducible first | exact HB.out | apply bal | apply pdn | apply bd1) | exact HB.out)) hb); have n1_ := am (hbox); have n2_ := am ((by rw [hg]; exact (below_size (by repeat (first | (with_reducible first | exact HB.out | apply bal | apply pdn | apply bd1) | exact HB.out))) : w.heap.size ≤ gb143)); have n3_ := am ((by rw [hg]; exact (below_size (by repeat (first | (with_reducible first | exact HB.out | apply bal | apply pdn | apply bd1) | exact HB.out))) : w.heap.size ≤ gb143)); clear HB; have HB := n0_; have BK143 := n1_; have GW143 := n2_; have GE143 := n3_; clear n0_ n1_ n2_ n3_; clear hb hbox hg) | ((with_reducible refine gate_callee (f := 110) rfl ?_); refine goesL_ (some 3) rfl rfl Try.func110 (by kernel_rfl) rfl #[] rfl (by (try simp only [mta, mco, mni]); first | done | rfl | (simp only [lnd, lnt]; rfl)) ?_; (with_reducible refine (impl_zeroSector.calls  t144 _ A2.out).mono ?_); rintro e w5 ⟨rfl, hb⟩; refine ⟨_, rfl, ?_⟩; have n0_ := am (kbb (g := gb143) (o := .cells #[.slice none 0 0, .slice none 0 0] 30 (0, 0)) (by (with_reducible repeat (first | apply kdn | apply kdr | apply kal)); exact BK143.out) hb); have n1_ := am (below_step (by repeat (first | (with_reducible first | exact HB.out | apply bal | apply pdn | apply bd1 | refine bst ?_ GE143.out) | exact HB.out)) hb); clear BK143; clear HB; have BK143 := n0_; have HB := n1_; clear n0_ n1_; (try clear hb); (try clear hb2); (try clear hk); (try clear hi)) | ((with_reducible refine gate_dst (N := 4) rfl ?_); refine Kd.R_lit Kd.string _ 9 ?hg (N := 4) ?hd (xs := ([t144] : List ByteArray)) (inner := [.string t144]) (ok := fun _ => True) (okp := fun _ => True) ?hr ?hp (fun _ hk => hk) trivial (Below.refl _ _) (Nat.le_refl _) (by simp) ?_; (case hd => rfl); (case hg => rfl); (case hr => first | (go_simp; done) | (go_simp; rfl)); (case hp => exact (Reps.one (show Kd.M Kd.string _ _ _ t144 [.string t144] from rfl) (Reps.none _ _))); intro v146 w6 ho7 hb hg_ hnew_; clear hg_ hnew_; (first | rw [← Ny145.out] at ho7 | (simp only [Int.reduceToNat] at ho7; rw [← Ny145.out] at ho7)); have n0_ := am (Kd.R_lower ho7 (below_size (by repeat (first | (with_reducible first | exact HB.out | apply bal | apply pdn | apply bd1 | refine bst ?_ GE143.out) | exact HB.out)))); have n1_ := am (kbb (g := gb143) (o := .cells #[.slice none 0 0, .slice none 0 0] 30 (0, 0)) (by (with_reducible repeat (first | apply kdn | apply kdr | apply kal)); exact BK143.out) hb); have n2_ := am (below_step (by repeat (first | (with_reducible first | exact HB.out | apply bal | apply pdn | apply bd1 | refine bst ?_ GE143.out) | exact HB.out)) hb); clear BK143; clear HB; have HO147 := n0_; have BK143 := n1_; have HB := n2_; clear n0_ n1_ n2_; clear hb ho7; obtain ⟨Ao8, co8, eo8⟩ := Kd.R_slice HO147.out; subst eo8) | ((with_reducible refine gate_callee (f := 109) rfl ?_); refine goesL_ (some 6) rfl rfl Try.func109 (by kernel_rfl) rfl #[.slice Ao8 y145.length co8, .int .i64 a0] rfl (by (try simp only [mta, mco, mni]); first | done | rfl | (simp only [lnd, lnt]; rfl)) ?_; (with_reducible refine (slices_Repeat_string_string.calls _ _ y145 a0 t148 _ ?side1 ?side2 A3.out).mono ?_); (case side1 => repeat (first | exact (Kd.R_reads' HO147.out).2.2 | (with_reducible first | apply kca | apply kcn | apply kcd))); (case side2 => exact (Kd.R_reads' HO147.out).2.1); rintro e w9 ⟨v149, rfl, ho0, hb⟩; refine ⟨_, rfl, ?_⟩; have n0_ := am (kre (by (with_reducible repeat (first | apply kra | apply krn | apply krd)); exact HO147.out) (Kd.R_base ho0) hb); have n1_ := am (Kd.R_lower (Kd.R_new' ho0 (Kd.R_lt (by (with_reducible repeat (first | apply kra | apply krn | apply krd)); exact HO147.out))) (below_size (by repeat (first | (with_reducible first | exact HB.out | apply bal | apply pdn | apply bd1 | refine bst ?_ GE143.out) | exact HB.out)))); have n2_ := am (kbb (g := gb143) (o := .cells #[.slice none 0 0, .slice none 0 0] 30 (0, 0)) (by (with_reducible repeat (first | apply kdn | apply kdr | apply kal)); exact BK143.out) hb); have n3_ := am (below_step (by repeat (first | (with_reducible first | exact HB.out | apply bal | apply pdn | apply bd1 | refine bst ?_ GE143.out) | exact HB.out)) hb); clear HO147; clear BK143; clear HB; have HO147 := n0_; have HO150 := n1_; have BK143 := n2_; have HB := n3_; clear n0_ n1_ n2_ n3_; (try clear hb); (try clear hb2); (try clear hk); (try clear hi); (try clear ho0); obtain ⟨Ao10, co10, eo10⟩ := Kd.R_slice HO150.out; subst eo10; have hcz11_0 : w9.cell? ⟨gb143, 0, none⟩ = some (.slice none 0 0) := (kce BK143.out 0).trans rfl; have hcz11_1 : w9.cell? ⟨gb143, 1, none⟩ = some (.slice none 0 0) := (kce BK143.out 1).trans rfl; have hfz11_0 := kfr BK143.out 0; have hfz11_1 := kfr BK143.out 1))
 refine bodyPost_ret (results_cell_row rfl _ _ gb143 30 #[.slice Ao10 t148.length co10, .slice none 0 0] (0, 0) _ rfl (by (with_reducible repeat (first | apply kdn | apply kdr | apply kal)); refine blk_put (cs := #[.slice Ao10 t148.length co10, .slice none 0 0]) ?_ 1 _ rfl; (with_reducible repeat (first | apply kdn | apply kdr | apply kal)); refine blk_put (cs := #[.slice none 0 0, .slice none 0 0]) ?_ 0 _ rfl; (with_reducible repeat (first | apply kdn | apply kdr | apply kal)); exact BK143.out) Try.underlying30 rfl (by kernel_rfl)) rfl ?_
 exact ⟨_, _, by first | rfl | (simp [errW_none, errW_some] <;> rfl) | (simp [*, errW_none, errW_some] <;> rfl), by (with_reducible repeat (first | apply kra | apply krn | apply krd)); exact Kd.R_mono (kfa (p := ⟨gb143, 1, none⟩) (kfa (p := ⟨gb143, 0, none⟩) (Kd.R_types HO150.out BK143.out (by decide)) (fun _ hk => hk.2) (.slice Ao10 t148.length co10)) (fun _ hk => hk.2) (.slice none 0 0)) (fun _ hk => trivial), by first | exact Kd.R_nil _ _ _ _ _ | exact Kd.N_nil _ _ _ _ _ | exact Kd.V_nil _ _ _ _ _ | exact Kd.Q_nil _ _ _ _ _ | exact Kd.S_nil _ _ _ _ _, by repeat (first | (with_reducible first | exact HB.out | apply bal | apply pdn | apply bd1 | refine bst ?_ GE143.out) | exact HB.out)⟩

/-! ### impl_NewDisk: function 27 -/
def impl_NewDisk.f (a0 : Int) : Option (List ByteArray × (List (S55)) × Int) := (impl_between.f a0 1 1200).bind fun t152 => (if t152 = true then ((impl_newDisk.f a0).bind fun bt153 => (some (bt153.1, bt153.2, 0))) else (some (([] : List ByteArray), ([] : List (S55)), 2)))
set_option maxHeartbeats 8000000 in
set_option maxRecDepth 100000 in
theorem impl_NewDisk.calls (a0 : Int) (r1 : List ByteArray) (r2 : List (S55)) (r3 : Int) (w : World) (h : impl_NewDisk.f a0 = some (r1, r2, r3)) :
  Calls Try.prog 27 #[.int .i64 a0] w fun e w' => ∃ v0_ v1_ : Value, e = .returned (.tuple #[.agg #[v0_, v1_], .int .i64 r3]) ∧ Kd.R Kd.string 9 w' w.heap.size (fun _ => True) v0_ r1 ∧ Kd.R k55 55 w' w.heap.size (fun _ => True) v1_ r2 ∧ Below w.heap.size w w' := by
 have hu30 := Try.underlying30
 have HB := am (Below.refl w.heap.size w)
 have H : ((impl_between.f a0 1 1200).bind fun t152 => (if t152 = true then ((impl_newDisk.f a0).bind fun bt153 => (some (bt153.1, bt153.2, 0))) else (some (([] : List ByteArray), ([] : List (S55)), 2)))) = some (r1, r2, r3) := h
 clear h
 replace H := Option.bind_eq_some_iff.mp H
 obtain ⟨t152, A20, H⟩ := H
 replace H : (if t152 = true then ((impl_newDisk.f a0).bind fun bt153 => (some (bt153.1, bt153.2, 0))) else (some (([] : List ByteArray), ([] : List (S55)), 2))) = some (r1, r2, r3) := H
 have A2 := am A20
 clear A20
 by_cases c3 : t152 = true
 ·subst c3
  have H1 : ((impl_newDisk.f a0).bind fun bt153 => (some (bt153.1, bt153.2, 0))) = some (r1, r2, r3) := by rw [if_pos rfl] at H; exact H
  clear H
  have H := H1
  clear H1
  replace H := Option.bind_eq_some_iff.mp H
  obtain ⟨⟨t153, t156⟩, A40, H⟩ := H
  replace H : (some (t153, t156, 0)) = some (r1, r2, r3) := H
  have A4 := am A40
  clear A40
  simp only [Option.some.injEq, Prod.mk.injEq] at H
  obtain ⟨rfl, rfl, rfl⟩ := H
  go_enter Try.func27, Try.ntmps27
  go_wp2_with (first | ((with_reducible refine gate_dst (N := 2) rfl ?_); refine box_event ?hg (N := 2) ?hd (cs := #[.slice none 0 0, .slice none 0 0]) (t := 30) ?hr ?_; (case hd => rfl); (case hg => rfl); (case hr => first | (go_simp; done) | (go_simp; rfl)); intro gb151 hg w5 hbox hb; have n0_ := am (below_step (by repeat (first | (with_reducible first | exact HB.out | apply bal | apply pdn | apply bd1) | exact HB.out)) hb); have n1_ := am (hbox); have n2_ := am ((by rw [hg]; exact (below_size (by repeat (first | (with_reducible first | exact HB.out | apply bal | apply pdn | apply bd1) | exact HB.out))) : w.heap.size ≤ gb151)); have n3_ := am ((by rw [hg]; exact (below_size (by repeat (first | (with_reducible first | exact HB.out | apply bal | apply pdn | apply bd1) | exact HB.out))) : w.heap.size ≤ gb151)); clear HB; have HB := n0_; have BK151 := n1_; have GW151 := n2_; have GE151 := n3_; clear n0_ n1_ n2_ n3_; clear hb hbox hg) | ((with_reducible refine gate_callee (f := 60) rfl ?_); refine goesL_ (some 5) rfl rfl Try.func60 (by kernel_rfl) rfl #[.int .i64 a0, .int .i64 1, .int .i64 1200] rfl (by (try simp only [mta, mco, mni]); first | done | rfl | (simp only [lnd, lnt]; rfl)) ?_; (with_reducible refine (impl_between.calls a0 1 1200 true _ A2.out).mono ?_); rintro e w' ⟨rfl, ⟨nd, rfl⟩⟩; refine ⟨_, rfl, ?_⟩; (try (rw [drewN_self w5]; generalize hq_ : World.drewN w5 _ = w5; have n0_ := am (blk_at hq_ BK151.out); have n1_ := am (below_at hq_ HB.out); clear hq_ BK151 HB; have BK151 := n0_; have HB := n1_; clear n0_ n1_))) | ((with_reducible refine gate_callee (f := 75) rfl ?_); refine goesL_ (some 9) rfl rfl Try.func75 (by kernel_rfl) rfl #[.int .i64 a0] rfl (by (try simp only [mta, mco, mni]); first | done | rfl | (simp only [lnd, lnt]; rfl)) ?_; (with_reducible refine (impl_newDisk.calls a0 t153 t156 _ A4.out).mono ?_); rintro e w6 ⟨v154, v157, rfl, ho0, ho1, hb⟩; refine ⟨_, rfl, ?_⟩; have n0_ := am (Kd.R_lower ho0 (below_size (by repeat (first | (with_reducible first | exact HB.out | apply bal | apply pdn | apply bd1 | refine bst ?_ GE151.out) | exact HB.out)))); have n1_ := am (Kd.R_lower ho1 (below_size (by repeat (first | (with_reducible first | exact HB.out | apply bal | apply pdn | apply bd1 | refine bst ?_ GE151.out) | exact HB.out)))); have n2_ := am (kbb (g := gb151) (o := .cells #[.slice none 0 0, .slice none 0 0] 30 (0, 0)) (by (with_reducible repeat (first | apply kdn | apply kdr | apply kal)); exact BK151.out) hb); have n3_ := am (below_step (by repeat (first | (with_reducible first | exact HB.out | apply bal | apply pdn | apply bd1 | refine bst ?_ GE151.out) | exact HB.out)) hb); clear BK151; clear HB; have HO155 := n0_; have HO158 := n1_; have BK151 := n2_; have HB := n3_; clear n0_ n1_ n2_ n3_; (try clear hb); (try clear hb2); (try clear hk); (try clear hi); (try clear ho0); (try clear ho1); obtain ⟨Ao7, co7, eo7⟩ := Kd.R_slice HO155.out; subst eo7; have hcz8_0 : w6.cell? ⟨gb151, 0, none⟩ = some (.slice none 0 0) := (kce BK151.out 0).trans rfl; have hcz8_1 : w6.cell? ⟨gb151, 1, none⟩ = some (.slice none 0 0) := (kce BK151.out 1).trans rfl; have hfz8_0 := kfr BK151.out 0; have hfz8_1 := kfr BK151.out 1; obtain ⟨Ao9, co9, eo9⟩ := Kd.R_slice HO158.out; subst eo9))
  refine bodyPost_ret (results_ct rfl _ _ gb151 30 #[.slice Ao7 t153.length co7, .slice Ao9 t156.length co9] (0, 0) _ rfl (by (with_reducible repeat (first | apply kdn | apply kdr | apply kal)); refine blk_put (cs := #[.slice Ao7 t153.length co7, .slice none 0 0]) ?_ 1 _ rfl; (with_reducible repeat (first | apply kdn | apply kdr | apply kal)); refine blk_put (cs := #[.slice none 0 0, .slice none 0 0]) ?_ 0 _ rfl; (with_reducible repeat (first | apply kdn | apply kdr | apply kal)); exact BK151.out) Try.underlying30 rfl (by kernel_rfl)) rfl ?_
  exact ⟨_, _, by first | rfl | (simp [errW_none, errW_some] <;> rfl) | (simp [*, errW_none, errW_some] <;> rfl), by (with_reducible repeat (first | apply kra | apply krn | apply krd)); exact Kd.R_mono (kfa (p := ⟨gb151, 1, none⟩) (kfa (p := ⟨gb151, 0, none⟩) (Kd.R_types HO155.out BK151.out (by decide)) (fun _ hk => hk.2) (.slice Ao7 t153.length co7)) (fun _ hk => hk.2) (.slice Ao9 t156.length co9)) (fun _ hk => trivial), by (with_reducible repeat (first | apply kra | apply krn | apply krd)); exact Kd.R_mono (kfa (p := ⟨gb151, 1, none⟩) (kfa (p := ⟨gb151, 0, none⟩) (Kd.R_types HO158.out BK151.out (by decide)) (fun _ hk => hk.2) (.slice Ao7 t153.length co7)) (fun _ hk => hk.2) (.slice Ao9 t156.length co9)) (fun _ hk => trivial), by repeat (first | (with_reducible first | exact HB.out | apply bal | apply pdn | apply bd1 | refine bst ?_ GE151.out) | exact HB.out)⟩
 ·replace c3 := Bool.eq_false_iff.mpr c3
  subst c3
  have H1 : (some (([] : List ByteArray), ([] : List (S55)), 2)) = some (r1, r2, r3) := by rw [if_neg (show ¬ (false = true) by decide)] at H; exact H
  clear H
  have H := H1
  clear H1
  simp only [Option.some.injEq, Prod.mk.injEq] at H
  obtain ⟨rfl, rfl, rfl⟩ := H
  go_enter Try.func27, Try.ntmps27
  go_wp2_with (first | ((with_reducible refine gate_dst (N := 2) rfl ?_); refine box_event ?hg (N := 2) ?hd (cs := #[.slice none 0 0, .slice none 0 0]) (t := 30) ?hr ?_; (case hd => rfl); (case hg => rfl); (case hr => first | (go_simp; done) | (go_simp; rfl)); intro gb151 hg w10 hbox hb; have n0_ := am (below_step (by repeat (first | (with_reducible first | exact HB.out | apply bal | apply pdn | apply bd1) | exact HB.out)) hb); have n1_ := am (hbox); have n2_ := am ((by rw [hg]; exact (below_size (by repeat (first | (with_reducible first | exact HB.out | apply bal | apply pdn | apply bd1) | exact HB.out))) : w.heap.size ≤ gb151)); have n3_ := am ((by rw [hg]; exact (below_size (by repeat (first | (with_reducible first | exact HB.out | apply bal | apply pdn | apply bd1) | exact HB.out))) : w.heap.size ≤ gb151)); clear HB; have HB := n0_; have BK151 := n1_; have GW151 := n2_; have GE151 := n3_; clear n0_ n1_ n2_ n3_; clear hb hbox hg) | ((with_reducible refine gate_callee (f := 60) rfl ?_); refine goesL_ (some 5) rfl rfl Try.func60 (by kernel_rfl) rfl #[.int .i64 a0, .int .i64 1, .int .i64 1200] rfl (by (try simp only [mta, mco, mni]); first | done | rfl | (simp only [lnd, lnt]; rfl)) ?_; (with_reducible refine (impl_between.calls a0 1 1200 false _ A2.out).mono ?_); rintro e w' ⟨rfl, ⟨nd, rfl⟩⟩; refine ⟨_, rfl, ?_⟩; (try (rw [drewN_self w10]; generalize hq_ : World.drewN w10 _ = w10; have n0_ := am (blk_at hq_ BK151.out); have n1_ := am (below_at hq_ HB.out); clear hq_ BK151 HB; have BK151 := n0_; have HB := n1_; clear n0_ n1_)); have hcz11_0 : w10.cell? ⟨gb151, 0, none⟩ = some (.slice none 0 0) := (kce BK151.out 0).trans rfl; have hcz11_1 : w10.cell? ⟨gb151, 1, none⟩ = some (.slice none 0 0) := (kce BK151.out 1).trans rfl; have hfz11_0 := kfr BK151.out 0; have hfz11_1 := kfr BK151.out 1))
  refine bodyPost_ret (results_ct rfl _ _ gb151 30 #[.slice none 0 0, .slice none 0 0] (0, 0) _ rfl (by (with_reducible repeat (first | apply kdn | apply kdr | apply kal)); refine blk_put (cs := #[.slice none 0 0, .slice none 0 0]) ?_ 1 _ rfl; (with_reducible repeat (first | apply kdn | apply kdr | apply kal)); refine blk_put (cs := #[.slice none 0 0, .slice none 0 0]) ?_ 0 _ rfl; (with_reducible repeat (first | apply kdn | apply kdr | apply kal)); exact BK151.out) Try.underlying30 rfl (by kernel_rfl)) rfl ?_
  exact ⟨_, _, by first | rfl | (simp [errW_none, errW_some] <;> rfl) | (simp [*, errW_none, errW_some] <;> rfl), by first | exact Kd.R_nil _ _ _ _ _ | exact Kd.N_nil _ _ _ _ _ | exact Kd.V_nil _ _ _ _ _ | exact Kd.Q_nil _ _ _ _ _ | exact Kd.S_nil _ _ _ _ _, by first | exact Kd.R_nil _ _ _ _ _ | exact Kd.N_nil _ _ _ _ _ | exact Kd.V_nil _ _ _ _ _ | exact Kd.Q_nil _ _ _ _ _ | exact Kd.S_nil _ _ _ _ _, by repeat (first | (with_reducible first | exact HB.out | apply bal | apply pdn | apply bd1 | refine bst ?_ GE151.out) | exact HB.out)⟩

end Go.Proofs.Ythphhklbliambaa.MFnExactNewDisk
