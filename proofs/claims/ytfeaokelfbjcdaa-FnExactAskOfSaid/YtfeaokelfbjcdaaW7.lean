/- Contracts of the seat: whom to ask. No condition. -/
import Derived.Test.YtfeaokelfbjcdaaW6
import Derived.Test.YtfeaokelfbjcdaaVKD
namespace Go.Ve
open Go.Proofs Go.RowKit
set_option linter.unusedVariables false
set_option linter.unusedSimpArgs false
set_option maxRecDepth 10000
set_option maxHeartbeats 4000000
/- impl.removed -/
def c77 : SCode := (.seq (.reg [⟨(some 3), .box 2 (.tmp 1), none⟩,
   ⟨(some 4), .assign (.const (.slice none 0 0)), none⟩])
(.seq (.reg [⟨(some 5), .move (.tmp 0), none⟩,
    ⟨(some 6), .call ⟨(.value (.func 93)), #[(.tmp 5)], #[22]⟩, none⟩,
    ⟨(some 7), .makeFunc (Fn.func 94) #[] #[(.tmp 3)], none⟩,
    ⟨(some 8), .call ⟨(.value (.func 83)), #[(.tmp 6), (.tmp 7)], #[22, 62]⟩, none⟩,
    ⟨(some 4), .assign (.tmp 8), none⟩])
 .ret))
theorem s77 : slimF Try.f77 = some (c77, [.t 4], 9) := by kernel_rfl
theorem o77 : okF [] Try.f77 = true := by kernel_rfl
theorem sat_77 {n : Nat} (h2 : 2 ≤ n) {τ : Nat} {l : List Int} {m : Int} (hl : l.length ≤ 1048576) : SatM Try.prog n 77 [] [.sl τ 1 (l.map (AV.int .i64)), .int .i64 m] [.row 2 1 ((l.filter fun x => !decide (x = m)).map (AV.int .i64))] (.osl 0 1 0 (l.filter fun x => !decide (x = m)).length) := by
  have hT : Table Try.prog [] := .nil
  have hn0 : n ≠ 0 := by omega
  refine SatM.of_bodyV hT hm Try.func77 s77 o77 h2 (by simp) ?_
  simp (config := {contextual := true, maxSteps := 2000000, implicitDefEqProofs := false}) [c77, go_sem]
  refine ⟨93, [], rfl, [], n, [.row 2 1 ((l).map (AV.int .i64))], .osl 0 1 0 l.length, Nat.le_refl _, by simp, by simp, by simp [go_sem, posOf], by simpa [go_sem, rinOf, posOf] using sat_clone (n := n) (τ := τ) hl, ?_⟩
  simp (config := {contextual := true, maxSteps := 2000000, implicitDefEqProofs := false}) [go_sem, stOf, putAll, gmap, Root.ren, AV.ren, AV.ren2, AV.ren1, AV.ren0]
  refine ⟨83, [], rfl, [1], n, [.row 2 1 ((l.filter fun x => !decide (x = m)).map (AV.int .i64))], .osl 0 1 0 (l.filter fun x => !decide (x = m)).length, Nat.le_refl _, by simp, by simp, by simp [go_sem, posOf], by simpa [go_sem, rinOf, posOf] using sat_del (n := n) (τ := 0) (m := m) hl, ?_⟩
  simp (config := {contextual := true, maxSteps := 2000000, implicitDefEqProofs := false}) [go_sem, stOf, putAll, gmap, Root.ren, AV.ren, AV.ren2, AV.ren1, AV.ren0]
  generalize (l.filter fun x => !decide (x = m)) = q
  refine ⟨_, [1], Sub.refl 0 _, ?_⟩
  simp [retM, resAV, rvV, rinOf, Root.rnp, AV.rnp, AV.rnp2, AV.rnp1, AV.rnp0, posOf, go_sem, Rz, nz_int, nz_osl, nz_tup]
/- impl.members -/
def c54 : SCode := (.seq (.reg [⟨(some 2), .assign (.const (.slice none 0 0)), none⟩])
(.seq (.reg [⟨(some 4), .move (.tmp 0), none⟩,
    ⟨(some 5), .call ⟨(.value (.func 77)), #[(.tmp 4), (.const (.int .i64 (-1)))], #[22, 2]⟩, none⟩,
    ⟨(some 3), .assign (.tmp 5), none⟩])
 (.seq (.reg [⟨(some 6), .move (.tmp 3), none⟩,
     ⟨(some 7), .call ⟨(.value (.func 58)), #[(.tmp 6)], #[22]⟩, none⟩])
  (.seq (.reg [⟨(some 8), .move (.tmp 3), none⟩,
      ⟨(some 2), .assign (.tmp 8), none⟩])
   .ret))))
theorem s54 : slimF Try.f54 = some (c54, [.t 2], 9) := by kernel_rfl
theorem o54 : okF [] Try.f54 = true := by kernel_rfl
theorem sat_memb {n : Nat} {l : List Int} (hl : l.length ≤ 1048576) : SatM Try.prog n 58 [.row 2 1 ((l.filter fun x => !decide (x = -1)).map (AV.int .i64))] [.osl 0 1 0 (l.filter fun x => !decide (x = -1)).length] [.row 2 1 ((membI l).map (AV.int .i64))] (.tup []) := sat_sort (Nat.le_trans (List.length_filter_le _ _) hl)
theorem sat_54 {n : Nat} (h2 : 2 ≤ n) {τ : Nat} {l : List Int} (hl : l.length ≤ 1048576) : SatM Try.prog n 54 [] [.sl τ 1 (l.map (AV.int .i64))] [.row 2 1 ((membI l).map (AV.int .i64))] (.osl 0 1 0 (membI l).length) := by
  have hT : Table Try.prog [] := .nil
  have hn0 : n ≠ 0 := by omega
  refine SatM.of_bodyV hT hm Try.func54 s54 o54 h2 (by simp) ?_
  have hfl : (l.filter fun x => !decide (x = -1)).length ≤ l.length := List.length_filter_le _ _
  have hml : (membI l).length = (l.filter fun x => !decide (x = -1)).length := sortL_len
  simp (config := {contextual := true, maxSteps := 2000000, implicitDefEqProofs := false}) [c54, go_sem]
  refine ⟨77, [], rfl, [], n, [.row 2 1 ((l.filter fun x => !decide (x = -1)).map (AV.int .i64))], .osl 0 1 0 (l.filter fun x => !decide (x = -1)).length, Nat.le_refl _, by simp, by simp, by simp [go_sem, posOf], by simpa [go_sem, rinOf, posOf] using sat_77 h2 (τ := τ) (m := -1) hl, ?_⟩
  simp (config := {contextual := true, maxSteps := 2000000, implicitDefEqProofs := false}) [go_sem, stOf, putAll, gmap, Root.ren, AV.ren, AV.ren2, AV.ren1, AV.ren0]
  refine ⟨58, [], rfl, [0], n, [.row 2 1 ((membI l).map (AV.int .i64))], .tup [], Nat.le_refl _, by simp, by simp, by simp [go_sem, posOf], by simpa [go_sem, rinOf, posOf] using sat_memb (n := n) hl, ?_⟩
  simp (config := {contextual := true, maxSteps := 2000000, implicitDefEqProofs := false}) [go_sem, stOf, putAll, gmap, Root.ren, AV.ren, AV.ren2, AV.ren1, AV.ren0]
  rw [← hml]
  generalize membI l = q
  refine ⟨_, [0], Sub.refl 0 _, ?_⟩
  simp [retM, resAV, rvV, rinOf, Root.rnp, AV.rnp, AV.rnp2, AV.rnp1, AV.rnp0, posOf, go_sem, Rz, nz_int, nz_osl, nz_tup, hml]
/- impl.AskOf -/
def c33 : SCode := (.seq (.reg [⟨(some 2), .assign (.const (.slice none 0 0)), none⟩])
(.seq (.seq (.reg [⟨(some 6), .move (.tmp 0), none⟩,
     ⟨(some 7), .call ⟨(.value (.func 30)), #[(.tmp 6)], #[33]⟩, none⟩,
     ⟨(some 8), .unOp .not 4 (.tmp 7), none⟩])
  (.cond (.tmp 8) (.seq (.reg [⟨(some 2), .assign (.const (.slice none 0 0)), none⟩])
    .ret)
   .skip))
 (.seq (.reg [⟨(some 3), .assign (.const (.slice none 0 0)), none⟩])
  (.seq (.seq (.reg [⟨(some 9), .move (.tmp 0), none⟩,
       ⟨(some 10), .call ⟨(.builtin .len), #[(.tmp 9)], #[33]⟩, none⟩,
       ⟨(some 11), .move (.const (.int .i64 0)), none⟩])
    (.block 0 (.loop (.seq (.reg [⟨(some 12), .binOp .lss 3 (.tmp 11) (.tmp 10) 3, none⟩])
       (.seq (.cond (.tmp 12) .skip
         (.exit 0))
        (.seq (.block 1 (.seq (.reg [⟨(some 13), .indexAddr 33 (.tmp 9) (.tmp 11), none⟩,
              ⟨(some 14), .load 43 (.tmp 13), none⟩,
              ⟨(some 5), .alloc 43, none⟩,
              ⟨none, .store 43 (.tmp 5) (.tmp 14), none⟩])
           (.reg [⟨(some 15), .move (.tmp 3), none⟩,
              ⟨(some 16), .fieldAddr 43 (.tmp 5) 2, none⟩,
              ⟨(some 17), .load 22 (.tmp 16), none⟩,
              ⟨(some 18), .call ⟨(.value (.func 54)), #[(.tmp 17)], #[22]⟩, none⟩,
              ⟨(some 19), .call ⟨(.builtin .append), #[(.tmp 15), (.tmp 18)], #[22, 22]⟩, none⟩,
              ⟨(some 3), .assign (.tmp 19), none⟩])))
         (.reg [⟨(some 20), .binOp .add 3 (.tmp 11) (.const (.int .i64 1)) 3, none⟩,
            ⟨(some 11), .move (.tmp 20), none⟩])))))))
   (.seq (.reg [⟨(some 21), .move (.tmp 3), none⟩,
       ⟨(some 22), .call ⟨(.value (.func 58)), #[(.tmp 21)], #[22]⟩, none⟩])
    (.seq (.reg [⟨(some 23), .move (.tmp 3), none⟩,
        ⟨(some 24), .call ⟨(.value (.func 59)), #[(.tmp 23)], #[22]⟩, none⟩,
        ⟨(some 2), .assign (.tmp 24), none⟩])
     .ret))))))
theorem s33 : slimF Try.f33 = some (c33, [.t 2], 25) := by kernel_rfl
theorem o33 : okF [(30, g30)] Try.f33 = true := by kernel_rfl
def askR (l : List Itv) : List Int := if itvsOk l = true then askG [] l else []
theorem membI_len {l : List Int} : (membI l).length ≤ l.length := by
  rw [membI, sortL_len]
  exact List.length_filter_le _ _
theorem askC {pre : List Itv} {x : Itv} {post : List Itv} : catI (pre ++ x :: post) = catI (pre ++ [x]) ++ catI post := by
  induction pre with
  | nil => simp [catI]
  | cons y p ih => simp only [List.cons_append, catI, ih, List.append_assoc]
theorem catI_one {pre : List Itv} {x : Itv} : catI (pre ++ [x]) = catI pre ++ membI x.acting := by
  induction pre with
  | nil => simp [catI]
  | cons y p ih => simp only [List.cons_append, catI, ih, List.append_assoc]
theorem sat_sortL {n : Nat} {l : List Int} (hl : l.length ≤ 1048576) : SatM Try.prog n 58 [.row 2 1 ((l).map (AV.int .i64))] [.osl 0 1 0 l.length] [.row 2 1 ((sortL l).map (AV.int .i64))] (.tup []) := sat_sort hl
theorem sat_cmpL {n : Nat} {l : List Int} (hl : l.length ≤ 1048576) : SatM Try.prog n 59 [.row 2 1 ((sortL l).map (AV.int .i64))] [.osl 0 1 0 l.length] [.row 2 1 ((Lib.compact (sortL l)).map (AV.int .i64))] (.osl 0 1 0 (Lib.compact (sortL l)).length) := by
  have h := sat_compact (n := n) (l := sortL l) (by rw [sortL_len]; exact hl)
  rwa [sortL_len] at h
theorem sat_33 {n : Nat} (h2 : 2 ≤ n) {τ : Nat} {ls : List Itv} : SatM Try.prog n 33 [] [.sl τ 4 (ls.map (enItv.av τ))] [.row 2 1 ((askR ls).map (AV.int .i64))] (.osl 0 1 0 (askR ls).length) := by
  have hT : Table Try.prog [(30, g30)] := (.cons p30 .nil)
  have hn0 : n ≠ 0 := by omega
  refine SatM.of_bodyV hT hm Try.func33 s33 o33 h2 (by simp) ?_
  have hq : ∀ v ∈ ls, itvsOk ls = true → v.acting.length ≤ 7 := fun v hv h => by
    simp only [itvsOk, Bool.and_eq_true] at h
    have h1 := itvL_act h.1 v hv
    simp only [actOk, btw, Bool.and_eq_true, decide_eq_true_eq] at h1
    omega
  cases ht : itvsOk ls
  · simp (config := {contextual := true, maxSteps := 2000000, implicitDefEqProofs := false}) [c33, go_sem, ht, askR]
    refine ⟨vivs [(2, 2, 1)] _, [0], vivs_sub _ _, ?_⟩
    simp [vivs, vivT, retM, resAV, rvV, rinOf, Root.rnp, AV.rnp, AV.rnp2, AV.rnp1, AV.rnp0, posOf, go_sem, Rz, nz_int, nz_osl, nz_tup]
  · have hr : askR ls = Lib.compact (sortL (catI ls)) := by simp only [askR, ht, if_true]; exact (ask_eq ht).symm
    have hl60 : ls.length ≤ 60 := by
      simp only [itvsOk, Bool.and_eq_true, decide_eq_true_eq] at ht
      omega
    rw [hr]
    clear hr
    simp (config := {contextual := true, maxSteps := 2000000, implicitDefEqProofs := false}) [c33, go_sem, ht]
    intro hL
    refine VW_listKE [(3, 2, 1)] [3] hT h2 hm ls [9, 10] (fun pre post (u0 : Unit) => [.row 2 1 ((catI pre).map (AV.int .i64))]) (fun pre post (u0 : Unit) => [(11, .int .i64 pre.length), (3, .osl 0 1 0 (catI pre).length)]) (fun pre post (u0 : Unit) => (catI pre).length ≤ 7 * pre.length) () ?_ ?_ ?_ ?_
    · simp [catI]
    · simp [SubE, SubR, go_sem, vivV, catI]
    · rintro u0 hR
      simp (config := {contextual := true, maxSteps := 2000000, implicitDefEqProofs := false}) [go_sem]
      refine ⟨58, [], rfl, [0], n, [.row 2 1 ((sortL (catI ls)).map (AV.int .i64))], .tup [], Nat.le_refl _, by simp, by simp, by simp [go_sem, posOf], by simpa [go_sem, rinOf, posOf] using sat_sortL (n := n) (l := catI ls) (by omega), ?_⟩
      simp (config := {contextual := true, maxSteps := 2000000, implicitDefEqProofs := false}) [go_sem, stOf, putAll, gmap, Root.ren, AV.ren, AV.ren2, AV.ren1, AV.ren0]
      refine ⟨59, [], rfl, [0], n, [.row 2 1 ((Lib.compact (sortL (catI ls))).map (AV.int .i64))], .osl 0 1 0 (Lib.compact (sortL (catI ls))).length, Nat.le_refl _, by simp, by simp, by simp [go_sem, posOf], by simpa [go_sem, rinOf, posOf] using sat_cmpL (n := n) (l := catI ls) (by omega), ?_⟩
      simp (config := {contextual := true, maxSteps := 2000000, implicitDefEqProofs := false}) [go_sem, stOf, putAll, gmap, Root.ren, AV.ren, AV.ren2, AV.ren1, AV.ren0]
      generalize Lib.compact (sortL (catI ls)) = q
      refine ⟨_, [0], Sub.refl 0 _, ?_⟩
      simp [retM, resAV, rvV, rinOf, Root.rnp, AV.rnp, AV.rnp2, AV.rnp1, AV.rnp0, posOf, go_sem, Rz, nz_int, nz_osl, nz_tup]
    · rintro pre x post u0 hl hlen hR
      have hln : ls.length = pre.length + (post.length + 1) := by rw [← hl]; simp
      have hn : nth (List.map (enItv.av τ) ls) (pre.length) = (enItv.av τ) x := by rw [← hl]; simp [go_sem]
      have hw : ls.length ≤ maxLen → IntKind.i64.wrap ((pre.length : Int) + 1) = (pre.length : Int) + 1 := fun h => wrap_ok (by omega) (by simp only [maxLen] at h; omega)
      have h3 : (0 : Int) ≤ (pre.length : Int) := by omega
      have h4 : (pre.length : Int) < (ls.length : Int) := by omega
      have h5 : ¬ (ls.length : Int) ≤ (pre.length : Int) := by omega
      have hx7 : x.acting.length ≤ 7 := hq x (by rw [← hl]; simp) ht
      simp (config := {contextual := true, maxSteps := 2000000, implicitDefEqProofs := false}) [go_sem, hn, hw, h3, h4, h5, hL]
      refine ⟨54, [], rfl, [], n, [.row 2 1 ((membI x.acting).map (AV.int .i64))], .osl 0 1 0 (membI x.acting).length, Nat.le_refl _, by simp, by simp, by simp [go_sem, posOf], by simpa [go_sem, rinOf, posOf] using sat_54 h2 (τ := τ) (l := x.acting) (by omega), ?_⟩
      simp (config := {contextual := true, maxSteps := 2000000, implicitDefEqProofs := false}) [go_sem, stOf, putAll, gmap, Root.ren, AV.ren, AV.ren2, AV.ren1, AV.ren0]
      have hmi := membI_len (l := x.acting)
      have hca : catI (pre ++ [x]) = catI pre ++ membI x.acting := catI_one
      have hwL := hw hL
      clear hq hw
      rw [hca]
      generalize catI pre = q1 at *
      generalize membI x.acting = q2 at *
      simp only [subE_go, subR_go, anOf_nil, anOf_cons, tmOk_nil, tmOk_cons]
      simp (config := {contextual := true, maxSteps := 2000000, implicitDefEqProofs := false}) [go_sem, hwL, subE_go, subR_go, anOf_nil, anOf_cons, tmOk_nil, tmOk_cons]
      omega
/- spec.AskOf -/
def c32 : SCode := (.seq (.reg [⟨(some 2), .assign (.const (.slice none 0 0)), none⟩])
(.seq (.seq (.reg [⟨(some 3), .move (.tmp 0), none⟩,
     ⟨(some 4), .call ⟨(.value (.func 56)), #[(.tmp 3)], #[33]⟩, none⟩,
     ⟨(some 5), .unOp .not 4 (.tmp 4), none⟩])
  (.cond (.tmp 5) (.seq (.reg [⟨(some 6), .buildSlice 22 0 #[], none⟩,
       ⟨(some 2), .assign (.tmp 6), none⟩])
    .ret)
   .skip))
 (.seq (.reg [⟨(some 7), .move (.tmp 0), none⟩,
     ⟨(some 8), .call ⟨(.value (.func 57)), #[(.tmp 7)], #[33]⟩, none⟩,
     ⟨(some 2), .assign (.tmp 8), none⟩])
  .ret)))
theorem s32 : slimF Try.f32 = some (c32, [.t 2], 9) := by kernel_rfl
theorem o32 : okF [(56, g56), (57, g57)] Try.f32 = true := by kernel_rfl
noncomputable def g32 : Fsem := sem1 enItv.list (fun ls => True) (fun n ls => .sl n 1 ((askR ls).map (AV.int .i64)))
@[go_sem] theorem g32_eq {n τ : Nat} {ls : List Itv} : g32 n [.sl τ 4 (ls.map (enItv.av τ))] = ⟨True, .sl n 1 ((askR ls).map (AV.int .i64))⟩ := sem1_eq  (E := enItv.list)
theorem p32 : Pure Try.prog 32 g32 := by
  refine sem1_pure fun τ ls n h2 hpre => ?_
  have hT : Table Try.prog [(56, g56), (57, g57)] := (.cons p56 (.cons p57 .nil))
  have hn0 : n ≠ 0 := by omega
  refine SatP.of_body hT hm Try.func32 s32 o32 h2 (by simp) ?_
  cases ht : itvsOk ls
  · simp (config := {contextual := true, maxSteps := 2000000, implicitDefEqProofs := false}) [c32, go_sem, ht, askR, hn0]
  · have hl60 : ls.length ≤ 60 ∧ ∀ v ∈ ls, v.acting.length ≤ 7 := by
      simp only [itvsOk, Bool.and_eq_true, decide_eq_true_eq] at ht
      refine ⟨by omega, fun v hv => ?_⟩
      have h1 := itvL_act ht.1 v hv
      simp only [actOk, btw, Bool.and_eq_true, decide_eq_true_eq] at h1
      omega
    simp (config := {contextual := true, maxSteps := 2000000, implicitDefEqProofs := false}) [c32, go_sem, ht, askR, hn0, hl60.1]
    exact hl60.2
end Go.Ve
