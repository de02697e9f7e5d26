/- Contracts of the seat: loads handed back. No condition. -/
import Derived.Test.YtidfijaobkaalaaV17
import Derived.Test.YtidfijaobkaalaaE31
namespace Go.Ve
open Go.Proofs Go.RowKit
set_option linter.unusedVariables false
set_option linter.unusedSimpArgs false
set_option maxRecDepth 10000
set_option maxHeartbeats 4000000
def lsR (t : Tree) (p : List (List Int)) : List Load := if okTP t p = true then loadsOf t p else []
def mkL : Int → List Load → List Load
  | _, [] => []
  | k, _ :: l => ⟨k, k + 1⟩ :: mkL (k + 2) l
theorem mkL_len : ∀ {k : Int} {l : List Load}, (mkL k l).length = l.length
  | _, [] => rfl
  | k, x :: l => by simp only [mkL, List.length_cons, mkL_len (l := l)]
theorem mkL_one : ∀ {k : Int} {l : List Load} {x : Load}, mkL k (l ++ [x]) = mkL k l ++ [⟨k + 2 * (l.length : Int), k + 2 * (l.length : Int) + 1⟩]
  | k, [], x => by simp [mkL]
  | k, y :: l, x => by
    simp only [List.cons_append, mkL, mkL_one (l := l), List.length_cons, Int.natCast_add, Int.natCast_one, List.cons.injEq, true_and]
    congr 3 <;> omega
def hldL : Int → List Load → Int
  | k, [] => k
  | k, x :: l => if x.node = k ∧ x.count = k + 1 then hldL (k + 2) l else -1
theorem hldL_mkL : ∀ {k : Int} {l : List Load}, hldL k (mkL k l) = k + 2 * (l.length : Int)
  | k, [] => by simp [mkL, hldL]
  | k, x :: l => by
    simp only [mkL, hldL, and_self, if_true, hldL_mkL (l := l), List.length_cons, Int.natCast_add, Int.natCast_one]
    omega

theorem sat_64 {n : Nat} (h2 : 2 ≤ n) {τ τ' : Nat} {t : Tree} {p : List (List Int)} (hpre : (flatL p).length ≤ 1048576 ∧ t.devices.length ≤ 16) : SatM Try.prog n 64 [] [.agg [.sl τ 2 (t.devices.map (enDev.av τ)), .sl τ 3 (t.buckets.map (enBkt.av τ))], .sl τ' 1 (p.map ((En.int .i64).list.av τ'))] [.row 97 2 ((loadsOf t p).map (enLoad.av n))] (.osl 0 2 0 (loadsOf t p).length) := by
  have hT : Table Try.prog [(109, g109)] := (.cons p109 .nil)
  have hn0 : n ≠ 0 := by omega
  refine SatM.of_bodyV hT hm Try.func64 s64 o64 h2 (by simp) ?_
  have hl20 : (flatL p).length ≤ 1048576 := hpre.1
  have hd16 : t.devices.length ≤ 16 := hpre.2
  simp (config := {contextual := true, maxSteps := 2000000, implicitDefEqProofs := false}) [c64, go_sem]
  intro hL
  refine VW_listKE [(5, 97, 2)] [5] hT h2 hm t.devices [1, 12, 13] (fun pre post (acc : List Load) => [.row 97 2 (acc.map (enLoad.av n))]) (fun pre post (acc : List Load) => [(14, .int .i64 pre.length), (5, .osl 0 2 0 acc.length)]) (fun pre post (acc : List Load) => IsL p pre acc) [] ?_ ?_ ?_ ?_
  · exact isL_nil
  · simp [SubE, SubR, go_sem, vivs, vivT]
  · rintro acc hR
    unfold IsL at hR
    subst hR
    simp (config := {contextual := true, maxSteps := 2000000, implicitDefEqProofs := false}) [go_sem]
    refine ⟨_, [0], Sub.refl 0 _, ?_⟩
    simp [retM, resAV, rvV, rinOf, Root.rnp, AV.rnp, AV.rnp2, AV.rnp1, AV.rnp0, posOf, go_sem, Rz, nz_int, nz_osl, nz_tup, loadsOf]
  · rintro pre x rest acc hl hlen hR
    have hln : t.devices.length = pre.length + (rest.length + 1) := by rw [← hl]; simp
    have hn : nth (List.map (enDev.av τ) t.devices) (pre.length) = (enDev.av τ) x := by rw [← hl]; simp [go_sem]
    have hw : t.devices.length ≤ maxLen → IntKind.i64.wrap ((pre.length : Int) + 1) = (pre.length : Int) + 1 := fun h => wrap_ok (by omega) (by simp only [maxLen] at h; omega)
    have h3 : (0 : Int) ≤ (pre.length : Int) := by omega
    have h4 : (pre.length : Int) < (t.devices.length : Int) := by omega
    have h5 : ¬ (t.devices.length : Int) ≤ (pre.length : Int) := by omega
    have hal : acc.length = pre.length := by unfold IsL at hR; rw [hR]; simp
    have ha16 : acc.length + 1 ≤ 16 := by omega
    simp (config := {contextual := true, maxSteps := 2000000, implicitDefEqProofs := false}) [go_sem, hn, hw, h3, h4, h5, hl20]
    intro hL2
    refine VW_listKE [] [5, 7] hT h2 hm (flatL p) [1, 5, 7, 12, 13, 14, 19, 20] (fun pre post (b : Int) => [.row 97 2 (acc.map (enLoad.av n)), .box 125 [.int .i64 x.id, .int .i64 x.weight]]) (fun pre post (b : Int) => [(21, .int .i64 pre.length), (8, .int .i64 b)]) (fun pre post (b : Int) => b + cnt x.id post = cnt x.id (flatL p) ∧ 0 ≤ b ∧ b ≤ (pre.length : Int)) 0 ?_ ?_ ?_ ?_
    · exact ⟨by omega, by omega, by simp⟩
    · simp [SubE, SubR, go_sem]
    · rintro b ⟨hS, hS2, hS3⟩
      simp only [cnt, Int.add_zero] at hS
      simp (config := {contextual := true, maxSteps := 2000000, implicitDefEqProofs := false}) [go_sem, hw, hL, SubE, SubR, vivs, vivT, hS]
      exact ⟨by omega, acc ++ [⟨x.id, cnt x.id (flatL p)⟩], isL_one hR, by simp [go_sem], by simp⟩
    · rintro pre' y post' b hl' hlen' ⟨hS, hS2, hS3⟩
      have hln' : (flatL p).length = pre'.length + (post'.length + 1) := by rw [← hl']; simp
      have hn' : nth (List.map (AV.int .i64) (flatL p)) (pre'.length) = (AV.int .i64) y := by rw [← hl']; simp [go_sem]
      have hw' : (flatL p).length ≤ maxLen → IntKind.i64.wrap ((pre'.length : Int) + 1) = (pre'.length : Int) + 1 := fun h => wrap_ok (by omega) (by simp only [maxLen] at h; omega)
      have h3' : (0 : Int) ≤ (pre'.length : Int) := by omega
      have h4' : (pre'.length : Int) < ((flatL p).length : Int) := by omega
      have h5' : ¬ ((flatL p).length : Int) ≤ (pre'.length : Int) := by omega
      have hwb : IntKind.i64.wrap (b + 1) = b + 1 := wrap_ok (by omega) (by omega)
      simp only [cnt] at hS
      simp (config := {contextual := true, maxSteps := 2000000, implicitDefEqProofs := false}) [go_sem, hn', hw', h3', h4', h5', hwb, hL2, SubE, SubR]
      exact ⟨fun h => ⟨by rw [if_pos h] at hS; omega, by omega, by omega⟩, fun h => ⟨by rw [if_neg h] at hS; omega, hS2, by omega⟩⟩
/- impl.Loads -/
def c23 : SCode := (.seq (.reg [⟨(some 2), .box 36 (.tmp 0), none⟩,
   ⟨(some 4), .assign (.const (.slice none 0 0)), none⟩,
   ⟨(some 5), .assign (.const (.int .i64 0)), none⟩])
(.seq (.seq (.reg [⟨(some 6), .load 36 (.tmp 2), none⟩,
     ⟨(some 7), .call ⟨(.value (.func 41)), #[(.tmp 6)], #[36]⟩, none⟩,
     ⟨(some 8), .unOp .not 4 (.tmp 7), none⟩,
     ⟨(some 9), .move (.tmp 8), none⟩,
     ⟨(some 10), .move (.tmp 1), (some (9, false))⟩,
     ⟨(some 11), .call ⟨(.value (.func 63)), #[(.tmp 10)], #[53]⟩, (some (9, false))⟩,
     ⟨(some 12), .unOp .not 4 (.tmp 11), (some (9, false))⟩,
     ⟨(some 13), .pick (.tmp 9) (.const (.bool true)) (.tmp 12), none⟩])
  (.cond (.tmp 13) (.seq (.reg [⟨(some 4), .assign (.const (.slice none 0 0)), none⟩,
       ⟨(some 5), .assign (.const (.int .i64 1)), none⟩])
    .ret)
   .skip))
 (.seq (.reg [⟨(some 14), .load 36 (.tmp 2), none⟩,
     ⟨(some 15), .move (.tmp 1), none⟩,
     ⟨(some 16), .call ⟨(.value (.func 64)), #[(.tmp 14), (.tmp 15)], #[36, 53]⟩, none⟩,
     ⟨(some 4), .assign (.tmp 16), none⟩,
     ⟨(some 5), .assign (.const (.int .i64 0)), none⟩])
  .ret)))
theorem s23 : slimF Try.f23 = some (c23, [.t 4, .t 5], 17) := by kernel_rfl
theorem o23 : okF [(41, g41), (63, g63)] Try.f23 = true := by kernel_rfl
theorem sat_23 {n : Nat} (h2 : 2 ≤ n) {τ τ' : Nat} {t : Tree} {p : List (List Int)} (hp0 : τ ≠ 0) : SatM Try.prog n 23 [] [.agg [.sl τ 2 (t.devices.map (enDev.av τ)), .sl τ 3 (t.buckets.map (enBkt.av τ))], .sl τ' 1 (p.map ((En.int .i64).list.av τ'))] [.row 97 2 ((lsR t p).map (enLoad.av n))] (.tup [.osl 0 2 0 (lsR t p).length, .int .i64 (cdR t p)]) := by
  have hT : Table Try.prog [(41, g41), (63, g63)] := (.cons p41 (.cons p63 .nil))
  have hn0 : n ≠ 0 := by omega
  refine SatM.of_bodyV hT hm Try.func23 s23 o23 h2 (by simp) ?_
  cases ht : treeOk t
  · simp (config := {contextual := true, maxSteps := 2000000, implicitDefEqProofs := false}) [c23, go_sem, ht, hp0, lsR, cdR, okTP]
    refine ⟨vivs [(4, 97, 2)] _, [1], vivs_sub _ _, ?_⟩
    simp [vivs, vivT, retM, resAV, rvV, rinOf, Root.rnp, AV.rnp, AV.rnp2, AV.rnp1, AV.rnp0, posOf, go_sem, Rz, nz_int, nz_osl, nz_tup]
  · cases hp : tblOk p
    · simp (config := {contextual := true, maxSteps := 2000000, implicitDefEqProofs := false}) [c23, go_sem, ht, hp, hp0, lsR, cdR, okTP]
      refine ⟨vivs [(4, 97, 2)] _, [1], vivs_sub _ _, ?_⟩
      simp [vivs, vivT, retM, resAV, rvV, rinOf, Root.rnp, AV.rnp, AV.rnp2, AV.rnp1, AV.rnp0, posOf, go_sem, Rz, nz_int, nz_osl, nz_tup]
    · have hd := (treeOk_parts ht).1
      have hd16 := (devs_parts hd).1
      have h112 := tbl_1000 hp
      have hok : okTP t p = true := by simp [okTP, ht, hp]
      simp only [lsR, cdR, hok, if_true]
      simp (config := {contextual := true, maxSteps := 2000000, implicitDefEqProofs := false}) [c23, go_sem, ht, hp, hp0]
      refine ⟨64, [], rfl, [], n, [.row 97 2 ((loadsOf t p).map (enLoad.av n))], .osl 0 2 0 (loadsOf t p).length, Nat.le_refl _, List.nodup_nil, by simp, by simp [go_sem], by simpa [go_sem, rinOf] using sat_64 h2 (t := t) (p := p) (τ := τ) (τ' := τ') ⟨by omega, hd16⟩, ?_⟩
      simp (config := {contextual := true, maxSteps := 2000000, implicitDefEqProofs := false}) [go_sem, stOf, putAll, gmap, Root.ren, AV.ren, AV.ren2, AV.ren1, AV.ren0]
      refine ⟨_, [1], Sub.refl 0 _, ?_⟩
      simp [retM, resAV, rvV, rinOf, Root.rnp, AV.rnp, AV.rnp2, AV.rnp1, AV.rnp0, posOf, go_sem, Rz, nz_int, nz_osl, nz_tup]
theorem avz_Load {n : Nat} : enLoad.av n = enLoad.av 0 := rfl
theorem sat_23z {n : Nat} (h2 : 2 ≤ n) {τ τ' : Nat} {t : Tree} {p : List (List Int)} (hp0 : τ ≠ 0) : SatM Try.prog n 23 [] [.agg [.sl τ 2 (t.devices.map (enDev.av τ)), .sl τ 3 (t.buckets.map (enBkt.av τ))], .sl τ' 1 (p.map ((En.int .i64).list.av τ'))] [.row 97 2 ((lsR t p).map (enLoad.av 0))] (.tup [.osl 0 2 0 (lsR t p).length, .int .i64 (cdR t p)]) := by
  have h := sat_23 h2 (t := t) (p := p) (τ := τ) (τ' := τ') hp0
  rw [avz_Load] at h
  exact h
/- spec.Loads -/
def c20 : SCode := (.seq (.reg [⟨(some 2), .box 36 (.tmp 0), none⟩,
   ⟨(some 4), .assign (.const (.slice none 0 0)), none⟩,
   ⟨(some 5), .assign (.const (.int .i64 0)), none⟩])
(.seq (.seq (.reg [⟨(some 6), .load 36 (.tmp 2), none⟩,
     ⟨(some 7), .call ⟨(.value (.func 58)), #[(.tmp 6)], #[36]⟩, none⟩,
     ⟨(some 8), .unOp .not 4 (.tmp 7), none⟩,
     ⟨(some 9), .move (.tmp 8), none⟩,
     ⟨(some 10), .move (.tmp 1), (some (9, false))⟩,
     ⟨(some 11), .call ⟨(.value (.func 59)), #[(.tmp 10)], #[53]⟩, (some (9, false))⟩,
     ⟨(some 12), .unOp .not 4 (.tmp 11), (some (9, false))⟩,
     ⟨(some 13), .pick (.tmp 9) (.const (.bool true)) (.tmp 12), none⟩])
  (.cond (.tmp 13) (.seq (.reg [⟨(some 14), .buildSlice 56 0 #[], none⟩,
       ⟨(some 4), .assign (.tmp 14), none⟩,
       ⟨(some 5), .assign (.const (.int .i64 1)), none⟩])
    .ret)
   .skip))
 (.seq (.reg [⟨(some 15), .load 36 (.tmp 2), none⟩,
     ⟨(some 16), .move (.tmp 1), none⟩,
     ⟨(some 17), .call ⟨(.value (.func 60)), #[(.tmp 15), (.tmp 16)], #[36, 53]⟩, none⟩,
     ⟨(some 4), .assign (.tmp 17), none⟩,
     ⟨(some 5), .assign (.const (.int .i64 0)), none⟩])
  .ret)))
theorem s20 : slimF Try.f20 = some (c20, [.t 4, .t 5], 18) := by kernel_rfl
theorem o20 : okF [(58, g58), (59, g59), (60, g60)] Try.f20 = true := by kernel_rfl
noncomputable def g20 : Fsem := sem2 enTree (En.int .i64).list.list (fun t p => True) (fun n t p => .tup [.sl n 2 ((lsR t p).map (enLoad.av n)), .int .i64 (cdR t p)])
@[go_sem] theorem g20_eq {n τ τ' : Nat} {t : Tree} {p : List (List Int)} : g20 n [.agg [.sl τ 2 (t.devices.map (enDev.av τ)), .sl τ 3 (t.buckets.map (enBkt.av τ))], .sl τ' 1 (p.map ((En.int .i64).list.av τ'))] = ⟨True, .tup [.sl n 2 ((lsR t p).map (enLoad.av n)), .int .i64 (cdR t p)]⟩ := sem2_eq  (E := enTree) (F := (En.int .i64).list.list)
theorem p20 : Pure Try.prog 20 g20 := by
  refine sem2_pure fun τ τ' t p n h2 hpre => ?_
  have hT : Table Try.prog [(58, g58), (59, g59), (60, g60)] := (.cons p58 (.cons p59 (.cons p60 .nil)))
  have hn0 : n ≠ 0 := by omega
  refine SatP.of_body hT hm Try.func20 s20 o20 h2 (by simp) ?_
  cases ht : treeOk t
  · simp (config := {contextual := true, maxSteps := 2000000, implicitDefEqProofs := false}) [c20, go_sem, ht, hn0, lsR, cdR, okTP]
  · cases hp : tblOk p
    · simp (config := {contextual := true, maxSteps := 2000000, implicitDefEqProofs := false}) [c20, go_sem, ht, hp, hn0, lsR, cdR, okTP]
    · have hd := (treeOk_parts ht).1
      simp (config := {contextual := true, maxSteps := 2000000, implicitDefEqProofs := false}) [c20, go_sem, ht, hp, hd, hn0, lsR, cdR, okTP]
end Go.Ve
