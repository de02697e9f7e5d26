/- Contracts of the seat: loads. No condition. -/
import Derived.Test.YtidfijaobkaalaaV15c
namespace Go.Ve
open Go.Proofs Go.RowKit
set_option linter.unusedVariables false
set_option linter.unusedSimpArgs false
set_option maxRecDepth 10000
set_option maxHeartbeats 4000000
def IsL (p : List (List Int)) (pre : List Dev) (acc : List Load) : Prop := acc = pre.map (ldOf p)
theorem isL_nil {p : List (List Int)} : IsL p [] [] := rfl
theorem isL_one {p : List (List Int)} {pre : List Dev} {acc : List Load} {x : Dev} (h : IsL p pre acc) : IsL p (pre ++ [x]) (acc ++ [⟨x.id, cnt x.id (flatL p)⟩]) := by
  unfold IsL at h ⊢
  rw [h]
  simp [ldOf]
def okTP (t : Tree) (p : List (List Int)) : Bool := treeOk t && tblOk p
def spR (t : Tree) (p : List (List Int)) : Int := if okTP t p = true then spreadM (utils p t.devices) else 0
def cdR (t : Tree) (p : List (List Int)) : Int := if okTP t p = true then 0 else 1

/- spec.Spread -/
def c31 : SCode := (.seq (.reg [⟨(some 2), .box 36 (.tmp 0), none⟩,
   ⟨(some 4), .assign (.const (.int .i64 0)), none⟩,
   ⟨(some 5), .assign (.const (.int .i64 0)), none⟩])
(.seq (.seq (.reg [⟨(some 6), .load 36 (.tmp 2), none⟩,
     ⟨(some 7), .call ⟨(.value (.func 58)), #[(.tmp 6)], #[36]⟩, none⟩,
     ⟨(some 8), .unOp .not 4 (.tmp 7), none⟩,
     ⟨(some 9), .move (.tmp 8), none⟩,
     ⟨(some 10), .move (.tmp 1), (some (9, false))⟩,
     ⟨(some 11), .call ⟨(.value (.func 59)), #[(.tmp 10)], #[53]⟩, (some (9, false))⟩,
     ⟨(some 12), .unOp .not 4 (.tmp 11), (some (9, false))⟩,
     ⟨(some 13), .pick (.tmp 9) (.const (.bool true)) (.tmp 12), none⟩])
  (.cond (.tmp 13) (.seq (.reg [⟨(some 4), .assign (.const (.int .i64 0)), none⟩,
       ⟨(some 5), .assign (.const (.int .i64 1)), none⟩])
    .ret)
   .skip))
 (.seq (.draw [⟨(some 14), .load 36 (.tmp 2), none⟩,
     ⟨(some 15), .load 36 (.tmp 2), none⟩,
     ⟨(some 16), .move (.tmp 1), none⟩,
     ⟨(some 17), .call ⟨(.value (.func 60)), #[(.tmp 15), (.tmp 16)], #[36, 53]⟩, none⟩,
     ⟨(some 18), .call ⟨(.value (.func 71)), #[(.tmp 14), (.tmp 17)], #[36, 56]⟩, none⟩,
     ⟨(some 4), .assign (.tmp 18), none⟩,
     ⟨(some 5), .assign (.const (.int .i64 0)), none⟩] [[], [], [], [1, 2], [0, 1, 2, 3], [0, 1, 2, 3, 4], [0, 1, 2, 3, 4, 5]])
  .ret)))
theorem s31 : slimF Try.f31 = some (c31, [.t 4, .t 5], 19) := by kernel_rfl
theorem o31 : okF [(58, g58), (59, g59), (60, g60), (71, g71)] Try.f31 = true := by kernel_rfl
noncomputable def g31 : Fsem := sem2 enTree (En.int .i64).list.list (fun t p => True) (fun n t p => .tup [.int .i64 (spR t p), .int .i64 (cdR t p)])
@[go_sem] theorem g31_eq {n τ τ' : Nat} {t : Tree} {p : List (List Int)} : g31 n [.agg [.sl τ 2 (t.devices.map (enDev.av τ)), .sl τ 3 (t.buckets.map (enBkt.av τ))], .sl τ' 1 (p.map ((En.int .i64).list.av τ'))] = ⟨True, .tup [.int .i64 (spR t p), .int .i64 (cdR t p)]⟩ := sem2_eq  (E := enTree) (F := (En.int .i64).list.list)
theorem p31 : Pure Try.prog 31 g31 := by
  refine sem2_pure fun τ τ' t p n h2 hpre => ?_
  have hT : Table Try.prog [(58, g58), (59, g59), (60, g60), (71, g71)] := (.cons p58 (.cons p59 (.cons p60 (.cons p71 .nil))))
  have hn0 : n ≠ 0 := by omega
  refine SatP.of_body hT hm Try.func31 s31 o31 h2 (by simp) ?_
  cases ht : treeOk t
  · simp (config := {contextual := true, maxSteps := 2000000, implicitDefEqProofs := false}) [c31, go_sem, ht, spR, cdR, okTP]
  · cases hp : tblOk p
    · simp (config := {contextual := true, maxSteps := 2000000, implicitDefEqProofs := false}) [c31, go_sem, ht, hp, spR, cdR, okTP]
    · have hd := (treeOk_parts ht).1
      have hex : ∃ q, tblOk q = true ∧ loadsOf t p = loadsOf t q ∧ devsOk t = true := ⟨p, hp, rfl, hd⟩
      have hex2 : ∃ q, tblOk q = true ∧ loadsOf t p = loadsOf t q := ⟨p, hp, rfl⟩
      have he : spreadL (utilsL t.devices (loadsOf t p)) = spreadM (utils p t.devices) := by
        rw [loadsOf, utilsL_eq]
        exact spread_eq fun x hx => (utils_bnd (p := p) (by have := tbl_1000 hp; omega) (fun d hd' => ((devs_parts hd).2 d hd').1) x hx).1
      simp (config := {contextual := true, maxSteps := 2000000, implicitDefEqProofs := false}) [c31, go_sem, ht, hp, hd, hex, hex2, he, spR, cdR, okTP]
/- (impl.Tree).loads -/
def c64 : SCode := (.seq (.reg [⟨(some 2), .box 36 (.tmp 0), none⟩,
   ⟨(some 4), .assign (.const (.slice none 0 0)), none⟩])
(.seq (.reg [⟨(some 5), .assign (.const (.slice none 0 0)), none⟩])
 (.seq (.seq (.reg [⟨(some 11), .fieldAddr 36 (.tmp 2) 0, none⟩,
      ⟨(some 12), .load 33 (.tmp 11), none⟩,
      ⟨(some 13), .call ⟨(.builtin .len), #[(.tmp 12)], #[33]⟩, none⟩,
      ⟨(some 14), .move (.const (.int .i64 0)), none⟩])
   (.block 0 (.loop (.seq (.reg [⟨(some 15), .binOp .lss 3 (.tmp 14) (.tmp 13) 3, none⟩])
      (.seq (.cond (.tmp 15) .skip
        (.exit 0))
       (.seq (.block 1 (.seq (.reg [⟨(some 16), .indexAddr 33 (.tmp 12) (.tmp 14), none⟩,
             ⟨(some 17), .load 125 (.tmp 16), none⟩,
             ⟨(some 7), .alloc 125, none⟩,
             ⟨none, .store 125 (.tmp 7) (.tmp 17), none⟩])
          (.seq (.reg [⟨(some 8), .assign (.const (.int .i64 0)), none⟩])
           (.seq (.seq (.reg [⟨(some 18), .move (.tmp 1), none⟩,
                ⟨(some 19), .call ⟨(.value (.func 109)), #[(.tmp 18)], #[53]⟩, none⟩,
                ⟨(some 20), .call ⟨(.builtin .len), #[(.tmp 19)], #[28]⟩, none⟩,
                ⟨(some 21), .move (.const (.int .i64 0)), none⟩])
             (.block 2 (.loop (.seq (.reg [⟨(some 22), .binOp .lss 3 (.tmp 21) (.tmp 20) 3, none⟩])
                (.seq (.cond (.tmp 22) .skip
                  (.exit 2))
                 (.seq (.block 3 (.seq (.reg [⟨(some 23), .indexAddr 28 (.tmp 19) (.tmp 21), none⟩,
                       ⟨(some 24), .load 2 (.tmp 23), none⟩,
                       ⟨(some 10), .assign (.tmp 24), none⟩])
                    (.seq (.reg [⟨(some 25), .move (.tmp 10), none⟩,
                        ⟨(some 26), .fieldAddr 125 (.tmp 7) 0, none⟩,
                        ⟨(some 27), .load 2 (.tmp 26), none⟩,
                        ⟨(some 28), .binOp .eql 2 (.tmp 25) (.tmp 27) 2, none⟩])
                     (.cond (.tmp 28) (.reg [⟨(some 29), .move (.tmp 8), none⟩,
                         ⟨(some 30), .binOp .add 2 (.tmp 29) (.const (.int .i64 1)) 2, none⟩,
                         ⟨(some 8), .assign (.tmp 30), none⟩])
                      .skip))))
                  (.reg [⟨(some 31), .binOp .add 3 (.tmp 21) (.const (.int .i64 1)) 3, none⟩,
                     ⟨(some 21), .move (.tmp 31), none⟩])))))))
            (.reg [⟨(some 32), .move (.tmp 5), none⟩,
               ⟨(some 33), .fieldAddr 125 (.tmp 7) 0, none⟩,
               ⟨(some 34), .load 2 (.tmp 33), none⟩,
               ⟨(some 35), .move (.tmp 8), none⟩,
               ⟨(some 36), .build 97 #[(0, (.tmp 34)), (1, (.tmp 35))], none⟩,
               ⟨(some 37), .buildSlice 56 1 #[(0, (.tmp 36))], none⟩,
               ⟨(some 38), .call ⟨(.builtin .append), #[(.tmp 32), (.tmp 37)], #[56, 56]⟩, none⟩,
               ⟨(some 5), .assign (.tmp 38), none⟩])))))
        (.reg [⟨(some 39), .binOp .add 3 (.tmp 14) (.const (.int .i64 1)) 3, none⟩,
           ⟨(some 14), .move (.tmp 39), none⟩])))))))
  (.seq (.reg [⟨(some 40), .move (.tmp 5), none⟩,
      ⟨(some 4), .assign (.tmp 40), none⟩])
   .ret))))
theorem s64 : slimF Try.f64 = some (c64, [.t 4], 41) := by kernel_rfl
theorem o64 : okF [(109, g109)] Try.f64 = true := by kernel_rfl
noncomputable def g64 : Fsem := sem2 enTree (En.int .i64).list.list (fun t p => (flatL p).length ≤ 1048576 ∧ t.devices.length ≤ 16) (fun n t p => .sl n 2 ((loadsOf t p).map (enLoad.av n)))
@[go_sem] theorem g64_eq {n τ τ' : Nat} {t : Tree} {p : List (List Int)} : g64 n [.agg [.sl τ 2 (t.devices.map (enDev.av τ)), .sl τ 3 (t.buckets.map (enBkt.av τ))], .sl τ' 1 (p.map ((En.int .i64).list.av τ'))] = ⟨(flatL p).length ≤ 1048576 ∧ t.devices.length ≤ 16, .sl n 2 ((loadsOf t p).map (enLoad.av n))⟩ := sem2_eq  (E := enTree) (F := (En.int .i64).list.list)
theorem p64 : Pure Try.prog 64 g64 := by
  refine sem2_pure fun τ τ' t p n h2 hpre => ?_
  have hT : Table Try.prog [(109, g109)] := (.cons p109 .nil)
  have hn0 : n ≠ 0 := by omega
  refine SatP.of_body hT hm Try.func64 s64 o64 h2 (by simp) ?_
  have hl20 : (flatL p).length ≤ 1048576 := hpre.1
  have hd16 : t.devices.length ≤ 16 := hpre.2
  simp (config := {contextual := true, maxSteps := 2000000, implicitDefEqProofs := false}) [c64, go_sem]
  intro hL
  refine VW_listKE [(5, 97, 2)] [5] hT h2 hm t.devices [1, 12, 13] (fun pre post (acc : List Load) => [.row 97 2 (acc.map (enLoad.av n))]) (fun pre post (acc : List Load) => [(14, .int .i64 pre.length), (5, .osl 0 2 0 acc.length)]) (fun pre post (acc : List Load) => IsL p pre acc) [] ?_ ?_ ?_ ?_
  · exact isL_nil
  · simp [SubE, SubR, go_sem, vivs, vivT]
  · rintro acc hR
    unfold IsL at hR
    subst hR
    simp (config := {contextual := true, maxSteps := 2000000, implicitDefEqProofs := false}) [go_sem, hn0, loadsOf]
  · rintro pre x rest acc hl hlen hR
    have hln : t.devices.length = pre.length + (rest.length + 1) := by rw [← hl]; simp
    have hn : nth (List.map (enDev.av τ) t.devices) (pre.length) = (enDev.av τ) x := by rw [← hl]; simp [go_sem]
    have hw : t.devices.length ≤ maxLen → IntKind.i64.wrap ((pre.length : Int) + 1) = (pre.length : Int) + 1 := fun h => wrap_ok (by omega) (by simp only [maxLen] at h; omega)
    have h3 : (0 : Int) ≤ (pre.length : Int) := by omega
    have h4 : (pre.length : Int) < (t.devices.length : Int) := by omega
    have h5 : ¬ (t.devices.length : Int) ≤ (pre.length : Int) := by omega
    have hal : acc.length = pre.length := by unfold IsL at hR; rw [hR]; simp
    have ha16 : acc.length + 1 ≤ 16 := by omega
    simp (config := {contextual := true, maxSteps := 2000000, implicitDefEqProofs := false}) [go_sem, hn, hw, h3, h4, h5, hl20]
    intro hL2
    refine VW_listKE [] [5, 7] hT h2 hm (flatL p) [1, 5, 7, 12, 13, 14, 19, 20] (fun pre post (b : Int) => [.row 97 2 (acc.map (enLoad.av n)), .box 125 [.int .i64 x.id, .int .i64 x.weight]]) (fun pre post (b : Int) => [(21, .int .i64 pre.length), (8, .int .i64 b)]) (fun pre post (b : Int) => b + cnt x.id post = cnt x.id (flatL p) ∧ 0 ≤ b ∧ b ≤ (pre.length : Int)) 0 ?_ ?_ ?_ ?_
    · exact ⟨by omega, by omega, by simp⟩
    · simp [SubE, SubR, go_sem]
    · rintro b ⟨hS, hS2, hS3⟩
      simp only [cnt, Int.add_zero] at hS
      simp (config := {contextual := true, maxSteps := 2000000, implicitDefEqProofs := false}) [go_sem, hw, hL, SubE, SubR, vivs, vivT, hS]
      exact ⟨by omega, acc ++ [⟨x.id, cnt x.id (flatL p)⟩], isL_one hR, by simp [go_sem], by simp⟩
    · rintro pre' y post' b hl' hlen' ⟨hS, hS2, hS3⟩
      have hln' : (flatL p).length = pre'.length + (post'.length + 1) := by rw [← hl']; simp
      have hn' : nth (List.map (AV.int .i64) (flatL p)) (pre'.length) = (AV.int .i64) y := by rw [← hl']; simp [go_sem]
      have hw' : (flatL p).length ≤ maxLen → IntKind.i64.wrap ((pre'.length : Int) + 1) = (pre'.length : Int) + 1 := fun h => wrap_ok (by omega) (by simp only [maxLen] at h; omega)
      have h3' : (0 : Int) ≤ (pre'.length : Int) := by omega
      have h4' : (pre'.length : Int) < ((flatL p).length : Int) := by omega
      have h5' : ¬ ((flatL p).length : Int) ≤ (pre'.length : Int) := by omega
      have hwb : IntKind.i64.wrap (b + 1) = b + 1 := wrap_ok (by omega) (by omega)
      simp only [cnt] at hS
      simp (config := {contextual := true, maxSteps := 2000000, implicitDefEqProofs := false}) [go_sem, hn', hw', h3', h4', h5', hwb, hL2, SubE, SubR]
      exact ⟨fun h => ⟨by rw [if_pos h] at hS; omega, by omega, by omega⟩, fun h => ⟨by rw [if_neg h] at hS; omega, hS2, by omega⟩⟩
end Go.Ve
