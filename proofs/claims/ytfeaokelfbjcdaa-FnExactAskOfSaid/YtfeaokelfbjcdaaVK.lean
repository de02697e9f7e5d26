/- Contracts of the seat: the kit's Clone, Sort, Compact at int64. No condition. -/
import Derived.Test.YtfeaokelfbjcdaaE32
import Derived.Test.YtfeaokelfbjcdaaV2
import Derived.Shelf.SlicesE.DeleteFunc
import Derived.Shelf.SlicesE.Compact
import Derived.Ground.SlgfProg
import Derived.Ground.SlgnProg
import Derived.Shelf.SortG.Plain
import Derived.Shelf.SortG.SortNone
import Derived.Sort.OwnSortedInts
import Derived.Lib.Walk
import Derived.Lib.SliceRun
import Derived.Shelf.RegionOpenPlain
namespace Go.Ve
open Go.Proofs Go.RowKit Go.Lib Go.Sort Go.Shelf
set_option linter.unusedVariables false
set_option linter.unusedSimpArgs false
set_option maxRecDepth 100000
set_option maxHeartbeats 4000000
theorem o93 : okF [] Try.f93 = true := by kernel_rfl
theorem clone_nil (n c : Nat) (w : World) : Calls Try.prog 93 #[.slice none n c] w fun e w' => e = .returned (.slice none 0 0) ∧ w' = w := by
  have q22 : ∀ (w : World) (a : Option Addr) (n c n' c' : Nat), (binOp .eql 22 (.slice a n c) (.slice none n' c')).run Try.prog w = .ok (.bool a.isNone) w := fun w a n c n' c' => Lib.run_eql_slice_nil w _ _ a n c n' c' Try.underlying22
  go_enter Try.func93, Try.ntmps93
  go_wp2
  go_ret
  exact ⟨rfl, rfl⟩
theorem clone_calls (a : Addr) (n c : Nat) (news : List Value) (w : World) (hl : news.length = n * 1) (hn : n ≤ maxLen) (hbig : n * 8 ≤ 140737488355328) (hc : ∀ (j : Nat) (u : Value), news[j]? = some u → w.cell? (a.add j) = some u) (h1 : ∀ u ∈ news, u.oneCell' = true) :
    Calls Try.prog 93 #[.slice (some a) n c] w fun e w' => ∃ v', e = .returned v' ∧ w'.ownsRow w.heap.size 2 1 v' n news ∧ Below w.heap.size w w' := by
  have q22 : ∀ (w : World) (a : Option Addr) (n c n' c' : Nat), (binOp .eql 22 (.slice a n c) (.slice none n' c')).run Try.prog w = .ok (.bool a.isNone) w := fun w a n c n' c' => Lib.run_eql_slice_nil w _ _ a n c n' c' Try.underlying22
  have u22 : ∀ w, Sem.run Try.prog (underlying 22) w = .ok (TypeDesc.slice 2) w := run_underlying Try.underlying22
  obtain ⟨i0, hi, hz0, hz1, hz2⟩ : ∃ i, Try.prog.info? 2 = some i ∧ i.zero = some (.int .i64 0) ∧ i.size = 1 ∧ i.bytes = 8 := ⟨_, rfl, rfl, rfl, rfl⟩
  have B : Aside (∀ (j : Nat) (u : Value), news[j]? = some u → w.cell? (a.add j) = some u) := hc
  clear hc
  go_enter Try.func93, Try.ntmps93
  go_wp2_with (at_builtin; refine wpList_append_own _ rfl _ _ 22 rfl w.heap.size 2 i0 (.int .i64 0) 1 8 Try.underlying22 hi hz0 hz1 hz2 rfl (by decide) _ _ _ rfl (World.ownsRow_made w #[] 0 (Nat.le_refl _) (Nat.zero_le _) (by simp)) a n c news rfl ?qc1 ?qc2 ?qc3 ?qc4 ?qc5 ?qc6 ?_)
  case qc1 => exact hl
  case qc2 =>
    intro j u hj
    exact Lib.cell?_alloc_some _ (B.out j u hj)
  case qc3 => exact h1
  case qc4 => rw [Nat.zero_add]; exact hn
  case qc5 => rw [Nat.zero_add]; exact hbig
  case qc6 => simp
  intro v' w1 hown hgrow hnil
  go_wp2
  go_ret
  refine ⟨v', rfl, by simpa using hown, ?_⟩
  exact ((Below.refl _ w).alloc (Nat.le_refl _) _).grown hgrow (by simp) (by intro k hk; simp [Value.ownBlock] at hk; omega)
theorem sat_clone {n τ : Nat} {l : List Int} (hl : l.length ≤ 1048576) : SatM Try.prog n 93 [] [.sl τ 1 (l.map (AV.int .i64))] [.row 2 1 (l.map (AV.int .i64))] (.osl 0 1 0 l.length) := by
  refine SatM.of_own (enters_of Try.func93 o93) fun W D β vs hlt hvl ha => ?_
  obtain ⟨v0, rfl⟩ : ∃ v0, vs = [v0] := by
    match vs, hvl with
    | [a], _ => exact ⟨a, rfl⟩
  obtain ⟨u0, e0, hu0⟩ := ha 0 _ rfl
  simp only [List.getElem?_cons_zero, Option.some.injEq] at e0
  subst e0
  have key : ∀ (a : Addr) (c : Nat) (xs : List Int), xs = l → (∀ (j : Nat) (u : Value), (l.map (Value.int .i64))[j]? = some u → W.cell? (a.add j) = some u) → Calls Try.prog 93 #[.slice (some a) l.length c] W fun e W' => ∃ v', e = .returned v' ∧ W'.ownsRow W.heap.size 2 1 v' l.length (l.map (Value.int .i64)) ∧ Below W.heap.size W W' := fun a c _ _ h =>
    clone_calls a l.length c (l.map (Value.int .i64)) W (by simp) (by unfold maxLen; omega) (by omega) h (fun u hu => by obtain ⟨z, _, rfl⟩ := List.mem_map.1 hu; rfl)
  cases hu0 with
  | data _ _ hd =>
  generalize hxs : l.map (AV.int .i64) = xs at hd
  cases hd with
  | sl0 B cap τ w =>
    obtain rfl : l = [] := by simpa using hxs
    cases B with
    | none =>
      refine (clone_nil 0 cap W).mono ?_
      rintro e W' ⟨rfl, rfl⟩
      exact ⟨_, rfl, ⟨rfl, .inl ⟨rfl, rfl⟩⟩, .refl _ _⟩
    | some a => exact key a cap [] rfl (fun j u h => by simp at h)
  | sl a cap τ w xs u hs hD hc hm hw hu hr =>
    subst hxs
    rw [List.length_map]
    refine key a cap l rfl fun j v hv => ?_
    rw [List.getElem?_map, Option.map_eq_some_iff] at hv
    obtain ⟨z, hz, rfl⟩ := hv
    have h1 := hu j (.int .i64 z) 0 (.int .i64 z) (by simp [hz]) rfl
    have h2 := hr j (.int .i64 z) 0 (.int .i64 z) (by simp [hz]) rfl
    generalize u j 0 = q at h1 h2
    cases h2
    obtain ⟨blk, off, spot⟩ := a
    simp only at hs
    subst hs
    rw [add_none]
    simpa using h1
shelf_lay_g SlLaysN.n53 Slgn 53 at Try 58 as sortLay
theorem o58 : okF [] Try.f58 = true := by kernel_rfl
theorem sat_sort {n : Nat} {l : List Int} (hl : l.length ≤ 1048576) : SatM Try.prog n 58 [.row 2 1 (l.map (AV.int .i64))] [.osl 0 1 0 l.length] [.row 2 1 ((l.mergeSort fun x y => decide (x ≤ y)).map (AV.int .i64))] (.tup []) := by
  have h := SatM.of_put (P := Try.prog) (f := 58) (n := n) (t := 2) (l := l) (arr := l.mergeSort fun x y => decide (x ≤ y)) (rest := []) (k := none) (enters_of Try.func58 o58) (by simp) (Nat.le_refl _) (fun x hx => by cases hx) ?_ ?_
  · have e : (l.mergeSort fun x y => decide (x ≤ y)).take l.length = l.mergeSort fun x y => decide (x ≤ y) := List.take_of_length_le (by simp)
    simp only [cutN, cutA, e] at h
    exact h
  · intro W D β vs g cap cur hvl _ _ _ hh ht hlc hcap hsz
    obtain rfl : vs = [] := List.length_eq_zero_iff.1 hvl
    have hcon := AnyG.slices_Sort_int sortLay g 0 cap l W (holds_of_blockI hh ht) (Array.getElem?_eq_some_iff.1 hh).1 (by omega)
    exact hcon
  · intro W D β vs hl0 hvl _ _
    subst hl0
    obtain rfl : vs = [] := List.length_eq_zero_iff.1 hvl
    have hcon := AnyG.slices_Sort_int_none sortLay none 0 W
    refine Calls.mono hcon ?_
    rintro e W' ⟨rfl, rfl⟩
    exact ⟨rfl, .refl _ _⟩
shelf_lay_g SlLaysE.n43 Slgn 43 at Try 59 as cmpLay
theorem o59 : okF [] Try.f59 = true := by kernel_rfl
theorem compact_nil (w : World) : Calls Try.prog 59 #[.slice none 0 0] w fun e w' => e = .returned (.slice none 0 0) ∧ w' = w := by
  go_enter Try.func59, Try.ntmps59
  go_wp2
  go_ret
  exact ⟨rfl, rfl⟩
theorem sat_compact {n : Nat} {l : List Int} (hl : l.length ≤ 1048576) : SatM Try.prog n 59 [.row 2 1 (l.map (AV.int .i64))] [.osl 0 1 0 l.length] [.row 2 1 ((Lib.compact l).map (AV.int .i64))] (.osl 0 1 0 (Lib.compact l).length) := by
  have hcl : (Lib.compact l).length ≤ l.length := by
    unfold Lib.compact Lib.compactUpTo
    have := List.length_filter_le (Lib.keeps l.toArray) (List.range l.length)
    simpa using this
  have hsz : (Lib.compact l ++ List.replicate (l.length - (Lib.compact l).length) (0 : Int)).length = l.length := by simp; omega
  have h := SatM.of_put (P := Try.prog) (f := 59) (n := n) (t := 2) (l := l) (arr := Lib.compact l ++ List.replicate (l.length - (Lib.compact l).length) (0 : Int)) (rest := []) (k := some (Lib.compact l).length) (enters_of Try.func59 o59) hsz hcl (fun x hx => by cases hx) ?_ ?_
  · have e : ((Lib.compact l ++ List.replicate (l.length - (Lib.compact l).length) (0 : Int)).take (Lib.compact l).length) = Lib.compact l := by simp
    simp only [cutN, cutA, e] at h
    exact h
  · intro W D β vs g cap cur hvl _ _ _ hh ht hlc hcap hsz2
    obtain rfl : vs = [] := List.length_eq_zero_iff.1 hvl
    have hcon := AnyE.slices_Compact cmpLay (Value.int .i64) (fun _ => rfl) (EqlAt.intD _ _ _) (NeqAt.intD _ _ _) 0 Try.zeroValue2 g 0 cap l.toArray W (holds_of_blockI hh ht) (by simp; omega) (by simpa using hlc)
    refine Calls.mono hcon ?_
    rintro e W' ⟨rfl, q, rfl⟩
    refine ⟨by simp [cutV, Lib.compact], q, #[], ?_⟩
    rw [Go.Sort.grow_empty]
    simp [Lib.compact]
  · intro W D β vs hl0 hvl _ _
    subst hl0
    obtain rfl : vs = [] := List.length_eq_zero_iff.1 hvl
    refine Calls.mono (compact_nil W) ?_
    rintro e W' ⟨rfl, rfl⟩
    exact ⟨rfl, .refl _ _⟩
end Go.Ve
