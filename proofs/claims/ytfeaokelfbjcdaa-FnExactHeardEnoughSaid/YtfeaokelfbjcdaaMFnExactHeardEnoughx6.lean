-- Written by a program of this session (wip/tools/myprint.py) over the kit's print: it is not the kit's print.
import Derived.Test.YtfeaokelfbjcdaaExtra
import Derived.Ground.SlgnProg
import Derived.Shelf.SortG.SortNone
import Derived.Shelf.SortG.Plain
import Derived.Sort.OwnSortedInts
import Derived.Ground.SlgfProg
import Derived.Shelf.SlicesE.DeleteFunc
import Derived.Test.YtfeaokelfbjcdaaMFnExactHeardEnoughx0
import Derived.Test.YtfeaokelfbjcdaaMFnExactHeardEnoughx4
import Derived.Test.YtfeaokelfbjcdaaMFnExactHeardEnoughx5
namespace Go.Proofs.Ytfeaokelfbjcdaa.MFnExactHeardEnough
open Go.RowKit Go.Proofs.YtfeaokelfbjcdaaW.PrintWords Go.Proofs.YtfeaokelfbjcdaaW.PrintLast Go.Proofs.YtfeaokelfbjcdaaW.PrintMore
attribute [local go_sem] max2_int min2_int max_two min_two max_three min_three max_four min_four   -- for this text's walks alone
set_option linter.unusedVariables false
set_option linter.unusedSimpArgs false

/-! ### impl_removed: function 77 -/
open Go.Shelf Go.Lib Go.Sort in
shelf_lay_g SlLaysH.n10 Slgf 10 at Try 83 as impl_removed_lay
set_option maxHeartbeats 2000000 in
/-- slices.IndexFunc over whole numbers, with the function 94 (captured: the number). -/
theorem impl_removed.index (b1 : Addr) (p : Int → Bool) (A0 : Option Addr) (c0 : Nat) (l0 : List Int) (w : World) (hr0 : Kd.C (Kd.int .i64) w A0 l0.length l0)
    (hp : ∀ (W : World) (x : Int), Below w.heap.size w W → Calls Try.prog 94 #[.int .i64 x, .pointer (some b1)] W fun e w' => e = .returned (.bool (p x)) ∧ Below w.heap.size w w') :
    Calls Try.prog 75 #[.slice A0 l0.length c0, .func (.func 94) #[] #[.pointer (some b1)]] w fun e w' => e = .returned (.int .i64 (idxP p l0 0)) ∧ Below w.heap.size w w' := by
  have HR0 := Aside0.mk hr0
  have HP := Aside0.mk hp
  have hm : l0.length ≤ 9223372036854775807 := hr0.2.1
  clear hr0 hp
  go_enter Try.func75, Try.ntmps75
  go_wp2
  go_loopg [5, 8] l0.length (fun gg _ s8 wr => ∃ kk : Nat, kk ≤ l0.length ∧ l0.length - kk ≤ gg ∧ s8 = .int .i64 kk ∧ Aside0 (Below w.heap.size w wr) ∧ Aside0 (idxP p l0 0 = idxP p (l0.drop kk) kk))
  case atStart => exact ⟨0, Nat.zero_le _, by omega, rfl, ⟨Below.refl _ w⟩, ⟨rfl⟩⟩
  case round =>
    obtain ⟨kk, hkk, hg, rfl, BW, AI⟩ := hrel
    by_cases hlt : kk < l0.length
    · have hltz : (kk : Int) < (l0.length : Int) := by omega
      obtain ⟨ad, e, hx⟩ := Kd.at_int HR0.out (kk : Int) (by omega) hltz
      cases e
      rw [Int.toNat_natCast] at hx
      replace hx := (BW.out.cell (World.block_lt_of_cell? w _ hx)).trans hx
      have hcall := HP.out wr (rd l0 (kk : Int)) BW.out
      have HD := Aside0.mk (idxP_drop p l0 kk hlt)
      have HE := Aside0.mk (rd_at0 hlt)
      generalize rd l0 (kk : Int) = y at hx hcall HE
      cases hq : p y with
      | true =>
        rw [hq] at hcall
        have HQ := Aside0.mk hq
        clear hq
        go_wp2_with (go_at_call 94; refine hcall.mono ?_; rintro e w' ⟨rfl, hb'⟩)
        go_ret
        refine ⟨?_, hb'⟩
        rw [AI.out, HD.out, ← HE.out, if_pos HQ.out]
        rfl
      | false =>
        rw [hq] at hcall
        have HQ := Aside0.mk hq
        clear hq
        go_wp2_with (go_at_call 94; refine hcall.mono ?_; rintro e w' ⟨rfl, hb'⟩)
        go_roundg (l0.length - (kk + 1))
        case measure => omega
        case rel => exact ⟨kk + 1, by omega, by omega, by go_num, ⟨hb'⟩, ⟨by rw [AI.out, HD.out, ← HE.out, HQ.out]; rfl⟩⟩
    · have hltz : ¬ (kk : Int) < (l0.length : Int) := by omega
      go_wp2
      go_ret
      refine ⟨?_, BW.out⟩
      rw [AI.out, List.drop_of_length_le (by omega)]
      rfl
def impl_removed.f (l0 : List Int) (a1 : Int) : Option (List Int) := if l0.length < 17592186044416 then some (l0.filter fun x => !decide (x = a1)) else none
theorem impl_removed.gives (n x : Int) (b : Addr) (W : World) (hc : W.cell? b = some (.int .i64 n)) :
    FnGives Try.prog 94 #[.pointer (some b)] #[.int .i64 x] (.bool (decide (x = n))) W := by
  show Calls Try.prog 94 #[.int .i64 x, .pointer (some b)] W _
  go_enter Try.func94, Try.ntmps94
  go_wp2
  all_goals (go_ret; exact ⟨by rw [show (decide (x = n)) = (x == n) from by simp [BEq.beq]]; first | rfl | simp_all, 0, rfl⟩)
set_option maxHeartbeats 2000000 in
theorem impl_removed.delNil (a1 : Int) (b : Addr) (w : World) (hc : w.cell? b = some (.int .i64 a1)) :
    Calls Try.prog 83 #[.slice none 0 0, .func (.func 94) #[] #[.pointer (some b)]] w fun e w' => e = .returned (.slice none 0 0) ∧ Below w.heap.size w w' := by
  have HI := impl_removed.index b (fun x => decide (x = a1)) none 0 [] w (Kd.C_nil _ _) (fun W x hb => by
    have hg := impl_removed.gives a1 x b W ((hb.cell (World.block_lt_of_cell? w _ hc)).trans hc)
    exact Calls.mono hg fun e w' ⟨he, q, hw⟩ => ⟨he, hw ▸ below_drewN' hb q⟩)
  replace HI : Calls Try.prog 75 #[.slice none 0 0, .func (.func 94) #[] #[.pointer (some b)]] w fun e w' => e = .returned (.int .i64 (-1)) ∧ Below w.heap.size w w' := HI
  clear hc
  go_enter Try.func83, Try.ntmps83
  go_wp2_with (go_at_call 75; refine HI.mono ?_; rintro e w' ⟨rfl, hb⟩)
  go_ret
  exact ⟨rfl, hb⟩
theorem impl_removed.row {w : World} {base g cap q : Nat} {e : TypeId} {cur : Array Value} {n : Nat} {ss ts : List Int} (hl : (ts ++ ss).length = n) (hbase : base ≤ g) (hb : w.heap[g]? = some (.cells cur e (0, 0)))
    (h1 : n ≤ cap) (h2 : cap ≤ maxLen) (h3 : cur.size = cap * 1) :
    (Go.Sort.putRow (Value.int .i64) (Go.Sort.ahead w q) g 0 (ts ++ ss).toArray).ownsRow base e 1 (.slice (some ⟨g, 0, none⟩) ts.length cap) ts.length (encs (Value.int .i64) ts) := by
  have hh := heap_sortedI (n := q) (os := #[]) (ts ++ ss).toArray hb
  rw [Go.Sort.grow_empty] at hh
  refine ⟨by simp [encs], .inr ⟨g, cap, _, rfl, hbase, hh, by simp at hl; omega, h2, by simp [Go.Sort.putCells, h3], ?_⟩⟩
  have ht := take_putCellsI cur (ts ++ ss) (by omega)
  have ht2 := congrArg (List.take ts.length) ht
  rw [List.take_take, Nat.min_eq_left (by simp), List.map_append, List.take_append_of_le_length (by simp), show List.take ts.length (List.map (Value.int .i64) ts) = List.map (Value.int .i64) ts from List.take_of_length_le (by simp)] at ht2
  rw [Nat.mul_one]
  exact ht2
theorem impl_removed.del (a1 : Int) (b : Addr) (l0 : List Int) (v : Value) (base : Nat) (w2 : World) (hB : b.block < base) (hbs : base ≤ w2.heap.size) (hcell : w2.cell? b = some (.int .i64 a1)) (hR : Kd.R (Kd.int .i64) 2 w2 base (fun _ => True) v l0) :
    Calls Try.prog 83 #[v, .func (.func 94) #[] #[.pointer (some b)]] w2 fun e w3 => ∃ v3 : Value, e = .returned v3 ∧ Kd.R (Kd.int .i64) 2 w3 base (fun _ => True) v3 (l0.filter fun x => !decide (x = a1)) ∧ Below base w2 w3 := by
  have hown := Kd.own_of_R hR
  have hbl := World.block_lt_of_cell? w2 _ hcell
  rcases hown.2 with ⟨rfl, hx⟩ | ⟨g, cap, cur, rfl, hbase, hb, h1, h2, h3, h4⟩
  · have hz : l0 = [] := by
      obtain ⟨A, c, he, _⟩ := Kd.R_reads hR
      injection he with _ hn
      exact List.length_eq_zero_iff.1 hn.symm
    subst hz
    refine (impl_removed.delNil a1 b w2 hcell).mono fun e w3 ⟨he, hb⟩ => ⟨_, he, Kd.R_nil _ _ _ _ _, hb.mono hbs⟩
  · have eg : ∀ args w, (callFunc 94 args).run Try.prog w = .ok (.enter 94 args) w := enters_of Try.func94 (by kernel_rfl) rfl
    have hgs : g < w2.heap.size := (Array.getElem?_eq_some_iff.1 hb).1
    have hH : Go.Sort.Holds (Value.int .i64) w2 g 0 l0.toArray := holds_of_blockI hb (by simpa [encs] using h4)
    have hcon := AnyE.slices_DeleteFunc impl_removed_lay (Value.int .i64) (fun _ => rfl) (fun x => decide (x = a1)) 94 #[.pointer (some b)] eg 0 Try.zeroValue2 g 0 cap l0.toArray w2
      (fun W x hb' => impl_removed.gives a1 x b W ((hb'.cell hbl).trans hcell))
      (fun n os dk x _ => impl_removed.gives a1 x b _ (by
        unfold sortWorld
        rw [Go.Sort.cell?_grow _ _ _ (by show b.block < (Go.Sort.putRow _ _ _ _ _).heap.size; rw [Go.Sort.size_putRow]; exact hbl), Go.Sort.cell?_putRow_other _ _ g 0 _ _ (Or.inl (by omega))]
        exact hcell)) hH (by simp; have : maxLen ≤ 9223372036854775807 := by unfold maxLen; omega
                             omega) (by simpa using h1)
    change Calls Try.prog 83 _ _ _ at hcon
    refine hcon.mono ?_
    rintro e w3 ⟨rfl, q, rfl⟩
    have hfl : (l0.filter fun x => !decide (x = a1)).length ≤ l0.length := List.length_filter_le _ _
    refine ⟨_, rfl, Kd.R_of_own ?_ (fun _ _ => trivial), ?_⟩
    · exact impl_removed.row (n := l0.length) (by simp; omega) hbase hb h1 h2 h3
    · have hg := grownBy_sortedI (w := w2) (g := g) (n := q) (os := #[]) ((l0.filter fun x => !decide (x = a1)) ++ List.replicate (l0.toArray.size - (l0.filter fun x => !decide (x = a1)).length) 0).toArray
      rw [Go.Sort.grow_empty] at hg
      exact Below.grown (Below.refl _ _) hg hbs (by intro k hk; cases hk; exact hbase)
set_option maxHeartbeats 2000000 in
theorem impl_removed.calls (A0 : Option Addr) (c0 : Nat) (l0 : List Int) (a1 : Int) (r : List Int) (w : World) (hr0 : Kd.C (Kd.int .i64) w A0 l0.length l0) (hc0 : l0.length ≤ c0) (h : impl_removed.f l0 a1 = some r) :
    Calls Try.prog 77 #[.slice A0 l0.length c0, .int .i64 a1] w fun e w' => ∃ v0_ : Value, e = .returned (v0_) ∧ Kd.R (Kd.int .i64) 2 w' w.heap.size (fun _ => True) v0_ r ∧ Below w.heap.size w w' := by
  have c2 : l0.length < 17592186044416 := by
    by_cases c2 : l0.length < 17592186044416
    · exact c2
    · rw [impl_removed.f, if_neg c2] at h; exact absurd h (by simp)
  rw [impl_removed.f, if_pos c2] at h
  obtain rfl := Option.some.inj h
  clear h
  have hB : Below w.heap.size w (w.alloc (.cells #[.int .i64 a1] 2)) := (Below.refl _ _).alloc (Nat.le_refl _) _
  have hsz : (w.alloc (.cells #[.int .i64 a1] 2)).heap.size = w.heap.size + 1 := by simp
  have HC := slices_Clone_int64_int64.calls A0 c0 l0 l0 (w.alloc (.cells #[.int .i64 a1] 2)) (Kd.C_below hr0 hB) hc0 (by rw [slices_Clone_int64_int64.f, if_pos c2])
  have HD : ∀ (v : Value) (w2 : World), Kd.R (Kd.int .i64) 2 w2 (w.alloc (.cells #[.int .i64 a1] 2)).heap.size (fun _ => True) v l0 → Below (w.alloc (.cells #[.int .i64 a1] 2)).heap.size (w.alloc (.cells #[.int .i64 a1] 2)) w2 →
      Calls Try.prog 83 #[v, .func (.func 94) #[] #[.pointer (some ⟨w.heap.size, 0, none⟩)]] w2 fun e w3 => ∃ v3 : Value, e = .returned v3 ∧ Kd.R (Kd.int .i64) 2 w3 w.heap.size (fun _ => True) v3 (l0.filter fun x => !decide (x = a1)) ∧ Below w.heap.size w w3 := by
    intro v w2 hR hb
    have hs2 := hb.size
    refine (impl_removed.del a1 ⟨w.heap.size, 0, none⟩ l0 v _ w2 (by rw [hsz]; exact Nat.lt_succ_self _) hs2 (by rw [hb.cell (by rw [hsz]; exact Nat.lt_succ_self _)]; simp) hR).mono ?_
    rintro e w3 ⟨v3, rfl, h3, hb3⟩
    exact ⟨v3, rfl, Kd.R_lower h3 hB.size, hB.trans ((hb.trans hb3).mono hB.size)⟩
  generalize (l0.filter fun x => !decide (x = a1)) = rr at HD ⊢
  have AD := Aside0.mk HD
  clear HD hB hsz hr0 hc0
  go_enter Try.func77, Try.ntmps77
  go_wp2_with (first | (go_at_call 93; refine HC.mono ?_; rintro e w2 ⟨v, rfl, hR, hb⟩; have HQ := Aside0.mk (AD.out v w2 hR hb); clear hR hb) | (go_at_call 83; refine HQ.out.mono ?_; rintro e w3 ⟨v3, rfl, hR, hb⟩; have HR := Aside0.mk hR; have HB := Aside0.mk hb; clear hR hb))
  go_ret
  exact ⟨_, rfl, HR.out, HB.out⟩

/-! ### impl_members: function 54 -/
open Go.Shelf Go.Lib Go.Sort in
shelf_lay_g SlLaysN.n53 Slgn 53 at Try 58 as impl_members_lay
def impl_members.f (l0 : List Int) : Option (List Int) := (impl_removed.f l0 (-1)).map fun l => l.mergeSort fun x y => decide (x ≤ y)
theorem impl_members.sort (l0 : List Int) (v : Value) (base : Nat) (w2 : World) (hs0 : l0.length < 4611686018427387904) (hbs : base ≤ w2.heap.size) (hR : Kd.R (Kd.int .i64) 2 w2 base (fun _ => True) v l0) :
    Calls Try.prog 58 #[v] w2 fun e w3 => e = .returned (.tuple #[]) ∧ Kd.R (Kd.int .i64) 2 w3 base (fun _ => True) v (l0.mergeSort fun x y => decide (x ≤ y)) ∧ Below base w2 w3 := by
  have hown := Kd.own_of_R hR
  rcases hown.2 with ⟨rfl, hx⟩ | ⟨g, cap, cur, rfl, hbase, hb, h1, h2, h3, h4⟩
  · have hz : l0 = [] := by
      obtain ⟨A, c, he, _⟩ := Kd.R_reads hR
      injection he with _ hn
      exact List.length_eq_zero_iff.1 hn.symm
    subst hz
    have hcon := AnyG.slices_Sort_int_none impl_members_lay none 0 w2
    change Calls Try.prog 58 _ _ _ at hcon
    refine hcon.mono ?_
    rintro e w3 ⟨rfl, rfl⟩
    exact ⟨rfl, by simpa using Kd.R_nil (Kd.int .i64) 2 w3 base (fun _ => True), Below.refl _ _⟩
  · have hgs : g < w2.heap.size := (Array.getElem?_eq_some_iff.1 hb).1
    have hcon := AnyG.slices_Sort_int impl_members_lay g 0 cap l0 w2 (holds_of_blockI hb (by simpa [encs] using h4)) hgs hs0
    change Calls Try.prog 58 _ _ _ at hcon
    refine hcon.mono ?_
    rintro e w3 ⟨rfl, n, os, rfl⟩
    refine ⟨rfl, Kd.R_of_own ?_ (fun _ _ => trivial), Below.grown (Below.refl _ _) (grownBy_sortedI _) hbs (by intro k hk; cases hk; exact hbase)⟩
    have := ownsRow_sortedI (n := n) (os := os) (ss := l0) (ts := l0.mergeSort fun x y => decide (x ≤ y)) (by simp) hbase hb h1 h2 h3
    rw [List.length_mergeSort]
    exact this
set_option maxHeartbeats 2000000 in
theorem impl_members.calls (A0 : Option Addr) (c0 : Nat) (l0 : List Int) (r : List Int) (w : World) (hr0 : Kd.C (Kd.int .i64) w A0 l0.length l0) (hc0 : l0.length ≤ c0) (h : impl_members.f l0 = some r) :
    Calls Try.prog 54 #[.slice A0 l0.length c0] w fun e w' => ∃ v0_ : Value, e = .returned (v0_) ∧ Kd.R (Kd.int .i64) 2 w' w.heap.size (fun _ => True) v0_ r ∧ Below w.heap.size w w' := by
  obtain ⟨l, hl, rfl⟩ := Option.map_eq_some_iff.1 h
  clear h
  have hlen : l.length < 4611686018427387904 := by
    unfold impl_removed.f at hl
    by_cases c2 : l0.length < 17592186044416
    · rw [if_pos c2] at hl
      obtain rfl := Option.some.inj hl
      have : (l0.filter fun x => !decide (x = -1)).length ≤ l0.length := List.length_filter_le _ _
      omega
    · rw [if_neg c2] at hl; exact absurd hl (by simp)
  have HC := impl_removed.calls A0 c0 l0 (-1) l w hr0 hc0 hl
  have AD := Aside0.mk (show ∀ (v : Value) (w2 : World), Kd.R (Kd.int .i64) 2 w2 w.heap.size (fun _ => True) v l → Below w.heap.size w w2 →
      Calls Try.prog 58 #[v] w2 fun e w3 => e = .returned (.tuple #[]) ∧ Kd.R (Kd.int .i64) 2 w3 w.heap.size (fun _ => True) v (l.mergeSort fun x y => decide (x ≤ y)) ∧ Below w.heap.size w w3 from fun v w2 hR hb =>
    (impl_members.sort l v _ w2 hlen hb.size hR).mono fun e w3 ⟨he, h3, hb3⟩ => ⟨he, h3, hb.trans hb3⟩)
  generalize (l.mergeSort fun x y => decide (x ≤ y)) = rr at AD ⊢
  clear hr0 hc0 hlen hl
  go_enter Try.func54, Try.ntmps54
  go_wp2_with (first | (go_at_call 77; refine HC.mono ?_; rintro e w2 ⟨v, rfl, hR, hb⟩; have HQ := Aside0.mk (AD.out v w2 hR hb); clear hR hb) | (go_at_call 58; refine HQ.out.mono ?_; rintro e w3 ⟨rfl, hR, hb⟩; have HR := Aside0.mk hR; have HB := Aside0.mk hb; clear hR hb))
  go_ret
  exact ⟨_, rfl, HR.out, HB.out⟩

/-! ### impl_heardOf: function 64 -/
open Go.Shelf Go.Lib Go.Sort in
shelf_lay_g SlLaysH.n10 Slgf 10 at Try 83 as impl_heardOf_lay
set_option maxHeartbeats 2000000 in
/-- slices.IndexFunc over whole numbers, with the function 84 (captured: the number). -/
theorem impl_heardOf.index (b1 : Addr) (p : Int → Bool) (A0 : Option Addr) (c0 : Nat) (l0 : List Int) (w : World) (hr0 : Kd.C (Kd.int .i64) w A0 l0.length l0)
    (hp : ∀ (W : World) (x : Int), Below w.heap.size w W → Calls Try.prog 84 #[.int .i64 x, .pointer (some b1)] W fun e w' => e = .returned (.bool (p x)) ∧ Below w.heap.size w w') :
    Calls Try.prog 75 #[.slice A0 l0.length c0, .func (.func 84) #[] #[.pointer (some b1)]] w fun e w' => e = .returned (.int .i64 (idxP p l0 0)) ∧ Below w.heap.size w w' := by
  have HR0 := Aside0.mk hr0
  have HP := Aside0.mk hp
  have hm : l0.length ≤ 9223372036854775807 := hr0.2.1
  clear hr0 hp
  go_enter Try.func75, Try.ntmps75
  go_wp2
  go_loopg [5, 8] l0.length (fun gg _ s8 wr => ∃ kk : Nat, kk ≤ l0.length ∧ l0.length - kk ≤ gg ∧ s8 = .int .i64 kk ∧ Aside0 (Below w.heap.size w wr) ∧ Aside0 (idxP p l0 0 = idxP p (l0.drop kk) kk))
  case atStart => exact ⟨0, Nat.zero_le _, by omega, rfl, ⟨Below.refl _ w⟩, ⟨rfl⟩⟩
  case round =>
    obtain ⟨kk, hkk, hg, rfl, BW, AI⟩ := hrel
    by_cases hlt : kk < l0.length
    · have hltz : (kk : Int) < (l0.length : Int) := by omega
      obtain ⟨ad, e, hx⟩ := Kd.at_int HR0.out (kk : Int) (by omega) hltz
      cases e
      rw [Int.toNat_natCast] at hx
      replace hx := (BW.out.cell (World.block_lt_of_cell? w _ hx)).trans hx
      have hcall := HP.out wr (rd l0 (kk : Int)) BW.out
      have HD := Aside0.mk (idxP_drop p l0 kk hlt)
      have HE := Aside0.mk (rd_at0 hlt)
      generalize rd l0 (kk : Int) = y at hx hcall HE
      cases hq : p y with
      | true =>
        rw [hq] at hcall
        have HQ := Aside0.mk hq
        clear hq
        go_wp2_with (go_at_call 84; refine hcall.mono ?_; rintro e w' ⟨rfl, hb'⟩)
        go_ret
        refine ⟨?_, hb'⟩
        rw [AI.out, HD.out, ← HE.out, if_pos HQ.out]
        rfl
      | false =>
        rw [hq] at hcall
        have HQ := Aside0.mk hq
        clear hq
        go_wp2_with (go_at_call 84; refine hcall.mono ?_; rintro e w' ⟨rfl, hb'⟩)
        go_roundg (l0.length - (kk + 1))
        case measure => omega
        case rel => exact ⟨kk + 1, by omega, by omega, by go_num, ⟨hb'⟩, ⟨by rw [AI.out, HD.out, ← HE.out, HQ.out]; rfl⟩⟩
    · have hltz : ¬ (kk : Int) < (l0.length : Int) := by omega
      go_wp2
      go_ret
      refine ⟨?_, BW.out⟩
      rw [AI.out, List.drop_of_length_le (by omega)]
      rfl
namespace impl_heardOf_aux
theorem evc {α : Type} {g : Nat → Option α} {r : α} (h : ∀ k, g k = some r) : Ev g r := ⟨0, fun k _ => h k⟩
theorem evsucc {α : Type} {g : Nat → Option α} {r : α} (h : Ev (fun k => g (k + 1)) r) : Ev g r := by
  obtain ⟨K, hK⟩ := h
  refine ⟨K + 1, fun k hk => ?_⟩
  obtain ⟨k, rfl⟩ : ∃ m, k = m + 1 := ⟨k - 1, by omega⟩
  exact hK k (by omega)
theorem evp {α : Type} {c : Prop} [Decidable c] {g f : Nat → Option α} {r : α} (hc : c) (h : Ev g r) : Ev (fun k => if c then g k else f k) r := by
  simp only [if_pos hc]; exact h
theorem evn {α : Type} {c : Prop} [Decidable c] {g f : Nat → Option α} {r : α} (hc : ¬ c) (h : Ev f r) : Ev (fun k => if c then g k else f k) r := by
  simp only [if_neg hc]; exact h
theorem evb {α β : Type} {g : Nat → Option α} {f : Nat → α → Option β} {a : α} {r : β} (h : Ev g a) (k : Ev (fun n => f n a) r) : Ev (fun n => (g n).bind (f n)) r := Ev.bind h k
theorem evk {α β : Type} {g : Option α} {f : Nat → α → Option β} {a : α} {r : β} (h : g = some a) (k : Ev (fun n => f n a) r) : Ev (fun n => g.bind (f n)) r := by subst h; exact k
theorem ev_ex {α : Type} {g : Nat → Option α} {r : α} (h : Ev g r) : ∃ k, g k = some r := by obtain ⟨K, hK⟩ := h; exact ⟨K, hK K (Nat.le_refl _)⟩
theorem wsucc {i n : Nat} (h : i < n) (hn : n ≤ 140737488351232) : wrap64 ((i : Int) + 1) = ((i + 1 : Nat) : Int) := by unfold wrap64; omega
theorem rd_at {l : List Int} {i : Nat} (h : i < l.length) : rd l (i : Int) = l[i] := by
  simp [rd, List.getD_eq_getElem?_getD, List.getElem?_eq_getElem h]
theorem drop_at {α : Type} {l : List α} {i : Nat} (h : i < l.length) : l.drop i = l[i] :: l.drop (i + 1) := List.drop_eq_getElem_cons h
theorem take_at {α : Type} {l : List α} {i : Nat} (h : i < l.length) : l.take (i + 1) = l.take i ++ [l[i]] := by
  rw [List.take_succ_eq_append_getElem h]
/-- Where a value stands first from i on, or -1. -/
def idxFrom : List Int → Nat → Int → Int
  | [], _, _ => -1
  | x :: r, i, v => if v = x then (i : Int) else idxFrom r (i + 1) v
theorem idxFrom_nonneg (l : List Int) (i : Nat) (v : Int) : idxFrom l i v ≥ 0 ↔ v ∈ l := by
  induction l generalizing i with
  | nil => simp [idxFrom]
  | cons x r ih =>
    simp only [idxFrom]
    by_cases e : v = x
    · simp [e]
    · rw [if_neg e, ih, List.mem_cons]
      exact ⟨Or.inr, fun h => h.resolve_left e⟩
theorem index_loop (l : List Int) (v : Int) (hn : l.length ≤ 140737488351232) : ∀ (d i : Nat), i + d = l.length → Ev (fun k => slices_Index_int64_int64.l0 k l v (l.length : Int) (i : Int)) (idxFrom (l.drop i) i v) := by
  intro d
  induction d with
  | zero =>
    intro i h
    apply evsucc
    simp only [slices_Index_int64_int64.l0]
    refine evn (by omega) (evc fun _ => ?_)
    rw [List.drop_of_length_le (by omega)]
    rfl
  | succ d ih =>
    intro i h
    apply evsucc
    simp only [slices_Index_int64_int64.l0]
    refine evp (by omega) (evp (by omega) (evp (by omega) ?_))
    have hi : i < l.length := by omega
    rw [wsucc hi hn, rd_at hi, drop_at hi]
    simp only [idxFrom]
    by_cases e : v = l[i]
    · rw [if_pos e]
      exact evp e (evc fun _ => rfl)
    · rw [if_neg e]
      exact evn e (ih (i + 1) (by omega))
theorem index_ev (l : List Int) (v : Int) (hn : l.length ≤ 140737488351232) : Ev (fun k => slices_Index_int64_int64.f k l v) (idxFrom l 0 v) := by
  have := index_loop l v hn l.length 0 (by omega)
  simpa [slices_Index_int64_int64.f] using this
theorem contains_ev (l : List Int) (v : Int) (hn : l.length ≤ 140737488351232) : Ev (fun k => slices_Contains_int64_int64.f k l v) (decide (v ∈ l)) := by
  unfold slices_Contains_int64_int64.f
  refine evb (index_ev l v hn) (evc fun _ => ?_)
  rw [decide_eq_decide.2 (idxFrom_nonneg l 0 v)]
end impl_heardOf_aux
def impl_heardOf.f (l0 : List Int) (l1 : List Int) : Option (List Int) := if l1.length ≤ 140737488351232 then (impl_members.f l0).map fun l => l.filter fun x => !(!decide (x ∈ l1)) else none
set_option maxHeartbeats 2000000 in
theorem impl_heardOf.gives (A : Option Addr) (c : Nat) (hl : List Int) (x : Int) (b : Addr) (W : World) (hn : hl.length ≤ 140737488351232) (hc1 : hl.length ≤ c) (hr : Kd.C (Kd.int .i64) W A hl.length hl) (hc : W.cell? b = some (.slice A hl.length c)) :
    FnGives Try.prog 84 #[.pointer (some b)] #[.int .i64 x] (.bool (!decide (x ∈ hl))) W := by
  show Calls Try.prog 84 #[.int .i64 x, .pointer (some b)] W _
  obtain ⟨K, hK⟩ := impl_heardOf_aux.contains_ev hl x hn
  have HI := slices_Contains_int64_int64.calls K A c hl x _ W hr hc1 (hK K (Nat.le_refl _))
  generalize decide (x ∈ hl) = bb at HI ⊢
  clear hr hK
  go_enter Try.func84, Try.ntmps84
  go_wp2_with (go_at_call 48; refine HI.mono ?_; rintro e w' ⟨rfl, ⟨q, rfl⟩⟩)
  go_ret
  exact ⟨rfl, q, rfl⟩
set_option maxHeartbeats 2000000 in
theorem impl_heardOf.delNil (A : Option Addr) (c : Nat) (hl : List Int) (b : Addr) (w : World) (hn : hl.length ≤ 140737488351232) (hc1 : hl.length ≤ c) (hr : Kd.C (Kd.int .i64) w A hl.length hl) (hc : w.cell? b = some (.slice A hl.length c)) :
    Calls Try.prog 83 #[.slice none 0 0, .func (.func 84) #[] #[.pointer (some b)]] w fun e w' => e = .returned (.slice none 0 0) ∧ Below w.heap.size w w' := by
  have HI := impl_heardOf.index b (fun x => !decide (x ∈ hl)) none 0 [] w (Kd.C_nil _ _) (fun W x hb => by
    have hg := impl_heardOf.gives A c hl x b W hn hc1 (Kd.C_below hr hb) ((hb.cell (World.block_lt_of_cell? w _ hc)).trans hc)
    exact Calls.mono hg fun e w' ⟨he, q, hw⟩ => ⟨he, hw ▸ below_drewN' hb q⟩)
  replace HI : Calls Try.prog 75 #[.slice none 0 0, .func (.func 84) #[] #[.pointer (some b)]] w fun e w' => e = .returned (.int .i64 (-1)) ∧ Below w.heap.size w w' := HI
  clear hc hr
  go_enter Try.func83, Try.ntmps83
  go_wp2_with (go_at_call 75; refine HI.mono ?_; rintro e w' ⟨rfl, hb⟩)
  go_ret
  exact ⟨rfl, hb⟩
theorem impl_heardOf.row {w : World} {base g cap q : Nat} {e : TypeId} {cur : Array Value} {n : Nat} {ss ts : List Int} (hl : (ts ++ ss).length = n) (hbase : base ≤ g) (hb : w.heap[g]? = some (.cells cur e (0, 0)))
    (h1 : n ≤ cap) (h2 : cap ≤ maxLen) (h3 : cur.size = cap * 1) :
    (Go.Sort.putRow (Value.int .i64) (Go.Sort.ahead w q) g 0 (ts ++ ss).toArray).ownsRow base e 1 (.slice (some ⟨g, 0, none⟩) ts.length cap) ts.length (encs (Value.int .i64) ts) := by
  have hh := heap_sortedI (n := q) (os := #[]) (ts ++ ss).toArray hb
  rw [Go.Sort.grow_empty] at hh
  refine ⟨by simp [encs], .inr ⟨g, cap, _, rfl, hbase, hh, by simp at hl; omega, h2, by simp [Go.Sort.putCells, h3], ?_⟩⟩
  have ht := take_putCellsI cur (ts ++ ss) (by omega)
  have ht2 := congrArg (List.take ts.length) ht
  rw [List.take_take, Nat.min_eq_left (by simp), List.map_append, List.take_append_of_le_length (by simp), show List.take ts.length (List.map (Value.int .i64) ts) = List.map (Value.int .i64) ts from List.take_of_length_le (by simp)] at ht2
  rw [Nat.mul_one]
  exact ht2
theorem impl_heardOf.del (A : Option Addr) (c : Nat) (hl : List Int) (w0 : World) (hn : hl.length ≤ 140737488351232) (hc1 : hl.length ≤ c) (hr : Kd.C (Kd.int .i64) w0 A hl.length hl) (b : Addr) (l0 : List Int) (v : Value) (base : Nat) (w2 : World) (hB : b.block < base) (hbs : base ≤ w2.heap.size) (hw0 : Below w0.heap.size w0 w2) (hb0 : w0.heap.size ≤ base) (hcell : w2.cell? b = some (.slice A hl.length c)) (hR : Kd.R (Kd.int .i64) 2 w2 base (fun _ => True) v l0) :
    Calls Try.prog 83 #[v, .func (.func 84) #[] #[.pointer (some b)]] w2 fun e w3 => ∃ v3 : Value, e = .returned v3 ∧ Kd.R (Kd.int .i64) 2 w3 base (fun _ => True) v3 (l0.filter fun x => !(!decide (x ∈ hl))) ∧ Below base w2 w3 := by
  have hown := Kd.own_of_R hR
  have hbl := World.block_lt_of_cell? w2 _ hcell
  rcases hown.2 with ⟨rfl, hx⟩ | ⟨g, cap, cur, rfl, hbase, hb, h1, h2, h3, h4⟩
  · have hz : l0 = [] := by
      obtain ⟨A, c, he, _⟩ := Kd.R_reads hR
      injection he with _ hn
      exact List.length_eq_zero_iff.1 hn.symm
    subst hz
    refine (impl_heardOf.delNil A c hl b w2 hn hc1 (Kd.C_below hr hw0) hcell).mono fun e w3 ⟨he, hb⟩ => ⟨_, he, Kd.R_nil _ _ _ _ _, hb.mono hbs⟩
  · have eg : ∀ args w, (callFunc 84 args).run Try.prog w = .ok (.enter 84 args) w := enters_of Try.func84 (by kernel_rfl) rfl
    have hgs : g < w2.heap.size := (Array.getElem?_eq_some_iff.1 hb).1
    have hH : Go.Sort.Holds (Value.int .i64) w2 g 0 l0.toArray := holds_of_blockI hb (by simpa [encs] using h4)
    have hcon := AnyE.slices_DeleteFunc impl_heardOf_lay (Value.int .i64) (fun _ => rfl) (fun x => !decide (x ∈ hl)) 84 #[.pointer (some b)] eg 0 Try.zeroValue2 g 0 cap l0.toArray w2
      (fun W x hb' => impl_heardOf.gives A c hl x b W hn hc1 (Kd.C_below hr (hw0.trans (hb'.mono hw0.size))) ((hb'.cell hbl).trans hcell))
      (fun n os dk x _ => impl_heardOf.gives A c hl x b _ hn hc1 (Kd.C_below hr (Below.grown hw0 (grownBy_sortedI (g := g) (n := n) (os := os) dk) hw0.size (by intro k hk; cases hk; omega))) (by
        unfold sortWorld
        rw [Go.Sort.cell?_grow _ _ _ (by show b.block < (Go.Sort.putRow _ _ _ _ _).heap.size; rw [Go.Sort.size_putRow]; exact hbl), Go.Sort.cell?_putRow_other _ _ g 0 _ _ (Or.inl (by omega))]
        exact hcell)) hH (by simp; have : maxLen ≤ 9223372036854775807 := by unfold maxLen; omega
                             omega) (by simpa using h1)
    change Calls Try.prog 83 _ _ _ at hcon
    refine hcon.mono ?_
    rintro e w3 ⟨rfl, q, rfl⟩
    have hfl : (l0.filter fun x => !(!decide (x ∈ hl))).length ≤ l0.length := List.length_filter_le _ _
    refine ⟨_, rfl, Kd.R_of_own ?_ (fun _ _ => trivial), ?_⟩
    · exact impl_heardOf.row (n := l0.length) (by have hfl' : (List.filter (fun x => !(!decide (x ∈ hl))) l0.toArray.toList).length ≤ l0.length := hfl; rw [List.length_append, List.length_replicate, List.size_toArray]; omega) hbase hb h1 h2 h3
    · have hg := grownBy_sortedI (w := w2) (g := g) (n := q) (os := #[]) ((l0.filter fun x => !(!decide (x ∈ hl))) ++ List.replicate (l0.toArray.size - (l0.filter fun x => !(!decide (x ∈ hl))).length) 0).toArray
      rw [Go.Sort.grow_empty] at hg
      exact Below.grown (Below.refl _ _) hg hbs (by intro k hk; cases hk; exact hbase)
set_option maxHeartbeats 2000000 in
theorem impl_heardOf.calls (A0 : Option Addr) (c0 : Nat) (l0 : List Int) (A1 : Option Addr) (c1 : Nat) (l1 : List Int) (r : List Int) (w : World) (hr0 : Kd.C (Kd.int .i64) w A0 l0.length l0) (hc0 : l0.length ≤ c0) (hr1 : Kd.C (Kd.int .i64) w A1 l1.length l1) (hc1 : l1.length ≤ c1) (h : impl_heardOf.f l0 l1 = some r) :
    Calls Try.prog 64 #[.slice A0 l0.length c0, .slice A1 l1.length c1] w fun e w' => ∃ v0_ : Value, e = .returned (v0_) ∧ Kd.R (Kd.int .i64) 2 w' w.heap.size (fun _ => True) v0_ r ∧ Below w.heap.size w w' := by
  have c2 : l1.length ≤ 140737488351232 := by
    by_cases c2 : l1.length ≤ 140737488351232
    · exact c2
    · rw [impl_heardOf.f, if_neg c2] at h; exact absurd h (by simp)
  rw [impl_heardOf.f, if_pos c2] at h
  obtain ⟨l, hl, rfl⟩ := Option.map_eq_some_iff.1 h
  clear h
  have hB : Below w.heap.size w (w.alloc (.cells #[.slice A1 l1.length c1] 22)) := (Below.refl _ _).alloc (Nat.le_refl _) _
  have hsz : (w.alloc (.cells #[.slice A1 l1.length c1] 22)).heap.size = w.heap.size + 1 := by simp
  have HC := impl_members.calls A0 c0 l0 l (w.alloc (.cells #[.slice A1 l1.length c1] 22)) (Kd.C_below hr0 hB) hc0 hl
  have HD : ∀ (v : Value) (w2 : World), Kd.R (Kd.int .i64) 2 w2 (w.alloc (.cells #[.slice A1 l1.length c1] 22)).heap.size (fun _ => True) v l → Below (w.alloc (.cells #[.slice A1 l1.length c1] 22)).heap.size (w.alloc (.cells #[.slice A1 l1.length c1] 22)) w2 →
      Calls Try.prog 83 #[v, .func (.func 84) #[] #[.pointer (some ⟨w.heap.size, 0, none⟩)]] w2 fun e w3 => ∃ v3 : Value, e = .returned v3 ∧ Kd.R (Kd.int .i64) 2 w3 w.heap.size (fun _ => True) v3 (l.filter fun x => !(!decide (x ∈ l1))) ∧ Below w.heap.size w w3 := by
    intro v w2 hR hb
    have hs2 := hb.size
    refine (impl_heardOf.del A1 c1 l1 w c2 hc1 hr1 ⟨w.heap.size, 0, none⟩ l v _ w2 (by rw [hsz]; exact Nat.lt_succ_self _) hs2 (hB.trans (hb.mono hB.size)) hB.size (by rw [hb.cell (by rw [hsz]; exact Nat.lt_succ_self _)]; simp) hR).mono ?_
    rintro e w3 ⟨v3, rfl, h3, hb3⟩
    exact ⟨v3, rfl, Kd.R_lower h3 hB.size, hB.trans ((hb.trans hb3).mono hB.size)⟩
  generalize (l.filter fun x => !(!decide (x ∈ l1))) = rr at HD ⊢
  have AD := Aside0.mk HD
  clear HD hB hsz hr0 hr1 hc0 hc1 hl
  go_enter Try.func64, Try.ntmps64
  go_wp2_with (first | (go_at_call 54; refine HC.mono ?_; rintro e w2 ⟨v, rfl, hR, hb⟩; have HQ := Aside0.mk (AD.out v w2 hR hb); clear hR hb) | (go_at_call 83; refine HQ.out.mono ?_; rintro e w3 ⟨v3, rfl, hR, hb⟩; have HR := Aside0.mk hR; have HB := Aside0.mk hb; clear hR hb))
  go_ret
  exact ⟨_, rfl, HR.out, HB.out⟩

/-! ### impl_Interval_needs: function 90 -/
def impl_Interval_needs.f (a0_0 : Int) (a0_1 : Int) (l0_2 : List Int) (a0_3 : Bool) (a1 : Int) : Option (Bool) := if a0_3 = true then (if a0_0 ≥ a1 then (some true) else (some (a0_0 == a1))) else (some (a0_0 == a1))
set_option maxHeartbeats 8000000 in
set_option maxRecDepth 100000 in
theorem impl_Interval_needs.calls (a0_0 : Int) (a0_1 : Int) (A0_2 : Option Addr) (c0_2 : Nat) (l0_2 : List Int) (a0_3 : Bool) (a1 : Int) (r : Bool) (w : World) (hr0_2 : Kd.C (Kd.int .i64) w A0_2 l0_2.length l0_2) (hc0_2 : l0_2.length ≤ c0_2) (h : impl_Interval_needs.f a0_0 a0_1 l0_2 a0_3 a1 = some r) :
    Calls Try.prog 90 #[.agg #[.int .i64 a0_0, .int .i64 a0_1, .slice A0_2 l0_2.length c0_2, .bool a0_3], .int .i64 a1] w fun e w' => e = .returned (.bool r) ∧ Below w.heap.size w w' := by
  have hu43 := Try.underlying43
  have HR0_2 := Aside0.mk hr0_2
  have HC0_2 := Aside0.mk hc0_2
  clear hr0_2 hc0_2
  have HB := Aside0.mk (Below.refl w.heap.size w)
  have H : (if a0_3 = true then (if a0_0 ≥ a1 then (some true) else (some (a0_0 == a1))) else (some (a0_0 == a1))) = some r := h
  clear h
  by_cases c3 : a0_3 = true
  · subst c3
    have H1 : (if a0_0 ≥ a1 then (some true) else (some (a0_0 == a1))) = some r := by rw [if_pos rfl] at H; exact H
    clear H
    have H := H1
    clear H1
    by_cases c4 : a0_0 ≥ a1
    · rw [if_pos c4] at H
      have c4b0 : decide (a1 ≤ a0_0) = true := decide_eq_true c4
      clear c4
      obtain rfl := Option.some.inj H
      go_enter Try.func90, Try.ntmps90
      go_wp2_with (first | ((with_reducible refine gate_dst (N := 2) rfl ?_); refine box_event ?hg (N := 2) ?hd (cs := #[.int .i64 a0_0, .int .i64 a0_1, .slice A0_2 l0_2.length c0_2, .bool true]) (t := 43) ?hr ?_; (case hd => rfl); (case hg => rfl); (case hr => first | (go_simp; done) | (go_simp; rfl)); intro gb230 hg w5 hbox hb; have n0_ := Aside0.mk (below_step (by repeat (first | (with_reducible first | exact HB.out | apply below_alloc | apply pw_below_drewN | apply below_drew1) | exact HB.out)) hb); have n1_ := Aside0.mk (hbox); have n2_ := Aside0.mk ((by rw [hg]; exact (below_size (by repeat (first | (with_reducible first | exact HB.out | apply below_alloc | apply pw_below_drewN | apply below_drew1) | exact HB.out))) : w.heap.size ≤ gb230)); have n3_ := Aside0.mk ((by rw [hg]; exact (below_size (by repeat (first | (with_reducible first | exact HB.out | apply below_alloc | apply pw_below_drewN | apply below_drew1) | exact HB.out))) : w.heap.size ≤ gb230)); clear HB; have HB := n0_; have BK230 := n1_; have GW230 := n2_; have GE230 := n3_; clear n0_ n1_ n2_ n3_; clear hb hbox hg; have hcz6_0 : w5.cell? ⟨gb230, 0, none⟩ = some (.int .i64 a0_0) := (blk_cell BK230.out 0).trans rfl; have hcz6_1 : w5.cell? ⟨gb230, 1, none⟩ = some (.int .i64 a0_1) := (blk_cell BK230.out 1).trans rfl; have hcz6_2 : w5.cell? ⟨gb230, 2, none⟩ = some (.slice A0_2 l0_2.length c0_2) := (blk_cell BK230.out 2).trans rfl; have hcz6_3 : w5.cell? ⟨gb230, 3, none⟩ = some (.bool true) := (blk_cell BK230.out 3).trans rfl; have hfz6_0 := blk_frozen BK230.out 0; have hfz6_1 := blk_frozen BK230.out 1; have hfz6_2 := blk_frozen BK230.out 2; have hfz6_3 := blk_frozen BK230.out 3))
      go_ret
      exact ⟨by first | rfl | (simp [errW_none, errW_some] <;> rfl) | (simp [*, errW_none, errW_some] <;> rfl), by repeat (first | (with_reducible first | exact HB.out | apply below_alloc | apply pw_below_drewN | apply below_drew1 | refine below_set ?_ GE230.out) | exact HB.out)⟩
    · rw [if_neg c4] at H
      have c4b0 : decide (a1 ≤ a0_0) = false := decide_eq_false c4
      clear c4
      obtain rfl := Option.some.inj H
      go_enter Try.func90, Try.ntmps90
      go_wp2_with (first | ((with_reducible refine gate_dst (N := 2) rfl ?_); refine box_event ?hg (N := 2) ?hd (cs := #[.int .i64 a0_0, .int .i64 a0_1, .slice A0_2 l0_2.length c0_2, .bool true]) (t := 43) ?hr ?_; (case hd => rfl); (case hg => rfl); (case hr => first | (go_simp; done) | (go_simp; rfl)); intro gb230 hg w7 hbox hb; have n0_ := Aside0.mk (below_step (by repeat (first | (with_reducible first | exact HB.out | apply below_alloc | apply pw_below_drewN | apply below_drew1) | exact HB.out)) hb); have n1_ := Aside0.mk (hbox); have n2_ := Aside0.mk ((by rw [hg]; exact (below_size (by repeat (first | (with_reducible first | exact HB.out | apply below_alloc | apply pw_below_drewN | apply below_drew1) | exact HB.out))) : w.heap.size ≤ gb230)); have n3_ := Aside0.mk ((by rw [hg]; exact (below_size (by repeat (first | (with_reducible first | exact HB.out | apply below_alloc | apply pw_below_drewN | apply below_drew1) | exact HB.out))) : w.heap.size ≤ gb230)); clear HB; have HB := n0_; have BK230 := n1_; have GW230 := n2_; have GE230 := n3_; clear n0_ n1_ n2_ n3_; clear hb hbox hg; have hcz8_0 : w7.cell? ⟨gb230, 0, none⟩ = some (.int .i64 a0_0) := (blk_cell BK230.out 0).trans rfl; have hcz8_1 : w7.cell? ⟨gb230, 1, none⟩ = some (.int .i64 a0_1) := (blk_cell BK230.out 1).trans rfl; have hcz8_2 : w7.cell? ⟨gb230, 2, none⟩ = some (.slice A0_2 l0_2.length c0_2) := (blk_cell BK230.out 2).trans rfl; have hcz8_3 : w7.cell? ⟨gb230, 3, none⟩ = some (.bool true) := (blk_cell BK230.out 3).trans rfl; have hfz8_0 := blk_frozen BK230.out 0; have hfz8_1 := blk_frozen BK230.out 1; have hfz8_2 := blk_frozen BK230.out 2; have hfz8_3 := blk_frozen BK230.out 3))
      go_ret
      exact ⟨by first | rfl | (simp [errW_none, errW_some] <;> rfl) | (simp [*, errW_none, errW_some] <;> rfl), by repeat (first | (with_reducible first | exact HB.out | apply below_alloc | apply pw_below_drewN | apply below_drew1 | refine below_set ?_ GE230.out) | exact HB.out)⟩
  · replace c3 := Bool.eq_false_iff.mpr c3
    subst c3
    have H1 : (some (a0_0 == a1)) = some r := by rw [if_neg (show ¬ (false = true) by decide)] at H; exact H
    clear H
    have H := H1
    clear H1
    obtain rfl := Option.some.inj H
    go_enter Try.func90, Try.ntmps90
    go_wp2_with (first | ((with_reducible refine gate_dst (N := 2) rfl ?_); refine box_event ?hg (N := 2) ?hd (cs := #[.int .i64 a0_0, .int .i64 a0_1, .slice A0_2 l0_2.length c0_2, .bool false]) (t := 43) ?hr ?_; (case hd => rfl); (case hg => rfl); (case hr => first | (go_simp; done) | (go_simp; rfl)); intro gb230 hg w9 hbox hb; have n0_ := Aside0.mk (below_step (by repeat (first | (with_reducible first | exact HB.out | apply below_alloc | apply pw_below_drewN | apply below_drew1) | exact HB.out)) hb); have n1_ := Aside0.mk (hbox); have n2_ := Aside0.mk ((by rw [hg]; exact (below_size (by repeat (first | (with_reducible first | exact HB.out | apply below_alloc | apply pw_below_drewN | apply below_drew1) | exact HB.out))) : w.heap.size ≤ gb230)); have n3_ := Aside0.mk ((by rw [hg]; exact (below_size (by repeat (first | (with_reducible first | exact HB.out | apply below_alloc | apply pw_below_drewN | apply below_drew1) | exact HB.out))) : w.heap.size ≤ gb230)); clear HB; have HB := n0_; have BK230 := n1_; have GW230 := n2_; have GE230 := n3_; clear n0_ n1_ n2_ n3_; clear hb hbox hg; have hcz10_0 : w9.cell? ⟨gb230, 0, none⟩ = some (.int .i64 a0_0) := (blk_cell BK230.out 0).trans rfl; have hcz10_1 : w9.cell? ⟨gb230, 1, none⟩ = some (.int .i64 a0_1) := (blk_cell BK230.out 1).trans rfl; have hcz10_2 : w9.cell? ⟨gb230, 2, none⟩ = some (.slice A0_2 l0_2.length c0_2) := (blk_cell BK230.out 2).trans rfl; have hcz10_3 : w9.cell? ⟨gb230, 3, none⟩ = some (.bool false) := (blk_cell BK230.out 3).trans rfl; have hfz10_0 := blk_frozen BK230.out 0; have hfz10_1 := blk_frozen BK230.out 1; have hfz10_2 := blk_frozen BK230.out 2; have hfz10_3 := blk_frozen BK230.out 3))
    go_ret
    exact ⟨by first | rfl | (simp [errW_none, errW_some] <;> rfl) | (simp [*, errW_none, errW_some] <;> rfl), by repeat (first | (with_reducible first | exact HB.out | apply below_alloc | apply pw_below_drewN | apply below_drew1 | refine below_set ?_ GE230.out) | exact HB.out)⟩

end Go.Proofs.Ytfeaokelfbjcdaa.MFnExactHeardEnough
