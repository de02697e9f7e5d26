-- Written by a program of this session (wip/tools/myprint.py) over the kit's print: it is not the kit's print.
import Derived.Test.YtfeaokelfbjcdaaExtra
import Derived.Sort.OwnSortedInts
import Derived.Ground.SlgfProg
import Derived.Shelf.SlicesE.DeleteFunc
import Derived.Test.YtfeaokelfbjcdaaMFnHeardx0
import Derived.Test.YtfeaokelfbjcdaaMFnHeardx3
import Derived.Test.YtfeaokelfbjcdaaMFnHeardx4
namespace Go.Proofs.Ytfeaokelfbjcdaa.MFnHeard
open Go.RowKit Go.Proofs.YtfeaokelfbjcdaaW.PrintWords Go.Proofs.YtfeaokelfbjcdaaW.PrintLast Go.Proofs.YtfeaokelfbjcdaaW.PrintMore
open List renaming setIfInBounds_toArray → sit, set_cons_zero → scz, set_cons_succ → scs, map_toArray → mta, map_cons → mco, map_nil → mni, length_drop → lnd, length_take → lnt
open World renaming block_lt_of_cell? → blc
attribute [local go_sem] max2_int min2_int max_two min_two max_three min_three max_four min_four   -- for this text's walks alone
set_option linter.unusedVariables false
set_option linter.unusedSimpArgs false

/-! ### impl_heardOf: function 64 -/
open Go.Shelf Go.Lib Go.Sort in
shelf_lay_g SlLaysH.n10 Slgf 10 at Try 83 as impl_heardOf_lay
set_option maxHeartbeats 2000000 in
/-- slices.IndexFunc over whole numbers, with the function 84 (captured: the number). -/
theorem impl_heardOf.index (b1 : Addr) (p : Int → Bool) (A0 : Option Addr) (c0 : Nat) (l0 : List Int) (w : World) (hr0 : Kd.C (Kd.int .i64) w A0 l0.length l0)
  (hp : ∀ (W : World) (x : Int), Below w.heap.size w W → Calls Try.prog 84 #[.int .i64 x, .pointer (some b1)] W fun e w' => e = .returned (.bool (p x)) ∧ Below w.heap.size w w') :
  Calls Try.prog 75 #[.slice A0 l0.length c0, .func (.func 84) #[] #[.pointer (some b1)]] w fun e w' => e = .returned (.int .i64 (idxP p l0 0)) ∧ Below w.heap.size w w' := by
 have HR0 := am hr0
 have HP := am hp
 have hm : l0.length ≤ 9223372036854775807 := hr0.2.1
 clear hr0 hp
 go_enter Try.func75, Try.ntmps75
 go_wp2
 go_loopg [5, 8] l0.length (fun gg _ s8 wr => ∃ kk : Nat, kk ≤ l0.length ∧ l0.length - kk ≤ gg ∧ s8 = .int .i64 kk ∧ Aside0 (Below w.heap.size w wr) ∧ Aside0 (idxP p l0 0 = idxP p (l0.drop kk) kk))
 case atStart => exact ⟨0, Nat.zero_le _, by omega, rfl, ⟨Below.refl _ w⟩, ⟨rfl⟩⟩
 case round =>
  obtain ⟨kk, hkk, hg, rfl, BW, AI⟩ := hrel
  by_cases hlt : kk < l0.length
  ·have hltz : (kk : Int) < (l0.length : Int) := by omega
   obtain ⟨ad, e, hx⟩ := Kd.at_int HR0.out (kk : Int) (by omega) hltz
   cases e
   rw [Int.toNat_natCast] at hx
   replace hx := (BW.out.cell (blc w _ hx)).trans hx
   have hcall := HP.out wr (rd l0 (kk : Int)) BW.out
   have HD := am (idxP_drop p l0 kk hlt)
   have HE := am (rd_at0 hlt)
   generalize rd l0 (kk : Int) = y at hx hcall HE
   cases hq : p y with
   | true =>
    rw [hq] at hcall
    have HQ := am hq
    clear hq
    go_wp2_with (go_at_call 84; refine hcall.mono ?_; rintro e w' ⟨rfl, hb'⟩)
    go_ret
    refine ⟨?_, hb'⟩
    rw [AI.out, HD.out, ← HE.out, if_pos HQ.out]
    rfl
   | false =>
    rw [hq] at hcall
    have HQ := am hq
    clear hq
    go_wp2_with (go_at_call 84; refine hcall.mono ?_; rintro e w' ⟨rfl, hb'⟩)
    go_roundg (l0.length - (kk + 1))
    case measure => omega
    case rel => exact ⟨kk + 1, by omega, by omega, by go_num, ⟨hb'⟩, ⟨by rw [AI.out, HD.out, ← HE.out, HQ.out]; rfl⟩⟩
  ·have hltz : ¬ (kk : Int) < (l0.length : Int) := by omega
   go_wp2
   go_ret
   refine ⟨?_, BW.out⟩
   rw [AI.out, List.drop_of_length_le (by omega)]
   rfl
namespace impl_heardOf_aux
theorem evc {α : Type} {g : Nat → Option α} {r : α} (h : ∀ k, g k = some r) : Ev g r := ⟨0, fun k _ => h k⟩
theorem evsucc {α : Type} {g : Nat → Option α} {r : α} (h : Ev (fun k => g (k + 1)) r) : Ev g r := by
 obtain ⟨K, hK⟩ := h
 refine ⟨K + 1, fun k hk => ?_⟩
 obtain ⟨k, rfl⟩ : ∃ m, k = m + 1 := ⟨k - 1, by omega⟩
 exact hK k (by omega)
theorem evp {α : Type} {c : Prop} [Decidable c] {g f : Nat → Option α} {r : α} (hc : c) (h : Ev g r) : Ev (fun k => if c then g k else f k) r := by
 simp only [if_pos hc]; exact h
theorem evn {α : Type} {c : Prop} [Decidable c] {g f : Nat → Option α} {r : α} (hc : ¬ c) (h : Ev f r) : Ev (fun k => if c then g k else f k) r := by
 simp only [if_neg hc]; exact h
theorem evb {α β : Type} {g : Nat → Option α} {f : Nat → α → Option β} {a : α} {r : β} (h : Ev g a) (k : Ev (fun n => f n a) r) : Ev (fun n => (g n).bind (f n)) r := Ev.bind h k
theorem evk {α β : Type} {g : Option α} {f : Nat → α → Option β} {a : α} {r : β} (h : g = some a) (k : Ev (fun n => f n a) r) : Ev (fun n => g.bind (f n)) r := by subst h; exact k
theorem ev_ex {α : Type} {g : Nat → Option α} {r : α} (h : Ev g r) : ∃ k, g k = some r := by obtain ⟨K, hK⟩ := h; exact ⟨K, hK K (Nat.le_refl _)⟩
theorem wsucc {i n : Nat} (h : i < n) (hn : n ≤ 140737488351232) : wrap64 ((i : Int) + 1) = ((i + 1 : Nat) : Int) := by unfold wrap64; omega
theorem rd_at {l : List Int} {i : Nat} (h : i < l.length) : rd l (i : Int) = l[i] := by
 simp [rd, List.getD_eq_getElem?_getD, List.getElem?_eq_getElem h]
theorem drop_at {α : Type} {l : List α} {i : Nat} (h : i < l.length) : l.drop i = l[i] :: l.drop (i + 1) := List.drop_eq_getElem_cons h
theorem take_at {α : Type} {l : List α} {i : Nat} (h : i < l.length) : l.take (i + 1) = l.take i ++ [l[i]] := by
 rw [List.take_succ_eq_append_getElem h]
/-- Where a value stands first from i on, or -1. -/
def idxFrom : List Int → Nat → Int → Int
 | [], _, _ => -1
 | x :: r, i, v => if v = x then (i : Int) else idxFrom r (i + 1) v
theorem idxFrom_nonneg (l : List Int) (i : Nat) (v : Int) : idxFrom l i v ≥ 0 ↔ v ∈ l := by
 induction l generalizing i with
 | nil => simp [idxFrom]
 | cons x r ih =>
  simp only [idxFrom]
  by_cases e : v = x
  ·simp [e]
  ·rw [if_neg e, ih, List.mem_cons]
   exact ⟨Or.inr, fun h => h.resolve_left e⟩
theorem index_loop (l : List Int) (v : Int) (hn : l.length ≤ 140737488351232) : ∀ (d i : Nat), i + d = l.length → Ev (fun k => slices_Index_int64_int64.l0 k l v (l.length : Int) (i : Int)) (idxFrom (l.drop i) i v) := by
 intro d
 induction d with
 | zero =>
  intro i h
  apply evsucc
  simp only [slices_Index_int64_int64.l0]
  refine evn (by omega) (evc fun _ => ?_)
  rw [List.drop_of_length_le (by omega)]
  rfl
 | succ d ih =>
  intro i h
  apply evsucc
  simp only [slices_Index_int64_int64.l0]
  refine evp (by omega) (evp (by omega) (evp (by omega) ?_))
  have hi : i < l.length := by omega
  rw [wsucc hi hn, rd_at hi, drop_at hi]
  simp only [idxFrom]
  by_cases e : v = l[i]
  ·rw [if_pos e]
   exact evp e (evc fun _ => rfl)
  ·rw [if_neg e]
   exact evn e (ih (i + 1) (by omega))
theorem index_ev (l : List Int) (v : Int) (hn : l.length ≤ 140737488351232) : Ev (fun k => slices_Index_int64_int64.f k l v) (idxFrom l 0 v) := by
 have := index_loop l v hn l.length 0 (by omega)
 simpa [slices_Index_int64_int64.f] using this
theorem contains_ev (l : List Int) (v : Int) (hn : l.length ≤ 140737488351232) : Ev (fun k => slices_Contains_int64_int64.f k l v) (decide (v ∈ l)) := by
 unfold slices_Contains_int64_int64.f
 refine evb (index_ev l v hn) (evc fun _ => ?_)
 rw [decide_eq_decide.2 (idxFrom_nonneg l 0 v)]
end impl_heardOf_aux
def impl_heardOf.f (l0 : List Int) (l1 : List Int) : Option (List Int) := if l1.length ≤ 140737488351232 then (impl_members.f l0).map fun l => l.filter fun x => !(!decide (x ∈ l1)) else none
set_option maxHeartbeats 2000000 in
theorem impl_heardOf.gives (A : Option Addr) (c : Nat) (hl : List Int) (x : Int) (b : Addr) (W : World) (hn : hl.length ≤ 140737488351232) (hc1 : hl.length ≤ c) (hr : Kd.C (Kd.int .i64) W A hl.length hl) (hc : W.cell? b = some (.slice A hl.length c)) :
  FnGives Try.prog 84 #[.pointer (some b)] #[.int .i64 x] (.bool (!decide (x ∈ hl))) W := by
 show Calls Try.prog 84 #[.int .i64 x, .pointer (some b)] W _
 obtain ⟨K, hK⟩ := impl_heardOf_aux.contains_ev hl x hn
 have HI := slices_Contains_int64_int64.calls K A c hl x _ W hr hc1 (hK K (Nat.le_refl _))
 generalize decide (x ∈ hl) = bb at HI ⊢
 clear hr hK
 go_enter Try.func84, Try.ntmps84
 go_wp2_with (go_at_call 48; refine HI.mono ?_; rintro e w' ⟨rfl, ⟨q, rfl⟩⟩)
 go_ret
 exact ⟨rfl, q, rfl⟩
set_option maxHeartbeats 2000000 in
theorem impl_heardOf.delNil (A : Option Addr) (c : Nat) (hl : List Int) (b : Addr) (w : World) (hn : hl.length ≤ 140737488351232) (hc1 : hl.length ≤ c) (hr : Kd.C (Kd.int .i64) w A hl.length hl) (hc : w.cell? b = some (.slice A hl.length c)) :
  Calls Try.prog 83 #[.slice none 0 0, .func (.func 84) #[] #[.pointer (some b)]] w fun e w' => e = .returned (.slice none 0 0) ∧ Below w.heap.size w w' := by
 have HI := impl_heardOf.index b (fun x => !decide (x ∈ hl)) none 0 [] w (Kd.C_nil _ _) (fun W x hb => by
  have hg := impl_heardOf.gives A c hl x b W hn hc1 (Kd.C_below hr hb) ((hb.cell (blc w _ hc)).trans hc)
  exact Calls.mono hg fun e w' ⟨he, q, hw⟩ => ⟨he, hw ▸ below_drewN' hb q⟩)
 replace HI : Calls Try.prog 75 #[.slice none 0 0, .func (.func 84) #[] #[.pointer (some b)]] w fun e w' => e = .returned (.int .i64 (-1)) ∧ Below w.heap.size w w' := HI
 clear hc hr
 go_enter Try.func83, Try.ntmps83
 go_wp2_with (go_at_call 75; refine HI.mono ?_; rintro e w' ⟨rfl, hb⟩)
 go_ret
 exact ⟨rfl, hb⟩
theorem impl_heardOf.row {w : World} {base g cap q : Nat} {e : TypeId} {cur : Array Value} {n : Nat} {ss ts : List Int} (hl : (ts ++ ss).length = n) (hbase : base ≤ g) (hb : w.heap[g]? = some (.cells cur e (0, 0)))
  (h1 : n ≤ cap) (h2 : cap ≤ maxLen) (h3 : cur.size = cap * 1) :
  (Go.Sort.putRow (Value.int .i64) (Go.Sort.ahead w q) g 0 (ts ++ ss).toArray).ownsRow base e 1 (.slice (some ⟨g, 0, none⟩) ts.length cap) ts.length (encs (Value.int .i64) ts) := by
 have hh := heap_sortedI (n := q) (os := #[]) (ts ++ ss).toArray hb
 rw [Go.Sort.grow_empty] at hh
 refine ⟨by simp [encs], .inr ⟨g, cap, _, rfl, hbase, hh, by simp at hl; omega, h2, by simp [Go.Sort.putCells, h3], ?_⟩⟩
 have ht := take_putCellsI cur (ts ++ ss) (by omega)
 have ht2 := congrArg (List.take ts.length) ht
 rw [List.take_take, Nat.min_eq_left (by simp), List.map_append, List.take_append_of_le_length (by simp), show List.take ts.length (List.map (Value.int .i64) ts) = List.map (Value.int .i64) ts from List.take_of_length_le (by simp)] at ht2
 rw [Nat.mul_one]
 exact ht2
theorem impl_heardOf.del (A : Option Addr) (c : Nat) (hl : List Int) (w0 : World) (hn : hl.length ≤ 140737488351232) (hc1 : hl.length ≤ c) (hr : Kd.C (Kd.int .i64) w0 A hl.length hl) (b : Addr) (l0 : List Int) (v : Value) (base : Nat) (w2 : World) (hB : b.block < base) (hbs : base ≤ w2.heap.size) (hw0 : Below w0.heap.size w0 w2) (hb0 : w0.heap.size ≤ base) (hcell : w2.cell? b = some (.slice A hl.length c)) (hR : Kd.R (Kd.int .i64) 2 w2 base (fun _ => True) v l0) :
  Calls Try.prog 83 #[v, .func (.func 84) #[] #[.pointer (some b)]] w2 fun e w3 => ∃ v3 : Value, e = .returned v3 ∧ Kd.R (Kd.int .i64) 2 w3 base (fun _ => True) v3 (l0.filter fun x => !(!decide (x ∈ hl))) ∧ Below base w2 w3 := by
 have hown := Kd.own_of_R hR
 have hbl := blc w2 _ hcell
 rcases hown.2 with ⟨rfl, hx⟩ | ⟨g, cap, cur, rfl, hbase, hb, h1, h2, h3, h4⟩
 ·have hz : l0 = [] := by
   obtain ⟨A, c, he, _⟩ := Kd.R_reads hR
   injection he with _ hn
   exact List.length_eq_zero_iff.1 hn.symm
  subst hz
  refine (impl_heardOf.delNil A c hl b w2 hn hc1 (Kd.C_below hr hw0) hcell).mono fun e w3 ⟨he, hb⟩ => ⟨_, he, Kd.R_nil _ _ _ _ _, hb.mono hbs⟩
 ·have eg : ∀ args w, (callFunc 84 args).run Try.prog w = .ok (.enter 84 args) w := enters_of Try.func84 (by kernel_rfl) rfl
  have hgs : g < w2.heap.size := (Array.getElem?_eq_some_iff.1 hb).1
  have hH : Go.Sort.Holds (Value.int .i64) w2 g 0 l0.toArray := holds_of_blockI hb (by simpa [encs] using h4)
  have hcon := AnyE.slices_DeleteFunc impl_heardOf_lay (Value.int .i64) (fun _ => rfl) (fun x => !decide (x ∈ hl)) 84 #[.pointer (some b)] eg 0 Try.zeroValue2 g 0 cap l0.toArray w2
   (fun W x hb' => impl_heardOf.gives A c hl x b W hn hc1 (Kd.C_below hr (hw0.trans (hb'.mono hw0.size))) ((hb'.cell hbl).trans hcell))
   (fun n os dk x _ => impl_heardOf.gives A c hl x b _ hn hc1 (Kd.C_below hr (Below.grown hw0 (grownBy_sortedI (g := g) (n := n) (os := os) dk) hw0.size (by intro k hk; cases hk; omega))) (by
    unfold sortWorld
    rw [Go.Sort.cell?_grow _ _ _ (by show b.block < (Go.Sort.putRow _ _ _ _ _).heap.size; rw [Go.Sort.size_putRow]; exact hbl), Go.Sort.cell?_putRow_other _ _ g 0 _ _ (Or.inl (by omega))]
    exact hcell)) hH (by have hq : maxLen ≤ 9223372036854775807 := (by unfold maxLen; omega); simp; omega) (by simpa using h1)
  change Calls Try.prog 83 _ _ _ at hcon
  refine hcon.mono ?_
  rintro e w3 ⟨rfl, q, rfl⟩
  have hfl : (l0.filter fun x => !(!decide (x ∈ hl))).length ≤ l0.length := List.length_filter_le _ _
  refine ⟨_, rfl, Kd.R_of_own ?_ (fun _ _ => trivial), ?_⟩
  ·exact impl_heardOf.row (n := l0.length) (by have hfl' : (List.filter (fun x => !(!decide (x ∈ hl))) l0.toArray.toList).length ≤ l0.length := hfl; rw [List.length_append, List.length_replicate, List.size_toArray]; omega) hbase hb h1 h2 h3
  ·have hg := grownBy_sortedI (w := w2) (g := g) (n := q) (os := #[]) ((l0.filter fun x => !(!decide (x ∈ hl))) ++ List.replicate (l0.toArray.size - (l0.filter fun x => !(!decide (x ∈ hl))).length) 0).toArray
   rw [Go.Sort.grow_empty] at hg
   exact Below.grown (Below.refl _ _) hg hbs (by intro k hk; cases hk; exact hbase)
set_option maxHeartbeats 2000000 in
theorem impl_heardOf.calls (A0 : Option Addr) (c0 : Nat) (l0 : List Int) (A1 : Option Addr) (c1 : Nat) (l1 : List Int) (r : List Int) (w : World) (hr0 : Kd.C (Kd.int .i64) w A0 l0.length l0) (hc0 : l0.length ≤ c0) (hr1 : Kd.C (Kd.int .i64) w A1 l1.length l1) (hc1 : l1.length ≤ c1) (h : impl_heardOf.f l0 l1 = some r) :
  Calls Try.prog 64 #[.slice A0 l0.length c0, .slice A1 l1.length c1] w fun e w' => ∃ v0_ : Value, e = .returned (v0_) ∧ Kd.R (Kd.int .i64) 2 w' w.heap.size (fun _ => True) v0_ r ∧ Below w.heap.size w w' := by
 have c2 : l1.length ≤ 140737488351232 := by
  by_cases c2 : l1.length ≤ 140737488351232
  ·exact c2
  ·rw [impl_heardOf.f, if_neg c2] at h; exact absurd h (by simp)
 rw [impl_heardOf.f, if_pos c2] at h
 obtain ⟨l, hl, rfl⟩ := Option.map_eq_some_iff.1 h
 clear h
 have hB : Below w.heap.size w (w.alloc (.cells #[.slice A1 l1.length c1] 22)) := (Below.refl _ _).alloc (Nat.le_refl _) _
 have hsz : (w.alloc (.cells #[.slice A1 l1.length c1] 22)).heap.size = w.heap.size + 1 := by simp
 have HC := impl_members.calls A0 c0 l0 l (w.alloc (.cells #[.slice A1 l1.length c1] 22)) (Kd.C_below hr0 hB) hc0 hl
 have HD : ∀ (v : Value) (w2 : World), Kd.R (Kd.int .i64) 2 w2 (w.alloc (.cells #[.slice A1 l1.length c1] 22)).heap.size (fun _ => True) v l → Below (w.alloc (.cells #[.slice A1 l1.length c1] 22)).heap.size (w.alloc (.cells #[.slice A1 l1.length c1] 22)) w2 →
   Calls Try.prog 83 #[v, .func (.func 84) #[] #[.pointer (some ⟨w.heap.size, 0, none⟩)]] w2 fun e w3 => ∃ v3 : Value, e = .returned v3 ∧ Kd.R (Kd.int .i64) 2 w3 w.heap.size (fun _ => True) v3 (l.filter fun x => !(!decide (x ∈ l1))) ∧ Below w.heap.size w w3 := by
  intro v w2 hR hb
  have hs2 := hb.size
  refine (impl_heardOf.del A1 c1 l1 w c2 hc1 hr1 ⟨w.heap.size, 0, none⟩ l v _ w2 (by rw [hsz]; exact Nat.lt_succ_self _) hs2 (hB.trans (hb.mono hB.size)) hB.size (by rw [hb.cell (by rw [hsz]; exact Nat.lt_succ_self _)]; simp) hR).mono ?_
  rintro e w3 ⟨v3, rfl, h3, hb3⟩
  exact ⟨v3, rfl, Kd.R_lower h3 hB.size, hB.trans ((hb.trans hb3).mono hB.size)⟩
 generalize (l.filter fun x => !(!decide (x ∈ l1))) = rr at HD ⊢
 have AD := am HD
 clear HD hB hsz hr0 hr1 hc0 hc1 hl
 go_enter Try.func64, Try.ntmps64
 go_wp2_with (first | (go_at_call 54; refine HC.mono ?_; rintro e w2 ⟨v, rfl, hR, hb⟩; have HQ := am (AD.out v w2 hR hb); clear hR hb) | (go_at_call 83; refine HQ.out.mono ?_; rintro e w3 ⟨v3, rfl, hR, hb⟩; have HR := am hR; have HB := am hb; clear hR hb))
 go_ret
 exact ⟨_, rfl, HR.out, HB.out⟩

/-! ### impl_Interval_needs: function 90 -/
def impl_Interval_needs.f (a0_0 : Int) (a0_1 : Int) (l0_2 : List Int) (a0_3 : Bool) (a1 : Int) : Option (Bool) := if a0_3 = true then (if a0_0 ≥ a1 then (some true) else (some (a0_0 == a1))) else (some (a0_0 == a1))
set_option maxHeartbeats 8000000 in
set_option maxRecDepth 100000 in
theorem impl_Interval_needs.calls (a0_0 : Int) (a0_1 : Int) (A0_2 : Option Addr) (c0_2 : Nat) (l0_2 : List Int) (a0_3 : Bool) (a1 : Int) (r : Bool) (w : World) (hr0_2 : Kd.C (Kd.int .i64) w A0_2 l0_2.length l0_2) (hc0_2 : l0_2.length ≤ c0_2) (h : impl_Interval_needs.f a0_0 a0_1 l0_2 a0_3 a1 = some r) :
  Calls Try.prog 90 #[.agg #[.int .i64 a0_0, .int .i64 a0_1, .slice A0_2 l0_2.length c0_2, .bool a0_3], .int .i64 a1] w fun e w' => e = .returned (.bool r) ∧ Below w.heap.size w w' := by
 have hu43 := Try.underlying43
 have HR0_2 := am hr0_2
 have HC0_2 := am hc0_2
 clear hr0_2 hc0_2
 have HB := am (Below.refl w.heap.size w)
 have H : (if a0_3 = true then (if a0_0 ≥ a1 then (some true) else (some (a0_0 == a1))) else (some (a0_0 == a1))) = some r := h
 clear h
 by_cases c3 : a0_3 = true
 ·subst c3
  have H1 : (if a0_0 ≥ a1 then (some true) else (some (a0_0 == a1))) = some r := by rw [if_pos rfl] at H; exact H
  clear H
  have H := H1
  clear H1
  by_cases c4 : a0_0 ≥ a1
  ·rw [if_pos c4] at H
   have c4b0 : decide (a1 ≤ a0_0) = true := decide_eq_true c4
   clear c4
   obtain rfl := Option.some.inj H
   go_enter Try.func90, Try.ntmps90
   go_wp2_with (first | ((with_reducible refine gate_dst (N := 2) rfl ?_); refine box_event ?hg (N := 2) ?hd (cs := #[.int .i64 a0_0, .int .i64 a0_1, .slice A0_2 l0_2.length c0_2, .bool true]) (t := 43) ?hr ?_; (case hd => rfl); (case hg => rfl); (case hr => first | (go_simp; done) | (go_simp; rfl)); intro gb196 hg w5 hbox hb; have n0_ := am (below_step (by repeat (first | (with_reducible first | exact HB.out | apply bal | apply pdn | apply bd1) | exact HB.out)) hb); have n1_ := am (hbox); have n2_ := am ((by rw [hg]; exact (below_size (by repeat (first | (with_reducible first | exact HB.out | apply bal | apply pdn | apply bd1) | exact HB.out))) : w.heap.size ≤ gb196)); have n3_ := am ((by rw [hg]; exact (below_size (by repeat (first | (with_reducible first | exact HB.out | apply bal | apply pdn | apply bd1) | exact HB.out))) : w.heap.size ≤ gb196)); clear HB; have HB := n0_; have BK196 := n1_; have GW196 := n2_; have GE196 := n3_; clear n0_ n1_ n2_ n3_; clear hb hbox hg; have hcz6_0 : w5.cell? ⟨gb196, 0, none⟩ = some (.int .i64 a0_0) := (kce BK196.out 0).trans rfl; have hcz6_1 : w5.cell? ⟨gb196, 1, none⟩ = some (.int .i64 a0_1) := (kce BK196.out 1).trans rfl; have hcz6_2 : w5.cell? ⟨gb196, 2, none⟩ = some (.slice A0_2 l0_2.length c0_2) := (kce BK196.out 2).trans rfl; have hcz6_3 : w5.cell? ⟨gb196, 3, none⟩ = some (.bool true) := (kce BK196.out 3).trans rfl; have hfz6_0 := kfr BK196.out 0; have hfz6_1 := kfr BK196.out 1; have hfz6_2 := kfr BK196.out 2; have hfz6_3 := kfr BK196.out 3))
   go_ret
   exact ⟨by first | rfl | (simp [errW_none, errW_some] <;> rfl) | (simp [*, errW_none, errW_some] <;> rfl), by repeat (first | (with_reducible first | exact HB.out | apply bal | apply pdn | apply bd1 | refine bst ?_ GE196.out) | exact HB.out)⟩
  ·rw [if_neg c4] at H
   have c4b0 : decide (a1 ≤ a0_0) = false := decide_eq_false c4
   clear c4
   obtain rfl := Option.some.inj H
   go_enter Try.func90, Try.ntmps90
   go_wp2_with (first | ((with_reducible refine gate_dst (N := 2) rfl ?_); refine box_event ?hg (N := 2) ?hd (cs := #[.int .i64 a0_0, .int .i64 a0_1, .slice A0_2 l0_2.length c0_2, .bool true]) (t := 43) ?hr ?_; (case hd => rfl); (case hg => rfl); (case hr => first | (go_simp; done) | (go_simp; rfl)); intro gb196 hg w7 hbox hb; have n0_ := am (below_step (by repeat (first | (with_reducible first | exact HB.out | apply bal | apply pdn | apply bd1) | exact HB.out)) hb); have n1_ := am (hbox); have n2_ := am ((by rw [hg]; exact (below_size (by repeat (first | (with_reducible first | exact HB.out | apply bal | apply pdn | apply bd1) | exact HB.out))) : w.heap.size ≤ gb196)); have n3_ := am ((by rw [hg]; exact (below_size (by repeat (first | (with_reducible first | exact HB.out | apply bal | apply pdn | apply bd1) | exact HB.out))) : w.heap.size ≤ gb196)); clear HB; have HB := n0_; have BK196 := n1_; have GW196 := n2_; have GE196 := n3_; clear n0_ n1_ n2_ n3_; clear hb hbox hg; have hcz8_0 : w7.cell? ⟨gb196, 0, none⟩ = some (.int .i64 a0_0) := (kce BK196.out 0).trans rfl; have hcz8_1 : w7.cell? ⟨gb196, 1, none⟩ = some (.int .i64 a0_1) := (kce BK196.out 1).trans rfl; have hcz8_2 : w7.cell? ⟨gb196, 2, none⟩ = some (.slice A0_2 l0_2.length c0_2) := (kce BK196.out 2).trans rfl; have hcz8_3 : w7.cell? ⟨gb196, 3, none⟩ = some (.bool true) := (kce BK196.out 3).trans rfl; have hfz8_0 := kfr BK196.out 0; have hfz8_1 := kfr BK196.out 1; have hfz8_2 := kfr BK196.out 2; have hfz8_3 := kfr BK196.out 3))
   go_ret
   exact ⟨by first | rfl | (simp [errW_none, errW_some] <;> rfl) | (simp [*, errW_none, errW_some] <;> rfl), by repeat (first | (with_reducible first | exact HB.out | apply bal | apply pdn | apply bd1 | refine bst ?_ GE196.out) | exact HB.out)⟩
 ·replace c3 := Bool.eq_false_iff.mpr c3
  subst c3
  have H1 : (some (a0_0 == a1)) = some r := by rw [if_neg (show ¬ (false = true) by decide)] at H; exact H
  clear H
  have H := H1
  clear H1
  obtain rfl := Option.some.inj H
  go_enter Try.func90, Try.ntmps90
  go_wp2_with (first | ((with_reducible refine gate_dst (N := 2) rfl ?_); refine box_event ?hg (N := 2) ?hd (cs := #[.int .i64 a0_0, .int .i64 a0_1, .slice A0_2 l0_2.length c0_2, .bool false]) (t := 43) ?hr ?_; (case hd => rfl); (case hg => rfl); (case hr => first | (go_simp; done) | (go_simp; rfl)); intro gb196 hg w9 hbox hb; have n0_ := am (below_step (by repeat (first | (with_reducible first | exact HB.out | apply bal | apply pdn | apply bd1) | exact HB.out)) hb); have n1_ := am (hbox); have n2_ := am ((by rw [hg]; exact (below_size (by repeat (first | (with_reducible first | exact HB.out | apply bal | apply pdn | apply bd1) | exact HB.out))) : w.heap.size ≤ gb196)); have n3_ := am ((by rw [hg]; exact (below_size (by repeat (first | (with_reducible first | exact HB.out | apply bal | apply pdn | apply bd1) | exact HB.out))) : w.heap.size ≤ gb196)); clear HB; have HB := n0_; have BK196 := n1_; have GW196 := n2_; have GE196 := n3_; clear n0_ n1_ n2_ n3_; clear hb hbox hg; have hcz10_0 : w9.cell? ⟨gb196, 0, none⟩ = some (.int .i64 a0_0) := (kce BK196.out 0).trans rfl; have hcz10_1 : w9.cell? ⟨gb196, 1, none⟩ = some (.int .i64 a0_1) := (kce BK196.out 1).trans rfl; have hcz10_2 : w9.cell? ⟨gb196, 2, none⟩ = some (.slice A0_2 l0_2.length c0_2) := (kce BK196.out 2).trans rfl; have hcz10_3 : w9.cell? ⟨gb196, 3, none⟩ = some (.bool false) := (kce BK196.out 3).trans rfl; have hfz10_0 := kfr BK196.out 0; have hfz10_1 := kfr BK196.out 1; have hfz10_2 := kfr BK196.out 2; have hfz10_3 := kfr BK196.out 3))
  go_ret
  exact ⟨by first | rfl | (simp [errW_none, errW_some] <;> rfl) | (simp [*, errW_none, errW_some] <;> rfl), by repeat (first | (with_reducible first | exact HB.out | apply bal | apply pdn | apply bd1 | refine bst ?_ GE196.out) | exact HB.out)⟩

/-! ### impl_heardEnough: function 67 -/
set_option maxHeartbeats 4000000 in
set_option maxRecDepth 100000 in
theorem impl_heardEnough.c1.index (b1 : Addr) (p : S43 → Bool) (A0 : Option Addr) (c0 : Nat) (l0 : List S43) (w : World) (hr0 : Kd.C k43 w A0 l0.length l0)
  (hp : ∀ (W : World) (x : S43) (B2 : Option Addr) (d2 : Nat), Below w.heap.size w W → x ∈ l0 → x.f2.length ≤ d2 → (Kd.int .i64).C W B2 x.f2.length x.f2 → Calls Try.prog 88 #[.agg #[.int .i64 x.f0, .int .i64 x.f1, .slice B2 x.f2.length d2, .bool x.f3], .pointer (some b1)] W fun e w' => e = .returned (.bool (p x)) ∧ Below w.heap.size w w') :
  Calls Try.prog 109 #[.slice A0 l0.length c0, .func (.func 88) #[] #[.pointer (some b1)]] w fun e w' => e = .returned (.int .i64 (idxP p l0 0)) ∧ Below w.heap.size w w' := by
 have HR0 := am hr0
 have HP := am hp
 have hm : l0.length ≤ 9223372036854775807 := hr0.2.1
 clear hr0 hp
 go_enter Try.func109, Try.ntmps109
 go_wp2
 go_loopg [5, 8] l0.length (fun gg _ s8 wr => ∃ kk : Nat, kk ≤ l0.length ∧ l0.length - kk ≤ gg ∧ s8 = .int .i64 kk ∧ Aside0 (Below w.heap.size w wr) ∧ Aside0 (idxP p l0 0 = idxP p (l0.drop kk) kk))
 case atStart => exact ⟨0, Nat.zero_le _, by omega, rfl, ⟨Below.refl _ w⟩, ⟨rfl⟩⟩
 case round =>
  obtain ⟨kk, hkk, hg, rfl, BW, AI⟩ := hrel
  by_cases hlt : kk < l0.length
  ·have hltz : (kk : Int) < (l0.length : Int) := by omega
   obtain ⟨ad, B2, d2, e, hx0, hx1, hx2, hx3, hl2, hi2⟩ := at_T43 HR0.out (kk : Int) (by omega) hltz
   cases e
   rw [Int.toNat_natCast] at hx0
   replace hx0 := (BW.out.cell (blc w _ hx0)).trans hx0
   rw [Int.toNat_natCast] at hx1
   replace hx1 := (BW.out.cell (blc w _ hx1)).trans hx1
   rw [Int.toNat_natCast] at hx2
   replace hx2 := (BW.out.cell (blc w _ hx2)).trans hx2
   rw [Int.toNat_natCast] at hx3
   replace hx3 := (BW.out.cell (blc w _ hx3)).trans hx3
   have HE : Aside0 (rd_T43 l0 (kk : Int) = l0[kk]) := ⟨by simp [rd_T43, List.getD_eq_getElem?_getD, List.getElem?_eq_getElem hlt]⟩
   have hcall := HP.out wr (rd_T43 l0 (kk : Int)) B2 d2 BW.out (by rw [HE.out]; exact List.getElem_mem hlt) hl2 (Kd.C_below hi2 BW.out)
   clear hl2 hi2
   have HD := am (idxP_drop p l0 kk hlt)
   generalize rd_T43 l0 (kk : Int) = y at hx0 hx1 hx2 hx3 hcall HE
   cases hq : p y with
   | true =>
    rw [hq] at hcall
    have HQ := am hq
    clear hq
    go_wp2_with (go_at_call 88; refine hcall.mono ?_; rintro e w' ⟨rfl, hb'⟩)
    go_ret
    refine ⟨?_, hb'⟩
    rw [AI.out, HD.out, ← HE.out, if_pos HQ.out]
    rfl
   | false =>
    rw [hq] at hcall
    have HQ := am hq
    clear hq
    go_wp2_with (go_at_call 88; refine hcall.mono ?_; rintro e w' ⟨rfl, hb'⟩)
    go_roundg (l0.length - (kk + 1))
    case measure => omega
    case rel => exact ⟨kk + 1, by omega, by omega, by go_num, ⟨hb'⟩, ⟨by rw [AI.out, HD.out, ← HE.out, HQ.out]; rfl⟩⟩
  ·have hltz : ¬ (kk : Int) < (l0.length : Int) := by omega
   go_wp2
   go_ret
   refine ⟨?_, BW.out⟩
   rw [AI.out, List.drop_of_length_le (by omega)]
   rfl
set_option maxHeartbeats 2000000 in
theorem impl_heardEnough.c1.contains (b1 : Addr) (p : S43 → Bool) (A0 : Option Addr) (c0 : Nat) (l0 : List S43) (w : World) (hr0 : Kd.C k43 w A0 l0.length l0)
  (hp : ∀ (W : World) (x : S43) (B2 : Option Addr) (d2 : Nat), Below w.heap.size w W → x ∈ l0 → x.f2.length ≤ d2 → (Kd.int .i64).C W B2 x.f2.length x.f2 → Calls Try.prog 88 #[.agg #[.int .i64 x.f0, .int .i64 x.f1, .slice B2 x.f2.length d2, .bool x.f3], .pointer (some b1)] W fun e w' => e = .returned (.bool (p x)) ∧ Below w.heap.size w w') :
  Calls Try.prog 87 #[.slice A0 l0.length c0, .func (.func 88) #[] #[.pointer (some b1)]] w fun e w' => e = .returned (.bool (l0.any p)) ∧ Below w.heap.size w w' := by
 have HI := impl_heardEnough.c1.index b1 p A0 c0 l0 w hr0 hp
 have HQ := am (idxP_dec p l0)
 clear hr0 hp
 generalize idxP p l0 0 = q at HI HQ
 generalize l0.any p = b at HQ
 go_enter Try.func87, Try.ntmps87
 go_wp2_with (go_at_call 109; refine HI.mono ?_; rintro e w' ⟨rfl, hb⟩)
 go_ret
 exact ⟨by rw [← HQ.out]; rfl, hb⟩
set_option maxHeartbeats 4000000 in
set_option maxRecDepth 100000 in
theorem impl_heardEnough.c2.index (b1 b2 b3 : Addr) (p : S43 → Bool) (A0 : Option Addr) (c0 : Nat) (l0 : List S43) (w : World) (hr0 : Kd.C k43 w A0 l0.length l0)
  (hp : ∀ (W : World) (x : S43) (B2 : Option Addr) (d2 : Nat), Below w.heap.size w W → x ∈ l0 → x.f2.length ≤ d2 → (Kd.int .i64).C W B2 x.f2.length x.f2 → Calls Try.prog 89 #[.agg #[.int .i64 x.f0, .int .i64 x.f1, .slice B2 x.f2.length d2, .bool x.f3], .pointer (some b1), .pointer (some b2), .pointer (some b3)] W fun e w' => e = .returned (.bool (p x)) ∧ Below w.heap.size w w') :
  Calls Try.prog 109 #[.slice A0 l0.length c0, .func (.func 89) #[] #[.pointer (some b1), .pointer (some b2), .pointer (some b3)]] w fun e w' => e = .returned (.int .i64 (idxP p l0 0)) ∧ Below w.heap.size w w' := by
 have HR0 := am hr0
 have HP := am hp
 have hm : l0.length ≤ 9223372036854775807 := hr0.2.1
 clear hr0 hp
 go_enter Try.func109, Try.ntmps109
 go_wp2
 go_loopg [5, 8] l0.length (fun gg _ s8 wr => ∃ kk : Nat, kk ≤ l0.length ∧ l0.length - kk ≤ gg ∧ s8 = .int .i64 kk ∧ Aside0 (Below w.heap.size w wr) ∧ Aside0 (idxP p l0 0 = idxP p (l0.drop kk) kk))
 case atStart => exact ⟨0, Nat.zero_le _, by omega, rfl, ⟨Below.refl _ w⟩, ⟨rfl⟩⟩
 case round =>
  obtain ⟨kk, hkk, hg, rfl, BW, AI⟩ := hrel
  by_cases hlt : kk < l0.length
  ·have hltz : (kk : Int) < (l0.length : Int) := by omega
   obtain ⟨ad, B2, d2, e, hx0, hx1, hx2, hx3, hl2, hi2⟩ := at_T43 HR0.out (kk : Int) (by omega) hltz
   cases e
   rw [Int.toNat_natCast] at hx0
   replace hx0 := (BW.out.cell (blc w _ hx0)).trans hx0
   rw [Int.toNat_natCast] at hx1
   replace hx1 := (BW.out.cell (blc w _ hx1)).trans hx1
   rw [Int.toNat_natCast] at hx2
   replace hx2 := (BW.out.cell (blc w _ hx2)).trans hx2
   rw [Int.toNat_natCast] at hx3
   replace hx3 := (BW.out.cell (blc w _ hx3)).trans hx3
   have HE : Aside0 (rd_T43 l0 (kk : Int) = l0[kk]) := ⟨by simp [rd_T43, List.getD_eq_getElem?_getD, List.getElem?_eq_getElem hlt]⟩
   have hcall := HP.out wr (rd_T43 l0 (kk : Int)) B2 d2 BW.out (by rw [HE.out]; exact List.getElem_mem hlt) hl2 (Kd.C_below hi2 BW.out)
   clear hl2 hi2
   have HD := am (idxP_drop p l0 kk hlt)
   generalize rd_T43 l0 (kk : Int) = y at hx0 hx1 hx2 hx3 hcall HE
   cases hq : p y with
   | true =>
    rw [hq] at hcall
    have HQ := am hq
    clear hq
    go_wp2_with (go_at_call 89; refine hcall.mono ?_; rintro e w' ⟨rfl, hb'⟩)
    go_ret
    refine ⟨?_, hb'⟩
    rw [AI.out, HD.out, ← HE.out, if_pos HQ.out]
    rfl
   | false =>
    rw [hq] at hcall
    have HQ := am hq
    clear hq
    go_wp2_with (go_at_call 89; refine hcall.mono ?_; rintro e w' ⟨rfl, hb'⟩)
    go_roundg (l0.length - (kk + 1))
    case measure => omega
    case rel => exact ⟨kk + 1, by omega, by omega, by go_num, ⟨hb'⟩, ⟨by rw [AI.out, HD.out, ← HE.out, HQ.out]; rfl⟩⟩
  ·have hltz : ¬ (kk : Int) < (l0.length : Int) := by omega
   go_wp2
   go_ret
   refine ⟨?_, BW.out⟩
   rw [AI.out, List.drop_of_length_le (by omega)]
   rfl
set_option maxHeartbeats 2000000 in
theorem impl_heardEnough.c2.contains (b1 b2 b3 : Addr) (p : S43 → Bool) (A0 : Option Addr) (c0 : Nat) (l0 : List S43) (w : World) (hr0 : Kd.C k43 w A0 l0.length l0)
  (hp : ∀ (W : World) (x : S43) (B2 : Option Addr) (d2 : Nat), Below w.heap.size w W → x ∈ l0 → x.f2.length ≤ d2 → (Kd.int .i64).C W B2 x.f2.length x.f2 → Calls Try.prog 89 #[.agg #[.int .i64 x.f0, .int .i64 x.f1, .slice B2 x.f2.length d2, .bool x.f3], .pointer (some b1), .pointer (some b2), .pointer (some b3)] W fun e w' => e = .returned (.bool (p x)) ∧ Below w.heap.size w w') :
  Calls Try.prog 87 #[.slice A0 l0.length c0, .func (.func 89) #[] #[.pointer (some b1), .pointer (some b2), .pointer (some b3)]] w fun e w' => e = .returned (.bool (l0.any p)) ∧ Below w.heap.size w w' := by
 have HI := impl_heardEnough.c2.index b1 b2 b3 p A0 c0 l0 w hr0 hp
 have HQ := am (idxP_dec p l0)
 clear hr0 hp
 generalize idxP p l0 0 = q at HI HQ
 generalize l0.any p = b at HQ
 go_enter Try.func87, Try.ntmps87
 go_wp2_with (go_at_call 109; refine HI.mono ?_; rintro e w' ⟨rfl, hb⟩)
 go_ret
 exact ⟨by rw [← HQ.out]; rfl, hb⟩
def impl_heardEnough.need (x : S43) (s : Int) : Bool := (x.f3 && decide (x.f0 ≥ s)) || (x.f0 == s)
/-- Which of an interval's nodes were heard. -/
def impl_heardEnough.hl (x : S43) (h : List Int) : List Int := (impl_heardOf.f x.f2 h).getD []
def impl_heardEnough.few (k s : Int) (h : List Int) (x : S43) : Bool := impl_heardEnough.need x s && decide (((impl_heardEnough.hl x h).length : Int) < k)
def impl_heardEnough.f (l0 : List S43) (a1 : Int) (a2 : Int) (l3 : List Int) : Option Bool :=
 if (l0.all fun x => (impl_heardOf.f x.f2 l3).isSome) = true then some (!(decide (0 < a2) && !l0.any fun x => (x.f0 == a2)) && !l0.any (impl_heardEnough.few a1 a2 l3)) else none
theorem impl_heardEnough.needs_eq (x : S43) (s : Int) : impl_Interval_needs.f x.f0 x.f1 x.f2 x.f3 s = some (impl_heardEnough.need x s) := by
 unfold impl_Interval_needs.f impl_heardEnough.need
 cases x.f3 <;> by_cases h : x.f0 ≥ s <;> simp [h]
theorem impl_heardEnough.newc (W : World) (v : Value) (t : TypeId) : (W.alloc (.cells #[v] t)).cell? ⟨W.heap.size, 0, none⟩ = some v := by simp
set_option maxHeartbeats 2000000 in
theorem impl_heardEnough.pred1 (x : S43) (B : Option Addr) (d : Nat) (b : Addr) (s : Int) (W : World) (hc : W.cell? b = some (.int .i64 s)) :
  Calls Try.prog 88 #[.agg #[.int .i64 x.f0, .int .i64 x.f1, .slice B x.f2.length d, .bool x.f3], .pointer (some b)] W fun e w' => e = .returned (.bool (x.f0 == s)) ∧ Below W.heap.size W w' := by
 have hc' : (W.alloc (.cells #[.int .i64 x.f0, .int .i64 x.f1, .slice B x.f2.length d, .bool x.f3] 43)).cell? b = some (.int .i64 s) := (((Below.refl W.heap.size W).alloc (Nat.le_refl _) _).cell (blc W _ hc)).trans hc
 have HB := am ((Below.refl W.heap.size W).alloc (Nat.le_refl _) (.cells #[.int .i64 x.f0, .int .i64 x.f1, .slice B x.f2.length d, .bool x.f3] 43))
 clear hc
 go_enter Try.func88, Try.ntmps88
 go_wp2
 go_ret
 exact ⟨rfl, by repeat (first | exact HB.out | apply pdn)⟩
set_option maxHeartbeats 4000000 in
set_option maxRecDepth 100000 in
theorem impl_heardEnough.pred2 (x : S43) (B : Option Addr) (d : Nat) (hd : x.f2.length ≤ d) (b1 b2 b3 : Addr) (k s : Int) (A : Option Addr) (c : Nat) (h : List Int) (hc : h.length ≤ c) (W : World)
  (hx : Kd.C (Kd.int .i64) W B x.f2.length x.f2) (hh : Kd.C (Kd.int .i64) W A h.length h)
  (h1 : W.cell? b1 = some (.int .i64 s)) (h2 : W.cell? b2 = some (.slice A h.length c)) (h3 : W.cell? b3 = some (.int .i64 k)) (hs : (impl_heardOf.f x.f2 h).isSome = true) :
  Calls Try.prog 89 #[.agg #[.int .i64 x.f0, .int .i64 x.f1, .slice B x.f2.length d, .bool x.f3], .pointer (some b1), .pointer (some b2), .pointer (some b3)] W fun e w' => e = .returned (.bool (impl_heardEnough.few k s h x)) ∧ Below W.heap.size W w' := by
 obtain ⟨W1, hW1⟩ : ∃ W1, W1 = W.alloc (.cells #[.int .i64 x.f0, .int .i64 x.f1, .slice B x.f2.length d, .bool x.f3] 43) := ⟨_, rfl⟩
 have hB : Below W.heap.size W W1 := by rw [hW1]; exact (Below.refl _ _).alloc (Nat.le_refl _) _
 have HS : Aside0 (∀ w', Below W1.heap.size W1 w' → (w'.cell? ⟨W.heap.size, 0, none⟩ = some (.int .i64 x.f0) ∧ w'.cell? ⟨W.heap.size, 1, none⟩ = some (.int .i64 x.f1) ∧ w'.cell? ⟨W.heap.size, 2, none⟩ = some (.slice B x.f2.length d) ∧ w'.cell? ⟨W.heap.size, 3, none⟩ = some (.bool x.f3) ∧ w'.cell? b1 = some (.int .i64 s) ∧ w'.cell? b2 = some (.slice A h.length c) ∧ w'.cell? b3 = some (.int .i64 k) ∧ Below W1.heap.size W1 w')) := ⟨fun w' hb => by
  have e : ∀ (p : Addr) (v : Value), W1.cell? p = some v → w'.cell? p = some v := fun p v hp => (hb.cell (blc W1 p hp)).trans hp
  have e2 : ∀ (p : Addr) (v : Value), W.cell? p = some v → W1.cell? p = some v := fun p v hp => (hB.cell (blc W p hp)).trans hp
  exact ⟨e _ _ (by rw [hW1]; simp), e _ _ (by rw [hW1]; simp), e _ _ (by rw [hW1]; simp), e _ _ (by rw [hW1]; simp), e _ _ (e2 _ _ h1), e _ _ (e2 _ _ h2), e _ _ (e2 _ _ h3), hb⟩⟩
 obtain ⟨r, hr⟩ := Option.isSome_iff_exists.1 hs
 have HF : Aside0 (impl_heardEnough.few k s h x = (impl_heardEnough.need x s && decide ((r.length : Int) < k))) := ⟨by unfold impl_heardEnough.few impl_heardEnough.hl; rw [hr]; rfl⟩
 have HC : Aside0 (∀ w', Below W1.heap.size W1 w' → Calls Try.prog 64 #[.slice B x.f2.length d, .slice A h.length c] w' fun e w2 => ∃ (A3 : Option Addr) (c3 : Nat), e = .returned (.slice A3 r.length c3) ∧ Below W1.heap.size W1 w2) := ⟨fun w' hb => by
  refine (impl_heardOf.calls B d x.f2 A c h r w' (Kd.C_below (Kd.C_below hx hB) hb) hd (Kd.C_below (Kd.C_below hh hB) hb) hc hr).mono ?_
  rintro e w2 ⟨v, rfl, hR, hb2⟩
  obtain ⟨A3, c3, rfl, _⟩ := Kd.R_reads hR
  exact ⟨A3, c3, rfl, hb.trans (hb2.mono hb.size)⟩⟩
 have HN : Aside0 (∀ w', Below W1.heap.size W1 w' → Calls Try.prog 90 #[.agg #[.int .i64 x.f0, .int .i64 x.f1, .slice B x.f2.length d, .bool x.f3], .int .i64 s] w' fun e w2 => e = .returned (.bool (impl_heardEnough.need x s)) ∧ Below W1.heap.size W1 w2) := ⟨fun w' hb => by
  refine (impl_Interval_needs.calls x.f0 x.f1 B d x.f2 x.f3 s _ w' (Kd.C_below (Kd.C_below hx hB) hb) hd (impl_heardEnough.needs_eq x s)).mono ?_
  rintro e w2 ⟨rfl, hb2⟩
  exact ⟨rfl, hb.trans (hb2.mono hb.size)⟩⟩
 generalize impl_heardEnough.need x s = nb at HN HF
 have HB := am hB
 clear hB hx hh h1 h2 h3 hs hr hc hd
 subst hW1
 cases nb with
 | false =>
  go_enter Try.func89, Try.ntmps89
  go_wp2
  refine start_ (n := 13) (S := fun w' => w'.cell? ⟨W.heap.size, 0, none⟩ = some (.int .i64 x.f0) ∧ w'.cell? ⟨W.heap.size, 1, none⟩ = some (.int .i64 x.f1) ∧ w'.cell? ⟨W.heap.size, 2, none⟩ = some (.slice B x.f2.length d) ∧ w'.cell? ⟨W.heap.size, 3, none⟩ = some (.bool x.f3) ∧ w'.cell? b1 = some (.int .i64 s) ∧ w'.cell? b2 = some (.slice A h.length c) ∧ w'.cell? b3 = some (.int .i64 k) ∧ Below (W.alloc (.cells #[.int .i64 x.f0, .int .i64 x.f1, .slice B x.f2.length d, .bool x.f3] 43)).heap.size (W.alloc (.cells #[.int .i64 x.f0, .int .i64 x.f1, .slice B x.f2.length d, .bool x.f3] 43)) w') (ds := []) #[false, false, false, false, false, false, false, false, false, false, false, false, false] (by kernel_rfl) rfl rfl (HS.out _ (below_drew (Below.refl _ _))) (fun hHeld => ?_)
  refine take_ (i := 0) (N := some 6) (v := ?_) (a' := ?_) #[true, false, false, false, false, false, false, false, false, false, false, false, false] rfl rfl (by kernel_rfl) (fun _ _ _ h => h) (Or.inl ⟨by rfl, ?_⟩) hHeld ?_ ?_
  rotate_left
  ·rintro w' ⟨s0, s1, s2, s3, s4, s5, s6, s7⟩
   go_simp
   with_reducible rfl
  rotate_left
  ·simp only [Act.put, sit, scz, scs, i64_w, i32_w]
   rfl
  refine take_ (i := 1) (N := some 7) (v := ?_) (a' := ?_) #[true, true, false, false, false, false, false, false, false, false, false, false, false] rfl rfl (by kernel_rfl) (fun _ _ _ h => h) (Or.inl ⟨by rfl, ?_⟩) hHeld ?_ ?_
  rotate_left
  ·rintro w' ⟨s0, s1, s2, s3, s4, s5, s6, s7⟩
   go_simp
   with_reducible rfl
  rotate_left
  ·simp only [Act.put, sit, scz, scs, i64_w, i32_w]
   rfl
  refine one_ (i := 2) (N := some 8) #[true, true, true, false, false, false, false, false, false, false, false, false, false] rfl rfl (by kernel_rfl) (by decide) (fun K hK => ?_)
  refine goes_ Try.func90 (by kernel_rfl) rfl #[.agg #[.int .i64 x.f0, .int .i64 x.f1, .slice B x.f2.length d, .bool x.f3], .int .i64 s] (by rfl) rfl rfl (by (try simp only [mta, mco, mni]); first | done | rfl) ?_
  refine (HN.out _ hHeld.2.2.2.2.2.2.2).mono ?_
  rintro e w2 ⟨rfl, hb2⟩
  refine ⟨_, rfl, ?_⟩
  refine hK.out _ _ (HS.out _ hb2) (fun hHeld => ?_)
  clear hK K
  refine norm_ (a' := ?_) ?_ ?_
  rotate_left
  ·show Act.put _ (some 8) _ = _
   simp only [Act.put, sit, scz, scs, i64_w, i32_w]
   rfl
  refine pure_ (i := 3) (N := some 9) (v := ?_) (a' := ?_) #[true, true, true, true, false, false, false, false, false, false, false, false, false] rfl rfl (by kernel_rfl) (fun _ _ _ h => h) (Or.inl ⟨by rfl, ?_⟩) ?_ ?_
  rotate_left
  ·intro w'
   go_simp
   with_reducible rfl
  rotate_left
  ·simp only [Act.put, sit, scz, scs, i64_w, i32_w]
   rfl
  refine pure_ (i := 4) (N := some 10) (v := undef) (a' := ?_) #[true, true, true, true, true, false, false, false, false, false, false, false, false] rfl rfl (by kernel_rfl) (fun _ _ _ h => h) (Or.inr ⟨by rfl, rfl⟩) ?_ ?_
  rotate_left
  ·simp only [Act.put, sit, scz, scs, i64_w, i32_w]
   rfl
  refine pure_ (i := 5) (N := some 11) (v := undef) (a' := ?_) #[true, true, true, true, true, true, false, false, false, false, false, false, false] rfl rfl (by kernel_rfl) (fun _ _ _ h => h) (Or.inr ⟨by rfl, rfl⟩) ?_ ?_
  rotate_left
  ·simp only [Act.put, sit, scz, scs, i64_w, i32_w]
   rfl
  refine pure_ (i := 6) (N := some 12) (v := undef) (a' := ?_) #[true, true, true, true, true, true, true, false, false, false, false, false, false] rfl rfl (by kernel_rfl) (fun _ _ _ h => h) (Or.inr ⟨by rfl, rfl⟩) ?_ ?_
  rotate_left
  ·simp only [Act.put, sit, scz, scs, i64_w, i32_w]
   rfl
  refine pure_ (i := 7) (N := some 13) (v := undef) (a' := ?_) #[true, true, true, true, true, true, true, true, false, false, false, false, false] rfl rfl (by kernel_rfl) (fun _ _ _ h => h) (Or.inr ⟨by rfl, rfl⟩) ?_ ?_
  rotate_left
  ·simp only [Act.put, sit, scz, scs, i64_w, i32_w]
   rfl
  refine pure_ (i := 8) (N := some 14) (v := undef) (a' := ?_) #[true, true, true, true, true, true, true, true, true, false, false, false, false] rfl rfl (by kernel_rfl) (fun _ _ _ h => h) (Or.inr ⟨by rfl, rfl⟩) ?_ ?_
  rotate_left
  ·simp only [Act.put, sit, scz, scs, i64_w, i32_w]
   rfl
  refine pure_ (i := 9) (N := some 15) (v := undef) (a' := ?_) #[true, true, true, true, true, true, true, true, true, true, false, false, false] rfl rfl (by kernel_rfl) (fun _ _ _ h => h) (Or.inr ⟨by rfl, rfl⟩) ?_ ?_
  rotate_left
  ·simp only [Act.put, sit, scz, scs, i64_w, i32_w]
   rfl
  refine pure_ (i := 10) (N := some 16) (v := undef) (a' := ?_) #[true, true, true, true, true, true, true, true, true, true, true, false, false] rfl rfl (by kernel_rfl) (fun _ _ _ h => h) (Or.inr ⟨by rfl, rfl⟩) ?_ ?_
  rotate_left
  ·simp only [Act.put, sit, scz, scs, i64_w, i32_w]
   rfl
  refine pure_ (i := 11) (N := some 17) (v := ?_) (a' := ?_) #[true, true, true, true, true, true, true, true, true, true, true, true, false] rfl rfl (by kernel_rfl) (fun _ _ _ h => h) (Or.inl ⟨by rfl, ?_⟩) ?_ ?_
  rotate_left
  ·intro w'
   go_simp
   with_reducible rfl
  rotate_left
  ·simp only [Act.put, sit, scz, scs, i64_w, i32_w]
   rfl
  refine pure_ (i := 12) (N := some 5) (v := ?_) (a' := ?_) #[true, true, true, true, true, true, true, true, true, true, true, true, true] rfl rfl (by kernel_rfl) (fun _ _ _ h => h) (Or.inl ⟨by rfl, ?_⟩) ?_ ?_
  rotate_left
  ·intro w'
   go_simp
   with_reducible rfl
  rotate_left
  ·simp only [Act.put, sit, scz, scs, i64_w, i32_w]
   rfl
  refine done_ (by kernel_rfl) ?_
  go_wp2
  go_ret
  exact ⟨by rw [HF.out]; first | rfl | simp, HB.out.trans (hHeld.2.2.2.2.2.2.2.mono HB.out.size)⟩
 | true =>
  go_enter Try.func89, Try.ntmps89
  go_wp2
  refine start_ (n := 13) (S := fun w' => w'.cell? ⟨W.heap.size, 0, none⟩ = some (.int .i64 x.f0) ∧ w'.cell? ⟨W.heap.size, 1, none⟩ = some (.int .i64 x.f1) ∧ w'.cell? ⟨W.heap.size, 2, none⟩ = some (.slice B x.f2.length d) ∧ w'.cell? ⟨W.heap.size, 3, none⟩ = some (.bool x.f3) ∧ w'.cell? b1 = some (.int .i64 s) ∧ w'.cell? b2 = some (.slice A h.length c) ∧ w'.cell? b3 = some (.int .i64 k) ∧ Below (W.alloc (.cells #[.int .i64 x.f0, .int .i64 x.f1, .slice B x.f2.length d, .bool x.f3] 43)).heap.size (W.alloc (.cells #[.int .i64 x.f0, .int .i64 x.f1, .slice B x.f2.length d, .bool x.f3] 43)) w') (ds := []) #[false, false, false, false, false, false, false, false, false, false, false, false, false] (by kernel_rfl) rfl rfl (HS.out _ (below_drew (Below.refl _ _))) (fun hHeld => ?_)
  refine take_ (i := 0) (N := some 6) (v := ?_) (a' := ?_) #[true, false, false, false, false, false, false, false, false, false, false, false, false] rfl rfl (by kernel_rfl) (fun _ _ _ h => h) (Or.inl ⟨by rfl, ?_⟩) hHeld ?_ ?_
  rotate_left
  ·rintro w' ⟨s0, s1, s2, s3, s4, s5, s6, s7⟩
   go_simp
   with_reducible rfl
  rotate_left
  ·simp only [Act.put, sit, scz, scs, i64_w, i32_w]
   rfl
  refine take_ (i := 1) (N := some 7) (v := ?_) (a' := ?_) #[true, true, false, false, false, false, false, false, false, false, false, false, false] rfl rfl (by kernel_rfl) (fun _ _ _ h => h) (Or.inl ⟨by rfl, ?_⟩) hHeld ?_ ?_
  rotate_left
  ·rintro w' ⟨s0, s1, s2, s3, s4, s5, s6, s7⟩
   go_simp
   with_reducible rfl
  rotate_left
  ·simp only [Act.put, sit, scz, scs, i64_w, i32_w]
   rfl
  refine one_ (i := 2) (N := some 8) #[true, true, true, false, false, false, false, false, false, false, false, false, false] rfl rfl (by kernel_rfl) (by decide) (fun K hK => ?_)
  refine goes_ Try.func90 (by kernel_rfl) rfl #[.agg #[.int .i64 x.f0, .int .i64 x.f1, .slice B x.f2.length d, .bool x.f3], .int .i64 s] (by rfl) rfl rfl (by (try simp only [mta, mco, mni]); first | done | rfl) ?_
  refine (HN.out _ hHeld.2.2.2.2.2.2.2).mono ?_
  rintro e w2 ⟨rfl, hb2⟩
  refine ⟨_, rfl, ?_⟩
  refine hK.out _ _ (HS.out _ hb2) (fun hHeld => ?_)
  clear hK K
  refine norm_ (a' := ?_) ?_ ?_
  rotate_left
  ·show Act.put _ (some 8) _ = _
   simp only [Act.put, sit, scz, scs, i64_w, i32_w]
   rfl
  refine pure_ (i := 3) (N := some 9) (v := ?_) (a' := ?_) #[true, true, true, true, false, false, false, false, false, false, false, false, false] rfl rfl (by kernel_rfl) (fun _ _ _ h => h) (Or.inl ⟨by rfl, ?_⟩) ?_ ?_
  rotate_left
  ·intro w'
   go_simp
   with_reducible rfl
  rotate_left
  ·simp only [Act.put, sit, scz, scs, i64_w, i32_w]
   rfl
  refine pure_ (i := 4) (N := some 10) (v := ?_) (a' := ?_) #[true, true, true, true, true, false, false, false, false, false, false, false, false] rfl rfl (by kernel_rfl) (fun _ _ _ h => h) (Or.inl ⟨by rfl, ?_⟩) ?_ ?_
  rotate_left
  ·intro w'
   go_simp
   with_reducible rfl
  rotate_left
  ·simp only [Act.put, sit, scz, scs, i64_w, i32_w]
   rfl
  refine take_ (i := 5) (N := some 11) (v := ?_) (a' := ?_) #[true, true, true, true, true, true, false, false, false, false, false, false, false] rfl rfl (by kernel_rfl) (fun _ _ _ h => h) (Or.inl ⟨by rfl, ?_⟩) hHeld ?_ ?_
  rotate_left
  ·rintro w' ⟨s0, s1, s2, s3, s4, s5, s6, s7⟩
   go_simp
   with_reducible rfl
  rotate_left
  ·simp only [Act.put, sit, scz, scs, i64_w, i32_w]
   rfl
  refine take_ (i := 6) (N := some 12) (v := ?_) (a' := ?_) #[true, true, true, true, true, true, true, false, false, false, false, false, false] rfl rfl (by kernel_rfl) (fun _ _ _ h => h) (Or.inl ⟨by rfl, ?_⟩) hHeld ?_ ?_
  rotate_left
  ·rintro w' ⟨s0, s1, s2, s3, s4, s5, s6, s7⟩
   go_simp
   with_reducible rfl
  rotate_left
  ·simp only [Act.put, sit, scz, scs, i64_w, i32_w]
   rfl
  refine take_ (i := 9) (N := some 15) (v := ?_) (a' := ?_) #[true, true, true, true, true, true, true, false, false, true, false, false, false] rfl rfl (by kernel_rfl) (fun _ _ _ h => h) (Or.inl ⟨by rfl, ?_⟩) hHeld ?_ ?_
  rotate_left
  ·rintro w' ⟨s0, s1, s2, s3, s4, s5, s6, s7⟩
   go_simp
   with_reducible rfl
  rotate_left
  ·simp only [Act.put, sit, scz, scs, i64_w, i32_w]
   rfl
  refine one_ (i := 7) (N := some 13) #[true, true, true, true, true, true, true, true, false, true, false, false, false] rfl rfl (by kernel_rfl) (by decide) (fun K hK => ?_)
  refine goes_ Try.func64 (by kernel_rfl) rfl #[.slice B x.f2.length d, .slice A h.length c] (by rfl) rfl rfl (by (try simp only [mta, mco, mni]); first | done | rfl) ?_
  refine (HC.out _ hHeld.2.2.2.2.2.2.2).mono ?_
  rintro e w2 ⟨A3, c3, rfl, hb2⟩
  refine ⟨_, rfl, ?_⟩
  refine hK.out _ _ (HS.out _ hb2) (fun hHeld => ?_)
  clear hK K
  refine norm_ (a' := ?_) ?_ ?_
  rotate_left
  ·show Act.put _ (some 13) _ = _
   simp only [Act.put, sit, scz, scs, i64_w, i32_w]
   rfl
  refine pure_ (i := 8) (N := some 14) (v := ?_) (a' := ?_) #[true, true, true, true, true, true, true, true, true, true, false, false, false] rfl rfl (by kernel_rfl) (fun _ _ _ h => h) (Or.inl ⟨by rfl, ?_⟩) ?_ ?_
  rotate_left
  ·intro w'
   go_simp
   with_reducible rfl
  rotate_left
  ·simp only [Act.put, sit, scz, scs, i64_w, i32_w]
   rfl
  refine pure_ (i := 10) (N := some 16) (v := ?_) (a' := ?_) #[true, true, true, true, true, true, true, true, true, true, true, false, false] rfl rfl (by kernel_rfl) (fun _ _ _ h => h) (Or.inl ⟨by rfl, ?_⟩) ?_ ?_
  rotate_left
  ·intro w'
   go_simp
   with_reducible rfl
  rotate_left
  ·simp only [Act.put, sit, scz, scs, i64_w, i32_w]
   rfl
  refine pure_ (i := 11) (N := some 17) (v := ?_) (a' := ?_) #[true, true, true, true, true, true, true, true, true, true, true, true, false] rfl rfl (by kernel_rfl) (fun _ _ _ h => h) (Or.inl ⟨by rfl, ?_⟩) ?_ ?_
  rotate_left
  ·intro w'
   go_simp
   with_reducible rfl
  rotate_left
  ·simp only [Act.put, sit, scz, scs, i64_w, i32_w]
   rfl
  refine pure_ (i := 12) (N := some 5) (v := ?_) (a' := ?_) #[true, true, true, true, true, true, true, true, true, true, true, true, true] rfl rfl (by kernel_rfl) (fun _ _ _ h => h) (Or.inl ⟨by rfl, ?_⟩) ?_ ?_
  rotate_left
  ·intro w'
   go_simp
   with_reducible rfl
  rotate_left
  ·simp only [Act.put, sit, scz, scs, i64_w, i32_w]
   rfl
  refine done_ (by kernel_rfl) ?_
  go_wp2
  go_ret
  exact ⟨by rw [HF.out]; first | rfl | simp, HB.out.trans (hHeld.2.2.2.2.2.2.2.mono HB.out.size)⟩
set_option maxHeartbeats 4000000 in
set_option maxRecDepth 100000 in
theorem impl_heardEnough.calls (A0 : Option Addr) (c0 : Nat) (l0 : List S43) (a1 : Int) (a2 : Int) (A3 : Option Addr) (c3 : Nat) (l3 : List Int) (r : Bool) (w : World) (hr0 : Kd.C k43 w A0 l0.length l0) (hc0 : l0.length ≤ c0) (hr3 : Kd.C (Kd.int .i64) w A3 l3.length l3) (hc3 : l3.length ≤ c3) (h : impl_heardEnough.f l0 a1 a2 l3 = some r) :
  Calls Try.prog 67 #[.slice A0 l0.length c0, .int .i64 a1, .int .i64 a2, .slice A3 l3.length c3] w fun e w' => e = .returned (.bool r) ∧ Below w.heap.size w w' := by
 have hs : (l0.all fun x => (impl_heardOf.f x.f2 l3).isSome) = true := by
  by_cases hs : (l0.all fun x => (impl_heardOf.f x.f2 l3).isSome) = true
  ·exact hs
  ·rw [impl_heardEnough.f, if_neg hs] at h; cases h
 rw [impl_heardEnough.f, if_pos hs] at h
 have HE := am (Option.some.inj h)
 clear h
 have hsx := List.all_eq_true.1 hs
 obtain ⟨W1, hW1⟩ : ∃ W1, W1 = ((w.alloc (.cells #[.int .i64 a1] 2)).alloc (.cells #[.int .i64 a2] 2)).alloc (.cells #[.slice A3 l3.length c3] 22) := ⟨_, rfl⟩
 have hB : Below w.heap.size w W1 := by rw [hW1]; exact (((Below.refl _ _).alloc (Nat.le_refl _) _).alloc (by simp) _).alloc (by simp; omega) _
 have hz0 : W1.cell? ⟨w.heap.size, 0, none⟩ = some (.int .i64 a1) := by
  rw [hW1, World.cell?_alloc_lt _ _ _ (by simp; omega), World.cell?_alloc_lt _ _ _ (by simp)]; simp
 have hz1 : W1.cell? ⟨w.heap.size + 1, 0, none⟩ = some (.int .i64 a2) := by
  rw [hW1, World.cell?_alloc_lt _ _ _ (by simp)]
  have := impl_heardEnough.newc (w.alloc (.cells #[.int .i64 a1] 2)) (.int .i64 a2) 2
  rwa [show (w.alloc (.cells #[.int .i64 a1] 2)).heap.size = w.heap.size + 1 by simp] at this
 have hz2 : W1.cell? ⟨w.heap.size + 2, 0, none⟩ = some (.slice A3 l3.length c3) := by
  rw [hW1]
  have := impl_heardEnough.newc ((w.alloc (.cells #[.int .i64 a1] 2)).alloc (.cells #[.int .i64 a2] 2)) (.slice A3 l3.length c3) 22
  rwa [show ((w.alloc (.cells #[.int .i64 a1] 2)).alloc (.cells #[.int .i64 a2] 2)).heap.size = w.heap.size + 2 by simp] at this
 have HI1 : Aside0 (∀ W, Below W1.heap.size W1 W → Calls Try.prog 87 #[.slice A0 l0.length c0, .func (.func 88) #[] #[.pointer (some ⟨w.heap.size + 1, 0, none⟩)]] W fun e w' => e = .returned (.bool (l0.any fun x => (x.f0 == a2))) ∧ Below W1.heap.size W1 w') := ⟨fun W hW => by
  refine (impl_heardEnough.c1.contains ⟨w.heap.size + 1, 0, none⟩ (fun x => (x.f0 == a2)) A0 c0 l0 W (Kd.C_below (Kd.C_below hr0 hB) hW) (fun W2 x B d hb _ hd hx => (impl_heardEnough.pred1 x B d _ a2 W2 ?_).mono fun e w' ⟨he, hw⟩ => ⟨he, hb.trans (hw.mono hb.size)⟩)).mono fun e w' ⟨he, hw⟩ => ⟨he, hW.trans (hw.mono hW.size)⟩
  have e1 := (hW.cell (blc W1 _ hz1)).trans hz1
  exact (hb.cell (blc W _ e1)).trans e1⟩
 have HI2 : Aside0 (∀ W, Below W1.heap.size W1 W → Calls Try.prog 87 #[.slice A0 l0.length c0, .func (.func 89) #[] #[.pointer (some ⟨w.heap.size + 1, 0, none⟩), .pointer (some ⟨w.heap.size + 2, 0, none⟩), .pointer (some ⟨w.heap.size, 0, none⟩)]] W fun e w' => e = .returned (.bool (l0.any (impl_heardEnough.few a1 a2 l3))) ∧ Below W1.heap.size W1 w') := ⟨fun W hW => by
  refine (impl_heardEnough.c2.contains ⟨w.heap.size + 1, 0, none⟩ ⟨w.heap.size + 2, 0, none⟩ ⟨w.heap.size, 0, none⟩ (impl_heardEnough.few a1 a2 l3) A0 c0 l0 W (Kd.C_below (Kd.C_below hr0 hB) hW) (fun W2 x B d hb hm hd hx => (impl_heardEnough.pred2 x B d hd _ _ _ a1 a2 A3 c3 l3 hc3 W2 hx (Kd.C_below (Kd.C_below (Kd.C_below hr3 hB) hW) hb) ?_ ?_ ?_ (hsx x hm)).mono fun e w' ⟨he, hw⟩ => ⟨he, hb.trans (hw.mono hb.size)⟩)).mono fun e w' ⟨he, hw⟩ => ⟨he, hW.trans (hw.mono hW.size)⟩
  ·have e1 := (hW.cell (blc W1 _ hz1)).trans hz1
   exact (hb.cell (blc W _ e1)).trans e1
  ·have e1 := (hW.cell (blc W1 _ hz2)).trans hz2
   exact (hb.cell (blc W _ e1)).trans e1
  ·have e1 := (hW.cell (blc W1 _ hz0)).trans hz0
   exact (hb.cell (blc W _ e1)).trans e1⟩
 generalize (l0.any fun x => (x.f0 == a2)) = N1 at HI1 HE
 generalize (l0.any (impl_heardEnough.few a1 a2 l3)) = N2 at HI2 HE
 have HB := am hB
 have HZ1 := am hz1
 clear hB hz0 hz1 hz2 hs hsx hr0 hr3 hc0 hc3
 subst hW1
 by_cases g : 0 < a2
 ·have g1 : decide (0 < a2) = true := decide_eq_true g
  have G := am g1
  clear g
  cases N1 with
  | true =>
   go_enter Try.func67, Try.ntmps67
   go_wp2_with (first | (go_at_call 87; (with_reducible refine (HI1.out _ (by first | exact Below.refl _ _ | exact pdn (Below.refl _ _) _)).mono ?_); rintro e w2 ⟨rfl, hb2⟩) | (go_at_call 87; (with_reducible refine (HI2.out _ hb2).mono ?_); rintro e w3 ⟨rfl, hb3⟩))
   go_ret
   exact ⟨by rw [← HE.out, G.out]; simp, HB.out.trans (hb3.mono HB.out.size)⟩
  | false =>
   go_enter Try.func67, Try.ntmps67
   go_wp2_with (first | (go_at_call 87; (with_reducible refine (HI1.out _ (by first | exact Below.refl _ _ | exact pdn (Below.refl _ _) _)).mono ?_); rintro e w2 ⟨rfl, hb2⟩))
   go_ret
   exact ⟨by rw [← HE.out, G.out]; simp, HB.out.trans (hb2.mono HB.out.size)⟩
 ·have g1 : decide (0 < a2) = false := decide_eq_false g
  have G := am g1
  clear g
  go_enter Try.func67, Try.ntmps67
  go_wp2_with (first | (go_at_call 87; (with_reducible refine (HI2.out _ (by first | exact Below.refl _ _ | exact pdn (Below.refl _ _) _)).mono ?_); rintro e w3 ⟨rfl, hb3⟩))
  go_ret
  exact ⟨by rw [← HE.out, G.out]; simp, HB.out.trans (hb3.mono HB.out.size)⟩

/-! ### impl_HeardEnough: function 42 -/
def impl_HeardEnough.f (k : Nat) (l0 : List (S43)) (a1 : Int) (a2 : Int) (l3 : List Int) : Option (Bool) := (impl_IntervalsOk.f k l0).bind fun t197 => (if t197 = true then ((impl_between.f a1 1 7).bind fun t198 => (if t198 = true then ((impl_heardOk.f k l3).bind fun t199 => (if t199 = true then ((impl_heardEnough.f l0 a1 a2 l3).bind fun t200 => (some t200)) else (some false))) else (some false))) else (some false))
theorem impl_HeardEnough.mono : ∀ a0 a1 a2 a3 k, LeO (impl_HeardEnough.f k a0 a1 a2 a3) (impl_HeardEnough.f (k + 1) a0 a1 a2 a3) := by
 intro a0 a1 a2 a3 k
 unfold impl_HeardEnough.f
 repeat' first
   | (with_reducible exact impl_IntervalsOk.mono _ _)
   | (with_reducible exact impl_heardOk.mono _ _)
   | (with_reducible exact LeO.refl _)
   | (with_reducible exact LeO.none _)
   | (with_reducible refine LeO.ite ?_ ?_)
   | (with_reducible refine LeO.bind ?_ (fun _ => ?_))
   | exact impl_IntervalsOk.mono _ _
   | exact impl_heardOk.mono _ _
   | exact LeO.none _
   | refine LeO.ite ?_ ?_
   | refine LeO.bind ?_ (fun _ => ?_)
set_option maxHeartbeats 8000000 in
set_option maxRecDepth 100000 in
theorem impl_HeardEnough.calls (k : Nat) (A0 : Option Addr) (c0 : Nat) (l0 : List (S43)) (a1 : Int) (a2 : Int) (A3 : Option Addr) (c3 : Nat) (l3 : List Int) (r : Bool) (w : World) (hr0 : Kd.C k43 w A0 l0.length l0) (hc0 : l0.length ≤ c0) (hr3 : Kd.C (Kd.int .i64) w A3 l3.length l3) (hc3 : l3.length ≤ c3) (h : impl_HeardEnough.f k l0 a1 a2 l3 = some r) :
  Calls Try.prog 42 #[.slice A0 l0.length c0, .int .i64 a1, .int .i64 a2, .slice A3 l3.length c3] w fun e w' => e = .returned (.bool r) ∧ Below w.heap.size w w' := by
 have HR0 := am hr0
 have HC0 := am hc0
 clear hr0 hc0
 have HR3 := am hr3
 have HC3 := am hc3
 clear hr3 hc3
 have HB := am (Below.refl w.heap.size w)
 have H : ((impl_IntervalsOk.f k l0).bind fun t197 => (if t197 = true then ((impl_between.f a1 1 7).bind fun t198 => (if t198 = true then ((impl_heardOk.f k l3).bind fun t199 => (if t199 = true then ((impl_heardEnough.f l0 a1 a2 l3).bind fun t200 => (some t200)) else (some false))) else (some false))) else (some false))) = some r := h
 clear h
 replace H := Option.bind_eq_some_iff.mp H
 obtain ⟨t197, A50, H⟩ := H
 replace H : (if t197 = true then ((impl_between.f a1 1 7).bind fun t198 => (if t198 = true then ((impl_heardOk.f k l3).bind fun t199 => (if t199 = true then ((impl_heardEnough.f l0 a1 a2 l3).bind fun t200 => (some t200)) else (some false))) else (some false))) else (some false)) = some r := H
 have A5 := am A50
 clear A50
 by_cases c6 : t197 = true
 ·subst c6
  have H1 : ((impl_between.f a1 1 7).bind fun t198 => (if t198 = true then ((impl_heardOk.f k l3).bind fun t199 => (if t199 = true then ((impl_heardEnough.f l0 a1 a2 l3).bind fun t200 => (some t200)) else (some false))) else (some false))) = some r := by rw [if_pos rfl] at H; exact H
  clear H
  have H := H1
  clear H1
  replace H := Option.bind_eq_some_iff.mp H
  obtain ⟨t198, A70, H⟩ := H
  replace H : (if t198 = true then ((impl_heardOk.f k l3).bind fun t199 => (if t199 = true then ((impl_heardEnough.f l0 a1 a2 l3).bind fun t200 => (some t200)) else (some false))) else (some false)) = some r := H
  have A7 := am A70
  clear A70
  by_cases c8 : t198 = true
  ·subst c8
   have H1 : ((impl_heardOk.f k l3).bind fun t199 => (if t199 = true then ((impl_heardEnough.f l0 a1 a2 l3).bind fun t200 => (some t200)) else (some false))) = some r := by rw [if_pos rfl] at H; exact H
   clear H
   have H := H1
   clear H1
   replace H := Option.bind_eq_some_iff.mp H
   obtain ⟨t199, A90, H⟩ := H
   replace H : (if t199 = true then ((impl_heardEnough.f l0 a1 a2 l3).bind fun t200 => (some t200)) else (some false)) = some r := H
   have A9 := am A90
   clear A90
   by_cases c10 : t199 = true
   ·subst c10
    have H1 : ((impl_heardEnough.f l0 a1 a2 l3).bind fun t200 => (some t200)) = some r := by rw [if_pos rfl] at H; exact H
    clear H
    have H := H1
    clear H1
    replace H := Option.bind_eq_some_iff.mp H
    obtain ⟨t200, A110, H⟩ := H
    replace H : (some t200) = some r := H
    have A11 := am A110
    clear A110
    obtain rfl := Option.some.inj H
    go_enter Try.func42, Try.ntmps42
    go_wp2_with (first | ((with_reducible refine gate_callee (f := 30) rfl ?_); refine goesL_ (some 10) rfl rfl Try.func30 (by kernel_rfl) rfl #[.slice A0 l0.length c0] rfl (by (try simp only [mta, mco, mni]); first | done | rfl | (simp only [lnd, lnt]; rfl)) ?_; (with_reducible refine (impl_IntervalsOk.calls k _ _ l0 true _ ?side1 ?side2 A5.out).mono ?_); (case side1 => repeat (first | exact HR0.out | (with_reducible first | apply kca | apply kcn | apply kcd))); (case side2 => exact HC0.out); rintro e w12 ⟨rfl, hb⟩; refine ⟨_, rfl, ?_⟩; have n0_ := am (below_step (by repeat (first | (with_reducible first | exact HB.out | apply bal | apply pdn | apply bd1) | exact HB.out)) hb); clear HB; have HB := n0_; clear n0_; (try clear hb); (try clear hb2); (try clear hk); (try clear hi)) | (go_at_call 47; (with_reducible refine (impl_between.calls a1 1 7 true _ A7.out).mono ?_); rintro e w' ⟨rfl, ⟨nd, rfl⟩⟩) | (go_at_call 63; (with_reducible refine (impl_heardOk.calls k _ _ l3 true _ ?side1 ?side2 A9.out).mono ?_); (case side1 => repeat (first | exact (Kd.C_below HR3.out (by repeat (first | (with_reducible first | exact HB.out | apply bal | apply pdn | apply bd1) | exact HB.out))) | (with_reducible first | apply kca | apply kcn | apply kcd))); (case side2 => exact HC3.out); rintro e w13 ⟨rfl, hb⟩; have n0_ := am (below_step (by repeat (first | (with_reducible first | exact HB.out | apply bal | apply pdn | apply bd1) | exact HB.out)) hb); clear HB; have HB := n0_; clear n0_; (try clear hb); (try clear hb2); (try clear hk); (try clear hi)) | (go_at_call 67; (with_reducible refine (impl_heardEnough.calls _ _ l0 a1 a2 _ _ l3 t200 _ ?side1 ?side2 ?side3 ?side4 A11.out).mono ?_); (case side1 => repeat (first | exact (Kd.C_below HR0.out HB.out) | (with_reducible first | apply kca | apply kcn | apply kcd))); (case side2 => exact HC0.out); (case side3 => repeat (first | exact (Kd.C_below HR3.out HB.out) | (with_reducible first | apply kca | apply kcn | apply kcd))); (case side4 => exact HC3.out); rintro e w14 ⟨rfl, hb⟩; have n0_ := am (below_step (by repeat (first | (with_reducible first | exact HB.out | apply bal | apply pdn | apply bd1) | exact HB.out)) hb); clear HB; have HB := n0_; clear n0_; (try clear hb); (try clear hb2); (try clear hk); (try clear hi)))
    go_ret
    exact ⟨by first | rfl | (simp [errW_none, errW_some] <;> rfl) | (simp [*, errW_none, errW_some] <;> rfl), by repeat (first | (with_reducible first | exact HB.out | apply bal | apply pdn | apply bd1) | exact HB.out)⟩
   ·replace c10 := Bool.eq_false_iff.mpr c10
    subst c10
    have H1 : (some false) = some r := by rw [if_neg (show ¬ (false = true) by decide)] at H; exact H
    clear H
    have H := H1
    clear H1
    obtain rfl := Option.some.inj H
    go_enter Try.func42, Try.ntmps42
    go_wp2_with (first | ((with_reducible refine gate_callee (f := 30) rfl ?_); refine goesL_ (some 10) rfl rfl Try.func30 (by kernel_rfl) rfl #[.slice A0 l0.length c0] rfl (by (try simp only [mta, mco, mni]); first | done | rfl | (simp only [lnd, lnt]; rfl)) ?_; (with_reducible refine (impl_IntervalsOk.calls k _ _ l0 true _ ?side1 ?side2 A5.out).mono ?_); (case side1 => repeat (first | exact HR0.out | (with_reducible first | apply kca | apply kcn | apply kcd))); (case side2 => exact HC0.out); rintro e w15 ⟨rfl, hb⟩; refine ⟨_, rfl, ?_⟩; have n0_ := am (below_step (by repeat (first | (with_reducible first | exact HB.out | apply bal | apply pdn | apply bd1) | exact HB.out)) hb); clear HB; have HB := n0_; clear n0_; (try clear hb); (try clear hb2); (try clear hk); (try clear hi)) | (go_at_call 47; (with_reducible refine (impl_between.calls a1 1 7 true _ A7.out).mono ?_); rintro e w' ⟨rfl, ⟨nd, rfl⟩⟩) | (go_at_call 63; (with_reducible refine (impl_heardOk.calls k _ _ l3 false _ ?side1 ?side2 A9.out).mono ?_); (case side1 => repeat (first | exact (Kd.C_below HR3.out (by repeat (first | (with_reducible first | exact HB.out | apply bal | apply pdn | apply bd1) | exact HB.out))) | (with_reducible first | apply kca | apply kcn | apply kcd))); (case side2 => exact HC3.out); rintro e w16 ⟨rfl, hb⟩; have n0_ := am (below_step (by repeat (first | (with_reducible first | exact HB.out | apply bal | apply pdn | apply bd1) | exact HB.out)) hb); clear HB; have HB := n0_; clear n0_; (try clear hb); (try clear hb2); (try clear hk); (try clear hi)))
    go_ret
    exact ⟨by first | rfl | (simp [errW_none, errW_some] <;> rfl) | (simp [*, errW_none, errW_some] <;> rfl), by repeat (first | (with_reducible first | exact HB.out | apply bal | apply pdn | apply bd1) | exact HB.out)⟩
  ·replace c8 := Bool.eq_false_iff.mpr c8
   subst c8
   have H1 : (some false) = some r := by rw [if_neg (show ¬ (false = true) by decide)] at H; exact H
   clear H
   have H := H1
   clear H1
   obtain rfl := Option.some.inj H
   go_enter Try.func42, Try.ntmps42
   go_wp2_with (first | ((with_reducible refine gate_callee (f := 30) rfl ?_); refine goesL_ (some 10) rfl rfl Try.func30 (by kernel_rfl) rfl #[.slice A0 l0.length c0] rfl (by (try simp only [mta, mco, mni]); first | done | rfl | (simp only [lnd, lnt]; rfl)) ?_; (with_reducible refine (impl_IntervalsOk.calls k _ _ l0 true _ ?side1 ?side2 A5.out).mono ?_); (case side1 => repeat (first | exact HR0.out | (with_reducible first | apply kca | apply kcn | apply kcd))); (case side2 => exact HC0.out); rintro e w17 ⟨rfl, hb⟩; refine ⟨_, rfl, ?_⟩; have n0_ := am (below_step (by repeat (first | (with_reducible first | exact HB.out | apply bal | apply pdn | apply bd1) | exact HB.out)) hb); clear HB; have HB := n0_; clear n0_; (try clear hb); (try clear hb2); (try clear hk); (try clear hi)) | (go_at_call 47; (with_reducible refine (impl_between.calls a1 1 7 false _ A7.out).mono ?_); rintro e w' ⟨rfl, ⟨nd, rfl⟩⟩))
   go_ret
   exact ⟨by first | rfl | (simp [errW_none, errW_some] <;> rfl) | (simp [*, errW_none, errW_some] <;> rfl), by repeat (first | (with_reducible first | exact HB.out | apply bal | apply pdn | apply bd1) | exact HB.out)⟩
 ·replace c6 := Bool.eq_false_iff.mpr c6
  subst c6
  have H1 : (some false) = some r := by rw [if_neg (show ¬ (false = true) by decide)] at H; exact H
  clear H
  have H := H1
  clear H1
  obtain rfl := Option.some.inj H
  go_enter Try.func42, Try.ntmps42
  go_wp2_with (first | ((with_reducible refine gate_callee (f := 30) rfl ?_); refine goesL_ (some 10) rfl rfl Try.func30 (by kernel_rfl) rfl #[.slice A0 l0.length c0] rfl (by (try simp only [mta, mco, mni]); first | done | rfl | (simp only [lnd, lnt]; rfl)) ?_; (with_reducible refine (impl_IntervalsOk.calls k _ _ l0 false _ ?side1 ?side2 A5.out).mono ?_); (case side1 => repeat (first | exact HR0.out | (with_reducible first | apply kca | apply kcn | apply kcd))); (case side2 => exact HC0.out); rintro e w18 ⟨rfl, hb⟩; refine ⟨_, rfl, ?_⟩; have n0_ := am (below_step (by repeat (first | (with_reducible first | exact HB.out | apply bal | apply pdn | apply bd1) | exact HB.out)) hb); clear HB; have HB := n0_; clear n0_; (try clear hb); (try clear hb2); (try clear hk); (try clear hi)))
  go_ret
  exact ⟨by first | rfl | (simp [errW_none, errW_some] <;> rfl) | (simp [*, errW_none, errW_some] <;> rfl), by repeat (first | (with_reducible first | exact HB.out | apply bal | apply pdn | apply bd1) | exact HB.out)⟩

/-! ### laws_c2Big: function 43 -/
def laws_c2Big.f (l0 : List Int) (l1 : List Int) : Option (Bool) := if (l0.length : Int) > 1048576 then (some true) else (some (decide ((l1.length : Int) > 1048576)))
set_option maxHeartbeats 8000000 in
set_option maxRecDepth 100000 in
theorem laws_c2Big.calls (A0 : Option Addr) (c0 : Nat) (l0 : List Int) (A1 : Option Addr) (c1 : Nat) (l1 : List Int) (r : Bool) (w : World) (hr0 : Kd.C (Kd.int .u8) w A0 l0.length l0) (hc0 : l0.length ≤ c0) (hr1 : Kd.C (Kd.int .u8) w A1 l1.length l1) (hc1 : l1.length ≤ c1) (h : laws_c2Big.f l0 l1 = some r) :
  Calls Try.prog 43 #[.slice A0 l0.length c0, .slice A1 l1.length c1] w fun e w' => e = .returned (.bool r) ∧ Drawn0 w w' := by
 have HR0 := am hr0
 have HC0 := am hc0
 clear hr0 hc0
 have HR1 := am hr1
 have HC1 := am hc1
 clear hr1 hc1
 have H : (if (l0.length : Int) > 1048576 then (some true) else (some (decide ((l1.length : Int) > 1048576)))) = some r := h
 clear h
 by_cases c3 : (l0.length : Int) > 1048576
 ·rw [if_pos c3] at H
  have c3b0 : decide (1048576 < (l0.length : Int)) = true := decide_eq_true c3
  have c3b1 : decide (1048576 < l0.length) = true := decide_eq_true (by omega)
  clear c3
  obtain rfl := Option.some.inj H
  go_enter Try.func43, Try.ntmps43
  go_wp2
  go_ret
  exact ⟨by first | rfl | (simp; done) | (simp [*]; done), by repeat (first | exact Drawn0.refl _ | apply Drawn0.step)⟩
 ·rw [if_neg c3] at H
  have c3b0 : decide (1048576 < (l0.length : Int)) = false := decide_eq_false c3
  have c3b1 : decide (1048576 < l0.length) = false := decide_eq_false (by omega)
  clear c3
  obtain rfl := Option.some.inj H
  go_enter Try.func43, Try.ntmps43
  go_wp2
  go_ret
  exact ⟨by first | rfl | (simp; done) | (simp [*]; done), by repeat (first | exact Drawn0.refl _ | apply Drawn0.step)⟩

end Go.Proofs.Ytfeaokelfbjcdaa.MFnHeard
