-- Written by a program of this session (wip/tools/myprint.py) over the kit's print: it is not the kit's print.
import Derived.Test.YthphhklbliambaaExtra
import Derived.LoopIn
import Derived.LoopNIn
import Derived.TacticsInMore
import Derived.OwnWalkIn
import Derived.WalkKit
import Derived.Shelf.RegionOpen
import Derived.Shelf.Abstract
import Derived.RangeFuncLeaves
import Derived.RangeFuncCalls
import Derived.RangeFuncBound
import Derived.RangeFuncNested
import Derived.Test.YthphhklbliambaaMFnExactReadSectorx0
import Derived.Test.YthphhklbliambaaMFnExactReadSectorx1
import Derived.Test.YthphhklbliambaaMFnExactReadSectorx2
import Derived.Test.YthphhklbliambaaMFnExactReadSectorx3
namespace Go.Proofs.Ythphhklbliambaa.MFnExactReadSector
open Go.RowKit Go.Proofs.YthphhklbliambaaW.PrintWords Go.Proofs.YthphhklbliambaaW.PrintLast Go.Proofs.YthphhklbliambaaW.PrintMore
open List renaming setIfInBounds_toArray → sit, set_cons_zero → scz, set_cons_succ → scs, map_toArray → mta, map_cons → mco, map_nil → mni, length_drop → lnd, length_take → lnt
open World renaming block_lt_of_cell? → blc
attribute [local go_sem] max2_int min2_int max_two min_two max_three min_three max_four min_four   -- for this text's walks alone
set_option linter.unusedVariables false
set_option linter.unusedSimpArgs false

/-! ### impl_DiskOk: function 18 -/
set_option maxHeartbeats 4000000 in
set_option maxRecDepth 100000 in
theorem impl_DiskOk.index (b1 : Addr) (p : S55 → Bool) (A0 : Option Addr) (c0 : Nat) (l0 : List S55) (w : World) (hr0 : Kd.C k55 w A0 l0.length l0)
  (hp : ∀ (W : World) (x : S55) , Below w.heap.size w W → x ∈ l0 → Calls Try.prog 63 #[.agg #[.int .i64 x.f0, .string x.f1], .pointer (some b1)] W fun e w' => e = .returned (.bool (p x)) ∧ Below w.heap.size w w') :
  Calls Try.prog 104 #[.slice A0 l0.length c0, .func (.func 63) #[] #[.pointer (some b1)]] w fun e w' => e = .returned (.int .i64 (idxP p l0 0)) ∧ Below w.heap.size w w' := by
 have HR0 := am hr0
 have HP := am hp
 have hm : l0.length ≤ 9223372036854775807 := hr0.2.1
 clear hr0 hp
 go_enter Try.func104, Try.ntmps104
 go_wp2
 go_loopg [5, 8] l0.length (fun gg _ s8 wr => ∃ kk : Nat, kk ≤ l0.length ∧ l0.length - kk ≤ gg ∧ s8 = .int .i64 kk ∧ Aside0 (Below w.heap.size w wr) ∧ Aside0 (idxP p l0 0 = idxP p (l0.drop kk) kk))
 case atStart => exact ⟨0, Nat.zero_le _, by omega, rfl, ⟨Below.refl _ w⟩, ⟨rfl⟩⟩
 case round =>
  obtain ⟨kk, hkk, hg, rfl, BW, AI⟩ := hrel
  by_cases hlt : kk < l0.length
  ·have hltz : (kk : Int) < (l0.length : Int) := by omega
   obtain ⟨ad, e, hx0, hx1⟩ := at_T55 HR0.out (kk : Int) (by omega) hltz
   cases e
   rw [Int.toNat_natCast] at hx0
   replace hx0 := (BW.out.cell (blc w _ hx0)).trans hx0
   rw [Int.toNat_natCast] at hx1
   replace hx1 := (BW.out.cell (blc w _ hx1)).trans hx1
   have HE : Aside0 (rd_T55 l0 (kk : Int) = l0[kk]) := ⟨by simp [rd_T55, List.getD_eq_getElem?_getD, List.getElem?_eq_getElem hlt]⟩
   have hcall := HP.out wr (rd_T55 l0 (kk : Int))  BW.out (by rw [HE.out]; exact List.getElem_mem hlt)
   have HD := am (idxP_drop p l0 kk hlt)
   generalize rd_T55 l0 (kk : Int) = y at hx0 hx1 hcall HE
   cases hq : p y with
   | true =>
    rw [hq] at hcall
    have HQ := am hq
    clear hq
    go_wp2_with (go_at_call 63; refine hcall.mono ?_; rintro e w' ⟨rfl, hb'⟩)
    go_ret
    refine ⟨?_, hb'⟩
    rw [AI.out, HD.out, ← HE.out, if_pos HQ.out]
    rfl
   | false =>
    rw [hq] at hcall
    have HQ := am hq
    clear hq
    go_wp2_with (go_at_call 63; refine hcall.mono ?_; rintro e w' ⟨rfl, hb'⟩)
    go_roundg (l0.length - (kk + 1))
    case measure => omega
    case rel => exact ⟨kk + 1, by omega, by omega, by go_num, ⟨hb'⟩, ⟨by rw [AI.out, HD.out, ← HE.out, HQ.out]; rfl⟩⟩
  ·have hltz : ¬ (kk : Int) < (l0.length : Int) := by omega
   go_wp2
   go_ret
   refine ⟨?_, BW.out⟩
   rw [AI.out, List.drop_of_length_le (by omega)]
   rfl
set_option maxHeartbeats 2000000 in
theorem impl_DiskOk.contains (b1 : Addr) (p : S55 → Bool) (A0 : Option Addr) (c0 : Nat) (l0 : List S55) (w : World) (hr0 : Kd.C k55 w A0 l0.length l0)
  (hp : ∀ (W : World) (x : S55) , Below w.heap.size w W → x ∈ l0 → Calls Try.prog 63 #[.agg #[.int .i64 x.f0, .string x.f1], .pointer (some b1)] W fun e w' => e = .returned (.bool (p x)) ∧ Below w.heap.size w w') :
  Calls Try.prog 62 #[.slice A0 l0.length c0, .func (.func 63) #[] #[.pointer (some b1)]] w fun e w' => e = .returned (.bool (l0.any p)) ∧ Below w.heap.size w w' := by
 have HI := impl_DiskOk.index b1 p A0 c0 l0 w hr0 hp
 have HQ := am (idxP_dec p l0)
 clear hr0 hp
 generalize idxP p l0 0 = q at HI HQ
 generalize l0.any p = b at HQ
 go_enter Try.func62, Try.ntmps62
 go_wp2_with (go_at_call 104; refine HI.mono ?_; rintro e w' ⟨rfl, hb⟩)
 go_ret
 exact ⟨by rw [← HQ.out]; rfl, hb⟩
/-- A write that waits is one to a sector, of a sector's length. -/
def impl_DiskOk.wait (n : Nat) (p : S55) : Bool := decide (0 ≤ p.f0 ∧ p.f0 ≤ (n : Int) - 1) && ((p.f1.size : Int) == 64)
def impl_DiskOk.f (l0_0 : List ByteArray) (l0_1 : List S55) : Option Bool :=
 some (((decide ((1 : Int) ≤ (l0_0.length : Int) ∧ (l0_0.length : Int) ≤ 1200) && decide ((l0_1.length : Int) ≤ 600)) && l0_0.all fun s => ((s.size : Int) == 64)) && !l0_1.any fun p => !impl_DiskOk.wait l0_0.length p)
theorem impl_DiskOk.btw (a b c : Int) : impl_between.f a b c = some (decide (b ≤ a ∧ a ≤ c)) := by
 unfold impl_between.f
 by_cases h : a ≥ b
 ·have h' : b ≤ a := h
  simp [h, h']
 ·have h' : ¬ b ≤ a := h
  simp [h, h']
theorem impl_DiskOk.idx (a : Int) (n : Nat) (hn : n ≤ 9223372036854775807) : impl_isIndex.f a n = some (decide (0 ≤ a ∧ a ≤ (n : Int) - 1)) := by
 unfold impl_isIndex.f
 rw [impl_DiskOk.btw, show wrap64 ((n : Int) - 1) = (n : Int) - 1 by unfold wrap64; omega]
 rfl
set_option maxHeartbeats 2000000 in
theorem impl_DiskOk.pred (x : S55) (b : Addr) (A : Option Addr) (c n : Nat) (W : World) (hn : n ≤ 9223372036854775807) (hc : W.cell? b = some (.slice A n c)) :
  Calls Try.prog 63 #[.agg #[.int .i64 x.f0, .string x.f1], .pointer (some b)] W fun e w' => e = .returned (.bool (!impl_DiskOk.wait n x)) ∧ Below W.heap.size W w' := by
 have HI := impl_isIndex.calls x.f0 n (decide (0 ≤ x.f0 ∧ x.f0 ≤ (n : Int) - 1))
 have TI := am (impl_DiskOk.idx x.f0 n hn)
 have HS := impl_sectorOk.calls x.f1 ((x.f1.size : Int) == 64)
 have TS := am (show impl_sectorOk.f x.f1 = some ((x.f1.size : Int) == 64) from rfl)
 have HW : Aside0 (impl_DiskOk.wait n x = (decide (0 ≤ x.f0 ∧ x.f0 ≤ (n : Int) - 1) && ((x.f1.size : Int) == 64))) := ⟨rfl⟩
 generalize decide (0 ≤ x.f0 ∧ x.f0 ≤ (n : Int) - 1) = b1 at HI TI HW
 generalize ((x.f1.size : Int) == 64) = b2 at HS TS HW
 have hc' : (W.alloc (.cells #[.int .i64 x.f0, .string x.f1] 55)).cell? b = some (.slice A n c) := (((Below.refl W.heap.size W).alloc (Nat.le_refl _) _).cell (blc W _ hc)).trans hc
 have HB := am ((Below.refl W.heap.size W).alloc (Nat.le_refl _) (.cells #[.int .i64 x.f0, .string x.f1] 55))
 clear hc
 cases b1 <;> cases b2
 all_goals
  go_enter Try.func63, Try.ntmps63
  go_wp2_with (first | (go_at_call 64; refine (HI _ TI.out).mono ?_; rintro e w' ⟨rfl, ⟨q, rfl⟩⟩) | (go_at_call 61; refine (HS _ TS.out).mono ?_; rintro e w' ⟨rfl, ⟨q2, rfl⟩⟩))
  go_ret
  exact ⟨by rw [HW.out]; rfl, by repeat (first | exact HB.out | apply pdn)⟩
set_option maxHeartbeats 4000000 in
set_option maxRecDepth 100000 in
theorem impl_DiskOk.calls (A0_0 : Option Addr) (c0_0 : Nat) (l0_0 : List ByteArray) (A0_1 : Option Addr) (c0_1 : Nat) (l0_1 : List S55) (r : Bool) (w : World) (hr0_0 : Kd.C Kd.string w A0_0 l0_0.length l0_0) (hc0_0 : l0_0.length ≤ c0_0) (hr0_1 : Kd.C k55 w A0_1 l0_1.length l0_1) (hc0_1 : l0_1.length ≤ c0_1) (h : impl_DiskOk.f l0_0 l0_1 = some r) :
  Calls Try.prog 18 #[.agg #[.slice A0_0 l0_0.length c0_0, .slice A0_1 l0_1.length c0_1]] w fun e w' => e = .returned (.bool r) ∧ Below w.heap.size w w' := by
 have hn : l0_0.length ≤ 9223372036854775807 := hr0_0.2.1
 have hn1 : l0_1.length ≤ 9223372036854775807 := hr0_1.2.1
 have HE := am (Option.some.inj h)
 clear h
 obtain ⟨W1, hW1⟩ : ∃ W1, W1 = w.alloc (.cells #[.slice A0_0 l0_0.length c0_0, .slice A0_1 l0_1.length c0_1] 30) := ⟨_, rfl⟩
 have hB : Below w.heap.size w W1 := by rw [hW1]; exact (Below.refl _ _).alloc (Nat.le_refl _) _
 have hz0 : W1.cell? ⟨w.heap.size, 0, none⟩ = some (.slice A0_0 l0_0.length c0_0) := by rw [hW1]; simp
 have hz1 : W1.cell? ⟨w.heap.size, 1, none⟩ = some (.slice A0_1 l0_1.length c0_1) := by rw [hW1]; simp
 have HI : Aside0 (∀ q, Calls Try.prog 62 #[.slice A0_1 l0_1.length c0_1, .func (.func 63) #[] #[.pointer (some ⟨w.heap.size, 0, none⟩)]] (W1.drewN q) fun e w' => e = .returned (.bool (l0_1.any fun p => !impl_DiskOk.wait l0_0.length p)) ∧ Below w.heap.size w w') := ⟨fun q => by
  have hq : Below W1.heap.size W1 (W1.drewN q) := pdn (Below.refl _ _) q
  refine (impl_DiskOk.contains ⟨w.heap.size, 0, none⟩ (fun p => !impl_DiskOk.wait l0_0.length p) A0_1 c0_1 l0_1 (W1.drewN q) (Kd.C_below (Kd.C_below hr0_1 hB) hq) (fun W x hb _ => impl_DiskOk.pred x ⟨w.heap.size, 0, none⟩ A0_0 c0_0 l0_0.length W hn ?_ |>.mono fun e w' ⟨he, hw⟩ => ⟨he, hb.trans (hw.mono hb.size)⟩)).mono fun e w' ⟨he, hw⟩ => ⟨he, hB.trans ((hq.trans (hw.mono hq.size)).mono hB.size)⟩
  have hz := hz0
  exact (hb.cell (blc (W1.drewN q) _ hz)).trans hz⟩
 generalize (l0_1.any fun p => !impl_DiskOk.wait l0_0.length p) = AN at HI HE
 obtain ⟨AL, hAL⟩ : ∃ AL, AL = l0_0.all fun s => ((s.size : Int) == 64) := ⟨_, rfl⟩
 rw [← hAL] at HE
 have HAL := am hAL
 clear hAL hr0_1 hc0_1
 have HR0 := am hr0_0
 clear hr0_0 hc0_0
 have HT := impl_between.calls (l0_0.length : Int) 1 1200 (decide ((1 : Int) ≤ (l0_0.length : Int) ∧ (l0_0.length : Int) ≤ 1200))
 have TT := am (impl_DiskOk.btw (l0_0.length : Int) 1 1200)
 generalize decide ((1 : Int) ≤ (l0_0.length : Int) ∧ (l0_0.length : Int) ≤ 1200) = g1 at HT TT HE
 have HB := am hB
 have HW1 := am hW1
 have HZ0 := am hz0
 have HZ1 := am hz1
 clear hB hz0 hz1
 subst hW1
 cases g1 with
 | false =>
  go_enter Try.func18, Try.ntmps18
  go_wp2_with (go_at_call 60; refine (HT _ TT.out).mono ?_; rintro e w' ⟨rfl, ⟨q, rfl⟩⟩)
  go_ret
  exact ⟨by rw [← HE.out]; rfl, by repeat (first | exact HB.out | apply pdn)⟩
 | true =>
  by_cases g2 : l0_1.length ≤ 600
  ·have g2a : decide (600 < (l0_1.length : Int)) = false := decide_eq_false (by omega)
   have g2b : decide (600 < l0_1.length) = false := decide_eq_false (by omega)
   have G2 : Aside0 (decide ((l0_1.length : Int) ≤ 600) = true) := ⟨decide_eq_true (by omega)⟩
   clear g2
   go_enter Try.func18, Try.ntmps18
   go_wp2_with (go_at_call 60; refine (HT _ TT.out).mono ?_; rintro e w' ⟨rfl, ⟨q, rfl⟩⟩)
   go_loopg [19] l0_0.length (fun gg s19 wr => ∃ kk : Nat, kk ≤ l0_0.length ∧ l0_0.length - kk ≤ gg ∧ s19 = .int .i64 kk ∧ Aside0 (Drawn0 (w.alloc (.cells #[.slice A0_0 l0_0.length c0_0, .slice A0_1 l0_1.length c0_1] 30)) wr) ∧ Aside0 (AL = (l0_0.drop kk).all fun s => ((s.size : Int) == 64)))
   case atStart => exact ⟨0, Nat.zero_le _, by omega, rfl, ⟨⟨_, rfl⟩⟩, HAL⟩
   case round =>
    obtain ⟨kk, hkk, hg, rfl, BW, AI⟩ := hrel
    obtain ⟨q, hq⟩ := BW.out.out
    have hz0 : wr.cell? ⟨w.heap.size, 0, none⟩ = some (.slice A0_0 l0_0.length c0_0) := by rw [hq]; exact HZ0.out
    have hz1 : wr.cell? ⟨w.heap.size, 1, none⟩ = some (.slice A0_1 l0_1.length c0_1) := by rw [hq]; exact HZ1.out
    have HBW : Below w.heap.size w wr := by rw [hq]; exact pdn HB.out q
    have HJ : Aside0 (Calls Try.prog 62 #[.slice A0_1 l0_1.length c0_1, .func (.func 63) #[] #[.pointer (some ⟨w.heap.size, 0, none⟩)]] wr fun e w' => e = .returned (.bool AN) ∧ Below w.heap.size w w') := ⟨by rw [hq]; exact HI.out q⟩
    clear hq
    by_cases hlt : kk < l0_0.length
    ·have hltz : (kk : Int) < (l0_0.length : Int) := by omega
     obtain ⟨ad, e, hx0⟩ := Kd.at_string HR0.out (kk : Int) (by omega) hltz
     cases e
     rw [Int.toNat_natCast] at hx0
     replace hx0 := (HBW.cell (blc w _ hx0)).trans hx0
     have HEL : Aside0 (rdOf ByteArray.empty l0_0 (kk : Int) = l0_0[kk]) := ⟨by simp [rdOf, List.getD_eq_getElem?_getD, List.getElem?_eq_getElem hlt]⟩
     have HD : Aside0 (((l0_0.drop kk).all fun s => ((s.size : Int) == 64)) = (((l0_0[kk].size : Int) == 64) && ((l0_0.drop (kk + 1)).all fun s => ((s.size : Int) == 64)))) := ⟨by rw [List.drop_eq_getElem_cons hlt]; rfl⟩
     rw [← HEL.out] at HD
     clear HEL
     generalize rdOf ByteArray.empty l0_0 (kk : Int) = y at hx0 HD
     have HS := impl_sectorOk.calls y ((y.size : Int) == 64)
     have TS := am (show impl_sectorOk.f y = some ((y.size : Int) == 64) from rfl)
     generalize ((y.size : Int) == 64) = b2 at HS TS HD
     have HBW' := am HBW
     clear HBW
     cases b2 with
     | false =>
      go_wp2_with (go_at_call 61; refine (HS _ TS.out).mono ?_; rintro e w' ⟨rfl, ⟨q2, rfl⟩⟩)
      go_ret
      exact ⟨by rw [← HE.out, AI.out, HD.out]; simp, by repeat (first | exact HBW'.out | apply pdn)⟩
     | true =>
      go_wp2_with (go_at_call 61; refine (HS _ TS.out).mono ?_; rintro e w' ⟨rfl, ⟨q2, rfl⟩⟩)
      go_roundg (l0_0.length - (kk + 1))
      case measure => omega
      case rel => exact ⟨kk + 1, by omega, by omega, by go_num, ⟨BW.out.step q2⟩, ⟨by rw [AI.out, HD.out]; rfl⟩⟩
    ·have hltz : ¬ (kk : Int) < (l0_0.length : Int) := by omega
     have HD : Aside0 (AL = true) := ⟨by rw [AI.out, List.drop_of_length_le (by omega)]; rfl⟩
     clear HBW AI
     go_wp2_with (go_at_call 62; refine HJ.out.mono ?_; rintro e w' ⟨rfl, hb⟩)
     go_ret
     exact ⟨by rw [← HE.out, HD.out, G2.out]; simp, hb⟩
  ·have g2a : decide (600 < (l0_1.length : Int)) = true := decide_eq_true (by omega)
   have g2b : decide (600 < l0_1.length) = true := decide_eq_true (by omega)
   have G2 : Aside0 (decide ((l0_1.length : Int) ≤ 600) = false) := ⟨decide_eq_false (by omega)⟩
   clear g2
   go_enter Try.func18, Try.ntmps18
   go_wp2_with (go_at_call 60; refine (HT _ TT.out).mono ?_; rintro e w' ⟨rfl, ⟨q, rfl⟩⟩)
   go_ret
   exact ⟨by rw [← HE.out, G2.out]; simp, by repeat (first | exact HB.out | apply pdn)⟩

/-! ### impl_ReadSector: function 21 -/
attribute [local go_sem] Oper.semAt_some
/-- What has come when k rounds are over: the row's last k elements, the last first. -/
def impl_ReadSector.bk (zs : List S55) (k : Nat) : List (Nat × S55) := (List.range k).map fun j => (zs.length - 1 - j, rd_T55 zs ((zs.length - 1 - j : Nat) : Int))
theorem impl_ReadSector.bk_succ (zs : List S55) (k : Nat) : impl_ReadSector.bk zs (k + 1) = impl_ReadSector.bk zs k ++ [(zs.length - 1 - k, rd_T55 zs ((zs.length - 1 - k : Nat) : Int))] := by simp [impl_ReadSector.bk, List.range_succ]
theorem impl_ReadSector.bk_length (zs : List S55) (k : Nat) : (impl_ReadSector.bk zs k).length = k := by simp [impl_ReadSector.bk]
theorem impl_ReadSector.bk_map (zs : List S55) (k : Nat) (hk : k ≤ zs.length) : (impl_ReadSector.bk zs k).map (·.2) = zs.reverse.take k := by
 apply List.ext_getElem
 ·simp [impl_ReadSector.bk, hk]
 ·intro i h1 h2
  have hi : i < k := by simpa [impl_ReadSector.bk] using h1
  simp only [impl_ReadSector.bk, List.map_map, List.getElem_map, List.getElem_range, Function.comp_apply, List.getElem_take, List.getElem_reverse]
  simp [rd_T55, List.getD_eq_getElem?_getD, List.getElem?_eq_getElem (show zs.length - 1 - i < zs.length by omega)]
abbrev impl_ReadSector.encs (x : Nat × S55) : Array Value := #[.int .i64 (x.1 : Int), .agg #[.int .i64 x.2.f0, .string x.2.f1]]
set_option maxRecDepth 100000 in
set_option maxHeartbeats 2000000 in
theorem impl_ReadSector.bwd_stops (F : Fence) (n : Nat) (h7 : F.fn 106) (hro : F.round = none) (hn : 1 ≤ n) (A : Option Addr) (c : Nat) (zs : List S55) (W0 : World) (hr : Kd.C k55 W0 A zs.length zs) (Bs : Nat) (hBs : W0.cell? ⟨Bs, 0, none⟩ = some (.slice A zs.length c)) :
  SeqStopsK F n Try.prog 106 #[.pointer (some ⟨Bs, 0, none⟩)] impl_ReadSector.encs (Below W0.heap.size) (fun ys => ys = impl_ReadSector.bk zs zs.length) (fun pre => ∃ k, k ≤ zs.length ∧ pre = impl_ReadSector.bk zs k) zs.length W0 := fun l J Jx W hW hJ hJx hY h0 => by
 have hbl := blc W0 _ hBs
 have hm : zs.length ≤ 9223372036854775807 := hr.2.1
 have HR := am hr
 have HBS := am hBs
 have HW := am hW
 clear hr hBs
 have hBs0 := (hW.cell hbl).trans HBS.out
 refine callsIn_of_wp Try.func106 rfl h7 ?_ hro
 simp only [Try.ntmps106, List.size_toArray, List.length_cons, List.length_nil, Nat.reduceAdd, Nat.reduceSub, Array.replicate_succ, Array.replicate_zero, List.push_toArray, List.append_toArray, List.nil_append, List.cons_append]
 have hw0 : wrap64 ((zs.length : Int) - 1) = (zs.length : Int) - 1 := by unfold wrap64; omega
 gi_wp2
 gi_loopw [3] (fun i wr => ∃ (k : Nat) (z : Int), k ≤ zs.length ∧ i = .int .i64 z ∧ z = (zs.length : Int) - 1 - (k : Int) ∧ J (impl_ReadSector.bk zs k) wr ∧ Below W0.heap.size W0 wr)
  (fun i _ => (intOf i + 1).toNat)
 case atStart => exact ⟨0, _, Nat.zero_le _, rfl, by omega, h0, HW.out⟩
 case round =>
  obtain ⟨k, z, hk, rfl, hz, hJs, hnx⟩ := hrel
  have hcx := (hnx.cell hbl).trans HBS.out
  by_cases hlt : k < zs.length
  ·obtain ⟨i, rfl⟩ : ∃ i : Nat, z = (i : Int) := ⟨z.toNat, by omega⟩
   have hi : Aside0 (i = zs.length - 1 - k) := ⟨by omega⟩
   obtain ⟨ad, e, hx0, hx1⟩ := at_T55 (Kd.C_below HR.out hnx) (i : Int) (by omega) (by omega)
   cases e
   rw [Int.toNat_natCast] at hx0 hx1
   obtain ⟨fn, tmps, assign, body, hy, hR⟩ := hY _ (i, rd_T55 zs (i : Int)) wr hJs (by rw [impl_ReadSector.bk_length]; exact hlt)
   dsimp only [impl_ReadSector.encs] at hy
   have hge : (0 : Int) ≤ (i : Int) := by omega
   have hge2 : i < zs.length := by omega
   have hge3 : (i : Int) < (zs.length : Int) := by omega
   have hwi : wrap64 ((i : Int) - 1) = (i : Int) - 1 := by unfold wrap64; omega
   have HZ := am hz
   clear hz
   gi_wp2
   refine hR.mono ?_
   rintro e W3 (⟨rfl, hJ3, hk3⟩ | ⟨rfl, hJx3⟩)
   ·gi_wp2
    go_roundw
    case rel => exact ⟨k + 1, _, by omega, rfl, by have := HZ.out; omega, by rw [impl_ReadSector.bk_succ, ← hi.out]; exact hJ3, hnx.trans hk3⟩
    case measure => simp [intOf] <;> omega
   ·gi_wp2
    refine bodyPost_ret (results_none rfl _ _ _) rfl ?_
    exact ⟨⟨_, rfl⟩, .inr ⟨_, ⟨k + 1, by omega, rfl⟩, by rw [impl_ReadSector.bk_succ, ← hi.out]; exact hJx3⟩⟩
  ·obtain rfl : k = zs.length := by omega
   obtain rfl : z = -1 := by omega
   gi_wp2
   go_end0
   exact ⟨⟨_, rfl⟩, .inl ⟨_, rfl, hJs⟩⟩

/-- What a sector reads as: the last write that waits on it, or what lies. -/
def impl_ReadSector.got (s : List ByteArray) (p : List S55) (a : Int) : ByteArray := match p.reverse.find? (fun x => x.f0 == a) with
 | some x => x.f1
 | none => rdOf ByteArray.empty s a
def impl_ReadSector.f (s : List ByteArray) (p : List S55) (a : Int) : Option (ByteArray × Int) :=
 (impl_DiskOk.f s p).bind fun d => if d = true then (if 0 ≤ a ∧ a ≤ (s.length : Int) - 1 then some (impl_ReadSector.got s p a, 0) else some (ByteArray.empty, 2)) else some (ByteArray.empty, 1)
theorem impl_ReadSector.got_none {zs : List S55} {a : Int} (s : List ByteArray) (h : ∀ p ∈ impl_ReadSector.bk zs zs.length, p.2.f0 ≠ a) : impl_ReadSector.got s zs a = rdOf ByteArray.empty s a := by
 have e := impl_ReadSector.bk_map zs zs.length (Nat.le_refl _)
 rw [List.take_of_length_le (by simp)] at e
 unfold impl_ReadSector.got
 rw [← e, List.find?_eq_none.2]
 intro x hx
 obtain ⟨p, hp, rfl⟩ := List.mem_map.1 hx
 simpa using h p hp
theorem impl_ReadSector.got_some {zs : List S55} {k : Nat} {a : Int} {ini : List (Nat × S55)} {last : Nat × S55} (s : List ByteArray) (hk : k ≤ zs.length) (e : impl_ReadSector.bk zs k = ini ++ [last]) (h : ∀ p ∈ ini, p.2.f0 ≠ a) (hl : last.2.f0 = a) : impl_ReadSector.got s zs a = last.2.f1 := by
 have e2 := List.take_append_drop k zs.reverse
 rw [← impl_ReadSector.bk_map zs k hk, e, List.map_append, List.append_assoc] at e2
 unfold impl_ReadSector.got
 rw [← e2, List.find?_append, List.find?_eq_none.2]
 ·simp [hl]
 ·intro x hx
  obtain ⟨p, hp, rfl⟩ := List.mem_map.1 hx
  simpa using h p hp
/-- The call's own variables lie as they should. -/
def impl_ReadSector.St (B : Nat) (A0 : Option Addr) (n0 c0 : Nat) (A1 : Option Addr) (n1 c1 : Nat) (a : Int) (W : World) : Prop :=
 W.heap[B]? = some (.cells #[.slice A0 n0 c0, .slice A1 n1 c1] 30 (0, 0)) ∧ Boxed W (B + 1) 2 (.int .i64 a) ∧ Boxed W (B + 1 + 1) 9 (.string ⟨#[]⟩) ∧ Boxed W (B + 1 + 1 + 1) 2 (.int .i64 0)
theorem impl_ReadSector.St.below {B n : Nat} {A0 : Option Addr} {n0 c0 : Nat} {A1 : Option Addr} {n1 c1 : Nat} {a : Int} {W W' : World} (h : impl_ReadSector.St B A0 n0 c0 A1 n1 c1 a W) (hb : Below n W W') (hn : B + 3 < n) : impl_ReadSector.St B A0 n0 c0 A1 n1 c1 a W' := by
 obtain ⟨h1, h2, h3, h4⟩ := h
 exact ⟨(hb.block B (by omega)).trans h1, (hb.block (B + 1) (by omega)).trans h2, (hb.block (B + 1 + 1) (by omega)).trans h3, (hb.block (B + 1 + 1 + 1) (by omega)).trans h4⟩
theorem impl_ReadSector.St.cells {B : Nat} {A0 : Option Addr} {n0 c0 : Nat} {A1 : Option Addr} {n1 c1 : Nat} {a : Int} {W : World} (h : impl_ReadSector.St B A0 n0 c0 A1 n1 c1 a W) :
  W.cell? ⟨B, 0, none⟩ = some (.slice A0 n0 c0) ∧ W.cell? ⟨B, 1, none⟩ = some (.slice A1 n1 c1) ∧ W.cell? ⟨B + 1, 0, none⟩ = some (.int .i64 a) ∧ W.cell? ⟨B + 1 + 1, 0, none⟩ = some (.string ⟨#[]⟩) ∧ W.cell? ⟨B + 1 + 1 + 1, 0, none⟩ = some (.int .i64 0) ∧ W.frozen? ⟨B + 1 + 1, 0, none⟩ = false ∧ W.frozen? ⟨B + 1 + 1 + 1, 0, none⟩ = false := by
 obtain ⟨h1, h2, h3, h4⟩ := h
 exact ⟨by simp [World.cell?, h1], by simp [World.cell?, h1], h2.cell, h3.cell, h4.cell, h3.frozen, h4.frozen⟩
theorem impl_ReadSector.St.own {B : Nat} {A0 : Option Addr} {n0 c0 : Nat} {A1 : Option Addr} {n1 c1 : Nat} {a : Int} {β : Type} : Own (fun (_ : β) W => impl_ReadSector.St B A0 n0 c0 A1 n1 c1 a W) := by
 intro s A C row hs hg hr
 obtain ⟨h1, h2, h3, h4⟩ := hs
 have k : ∀ {b : Nat} {cs : Array Value} {t : TypeId}, A.heap[b]? = some (.cells cs t (0, 0)) → C.heap[b]? = some (.cells cs t (0, 0)) := fun {b cs t} h => (hg.block b (Array.getElem?_eq_some_iff.1 h).1 (fun e => by
  obtain ⟨o, ho, hc⟩ := hr b e.symm
  rw [h] at ho
  cases ho
  cases hc)).trans h
 exact ⟨k h1, k h2, k h3, k h4⟩
set_option maxHeartbeats 1000000 in
theorem impl_ReadSector.bwd_mk (a : Option Addr) (len cap : Nat) (w : World) :
  Calls Try.prog 68 #[.slice a len cap] w fun e w' => e = .returned (.func (.func 106) #[] #[.pointer (some ⟨w.heap.size, 0, none⟩)]) ∧ w' = w.alloc (.cells #[.slice a len cap] 28) := by
 go_enter Try.func68, Try.ntmps68
 go_wp2
 go_ret
 exact ⟨rfl, rfl⟩
theorem impl_ReadSector.Bkept {A C : World} {row : Option Nat} {b t : Nat} {v : Value} (h : Boxed A b t v) (hg : A.grownBy C row) (hr : ∀ r, row = some r → ∃ o : Obj, A.heap[r]? = some o ∧ o.isCells = false) : Boxed C b t v := boxed_own (β := Unit) b t (fun _ => v) () A C row h hg hr
theorem impl_ReadSector.put2 {W : World} {B t u : Nat} {x y : Value} (h : Boxed W (B + 1 + 1) t x) (h' : Boxed W (B + 1 + 1 + 1) u y) (x' y' : Value) :
  Boxed ((W.setCell ⟨B + 1 + 1, 0, none⟩ x').setCell ⟨B + 1 + 1 + 1, 0, none⟩ y') (B + 1 + 1) t x' ∧ Boxed ((W.setCell ⟨B + 1 + 1, 0, none⟩ x').setCell ⟨B + 1 + 1 + 1, 0, none⟩ y') (B + 1 + 1 + 1) u y' :=
 ⟨(h.set x').other (by omega) y', (h'.other (by omega) x').set y'⟩
theorem impl_ReadSector.putB {w W : World} {n B : Nat} (h : Below n w W) (hn : n ≤ B) (x y : Value) : Below n w ((W.setCell ⟨B + 1 + 1, 0, none⟩ x).setCell ⟨B + 1 + 1 + 1, 0, none⟩ y) :=
 (h.setCell (p := ⟨B + 1 + 1, 0, none⟩) (by show n ≤ B + 1 + 1; omega) x).setCell (p := ⟨B + 1 + 1 + 1, 0, none⟩) (by show n ≤ B + 1 + 1 + 1; omega) y
set_option maxHeartbeats 4000000 in
set_option maxRecDepth 100000 in
theorem impl_ReadSector.calls (A0_0 : Option Addr) (c0_0 : Nat) (l0_0 : List ByteArray) (A0_1 : Option Addr) (c0_1 : Nat) (l0_1 : List S55) (a1 : Int) (r1 : ByteArray) (r2 : Int) (w : World) (hr0_0 : Kd.C Kd.string w A0_0 l0_0.length l0_0) (hc0_0 : l0_0.length ≤ c0_0) (hr0_1 : Kd.C k55 w A0_1 l0_1.length l0_1) (hc0_1 : l0_1.length ≤ c0_1) (h : impl_ReadSector.f l0_0 l0_1 a1 = some (r1, r2)) :
  Calls Try.prog 21 #[.agg #[.slice A0_0 l0_0.length c0_0, .slice A0_1 l0_1.length c0_1], .int .i64 a1] w fun e w' => e = .returned (.tuple #[.string r1, .int .i64 r2]) ∧ Below w.heap.size w w' := by
 unfold impl_ReadSector.f at h
 obtain ⟨d, hd, he⟩ := Option.bind_eq_some_iff.mp h
 have hn : l0_0.length ≤ 9223372036854775807 := hr0_0.2.1
 have HD := am hd
 have HE := am he
 have HR0 := am hr0_0
 have HR1 := am hr0_1
 have HC0 := am hc0_0
 have HC1 := am hc0_1
 clear hd he h hr0_0 hr0_1 hc0_0 hc0_1
 refine (callsIn_wide (n := 3)).1 (callsIn_of_wp_marks Try.func21 rfl trivial (wpIn_wide.2 ?_))
 simp only [Try.ntmps21, List.size_toArray, List.length_cons, List.length_nil, Nat.reduceAdd, Nat.reduceSub, Array.replicate_succ, Array.replicate_zero, List.push_toArray, List.append_toArray, List.nil_append, List.cons_append]
 go_upto_region 1 with fail
 have HS : Aside0 (impl_ReadSector.St w.heap.size A0_0 l0_0.length c0_0 A0_1 l0_1.length c0_1 a1 ((((w.alloc (Obj.cells #[Value.slice A0_0 l0_0.length c0_0, Value.slice A0_1 l0_1.length c0_1] 30)).alloc (Obj.cells #[Value.int IntKind.i64 a1] 2)).alloc (Obj.cells #[Value.string ⟨#[]⟩] 9)).alloc (Obj.cells #[Value.int IntKind.i64 0] 2))) := ⟨by
  have g0 := World.alloc_heap_new w (Obj.cells #[Value.slice A0_0 l0_0.length c0_0, Value.slice A0_1 l0_1.length c0_1] 30)
  have g1 := World.alloc_heap_new (w.alloc (Obj.cells #[Value.slice A0_0 l0_0.length c0_0, Value.slice A0_1 l0_1.length c0_1] 30)) (Obj.cells #[Value.int IntKind.i64 a1] 2)
  have g2 := World.alloc_heap_new ((w.alloc (Obj.cells #[Value.slice A0_0 l0_0.length c0_0, Value.slice A0_1 l0_1.length c0_1] 30)).alloc (Obj.cells #[Value.int IntKind.i64 a1] 2)) (Obj.cells #[Value.string ⟨#[]⟩] 9)
  have g3 := World.alloc_heap_new (((w.alloc (Obj.cells #[Value.slice A0_0 l0_0.length c0_0, Value.slice A0_1 l0_1.length c0_1] 30)).alloc (Obj.cells #[Value.int IntKind.i64 a1] 2)).alloc (Obj.cells #[Value.string ⟨#[]⟩] 9)) (Obj.cells #[Value.int IntKind.i64 0] 2)
  simp only [World.size_alloc] at g1 g2 g3
  refine ⟨?_, ?_, ?_, ?_⟩
  ·exact (Below.heap_alloc _ _ _ (by simp <;> omega)).trans ((Below.heap_alloc _ _ _ (by simp <;> omega)).trans ((Below.heap_alloc _ _ _ (by simp <;> omega)).trans g0))
  ·exact (Below.heap_alloc _ _ _ (by simp <;> omega)).trans ((Below.heap_alloc _ _ _ (by simp <;> omega)).trans g1)
  ·exact (Below.heap_alloc _ _ _ (by simp <;> omega)).trans g2
  ·exact g3⟩
 have HB : Aside0 (Below w.heap.size w ((((w.alloc (Obj.cells #[Value.slice A0_0 l0_0.length c0_0, Value.slice A0_1 l0_1.length c0_1] 30)).alloc (Obj.cells #[Value.int IntKind.i64 a1] 2)).alloc (Obj.cells #[Value.string ⟨#[]⟩] 9)).alloc (Obj.cells #[Value.int IntKind.i64 0] 2))) := ⟨((((Below.refl _ w).alloc (Nat.le_refl _) _).alloc (by simp) _).alloc (by simp <;> omega) _).alloc (by simp <;> omega) _⟩
 have HZ : Aside0 (w.heap.size + 3 < ((((w.alloc (Obj.cells #[Value.slice A0_0 l0_0.length c0_0, Value.slice A0_1 l0_1.length c0_1] 30)).alloc (Obj.cells #[Value.int IntKind.i64 a1] 2)).alloc (Obj.cells #[Value.string ⟨#[]⟩] 9)).alloc (Obj.cells #[Value.int IntKind.i64 0] 2)).heap.size) := ⟨by simp⟩
 generalize ((((w.alloc (Obj.cells #[Value.slice A0_0 l0_0.length c0_0, Value.slice A0_1 l0_1.length c0_1] 30)).alloc (Obj.cells #[Value.int IntKind.i64 a1] 2)).alloc (Obj.cells #[Value.string ⟨#[]⟩] 9)).alloc (Obj.cells #[Value.int IntKind.i64 0] 2)) = W1 at HS HB HZ ⊢
 have HCALL := am (impl_DiskOk.calls A0_0 c0_0 l0_0 A0_1 c0_1 l0_1 d W1 (Kd.C_below HR0.out HB.out) HC0.out (Kd.C_below HR1.out HB.out) HC1.out HD.out)
 obtain ⟨z0, z1, z2, z3, z4, z5, z6⟩ := HS.out.cells
 cases d with
 | false =>
  go_wp2_with (go_at_call 18; refine HCALL.out.mono ?_; rintro e w2 ⟨rfl, hb2⟩; have HS2 := am (HS.out.below hb2 HZ.out); have HB2 := am (HB.out.trans (hb2.mono HB.out.size)); obtain ⟨y0, y1, y2, y3, y4, y5, y6⟩ := HS2.out.cells; clear hb2)
  obtain ⟨e1, e2⟩ : ByteArray.empty = r1 ∧ (1 : Int) = r2 := by have := HE.out; rw [if_neg (by decide)] at this; injection this with this; injection this with e1 e2; exact ⟨e1, e2⟩
  have hp := impl_ReadSector.put2 HS2.out.2.2.1 HS2.out.2.2.2 (.string ⟨#[]⟩) (.int .i64 1)
  have hc1 := hp.1.cell
  have hc2 := hp.2.cell
  refine ⟨.tuple #[.string r1, .int .i64 r2], ?_, rfl, impl_ReadSector.putB HB2.out (Nat.le_refl _) _ _⟩
  rw [← e1, ← e2]
  simp [results, Try.f21, go_sem, hc1, hc2]
  rfl
 | true =>
  have HI := am (fun W => impl_isIndex.calls a1 (l0_0.length : Int) _ W (impl_DiskOk.idx a1 l0_0.length hn))
  have HE2 : Aside0 ((if 0 ≤ a1 ∧ a1 ≤ (l0_0.length : Int) - 1 then some (impl_ReadSector.got l0_0 l0_1 a1, (0 : Int)) else some (ByteArray.empty, 2)) = some (r1, r2)) := ⟨by have := HE.out; rw [if_pos rfl] at this; exact this⟩
  by_cases hx : 0 ≤ a1 ∧ a1 ≤ (l0_0.length : Int) - 1
  ·have HI2 : Aside0 (∀ W, Calls Try.prog 64 #[.int .i64 a1, .int .i64 (l0_0.length : Int)] W fun e w' => e = .returned (.bool true) ∧ Drawn0 W w') := ⟨fun W => by have := HI.out W; rw [decide_eq_true hx] at this; exact this⟩
   clear HI
   have HX := am hx
   clear hx
   go_wp2_with (first | (go_at_call 18; refine HCALL.out.mono ?_; rintro e w2 ⟨rfl, hb2⟩; have HS2 := am (HS.out.below hb2 HZ.out); have HB2 := am (HB.out.trans (hb2.mono HB.out.size)); have HZ2 := am (Nat.lt_of_lt_of_le HZ.out hb2.size); obtain ⟨y0, y1, y2, y3, y4, y5, y6⟩ := HS2.out.cells; clear hb2) | (go_at_call 64; refine (HI2.out _).mono ?_; rintro e w3 ⟨rfl, hdr⟩; have hb3 : Below w2.heap.size w2 w3 := (by obtain ⟨q, rfl⟩ := hdr; exact pdn (Below.refl _ _) q); clear hdr; have HS3 := am (HS2.out.below hb3 HZ2.out); have HB3 := am (HB2.out.trans (hb3.mono HB2.out.size)); have HZ3 := am (Nat.lt_of_lt_of_le HZ2.out hb3.size); obtain ⟨x0, x1, x2, x3, x4, x5, x6⟩ := HS3.out.cells; clear hb3) | (go_at_call 68; refine (impl_ReadSector.bwd_mk _ _ _ _).mono ?_; rintro e w4 ⟨rfl, hw4⟩; have hb4 := am hw4; clear hw4))
   have HS4 : Aside0 (impl_ReadSector.St w.heap.size A0_0 l0_0.length c0_0 A0_1 l0_1.length c0_1 a1 w4) := ⟨by rw [hb4.out]; exact HS3.out.below ((Below.refl w3.heap.size w3).alloc (Nat.le_refl _) _) HZ3.out⟩
   have HB4 : Aside0 (Below w.heap.size w w4) := ⟨by rw [hb4.out]; exact HB3.out.alloc HB3.out.size _⟩
   have HZ4 : Aside0 (w.heap.size + 3 < w4.heap.size) := ⟨by rw [hb4.out]; have := HZ3.out; simp; omega⟩
   have hbox : w4.cell? ⟨w3.heap.size, 0, none⟩ = some (.slice A0_1 l0_1.length c0_1) := by rw [hb4.out]; simp
   clear hb4 y0 y1 y2 y3 y4 y5 y6 x0 x1 x2 x3 x4 x5 x6 z0 z1 z2 z3 z4 z5 z6
   refine (wpIn_wide (n := 3)).1 (wpIn_rangeFunc_ownH (F := Fence.wide) (n := 3) rfl (by decide) (gf := 106) (lb := #[.pointer (some ⟨w3.heap.size, 0, none⟩)]) rfl trivial (enters_of Try.func106 (by kernel_rfl) rfl)
    (impl_ReadSector.bwd_stops Fence.wide 2 trivial rfl (by decide) A0_1 c0_1 l0_1 w4 (Kd.C_below HR1.out HB4.out) w3.heap.size hbox) belowK_t (belowK_b (Nat.le_refl _)) (Below.refl _ _) (fun _ => rfl)
    (fun pre W => (∀ p ∈ pre, p.2.f0 ≠ a1) ∧ Below w4.heap.size w4 W)
    (fun c pre W => (c = .ret ∧ ∃ ini last, pre = ini ++ [last] ∧ (∀ p ∈ ini, p.2.f0 ≠ a1) ∧ last.2.f0 = a1 ∧ Boxed W (w.heap.size + 1 + 1) 9 (.string last.2.f1) ∧ Boxed W (w.heap.size + 1 + 1 + 1) 2 (.int .i64 0)) ∧ Below w.heap.size w W)
    (OwnFrom.and (Own.from (fun s A B row hs hg hr => hs) _) (ownFrom_below (Nat.le_refl _) (Nat.le_refl _)))
    (fun c => OwnFrom.and (Own.from (fun s A B row hs hg hr => by obtain ⟨hc, ini, last, e1, e2, e3, e4, e5⟩ := hs; exact ⟨hc, ini, last, e1, e2, e3, impl_ReadSector.Bkept e4 hg hr, impl_ReadSector.Bkept e5 hg hr⟩) _) (ownFrom_below (Nat.le_refl _) HB4.out.size))
    ⟨by simp, Below.refl _ _⟩
    (fun x a' W => ∃ Bx, W.heap[Bx]? = some (.cells #[.int .i64 x.2.f0, .string x.2.f1] 55 (0, 0)) ∧ a' = { tmps := #[Value.agg #[Value.slice A0_0 l0_0.length c0_0, Value.slice A0_1 l0_1.length c0_1], Value.int IntKind.i64 a1, Value.pointer (some ⟨w.heap.size, 0, none⟩), Value.pointer (some ⟨w.heap.size + 1, 0, none⟩), Value.pointer (some ⟨w.heap.size + 1 + 1, 0, none⟩), Value.pointer (some ⟨w.heap.size + 1 + 1 + 1, 0, none⟩), undef, Value.pointer (some ⟨Bx, 0, none⟩), Value.bool false, Value.agg #[Value.slice A0_0 l0_0.length c0_0, Value.slice A0_1 l0_1.length c0_1], Value.bool true, Value.bool false, Value.bool false, Value.int IntKind.i64 a1, Value.pointer (some ⟨w.heap.size, 0, none⟩), Value.slice A0_0 l0_0.length c0_0, Value.int IntKind.i64 (l0_0.length : Int), Value.bool true, Value.bool false, Value.pointer (some ⟨w.heap.size, 1, none⟩), Value.slice A0_1 l0_1.length c0_1, Value.func (Fn.func 106) #[] #[Value.pointer (some ⟨w3.heap.size, 0, none⟩)], Value.int IntKind.i64 (x.1 : Int), Value.agg #[Value.int IntKind.i64 x.2.f0, Value.string x.2.f1], undef, undef, undef, undef, undef, undef, undef, undef, undef, undef, undef], defers := [] })
    (fun x a' => Own.from (fun s A B row hs hg hr => by
     obtain ⟨Bx, h1, h2⟩ := hs
     exact ⟨Bx, (hg.block Bx (Array.getElem?_eq_some_iff.1 h1).1 (fun e => by obtain ⟨o, ho, hc⟩ := hr Bx e.symm; rw [h1] at ho; cases ho; cases hc)).trans h1, h2⟩) _) ?assign ?body ?done ?stop)
   case assign =>
    rintro l pre x W K ⟨hi1, hi2⟩ hK
    gi_wp2
    exact hK _ _ ((KeepsOthers.alloc _ _).from _) ((Below.refl w4.heap.size W).alloc hi2.size _) ⟨hi1, hi2.alloc hi2.size _⟩ ⟨W.heap.size, World.alloc_heap_new W _, rfl⟩
   case body =>
    rintro l pre x a' W hl ⟨r, hr⟩ ⟨hi1, hi2⟩ ⟨Bx, hBx, rfl⟩ hlt
    have c0 : W.cell? ⟨Bx, 0, none⟩ = some (.int .i64 x.2.f0) := by simp [World.cell?, hBx]
    have c1 : W.cell? ⟨Bx, 1, none⟩ = some (.string x.2.f1) := by simp [World.cell?, hBx]
    have HS5 := am (HS4.out.below hi2 HZ4.out)
    obtain ⟨z0, z1, z2, z3, z4, z5, z6⟩ := HS5.out.cells
    have hB5 : Below w.heap.size w W := HB4.out.trans (hi2.mono HB4.out.size)
    by_cases hq : x.2.f0 = a1
    ·gi_wp2
     have hp := impl_ReadSector.put2 HS5.out.2.2.1 HS5.out.2.2.2 (.string x.2.f1) (.int .i64 0)
     exact ⟨((KeepsOthers.setCell _ _ _).trans (KeepsOthers.setCell _ _ _)).from _, ⟨rfl, pre, x, rfl, hi1, hq, hp.1, hp.2⟩, impl_ReadSector.putB hB5 (Nat.le_refl _) _ _⟩
    ·gi_wp2
     exact ⟨KeepsFrom.refl _ _, Below.refl _ _, fun p hp' => (List.mem_append.1 hp').elim (hi1 p) (fun e => by simp at e; subst e; exact hq), hi2⟩
   case done =>
    rintro D ys W hD rfl ⟨hi1, hi2⟩ hK
    have HS5 := am (HS4.out.below hi2 HZ4.out)
    obtain ⟨z0, z1, z2, z3, z4, z5, z6⟩ := HS5.out.cells
    have hB5 : Below w.heap.size w W := HB4.out.trans (hi2.mono HB4.out.size)
    have hx := HX.out
    obtain ⟨na, rfl⟩ : ∃ na : Nat, a1 = (na : Int) := ⟨a1.toNat, by omega⟩
    obtain ⟨ad, e, hx0⟩ := Kd.at_string (Kd.C_below HR0.out hB5) (na : Int) (by omega) (by omega)
    cases e
    rw [Int.toNat_natCast] at hx0
    have q1 : (0 : Int) ≤ (na : Int) := by omega
    have q2 : (na : Int) < (l0_0.length : Int) := by omega
    have q3 : na < l0_0.length := by omega
    obtain ⟨e1, e2⟩ : impl_ReadSector.got l0_0 l0_1 (na : Int) = r1 ∧ (0 : Int) = r2 := by have := HE2.out; rw [if_pos HX.out] at this; injection this with this; injection this with e1 e2; exact ⟨e1, e2⟩
    rw [impl_ReadSector.got_none l0_0 hi1] at e1
    subst e1
    subst e2
    clear hx
    go_wp2
    have hp := impl_ReadSector.put2 HS5.out.2.2.1 HS5.out.2.2.2 (.string (rdOf ByteArray.empty l0_0 (na : Int))) (.int .i64 0)
    have hK' := ((KeepsOthers.setCell W ⟨w.heap.size + 1 + 1, 0, none⟩ (.string (rdOf ByteArray.empty l0_0 (na : Int)))).trans (KeepsOthers.setCell _ ⟨w.heap.size + 1 + 1 + 1, 0, none⟩ (.int .i64 0))).same D _ hK rfl
    refine ⟨by simp, .inl ⟨_, _, rfl, run_takeDeferred hK', ?_⟩⟩
    have hc1 := (impl_ReadSector.Bkept hp.1 (grownBy_putObj' _ D (.deferred none)) (fun r e => by cases e; exact ⟨_, hK', rfl⟩)).cell
    have hc2 := (impl_ReadSector.Bkept hp.2 (grownBy_putObj' _ D (.deferred none)) (fun r e => by cases e; exact ⟨_, hK', rfl⟩)).cell
    refine ⟨.tuple #[.string _, .int .i64 0], ?_, rfl, (impl_ReadSector.putB hB5 (Nat.le_refl _) _ _).trans (belowK_b (w := w) (Nat.le_refl _) _ D _ _ (Nat.le_trans HB4.out.size hD) hK' rfl rfl)⟩
    simp [results, Try.f21, go_sem, hc1, hc2]
   case stop =>
    rintro D c pre W hD ⟨k, hk, rfl⟩ ⟨⟨rfl, ini, last, e1, e2, e3, e4, e5⟩, hB⟩ hK
    obtain ⟨e6, e7⟩ : impl_ReadSector.got l0_0 l0_1 a1 = r1 ∧ (0 : Int) = r2 := by have := HE2.out; rw [if_pos HX.out] at this; injection this with this; injection this with e1 e2; exact ⟨e1, e2⟩
    rw [impl_ReadSector.got_some l0_0 hk e1 e2 e3] at e6
    gi_wp2
    refine ⟨by simp, .inl ⟨_, _, rfl, run_takeDeferred hK, ?_⟩⟩
    have hc1 := (impl_ReadSector.Bkept e4 (grownBy_putObj' _ D (.deferred none)) (fun r e => by cases e; exact ⟨_, hK, rfl⟩)).cell
    have hc2 := (impl_ReadSector.Bkept e5 (grownBy_putObj' _ D (.deferred none)) (fun r e => by cases e; exact ⟨_, hK, rfl⟩)).cell
    refine ⟨.tuple #[.string r1, .int .i64 r2], ?_, rfl, hB.trans (belowK_b (w := w) (Nat.le_refl _) _ D _ _ (Nat.le_trans HB4.out.size hD) hK rfl rfl)⟩
    rw [← e6, ← e7]
    simp [results, Try.f21, go_sem, hc1, hc2]
  ·have HI2 : Aside0 (∀ W, Calls Try.prog 64 #[.int .i64 a1, .int .i64 (l0_0.length : Int)] W fun e w' => e = .returned (.bool false) ∧ Drawn0 W w') := ⟨fun W => by have := HI.out W; rw [decide_eq_false hx] at this; exact this⟩
   clear HI
   have HX := am hx
   clear hx
   go_wp2_with (first | (go_at_call 18; refine HCALL.out.mono ?_; rintro e w2 ⟨rfl, hb2⟩; have HS2 := am (HS.out.below hb2 HZ.out); have HB2 := am (HB.out.trans (hb2.mono HB.out.size)); have HZ2 := am (Nat.lt_of_lt_of_le HZ.out hb2.size); obtain ⟨y0, y1, y2, y3, y4, y5, y6⟩ := HS2.out.cells; clear hb2) | (go_at_call 64; refine (HI2.out _).mono ?_; rintro e w3 ⟨rfl, hdr⟩; have hb3 : Below w2.heap.size w2 w3 := (by obtain ⟨q, rfl⟩ := hdr; exact pdn (Below.refl _ _) q); clear hdr; have HS3 := am (HS2.out.below hb3 HZ2.out); have HB3 := am (HB2.out.trans (hb3.mono HB2.out.size)); have HZ3 := am (Nat.lt_of_lt_of_le HZ2.out hb3.size); obtain ⟨x0, x1, x2, x3, x4, x5, x6⟩ := HS3.out.cells; clear hb3))
   obtain ⟨e1, e2⟩ : ByteArray.empty = r1 ∧ (2 : Int) = r2 := by have := HE2.out; rw [if_neg HX.out] at this; injection this with this; injection this with e1 e2; exact ⟨e1, e2⟩
   have hp := impl_ReadSector.put2 HS3.out.2.2.1 HS3.out.2.2.2 (.string ⟨#[]⟩) (.int .i64 2)
   have hc1 := hp.1.cell
   have hc2 := hp.2.cell
   refine ⟨.tuple #[.string r1, .int .i64 r2], ?_, rfl, impl_ReadSector.putB HB3.out (Nat.le_refl _) _ _⟩
   rw [← e1, ← e2]
   simp [results, Try.f21, go_sem, hc1, hc2]
   rfl

/-! ### laws_FnExactReadSector: function 4 -/
def laws_FnExactReadSector.j0 : Nat → Bool → List ByteArray → List (S129) → List ByteArray → List (S55) → Option (Bool)
 | 0, _, _, _, _, _ => none
 | k + 1, x38, x158000, x158001, x174000, x174001 => if x38 = true then (some false) else ((laws_toDisk.f k x158000 x158001).bind fun bt176 => ((laws_eqDisk.f k x174000 x174001 bt176.1 bt176.2).bind fun t182 => (if t182 = true then (some true) else (some false))))
def laws_FnExactReadSector.f (k : Nat) (l0_0 : List ByteArray) (l0_1 : List (S129)) (a1 : Int) : Option (Bool) := (laws_szDisk.f k l0_0 l0_1 1048576).bind fun t158 => (if t158 < 0 then (some true) else ((laws_toDisk.f k l0_0 l0_1).bind fun bt159 => ((spec_ReadSector.f k bt159.1 bt159.2 a1).bind fun bt165 => ((laws_toDisk.f k l0_0 l0_1).bind fun bt167 => ((impl_ReadSector.f bt167.1 bt167.2 a1).bind fun bt174 => (if bt174.1.toList = bt165.1.toList then (laws_FnExactReadSector.j0 k (bt174.2 != bt165.2) l0_0 l0_1 bt167.1 bt167.2) else (laws_FnExactReadSector.j0 k true l0_0 l0_1 bt167.1 bt167.2)))))))
theorem laws_FnExactReadSector.mono_l : ∀ k, (∀ y0 y1 y2 y3 y4, LeO (laws_FnExactReadSector.j0 k y0 y1 y2 y3 y4) (laws_FnExactReadSector.j0 (k + 1) y0 y1 y2 y3 y4))
 | 0 => fun _ _ _ _ _ r h => by simp [laws_FnExactReadSector.j0] at h
 | k + 1 => by
  have ih0 := laws_FnExactReadSector.mono_l k
  ·intro y0 y1 y2 y3 y4
   unfold laws_FnExactReadSector.j0
   repeat' first
   | (with_reducible exact ih0 _ _ _ _ _)
   | (with_reducible exact laws_eqDisk.mono _ _ _ _ _)
   | (with_reducible exact laws_szDisk.mono _ _ _ _)
   | (with_reducible exact laws_toDisk.mono _ _ _)
   | (with_reducible exact spec_ReadSector.mono _ _ _ _)
   | (with_reducible exact LeO.refl _)
   | (with_reducible exact LeO.none _)
   | (with_reducible refine LeO.ite ?_ ?_)
   | (with_reducible refine LeO.bind ?_ (fun _ => ?_))
   | exact ih0 _ _ _ _ _
   | exact laws_eqDisk.mono _ _ _ _ _
   | exact laws_szDisk.mono _ _ _ _
   | exact laws_toDisk.mono _ _ _
   | exact spec_ReadSector.mono _ _ _ _
   | exact LeO.none _
   | refine LeO.ite ?_ ?_
   | refine LeO.bind ?_ (fun _ => ?_)
theorem laws_FnExactReadSector.mono : ∀ a0 a1 a2 k, LeO (laws_FnExactReadSector.f k a0 a1 a2) (laws_FnExactReadSector.f (k + 1) a0 a1 a2) := by
 intro a0 a1 a2 k
 have ih0 := laws_FnExactReadSector.mono_l k
 unfold laws_FnExactReadSector.f
 repeat' first
   | (with_reducible exact ih0 _ _ _ _ _)
   | (with_reducible exact laws_eqDisk.mono _ _ _ _ _)
   | (with_reducible exact laws_szDisk.mono _ _ _ _)
   | (with_reducible exact laws_toDisk.mono _ _ _)
   | (with_reducible exact spec_ReadSector.mono _ _ _ _)
   | (with_reducible exact LeO.refl _)
   | (with_reducible exact LeO.none _)
   | (with_reducible refine LeO.ite ?_ ?_)
   | (with_reducible refine LeO.bind ?_ (fun _ => ?_))
   | exact ih0 _ _ _ _ _
   | exact laws_eqDisk.mono _ _ _ _ _
   | exact laws_szDisk.mono _ _ _ _
   | exact laws_toDisk.mono _ _ _
   | exact spec_ReadSector.mono _ _ _ _
   | exact LeO.none _
   | refine LeO.ite ?_ ?_
   | refine LeO.bind ?_ (fun _ => ?_)
set_option maxHeartbeats 8000000 in
set_option maxRecDepth 100000 in
theorem laws_FnExactReadSector.calls (k : Nat) (A0_0 : Option Addr) (c0_0 : Nat) (l0_0 : List ByteArray) (A0_1 : Option Addr) (c0_1 : Nat) (l0_1 : List (S129)) (a1 : Int) (r : Bool) (w : World) (hr0_0 : Kd.C Kd.string w A0_0 l0_0.length l0_0) (hc0_0 : l0_0.length ≤ c0_0) (hr0_1 : Kd.C k129 w A0_1 l0_1.length l0_1) (hc0_1 : l0_1.length ≤ c0_1) (hT0 : r = true) (h : laws_FnExactReadSector.f k l0_0 l0_1 a1 = some r) :
  Calls Try.prog 4 #[.agg #[.slice A0_0 l0_0.length c0_0, .slice A0_1 l0_1.length c0_1], .int .i64 a1] w fun e w' => e = .returned (.bool r) ∧ Below w.heap.size w w' := by
 have hT := am hT0
 clear hT0
 have hu25 := Try.underlying25
 have hu30 := Try.underlying30
 have HR0_0 := am hr0_0
 have HC0_0 := am hc0_0
 clear hr0_0 hc0_0
 have HR0_1 := am hr0_1
 have HC0_1 := am hc0_1
 clear hr0_1 hc0_1
 have HB := am (Below.refl w.heap.size w)
 have H : ((laws_szDisk.f k l0_0 l0_1 1048576).bind fun t158 => (if t158 < 0 then (some true) else ((laws_toDisk.f k l0_0 l0_1).bind fun bt159 => ((spec_ReadSector.f k bt159.1 bt159.2 a1).bind fun bt165 => ((laws_toDisk.f k l0_0 l0_1).bind fun bt167 => ((impl_ReadSector.f bt167.1 bt167.2 a1).bind fun bt174 => (if bt174.1.toList = bt165.1.toList then (laws_FnExactReadSector.j0 k (bt174.2 != bt165.2) l0_0 l0_1 bt167.1 bt167.2) else (laws_FnExactReadSector.j0 k true l0_0 l0_1 bt167.1 bt167.2)))))))) = some r := h
 clear h
 replace H := Option.bind_eq_some_iff.mp H
 obtain ⟨t158, A30, H⟩ := H
 replace H : (if t158 < 0 then (some true) else ((laws_toDisk.f k l0_0 l0_1).bind fun bt159 => ((spec_ReadSector.f k bt159.1 bt159.2 a1).bind fun bt165 => ((laws_toDisk.f k l0_0 l0_1).bind fun bt167 => ((impl_ReadSector.f bt167.1 bt167.2 a1).bind fun bt174 => (if bt174.1.toList = bt165.1.toList then (laws_FnExactReadSector.j0 k (bt174.2 != bt165.2) l0_0 l0_1 bt167.1 bt167.2) else (laws_FnExactReadSector.j0 k true l0_0 l0_1 bt167.1 bt167.2))))))) = some r := H
 have A3 := am A30
 clear A30
 by_cases c4 : t158 < 0
 ·rw [if_pos c4] at H
  have c4b0 : decide (t158 < 0) = true := decide_eq_true c4
  clear c4
  obtain rfl := Option.some.inj H
  go_enter Try.func4, Try.ntmps4
  go_wp2_with (first | ((with_reducible refine gate_dst (N := 2) rfl ?_); refine box_event ?hg (N := 2) ?hd (cs := #[.slice A0_0 l0_0.length c0_0, .slice A0_1 l0_1.length c0_1]) (t := 25) ?hr ?_; (case hd => rfl); (case hg => rfl); (case hr => first | (go_simp; done) | (go_simp; rfl)); intro gb157 hg w5 hbox hb; have n0_ := am (below_step (by repeat (first | (with_reducible first | exact HB.out | apply bal | apply pdn | apply bd1) | exact HB.out)) hb); have n1_ := am (hbox); have n2_ := am ((by rw [hg]; exact (below_size (by repeat (first | (with_reducible first | exact HB.out | apply bal | apply pdn | apply bd1) | exact HB.out))) : w.heap.size ≤ gb157)); have n3_ := am ((by rw [hg]; exact (below_size (by repeat (first | (with_reducible first | exact HB.out | apply bal | apply pdn | apply bd1) | exact HB.out))) : w.heap.size ≤ gb157)); clear HB; have HB := n0_; have BK157 := n1_; have GW157 := n2_; have GE157 := n3_; clear n0_ n1_ n2_ n3_; clear hb hbox hg; have hcz6_0 : w5.cell? ⟨gb157, 0, none⟩ = some (.slice A0_0 l0_0.length c0_0) := (kce BK157.out 0).trans rfl; have hcz6_1 : w5.cell? ⟨gb157, 1, none⟩ = some (.slice A0_1 l0_1.length c0_1) := (kce BK157.out 1).trans rfl; have hfz6_0 := kfr BK157.out 0; have hfz6_1 := kfr BK157.out 1) | ((with_reducible refine gate_callee (f := 15) rfl ?_); refine goesL_ (some 13) rfl rfl Try.func15 (by kernel_rfl) rfl #[.agg #[.slice A0_0 l0_0.length c0_0, .slice A0_1 l0_1.length c0_1], .int .i64 1048576] rfl (by (try simp only [mta, mco, mni]); first | done | rfl | (simp only [lnd, lnt]; rfl)) ?_; (with_reducible refine (laws_szDisk.calls k _ _ l0_0 _ _ l0_1 1048576 t158 _ ?side1 ?side2 ?side3 ?side4 A3.out).mono ?_); (case side1 => repeat (first | exact (Kd.C_below HR0_0.out HB.out) | (with_reducible first | apply kca | apply kcn | apply kcd))); (case side2 => exact HC0_0.out); (case side3 => repeat (first | exact (Kd.C_below HR0_1.out HB.out) | (with_reducible first | apply kca | apply kcn | apply kcd))); (case side4 => exact HC0_1.out); rintro e w7 ⟨rfl, hb⟩; refine ⟨_, rfl, ?_⟩; have n0_ := am (kbb (g := gb157) (o := .cells #[.slice A0_0 l0_0.length c0_0, .slice A0_1 l0_1.length c0_1] 25 (0, 0)) (by (with_reducible repeat (first | apply kdn | apply kdr | apply kal)); exact BK157.out) hb); have n1_ := am (below_step (by repeat (first | (with_reducible first | exact HB.out | apply bal | apply pdn | apply bd1 | refine bst ?_ GE157.out) | exact HB.out)) hb); clear BK157; clear HB; have BK157 := n0_; have HB := n1_; clear n0_ n1_; (try clear hb); (try clear hb2); (try clear hk); (try clear hi)))
  go_ret
  exact ⟨by first | rfl | (simp [errW_none, errW_some] <;> rfl) | (simp [*, errW_none, errW_some] <;> rfl), by repeat (first | (with_reducible first | exact HB.out | apply bal | apply pdn | apply bd1 | refine bst ?_ GE157.out) | exact HB.out)⟩
 ·rw [if_neg c4] at H
  have c4b0 : decide (t158 < 0) = false := decide_eq_false c4
  clear c4
  replace H := Option.bind_eq_some_iff.mp H
  obtain ⟨⟨t159, t162⟩, A80, H⟩ := H
  replace H : ((spec_ReadSector.f k t159 t162 a1).bind fun bt165 => ((laws_toDisk.f k l0_0 l0_1).bind fun bt167 => ((impl_ReadSector.f bt167.1 bt167.2 a1).bind fun bt174 => (if bt174.1.toList = bt165.1.toList then (laws_FnExactReadSector.j0 k (bt174.2 != bt165.2) l0_0 l0_1 bt167.1 bt167.2) else (laws_FnExactReadSector.j0 k true l0_0 l0_1 bt167.1 bt167.2))))) = some r := H
  have A8 := am A80
  clear A80
  replace H := Option.bind_eq_some_iff.mp H
  obtain ⟨⟨t165, t166⟩, A90, H⟩ := H
  replace H : ((laws_toDisk.f k l0_0 l0_1).bind fun bt167 => ((impl_ReadSector.f bt167.1 bt167.2 a1).bind fun bt174 => (if bt174.1.toList = t165.toList then (laws_FnExactReadSector.j0 k (bt174.2 != t166) l0_0 l0_1 bt167.1 bt167.2) else (laws_FnExactReadSector.j0 k true l0_0 l0_1 bt167.1 bt167.2)))) = some r := H
  have A9 := am A90
  clear A90
  replace H := Option.bind_eq_some_iff.mp H
  obtain ⟨⟨t167, t170⟩, A100, H⟩ := H
  replace H : ((impl_ReadSector.f t167 t170 a1).bind fun bt174 => (if bt174.1.toList = t165.toList then (laws_FnExactReadSector.j0 k (bt174.2 != t166) l0_0 l0_1 t167 t170) else (laws_FnExactReadSector.j0 k true l0_0 l0_1 t167 t170))) = some r := H
  have A10 := am A100
  clear A100
  replace H := Option.bind_eq_some_iff.mp H
  obtain ⟨⟨t174, t175⟩, A110, H⟩ := H
  replace H : (if t174.toList = t165.toList then (laws_FnExactReadSector.j0 k (t175 != t166) l0_0 l0_1 t167 t170) else (laws_FnExactReadSector.j0 k true l0_0 l0_1 t167 t170)) = some r := H
  have A11 := am A110
  clear A110
  have HC12 := am H
  clear H
  go_enter Try.func4, Try.ntmps4
  go_upto_region 8 with (first | ((with_reducible refine gate_dst (N := 2) rfl ?_); refine box_event ?hg (N := 2) ?hd (cs := #[.slice A0_0 l0_0.length c0_0, .slice A0_1 l0_1.length c0_1]) (t := 25) ?hr ?_; (case hd => rfl); (case hg => rfl); (case hr => first | (go_simp; done) | (go_simp; rfl)); intro gb157 hg w13 hbox hb; have n0_ := am (below_step (by repeat (first | (with_reducible first | exact HB.out | apply bal | apply pdn | apply bd1) | exact HB.out)) hb); have n1_ := am (hbox); have n2_ := am ((by rw [hg]; exact (below_size (by repeat (first | (with_reducible first | exact HB.out | apply bal | apply pdn | apply bd1) | exact HB.out))) : w.heap.size ≤ gb157)); have n3_ := am ((by rw [hg]; exact (below_size (by repeat (first | (with_reducible first | exact HB.out | apply bal | apply pdn | apply bd1) | exact HB.out))) : w.heap.size ≤ gb157)); clear HB; have HB := n0_; have BK157 := n1_; have GW157 := n2_; have GE157 := n3_; clear n0_ n1_ n2_ n3_; clear hb hbox hg; have hcz14_0 : w13.cell? ⟨gb157, 0, none⟩ = some (.slice A0_0 l0_0.length c0_0) := (kce BK157.out 0).trans rfl; have hcz14_1 : w13.cell? ⟨gb157, 1, none⟩ = some (.slice A0_1 l0_1.length c0_1) := (kce BK157.out 1).trans rfl; have hfz14_0 := kfr BK157.out 0; have hfz14_1 := kfr BK157.out 1) | ((with_reducible refine gate_callee (f := 15) rfl ?_); refine goesL_ (some 13) rfl rfl Try.func15 (by kernel_rfl) rfl #[.agg #[.slice A0_0 l0_0.length c0_0, .slice A0_1 l0_1.length c0_1], .int .i64 1048576] rfl (by (try simp only [mta, mco, mni]); first | done | rfl | (simp only [lnd, lnt]; rfl)) ?_; (with_reducible refine (laws_szDisk.calls k _ _ l0_0 _ _ l0_1 1048576 t158 _ ?side1 ?side2 ?side3 ?side4 A3.out).mono ?_); (case side1 => repeat (first | exact (Kd.C_below HR0_0.out HB.out) | (with_reducible first | apply kca | apply kcn | apply kcd))); (case side2 => exact HC0_0.out); (case side3 => repeat (first | exact (Kd.C_below HR0_1.out HB.out) | (with_reducible first | apply kca | apply kcn | apply kcd))); (case side4 => exact HC0_1.out); rintro e w15 ⟨rfl, hb⟩; refine ⟨_, rfl, ?_⟩; have n0_ := am (kbb (g := gb157) (o := .cells #[.slice A0_0 l0_0.length c0_0, .slice A0_1 l0_1.length c0_1] 25 (0, 0)) (by (with_reducible repeat (first | apply kdn | apply kdr | apply kal)); exact BK157.out) hb); have n1_ := am (below_step (by repeat (first | (with_reducible first | exact HB.out | apply bal | apply pdn | apply bd1 | refine bst ?_ GE157.out) | exact HB.out)) hb); clear BK157; clear HB; have BK157 := n0_; have HB := n1_; clear n0_ n1_; (try clear hb); (try clear hb2); (try clear hk); (try clear hi); have hcz16_0 : w15.cell? ⟨gb157, 0, none⟩ = some (.slice A0_0 l0_0.length c0_0) := (kce BK157.out 0).trans rfl; have hcz16_1 : w15.cell? ⟨gb157, 1, none⟩ = some (.slice A0_1 l0_1.length c0_1) := (kce BK157.out 1).trans rfl; have hfz16_0 := kfr BK157.out 0; have hfz16_1 := kfr BK157.out 1) | ((with_reducible refine gate_callee (f := 17) rfl ?_); refine goesL_ (some 18) rfl rfl Try.func17 (by kernel_rfl) rfl #[.agg #[.slice A0_0 l0_0.length c0_0, .slice A0_1 l0_1.length c0_1]] rfl (by (try simp only [mta, mco, mni]); first | done | rfl | (simp only [lnd, lnt]; rfl)) ?_; (with_reducible refine (laws_toDisk.calls k _ _ l0_0 _ _ l0_1 t159 t162 _ ?side1 ?side2 ?side3 ?side4 A8.out).mono ?_); (case side1 => repeat (first | exact (Kd.C_below HR0_0.out HB.out) | (with_reducible first | apply kca | apply kcn | apply kcd))); (case side2 => exact HC0_0.out); (case side3 => repeat (first | exact (Kd.C_below HR0_1.out HB.out) | (with_reducible first | apply kca | apply kcn | apply kcd))); (case side4 => exact HC0_1.out); rintro e w17 ⟨v160, v163, rfl, ho0, ho1, hb⟩; refine ⟨_, rfl, ?_⟩; have n0_ := am (Kd.R_lower ho0 (below_size (by repeat (first | (with_reducible first | exact HB.out | apply bal | apply pdn | apply bd1 | refine bst ?_ GE157.out) | exact HB.out)))); have n1_ := am (Kd.R_lower ho1 (below_size (by repeat (first | (with_reducible first | exact HB.out | apply bal | apply pdn | apply bd1 | refine bst ?_ GE157.out) | exact HB.out)))); have n2_ := am (kbb (g := gb157) (o := .cells #[.slice A0_0 l0_0.length c0_0, .slice A0_1 l0_1.length c0_1] 25 (0, 0)) (by (with_reducible repeat (first | apply kdn | apply kdr | apply kal)); exact BK157.out) hb); have n3_ := am (below_step (by repeat (first | (with_reducible first | exact HB.out | apply bal | apply pdn | apply bd1 | refine bst ?_ GE157.out) | exact HB.out)) hb); clear BK157; clear HB; have HO161 := n0_; have HO164 := n1_; have BK157 := n2_; have HB := n3_; clear n0_ n1_ n2_ n3_; (try clear hb); (try clear hb2); (try clear hk); (try clear hi); (try clear ho0); (try clear ho1); obtain ⟨Ao18, co18, eo18⟩ := Kd.R_slice HO161.out; subst eo18; obtain ⟨Ao19, co19, eo19⟩ := Kd.R_slice HO164.out; subst eo19) | ((with_reducible refine gate_callee (f := 20) rfl ?_); refine goesL_ (some 20) rfl rfl Try.func20 (by kernel_rfl) rfl #[.agg #[.slice Ao18 t159.length co18, .slice Ao19 t162.length co19], .int .i64 a1] rfl (by (try simp only [mta, mco, mni]); first | done | rfl | (simp only [lnd, lnt]; rfl)) ?_; (with_reducible refine (spec_ReadSector.calls k _ _ t159 _ _ t162 a1 t165 t166 _ ?side1 ?side2 ?side3 ?side4 A9.out).mono ?_); (case side1 => repeat (first | exact (Kd.R_reads' HO161.out).2.2 | (with_reducible first | apply kca | apply kcn | apply kcd))); (case side2 => exact (Kd.R_reads' HO161.out).2.1); (case side3 => repeat (first | exact (Kd.R_reads' HO164.out).2.2 | (with_reducible first | apply kca | apply kcn | apply kcd))); (case side4 => exact (Kd.R_reads' HO164.out).2.1); rintro e w20 ⟨rfl, hb⟩; refine ⟨_, rfl, ?_⟩; have n0_ := am (krb (by (with_reducible repeat (first | apply kra | apply krn | apply krd)); exact HO161.out) hb); have n1_ := am (krb (by (with_reducible repeat (first | apply kra | apply krn | apply krd)); exact HO164.out) hb); have n2_ := am (kbb (g := gb157) (o := .cells #[.slice A0_0 l0_0.length c0_0, .slice A0_1 l0_1.length c0_1] 25 (0, 0)) (by (with_reducible repeat (first | apply kdn | apply kdr | apply kal)); exact BK157.out) hb); have n3_ := am (below_step (by repeat (first | (with_reducible first | exact HB.out | apply bal | apply pdn | apply bd1 | refine bst ?_ GE157.out) | exact HB.out)) hb); clear HO161; clear HO164; clear BK157; clear HB; have HO161 := n0_; have HO164 := n1_; have BK157 := n2_; have HB := n3_; clear n0_ n1_ n2_ n3_; (try clear hb); (try clear hb2); (try clear hk); (try clear hi); have hcz21_0 : w20.cell? ⟨gb157, 0, none⟩ = some (.slice A0_0 l0_0.length c0_0) := (kce BK157.out 0).trans rfl; have hcz21_1 : w20.cell? ⟨gb157, 1, none⟩ = some (.slice A0_1 l0_1.length c0_1) := (kce BK157.out 1).trans rfl; have hfz21_0 := kfr BK157.out 0; have hfz21_1 := kfr BK157.out 1) | ((with_reducible refine gate_callee (f := 17) rfl ?_); refine goesL_ (some 24) rfl rfl Try.func17 (by kernel_rfl) rfl #[.agg #[.slice A0_0 l0_0.length c0_0, .slice A0_1 l0_1.length c0_1]] rfl (by (try simp only [mta, mco, mni]); first | done | rfl | (simp only [lnd, lnt]; rfl)) ?_; (with_reducible refine (laws_toDisk.calls k _ _ l0_0 _ _ l0_1 t167 t170 _ ?side1 ?side2 ?side3 ?side4 A10.out).mono ?_); (case side1 => repeat (first | exact (Kd.C_below HR0_0.out HB.out) | (with_reducible first | apply kca | apply kcn | apply kcd))); (case side2 => exact HC0_0.out); (case side3 => repeat (first | exact (Kd.C_below HR0_1.out HB.out) | (with_reducible first | apply kca | apply kcn | apply kcd))); (case side4 => exact HC0_1.out); rintro e w22 ⟨v168, v171, rfl, ho0, ho1, hb⟩; refine ⟨_, rfl, ?_⟩; have n0_ := am (kre (by (with_reducible repeat (first | apply kra | apply krn | apply krd)); exact HO161.out) (Kd.R_base ho0) hb); have n1_ := am (kre (by (with_reducible repeat (first | apply kra | apply krn | apply krd)); exact HO164.out) (Kd.R_base ho1) hb); have n2_ := am (Kd.R_lower (Kd.R_new' ho0 (Kd.R_lt (by (with_reducible repeat (first | apply kra | apply krn | apply krd)); exact HO161.out))) (below_size (by repeat (first | (with_reducible first | exact HB.out | apply bal | apply pdn | apply bd1 | refine bst ?_ GE157.out) | exact HB.out)))); have n3_ := am (Kd.R_lower (Kd.R_new' ho1 (Kd.R_lt (by (with_reducible repeat (first | apply kra | apply krn | apply krd)); exact HO164.out))) (below_size (by repeat (first | (with_reducible first | exact HB.out | apply bal | apply pdn | apply bd1 | refine bst ?_ GE157.out) | exact HB.out)))); have n4_ := am (kbb (g := gb157) (o := .cells #[.slice A0_0 l0_0.length c0_0, .slice A0_1 l0_1.length c0_1] 25 (0, 0)) (by (with_reducible repeat (first | apply kdn | apply kdr | apply kal)); exact BK157.out) hb); have n5_ := am (below_step (by repeat (first | (with_reducible first | exact HB.out | apply bal | apply pdn | apply bd1 | refine bst ?_ GE157.out) | exact HB.out)) hb); clear HO161; clear HO164; clear BK157; clear HB; have HO161 := n0_; have HO164 := n1_; have HO169 := n2_; have HO172 := n3_; have BK157 := n4_; have HB := n5_; clear n0_ n1_ n2_ n3_ n4_ n5_; (try clear hb); (try clear hb2); (try clear hk); (try clear hi); (try clear ho0); (try clear ho1)) | ((with_reducible refine gate_dst (N := 8) rfl ?_); refine box_event ?hg (N := 8) ?hd (cs := #[.slice none 0 0, .slice none 0 0]) (t := 30) ?hr ?_; (case hd => rfl); (case hg => rfl); (case hr => first | (go_simp; done) | (go_simp; rfl)); intro gb173 hg w23 hbox hb; have n0_ := am (krb (by (with_reducible repeat (first | apply kra | apply krn | apply krd)); exact HO161.out) hb); have n1_ := am (krb (by (with_reducible repeat (first | apply kra | apply krn | apply krd)); exact HO164.out) hb); have n2_ := am (krb (by (with_reducible repeat (first | apply kra | apply krn | apply krd)); exact HO169.out) hb); have n3_ := am (krb (by (with_reducible repeat (first | apply kra | apply krn | apply krd)); exact HO172.out) hb); have n4_ := am (kbb (g := gb157) (o := .cells #[.slice A0_0 l0_0.length c0_0, .slice A0_1 l0_1.length c0_1] 25 (0, 0)) (by (with_reducible repeat (first | apply kdn | apply kdr | apply kal)); exact BK157.out) hb); have n5_ := am (below_step (by repeat (first | (with_reducible first | exact HB.out | apply bal | apply pdn | apply bd1 | refine bst ?_ GE157.out) | exact HB.out)) hb); have n6_ := am (hbox); have n7_ := am ((by rw [hg]; exact (below_size (by repeat (first | (with_reducible first | exact HB.out | apply bal | apply pdn | apply bd1 | refine bst ?_ GE157.out) | exact HB.out))) : w.heap.size ≤ gb173)); have n8_ := am ((by rw [hg]; exact (below_size (by repeat (first | (with_reducible first | exact HB.out | apply bal | apply pdn | apply bd1 | refine bst ?_ GE157.out) | exact HB.out))) : w.heap.size ≤ gb173)); have n9_ := am ((by rw [hg]; exact Nat.ne_of_lt (blk_lt (g := gb157) (o := .cells #[.slice A0_0 l0_0.length c0_0, .slice A0_1 l0_1.length c0_1] 25 (0, 0)) (by (with_reducible repeat (first | apply kdn | apply kdr | apply kal)); exact BK157.out)) : gb157 ≠ gb173)); have n10_ := am ((by rw [hg]; exact Nat.ne_of_gt (blk_lt (g := gb157) (o := .cells #[.slice A0_0 l0_0.length c0_0, .slice A0_1 l0_1.length c0_1] 25 (0, 0)) (by (with_reducible repeat (first | apply kdn | apply kdr | apply kal)); exact BK157.out)) : gb173 ≠ gb157)); clear HO161; clear HO164; clear HO169; clear HO172; clear BK157; clear HB; have HO161 := n0_; have HO164 := n1_; have HO169 := n2_; have HO172 := n3_; have BK157 := n4_; have HB := n5_; have BK173 := n6_; have GW173 := n7_; have GE173 := n8_; have NB157_173 := n9_; have NB173_157 := n10_; clear n0_ n1_ n2_ n3_ n4_ n5_ n6_ n7_ n8_ n9_ n10_; clear hb hbox hg; obtain ⟨Ao24, co24, eo24⟩ := Kd.R_slice HO169.out; subst eo24; have hnb25 := NB173_157.out; have hnc25 := NB157_173.out; have hcz26_0 : w23.cell? ⟨gb173, 0, none⟩ = some (.slice none 0 0) := (kce BK173.out 0).trans rfl; have hcz26_1 : w23.cell? ⟨gb173, 1, none⟩ = some (.slice none 0 0) := (kce BK173.out 1).trans rfl; have hfz26_0 := kfr BK173.out 0; have hfz26_1 := kfr BK173.out 1; obtain ⟨Ao27, co27, eo27⟩ := Kd.R_slice HO172.out; subst eo27) | ((with_reducible refine gate_callee (f := 21) rfl ?_); refine goesL_ (some 28) rfl rfl Try.func21 (by kernel_rfl) rfl #[.agg #[.slice Ao24 t167.length co24, .slice Ao27 t170.length co27], .int .i64 a1] rfl (by (try simp only [mta, mco, mni]); first | done | rfl | (simp only [lnd, lnt]; rfl)) ?_; (with_reducible refine (impl_ReadSector.calls _ _ t167 _ _ t170 a1 t174 t175 _ ?side1 ?side2 ?side3 ?side4 A11.out).mono ?_); (case side1 => refine (Kd.R_reads' (e := 9) (base := w.heap.size) (ok := fun k_ => (True ∧ some k_ ≠ (.slice Ao18 t159.length co18 : Value).ownBlock)) (n := t167.length) (c := co24) ?_).2.2; exact (by (with_reducible repeat (first | apply kra | apply krn | apply krd)); exact (Kd.R_mono (kfa (p := ⟨gb173, 1, none⟩) (kfa (p := ⟨gb173, 0, none⟩) (Kd.R_types HO169.out BK173.out (by decide)) (fun _ hk => hk.2) (.slice Ao24 t167.length co24)) (fun _ hk => hk.2) (.slice Ao27 t170.length co27)) (fun _ h_ => h_.1)))); (case side2 => exact (Kd.R_reads' HO169.out).2.1); (case side3 => refine (Kd.R_reads' (e := 55) (base := w.heap.size) (ok := fun k_ => (True ∧ some k_ ≠ (.slice Ao19 t162.length co19 : Value).ownBlock)) (n := t170.length) (c := co27) ?_).2.2; exact (by (with_reducible repeat (first | apply kra | apply krn | apply krd)); exact (Kd.R_mono (kfa (p := ⟨gb173, 1, none⟩) (kfa (p := ⟨gb173, 0, none⟩) (Kd.R_types HO172.out BK173.out (by decide)) (fun _ hk => hk.2) (.slice Ao24 t167.length co24)) (fun _ hk => hk.2) (.slice Ao27 t170.length co27)) (fun _ h_ => h_.1)))); (case side4 => exact (Kd.R_reads' HO172.out).2.1); rintro e w28 ⟨rfl, hb⟩; refine ⟨_, rfl, ?_⟩; have n0_ := am (krb (by (with_reducible repeat (first | apply kra | apply krn | apply krd)); exact (Kd.R_mono (kfa (p := ⟨gb173, 1, none⟩) (kfa (p := ⟨gb173, 0, none⟩) (Kd.R_types HO161.out BK173.out (by decide)) (fun _ hk => hk.2) (.slice Ao24 t167.length co24)) (fun _ hk => hk.2) (.slice Ao27 t170.length co27)) (fun _ h_ => h_.1))) hb); have n1_ := am (krb (by (with_reducible repeat (first | apply kra | apply krn | apply krd)); exact (Kd.R_mono (kfa (p := ⟨gb173, 1, none⟩) (kfa (p := ⟨gb173, 0, none⟩) (Kd.R_types HO164.out BK173.out (by decide)) (fun _ hk => hk.2) (.slice Ao24 t167.length co24)) (fun _ hk => hk.2) (.slice Ao27 t170.length co27)) (fun _ h_ => h_.1))) hb); have n2_ := am (krb (by (with_reducible repeat (first | apply kra | apply krn | apply krd)); exact (Kd.R_mono (kfa (p := ⟨gb173, 1, none⟩) (kfa (p := ⟨gb173, 0, none⟩) (Kd.R_types HO169.out BK173.out (by decide)) (fun _ hk => hk.2) (.slice Ao24 t167.length co24)) (fun _ hk => hk.2) (.slice Ao27 t170.length co27)) (fun _ h_ => h_.1))) hb); have n3_ := am (krb (by (with_reducible repeat (first | apply kra | apply krn | apply krd)); exact (Kd.R_mono (kfa (p := ⟨gb173, 1, none⟩) (kfa (p := ⟨gb173, 0, none⟩) (Kd.R_types HO172.out BK173.out (by decide)) (fun _ hk => hk.2) (.slice Ao24 t167.length co24)) (fun _ hk => hk.2) (.slice Ao27 t170.length co27)) (fun _ h_ => h_.1))) hb); have n4_ := am (kbb (g := gb157) (o := .cells #[.slice A0_0 l0_0.length c0_0, .slice A0_1 l0_1.length c0_1] 25 (0, 0)) (by (with_reducible repeat (first | apply kdn | apply kdr | apply kal)); refine blk_far ?_ NB157_173.out _; (with_reducible repeat (first | apply kdn | apply kdr | apply kal)); refine blk_far ?_ NB157_173.out _; (with_reducible repeat (first | apply kdn | apply kdr | apply kal)); exact BK157.out) hb); have n5_ := am (kbb (g := gb173) (o := .cells #[.slice Ao24 t167.length co24, .slice Ao27 t170.length co27] 30 (0, 0)) (by (with_reducible repeat (first | apply kdn | apply kdr | apply kal)); refine blk_put (cs := #[.slice Ao24 t167.length co24, .slice none 0 0]) ?_ 1 _ rfl; (with_reducible repeat (first | apply kdn | apply kdr | apply kal)); refine blk_put (cs := #[.slice none 0 0, .slice none 0 0]) ?_ 0 _ rfl; (with_reducible repeat (first | apply kdn | apply kdr | apply kal)); exact BK173.out) hb); have n6_ := am (below_step (by repeat (first | (with_reducible first | exact HB.out | apply bal | apply pdn | apply bd1 | refine bst ?_ GE157.out | refine bst ?_ GE173.out) | exact HB.out)) hb); clear HO161; clear HO164; clear HO169; clear HO172; clear BK157; clear BK173; clear HB; have HO161 := n0_; have HO164 := n1_; have HO169 := n2_; have HO172 := n3_; have BK157 := n4_; have BK173 := n5_; have HB := n6_; clear n0_ n1_ n2_ n3_ n4_ n5_ n6_; (try clear hb); (try clear hb2); (try clear hk); (try clear hi)))
  (try simp only [Act.put, sit, scz, scs])
  go_cut [38] (fun v38 wc => ∃ (kq : Nat) (x38_11 : Bool), v38 = .bool x38_11 ∧ Aside0 (laws_FnExactReadSector.j0 kq x38_11 l0_0 l0_1 t167 t170 = some r) ∧ Aside0 (kq ≤ k) ∧ Aside0 (Kd.R Kd.string 9 wc w.heap.size (fun _ => True) (.slice Ao24 t167.length co24) t167) ∧ Aside0 (Kd.R k55 55 wc w.heap.size (fun _ => True) (.slice Ao27 t170.length co27) t170) ∧ Aside0 (wc.heap[gb157]? = some (.cells #[(.slice A0_0 l0_0.length c0_0), (.slice A0_1 l0_1.length c0_1)] 25 (0, 0))) ∧ Aside0 (wc.heap[gb173]? = some (.cells #[(.slice Ao24 t167.length co24), (.slice Ao27 t170.length co27)] 30 (0, 0))) ∧ Aside0 (Below w.heap.size w wc))
  case first =>
   have H := HC12.out
   clear HC12
   by_cases c29 : t174.toList = t165.toList
   ·rw [if_pos c29] at H
    have c29b0 : (t174.toList == t165.toList) = true := beq_iff_eq.mpr c29
    have c29b1 : (t174.toList != t165.toList) = false := bne_eq_false_iff_eq.mpr c29
    clear c29
    (first | rw [c29b0] | (simp only [i64_w, i32_w]; rw [c29b0]) | skip)
    have H' := am H
    clear H
    go_wp2
    go_meet
    case rel => exact ⟨_, ((t175 != t166)), (by first | rfl | (simp; done) | (simp [*]; done)), H', ⟨by first | omega | exact Nat.le_refl _⟩, ⟨by (with_reducible repeat (first | apply kra | apply krn | apply krd)); exact Kd.R_mono HO169.out (fun _ hk => trivial)⟩, ⟨by (with_reducible repeat (first | apply kra | apply krn | apply krd)); exact Kd.R_mono HO172.out (fun _ hk => trivial)⟩, ⟨by (with_reducible repeat (first | apply kdn | apply kdr | apply kal)); exact BK157.out⟩, ⟨by (with_reducible repeat (first | apply kdn | apply kdr | apply kal)); exact BK173.out⟩, ⟨by repeat (first | (with_reducible first | exact HB.out | apply bal | apply pdn | apply bd1 | refine bst ?_ GE157.out | refine bst ?_ GE173.out) | exact HB.out)⟩⟩
   ·rw [if_neg c29] at H
    have c29b0 : (t174.toList == t165.toList) = false := beq_eq_false_iff_ne.mpr c29
    have c29b1 : (t174.toList != t165.toList) = true := bne_iff_ne.mpr c29
    (first | rw [c29b0] | (simp only [i64_w, i32_w]; rw [c29b0]) | skip)
    have H' := am H
    clear H
    go_wp2
    go_meet
    case rel => exact ⟨_, (true), (by first | rfl | (simp; done) | (simp [*]; done)), H', ⟨by first | omega | exact Nat.le_refl _⟩, ⟨by (with_reducible repeat (first | apply kra | apply krn | apply krd)); exact Kd.R_mono HO169.out (fun _ hk => trivial)⟩, ⟨by (with_reducible repeat (first | apply kra | apply krn | apply krd)); exact Kd.R_mono HO172.out (fun _ hk => trivial)⟩, ⟨by (with_reducible repeat (first | apply kdn | apply kdr | apply kal)); exact BK157.out⟩, ⟨by (with_reducible repeat (first | apply kdn | apply kdr | apply kal)); exact BK173.out⟩, ⟨by repeat (first | (with_reducible first | exact HB.out | apply bal | apply pdn | apply bd1 | refine bst ?_ GE157.out | refine bst ?_ GE173.out) | exact HB.out)⟩⟩
  case rest =>
   clear HC12
   obtain ⟨kq, x38_11, rfl, HA, HJ11, HO_174000, HO_174001, BK157, BK173, HB⟩ := hcut
   cases kq with
   | zero => exact absurd HA.out (by simp [laws_FnExactReadSector.j0])
   | succ kj11 =>
    have H := HA.out
    clear HA
    simp only [laws_FnExactReadSector.j0] at H
    by_cases c30 : x38_11 = true
    ·subst c30
     have H1 : (some false) = some r := by rw [if_pos rfl] at H; exact H
     clear H
     have H := H1
     clear H1
     exact absurd ((Option.some.inj H).trans hT.out) (by decide)
    ·replace c30 := Bool.eq_false_iff.mpr c30
     subst c30
     have H1 : ((laws_toDisk.f kj11 l0_0 l0_1).bind fun bt176 => ((laws_eqDisk.f kj11 t167 t170 bt176.1 bt176.2).bind fun t182 => (if t182 = true then (some true) else (some false)))) = some r := by rw [if_neg (show ¬ (false = true) by decide)] at H; exact H
     clear H
     have H := H1
     clear H1
     replace H := Option.bind_eq_some_iff.mp H
     obtain ⟨⟨t176, t179⟩, A310, H⟩ := H
     replace H : ((laws_eqDisk.f kj11 t167 t170 t176 t179).bind fun t182 => (if t182 = true then (some true) else (some false))) = some r := H
     have A31 := am A310
     clear A310
     replace H := Option.bind_eq_some_iff.mp H
     obtain ⟨t182, A320, H⟩ := H
     replace H : (if t182 = true then (some true) else (some false)) = some r := H
     have A32 := am A320
     clear A320
     by_cases c33 : t182 = true
     ·subst c33
      have H1 : (some true) = some r := by rw [if_pos rfl] at H; exact H
      clear H
      have H := H1
      clear H1
      obtain rfl := Option.some.inj H
      try go_wp2
      have n0_ := am (krd HO_174000.out)
      have n1_ := am (krd HO_174001.out)
      have n2_ := am (kdr BK157.out)
      have n3_ := am (kdr BK173.out)
      have n4_ := am (bd1 HB.out)
      clear HO_174000
      clear HO_174001
      clear BK157
      clear BK173
      clear HB
      have HO_174000 := n0_
      have HO_174001 := n1_
      have BK157 := n2_
      have BK173 := n3_
      have HB := n4_
      clear n0_ n1_ n2_ n3_ n4_
      refine start_ (n := 5) (S := fun w' => w'.cell? ⟨gb173, 0, none⟩ = some (.slice Ao24 t167.length co24) ∧ w'.cell? ⟨gb173, 1, none⟩ = some (.slice Ao27 t170.length co27) ∧ w'.cell? ⟨gb157, 0, none⟩ = some (.slice A0_0 l0_0.length c0_0) ∧ w'.cell? ⟨gb157, 1, none⟩ = some (.slice A0_1 l0_1.length c0_1)) (ds := []) #[false, false, false, false, false] (by kernel_rfl) rfl rfl ⟨(kce BK173.out 0).trans rfl, (kce BK173.out 1).trans rfl, (kce BK157.out 0).trans rfl, (kce BK157.out 1).trans rfl⟩ (fun hHeld => ?_)
      generalize wc.drew = w34 at HO_174000 HO_174001 BK157 BK173 HB hHeld ⊢
      refine take_ (i := 0) (N := some 39) (v := ?_) (a' := ?_) #[true, false, false, false, false] rfl rfl (by kernel_rfl) (fun _ _ _ h => h) (Or.inl ⟨by rfl, ?_⟩) hHeld ?_ ?_
      rotate_left
      ·rintro w' ⟨s0, s1, s2, s3⟩
       go_simp
       with_reducible rfl
      rotate_left
      ·simp only [Act.put, sit, scz, scs, i64_w, i32_w]
       rfl
      refine take_ (i := 1) (N := some 40) (v := ?_) (a' := ?_) #[true, true, false, false, false] rfl rfl (by kernel_rfl) (fun _ _ _ h => h) (Or.inl ⟨by rfl, ?_⟩) hHeld ?_ ?_
      rotate_left
      ·rintro w' ⟨s0, s1, s2, s3⟩
       go_simp
       with_reducible rfl
      rotate_left
      ·simp only [Act.put, sit, scz, scs, i64_w, i32_w]
       rfl
      refine one_ (i := 2) (N := some 41) #[true, true, true, false, false] rfl rfl (by kernel_rfl) (by decide) (fun K hK => ?_)
      refine goes_ Try.func17 (by kernel_rfl) rfl #[.agg #[.slice A0_0 l0_0.length c0_0, .slice A0_1 l0_1.length c0_1]] (by rfl) rfl rfl (by (try simp only [mta, mco, mni]); first | done | rfl | (simp only [lnd, lnt]; rfl)) ?_
      with_reducible refine (laws_toDisk.calls kj11 _ _ l0_0 _ _ l0_1 t176 t179 _ ?side1 ?side2 ?side3 ?side4 A31.out).mono ?_
      (case side1 => repeat (first | exact (Kd.C_below HR0_0.out HB.out) | (with_reducible first | apply kca | apply kcn | apply kcd)))
      (case side2 => exact HC0_0.out)
      (case side3 => repeat (first | exact (Kd.C_below HR0_1.out HB.out) | (with_reducible first | apply kca | apply kcn | apply kcd)))
      (case side4 => exact HC0_1.out)
      rintro e w35 ⟨v177, v180, rfl, ho0, ho1, hb⟩
      refine ⟨_, rfl, ?_⟩
      have n0_ := am (kre (by (with_reducible repeat (first | apply kra | apply krn | apply krd)); exact HO_174000.out) (Kd.R_base ho0) hb)
      have n1_ := am (kre (by (with_reducible repeat (first | apply kra | apply krn | apply krd)); exact HO_174001.out) (Kd.R_base ho1) hb)
      have n2_ := am (Kd.R_lower (Kd.R_new' ho0 (Kd.R_lt (by (with_reducible repeat (first | apply kra | apply krn | apply krd)); exact HO_174000.out))) (below_size (by repeat (first | (with_reducible first | exact HB.out | apply bal | apply pdn | apply bd1 | refine bst ?_ GE157.out | refine bst ?_ GE173.out) | exact HB.out))))
      have n3_ := am (Kd.R_lower (Kd.R_new' ho1 (Kd.R_lt (by (with_reducible repeat (first | apply kra | apply krn | apply krd)); exact HO_174001.out))) (below_size (by repeat (first | (with_reducible first | exact HB.out | apply bal | apply pdn | apply bd1 | refine bst ?_ GE157.out | refine bst ?_ GE173.out) | exact HB.out))))
      have n4_ := am (kbb (g := gb157) (o := .cells #[.slice A0_0 l0_0.length c0_0, .slice A0_1 l0_1.length c0_1] 25 (0, 0)) (by (with_reducible repeat (first | apply kdn | apply kdr | apply kal)); exact BK157.out) hb)
      have n5_ := am (kbb (g := gb173) (o := .cells #[.slice Ao24 t167.length co24, .slice Ao27 t170.length co27] 30 (0, 0)) (by (with_reducible repeat (first | apply kdn | apply kdr | apply kal)); exact BK173.out) hb)
      have n6_ := am (below_step (by repeat (first | (with_reducible first | exact HB.out | apply bal | apply pdn | apply bd1 | refine bst ?_ GE157.out | refine bst ?_ GE173.out) | exact HB.out)) hb)
      clear HO_174000
      clear HO_174001
      clear BK157
      clear BK173
      clear HB
      have HO_174000 := n0_
      have HO_174001 := n1_
      have HO178 := n2_
      have HO181 := n3_
      have BK157 := n4_
      have BK173 := n5_
      have HB := n6_
      clear n0_ n1_ n2_ n3_ n4_ n5_ n6_
      (try clear ho0)
      (try clear ho1)
      obtain ⟨Ao36, co36, eo36⟩ := Kd.R_slice HO178.out
      (first | subst eo36 | (injection eo36 with f1_ f2_ f3_; have f4_ := f1_.symm; have f5_ := f3_.symm; clear f1_ f2_ f3_; subst f4_; subst f5_))
      obtain ⟨Ao37, co37, eo37⟩ := Kd.R_slice HO181.out
      (first | subst eo37 | (injection eo37 with f1_ f2_ f3_; have f4_ := f1_.symm; have f5_ := f3_.symm; clear f1_ f2_ f3_; subst f4_; subst f5_))
      refine hK.out _ _ ⟨(kce BK173.out 0).trans rfl, (kce BK173.out 1).trans rfl, (kce BK157.out 0).trans rfl, (kce BK157.out 1).trans rfl⟩ (fun hHeld => ?_)
      clear hK K
      refine norm_ (a' := ?_) ?_ ?_
      rotate_left
      ·show Act.put _ (some 41) _ = _
       simp only [Act.put, sit, scz, scs, i64_w, i32_w]
       rfl
      refine one_ (i := 3) (N := some 42) #[true, true, true, true, false] rfl rfl (by kernel_rfl) (by decide) (fun K hK => ?_)
      refine goes_ Try.func19 (by kernel_rfl) rfl #[.agg #[.slice Ao24 t167.length co24, .slice Ao27 t170.length co27], .agg #[.slice Ao36 t176.length co36, .slice Ao37 t179.length co37]] (by rfl) rfl rfl (by (try simp only [mta, mco, mni]); first | done | rfl | (simp only [lnd, lnt]; rfl)) ?_
      with_reducible refine (laws_eqDisk.calls kj11 _ _ t167 _ _ t170 _ _ t176 _ _ t179 true _ ?side1 ?side2 ?side3 ?side4 ?side5 ?side6 ?side7 ?side8 A32.out).mono ?_
      (case side1 => repeat (first | exact (Kd.R_reads' HO_174000.out).2.2 | (with_reducible first | apply kca | apply kcn | apply kcd)))
      (case side2 => exact (Kd.R_reads' HO_174000.out).2.1)
      (case side3 => repeat (first | exact (Kd.R_reads' HO_174001.out).2.2 | (with_reducible first | apply kca | apply kcn | apply kcd)))
      (case side4 => exact (Kd.R_reads' HO_174001.out).2.1)
      (case side5 => repeat (first | exact (Kd.R_reads' HO178.out).2.2 | (with_reducible first | apply kca | apply kcn | apply kcd)))
      (case side6 => exact (Kd.R_reads' HO178.out).2.1)
      (case side7 => repeat (first | exact (Kd.R_reads' HO181.out).2.2 | (with_reducible first | apply kca | apply kcn | apply kcd)))
      (case side8 => exact (Kd.R_reads' HO181.out).2.1)
      rintro e w38 ⟨rfl, hb⟩
      refine ⟨_, rfl, ?_⟩
      have n0_ := am (krb (by (with_reducible repeat (first | apply kra | apply krn | apply krd)); exact HO_174000.out) hb)
      have n1_ := am (krb (by (with_reducible repeat (first | apply kra | apply krn | apply krd)); exact HO_174001.out) hb)
      have n2_ := am (krb (by (with_reducible repeat (first | apply kra | apply krn | apply krd)); exact HO178.out) hb)
      have n3_ := am (krb (by (with_reducible repeat (first | apply kra | apply krn | apply krd)); exact HO181.out) hb)
      have n4_ := am (kbb (g := gb157) (o := .cells #[.slice A0_0 l0_0.length c0_0, .slice A0_1 l0_1.length c0_1] 25 (0, 0)) (by (with_reducible repeat (first | apply kdn | apply kdr | apply kal)); exact BK157.out) hb)
      have n5_ := am (kbb (g := gb173) (o := .cells #[.slice Ao24 t167.length co24, .slice Ao27 t170.length co27] 30 (0, 0)) (by (with_reducible repeat (first | apply kdn | apply kdr | apply kal)); exact BK173.out) hb)
      have n6_ := am (below_step (by repeat (first | (with_reducible first | exact HB.out | apply bal | apply pdn | apply bd1 | refine bst ?_ GE157.out | refine bst ?_ GE173.out) | exact HB.out)) hb)
      clear HO_174000
      clear HO_174001
      clear HO178
      clear HO181
      clear BK157
      clear BK173
      clear HB
      have HO_174000 := n0_
      have HO_174001 := n1_
      have HO178 := n2_
      have HO181 := n3_
      have BK157 := n4_
      have BK173 := n5_
      have HB := n6_
      clear n0_ n1_ n2_ n3_ n4_ n5_ n6_
      refine hK.out _ _ ⟨(kce BK173.out 0).trans rfl, (kce BK173.out 1).trans rfl, (kce BK157.out 0).trans rfl, (kce BK157.out 1).trans rfl⟩ (fun hHeld => ?_)
      clear hK K
      refine norm_ (a' := ?_) ?_ ?_
      rotate_left
      ·show Act.put _ (some 42) _ = _
       simp only [Act.put, sit, scz, scs, i64_w, i32_w]
       rfl
      refine pure_ (i := 4) (N := some 43) (v := ?_) (a' := ?_) #[true, true, true, true, true] rfl rfl (by kernel_rfl) (fun _ _ _ h => h) (Or.inl ⟨by rfl, ?_⟩) ?_ ?_
      rotate_left
      ·intro w'
       go_simp
       with_reducible rfl
      rotate_left
      ·simp only [Act.put, sit, scz, scs, i64_w, i32_w]
       rfl
      refine done_ (by kernel_rfl) ?_
      try go_wp2
      go_ret
      exact ⟨by first | rfl | (simp [errW_none, errW_some] <;> rfl) | (simp [*, errW_none, errW_some] <;> rfl), by repeat (first | (with_reducible first | exact HB.out | apply bal | apply pdn | apply bd1 | refine bst ?_ GE157.out | refine bst ?_ GE173.out) | exact HB.out)⟩
     ·replace c33 := Bool.eq_false_iff.mpr c33
      subst c33
      have H1 : (some false) = some r := by rw [if_neg (show ¬ (false = true) by decide)] at H; exact H
      clear H
      have H := H1
      clear H1
      exact absurd ((Option.some.inj H).trans hT.out) (by decide)

end Go.Proofs.Ythphhklbliambaa.MFnExactReadSector
