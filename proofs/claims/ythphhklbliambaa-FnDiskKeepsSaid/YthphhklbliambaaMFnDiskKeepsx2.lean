-- Written by a program of this session (wip/tools/myprint.py) over the kit's print: it is not the kit's print.
import Derived.Test.YthphhklbliambaaExtra
import Derived.Lib.SliceRun
import Derived.LoopIn
import Derived.LoopNIn
import Derived.TacticsInMore
import Derived.OwnWalkIn
import Derived.WalkKit
import Derived.Shelf.RegionOpen
import Derived.Shelf.Abstract
import Derived.RangeFuncLeaves
import Derived.RangeFuncCalls
import Derived.RangeFuncBound
import Derived.RangeFuncNested
import Derived.Test.YthphhklbliambaaMFnDiskKeepsx0
import Derived.Test.YthphhklbliambaaMFnDiskKeepsx1
namespace Go.Proofs.Ythphhklbliambaa.MFnDiskKeeps
open Go.RowKit Go.Proofs.YthphhklbliambaaW.PrintWords Go.Proofs.YthphhklbliambaaW.PrintLast Go.Proofs.YthphhklbliambaaW.PrintMore
open List renaming map_toArray → mta, map_cons → mco, map_nil → mni, length_drop → lnd, length_take → lnt
open World renaming block_lt_of_cell? → blc
attribute [local go_sem] max2_int min2_int max_two min_two max_three min_three max_four min_four   -- for this text's walks alone
set_option linter.unusedVariables false
set_option linter.unusedSimpArgs false

/-! ### impl_ReadSector: function 21 -/
attribute [local go_sem] Oper.semAt_some
/-- What has come when k rounds are over: the row's last k elements, the last first. -/
def impl_ReadSector.bk (zs : List S55) (k : Nat) : List (Nat × S55) := (List.range k).map fun j => (zs.length - 1 - j, rd_T55 zs ((zs.length - 1 - j : Nat) : Int))
theorem impl_ReadSector.bk_succ (zs : List S55) (k : Nat) : impl_ReadSector.bk zs (k + 1) = impl_ReadSector.bk zs k ++ [(zs.length - 1 - k, rd_T55 zs ((zs.length - 1 - k : Nat) : Int))] := by simp [impl_ReadSector.bk, List.range_succ]
theorem impl_ReadSector.bk_length (zs : List S55) (k : Nat) : (impl_ReadSector.bk zs k).length = k := by simp [impl_ReadSector.bk]
theorem impl_ReadSector.bk_map (zs : List S55) (k : Nat) (hk : k ≤ zs.length) : (impl_ReadSector.bk zs k).map (·.2) = zs.reverse.take k := by
 apply List.ext_getElem
 ·simp [impl_ReadSector.bk, hk]
 ·intro i h1 h2
  have hi : i < k := by simpa [impl_ReadSector.bk] using h1
  simp only [impl_ReadSector.bk, List.map_map, List.getElem_map, List.getElem_range, Function.comp_apply, List.getElem_take, List.getElem_reverse]
  simp [rd_T55, List.getD_eq_getElem?_getD, List.getElem?_eq_getElem (show zs.length - 1 - i < zs.length by omega)]
abbrev impl_ReadSector.encs (x : Nat × S55) : Array Value := #[.int .i64 (x.1 : Int), .agg #[.int .i64 x.2.f0, .string x.2.f1]]
set_option maxRecDepth 100000 in
set_option maxHeartbeats 2000000 in
theorem impl_ReadSector.bwd_stops (F : Fence) (n : Nat) (h7 : F.fn 106) (hro : F.round = none) (hn : 1 ≤ n) (A : Option Addr) (c : Nat) (zs : List S55) (W0 : World) (hr : Kd.C k55 W0 A zs.length zs) (Bs : Nat) (hBs : W0.cell? ⟨Bs, 0, none⟩ = some (.slice A zs.length c)) :
  SeqStopsK F n Try.prog 106 #[.pointer (some ⟨Bs, 0, none⟩)] impl_ReadSector.encs (Below W0.heap.size) (fun ys => ys = impl_ReadSector.bk zs zs.length) (fun pre => ∃ k, k ≤ zs.length ∧ pre = impl_ReadSector.bk zs k) zs.length W0 := fun l J Jx W hW hJ hJx hY h0 => by
 have hbl := blc W0 _ hBs
 have hm : zs.length ≤ 9223372036854775807 := hr.2.1
 have HR := am hr
 have HBS := am hBs
 have HW := am hW
 clear hr hBs
 have hBs0 := (hW.cell hbl).trans HBS.out
 refine callsIn_of_wp Try.func106 rfl h7 ?_ hro
 simp only [Try.ntmps106, List.size_toArray, List.length_cons, List.length_nil, Nat.reduceAdd, Nat.reduceSub, Array.replicate_succ, Array.replicate_zero, List.push_toArray, List.append_toArray, List.nil_append, List.cons_append]
 have hw0 : wrap64 ((zs.length : Int) - 1) = (zs.length : Int) - 1 := by unfold wrap64; omega
 gi_wp2
 gi_loopw [3] (fun i wr => ∃ (k : Nat) (z : Int), k ≤ zs.length ∧ i = .int .i64 z ∧ z = (zs.length : Int) - 1 - (k : Int) ∧ J (impl_ReadSector.bk zs k) wr ∧ Below W0.heap.size W0 wr)
  (fun i _ => (intOf i + 1).toNat)
 case atStart => exact ⟨0, _, Nat.zero_le _, rfl, by omega, h0, HW.out⟩
 case round =>
  obtain ⟨k, z, hk, rfl, hz, hJs, hnx⟩ := hrel
  have hcx := (hnx.cell hbl).trans HBS.out
  by_cases hlt : k < zs.length
  ·obtain ⟨i, rfl⟩ : ∃ i : Nat, z = (i : Int) := ⟨z.toNat, by omega⟩
   have hi : Aside0 (i = zs.length - 1 - k) := ⟨by omega⟩
   obtain ⟨ad, e, hx0, hx1⟩ := at_T55 (Kd.C_below HR.out hnx) (i : Int) (by omega) (by omega)
   cases e
   rw [Int.toNat_natCast] at hx0 hx1
   obtain ⟨fn, tmps, assign, body, hy, hR⟩ := hY _ (i, rd_T55 zs (i : Int)) wr hJs (by rw [impl_ReadSector.bk_length]; exact hlt)
   dsimp only [impl_ReadSector.encs] at hy
   have hge : (0 : Int) ≤ (i : Int) := by omega
   have hge2 : i < zs.length := by omega
   have hge3 : (i : Int) < (zs.length : Int) := by omega
   have hwi : wrap64 ((i : Int) - 1) = (i : Int) - 1 := by unfold wrap64; omega
   have HZ := am hz
   clear hz
   gi_wp2
   refine hR.mono ?_
   rintro e W3 (⟨rfl, hJ3, hk3⟩ | ⟨rfl, hJx3⟩)
   ·gi_wp2
    go_roundw
    case rel => exact ⟨k + 1, _, by omega, rfl, by have := HZ.out; omega, by rw [impl_ReadSector.bk_succ, ← hi.out]; exact hJ3, hnx.trans hk3⟩
    case measure => simp [intOf] <;> omega
   ·gi_wp2
    refine bodyPost_ret (results_none rfl _ _ _) rfl ?_
    exact ⟨⟨_, rfl⟩, .inr ⟨_, ⟨k + 1, by omega, rfl⟩, by rw [impl_ReadSector.bk_succ, ← hi.out]; exact hJx3⟩⟩
  ·obtain rfl : k = zs.length := by omega
   obtain rfl : z = -1 := by omega
   gi_wp2
   go_end0
   exact ⟨⟨_, rfl⟩, .inl ⟨_, rfl, hJs⟩⟩

/-- What a sector reads as: the last write that waits on it, or what lies. -/
def impl_ReadSector.got (s : List ByteArray) (p : List S55) (a : Int) : ByteArray := match p.reverse.find? (fun x => x.f0 == a) with
 | some x => x.f1
 | none => rdOf ByteArray.empty s a
def impl_ReadSector.f (s : List ByteArray) (p : List S55) (a : Int) : Option (ByteArray × Int) :=
 (impl_DiskOk.f s p).bind fun d => if d = true then (if 0 ≤ a ∧ a ≤ (s.length : Int) - 1 then some (impl_ReadSector.got s p a, 0) else some (ByteArray.empty, 2)) else some (ByteArray.empty, 1)
theorem impl_ReadSector.got_none {zs : List S55} {a : Int} (s : List ByteArray) (h : ∀ p ∈ impl_ReadSector.bk zs zs.length, p.2.f0 ≠ a) : impl_ReadSector.got s zs a = rdOf ByteArray.empty s a := by
 have e := impl_ReadSector.bk_map zs zs.length (Nat.le_refl _)
 rw [List.take_of_length_le (by simp)] at e
 unfold impl_ReadSector.got
 rw [← e, List.find?_eq_none.2]
 intro x hx
 obtain ⟨p, hp, rfl⟩ := List.mem_map.1 hx
 simpa using h p hp
theorem impl_ReadSector.got_some {zs : List S55} {k : Nat} {a : Int} {ini : List (Nat × S55)} {last : Nat × S55} (s : List ByteArray) (hk : k ≤ zs.length) (e : impl_ReadSector.bk zs k = ini ++ [last]) (h : ∀ p ∈ ini, p.2.f0 ≠ a) (hl : last.2.f0 = a) : impl_ReadSector.got s zs a = last.2.f1 := by
 have e2 := List.take_append_drop k zs.reverse
 rw [← impl_ReadSector.bk_map zs k hk, e, List.map_append, List.append_assoc] at e2
 unfold impl_ReadSector.got
 rw [← e2, List.find?_append, List.find?_eq_none.2]
 ·simp [hl]
 ·intro x hx
  obtain ⟨p, hp, rfl⟩ := List.mem_map.1 hx
  simpa using h p hp
/-- The call's own variables lie as they should. -/
def impl_ReadSector.St (B : Nat) (A0 : Option Addr) (n0 c0 : Nat) (A1 : Option Addr) (n1 c1 : Nat) (a : Int) (W : World) : Prop :=
 W.heap[B]? = some (.cells #[.slice A0 n0 c0, .slice A1 n1 c1] 30 (0, 0)) ∧ Boxed W (B + 1) 2 (.int .i64 a) ∧ Boxed W (B + 1 + 1) 9 (.string ⟨#[]⟩) ∧ Boxed W (B + 1 + 1 + 1) 2 (.int .i64 0)
theorem impl_ReadSector.St.below {B n : Nat} {A0 : Option Addr} {n0 c0 : Nat} {A1 : Option Addr} {n1 c1 : Nat} {a : Int} {W W' : World} (h : impl_ReadSector.St B A0 n0 c0 A1 n1 c1 a W) (hb : Below n W W') (hn : B + 3 < n) : impl_ReadSector.St B A0 n0 c0 A1 n1 c1 a W' := by
 obtain ⟨h1, h2, h3, h4⟩ := h
 exact ⟨(hb.block B (by omega)).trans h1, (hb.block (B + 1) (by omega)).trans h2, (hb.block (B + 1 + 1) (by omega)).trans h3, (hb.block (B + 1 + 1 + 1) (by omega)).trans h4⟩
theorem impl_ReadSector.St.cells {B : Nat} {A0 : Option Addr} {n0 c0 : Nat} {A1 : Option Addr} {n1 c1 : Nat} {a : Int} {W : World} (h : impl_ReadSector.St B A0 n0 c0 A1 n1 c1 a W) :
  W.cell? ⟨B, 0, none⟩ = some (.slice A0 n0 c0) ∧ W.cell? ⟨B, 1, none⟩ = some (.slice A1 n1 c1) ∧ W.cell? ⟨B + 1, 0, none⟩ = some (.int .i64 a) ∧ W.cell? ⟨B + 1 + 1, 0, none⟩ = some (.string ⟨#[]⟩) ∧ W.cell? ⟨B + 1 + 1 + 1, 0, none⟩ = some (.int .i64 0) ∧ W.frozen? ⟨B + 1 + 1, 0, none⟩ = false ∧ W.frozen? ⟨B + 1 + 1 + 1, 0, none⟩ = false := by
 obtain ⟨h1, h2, h3, h4⟩ := h
 exact ⟨by simp [World.cell?, h1], by simp [World.cell?, h1], h2.cell, h3.cell, h4.cell, h3.frozen, h4.frozen⟩
theorem impl_ReadSector.St.own {B : Nat} {A0 : Option Addr} {n0 c0 : Nat} {A1 : Option Addr} {n1 c1 : Nat} {a : Int} {β : Type} : Own (fun (_ : β) W => impl_ReadSector.St B A0 n0 c0 A1 n1 c1 a W) := by
 intro s A C row hs hg hr
 obtain ⟨h1, h2, h3, h4⟩ := hs
 have k : ∀ {b : Nat} {cs : Array Value} {t : TypeId}, A.heap[b]? = some (.cells cs t (0, 0)) → C.heap[b]? = some (.cells cs t (0, 0)) := fun {b cs t} h => (hg.block b (Array.getElem?_eq_some_iff.1 h).1 (fun e => by
  obtain ⟨o, ho, hc⟩ := hr b e.symm
  rw [h] at ho
  cases ho
  cases hc)).trans h
 exact ⟨k h1, k h2, k h3, k h4⟩
set_option maxHeartbeats 1000000 in
theorem impl_ReadSector.bwd_mk (a : Option Addr) (len cap : Nat) (w : World) :
  Calls Try.prog 68 #[.slice a len cap] w fun e w' => e = .returned (.func (.func 106) #[] #[.pointer (some ⟨w.heap.size, 0, none⟩)]) ∧ w' = w.alloc (.cells #[.slice a len cap] 28) := by
 go_enter Try.func68, Try.ntmps68
 go_wp2
 go_ret
 exact ⟨rfl, rfl⟩
theorem impl_ReadSector.Bkept {A C : World} {row : Option Nat} {b t : Nat} {v : Value} (h : Boxed A b t v) (hg : A.grownBy C row) (hr : ∀ r, row = some r → ∃ o : Obj, A.heap[r]? = some o ∧ o.isCells = false) : Boxed C b t v := boxed_own (β := Unit) b t (fun _ => v) () A C row h hg hr
theorem impl_ReadSector.put2 {W : World} {B t u : Nat} {x y : Value} (h : Boxed W (B + 1 + 1) t x) (h' : Boxed W (B + 1 + 1 + 1) u y) (x' y' : Value) :
  Boxed ((W.setCell ⟨B + 1 + 1, 0, none⟩ x').setCell ⟨B + 1 + 1 + 1, 0, none⟩ y') (B + 1 + 1) t x' ∧ Boxed ((W.setCell ⟨B + 1 + 1, 0, none⟩ x').setCell ⟨B + 1 + 1 + 1, 0, none⟩ y') (B + 1 + 1 + 1) u y' :=
 ⟨(h.set x').other (by omega) y', (h'.other (by omega) x').set y'⟩
theorem impl_ReadSector.putB {w W : World} {n B : Nat} (h : Below n w W) (hn : n ≤ B) (x y : Value) : Below n w ((W.setCell ⟨B + 1 + 1, 0, none⟩ x).setCell ⟨B + 1 + 1 + 1, 0, none⟩ y) :=
 (h.setCell (p := ⟨B + 1 + 1, 0, none⟩) (by show n ≤ B + 1 + 1; omega) x).setCell (p := ⟨B + 1 + 1 + 1, 0, none⟩) (by show n ≤ B + 1 + 1 + 1; omega) y
set_option maxHeartbeats 4000000 in
set_option maxRecDepth 100000 in
theorem impl_ReadSector.calls (A0_0 : Option Addr) (c0_0 : Nat) (l0_0 : List ByteArray) (A0_1 : Option Addr) (c0_1 : Nat) (l0_1 : List S55) (a1 : Int) (r1 : ByteArray) (r2 : Int) (w : World) (hr0_0 : Kd.C Kd.string w A0_0 l0_0.length l0_0) (hc0_0 : l0_0.length ≤ c0_0) (hr0_1 : Kd.C k55 w A0_1 l0_1.length l0_1) (hc0_1 : l0_1.length ≤ c0_1) (h : impl_ReadSector.f l0_0 l0_1 a1 = some (r1, r2)) :
  Calls Try.prog 21 #[.agg #[.slice A0_0 l0_0.length c0_0, .slice A0_1 l0_1.length c0_1], .int .i64 a1] w fun e w' => e = .returned (.tuple #[.string r1, .int .i64 r2]) ∧ Below w.heap.size w w' := by
 unfold impl_ReadSector.f at h
 obtain ⟨d, hd, he⟩ := Option.bind_eq_some_iff.mp h
 have hn : l0_0.length ≤ 9223372036854775807 := hr0_0.2.1
 have HD := am hd
 have HE := am he
 have HR0 := am hr0_0
 have HR1 := am hr0_1
 have HC0 := am hc0_0
 have HC1 := am hc0_1
 clear hd he h hr0_0 hr0_1 hc0_0 hc0_1
 refine (callsIn_wide (n := 3)).1 (callsIn_of_wp_marks Try.func21 rfl trivial (wpIn_wide.2 ?_))
 simp only [Try.ntmps21, List.size_toArray, List.length_cons, List.length_nil, Nat.reduceAdd, Nat.reduceSub, Array.replicate_succ, Array.replicate_zero, List.push_toArray, List.append_toArray, List.nil_append, List.cons_append]
 go_upto_region 1 with fail
 have HS : Aside0 (impl_ReadSector.St w.heap.size A0_0 l0_0.length c0_0 A0_1 l0_1.length c0_1 a1 ((((w.alloc (Obj.cells #[Value.slice A0_0 l0_0.length c0_0, Value.slice A0_1 l0_1.length c0_1] 30)).alloc (Obj.cells #[Value.int IntKind.i64 a1] 2)).alloc (Obj.cells #[Value.string ⟨#[]⟩] 9)).alloc (Obj.cells #[Value.int IntKind.i64 0] 2))) := ⟨by
  have g0 := World.alloc_heap_new w (Obj.cells #[Value.slice A0_0 l0_0.length c0_0, Value.slice A0_1 l0_1.length c0_1] 30)
  have g1 := World.alloc_heap_new (w.alloc (Obj.cells #[Value.slice A0_0 l0_0.length c0_0, Value.slice A0_1 l0_1.length c0_1] 30)) (Obj.cells #[Value.int IntKind.i64 a1] 2)
  have g2 := World.alloc_heap_new ((w.alloc (Obj.cells #[Value.slice A0_0 l0_0.length c0_0, Value.slice A0_1 l0_1.length c0_1] 30)).alloc (Obj.cells #[Value.int IntKind.i64 a1] 2)) (Obj.cells #[Value.string ⟨#[]⟩] 9)
  have g3 := World.alloc_heap_new (((w.alloc (Obj.cells #[Value.slice A0_0 l0_0.length c0_0, Value.slice A0_1 l0_1.length c0_1] 30)).alloc (Obj.cells #[Value.int IntKind.i64 a1] 2)).alloc (Obj.cells #[Value.string ⟨#[]⟩] 9)) (Obj.cells #[Value.int IntKind.i64 0] 2)
  simp only [World.size_alloc] at g1 g2 g3
  refine ⟨?_, ?_, ?_, ?_⟩
  ·exact (Below.heap_alloc _ _ _ (by simp <;> omega)).trans ((Below.heap_alloc _ _ _ (by simp <;> omega)).trans ((Below.heap_alloc _ _ _ (by simp <;> omega)).trans g0))
  ·exact (Below.heap_alloc _ _ _ (by simp <;> omega)).trans ((Below.heap_alloc _ _ _ (by simp <;> omega)).trans g1)
  ·exact (Below.heap_alloc _ _ _ (by simp <;> omega)).trans g2
  ·exact g3⟩
 have HB : Aside0 (Below w.heap.size w ((((w.alloc (Obj.cells #[Value.slice A0_0 l0_0.length c0_0, Value.slice A0_1 l0_1.length c0_1] 30)).alloc (Obj.cells #[Value.int IntKind.i64 a1] 2)).alloc (Obj.cells #[Value.string ⟨#[]⟩] 9)).alloc (Obj.cells #[Value.int IntKind.i64 0] 2))) := ⟨((((Below.refl _ w).alloc (Nat.le_refl _) _).alloc (by simp) _).alloc (by simp <;> omega) _).alloc (by simp <;> omega) _⟩
 have HZ : Aside0 (w.heap.size + 3 < ((((w.alloc (Obj.cells #[Value.slice A0_0 l0_0.length c0_0, Value.slice A0_1 l0_1.length c0_1] 30)).alloc (Obj.cells #[Value.int IntKind.i64 a1] 2)).alloc (Obj.cells #[Value.string ⟨#[]⟩] 9)).alloc (Obj.cells #[Value.int IntKind.i64 0] 2)).heap.size) := ⟨by simp⟩
 generalize ((((w.alloc (Obj.cells #[Value.slice A0_0 l0_0.length c0_0, Value.slice A0_1 l0_1.length c0_1] 30)).alloc (Obj.cells #[Value.int IntKind.i64 a1] 2)).alloc (Obj.cells #[Value.string ⟨#[]⟩] 9)).alloc (Obj.cells #[Value.int IntKind.i64 0] 2)) = W1 at HS HB HZ ⊢
 have HCALL := am (impl_DiskOk.calls A0_0 c0_0 l0_0 A0_1 c0_1 l0_1 d W1 (Kd.C_below HR0.out HB.out) HC0.out (Kd.C_below HR1.out HB.out) HC1.out HD.out)
 obtain ⟨z0, z1, z2, z3, z4, z5, z6⟩ := HS.out.cells
 cases d with
 | false =>
  go_wp2_with (go_at_call 18; refine HCALL.out.mono ?_; rintro e w2 ⟨rfl, hb2⟩; have HS2 := am (HS.out.below hb2 HZ.out); have HB2 := am (HB.out.trans (hb2.mono HB.out.size)); obtain ⟨y0, y1, y2, y3, y4, y5, y6⟩ := HS2.out.cells; clear hb2)
  obtain ⟨e1, e2⟩ : ByteArray.empty = r1 ∧ (1 : Int) = r2 := by have := HE.out; rw [if_neg (by decide)] at this; injection this with this; injection this with e1 e2; exact ⟨e1, e2⟩
  have hp := impl_ReadSector.put2 HS2.out.2.2.1 HS2.out.2.2.2 (.string ⟨#[]⟩) (.int .i64 1)
  have hc1 := hp.1.cell
  have hc2 := hp.2.cell
  refine ⟨.tuple #[.string r1, .int .i64 r2], ?_, rfl, impl_ReadSector.putB HB2.out (Nat.le_refl _) _ _⟩
  rw [← e1, ← e2]
  simp [results, Try.f21, go_sem, hc1, hc2]
  rfl
 | true =>
  have HI := am (fun W => impl_isIndex.calls a1 (l0_0.length : Int) _ W (impl_DiskOk.idx a1 l0_0.length hn))
  have HE2 : Aside0 ((if 0 ≤ a1 ∧ a1 ≤ (l0_0.length : Int) - 1 then some (impl_ReadSector.got l0_0 l0_1 a1, (0 : Int)) else some (ByteArray.empty, 2)) = some (r1, r2)) := ⟨by have := HE.out; rw [if_pos rfl] at this; exact this⟩
  by_cases hx : 0 ≤ a1 ∧ a1 ≤ (l0_0.length : Int) - 1
  ·have HI2 : Aside0 (∀ W, Calls Try.prog 64 #[.int .i64 a1, .int .i64 (l0_0.length : Int)] W fun e w' => e = .returned (.bool true) ∧ Drawn0 W w') := ⟨fun W => by have := HI.out W; rw [decide_eq_true hx] at this; exact this⟩
   clear HI
   have HX := am hx
   clear hx
   go_wp2_with (first | (go_at_call 18; refine HCALL.out.mono ?_; rintro e w2 ⟨rfl, hb2⟩; have HS2 := am (HS.out.below hb2 HZ.out); have HB2 := am (HB.out.trans (hb2.mono HB.out.size)); have HZ2 := am (Nat.lt_of_lt_of_le HZ.out hb2.size); obtain ⟨y0, y1, y2, y3, y4, y5, y6⟩ := HS2.out.cells; clear hb2) | (go_at_call 64; refine (HI2.out _).mono ?_; rintro e w3 ⟨rfl, hdr⟩; have hb3 : Below w2.heap.size w2 w3 := (by obtain ⟨q, rfl⟩ := hdr; exact pdn (Below.refl _ _) q); clear hdr; have HS3 := am (HS2.out.below hb3 HZ2.out); have HB3 := am (HB2.out.trans (hb3.mono HB2.out.size)); have HZ3 := am (Nat.lt_of_lt_of_le HZ2.out hb3.size); obtain ⟨x0, x1, x2, x3, x4, x5, x6⟩ := HS3.out.cells; clear hb3) | (go_at_call 68; refine (impl_ReadSector.bwd_mk _ _ _ _).mono ?_; rintro e w4 ⟨rfl, hw4⟩; have hb4 := am hw4; clear hw4))
   have HS4 : Aside0 (impl_ReadSector.St w.heap.size A0_0 l0_0.length c0_0 A0_1 l0_1.length c0_1 a1 w4) := ⟨by rw [hb4.out]; exact HS3.out.below ((Below.refl w3.heap.size w3).alloc (Nat.le_refl _) _) HZ3.out⟩
   have HB4 : Aside0 (Below w.heap.size w w4) := ⟨by rw [hb4.out]; exact HB3.out.alloc HB3.out.size _⟩
   have HZ4 : Aside0 (w.heap.size + 3 < w4.heap.size) := ⟨by rw [hb4.out]; have := HZ3.out; simp; omega⟩
   have hbox : w4.cell? ⟨w3.heap.size, 0, none⟩ = some (.slice A0_1 l0_1.length c0_1) := by rw [hb4.out]; simp
   clear hb4 y0 y1 y2 y3 y4 y5 y6 x0 x1 x2 x3 x4 x5 x6 z0 z1 z2 z3 z4 z5 z6
   refine (wpIn_wide (n := 3)).1 (wpIn_rangeFunc_ownH (F := Fence.wide) (n := 3) rfl (by decide) (gf := 106) (lb := #[.pointer (some ⟨w3.heap.size, 0, none⟩)]) rfl trivial (enters_of Try.func106 (by kernel_rfl) rfl)
    (impl_ReadSector.bwd_stops Fence.wide 2 trivial rfl (by decide) A0_1 c0_1 l0_1 w4 (Kd.C_below HR1.out HB4.out) w3.heap.size hbox) belowK_t (belowK_b (Nat.le_refl _)) (Below.refl _ _) (fun _ => rfl)
    (fun pre W => (∀ p ∈ pre, p.2.f0 ≠ a1) ∧ Below w4.heap.size w4 W)
    (fun c pre W => (c = .ret ∧ ∃ ini last, pre = ini ++ [last] ∧ (∀ p ∈ ini, p.2.f0 ≠ a1) ∧ last.2.f0 = a1 ∧ Boxed W (w.heap.size + 1 + 1) 9 (.string last.2.f1) ∧ Boxed W (w.heap.size + 1 + 1 + 1) 2 (.int .i64 0)) ∧ Below w.heap.size w W)
    (OwnFrom.and (Own.from (fun s A B row hs hg hr => hs) _) (ownFrom_below (Nat.le_refl _) (Nat.le_refl _)))
    (fun c => OwnFrom.and (Own.from (fun s A B row hs hg hr => by obtain ⟨hc, ini, last, e1, e2, e3, e4, e5⟩ := hs; exact ⟨hc, ini, last, e1, e2, e3, impl_ReadSector.Bkept e4 hg hr, impl_ReadSector.Bkept e5 hg hr⟩) _) (ownFrom_below (Nat.le_refl _) HB4.out.size))
    ⟨by simp, Below.refl _ _⟩
    (fun x a' W => ∃ Bx, W.heap[Bx]? = some (.cells #[.int .i64 x.2.f0, .string x.2.f1] 55 (0, 0)) ∧ a' = { tmps := #[Value.agg #[Value.slice A0_0 l0_0.length c0_0, Value.slice A0_1 l0_1.length c0_1], Value.int IntKind.i64 a1, Value.pointer (some ⟨w.heap.size, 0, none⟩), Value.pointer (some ⟨w.heap.size + 1, 0, none⟩), Value.pointer (some ⟨w.heap.size + 1 + 1, 0, none⟩), Value.pointer (some ⟨w.heap.size + 1 + 1 + 1, 0, none⟩), undef, Value.pointer (some ⟨Bx, 0, none⟩), Value.bool false, Value.agg #[Value.slice A0_0 l0_0.length c0_0, Value.slice A0_1 l0_1.length c0_1], Value.bool true, Value.bool false, Value.bool false, Value.int IntKind.i64 a1, Value.pointer (some ⟨w.heap.size, 0, none⟩), Value.slice A0_0 l0_0.length c0_0, Value.int IntKind.i64 (l0_0.length : Int), Value.bool true, Value.bool false, Value.pointer (some ⟨w.heap.size, 1, none⟩), Value.slice A0_1 l0_1.length c0_1, Value.func (Fn.func 106) #[] #[Value.pointer (some ⟨w3.heap.size, 0, none⟩)], Value.int IntKind.i64 (x.1 : Int), Value.agg #[Value.int IntKind.i64 x.2.f0, Value.string x.2.f1], undef, undef, undef, undef, undef, undef, undef, undef, undef, undef, undef], defers := [] })
    (fun x a' => Own.from (fun s A B row hs hg hr => by
     obtain ⟨Bx, h1, h2⟩ := hs
     exact ⟨Bx, (hg.block Bx (Array.getElem?_eq_some_iff.1 h1).1 (fun e => by obtain ⟨o, ho, hc⟩ := hr Bx e.symm; rw [h1] at ho; cases ho; cases hc)).trans h1, h2⟩) _) ?assign ?body ?done ?stop)
   case assign =>
    rintro l pre x W K ⟨hi1, hi2⟩ hK
    gi_wp2
    exact hK _ _ ((KeepsOthers.alloc _ _).from _) ((Below.refl w4.heap.size W).alloc hi2.size _) ⟨hi1, hi2.alloc hi2.size _⟩ ⟨W.heap.size, World.alloc_heap_new W _, rfl⟩
   case body =>
    rintro l pre x a' W hl ⟨r, hr⟩ ⟨hi1, hi2⟩ ⟨Bx, hBx, rfl⟩ hlt
    have c0 : W.cell? ⟨Bx, 0, none⟩ = some (.int .i64 x.2.f0) := by simp [World.cell?, hBx]
    have c1 : W.cell? ⟨Bx, 1, none⟩ = some (.string x.2.f1) := by simp [World.cell?, hBx]
    have HS5 := am (HS4.out.below hi2 HZ4.out)
    obtain ⟨z0, z1, z2, z3, z4, z5, z6⟩ := HS5.out.cells
    have hB5 : Below w.heap.size w W := HB4.out.trans (hi2.mono HB4.out.size)
    by_cases hq : x.2.f0 = a1
    ·gi_wp2
     have hp := impl_ReadSector.put2 HS5.out.2.2.1 HS5.out.2.2.2 (.string x.2.f1) (.int .i64 0)
     exact ⟨((KeepsOthers.setCell _ _ _).trans (KeepsOthers.setCell _ _ _)).from _, ⟨rfl, pre, x, rfl, hi1, hq, hp.1, hp.2⟩, impl_ReadSector.putB hB5 (Nat.le_refl _) _ _⟩
    ·gi_wp2
     exact ⟨KeepsFrom.refl _ _, Below.refl _ _, fun p hp' => (List.mem_append.1 hp').elim (hi1 p) (fun e => by simp at e; subst e; exact hq), hi2⟩
   case done =>
    rintro D ys W hD rfl ⟨hi1, hi2⟩ hK
    have HS5 := am (HS4.out.below hi2 HZ4.out)
    obtain ⟨z0, z1, z2, z3, z4, z5, z6⟩ := HS5.out.cells
    have hB5 : Below w.heap.size w W := HB4.out.trans (hi2.mono HB4.out.size)
    have hx := HX.out
    obtain ⟨na, rfl⟩ : ∃ na : Nat, a1 = (na : Int) := ⟨a1.toNat, by omega⟩
    obtain ⟨ad, e, hx0⟩ := Kd.at_string (Kd.C_below HR0.out hB5) (na : Int) (by omega) (by omega)
    cases e
    rw [Int.toNat_natCast] at hx0
    have q1 : (0 : Int) ≤ (na : Int) := by omega
    have q2 : (na : Int) < (l0_0.length : Int) := by omega
    have q3 : na < l0_0.length := by omega
    obtain ⟨e1, e2⟩ : impl_ReadSector.got l0_0 l0_1 (na : Int) = r1 ∧ (0 : Int) = r2 := by have := HE2.out; rw [if_pos HX.out] at this; injection this with this; injection this with e1 e2; exact ⟨e1, e2⟩
    rw [impl_ReadSector.got_none l0_0 hi1] at e1
    subst e1
    subst e2
    clear hx
    go_wp2
    have hp := impl_ReadSector.put2 HS5.out.2.2.1 HS5.out.2.2.2 (.string (rdOf ByteArray.empty l0_0 (na : Int))) (.int .i64 0)
    have hK' := ((KeepsOthers.setCell W ⟨w.heap.size + 1 + 1, 0, none⟩ (.string (rdOf ByteArray.empty l0_0 (na : Int)))).trans (KeepsOthers.setCell _ ⟨w.heap.size + 1 + 1 + 1, 0, none⟩ (.int .i64 0))).same D _ hK rfl
    refine ⟨by simp, .inl ⟨_, _, rfl, run_takeDeferred hK', ?_⟩⟩
    have hc1 := (impl_ReadSector.Bkept hp.1 (grownBy_putObj' _ D (.deferred none)) (fun r e => by cases e; exact ⟨_, hK', rfl⟩)).cell
    have hc2 := (impl_ReadSector.Bkept hp.2 (grownBy_putObj' _ D (.deferred none)) (fun r e => by cases e; exact ⟨_, hK', rfl⟩)).cell
    refine ⟨.tuple #[.string _, .int .i64 0], ?_, rfl, (impl_ReadSector.putB hB5 (Nat.le_refl _) _ _).trans (belowK_b (w := w) (Nat.le_refl _) _ D _ _ (Nat.le_trans HB4.out.size hD) hK' rfl rfl)⟩
    simp [results, Try.f21, go_sem, hc1, hc2]
   case stop =>
    rintro D c pre W hD ⟨k, hk, rfl⟩ ⟨⟨rfl, ini, last, e1, e2, e3, e4, e5⟩, hB⟩ hK
    obtain ⟨e6, e7⟩ : impl_ReadSector.got l0_0 l0_1 a1 = r1 ∧ (0 : Int) = r2 := by have := HE2.out; rw [if_pos HX.out] at this; injection this with this; injection this with e1 e2; exact ⟨e1, e2⟩
    rw [impl_ReadSector.got_some l0_0 hk e1 e2 e3] at e6
    gi_wp2
    refine ⟨by simp, .inl ⟨_, _, rfl, run_takeDeferred hK, ?_⟩⟩
    have hc1 := (impl_ReadSector.Bkept e4 (grownBy_putObj' _ D (.deferred none)) (fun r e => by cases e; exact ⟨_, hK, rfl⟩)).cell
    have hc2 := (impl_ReadSector.Bkept e5 (grownBy_putObj' _ D (.deferred none)) (fun r e => by cases e; exact ⟨_, hK, rfl⟩)).cell
    refine ⟨.tuple #[.string r1, .int .i64 r2], ?_, rfl, hB.trans (belowK_b (w := w) (Nat.le_refl _) _ D _ _ (Nat.le_trans HB4.out.size hD) hK rfl rfl)⟩
    rw [← e6, ← e7]
    simp [results, Try.f21, go_sem, hc1, hc2]
  ·have HI2 : Aside0 (∀ W, Calls Try.prog 64 #[.int .i64 a1, .int .i64 (l0_0.length : Int)] W fun e w' => e = .returned (.bool false) ∧ Drawn0 W w') := ⟨fun W => by have := HI.out W; rw [decide_eq_false hx] at this; exact this⟩
   clear HI
   have HX := am hx
   clear hx
   go_wp2_with (first | (go_at_call 18; refine HCALL.out.mono ?_; rintro e w2 ⟨rfl, hb2⟩; have HS2 := am (HS.out.below hb2 HZ.out); have HB2 := am (HB.out.trans (hb2.mono HB.out.size)); have HZ2 := am (Nat.lt_of_lt_of_le HZ.out hb2.size); obtain ⟨y0, y1, y2, y3, y4, y5, y6⟩ := HS2.out.cells; clear hb2) | (go_at_call 64; refine (HI2.out _).mono ?_; rintro e w3 ⟨rfl, hdr⟩; have hb3 : Below w2.heap.size w2 w3 := (by obtain ⟨q, rfl⟩ := hdr; exact pdn (Below.refl _ _) q); clear hdr; have HS3 := am (HS2.out.below hb3 HZ2.out); have HB3 := am (HB2.out.trans (hb3.mono HB2.out.size)); have HZ3 := am (Nat.lt_of_lt_of_le HZ2.out hb3.size); obtain ⟨x0, x1, x2, x3, x4, x5, x6⟩ := HS3.out.cells; clear hb3))
   obtain ⟨e1, e2⟩ : ByteArray.empty = r1 ∧ (2 : Int) = r2 := by have := HE2.out; rw [if_neg HX.out] at this; injection this with this; injection this with e1 e2; exact ⟨e1, e2⟩
   have hp := impl_ReadSector.put2 HS3.out.2.2.1 HS3.out.2.2.2 (.string ⟨#[]⟩) (.int .i64 2)
   have hc1 := hp.1.cell
   have hc2 := hp.2.cell
   refine ⟨.tuple #[.string r1, .int .i64 r2], ?_, rfl, impl_ReadSector.putB HB3.out (Nat.le_refl _) _ _⟩
   rw [← e1, ← e2]
   simp [results, Try.f21, go_sem, hc1, hc2]
   rfl

/-! ### slices_Clone_string_string: function 107 -/
def slices_Clone_string_string.f (l0 : List ByteArray) : Option (List ByteArray) := if l0.length < 8796093022208 then some l0 else none
set_option maxHeartbeats 8000000 in
set_option maxRecDepth 100000 in
theorem slices_Clone_string_string.calls (A0 : Option Addr) (c0 : Nat) (l0 : List ByteArray) (r : List ByteArray) (w : World) (hr0 : Kd.C Kd.string w A0 l0.length l0) (hc0 : l0.length ≤ c0) (h : slices_Clone_string_string.f l0 = some r) :
  Calls Try.prog 107 #[.slice A0 l0.length c0] w fun e w' => ∃ v0_ : Value, e = .returned (v0_) ∧ Kd.R Kd.string 9 w' w.heap.size (fun _ => True) v0_ r ∧ Below w.heap.size w w' := by
 have c2 : l0.length < 8796093022208 := by
  by_cases c2 : l0.length < 8796093022208
  ·exact c2
  ·rw [slices_Clone_string_string.f, if_neg c2] at h; exact absurd h (by simp)
 rw [slices_Clone_string_string.f, if_pos c2] at h
 obtain rfl := Option.some.inj h
 clear h
 have q22 : ∀ (w : World) (a : Option Addr) (n c n' c' : Nat), (binOp .eql 22 (.slice a n c) (.slice none n' c')).run Try.prog w = .ok (.bool a.isNone) w := fun w a n c n' c' => Lib.run_eql_slice_nil w _ _ a n c n' c' Try.underlying22
 cases A0 with
 | none =>
  have hz : l0 = [] := by
   cases l0 with
   | nil => rfl
   | cons x xs =>
    obtain ⟨ad, hA, _⟩ := hr0.2.2 (by simp)
    cases hA
  subst hz
  clear hr0 hc0 c2
  go_enter Try.func107, Try.ntmps107
  go_wp2
  go_ret
  exact ⟨_, rfl, Kd.R_nil _ _ _ _ _, Below.refl _ _⟩
 | some A =>
  have HR0 := am hr0
  have HC0 := am hc0
  clear hr0 hc0
  have LMc2 := am c2
  clear c2
  have HB := am (Below.refl w.heap.size w)
  go_enter Try.func107, Try.ntmps107
  go_wp2_with (first | ((with_reducible refine gate_dst (N := 5) rfl ?_); refine Kd.R_lit Kd.string _ 9 ?hg (N := 5) ?hd (xs := ([] : List ByteArray)) (inner := []) (ok := fun _ => True) (okp := fun _ => True) ?hr ?hp (fun _ hk => hk) trivial (Below.refl _ _) (Nat.le_refl _) (by simp) ?_; (case hd => rfl); (case hg => rfl); (case hr => first | (go_simp; done) | (go_simp; rfl)); (case hp => exact (Reps.none _ _)); intro v351 w3 ho4 hb hg_ hnew_; clear hg_ hnew_; have n0_ := am (Kd.R_lower ho4 (below_size HB.out)); have n1_ := am (below_step HB.out hb); clear HB; have HO352 := n0_; have HB := n1_; clear n0_ n1_; clear hb ho4) | ((with_reducible refine gate_builtin (b := .append) (xs := #[.tmp 5, .tmp 6]) rfl ?_); at_builtin; refine Kd.R_append_rows Kd.string (w0 := w) w.heap.size rfl (.tmp 5) (.tmp 6) 22 9 (.string ⟨#[]⟩) 16 rfl Try.underlying22 info9 rfl (by decide) (by omega) v351 [] l0 _ _ _ (fun _ => True) (fun _ => False) rfl rfl ?aO ?aR (fun _ _ h => h) (fun _ h => h.elim) ?aF ?aB ?aS ?aL ?_; (case aR => exact (Kd.C_below HR0.out HB.out)); (case aB => exact HB.out); (case aF => exact (fun _ _ => trivial)); (case aO => exact HO352.out); (case aS => exact (below_size HB.out)); (case aL => have := LMc2.out; simp only [List.length_nil]; omega); intro v354 w5 ho hb hg hat; have n0_ := am (hb); have n1_ := am (ho); clear HB; clear HO352; have HB := n0_; have HO355 := n1_; clear n0_ n1_; clear ho hb hg hat))
  go_ret
  exact ⟨_, rfl, by simpa using HO355.out, HB.out⟩


/-! ### impl_Disk_flushed: function 70 -/
def impl_Disk_flushed.l0 : Nat → List ByteArray → List (S55) → Int → Int → Option (List ByteArray × (List (S55)))
 | 0, _, _, _, _ => none
 | k + 1, x3, x10, x11, x12 => if x12 < x11 then (if 0 ≤ x12 then (if x12 < (x10.length : Int) then (if 0 ≤ ((rd_T55 x10 x12).f0) then (if ((rd_T55 x10 x12).f0) < (x3.length : Int) then (impl_Disk_flushed.l0 k (x3.set (((rd_T55 x10 x12).f0) : Int).toNat ((rd_T55 x10 x12).f1)) x10 x11 (wrap64 (x12 + 1))) else (none)) else (none)) else (none)) else (none)) else (some (x3, ([] : List (S55))))
def impl_Disk_flushed.f (k : Nat) (l0_0 : List ByteArray) (l0_1 : List (S55)) : Option (List ByteArray × (List (S55))) := (slices_Clone_string_string.f l0_0).bind fun t109 => (impl_Disk_flushed.l0 k t109 l0_1 (l0_1.length : Int) 0)
theorem impl_Disk_flushed.mono_l : ∀ k, (∀ y0 y1 y2 y3, LeO (impl_Disk_flushed.l0 k y0 y1 y2 y3) (impl_Disk_flushed.l0 (k + 1) y0 y1 y2 y3))
 | 0 => fun _ _ _ _ r h => by simp [impl_Disk_flushed.l0] at h
 | k + 1 => by
  have ih0 := impl_Disk_flushed.mono_l k
  ·intro y0 y1 y2 y3
   unfold impl_Disk_flushed.l0
   repeat' first
   | (with_reducible exact ih0 _ _ _ _)
   | (with_reducible exact LeO.refl _)
   | (with_reducible exact LeO.none _)
   | (with_reducible refine LeO.ite ?_ ?_)
   | (with_reducible refine LeO.bind ?_ (fun _ => ?_))
   | exact ih0 _ _ _ _
   | exact LeO.none _
   | refine LeO.ite ?_ ?_
   | refine LeO.bind ?_ (fun _ => ?_)
theorem impl_Disk_flushed.mono : ∀ a0 a1 k, LeO (impl_Disk_flushed.f k a0 a1) (impl_Disk_flushed.f (k + 1) a0 a1) := by
 intro a0 a1 k
 have ih0 := impl_Disk_flushed.mono_l k
 unfold impl_Disk_flushed.f
 repeat' first
   | (with_reducible exact ih0 _ _ _ _)
   | (with_reducible exact LeO.refl _)
   | (with_reducible exact LeO.none _)
   | (with_reducible refine LeO.ite ?_ ?_)
   | (with_reducible refine LeO.bind ?_ (fun _ => ?_))
   | exact ih0 _ _ _ _
   | exact LeO.none _
   | refine LeO.ite ?_ ?_
   | refine LeO.bind ?_ (fun _ => ?_)
set_option maxHeartbeats 8000000 in
set_option maxRecDepth 100000 in
theorem impl_Disk_flushed.calls (k : Nat) (A0_0 : Option Addr) (c0_0 : Nat) (l0_0 : List ByteArray) (A0_1 : Option Addr) (c0_1 : Nat) (l0_1 : List (S55)) (r1 : List ByteArray) (r2 : List (S55)) (w : World) (hr0_0 : Kd.C Kd.string w A0_0 l0_0.length l0_0) (hc0_0 : l0_0.length ≤ c0_0) (hr0_1 : Kd.C k55 w A0_1 l0_1.length l0_1) (hc0_1 : l0_1.length ≤ c0_1) (h : impl_Disk_flushed.f k l0_0 l0_1 = some (r1, r2)) :
  Calls Try.prog 70 #[.agg #[.slice A0_0 l0_0.length c0_0, .slice A0_1 l0_1.length c0_1]] w fun e w' => ∃ v0_ v1_ : Value, e = .returned (.agg #[v0_, v1_]) ∧ Kd.R Kd.string 9 w' w.heap.size (fun _ => True) v0_ r1 ∧ Kd.R k55 55 w' w.heap.size (fun _ => True) v1_ r2 ∧ Below w.heap.size w w' := by
 have hu30 := Try.underlying30
 have hu55 := Try.underlying55
 have HR0_0 := am hr0_0
 have HC0_0 := am hc0_0
 clear hr0_0 hc0_0
 have HR0_1 := am hr0_1
 have HC0_1 := am hc0_1
 clear hr0_1 hc0_1
 have HB := am (Below.refl w.heap.size w)
 have H : ((slices_Clone_string_string.f l0_0).bind fun t109 => (impl_Disk_flushed.l0 k t109 l0_1 (l0_1.length : Int) 0)) = some (r1, r2) := h
 clear h
 replace H := Option.bind_eq_some_iff.mp H
 obtain ⟨t109, A20, H⟩ := H
 replace H : (impl_Disk_flushed.l0 k t109 l0_1 (l0_1.length : Int) 0) = some (r1, r2) := H
 have A2 := am A20
 clear A20
 have H' := am H
 clear H
 go_enter Try.func70, Try.ntmps70
 go_wp2_with (first | ((with_reducible refine gate_dst (N := 1) rfl ?_); refine box_event ?hg (N := 1) ?hd (cs := #[.slice A0_0 l0_0.length c0_0, .slice A0_1 l0_1.length c0_1]) (t := 30) ?hr ?_; (case hd => rfl); (case hg => rfl); (case hr => first | (go_simp; done) | (go_simp; rfl)); intro gb107 hg w3 hbox hb; have n0_ := am (below_step (by repeat (first | (with_reducible first | exact HB.out | apply bal | apply pdn | apply bd1) | exact HB.out)) hb); have n1_ := am (hbox); have n2_ := am ((by rw [hg]; exact (below_size (by repeat (first | (with_reducible first | exact HB.out | apply bal | apply pdn | apply bd1) | exact HB.out))) : w.heap.size ≤ gb107)); have n3_ := am ((by rw [hg]; exact (below_size (by repeat (first | (with_reducible first | exact HB.out | apply bal | apply pdn | apply bd1) | exact HB.out))) : w.heap.size ≤ gb107)); clear HB; have HB := n0_; have BK107 := n1_; have GW107 := n2_; have GE107 := n3_; clear n0_ n1_ n2_ n3_; clear hb hbox hg) | ((with_reducible refine gate_dst (N := 2) rfl ?_); refine box_event ?hg (N := 2) ?hd (cs := #[.slice none 0 0, .slice none 0 0]) (t := 30) ?hr ?_; (case hd => rfl); (case hg => rfl); (case hr => first | (go_simp; done) | (go_simp; rfl)); intro gb108 hg w4 hbox hb; have n0_ := am (kbb (g := gb107) (o := .cells #[.slice A0_0 l0_0.length c0_0, .slice A0_1 l0_1.length c0_1] 30 (0, 0)) (by (with_reducible repeat (first | apply kdn | apply kdr | apply kal)); exact BK107.out) hb); have n1_ := am (below_step (by repeat (first | (with_reducible first | exact HB.out | apply bal | apply pdn | apply bd1 | refine bst ?_ GE107.out) | exact HB.out)) hb); have n2_ := am (hbox); have n3_ := am ((by rw [hg]; exact (below_size (by repeat (first | (with_reducible first | exact HB.out | apply bal | apply pdn | apply bd1 | refine bst ?_ GE107.out) | exact HB.out))) : w.heap.size ≤ gb108)); have n4_ := am ((by rw [hg]; exact (below_size (by repeat (first | (with_reducible first | exact HB.out | apply bal | apply pdn | apply bd1 | refine bst ?_ GE107.out) | exact HB.out))) : w.heap.size ≤ gb108)); have n5_ := am ((by rw [hg]; exact Nat.ne_of_lt (blk_lt (g := gb107) (o := .cells #[.slice A0_0 l0_0.length c0_0, .slice A0_1 l0_1.length c0_1] 30 (0, 0)) (by (with_reducible repeat (first | apply kdn | apply kdr | apply kal)); exact BK107.out)) : gb107 ≠ gb108)); have n6_ := am ((by rw [hg]; exact Nat.ne_of_gt (blk_lt (g := gb107) (o := .cells #[.slice A0_0 l0_0.length c0_0, .slice A0_1 l0_1.length c0_1] 30 (0, 0)) (by (with_reducible repeat (first | apply kdn | apply kdr | apply kal)); exact BK107.out)) : gb108 ≠ gb107)); clear BK107; clear HB; have BK107 := n0_; have HB := n1_; have BK108 := n2_; have GW108 := n3_; have GE108 := n4_; have NB107_108 := n5_; have NB108_107 := n6_; clear n0_ n1_ n2_ n3_ n4_ n5_ n6_; clear hb hbox hg; have hnb5 := NB107_108.out; have hnc5 := NB108_107.out; have hcz6_0 : w4.cell? ⟨gb107, 0, none⟩ = some (.slice A0_0 l0_0.length c0_0) := (kce BK107.out 0).trans rfl; have hcz6_1 : w4.cell? ⟨gb107, 1, none⟩ = some (.slice A0_1 l0_1.length c0_1) := (kce BK107.out 1).trans rfl; have hfz6_0 := kfr BK107.out 0; have hfz6_1 := kfr BK107.out 1) | ((with_reducible refine gate_callee (f := 107) rfl ?_); refine goesL_ (some 8) rfl rfl Try.func107 (by kernel_rfl) rfl #[.slice A0_0 l0_0.length c0_0] rfl (by (try simp only [mta, mco, mni]); first | done | rfl | (simp only [lnd, lnt]; rfl)) ?_; (with_reducible refine (slices_Clone_string_string.calls _ _ l0_0 t109 _ ?side1 ?side2 A2.out).mono ?_); (case side1 => repeat (first | exact (Kd.C_below HR0_0.out HB.out) | (with_reducible first | apply kca | apply kcn | apply kcd))); (case side2 => exact HC0_0.out); rintro e w7 ⟨v110, rfl, ho0, hb⟩; refine ⟨_, rfl, ?_⟩; have n0_ := am (Kd.R_lower ho0 (below_size (by repeat (first | (with_reducible first | exact HB.out | apply bal | apply pdn | apply bd1 | refine bst ?_ GE107.out | refine bst ?_ GE108.out) | exact HB.out)))); have n1_ := am (kbb (g := gb107) (o := .cells #[.slice A0_0 l0_0.length c0_0, .slice A0_1 l0_1.length c0_1] 30 (0, 0)) (by (with_reducible repeat (first | apply kdn | apply kdr | apply kal)); exact BK107.out) hb); have n2_ := am (kbb (g := gb108) (o := .cells #[.slice none 0 0, .slice none 0 0] 30 (0, 0)) (by (with_reducible repeat (first | apply kdn | apply kdr | apply kal)); exact BK108.out) hb); have n3_ := am (below_step (by repeat (first | (with_reducible first | exact HB.out | apply bal | apply pdn | apply bd1 | refine bst ?_ GE107.out | refine bst ?_ GE108.out) | exact HB.out)) hb); clear BK107; clear BK108; clear HB; have HO111 := n0_; have BK107 := n1_; have BK108 := n2_; have HB := n3_; clear n0_ n1_ n2_ n3_; (try clear hb); (try clear hb2); (try clear hk); (try clear hi); (try clear ho0); have hcz8_0 : w7.cell? ⟨gb107, 0, none⟩ = some (.slice A0_0 l0_0.length c0_0) := (kce BK107.out 0).trans rfl; have hcz8_1 : w7.cell? ⟨gb107, 1, none⟩ = some (.slice A0_1 l0_1.length c0_1) := (kce BK107.out 1).trans rfl; have hfz8_0 := kfr BK107.out 0; have hfz8_1 := kfr BK107.out 1))
 go_loopg [12] k (fun kq v12 w' => ∃ (x3_1 : List ByteArray) (x12_1 : Int), v12 = .int .i64 x12_1 ∧ Aside0 (impl_Disk_flushed.l0 kq x3_1 l0_1 (l0_1.length : Int) x12_1 = some (r1, r2)) ∧ Aside0 (kq ≤ k) ∧ Aside0 (Kd.R Kd.string 9 w' w.heap.size (fun _ => True) v110 x3_1) ∧ Aside0 (w'.heap[gb107]? = some (.cells #[(.slice A0_0 l0_0.length c0_0), (.slice A0_1 l0_1.length c0_1)] 30 (0, 0))) ∧ Aside0 (w'.heap[gb108]? = some (.cells #[(.slice none 0 0), (.slice none 0 0)] 30 (0, 0))) ∧ Aside0 (Below w.heap.size w w'))
 case atStart => exact ⟨(t109), (0), (by first | rfl | (simp; done) | (simp [*]; done)), H', ⟨Nat.le_refl _⟩, ⟨by (with_reducible repeat (first | apply kra | apply krn | apply krd)); exact HO111.out⟩, ⟨by (with_reducible repeat (first | apply kdn | apply kdr | apply kal)); exact BK107.out⟩, ⟨by (with_reducible repeat (first | apply kdn | apply kdr | apply kal)); exact BK108.out⟩, ⟨by repeat (first | (with_reducible first | exact HB.out | apply bal | apply pdn | apply bd1 | refine bst ?_ GE107.out | refine bst ?_ GE108.out) | exact HB.out)⟩⟩
 case round =>
  clear H'
  obtain ⟨x3_1, x12_1, rfl, HA, HK1, HO_3, BK107, BK108, HB⟩ := hrel
  cases gk with
  | zero => exact absurd HA.out (by simp [impl_Disk_flushed.l0])
  | succ k1 =>
   have H := HA.out
   clear HA
   simp only [impl_Disk_flushed.l0] at H
   by_cases c9 : x12_1 < (l0_1.length : Int)
   ·rw [if_pos c9] at H
    have c9b0 : decide (x12_1 < (l0_1.length : Int)) = true := decide_eq_true c9
    clear c9
    by_cases c10 : 0 ≤ x12_1
    ·rw [if_pos c10] at H
     have c10b0 : decide (0 ≤ x12_1) = true := decide_eq_true c10
     clear c10
     by_cases c11 : x12_1 < (l0_1.length : Int)
     ·rw [if_pos c11] at H
      have c11b0 : decide (x12_1 < (l0_1.length : Int)) = true := decide_eq_true c11
      clear c11
      by_cases c12 : 0 ≤ ((rd_T55 l0_1 x12_1).f0)
      ·rw [if_pos c12] at H
       have c12b0 : decide (0 ≤ ((rd_T55 l0_1 x12_1).f0)) = true := decide_eq_true c12
       clear c12
       by_cases c13 : ((rd_T55 l0_1 x12_1).f0) < (x3_1.length : Int)
       ·rw [if_pos c13] at H
        have c13b0 : decide (((rd_T55 l0_1 x12_1).f0) < (x3_1.length : Int)) = true := decide_eq_true c13
        clear c13
        obtain ⟨y114, hy114⟩ : ∃ y_ : List ByteArray, y_ = (x3_1.set (((rd_T55 l0_1 x12_1).f0) : Int).toNat ((rd_T55 l0_1 x12_1).f1)) := ⟨_, rfl⟩
        replace H : (impl_Disk_flushed.l0 k1 y114 l0_1 (l0_1.length : Int) (wrap64 (x12_1 + 1))) = some (r1, r2) := by first | (rw [hy114]; with_reducible exact H) | (have H2_ := (Option.bind_some _ _).symm.trans H; rw [hy114]; with_reducible exact H2_) | (have H2_ := (Option.bind_some _ _).symm.trans H; with_reducible exact H2_) | with_reducible exact H | (rw [hy114]; exact H) | exact H
        have Ny114 := am hy114
        clear hy114
        have H' := am H
        clear H
        have p112 : 0 ≤ (x12_1 : Int) := of_decide_eq_true (by first | (with_reducible assumption) | assumption)
        have q112 : x12_1 < (l0_1.length : Int) := of_decide_eq_true (by first | (with_reducible assumption) | assumption)
        obtain ⟨ad112, e112, hx112_0, hx112_1⟩ := at_T55 HR0_1.out x12_1 p112 q112
        cases e112
        replace hx112_0 := (HB.out.cell (blc w _ hx112_0)).trans hx112_0
        replace hx112_1 := (HB.out.cell (blc w _ hx112_1)).trans hx112_1
        replace p112 := eq_true p112
        replace q112 := eq_true q112
        go_wp2_with (first | ((with_reducible refine gate_dst (N := 5) rfl ?_); refine box_event ?hg (N := 5) ?hd (cs := #[.int .i64 0, .string (⟨#[]⟩ : ByteArray)]) (t := 55) ?hr ?_; (case hd => rfl); (case hg => rfl); (case hr => first | (go_simp; done) | (go_simp; rfl)); intro gb113 hg w15 hbox hb; have n0_ := am (krb (by (with_reducible repeat (first | apply kra | apply krn | apply krd)); exact HO_3.out) hb); have n1_ := am (kbb (g := gb107) (o := .cells #[.slice A0_0 l0_0.length c0_0, .slice (some ad112) l0_1.length c0_1] 30 (0, 0)) (by (with_reducible repeat (first | apply kdn | apply kdr | apply kal)); exact BK107.out) hb); have n2_ := am (kbb (g := gb108) (o := .cells #[.slice none 0 0, .slice none 0 0] 30 (0, 0)) (by (with_reducible repeat (first | apply kdn | apply kdr | apply kal)); exact BK108.out) hb); have n3_ := am (below_step (by repeat (first | (with_reducible first | exact HB.out | apply bal | apply pdn | apply bd1 | refine bst ?_ GE107.out | refine bst ?_ GE108.out) | exact HB.out)) hb); have n4_ := am (hbox); have n5_ := am ((by rw [hg]; exact (below_size (by repeat (first | (with_reducible first | exact HB.out | apply bal | apply pdn | apply bd1 | refine bst ?_ GE107.out | refine bst ?_ GE108.out) | exact HB.out))) : w.heap.size ≤ gb113)); have n6_ := am ((by rw [hg]; exact (below_size (by repeat (first | (with_reducible first | exact HB.out | apply bal | apply pdn | apply bd1 | refine bst ?_ GE107.out | refine bst ?_ GE108.out) | exact HB.out))) : w.heap.size ≤ gb113)); have n7_ := am ((by rw [hg]; exact Nat.ne_of_lt (blk_lt (g := gb107) (o := .cells #[.slice A0_0 l0_0.length c0_0, .slice (some ad112) l0_1.length c0_1] 30 (0, 0)) (by (with_reducible repeat (first | apply kdn | apply kdr | apply kal)); exact BK107.out)) : gb107 ≠ gb113)); have n8_ := am ((by rw [hg]; exact Nat.ne_of_gt (blk_lt (g := gb107) (o := .cells #[.slice A0_0 l0_0.length c0_0, .slice (some ad112) l0_1.length c0_1] 30 (0, 0)) (by (with_reducible repeat (first | apply kdn | apply kdr | apply kal)); exact BK107.out)) : gb113 ≠ gb107)); have n9_ := am ((by rw [hg]; exact Nat.ne_of_lt (blk_lt (g := gb108) (o := .cells #[.slice none 0 0, .slice none 0 0] 30 (0, 0)) (by (with_reducible repeat (first | apply kdn | apply kdr | apply kal)); exact BK108.out)) : gb108 ≠ gb113)); have n10_ := am ((by rw [hg]; exact Nat.ne_of_gt (blk_lt (g := gb108) (o := .cells #[.slice none 0 0, .slice none 0 0] 30 (0, 0)) (by (with_reducible repeat (first | apply kdn | apply kdr | apply kal)); exact BK108.out)) : gb113 ≠ gb108)); clear HO_3; clear BK107; clear BK108; clear HB; have HO_3 := n0_; have BK107 := n1_; have BK108 := n2_; have HB := n3_; have BK113 := n4_; have GW113 := n5_; have GE113 := n6_; have NB107_113 := n7_; have NB113_107 := n8_; have NB108_113 := n9_; have NB113_108 := n10_; clear n0_ n1_ n2_ n3_ n4_ n5_ n6_ n7_ n8_ n9_ n10_; clear hb hbox hg; have hnb16 := NB113_107.out; have hnc16 := NB107_113.out; have hnb17 := NB113_108.out; have hnc17 := NB108_113.out; have hcz18_0 : w15.cell? ⟨gb113, 0, none⟩ = some (.int .i64 0) := (kce BK113.out 0).trans rfl; have hcz18_1 : w15.cell? ⟨gb113, 1, none⟩ = some (.string (⟨#[]⟩ : ByteArray)) := (kce BK113.out 1).trans rfl; have hfz18_0 := kfr BK113.out 0; have hfz18_1 := kfr BK113.out 1) | ((with_reducible refine gate_store (t := 55) (p := 5) rfl ?_); refine store_event (t := 55) (p := 5) (v := ?vo_w19) (w1 := ((w15.setCell ⟨gb113, 0, none⟩ (.int .i64 ((rd_T55 l0_1 x12_1).f0))).setCell ⟨gb113, 1, none⟩ (.string ((rd_T55 l0_1 x12_1).f1)))) ?hg ?ho ?hn ?hr ?_; (case ho => rfl); (case hg => rfl); (case hn => rfl); (case hr => first | (go_simp; done) | (go_simp; rfl)); intro w19 hw; have n0_ : Aside0 (Kd.R Kd.string 9 w19 w.heap.size (fun _ => True) v110 x3_1) := ⟨(by rw [hw]; exact (by (with_reducible repeat (first | apply kra | apply krn | apply krd)); exact Kd.R_mono (kfa (p := ⟨gb113, 1, none⟩) (kfa (p := ⟨gb113, 0, none⟩) (Kd.R_types HO_3.out BK113.out (by decide)) (fun _ hk => hk.2) (.int .i64 ((rd_T55 l0_1 x12_1).f0))) (fun _ hk => hk.2) (.string ((rd_T55 l0_1 x12_1).f1))) (fun _ hk => trivial)))⟩; have n1_ : Aside0 (w19.heap[gb107]? = some (.cells #[.slice A0_0 l0_0.length c0_0, .slice (some ad112) l0_1.length c0_1] 30 (0, 0))) := ⟨(by rw [hw]; exact (by (with_reducible repeat (first | apply kdn | apply kdr | apply kal)); refine blk_far ?_ NB107_113.out _; (with_reducible repeat (first | apply kdn | apply kdr | apply kal)); refine blk_far ?_ NB107_113.out _; (with_reducible repeat (first | apply kdn | apply kdr | apply kal)); exact BK107.out))⟩; have n2_ : Aside0 (w19.heap[gb108]? = some (.cells #[.slice none 0 0, .slice none 0 0] 30 (0, 0))) := ⟨(by rw [hw]; exact (by (with_reducible repeat (first | apply kdn | apply kdr | apply kal)); refine blk_far ?_ NB108_113.out _; (with_reducible repeat (first | apply kdn | apply kdr | apply kal)); refine blk_far ?_ NB108_113.out _; (with_reducible repeat (first | apply kdn | apply kdr | apply kal)); exact BK108.out))⟩; have n3_ : Aside0 (w19.heap[gb113]? = some (.cells #[.int .i64 ((rd_T55 l0_1 x12_1).f0), .string ((rd_T55 l0_1 x12_1).f1)] 55 (0, 0))) := ⟨(by rw [hw]; exact (by (with_reducible repeat (first | apply kdn | apply kdr | apply kal)); refine blk_put (cs := #[.int .i64 ((rd_T55 l0_1 x12_1).f0), .string (⟨#[]⟩ : ByteArray)]) ?_ 1 _ rfl; (with_reducible repeat (first | apply kdn | apply kdr | apply kal)); refine blk_put (cs := #[.int .i64 0, .string (⟨#[]⟩ : ByteArray)]) ?_ 0 _ rfl; (with_reducible repeat (first | apply kdn | apply kdr | apply kal)); exact BK113.out))⟩; have n4_ : Aside0 (Below w.heap.size w w19) := ⟨(by rw [hw]; exact (by repeat (first | (with_reducible first | exact HB.out | apply bal | apply pdn | apply bd1 | refine bst ?_ GE107.out | refine bst ?_ GE108.out | refine bst ?_ GE113.out) | exact HB.out)))⟩; clear hw; clear HO_3; clear BK107; clear BK108; clear BK113; clear HB; have HO_3 := n0_; have BK107 := n1_; have BK108 := n2_; have BK113 := n3_; have HB := n4_; clear n0_ n1_ n2_ n3_ n4_; have hcz20_0 : w19.cell? ⟨gb113, 0, none⟩ = some (.int .i64 ((rd_T55 l0_1 x12_1).f0)) := (kce BK113.out 0).trans rfl; have hcz20_1 : w19.cell? ⟨gb113, 1, none⟩ = some (.string ((rd_T55 l0_1 x12_1).f1)) := (kce BK113.out 1).trans rfl; have hfz20_0 := kfr BK113.out 0; have hfz20_1 := kfr BK113.out 1; have p14 : 0 ≤ (((rd_T55 l0_1 x12_1).f0) : Int) := of_decide_eq_true (by first | (with_reducible assumption) | assumption); have q14 : (((rd_T55 l0_1 x12_1).f0) : Int) < ((x3_1.length : Int) : Int) := of_decide_eq_true (by first | (with_reducible assumption) | assumption); obtain ⟨go14, co14, eo14, gb14, gl14, cl14, HG14⟩ := Kd.R_form HO_3.out (by omega); (first | cases eo14 | (injection eo14 with ea_ en_ ec_; (first | subst ea_ | (injection ea_ with ea_; subst ea_)); subst ec_; clear en_)); have GB14 := am gb14; have GG14 := am HG14; clear gb14 gl14 HG14; obtain ⟨hx14_0, hf14_0⟩ := Kd.R_celln (⟨#[]⟩ : ByteArray) HO_3.out (((rd_T55 l0_1 x12_1).f0) : Int) p14 q14; replace p14 := eq_true p14; replace q14 := eq_true q14; obtain ⟨hy21_, hz21_⟩ := Kd.R_celln (⟨#[]⟩ : ByteArray) HO_3.out (((rd_T55 l0_1 x12_1).f0) : Int) (of_decide_eq_true (by first | (with_reducible assumption) | assumption)) (of_decide_eq_true (by first | (with_reducible assumption) | assumption)); have HP21 := Kd.R_putg HO_3.out (((rd_T55 l0_1 x12_1).f0) : Int) ((rd_T55 l0_1 x12_1).f1)) | ((with_reducible refine gate_store (t := 9) (p := 21) rfl ?_); refine store_event (t := 9) (p := 21) (v := ?vo_w22) (w1 := (w19.setCell ⟨go14, (((rd_T55 l0_1 x12_1).f0) : Int).toNat, none⟩ (.string ((rd_T55 l0_1 x12_1).f1)))) ?hg ?ho ?hn ?hr ?_; (case ho => rfl); (case hg => rfl); (case hn => rfl); (case hr => first | (go_simp; done) | (go_simp; rfl)); intro w22 hw; have hg : w19.grownBy w22 (some go14) := (by rw [hw]; exact HP21.2); have hp_ : Kd.R Kd.string 9 w22 w.heap.size (fun _ => True) (.slice (some ⟨go14, 0, none⟩) x3_1.length co14) y114 := (by rw [hw, Ny114.out]; exact HP21.1); clear HP21; have n0_ := am (hp_); have n1_ := am (blk_grown (g := gb107) (o := .cells #[.slice A0_0 l0_0.length c0_0, .slice (some ad112) l0_1.length c0_1] 30 (0, 0)) (by (with_reducible repeat (first | apply kdn | apply kdr | apply kal)); exact BK107.out) hg (Kd.R_ne HO_3.out BK107.out (by decide))); have n2_ := am (blk_grown (g := gb108) (o := .cells #[.slice none 0 0, .slice none 0 0] 30 (0, 0)) (by (with_reducible repeat (first | apply kdn | apply kdr | apply kal)); exact BK108.out) hg (Kd.R_ne HO_3.out BK108.out (by decide))); have n3_ := am (blk_grown (g := gb113) (o := .cells #[.int .i64 ((rd_T55 l0_1 x12_1).f0), .string ((rd_T55 l0_1 x12_1).f1)] 55 (0, 0)) (by (with_reducible repeat (first | apply kdn | apply kdr | apply kal)); exact BK113.out) hg (Kd.R_ne HO_3.out BK113.out (by decide))); have n4_ := am ((by rw [hw]; exact bst (HB.out) GB14.out : Below w.heap.size w w22)); clear HO_3; clear BK107; clear BK108; clear BK113; clear HB; have HO_3 := n0_; have BK107 := n1_; have BK108 := n2_; have BK113 := n3_; have HB := n4_; clear n0_ n1_ n2_ n3_ n4_; clear hg hw hp_))
        go_roundg k1
        case measure => have := HK1.out; omega
        case rel => exact ⟨(y114), (wrap64 (x12_1 + 1)), (by first | rfl | (simp; done) | (simp [*]; done)), H', ⟨by have := HK1.out; omega⟩, ⟨by (with_reducible repeat (first | apply kra | apply krn | apply krd)); exact HO_3.out⟩, ⟨by (with_reducible repeat (first | apply kdn | apply kdr | apply kal)); exact BK107.out⟩, ⟨by (with_reducible repeat (first | apply kdn | apply kdr | apply kal)); exact BK108.out⟩, ⟨by repeat (first | (with_reducible first | exact HB.out | apply bal | apply pdn | apply bd1 | refine bst ?_ GE107.out | refine bst ?_ GE108.out | refine bst ?_ GE113.out) | exact HB.out)⟩⟩
       ·rw [if_neg c13] at H
        exact absurd H (by simp)
      ·rw [if_neg c12] at H
       exact absurd H (by simp)
     ·rw [if_neg c11] at H
      exact absurd H (by simp)
    ·rw [if_neg c10] at H
     exact absurd H (by simp)
   ·rw [if_neg c9] at H
    have c9b0 : decide (x12_1 < (l0_1.length : Int)) = false := decide_eq_false c9
    clear c9
    simp only [Option.some.injEq, Prod.mk.injEq] at H
    obtain ⟨rfl, rfl⟩ := H
    obtain ⟨Ao23, co23, eo23⟩ := Kd.R_slice HO_3.out
    subst eo23
    have hnb24 := NB108_107.out
    have hnc24 := NB107_108.out
    have hcz25_0 : wr.cell? ⟨gb108, 0, none⟩ = some (.slice none 0 0) := (kce BK108.out 0).trans rfl
    have hcz25_1 : wr.cell? ⟨gb108, 1, none⟩ = some (.slice none 0 0) := (kce BK108.out 1).trans rfl
    have hfz25_0 := kfr BK108.out 0
    have hfz25_1 := kfr BK108.out 1
    go_wp2
    refine bodyPost_ret (results_cell_row rfl _ _ gb108 30 #[.slice Ao23 x3_1.length co23, .slice none 0 0] (0, 0) _ rfl (by (with_reducible repeat (first | apply kdn | apply kdr | apply kal)); refine blk_put (cs := #[.slice Ao23 x3_1.length co23, .slice none 0 0]) ?_ 1 _ rfl; (with_reducible repeat (first | apply kdn | apply kdr | apply kal)); refine blk_put (cs := #[.slice none 0 0, .slice none 0 0]) ?_ 0 _ rfl; (with_reducible repeat (first | apply kdn | apply kdr | apply kal)); exact BK108.out) Try.underlying30 rfl (by kernel_rfl)) rfl ?_
    exact ⟨_, _, by first | rfl | (simp [errW_none, errW_some] <;> rfl) | (simp [*, errW_none, errW_some] <;> rfl), by (with_reducible repeat (first | apply kra | apply krn | apply krd)); exact Kd.R_mono (kfa (p := ⟨gb108, 1, none⟩) (kfa (p := ⟨gb108, 0, none⟩) (Kd.R_types HO_3.out BK108.out (by decide)) (fun _ hk => hk.2) (.slice Ao23 x3_1.length co23)) (fun _ hk => hk.2) (.slice none 0 0)) (fun _ hk => trivial), by first | exact Kd.R_nil _ _ _ _ _ | exact Kd.N_nil _ _ _ _ _ | exact Kd.V_nil _ _ _ _ _ | exact Kd.Q_nil _ _ _ _ _ | exact Kd.S_nil _ _ _ _ _, by repeat (first | (with_reducible first | exact HB.out | apply bal | apply pdn | apply bd1 | refine bst ?_ GE107.out | refine bst ?_ GE108.out) | exact HB.out)⟩

/-! ### impl_FlushDisk: function 23 -/
def impl_FlushDisk.f (k : Nat) (l0_0 : List ByteArray) (l0_1 : List (S55)) : Option (List ByteArray × (List (S55))) := (impl_DiskOk.f l0_0 l0_1).bind fun t117 => (if t117 = true then ((impl_Disk_flushed.f k l0_0 l0_1).bind fun bt118 => (some (bt118.1, bt118.2))) else (some (([] : List ByteArray), ([] : List (S55)))))
theorem impl_FlushDisk.mono : ∀ a0 a1 k, LeO (impl_FlushDisk.f k a0 a1) (impl_FlushDisk.f (k + 1) a0 a1) := by
 intro a0 a1 k
 unfold impl_FlushDisk.f
 repeat' first
   | (with_reducible exact impl_Disk_flushed.mono _ _ _)
   | (with_reducible exact LeO.refl _)
   | (with_reducible exact LeO.none _)
   | (with_reducible refine LeO.ite ?_ ?_)
   | (with_reducible refine LeO.bind ?_ (fun _ => ?_))
   | exact impl_Disk_flushed.mono _ _ _
   | exact LeO.none _
   | refine LeO.ite ?_ ?_
   | refine LeO.bind ?_ (fun _ => ?_)
set_option maxHeartbeats 8000000 in
set_option maxRecDepth 100000 in
theorem impl_FlushDisk.calls (k : Nat) (A0_0 : Option Addr) (c0_0 : Nat) (l0_0 : List ByteArray) (A0_1 : Option Addr) (c0_1 : Nat) (l0_1 : List (S55)) (r1 : List ByteArray) (r2 : List (S55)) (w : World) (hr0_0 : Kd.C Kd.string w A0_0 l0_0.length l0_0) (hc0_0 : l0_0.length ≤ c0_0) (hr0_1 : Kd.C k55 w A0_1 l0_1.length l0_1) (hc0_1 : l0_1.length ≤ c0_1) (h : impl_FlushDisk.f k l0_0 l0_1 = some (r1, r2)) :
  Calls Try.prog 23 #[.agg #[.slice A0_0 l0_0.length c0_0, .slice A0_1 l0_1.length c0_1]] w fun e w' => ∃ v0_ v1_ : Value, e = .returned (.agg #[v0_, v1_]) ∧ Kd.R Kd.string 9 w' w.heap.size (fun _ => True) v0_ r1 ∧ Kd.R k55 55 w' w.heap.size (fun _ => True) v1_ r2 ∧ Below w.heap.size w w' := by
 have hu30 := Try.underlying30
 have HR0_0 := am hr0_0
 have HC0_0 := am hc0_0
 clear hr0_0 hc0_0
 have HR0_1 := am hr0_1
 have HC0_1 := am hc0_1
 clear hr0_1 hc0_1
 have HB := am (Below.refl w.heap.size w)
 have H : ((impl_DiskOk.f l0_0 l0_1).bind fun t117 => (if t117 = true then ((impl_Disk_flushed.f k l0_0 l0_1).bind fun bt118 => (some (bt118.1, bt118.2))) else (some (([] : List ByteArray), ([] : List (S55)))))) = some (r1, r2) := h
 clear h
 replace H := Option.bind_eq_some_iff.mp H
 obtain ⟨t117, A20, H⟩ := H
 replace H : (if t117 = true then ((impl_Disk_flushed.f k l0_0 l0_1).bind fun bt118 => (some (bt118.1, bt118.2))) else (some (([] : List ByteArray), ([] : List (S55))))) = some (r1, r2) := H
 have A2 := am A20
 clear A20
 by_cases c3 : t117 = true
 ·subst c3
  have H1 : ((impl_Disk_flushed.f k l0_0 l0_1).bind fun bt118 => (some (bt118.1, bt118.2))) = some (r1, r2) := by rw [if_pos rfl] at H; exact H
  clear H
  have H := H1
  clear H1
  replace H := Option.bind_eq_some_iff.mp H
  obtain ⟨⟨t118, t121⟩, A40, H⟩ := H
  replace H : (some (t118, t121)) = some (r1, r2) := H
  have A4 := am A40
  clear A40
  simp only [Option.some.injEq, Prod.mk.injEq] at H
  obtain ⟨rfl, rfl⟩ := H
  go_enter Try.func23, Try.ntmps23
  go_wp2_with (first | ((with_reducible refine gate_dst (N := 1) rfl ?_); refine box_event ?hg (N := 1) ?hd (cs := #[.slice A0_0 l0_0.length c0_0, .slice A0_1 l0_1.length c0_1]) (t := 30) ?hr ?_; (case hd => rfl); (case hg => rfl); (case hr => first | (go_simp; done) | (go_simp; rfl)); intro gb115 hg w5 hbox hb; have n0_ := am (below_step (by repeat (first | (with_reducible first | exact HB.out | apply bal | apply pdn | apply bd1) | exact HB.out)) hb); have n1_ := am (hbox); have n2_ := am ((by rw [hg]; exact (below_size (by repeat (first | (with_reducible first | exact HB.out | apply bal | apply pdn | apply bd1) | exact HB.out))) : w.heap.size ≤ gb115)); have n3_ := am ((by rw [hg]; exact (below_size (by repeat (first | (with_reducible first | exact HB.out | apply bal | apply pdn | apply bd1) | exact HB.out))) : w.heap.size ≤ gb115)); clear HB; have HB := n0_; have BK115 := n1_; have GW115 := n2_; have GE115 := n3_; clear n0_ n1_ n2_ n3_; clear hb hbox hg) | ((with_reducible refine gate_dst (N := 2) rfl ?_); refine box_event ?hg (N := 2) ?hd (cs := #[.slice none 0 0, .slice none 0 0]) (t := 30) ?hr ?_; (case hd => rfl); (case hg => rfl); (case hr => first | (go_simp; done) | (go_simp; rfl)); intro gb116 hg w6 hbox hb; have n0_ := am (kbb (g := gb115) (o := .cells #[.slice A0_0 l0_0.length c0_0, .slice A0_1 l0_1.length c0_1] 30 (0, 0)) (by (with_reducible repeat (first | apply kdn | apply kdr | apply kal)); exact BK115.out) hb); have n1_ := am (below_step (by repeat (first | (with_reducible first | exact HB.out | apply bal | apply pdn | apply bd1 | refine bst ?_ GE115.out) | exact HB.out)) hb); have n2_ := am (hbox); have n3_ := am ((by rw [hg]; exact (below_size (by repeat (first | (with_reducible first | exact HB.out | apply bal | apply pdn | apply bd1 | refine bst ?_ GE115.out) | exact HB.out))) : w.heap.size ≤ gb116)); have n4_ := am ((by rw [hg]; exact (below_size (by repeat (first | (with_reducible first | exact HB.out | apply bal | apply pdn | apply bd1 | refine bst ?_ GE115.out) | exact HB.out))) : w.heap.size ≤ gb116)); have n5_ := am ((by rw [hg]; exact Nat.ne_of_lt (blk_lt (g := gb115) (o := .cells #[.slice A0_0 l0_0.length c0_0, .slice A0_1 l0_1.length c0_1] 30 (0, 0)) (by (with_reducible repeat (first | apply kdn | apply kdr | apply kal)); exact BK115.out)) : gb115 ≠ gb116)); have n6_ := am ((by rw [hg]; exact Nat.ne_of_gt (blk_lt (g := gb115) (o := .cells #[.slice A0_0 l0_0.length c0_0, .slice A0_1 l0_1.length c0_1] 30 (0, 0)) (by (with_reducible repeat (first | apply kdn | apply kdr | apply kal)); exact BK115.out)) : gb116 ≠ gb115)); clear BK115; clear HB; have BK115 := n0_; have HB := n1_; have BK116 := n2_; have GW116 := n3_; have GE116 := n4_; have NB115_116 := n5_; have NB116_115 := n6_; clear n0_ n1_ n2_ n3_ n4_ n5_ n6_; clear hb hbox hg; have hnb7 := NB115_116.out; have hnc7 := NB116_115.out; have hcz8_0 : w6.cell? ⟨gb115, 0, none⟩ = some (.slice A0_0 l0_0.length c0_0) := (kce BK115.out 0).trans rfl; have hcz8_1 : w6.cell? ⟨gb115, 1, none⟩ = some (.slice A0_1 l0_1.length c0_1) := (kce BK115.out 1).trans rfl; have hfz8_0 := kfr BK115.out 0; have hfz8_1 := kfr BK115.out 1) | ((with_reducible refine gate_callee (f := 18) rfl ?_); refine goesL_ (some 4) rfl rfl Try.func18 (by kernel_rfl) rfl #[.agg #[.slice A0_0 l0_0.length c0_0, .slice A0_1 l0_1.length c0_1]] rfl (by (try simp only [mta, mco, mni]); first | done | rfl | (simp only [lnd, lnt]; rfl)) ?_; (with_reducible refine (impl_DiskOk.calls _ _ l0_0 _ _ l0_1 true _ ?side1 ?side2 ?side3 ?side4 A2.out).mono ?_); (case side1 => repeat (first | exact (Kd.C_below HR0_0.out HB.out) | (with_reducible first | apply kca | apply kcn | apply kcd))); (case side2 => exact HC0_0.out); (case side3 => repeat (first | exact (Kd.C_below HR0_1.out HB.out) | (with_reducible first | apply kca | apply kcn | apply kcd))); (case side4 => exact HC0_1.out); rintro e w9 ⟨rfl, hb⟩; refine ⟨_, rfl, ?_⟩; have n0_ := am (kbb (g := gb115) (o := .cells #[.slice A0_0 l0_0.length c0_0, .slice A0_1 l0_1.length c0_1] 30 (0, 0)) (by (with_reducible repeat (first | apply kdn | apply kdr | apply kal)); exact BK115.out) hb); have n1_ := am (kbb (g := gb116) (o := .cells #[.slice none 0 0, .slice none 0 0] 30 (0, 0)) (by (with_reducible repeat (first | apply kdn | apply kdr | apply kal)); exact BK116.out) hb); have n2_ := am (below_step (by repeat (first | (with_reducible first | exact HB.out | apply bal | apply pdn | apply bd1 | refine bst ?_ GE115.out | refine bst ?_ GE116.out) | exact HB.out)) hb); clear BK115; clear BK116; clear HB; have BK115 := n0_; have BK116 := n1_; have HB := n2_; clear n0_ n1_ n2_; (try clear hb); (try clear hb2); (try clear hk); (try clear hi); have hcz10_0 : w9.cell? ⟨gb115, 0, none⟩ = some (.slice A0_0 l0_0.length c0_0) := (kce BK115.out 0).trans rfl; have hcz10_1 : w9.cell? ⟨gb115, 1, none⟩ = some (.slice A0_1 l0_1.length c0_1) := (kce BK115.out 1).trans rfl; have hfz10_0 := kfr BK115.out 0; have hfz10_1 := kfr BK115.out 1) | ((with_reducible refine gate_callee (f := 70) rfl ?_); refine goesL_ (some 8) rfl rfl Try.func70 (by kernel_rfl) rfl #[.agg #[.slice A0_0 l0_0.length c0_0, .slice A0_1 l0_1.length c0_1]] rfl (by (try simp only [mta, mco, mni]); first | done | rfl | (simp only [lnd, lnt]; rfl)) ?_; (with_reducible refine (impl_Disk_flushed.calls k _ _ l0_0 _ _ l0_1 t118 t121 _ ?side1 ?side2 ?side3 ?side4 A4.out).mono ?_); (case side1 => repeat (first | exact (Kd.C_below HR0_0.out HB.out) | (with_reducible first | apply kca | apply kcn | apply kcd))); (case side2 => exact HC0_0.out); (case side3 => repeat (first | exact (Kd.C_below HR0_1.out HB.out) | (with_reducible first | apply kca | apply kcn | apply kcd))); (case side4 => exact HC0_1.out); rintro e w11 ⟨v119, v122, rfl, ho0, ho1, hb⟩; refine ⟨_, rfl, ?_⟩; have n0_ := am (Kd.R_lower ho0 (below_size (by repeat (first | (with_reducible first | exact HB.out | apply bal | apply pdn | apply bd1 | refine bst ?_ GE115.out | refine bst ?_ GE116.out) | exact HB.out)))); have n1_ := am (Kd.R_lower ho1 (below_size (by repeat (first | (with_reducible first | exact HB.out | apply bal | apply pdn | apply bd1 | refine bst ?_ GE115.out | refine bst ?_ GE116.out) | exact HB.out)))); have n2_ := am (kbb (g := gb115) (o := .cells #[.slice A0_0 l0_0.length c0_0, .slice A0_1 l0_1.length c0_1] 30 (0, 0)) (by (with_reducible repeat (first | apply kdn | apply kdr | apply kal)); exact BK115.out) hb); have n3_ := am (kbb (g := gb116) (o := .cells #[.slice none 0 0, .slice none 0 0] 30 (0, 0)) (by (with_reducible repeat (first | apply kdn | apply kdr | apply kal)); exact BK116.out) hb); have n4_ := am (below_step (by repeat (first | (with_reducible first | exact HB.out | apply bal | apply pdn | apply bd1 | refine bst ?_ GE115.out | refine bst ?_ GE116.out) | exact HB.out)) hb); clear BK115; clear BK116; clear HB; have HO120 := n0_; have HO123 := n1_; have BK115 := n2_; have BK116 := n3_; have HB := n4_; clear n0_ n1_ n2_ n3_ n4_; (try clear hb); (try clear hb2); (try clear hk); (try clear hi); (try clear ho0); (try clear ho1); obtain ⟨Ao12, co12, eo12⟩ := Kd.R_slice HO120.out; subst eo12; have hcz13_0 : w11.cell? ⟨gb116, 0, none⟩ = some (.slice none 0 0) := (kce BK116.out 0).trans rfl; have hcz13_1 : w11.cell? ⟨gb116, 1, none⟩ = some (.slice none 0 0) := (kce BK116.out 1).trans rfl; have hfz13_0 := kfr BK116.out 0; have hfz13_1 := kfr BK116.out 1; obtain ⟨Ao14, co14, eo14⟩ := Kd.R_slice HO123.out; subst eo14))
  refine bodyPost_ret (results_cell_row rfl _ _ gb116 30 #[.slice Ao12 t118.length co12, .slice Ao14 t121.length co14] (0, 0) _ rfl (by (with_reducible repeat (first | apply kdn | apply kdr | apply kal)); refine blk_put (cs := #[.slice Ao12 t118.length co12, .slice none 0 0]) ?_ 1 _ rfl; (with_reducible repeat (first | apply kdn | apply kdr | apply kal)); refine blk_put (cs := #[.slice none 0 0, .slice none 0 0]) ?_ 0 _ rfl; (with_reducible repeat (first | apply kdn | apply kdr | apply kal)); exact BK116.out) Try.underlying30 rfl (by kernel_rfl)) rfl ?_
  exact ⟨_, _, by first | rfl | (simp [errW_none, errW_some] <;> rfl) | (simp [*, errW_none, errW_some] <;> rfl), by (with_reducible repeat (first | apply kra | apply krn | apply krd)); exact Kd.R_mono (kfa (p := ⟨gb116, 1, none⟩) (kfa (p := ⟨gb116, 0, none⟩) (Kd.R_types HO120.out BK116.out (by decide)) (fun _ hk => hk.2) (.slice Ao12 t118.length co12)) (fun _ hk => hk.2) (.slice Ao14 t121.length co14)) (fun _ hk => trivial), by (with_reducible repeat (first | apply kra | apply krn | apply krd)); exact Kd.R_mono (kfa (p := ⟨gb116, 1, none⟩) (kfa (p := ⟨gb116, 0, none⟩) (Kd.R_types HO123.out BK116.out (by decide)) (fun _ hk => hk.2) (.slice Ao12 t118.length co12)) (fun _ hk => hk.2) (.slice Ao14 t121.length co14)) (fun _ hk => trivial), by repeat (first | (with_reducible first | exact HB.out | apply bal | apply pdn | apply bd1 | refine bst ?_ GE115.out | refine bst ?_ GE116.out) | exact HB.out)⟩
 ·replace c3 := Bool.eq_false_iff.mpr c3
  subst c3
  have H1 : (some (([] : List ByteArray), ([] : List (S55)))) = some (r1, r2) := by rw [if_neg (show ¬ (false = true) by decide)] at H; exact H
  clear H
  have H := H1
  clear H1
  simp only [Option.some.injEq, Prod.mk.injEq] at H
  obtain ⟨rfl, rfl⟩ := H
  go_enter Try.func23, Try.ntmps23
  go_wp2_with (first | ((with_reducible refine gate_dst (N := 1) rfl ?_); refine box_event ?hg (N := 1) ?hd (cs := #[.slice A0_0 l0_0.length c0_0, .slice A0_1 l0_1.length c0_1]) (t := 30) ?hr ?_; (case hd => rfl); (case hg => rfl); (case hr => first | (go_simp; done) | (go_simp; rfl)); intro gb115 hg w15 hbox hb; have n0_ := am (below_step (by repeat (first | (with_reducible first | exact HB.out | apply bal | apply pdn | apply bd1) | exact HB.out)) hb); have n1_ := am (hbox); have n2_ := am ((by rw [hg]; exact (below_size (by repeat (first | (with_reducible first | exact HB.out | apply bal | apply pdn | apply bd1) | exact HB.out))) : w.heap.size ≤ gb115)); have n3_ := am ((by rw [hg]; exact (below_size (by repeat (first | (with_reducible first | exact HB.out | apply bal | apply pdn | apply bd1) | exact HB.out))) : w.heap.size ≤ gb115)); clear HB; have HB := n0_; have BK115 := n1_; have GW115 := n2_; have GE115 := n3_; clear n0_ n1_ n2_ n3_; clear hb hbox hg) | ((with_reducible refine gate_dst (N := 2) rfl ?_); refine box_event ?hg (N := 2) ?hd (cs := #[.slice none 0 0, .slice none 0 0]) (t := 30) ?hr ?_; (case hd => rfl); (case hg => rfl); (case hr => first | (go_simp; done) | (go_simp; rfl)); intro gb116 hg w16 hbox hb; have n0_ := am (kbb (g := gb115) (o := .cells #[.slice A0_0 l0_0.length c0_0, .slice A0_1 l0_1.length c0_1] 30 (0, 0)) (by (with_reducible repeat (first | apply kdn | apply kdr | apply kal)); exact BK115.out) hb); have n1_ := am (below_step (by repeat (first | (with_reducible first | exact HB.out | apply bal | apply pdn | apply bd1 | refine bst ?_ GE115.out) | exact HB.out)) hb); have n2_ := am (hbox); have n3_ := am ((by rw [hg]; exact (below_size (by repeat (first | (with_reducible first | exact HB.out | apply bal | apply pdn | apply bd1 | refine bst ?_ GE115.out) | exact HB.out))) : w.heap.size ≤ gb116)); have n4_ := am ((by rw [hg]; exact (below_size (by repeat (first | (with_reducible first | exact HB.out | apply bal | apply pdn | apply bd1 | refine bst ?_ GE115.out) | exact HB.out))) : w.heap.size ≤ gb116)); have n5_ := am ((by rw [hg]; exact Nat.ne_of_lt (blk_lt (g := gb115) (o := .cells #[.slice A0_0 l0_0.length c0_0, .slice A0_1 l0_1.length c0_1] 30 (0, 0)) (by (with_reducible repeat (first | apply kdn | apply kdr | apply kal)); exact BK115.out)) : gb115 ≠ gb116)); have n6_ := am ((by rw [hg]; exact Nat.ne_of_gt (blk_lt (g := gb115) (o := .cells #[.slice A0_0 l0_0.length c0_0, .slice A0_1 l0_1.length c0_1] 30 (0, 0)) (by (with_reducible repeat (first | apply kdn | apply kdr | apply kal)); exact BK115.out)) : gb116 ≠ gb115)); clear BK115; clear HB; have BK115 := n0_; have HB := n1_; have BK116 := n2_; have GW116 := n3_; have GE116 := n4_; have NB115_116 := n5_; have NB116_115 := n6_; clear n0_ n1_ n2_ n3_ n4_ n5_ n6_; clear hb hbox hg; have hnb17 := NB115_116.out; have hnc17 := NB116_115.out; have hcz18_0 : w16.cell? ⟨gb115, 0, none⟩ = some (.slice A0_0 l0_0.length c0_0) := (kce BK115.out 0).trans rfl; have hcz18_1 : w16.cell? ⟨gb115, 1, none⟩ = some (.slice A0_1 l0_1.length c0_1) := (kce BK115.out 1).trans rfl; have hfz18_0 := kfr BK115.out 0; have hfz18_1 := kfr BK115.out 1) | ((with_reducible refine gate_callee (f := 18) rfl ?_); refine goesL_ (some 4) rfl rfl Try.func18 (by kernel_rfl) rfl #[.agg #[.slice A0_0 l0_0.length c0_0, .slice A0_1 l0_1.length c0_1]] rfl (by (try simp only [mta, mco, mni]); first | done | rfl | (simp only [lnd, lnt]; rfl)) ?_; (with_reducible refine (impl_DiskOk.calls _ _ l0_0 _ _ l0_1 false _ ?side1 ?side2 ?side3 ?side4 A2.out).mono ?_); (case side1 => repeat (first | exact (Kd.C_below HR0_0.out HB.out) | (with_reducible first | apply kca | apply kcn | apply kcd))); (case side2 => exact HC0_0.out); (case side3 => repeat (first | exact (Kd.C_below HR0_1.out HB.out) | (with_reducible first | apply kca | apply kcn | apply kcd))); (case side4 => exact HC0_1.out); rintro e w19 ⟨rfl, hb⟩; refine ⟨_, rfl, ?_⟩; have n0_ := am (kbb (g := gb115) (o := .cells #[.slice A0_0 l0_0.length c0_0, .slice A0_1 l0_1.length c0_1] 30 (0, 0)) (by (with_reducible repeat (first | apply kdn | apply kdr | apply kal)); exact BK115.out) hb); have n1_ := am (kbb (g := gb116) (o := .cells #[.slice none 0 0, .slice none 0 0] 30 (0, 0)) (by (with_reducible repeat (first | apply kdn | apply kdr | apply kal)); exact BK116.out) hb); have n2_ := am (below_step (by repeat (first | (with_reducible first | exact HB.out | apply bal | apply pdn | apply bd1 | refine bst ?_ GE115.out | refine bst ?_ GE116.out) | exact HB.out)) hb); clear BK115; clear BK116; clear HB; have BK115 := n0_; have BK116 := n1_; have HB := n2_; clear n0_ n1_ n2_; (try clear hb); (try clear hb2); (try clear hk); (try clear hi); have hcz20_0 : w19.cell? ⟨gb116, 0, none⟩ = some (.slice none 0 0) := (kce BK116.out 0).trans rfl; have hcz20_1 : w19.cell? ⟨gb116, 1, none⟩ = some (.slice none 0 0) := (kce BK116.out 1).trans rfl; have hfz20_0 := kfr BK116.out 0; have hfz20_1 := kfr BK116.out 1))
  refine bodyPost_ret (results_cell_row rfl _ _ gb116 30 #[.slice none 0 0, .slice none 0 0] (0, 0) _ rfl (by (with_reducible repeat (first | apply kdn | apply kdr | apply kal)); refine blk_put (cs := #[.slice none 0 0, .slice none 0 0]) ?_ 1 _ rfl; (with_reducible repeat (first | apply kdn | apply kdr | apply kal)); refine blk_put (cs := #[.slice none 0 0, .slice none 0 0]) ?_ 0 _ rfl; (with_reducible repeat (first | apply kdn | apply kdr | apply kal)); exact BK116.out) Try.underlying30 rfl (by kernel_rfl)) rfl ?_
  exact ⟨_, _, by first | rfl | (simp [errW_none, errW_some] <;> rfl) | (simp [*, errW_none, errW_some] <;> rfl), by first | exact Kd.R_nil _ _ _ _ _ | exact Kd.N_nil _ _ _ _ _ | exact Kd.V_nil _ _ _ _ _ | exact Kd.Q_nil _ _ _ _ _ | exact Kd.S_nil _ _ _ _ _, by first | exact Kd.R_nil _ _ _ _ _ | exact Kd.N_nil _ _ _ _ _ | exact Kd.V_nil _ _ _ _ _ | exact Kd.Q_nil _ _ _ _ _ | exact Kd.S_nil _ _ _ _ _, by repeat (first | (with_reducible first | exact HB.out | apply bal | apply pdn | apply bd1 | refine bst ?_ GE115.out | refine bst ?_ GE116.out) | exact HB.out)⟩

/-! ### impl_increasing: function 111 -/
def impl_increasing.l0 : Nat → List Int → Int → Option (Bool)
 | 0, _, _ => none
 | k + 1, x0, x3 => if x3 < (x0.length : Int) then (if 0 ≤ x3 then (if 0 ≤ (wrap64 (x3 - 1)) then (if (wrap64 (x3 - 1)) < (x0.length : Int) then (if (rd x0 x3) ≤ (rd x0 (wrap64 (x3 - 1))) then (some false) else (impl_increasing.l0 k x0 (wrap64 (x3 + 1)))) else (none)) else (none)) else (none)) else (some true)
def impl_increasing.f (k : Nat) (l0 : List Int) : Option (Bool) := impl_increasing.l0 k l0 1
theorem impl_increasing.mono_l : ∀ k, (∀ y0 y1, LeO (impl_increasing.l0 k y0 y1) (impl_increasing.l0 (k + 1) y0 y1))
 | 0 => fun _ _ r h => by simp [impl_increasing.l0] at h
 | k + 1 => by
  have ih0 := impl_increasing.mono_l k
  ·intro y0 y1
   unfold impl_increasing.l0
   repeat' first
   | (with_reducible exact ih0 _ _)
   | (with_reducible exact LeO.refl _)
   | (with_reducible exact LeO.none _)
   | (with_reducible refine LeO.ite ?_ ?_)
   | (with_reducible refine LeO.bind ?_ (fun _ => ?_))
   | exact ih0 _ _
   | exact LeO.none _
   | refine LeO.ite ?_ ?_
   | refine LeO.bind ?_ (fun _ => ?_)
theorem impl_increasing.mono : ∀ a0 k, LeO (impl_increasing.f k a0) (impl_increasing.f (k + 1) a0) := by
 intro a0 k
 have ih0 := impl_increasing.mono_l k
 unfold impl_increasing.f
 repeat' first
   | (with_reducible exact ih0 _ _)
   | (with_reducible exact LeO.refl _)
   | (with_reducible exact LeO.none _)
   | (with_reducible refine LeO.ite ?_ ?_)
   | (with_reducible refine LeO.bind ?_ (fun _ => ?_))
   | exact ih0 _ _
   | exact LeO.none _
   | refine LeO.ite ?_ ?_
   | refine LeO.bind ?_ (fun _ => ?_)
set_option maxHeartbeats 8000000 in
set_option maxRecDepth 100000 in
theorem impl_increasing.calls (k : Nat) (A0 : Option Addr) (c0 : Nat) (l0 : List Int) (r : Bool) (w : World) (hr0 : Kd.C (Kd.int .i64) w A0 l0.length l0) (hc0 : l0.length ≤ c0) (h : impl_increasing.f k l0 = some r) :
  Calls Try.prog 111 #[.slice A0 l0.length c0] w fun e w' => e = .returned (.bool r) ∧ Drawn0 w w' := by
 have HR0 := am hr0
 have HC0 := am hc0
 clear hr0 hc0
 have H : (impl_increasing.l0 k l0 1) = some r := h
 clear h
 have H' := am H
 clear H
 go_enter Try.func111, Try.ntmps111
 go_wp2
 repeat (go_quiet (fail); try go_wp2)
 go_loopg [3] k (fun kq v3 w' => ∃ (x3_1 : Int), v3 = .int .i64 x3_1 ∧ Aside0 (impl_increasing.l0 kq l0 x3_1 = some r) ∧ Aside0 (kq ≤ k) ∧ Drawn0 w w')
 case atStart => exact ⟨(1), (by first | rfl | (simp; done) | (simp [*]; done)), H', ⟨Nat.le_refl _⟩, by repeat (first | exact Drawn0.refl _ | apply Drawn0.step)⟩
 case round =>
  clear H'
  obtain ⟨x3_1, rfl, HA, HK1, ⟨m1, rfl⟩⟩ := hrel
  cases gk with
  | zero => exact absurd HA.out (by simp [impl_increasing.l0])
  | succ k1 =>
   have H := HA.out
   clear HA
   simp only [impl_increasing.l0] at H
   by_cases c2 : x3_1 < (l0.length : Int)
   ·rw [if_pos c2] at H
    have c2b0 : decide (x3_1 < (l0.length : Int)) = true := decide_eq_true c2
    clear c2
    by_cases c3 : 0 ≤ x3_1
    ·rw [if_pos c3] at H
     have c3b0 : decide (0 ≤ x3_1) = true := decide_eq_true c3
     clear c3
     obtain ⟨ji4, hji4⟩ : ∃ j_ : Int, (wrap64 (x3_1 - 1)) = j_ := ⟨_, rfl⟩
     replace H : (if 0 ≤ (ji4) then (if (ji4) < (l0.length : Int) then (if (rd l0 x3_1) ≤ (rd l0 (ji4)) then (some false) else (impl_increasing.l0 k1 l0 (wrap64 (x3_1 + 1)))) else (none)) else (none)) = some r := by first | (rw [hji4] at H; exact H) | (simp only [hji4] at H ⊢; exact H)
     have hji4w : (IntKind.i64.wrap (x3_1 - 1)) = ji4 := (i64_w _).trans hji4
     by_cases c5 : 0 ≤ (ji4)
     ·rw [if_pos c5] at H
      have c5b0 : decide (0 ≤ (ji4)) = true := decide_eq_true c5
      clear c5
      by_cases c6 : (ji4) < (l0.length : Int)
      ·rw [if_pos c6] at H
       have c6b0 : decide ((ji4) < (l0.length : Int)) = true := decide_eq_true c6
       clear c6
       by_cases c7 : (rd l0 x3_1) ≤ (rd l0 (ji4))
       ·rw [if_pos c7] at H
        have c7b0 : decide ((rd l0 x3_1) ≤ (rd l0 (ji4))) = true := decide_eq_true c7
        clear c7
        obtain rfl := Option.some.inj H
        have p124 : 0 ≤ (x3_1 : Int) := of_decide_eq_true (by first | (with_reducible assumption) | assumption)
        have q124 : x3_1 < (l0.length : Int) := of_decide_eq_true (by first | (with_reducible assumption) | assumption)
        obtain ⟨ad124, e124, hx124_0⟩ := Kd.at_int HR0.out x3_1 p124 q124
        cases e124
        replace p124 := eq_true p124
        replace q124 := eq_true q124
        have p125 : 0 ≤ ((ji4) : Int) := of_decide_eq_true (by first | (with_reducible assumption) | assumption)
        have q125 : (ji4) < (l0.length : Int) := of_decide_eq_true (by first | (with_reducible assumption) | assumption)
        obtain ⟨ad125, e125, hx125_0⟩ := Kd.at_int HR0.out (ji4) p125 q125
        obtain rfl : ad124 = ad125 := (by injection e125)
        replace p125 := eq_true p125
        replace q125 := eq_true q125
        go_wp2
        repeat (go_quiet (fail); try go_wp2)
        go_ret
        exact ⟨by first | rfl | (simp; done) | (simp only [← hji4] <;> (first | rfl | simp)) | (simp [*]; done), by repeat (first | exact Drawn0.refl _ | apply Drawn0.step)⟩
       ·rw [if_neg c7] at H
        have c7b0 : decide ((rd l0 x3_1) ≤ (rd l0 (ji4))) = false := decide_eq_false c7
        clear c7
        have H' := am H
        clear H
        have p124 : 0 ≤ (x3_1 : Int) := of_decide_eq_true (by first | (with_reducible assumption) | assumption)
        have q124 : x3_1 < (l0.length : Int) := of_decide_eq_true (by first | (with_reducible assumption) | assumption)
        obtain ⟨ad124, e124, hx124_0⟩ := Kd.at_int HR0.out x3_1 p124 q124
        cases e124
        replace p124 := eq_true p124
        replace q124 := eq_true q124
        have p125 : 0 ≤ ((ji4) : Int) := of_decide_eq_true (by first | (with_reducible assumption) | assumption)
        have q125 : (ji4) < (l0.length : Int) := of_decide_eq_true (by first | (with_reducible assumption) | assumption)
        obtain ⟨ad125, e125, hx125_0⟩ := Kd.at_int HR0.out (ji4) p125 q125
        obtain rfl : ad124 = ad125 := (by injection e125)
        replace p125 := eq_true p125
        replace q125 := eq_true q125
        go_wp2
        repeat (go_quiet (fail); try go_wp2)
        go_roundg k1
        case measure => have := HK1.out; omega
        case rel => exact ⟨(wrap64 (x3_1 + 1)), (by first | rfl | (simp; done) | (simp [*]; done)), H', ⟨by have := HK1.out; omega⟩, by repeat (first | exact Drawn0.refl _ | apply Drawn0.step)⟩
      ·rw [if_neg c6] at H
       exact absurd H (by simp)
     ·rw [if_neg c5] at H
      exact absurd H (by simp)
    ·rw [if_neg c3] at H
     exact absurd H (by simp)
   ·rw [if_neg c2] at H
    have c2b0 : decide (x3_1 < (l0.length : Int)) = false := decide_eq_false c2
    clear c2
    obtain rfl := Option.some.inj H
    go_wp2
    repeat (go_quiet (fail); try go_wp2)
    go_ret
    exact ⟨by first | rfl | (simp; done) | (simp [*]; done), by repeat (first | exact Drawn0.refl _ | apply Drawn0.step)⟩

/-! ### impl_allBetween: function 112 -/
set_option maxHeartbeats 2000000 in
/-- slices.IndexFunc over whole numbers, with the function 130 (captured: two bounds). -/
theorem impl_allBetween.index (b1 b2 : Addr) (p : Int → Bool) (A0 : Option Addr) (c0 : Nat) (l0 : List Int) (w : World) (hr0 : Kd.C (Kd.int .i64) w A0 l0.length l0)
  (hp : ∀ (W : World) (x : Int), Below w.heap.size w W → Calls Try.prog 130 #[.int .i64 x, .pointer (some b1), .pointer (some b2)] W fun e w' => e = .returned (.bool (p x)) ∧ Below w.heap.size w w') :
  Calls Try.prog 140 #[.slice A0 l0.length c0, .func (.func 130) #[] #[.pointer (some b1), .pointer (some b2)]] w fun e w' => e = .returned (.int .i64 (idxP p l0 0)) ∧ Below w.heap.size w w' := by
 have HR0 := am hr0
 have HP := am hp
 have hm : l0.length ≤ 9223372036854775807 := hr0.2.1
 clear hr0 hp
 go_enter Try.func140, Try.ntmps140
 go_wp2
 go_loopg [5, 8] l0.length (fun gg _ s8 wr => ∃ kk : Nat, kk ≤ l0.length ∧ l0.length - kk ≤ gg ∧ s8 = .int .i64 kk ∧ Aside0 (Below w.heap.size w wr) ∧ Aside0 (idxP p l0 0 = idxP p (l0.drop kk) kk))
 case atStart => exact ⟨0, Nat.zero_le _, by omega, rfl, ⟨Below.refl _ w⟩, ⟨rfl⟩⟩
 case round =>
  obtain ⟨kk, hkk, hg, rfl, BW, AI⟩ := hrel
  by_cases hlt : kk < l0.length
  ·have hltz : (kk : Int) < (l0.length : Int) := by omega
   obtain ⟨ad, e, hx⟩ := Kd.at_int HR0.out (kk : Int) (by omega) hltz
   cases e
   rw [Int.toNat_natCast] at hx
   replace hx := (BW.out.cell (blc w _ hx)).trans hx
   have hcall := HP.out wr (rd l0 (kk : Int)) BW.out
   have HD := am (idxP_drop p l0 kk hlt)
   have HE := am (rd_at0 hlt)
   generalize rd l0 (kk : Int) = y at hx hcall HE
   cases hq : p y with
   | true =>
    rw [hq] at hcall
    have HQ := am hq
    clear hq
    go_wp2_with (go_at_call 130; refine hcall.mono ?_; rintro e w' ⟨rfl, hb'⟩)
    go_ret
    refine ⟨?_, hb'⟩
    rw [AI.out, HD.out, ← HE.out, if_pos HQ.out]
    rfl
   | false =>
    rw [hq] at hcall
    have HQ := am hq
    clear hq
    go_wp2_with (go_at_call 130; refine hcall.mono ?_; rintro e w' ⟨rfl, hb'⟩)
    go_roundg (l0.length - (kk + 1))
    case measure => omega
    case rel => exact ⟨kk + 1, by omega, by omega, by go_num, ⟨hb'⟩, ⟨by rw [AI.out, HD.out, ← HE.out, HQ.out]; rfl⟩⟩
  ·have hltz : ¬ (kk : Int) < (l0.length : Int) := by omega
   go_wp2
   go_ret
   refine ⟨?_, BW.out⟩
   rw [AI.out, List.drop_of_length_le (by omega)]
   rfl
set_option maxHeartbeats 2000000 in
/-- slices.ContainsFunc over whole numbers, with the function 130. -/
theorem impl_allBetween.contains (b1 b2 : Addr) (p : Int → Bool) (A0 : Option Addr) (c0 : Nat) (l0 : List Int) (w : World) (hr0 : Kd.C (Kd.int .i64) w A0 l0.length l0)
  (hp : ∀ (W : World) (x : Int), Below w.heap.size w W → Calls Try.prog 130 #[.int .i64 x, .pointer (some b1), .pointer (some b2)] W fun e w' => e = .returned (.bool (p x)) ∧ Below w.heap.size w w') :
  Calls Try.prog 129 #[.slice A0 l0.length c0, .func (.func 130) #[] #[.pointer (some b1), .pointer (some b2)]] w fun e w' => e = .returned (.bool (l0.any p)) ∧ Below w.heap.size w w' := by
 have HI := impl_allBetween.index b1 b2 p A0 c0 l0 w hr0 hp
 have HQ := am (idxP_dec p l0)
 clear hr0 hp
 generalize idxP p l0 0 = q at HI HQ
 generalize l0.any p = b at HQ
 go_enter Try.func129, Try.ntmps129
 go_wp2_with (go_at_call 140; refine HI.mono ?_; rintro e w' ⟨rfl, hb⟩)
 go_ret
 exact ⟨by rw [← HQ.out]; rfl, hb⟩
def impl_allBetween.f (l0 : List Int) (a1 : Int) (a2 : Int) : Option (Bool) := some (!l0.any fun n => !decide (a1 ≤ n ∧ n ≤ a2))
theorem impl_allBetween.btw (a b c : Int) : impl_between.f a b c = some (decide (b ≤ a ∧ a ≤ c)) := by
 unfold impl_between.f
 by_cases h : a ≥ b
 ·have h' : b ≤ a := h
  simp [h, h']
 ·have h' : ¬ b ≤ a := h
  simp [h, h']
set_option maxHeartbeats 2000000 in
theorem impl_allBetween.pred (x lo hi : Int) (b1 b2 : Addr) (W : World) (h1 : W.cell? b1 = some (.int .i64 lo)) (h2 : W.cell? b2 = some (.int .i64 hi)) :
  Calls Try.prog 130 #[.int .i64 x, .pointer (some b1), .pointer (some b2)] W fun e w' => e = .returned (.bool (!decide (lo ≤ x ∧ x ≤ hi))) ∧ Drawn0 W w' := by
 have HB := impl_between.calls x lo hi (decide (lo ≤ x ∧ x ≤ hi))
 have HT := am (impl_allBetween.btw x lo hi)
 generalize decide (lo ≤ x ∧ x ≤ hi) = b at HB HT
 go_enter Try.func130, Try.ntmps130
 go_wp2_with (go_at_call 60; refine (HB _ HT.out).mono ?_; rintro e w' ⟨rfl, hd⟩)
 go_ret
 exact ⟨rfl, hd⟩
set_option maxHeartbeats 2000000 in
theorem impl_allBetween.calls (A0 : Option Addr) (c0 : Nat) (l0 : List Int) (a1 : Int) (a2 : Int) (r : Bool) (w : World) (hr0 : Kd.C (Kd.int .i64) w A0 l0.length l0) (hc0 : l0.length ≤ c0) (h : impl_allBetween.f l0 a1 a2 = some r) :
  Calls Try.prog 112 #[.slice A0 l0.length c0, .int .i64 a1, .int .i64 a2] w fun e w' => e = .returned (.bool r) ∧ Below w.heap.size w w' := by
 obtain rfl := Option.some.inj h
 clear h
 have hB : Below w.heap.size w ((w.alloc (.cells #[.int .i64 a1] 2)).alloc (.cells #[.int .i64 a2] 2)) := ((Below.refl _ _).alloc (Nat.le_refl _) _).alloc (by simp) _
 have HI := impl_allBetween.contains ⟨w.heap.size, 0, none⟩ ⟨w.heap.size + 1, 0, none⟩ (fun n => !decide (a1 ≤ n ∧ n ≤ a2)) A0 c0 l0 ((w.alloc (.cells #[.int .i64 a1] 2)).alloc (.cells #[.int .i64 a2] 2)) (Kd.C_below hr0 hB) (fun W x hb => by
  refine (impl_allBetween.pred x a1 a2 _ _ W ?_ ?_).mono fun e w' ⟨he, hw⟩ => ⟨he, hb.trans (hw.below.mono hb.size)⟩
  ·rw [hb.cell (by simp <;> omega)]; simp
  ·rw [hb.cell (by simp <;> omega)]; simp)
 generalize (l0.any fun n => !decide (a1 ≤ n ∧ n ≤ a2)) = b at HI
 clear hr0 hc0
 have HBB := am hB
 clear hB
 go_enter Try.func112, Try.ntmps112
 go_wp2_with (go_at_call 129; refine HI.mono ?_; rintro e w' ⟨rfl, hb⟩)
 go_ret
 exact ⟨rfl, HBB.out.trans (hb.mono HBB.out.size)⟩

/-! ### impl_Disk_lossOk: function 77 -/
def impl_Disk_lossOk.f (k : Nat) (l0_0 : List ByteArray) (l0_1 : List (S55)) (l1 : List Int) (a2 : Int) : Option (Bool) := (impl_increasing.f k l1).bind fun t127 => (if t127 = true then ((impl_allBetween.f l1 0 (wrap64 ((l0_1.length : Int) - 1))).bind fun t128 => (if t128 = true then ((impl_between.f a2 (-1) 64).bind fun t129 => (some t129)) else (some false))) else (some false))
theorem impl_Disk_lossOk.mono : ∀ a0 a1 a2 a3 k, LeO (impl_Disk_lossOk.f k a0 a1 a2 a3) (impl_Disk_lossOk.f (k + 1) a0 a1 a2 a3) := by
 intro a0 a1 a2 a3 k
 unfold impl_Disk_lossOk.f
 repeat' first
   | (with_reducible exact impl_increasing.mono _ _)
   | (with_reducible exact LeO.refl _)
   | (with_reducible exact LeO.none _)
   | (with_reducible refine LeO.ite ?_ ?_)
   | (with_reducible refine LeO.bind ?_ (fun _ => ?_))
   | exact impl_increasing.mono _ _
   | exact LeO.none _
   | refine LeO.ite ?_ ?_
   | refine LeO.bind ?_ (fun _ => ?_)
set_option maxHeartbeats 8000000 in
set_option maxRecDepth 100000 in
theorem impl_Disk_lossOk.calls (k : Nat) (A0_0 : Option Addr) (c0_0 : Nat) (l0_0 : List ByteArray) (A0_1 : Option Addr) (c0_1 : Nat) (l0_1 : List (S55)) (A1 : Option Addr) (c1 : Nat) (l1 : List Int) (a2 : Int) (r : Bool) (w : World) (hr0_0 : Kd.C Kd.string w A0_0 l0_0.length l0_0) (hc0_0 : l0_0.length ≤ c0_0) (hr0_1 : Kd.C k55 w A0_1 l0_1.length l0_1) (hc0_1 : l0_1.length ≤ c0_1) (hr1 : Kd.C (Kd.int .i64) w A1 l1.length l1) (hc1 : l1.length ≤ c1) (h : impl_Disk_lossOk.f k l0_0 l0_1 l1 a2 = some r) :
  Calls Try.prog 77 #[.agg #[.slice A0_0 l0_0.length c0_0, .slice A0_1 l0_1.length c0_1], .slice A1 l1.length c1, .int .i64 a2] w fun e w' => e = .returned (.bool r) ∧ Below w.heap.size w w' := by
 have hu30 := Try.underlying30
 have HR0_0 := am hr0_0
 have HC0_0 := am hc0_0
 clear hr0_0 hc0_0
 have HR0_1 := am hr0_1
 have HC0_1 := am hc0_1
 clear hr0_1 hc0_1
 have HR1 := am hr1
 have HC1 := am hc1
 clear hr1 hc1
 have HB := am (Below.refl w.heap.size w)
 have H : ((impl_increasing.f k l1).bind fun t127 => (if t127 = true then ((impl_allBetween.f l1 0 (wrap64 ((l0_1.length : Int) - 1))).bind fun t128 => (if t128 = true then ((impl_between.f a2 (-1) 64).bind fun t129 => (some t129)) else (some false))) else (some false))) = some r := h
 clear h
 replace H := Option.bind_eq_some_iff.mp H
 obtain ⟨t127, A40, H⟩ := H
 replace H : (if t127 = true then ((impl_allBetween.f l1 0 (wrap64 ((l0_1.length : Int) - 1))).bind fun t128 => (if t128 = true then ((impl_between.f a2 (-1) 64).bind fun t129 => (some t129)) else (some false))) else (some false)) = some r := H
 have A4 := am A40
 clear A40
 by_cases c5 : t127 = true
 ·subst c5
  have H1 : ((impl_allBetween.f l1 0 (wrap64 ((l0_1.length : Int) - 1))).bind fun t128 => (if t128 = true then ((impl_between.f a2 (-1) 64).bind fun t129 => (some t129)) else (some false))) = some r := by rw [if_pos rfl] at H; exact H
  clear H
  have H := H1
  clear H1
  replace H := Option.bind_eq_some_iff.mp H
  obtain ⟨t128, A60, H⟩ := H
  replace H : (if t128 = true then ((impl_between.f a2 (-1) 64).bind fun t129 => (some t129)) else (some false)) = some r := H
  have A6 := am A60
  clear A60
  by_cases c7 : t128 = true
  ·subst c7
   have H1 : ((impl_between.f a2 (-1) 64).bind fun t129 => (some t129)) = some r := by rw [if_pos rfl] at H; exact H
   clear H
   have H := H1
   clear H1
   replace H := Option.bind_eq_some_iff.mp H
   obtain ⟨t129, A80, H⟩ := H
   replace H : (some t129) = some r := H
   have A8 := am A80
   clear A80
   obtain rfl := Option.some.inj H
   go_enter Try.func77, Try.ntmps77
   go_wp2_with (first | ((with_reducible refine gate_dst (N := 3) rfl ?_); (try (refine gate_guard (by rfl) ?_; dsimp only)); refine box_event ?hg (N := 3) ?hd (cs := #[.slice A0_0 l0_0.length c0_0, .slice A0_1 l0_1.length c0_1]) (t := 30) ?hr ?_; (case hd => rfl); (case hg => rfl); (case hr => first | (go_simp; done) | (go_simp; rfl)); intro gb126 hg w9 hbox hb; have n0_ := am (below_step (by repeat (first | (with_reducible first | exact HB.out | apply bal | apply pdn | apply bd1) | exact HB.out)) hb); have n1_ := am (hbox); have n2_ := am ((by rw [hg]; exact (below_size (by repeat (first | (with_reducible first | exact HB.out | apply bal | apply pdn | apply bd1) | exact HB.out))) : w.heap.size ≤ gb126)); have n3_ := am ((by rw [hg]; exact (below_size (by repeat (first | (with_reducible first | exact HB.out | apply bal | apply pdn | apply bd1) | exact HB.out))) : w.heap.size ≤ gb126)); clear HB; have HB := n0_; have BK126 := n1_; have GW126 := n2_; have GE126 := n3_; clear n0_ n1_ n2_ n3_; clear hb hbox hg) | ((with_reducible refine gate_callee (f := 111) rfl ?_); refine goesL_ (some 8) rfl rfl Try.func111 (by kernel_rfl) rfl #[.slice A1 l1.length c1] rfl (by (try simp only [mta, mco, mni]); first | done | rfl | (simp only [lnd, lnt]; rfl)) ?_; (with_reducible refine (impl_increasing.calls k _ _ l1 true _ ?side1 ?side2 A4.out).mono ?_); (case side1 => repeat (first | exact (Kd.C_below HR1.out HB.out) | (with_reducible first | apply kca | apply kcn | apply kcd))); (case side2 => exact HC1.out); rintro e w' ⟨rfl, ⟨nd, rfl⟩⟩; refine ⟨_, rfl, ?_⟩; have hcz10_0 : w9.cell? ⟨gb126, 0, none⟩ = some (.slice A0_0 l0_0.length c0_0) := (kce BK126.out 0).trans rfl; have hcz10_1 : w9.cell? ⟨gb126, 1, none⟩ = some (.slice A0_1 l0_1.length c0_1) := (kce BK126.out 1).trans rfl; have hfz10_0 := kfr BK126.out 0; have hfz10_1 := kfr BK126.out 1) | (go_at_call 112; (with_reducible refine (impl_allBetween.calls _ _ l1 0 (wrap64 ((l0_1.length : Int) - 1)) true _ ?side1 ?side2 A6.out).mono ?_); (case side1 => repeat (first | exact (Kd.C_below HR1.out (by repeat (first | (with_reducible first | exact HB.out | apply bal | apply pdn | apply bd1 | refine bst ?_ GE126.out) | exact HB.out))) | (with_reducible first | apply kca | apply kcn | apply kcd))); (case side2 => exact HC1.out); rintro e w11 ⟨rfl, hb⟩; have n0_ := am (kbb (g := gb126) (o := .cells #[.slice A0_0 l0_0.length c0_0, .slice A0_1 l0_1.length c0_1] 30 (0, 0)) (by (with_reducible repeat (first | apply kdn | apply kdr | apply kal)); exact BK126.out) hb); have n1_ := am (below_step (by repeat (first | (with_reducible first | exact HB.out | apply bal | apply pdn | apply bd1 | refine bst ?_ GE126.out) | exact HB.out)) hb); clear BK126; clear HB; have BK126 := n0_; have HB := n1_; clear n0_ n1_; (try clear hb); (try clear hb2); (try clear hk); (try clear hi)) | (go_at_call 60; (with_reducible refine (impl_between.calls a2 (-1) 64 t129 _ A8.out).mono ?_); rintro e w' ⟨rfl, ⟨nd, rfl⟩⟩))
   go_ret
   exact ⟨by first | rfl | (simp [errW_none, errW_some] <;> rfl) | (simp [*, errW_none, errW_some] <;> rfl), by repeat (first | (with_reducible first | exact HB.out | apply bal | apply pdn | apply bd1 | refine bst ?_ GE126.out) | exact HB.out)⟩
  ·replace c7 := Bool.eq_false_iff.mpr c7
   subst c7
   have H1 : (some false) = some r := by rw [if_neg (show ¬ (false = true) by decide)] at H; exact H
   clear H
   have H := H1
   clear H1
   obtain rfl := Option.some.inj H
   go_enter Try.func77, Try.ntmps77
   go_wp2_with (first | ((with_reducible refine gate_dst (N := 3) rfl ?_); (try (refine gate_guard (by rfl) ?_; dsimp only)); refine box_event ?hg (N := 3) ?hd (cs := #[.slice A0_0 l0_0.length c0_0, .slice A0_1 l0_1.length c0_1]) (t := 30) ?hr ?_; (case hd => rfl); (case hg => rfl); (case hr => first | (go_simp; done) | (go_simp; rfl)); intro gb126 hg w12 hbox hb; have n0_ := am (below_step (by repeat (first | (with_reducible first | exact HB.out | apply bal | apply pdn | apply bd1) | exact HB.out)) hb); have n1_ := am (hbox); have n2_ := am ((by rw [hg]; exact (below_size (by repeat (first | (with_reducible first | exact HB.out | apply bal | apply pdn | apply bd1) | exact HB.out))) : w.heap.size ≤ gb126)); have n3_ := am ((by rw [hg]; exact (below_size (by repeat (first | (with_reducible first | exact HB.out | apply bal | apply pdn | apply bd1) | exact HB.out))) : w.heap.size ≤ gb126)); clear HB; have HB := n0_; have BK126 := n1_; have GW126 := n2_; have GE126 := n3_; clear n0_ n1_ n2_ n3_; clear hb hbox hg) | ((with_reducible refine gate_callee (f := 111) rfl ?_); refine goesL_ (some 8) rfl rfl Try.func111 (by kernel_rfl) rfl #[.slice A1 l1.length c1] rfl (by (try simp only [mta, mco, mni]); first | done | rfl | (simp only [lnd, lnt]; rfl)) ?_; (with_reducible refine (impl_increasing.calls k _ _ l1 true _ ?side1 ?side2 A4.out).mono ?_); (case side1 => repeat (first | exact (Kd.C_below HR1.out HB.out) | (with_reducible first | apply kca | apply kcn | apply kcd))); (case side2 => exact HC1.out); rintro e w' ⟨rfl, ⟨nd, rfl⟩⟩; refine ⟨_, rfl, ?_⟩; have hcz13_0 : w12.cell? ⟨gb126, 0, none⟩ = some (.slice A0_0 l0_0.length c0_0) := (kce BK126.out 0).trans rfl; have hcz13_1 : w12.cell? ⟨gb126, 1, none⟩ = some (.slice A0_1 l0_1.length c0_1) := (kce BK126.out 1).trans rfl; have hfz13_0 := kfr BK126.out 0; have hfz13_1 := kfr BK126.out 1) | (go_at_call 112; (with_reducible refine (impl_allBetween.calls _ _ l1 0 (wrap64 ((l0_1.length : Int) - 1)) false _ ?side1 ?side2 A6.out).mono ?_); (case side1 => repeat (first | exact (Kd.C_below HR1.out (by repeat (first | (with_reducible first | exact HB.out | apply bal | apply pdn | apply bd1 | refine bst ?_ GE126.out) | exact HB.out))) | (with_reducible first | apply kca | apply kcn | apply kcd))); (case side2 => exact HC1.out); rintro e w14 ⟨rfl, hb⟩; have n0_ := am (kbb (g := gb126) (o := .cells #[.slice A0_0 l0_0.length c0_0, .slice A0_1 l0_1.length c0_1] 30 (0, 0)) (by (with_reducible repeat (first | apply kdn | apply kdr | apply kal)); exact BK126.out) hb); have n1_ := am (below_step (by repeat (first | (with_reducible first | exact HB.out | apply bal | apply pdn | apply bd1 | refine bst ?_ GE126.out) | exact HB.out)) hb); clear BK126; clear HB; have BK126 := n0_; have HB := n1_; clear n0_ n1_; (try clear hb); (try clear hb2); (try clear hk); (try clear hi)))
   go_ret
   exact ⟨by first | rfl | (simp [errW_none, errW_some] <;> rfl) | (simp [*, errW_none, errW_some] <;> rfl), by repeat (first | (with_reducible first | exact HB.out | apply bal | apply pdn | apply bd1 | refine bst ?_ GE126.out) | exact HB.out)⟩
 ·replace c5 := Bool.eq_false_iff.mpr c5
  subst c5
  have H1 : (some false) = some r := by rw [if_neg (show ¬ (false = true) by decide)] at H; exact H
  clear H
  have H := H1
  clear H1
  obtain rfl := Option.some.inj H
  go_enter Try.func77, Try.ntmps77
  go_wp2_with (first | ((with_reducible refine gate_dst (N := 3) rfl ?_); (try (refine gate_guard (by rfl) ?_; dsimp only)); refine box_event ?hg (N := 3) ?hd (cs := #[.slice A0_0 l0_0.length c0_0, .slice A0_1 l0_1.length c0_1]) (t := 30) ?hr ?_; (case hd => rfl); (case hg => rfl); (case hr => first | (go_simp; done) | (go_simp; rfl)); intro gb126 hg w15 hbox hb; have n0_ := am (below_step (by repeat (first | (with_reducible first | exact HB.out | apply bal | apply pdn | apply bd1) | exact HB.out)) hb); have n1_ := am (hbox); have n2_ := am ((by rw [hg]; exact (below_size (by repeat (first | (with_reducible first | exact HB.out | apply bal | apply pdn | apply bd1) | exact HB.out))) : w.heap.size ≤ gb126)); have n3_ := am ((by rw [hg]; exact (below_size (by repeat (first | (with_reducible first | exact HB.out | apply bal | apply pdn | apply bd1) | exact HB.out))) : w.heap.size ≤ gb126)); clear HB; have HB := n0_; have BK126 := n1_; have GW126 := n2_; have GE126 := n3_; clear n0_ n1_ n2_ n3_; clear hb hbox hg) | ((with_reducible refine gate_callee (f := 111) rfl ?_); refine goesL_ (some 8) rfl rfl Try.func111 (by kernel_rfl) rfl #[.slice A1 l1.length c1] rfl (by (try simp only [mta, mco, mni]); first | done | rfl | (simp only [lnd, lnt]; rfl)) ?_; (with_reducible refine (impl_increasing.calls k _ _ l1 false _ ?side1 ?side2 A4.out).mono ?_); (case side1 => repeat (first | exact (Kd.C_below HR1.out HB.out) | (with_reducible first | apply kca | apply kcn | apply kcd))); (case side2 => exact HC1.out); rintro e w' ⟨rfl, ⟨nd, rfl⟩⟩; refine ⟨_, rfl, ?_⟩))
  go_ret
  exact ⟨by first | rfl | (simp [errW_none, errW_some] <;> rfl) | (simp [*, errW_none, errW_some] <;> rfl), by repeat (first | (with_reducible first | exact HB.out | apply bal | apply pdn | apply bd1 | refine bst ?_ GE126.out) | exact HB.out)⟩

end Go.Proofs.Ythphhklbliambaa.MFnDiskKeeps
