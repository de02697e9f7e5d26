-- Written by a program of this session (wip/tools/myprint.py) over the kit's print: it is not the kit's print.
import Derived.Test.YthphhklbliambaaExtra
import Derived.Laws.AppendOwn
import Derived.Laws.BytesArg
import Derived.Lib.ConvBytes
import Derived.Test.YthphhklbliambaaMFnExactApplyOpsx0
import Derived.Test.YthphhklbliambaaMFnExactApplyOpsx1
namespace Go.Proofs.Ythphhklbliambaa.MFnExactApplyOps
open Go.RowKit Go.Proofs.YthphhklbliambaaW.PrintWords Go.Proofs.YthphhklbliambaaW.PrintLast Go.Proofs.YthphhklbliambaaW.PrintMore
open List renaming setIfInBounds_toArray → sit, set_cons_zero → scz, set_cons_succ → scs, map_toArray → mta, map_cons → mco, map_nil → mni, length_drop → lnd, length_take → lnt
attribute [local go_sem] max2_int min2_int max_two min_two max_three min_three max_four min_four   -- for this text's walks alone
set_option linter.unusedVariables false
set_option linter.unusedSimpArgs false

/-! ### spec_l16Lay: function 94 -/
/-- A row of bytes that a conversion may have marked behind its end. -/
def spec_l16Lay.MB (e : TypeId) (w : World) (base g cap : Nat) (l : List Int) : Prop :=
 ∃ cur fz, base ≤ g ∧ w.heap[g]? = some (.cells cur e fz) ∧ (fz.2 = 0 ∨ cur.size ≤ fz.1) ∧ l.length ≤ cap ∧ cap ≤ maxLen ∧ cur.size = cap ∧ cur.toList.take l.length = l.map (Value.int .u8)
def spec_l16Lay.strNums (s : ByteArray) : List Int := s.data.toList.map fun b => (b.toNat : Int)
theorem spec_l16Lay.strNums_length (s : ByteArray) : (spec_l16Lay.strNums s).length = s.size := by simp [strNums]
theorem spec_l16Lay.MB.lt {e : TypeId} {w : World} {base g cap : Nat} {l : List Int} (h : spec_l16Lay.MB e w base g cap l) : g < w.heap.size := by
 obtain ⟨cur, fz, _, hg, _⟩ := h
 exact (Array.getElem?_eq_some_iff.1 hg).1
theorem spec_l16Lay.MB.base {e : TypeId} {w : World} {base g cap : Nat} {l : List Int} (h : spec_l16Lay.MB e w base g cap l) : base ≤ g := by
 obtain ⟨cur, fz, hb, _⟩ := h
 exact hb
theorem spec_l16Lay.MB.len {e : TypeId} {w : World} {base g cap : Nat} {l : List Int} (h : spec_l16Lay.MB e w base g cap l) : l.length ≤ cap ∧ cap ≤ maxLen := by
 obtain ⟨cur, fz, _, _, _, h1, h2, _⟩ := h
 exact ⟨h1, h2⟩
theorem spec_l16Lay.MB.alloc {e : TypeId} {w : World} {base g cap : Nat} {l : List Int} (h : spec_l16Lay.MB e w base g cap l) (o : Obj) : spec_l16Lay.MB e (w.alloc o) base g cap l := by
 have hlt := h.lt
 obtain ⟨cur, fz, hb, hg, hr⟩ := h
 exact ⟨cur, fz, hb, (heap_alloc_old w o hlt).trans hg, hr⟩
theorem spec_l16Lay.MB.setOther {e : TypeId} {w : World} {base g cap : Nat} {l : List Int} (h : spec_l16Lay.MB e w base g cap l) (p : Addr) (hp : p.block ≠ g) (u : Value) : spec_l16Lay.MB e (w.setCell p u) base g cap l := by
 obtain ⟨cur, fz, hb, hg, hr⟩ := h
 exact ⟨cur, fz, hb, (Below.heap_setCell _ _ _ _ (by omega)).trans hg, hr⟩
theorem spec_l16Lay.MB.cell {e : TypeId} {w : World} {base g cap : Nat} {l : List Int} (h : spec_l16Lay.MB e w base g cap l) (i : Nat) (hi : i < l.length) : w.cell? ⟨g, i, none⟩ = some (.int .u8 (l.getD i 0)) := by
 obtain ⟨cur, fz, hb, hg, hfz, h1, h2, h3, h4⟩ := h
 rw [cell_of_row w g i cur e fz hg]
 have := congrArg (fun z => z[i]?) h4
 simp only [List.getElem?_take, hi, if_pos, List.getElem?_map] at this
 simpa [List.getD, hi] using this
theorem spec_l16Lay.MB.frozen {e : TypeId} {w : World} {base g cap : Nat} {l : List Int} (h : spec_l16Lay.MB e w base g cap l) (i : Nat) (hi : i < l.length) : w.frozen? ⟨g, i, none⟩ = false := by
 obtain ⟨cur, ⟨lo, hh⟩, hb, hg, hfz, h1, h2, h3, h4⟩ := h
 simp only [World.frozen?, hg, Bool.and_eq_false_iff, decide_eq_false_iff_not]
 simp only at hfz
 omega
theorem spec_l16Lay.MB.set {e : TypeId} {w : World} {base g cap : Nat} {l : List Int} (h : spec_l16Lay.MB e w base g cap l) (i : Nat) (hi : i < l.length) (x : Int) : spec_l16Lay.MB e (w.setCell ⟨g, i, none⟩ (.int .u8 x)) base g cap (l.set i x) := by
 obtain ⟨cur, fz, hb, hg, hfz, h1, h2, h3, h4⟩ := h
 refine ⟨cur.setIfInBounds i (.int .u8 x), fz, hb, ?_, by simpa using hfz, by simpa using h1, h2, by simpa using h3, ?_⟩
 ·rw [setCell_eq_setRow w g i cur e fz _ hg]
  exact setRow_heap w g cur _ e fz hg
 ·rw [Array.toList_setIfInBounds, List.length_set, List.take_set, h4, List.map_set]
open Go.Lib in
theorem spec_l16Lay.MB.conv {P : Program} {src dst e : TypeId} {u : TypeDesc} (hs : P.underlying src = some u) (hd : P.underlying dst = some (.slice e)) (he : P.underlying e = some (.int .u8)) (w : World) (s : ByteArray) (hsz : s.size ≤ maxLen) :
  ∃ cap w', (convert src dst (.string s)).run P w = .ok (.slice (some ⟨w.heap.size, 0, none⟩) s.size cap) w' ∧ spec_l16Lay.MB e w' w.heap.size w.heap.size cap (spec_l16Lay.strNums s) ∧ Below w.heap.size w w' := by
 refine ⟨_, _, Go.Lib.run_convert_string_bytes w src dst e s hs hd he, ?_, ?_⟩
 ·have hge := grownCap_ge w s.size 0 e
  refine ⟨_, _, Nat.le_refl _, bytesWorld_at_new w e s, .inr (Nat.le_refl _), by rw [spec_l16Lay.strNums_length]; exact hge, grownCap_le_maxLen w _ _ e hsz, ?_, ?_⟩
  ·simp only [bytesCells, Array.size_append, Array.size_map, Array.size_replicate]
   have : s.data.size = s.size := rfl
   omega
  ·simp [strNums, bytesCells, spec_l16Lay.strNums_length, List.map_map, Function.comp_def]
 ·refine ⟨rfl, rfl, rfl, by rw [bytesWorld_size]; omega, fun k hk => bytesWorld_at_old w e s k hk⟩
theorem spec_l16Lay.MB.toStr {P : Program} {src dst e : TypeId} (hs : P.underlying src = some (.slice e)) (he : P.underlying e = some (.int .u8)) (hd : P.underlying dst = some .string) {w : World} {base g cap : Nat} {l : List Int} (h : spec_l16Lay.MB e w base g cap l) :
  (convert src dst (.slice (some ⟨g, 0, none⟩) l.length cap)).run P w = .ok (.string (strOfNums l)) w :=
 run_convert_bytes_arg w src e hs he g 0 l.length cap l rfl (fun i hi => by rw [Nat.zero_add]; exact h.cell i hi) dst hd
theorem spec_l16Lay.MB.append {P : Program} {t ty e : TypeId} {i : TypeInfo} (ht : P.underlying t = some (.slice e)) (hi : P.info? e = some i) (hz : i.zero = some (.int .u8 0)) (hsize : i.size = 1) (hby : i.bytes = 1)
  {w : World} {base g cap : Nat} {l : List Int} (h : spec_l16Lay.MB e w base g cap l) (hB : base ≤ w.heap.size) (ad : Addr) (c : Nat) (x : Int) (hx : w.cell? ad = some (.int .u8 x)) (hl : l.length < 1000000) :
  ∃ g' cap' w', (Builtin.append_ #[t, t] ty #[.slice (some ⟨g, 0, none⟩) l.length cap, .slice (some ad) 1 c]).run P w = .ok (.slice (some ⟨g', 0, none⟩) (l.length + 1) cap') w' ∧ spec_l16Lay.MB e w' base g' cap' (l ++ [x]) ∧ Below base w w' := by
 have hnews : ∀ j u, [Value.int .u8 x][j]? = some u → w.cell? (ad.add j) = some u := by
  intro j u hj
  cases j with
  | zero => simp at hj; subst hj; rw [show ad.add 0 = ad from by obtain ⟨b, o, sp⟩ := ad; unfold Addr.add; split <;> simp_all]; exact hx
  | succ j => simp at hj
 have hcl : ∀ j, j < l.length → w.cell? ⟨g, j, none⟩ = some (.int .u8 (l.getD j 0)) := fun j hj => h.cell j hj
 obtain ⟨cur, fz, hb, hg, hfz, h1, h2, h3, h4⟩ := h
 by_cases hroom : l.length + 1 ≤ cap
 ·have hf := run_firstCells_some (P := P) w i.size 1 ad 1 c [Value.int .u8 x] (by simp [hsize]) hnews
  have hcell : w.cell? ⟨g, l.length, none⟩ = some cur[l.length] := by simp [World.cell?, hg, show l.length < cur.size by omega]
  have hfro : w.frozen? ⟨g, l.length, none⟩ = false := by
   obtain ⟨lo, hh⟩ := fz
   simp only [World.frozen?, hg, Bool.and_eq_false_iff, decide_eq_false_iff_not]
   simp only at hfz
   omega
  have hst : (storeCells ⟨g, l.length, none⟩ [Value.int .u8 x]).run P w = .ok () (w.setCell ⟨g, l.length, none⟩ (.int .u8 x)) := by
   simp only [storeCells, Sem.run_bind]
   rw [show (⟨g, l.length, none⟩ : Addr).add 0 = ⟨g, l.length, none⟩ from by unfold Addr.add; split <;> simp_all, run_store P w _ _ _ (by rfl), hcell]
   simp [hfro]
  refine ⟨g, cap, w.setCell ⟨g, l.length, none⟩ (.int .u8 x), ?_, ?_, ?_⟩
  ·simp [Builtin.append_, run_underlying ht, sizeOf, typeInfo, hi, hsize, Builtin.lenOf, hroom, hsize ▸ hf, Addr.add_lit, hst]
  ·refine ⟨cur.setIfInBounds l.length (.int .u8 x), fz, hb, ?_, by simpa using hfz, by simpa using hroom, h2, by simpa using h3, ?_⟩
   ·rw [setCell_eq_setRow w g l.length cur e fz _ hg]
    exact setRow_heap w g cur _ e fz hg
   ·rw [Array.toList_setIfInBounds, List.length_append, List.length_singleton, List.take_add_one, List.map_append, ← h4, List.take_set_of_le (Nat.le_refl _)]
    congr 1
    rw [List.getElem?_set_self (by simp; omega)]
    rfl
  ·exact (Below.refl base w).setCell (p := ⟨g, l.length, none⟩) hb _
 ·have hr := run_append_grow (P := P) w t ty e i (.int .u8 0) ht hi hz ⟨g, 0, none⟩ l.length cap (l.map (Value.int .u8)) (by simp [hsize]) (fun j v hj => by
    have hjl : j < l.length := by
     rcases Nat.lt_or_ge j l.length with h | h
     ·exact h
     ·simp [List.getElem?_eq_none (show (l.map (Value.int .u8)).length ≤ j by simpa using h)] at hj
    rw [show (⟨g, 0, none⟩ : Addr).add j = ⟨g, j, none⟩ from by unfold Addr.add; split <;> simp_all, hcl j hjl]
    simpa [List.getD, hjl] using hj) ad 1 c [Value.int .u8 x] (by simp [hsize]) hnews (by omega) (by omega) (by rw [hby]; exact growslice_fits (by omega) (by omega))
  have hge := grownCap_ge w (l.length + 1) cap e
  have hcm : grownCap w (l.length + 1) cap e ≤ maxLen := grownCap_le_maxLen w (l.length + 1) cap e (by unfold maxLen; omega)
  refine ⟨_, _, _, hr, ⟨_, (0, 0), hB, heap_alloc_new w.drew _, .inl rfl, by simpa using hge, hcm, ?_, ?_⟩, ⟨rfl, rfl, rfl, by simp, fun k hk => by first | exact heap_alloc_old w.drew _ k (show k < w.heap.size by omega) | exact heap_alloc_old w.drew _ (show k < w.heap.size by omega)⟩⟩
  ·simp [size_zeroCells, Value.cells]
   omega
  ·simp [List.take_append]
   exact List.take_of_length_le (by simp)

theorem spec_l16Lay.MB.wconv {P : Program} {ops : Array Oper} {rest : List Oper} {o : Oper} {a : Act} {Q : Exit → Act → World → Prop} {w : World} (hgd : o.guard = none) (x : Operand) (src dst e : TypeId) (u : TypeDesc) (ho : o.op = .convert src dst x)
  (hs : P.underlying src = some u) (hd : P.underlying dst = some (.slice e)) (he : P.underlying e = some (.int .u8)) (s : ByteArray) (hx : a.eval x = .string s) (hsz : s.size ≤ maxLen)
  (h : ∀ cap w', spec_l16Lay.MB e w' w.heap.size w.heap.size cap (spec_l16Lay.strNums s) → Below w.heap.size w w' → wpList P ops Q rest (a.put o.dst (.slice (some ⟨w.heap.size, 0, none⟩) s.size cap)) w') : wpList P ops Q (o :: rest) a w := by
 refine wpList_plain hgd fun K hK => ?_
 obtain ⟨cap, w', hr, h2, h3⟩ := spec_l16Lay.MB.conv (P := P) hs hd he w s hsz
 unfold Oper.wp execOp
 simp only [ho, Sem.run_bind, Sem.run_pure, Result.andThen_ok, hx, hr]
 exact hK _ _ (h cap w' h2 h3)
theorem spec_l16Lay.MB.wappend {P : Program} {ops : Array Oper} {rest : List Oper} {o : Oper} {a : Act} {Q : Exit → Act → World → Prop} {w : World} (hgd : o.guard = none) (sl x : Operand) (t : TypeId)
  (ho : o.op = .call { callee := .builtin .append, args := #[sl, x], argTypes := #[t, t] }) (e : TypeId) (i : TypeInfo) (ht : P.underlying t = some (.slice e)) (hi : P.info? e = some i) (hz : i.zero = some (.int .u8 0)) (hsize : i.size = 1) (hby : i.bytes = 1)
  (base g cap : Nat) (l : List Int) (h : spec_l16Lay.MB e w base g cap l) (hB : base ≤ w.heap.size) (n : Nat) (hn : l.length = n) (hs : a.eval sl = .slice (some ⟨g, 0, none⟩) n cap) (ad : Addr) (c : Nat) (y : Int) (hx : a.eval x = .slice (some ad) 1 c) (hy : w.cell? ad = some (.int .u8 y)) (hl : l.length < 1000000)
  (hk : ∀ g' cap' w', spec_l16Lay.MB e w' base g' cap' (l ++ [y]) → Below base w w' → wpList P ops Q rest (a.put o.dst (.slice (some ⟨g', 0, none⟩) (n + 1) cap')) w') : wpList P ops Q (o :: rest) a w := by
 subst hn
 refine wpList_plain hgd fun K hK => ?_
 obtain ⟨g', cap', w', hr, h2, h3⟩ := spec_l16Lay.MB.append (P := P) (ty := o.type) ht hi hz hsize hby h hB ad c y hy hl
 unfold Oper.wp execOp
 simp only [ho, resolve, invoke, builtin, Sem.run_bind, Sem.run_pure, Result.andThen_ok, mta, mco, mni, hs, hx, hr]
 exact hK _ _ (hk g' cap' w' h2 h3)
theorem spec_l16Lay.MB.wstr {P : Program} {ops : Array Oper} {rest : List Oper} {o : Oper} {a : Act} {Q : Exit → Act → World → Prop} {w : World} (hgd : o.guard = none) (x : Operand) (src dst e : TypeId) (ho : o.op = .convert src dst x)
  (hs : P.underlying src = some (.slice e)) (he : P.underlying e = some (.int .u8)) (hd : P.underlying dst = some .string) (base g cap n : Nat) (l : List Int) (h : spec_l16Lay.MB e w base g cap l) (hn : l.length = n) (hx : a.eval x = .slice (some ⟨g, 0, none⟩) n cap)
  (hk : wpList P ops Q rest (a.put o.dst (.string (strOfNums l))) w) : wpList P ops Q (o :: rest) a w := by
 subst hn
 refine wpList_plain hgd fun K hK => ?_
 have hr := spec_l16Lay.MB.toStr (P := P) hs he hd h
 unfold Oper.wp execOp
 simp only [ho, Sem.run_bind, Sem.run_pure, Result.andThen_ok, hx, hr]
 exact hK _ _ hk
def spec_l16Lay.toI (L : List UInt8) : List Int := L.map fun b => (b.toNat : Int)
theorem spec_l16Lay.toI_length (L : List UInt8) : (spec_l16Lay.toI L).length = L.length := by simp [spec_l16Lay.toI]
theorem spec_l16Lay.str_toI (L : List UInt8) : strOfNums (spec_l16Lay.toI L) = ⟨L.toArray⟩ := by
 unfold strOfNums spec_l16Lay.toI
 congr 1
 simp [Function.comp_def]
def spec_l16Lay.pad (B : List UInt8) (a : Nat) : List UInt8 := B ++ List.replicate (a - B.length) 0
def spec_l16Lay.lay (P X : List UInt8) (a i : Nat) : List UInt8 := P.take a ++ X.take i ++ P.drop (a + i)
theorem spec_l16Lay.pad_length (B : List UInt8) (a : Nat) : (spec_l16Lay.pad B a).length = max B.length a := by simp [spec_l16Lay.pad]; omega
theorem spec_l16Lay.lay_length (P X : List UInt8) (a i : Nat) (ha : a ≤ P.length) (hi : i ≤ X.length) : (spec_l16Lay.lay P X a i).length = max P.length (a + i) := by
 simp [spec_l16Lay.lay, lnt, lnd]; omega
theorem spec_l16Lay.lay_zero (P X : List UInt8) (a : Nat) : spec_l16Lay.lay P X a 0 = P := by simp [spec_l16Lay.lay]
theorem spec_l16Lay.lay_set (P X : List UInt8) (a i : Nat) (ha : a ≤ P.length) (hi : i < X.length) (hp : a + i < P.length) : (spec_l16Lay.lay P X a i).set (a + i) (X.getD i 0) = spec_l16Lay.lay P X a (i + 1) := by
 have h1 : (P.take a ++ X.take i).length = a + i := by simp [lnt]; omega
 unfold spec_l16Lay.lay
 rw [List.set_append_right _ _ (by omega), h1, Nat.sub_self]
 have e : P.drop (a + i) = P[a + i] :: P.drop (a + (i + 1)) := List.drop_eq_getElem_cons hp
 have e2 : X.getD i 0 = X[i] := by simp [List.getD, hi]
 rw [e, scz, List.take_succ_eq_append_getElem hi, e2]
 simp only [List.append_assoc, List.cons_append, List.nil_append]
theorem spec_l16Lay.lay_app (P X : List UInt8) (a i : Nat) (hi : i < X.length) (hp : P.length ≤ a + i) : spec_l16Lay.lay P X a i ++ [X.getD i 0] = spec_l16Lay.lay P X a (i + 1) := by
 unfold spec_l16Lay.lay
 have e2 : X.getD i 0 = X[i] := by simp [List.getD, hi]
 rw [List.drop_of_length_le hp, List.drop_of_length_le (by omega), List.take_succ_eq_append_getElem hi, e2]
 simp only [List.append_assoc, List.append_nil]
def spec_l16Lay.f (body : ByteArray) (a : Int) (bytes : ByteArray) : Option (ByteArray) :=
 if 0 ≤ a ∧ a ≤ 64 ∧ body.size ≤ 64 ∧ bytes.size ≤ 64 then some ⟨(spec_l16Lay.lay (spec_l16Lay.pad body.data.toList a.toNat) bytes.data.toList a.toNat (min bytes.size (64 - a.toNat))).toArray⟩ else none
set_option maxHeartbeats 4000000 in
set_option maxRecDepth 100000 in
theorem spec_l16Lay.calls (a0 : ByteArray) (a1 : Int) (a2 : ByteArray) (r : ByteArray) (w : World) (h : spec_l16Lay.f a0 a1 a2 = some r) :
  Calls Try.prog 94 #[.string a0, .int .i64 a1, .string a2] w fun e w' => e = .returned (.string r) ∧ Below w.heap.size w w' := by
 unfold spec_l16Lay.f at h
 split at h
 case isFalse => cases h
 rename_i hc
 obtain ⟨hc0, hc1, hc2, hc3⟩ := hc
 obtain ⟨a, rfl⟩ := Int.eq_ofNat_of_zero_le hc0
 rw [Int.toNat_natCast] at h
 have HR := am (Option.some.inj h)
 clear h hc0
 have hl0 : a0.data.toList.length = a0.size := by simp
 have hl2 : a2.data.toList.length = a2.size := by simp
 obtain ⟨B, hB⟩ : ∃ B, B = a0.data.toList := ⟨_, rfl⟩
 obtain ⟨X, hX⟩ : ∃ X, X = a2.data.toList := ⟨_, rfl⟩
 rw [← hB] at hl0 HR
 rw [← hX] at hl2 HR
 have HX := am hX
 have HB0 := am (show spec_l16Lay.strNums a0 = spec_l16Lay.toI B by rw [hB]; rfl)
 clear hX hB
 obtain ⟨i0, hi, hz0, hz1, hz2⟩ := info_parts info5
 go_enter Try.func94, Try.ntmps94
 go_wp2_with (first | ((with_reducible refine gate_dst (N := 10) rfl ?_); refine spec_l16Lay.MB.wconv rfl (.tmp 9) 9 48 5 _ rfl Try.underlying9 Try.underlying48 Try.underlying5 a0 rfl (by unfold maxLen; omega) ?_; intro cap w1 hM hb1))
 rw [HB0.out] at hM
 have HM := am hM
 have HW := am hb1
 clear hM hb1
 go_loopg [7] (a - B.length) (fun gg s7 wr => ∃ (n g cp : Nat) (L : List UInt8), s7 = .slice (some ⟨g, 0, none⟩) n cp ∧ Aside0 (L.length = n ∧ B.length ≤ n ∧ n ≤ max B.length a ∧ a - n ≤ gg ∧ L ++ List.replicate (a - n) 0 = spec_l16Lay.pad B a) ∧ Aside0 (spec_l16Lay.MB 5 wr w.heap.size g cp (spec_l16Lay.toI L)) ∧ Aside0 (Below w.heap.size w wr))
 case atStart => exact ⟨_, _, _, B, by rw [← hl0], ⟨rfl, Nat.le_refl _, by omega, Nat.le_refl _, rfl⟩, HM, HW⟩
 case round =>
  obtain ⟨n, g, cp, L, rfl, HN, HM, HW⟩ := hrel
  by_cases hlt : n < a
  ·have hltz : (n : Int) < (a : Int) := by omega
   go_wp2_with (first | ((with_reducible refine gate_builtin (b := .append) (xs := #[.tmp 15, .tmp 16]) rfl ?_); at_builtin; refine spec_l16Lay.MB.wappend rfl (.tmp 15) (.tmp 16) 48 rfl 5 i0 Try.underlying48 hi hz0 hz1 hz2 w.heap.size g cp (spec_l16Lay.toI L) (HM.out.alloc _) (by have := HW.out.size; simp; omega) n (by rw [spec_l16Lay.toI_length]; exact HN.out.1) rfl ⟨wr.heap.size, 0, none⟩ 1 0 rfl (by simp) (by have := HN.out; rw [spec_l16Lay.toI_length]; omega) ?_; intro g' cp' w' hM' hB'; have HM' := am hM'; have HB' := am hB'; clear hM' hB'))
   go_roundg (a - (n + 1))
   case measure => have := HN.out; omega
   case rel =>
    have hn := HN.out
    refine ⟨n + 1, g', cp', L ++ [0], rfl, ⟨by simp [hn.1], by omega, by omega, Nat.le_refl _, ?_⟩, ⟨by have := HM'.out; rw [show spec_l16Lay.toI (L ++ [0]) = spec_l16Lay.toI L ++ [0] from by simp [spec_l16Lay.toI]]; exact this⟩, ⟨(HW.out.alloc HW.out.size _).trans HB'.out⟩⟩
    rw [← hn.2.2.2.2, show a - n = (a - (n + 1)) + 1 from by omega, List.replicate_succ, List.append_assoc]
    rfl
  ·have hltz : ¬ (n : Int) < (a : Int) := by omega
   have hn := HN.out
   obtain rfl : L = spec_l16Lay.pad B a := by
    have := hn.2.2.2.2
    rw [show a - n = 0 from by omega] at this
    simpa using this
   have HN2 := am (show n = max B.length a from by omega)
   clear HN hn
   go_wp2
   go_loopg [7, 8] a2.size (fun gg s7 s8 wr => ∃ (i n g cp : Nat), s8 = .int .i64 i ∧ s7 = .slice (some ⟨g, 0, none⟩) n cp ∧ Aside0 (i ≤ X.length ∧ i ≤ 64 - a ∧ a2.size - i ≤ gg ∧ n = max B.length (a + i)) ∧ Aside0 (spec_l16Lay.MB 5 wr w.heap.size g cp (spec_l16Lay.toI (spec_l16Lay.lay (spec_l16Lay.pad B a) X a i))) ∧ Aside0 (Below w.heap.size w wr))
   case atStart => exact ⟨0, n, g, cp, rfl, rfl, ⟨Nat.zero_le _, Nat.zero_le _, Nat.le_refl _, by have := HN2.out; omega⟩, ⟨by rw [spec_l16Lay.lay_zero]; exact HM.out⟩, HW⟩
   case round =>
    obtain ⟨i, n, g, cp, rfl, rfl, HN, HM, HW⟩ := hrel
    have hn := HN.out
    have hPl := spec_l16Lay.pad_length B a
    have hll := spec_l16Lay.lay_length (spec_l16Lay.pad B a) X a i (by omega) hn.1
    have htn : ((a : Int) + (i : Int)).toNat = a + i := by omega
    have HWR : Aside0 (wrap64 ((a : Int) + (i : Int)) = (a : Int) + (i : Int)) := ⟨by unfold wrap64; omega⟩
    have hib : i < a2.size → (a2[i]!.toNat : Int) = (((X.getD i 0) : UInt8).toNat : Int) := fun h => by
     have hx := HX.out
     subst hx
     have h' : i < a2.data.toList.length := by simpa using h
     have e : a2.data.toList.getD i 0 = a2.data.toList[i] := by simp only [List.getD, List.getElem?_eq_getElem h', Option.getD_some]
     rw [getElem!_pos a2 i h, e, Array.getElem_toList]
     rfl
    have HIB := am hib
    clear hib
    by_cases hi1 : i < X.length
    ·have hi1b : decide ((i : Int) < (a2.size : Int)) = true := decide_eq_true (by omega)
     have hi1n : i < a2.size := by omega
     by_cases h64 : a + i < 64
     ·have h64b : decide (wrap64 ((a : Int) + (i : Int)) < 64) = true := decide_eq_true (by rw [HWR.out]; omega)
      by_cases hs : a + i < n
      ·have hsb : decide (wrap64 ((a : Int) + (i : Int)) < (n : Int)) = true := decide_eq_true (by rw [HWR.out]; omega)
       have HC := HM.out.cell (a + i) (by rw [spec_l16Lay.toI_length, hll]; omega)
       have HF := HM.out.frozen (a + i) (by rw [spec_l16Lay.toI_length, hll]; omega)
       have HSET := am (HM.out.set (a + i) (by rw [spec_l16Lay.toI_length, hll]; omega) (((X.getD i 0) : UInt8).toNat : Int))
       have HLS := am (spec_l16Lay.lay_set (spec_l16Lay.pad B a) X a i (by omega) hi1 (by omega))
       have HN1 := am (show i + 1 ≤ X.length ∧ i + 1 ≤ 64 - a ∧ n = max B.length (a + (i + 1)) from by omega)
       clear hn hPl hll htn
       go_upto_if 35 with fail
       rw [HWR.out] at *
       have hp0 : ((0 : Int) ≤ (a : Int) + (i : Int)) = True := eq_true (by omega)
       have hp1 : ((a : Int) + (i : Int) < (n : Int)) = True := eq_true (by have := of_decide_eq_true hsb; omega)
       have hq0 : ((0 : Int) ≤ (i : Int)) = True := eq_true (by omega)
       have hq1 : ((i : Int) < (a2.size : Int)) = True := eq_true (of_decide_eq_true hi1b)
       have htn : ((a : Int) + (i : Int)).toNat = a + i := by omega
       go_wp2
       go_roundg (a2.size - (i + 1))
       case measure => have := HN.out; have := of_decide_eq_true hi1b; omega
       case rel =>
        have h1 := HN1.out
        have e : (a2[i].toNat : Int) = (((X.getD i 0) : UInt8).toNat : Int) := by rw [← HIB.out hi1n, getElem!_pos a2 i hi1n]
        refine ⟨i + 1, n, g, cp, by go_num, rfl, ⟨h1.1, h1.2.1, Nat.le_refl _, h1.2.2⟩, ⟨?_⟩, ⟨HW.out.setCell (p := ⟨g, a + i, none⟩) HM.out.base _⟩⟩
        have h2 := HSET.out
        rw [← HLS.out, e]
        rw [show (spec_l16Lay.toI (spec_l16Lay.lay (spec_l16Lay.pad B a) X a i)).set (a + i) (((X.getD i 0) : UInt8).toNat : Int) = spec_l16Lay.toI ((spec_l16Lay.lay (spec_l16Lay.pad B a) X a i).set (a + i) (X.getD i 0)) from by simp [spec_l16Lay.toI, List.map_set]] at h2
        exact h2
      ·have hsb : decide (wrap64 ((a : Int) + (i : Int)) < (n : Int)) = false := decide_eq_false (by rw [HWR.out]; omega)
       have HLS := am (spec_l16Lay.lay_app (spec_l16Lay.pad B a) X a i hi1 (by omega))
       have HN1 := am (show i + 1 ≤ X.length ∧ i + 1 ≤ 64 - a ∧ n + 1 = max B.length (a + (i + 1)) ∧ (spec_l16Lay.toI (spec_l16Lay.lay (spec_l16Lay.pad B a) X a i)).length = n ∧ (spec_l16Lay.toI (spec_l16Lay.lay (spec_l16Lay.pad B a) X a i)).length < 1000000 from by rw [spec_l16Lay.toI_length, hll]; omega)
       clear hn hPl hll htn
       go_upto_if 35 with fail
       rw [HWR.out] at *
       have hq0 : ((0 : Int) ≤ (i : Int)) = True := eq_true (by omega)
       have hq1 : ((i : Int) < (a2.size : Int)) = True := eq_true (of_decide_eq_true hi1b)
       go_wp2_with (first | ((with_reducible refine gate_builtin (b := .append) (xs := #[.tmp 44, .tmp 48]) rfl ?_); at_builtin; refine spec_l16Lay.MB.wappend rfl (.tmp 44) (.tmp 48) 48 rfl 5 i0 Try.underlying48 hi hz0 hz1 hz2 w.heap.size g cp (spec_l16Lay.toI (spec_l16Lay.lay (spec_l16Lay.pad B a) X a i)) (HM.out.alloc _) (by have := HW.out.size; simp; omega) n HN1.out.2.2.2.1 rfl ⟨wr.heap.size, 0, none⟩ 1 (a2[i].toNat : Int) rfl (by simp) HN1.out.2.2.2.2 ?_; intro g' cp' w' hM' hB'; have HM' := am hM'; have HB' := am hB'; clear hM' hB'))
       go_roundg (a2.size - (i + 1))
       case measure => have := HN.out; have := of_decide_eq_true hi1b; omega
       case rel =>
        have h1 := HN1.out
        have e : (a2[i].toNat : Int) = (((X.getD i 0) : UInt8).toNat : Int) := by rw [← HIB.out hi1n, getElem!_pos a2 i hi1n]
        refine ⟨i + 1, n + 1, g', cp', by go_num, rfl, ⟨h1.1, h1.2.1, Nat.le_refl _, h1.2.2.1⟩, ⟨?_⟩, ⟨(HW.out.alloc HW.out.size _).trans HB'.out⟩⟩
        have h2 := HM'.out
        rw [← HLS.out]
        rw [e, show spec_l16Lay.toI (spec_l16Lay.lay (spec_l16Lay.pad B a) X a i) ++ [(((X.getD i 0) : UInt8).toNat : Int)] = spec_l16Lay.toI (spec_l16Lay.lay (spec_l16Lay.pad B a) X a i ++ [X.getD i 0]) from by simp [spec_l16Lay.toI]] at h2
        exact h2
     ·have h64b : decide (wrap64 ((a : Int) + (i : Int)) < 64) = false := decide_eq_false (by rw [HWR.out]; omega)
      have HE := am (show i = min a2.size (64 - a) ∧ (spec_l16Lay.toI (spec_l16Lay.lay (spec_l16Lay.pad B a) X a i)).length = n from by rw [spec_l16Lay.toI_length, hll]; omega)
      clear hn hPl hll htn
      go_wp2_with (first | ((with_reducible refine gate_dst (N := 51) rfl ?_); refine spec_l16Lay.MB.wstr rfl (.tmp 50) 48 9 5 rfl Try.underlying48 Try.underlying5 Try.underlying9 w.heap.size g cp n _ HM.out HE.out.2 rfl ?_))
      go_ret
      exact ⟨by rw [spec_l16Lay.str_toI, HE.out.1, HR.out] <;> rfl, HW.out⟩
    ·have hi1b : decide ((i : Int) < (a2.size : Int)) = false := decide_eq_false (by omega)
     have HE := am (show i = min a2.size (64 - a) ∧ (spec_l16Lay.toI (spec_l16Lay.lay (spec_l16Lay.pad B a) X a i)).length = n from by rw [spec_l16Lay.toI_length, hll]; omega)
     clear hn hPl hll htn
     go_wp2_with (first | ((with_reducible refine gate_dst (N := 51) rfl ?_); refine spec_l16Lay.MB.wstr rfl (.tmp 50) 48 9 5 rfl Try.underlying48 Try.underlying5 Try.underlying9 w.heap.size g cp n _ HM.out HE.out.2 rfl ?_))
     go_ret
     exact ⟨by rw [spec_l16Lay.str_toI, HE.out.1, HR.out] <;> rfl, HW.out⟩

/-! ### spec_l00Min: function 95 -/
def spec_l00Min.f (a0 : Int) (a1 : Int) : Option (Int) := if a0 < a1 then (some a0) else (some a1)
set_option maxHeartbeats 8000000 in
set_option maxRecDepth 100000 in
theorem spec_l00Min.calls (a0 : Int) (a1 : Int) (r : Int) (w : World) (h : spec_l00Min.f a0 a1 = some r) :
  Calls Try.prog 95 #[.int .i64 a0, .int .i64 a1] w fun e w' => e = .returned (.int .i64 r) ∧ Drawn0 w w' := by
 have H : (if a0 < a1 then (some a0) else (some a1)) = some r := h
 clear h
 by_cases c3 : a0 < a1
 ·rw [if_pos c3] at H
  have c3b0 : decide (a0 < a1) = true := decide_eq_true c3
  clear c3
  obtain rfl := Option.some.inj H
  go_enter Try.func95, Try.ntmps95
  go_wp2
  go_ret
  exact ⟨by first | rfl | (simp; done) | (simp [*]; done), by repeat (first | exact Drawn0.refl _ | apply Drawn0.step)⟩
 ·rw [if_neg c3] at H
  have c3b0 : decide (a0 < a1) = false := decide_eq_false c3
  clear c3
  obtain rfl := Option.some.inj H
  go_enter Try.func95, Try.ntmps95
  go_wp2
  go_ret
  exact ⟨by first | rfl | (simp; done) | (simp [*]; done), by repeat (first | exact Drawn0.refl _ | apply Drawn0.step)⟩

/-! ### spec_ApplyOp: function 43 -/
mutual
def spec_ApplyOp.j0 : Nat → ByteArray → Bool → Bool → Int → Int → ByteArray → Option (ByteArray × Bool)
 | 0, _, _, _, _, _, _ => none
 | k + 1, x0, x1, x16, x115000, x115001, x115002 => if x16 = true then (some ((⟨#[]⟩ : ByteArray), false)) else (if x1 = true then (spec_ApplyOp.j1 k x0 x1 x115000 x115001 x115002) else (spec_ApplyOp.j1 k (⟨#[]⟩ : ByteArray) x1 x115000 x115001 x115002))
def spec_ApplyOp.j1 : Nat → ByteArray → Bool → Int → Int → ByteArray → Option (ByteArray × Bool)
 | 0, _, _, _, _, _ => none
 | k + 1, x0, x1, x115000, x115001, x115002 => if x115000 = 1 then (some (x0, x1)) else (if x115000 = 2 then (some (x115002, true)) else (if x115000 = 3 then ((spec_l16Lay.f x0 x115001 x115002).bind fun t118 => (some (t118, true))) else (if x115000 = 4 then ((spec_l16Lay.f x0 (x0.size : Int) x115002).bind fun t119 => (some (t119, true))) else (if x115000 = 5 then ((spec_l00Min.f x115001 (x0.size : Int)).bind fun t120 => (if 0 ≤ t120 then (if t120 ≤ (x0.size : Int) then (some (x0.extract 0 (t120 : Int).toNat, x1)) else (none)) else (none))) else (some ((⟨#[]⟩ : ByteArray), false))))))
end
def spec_ApplyOp.f (k : Nat) (a0 : ByteArray) (a1 : Bool) (a2_0 : Int) (a2_1 : Int) (a2_2 : ByteArray) : Option (ByteArray × Bool) := (spec_l16Plain.f).bind fun bt115 => ((spec_OpOk.f k bt115.1 bt115.2 a2_0 a2_1 a2_2).bind fun t117 => (if t117 = true then (spec_ApplyOp.j0 k a0 a1 (decide ((a0.size : Int) > 64)) a2_0 a2_1 a2_2) else (spec_ApplyOp.j0 k a0 a1 true a2_0 a2_1 a2_2)))
theorem spec_ApplyOp.mono_l : ∀ k, (∀ y0 y1 y2 y3 y4 y5, LeO (spec_ApplyOp.j0 k y0 y1 y2 y3 y4 y5) (spec_ApplyOp.j0 (k + 1) y0 y1 y2 y3 y4 y5)) ∧ (∀ y0 y1 y2 y3 y4, LeO (spec_ApplyOp.j1 k y0 y1 y2 y3 y4) (spec_ApplyOp.j1 (k + 1) y0 y1 y2 y3 y4))
 | 0 => ⟨fun _ _ _ _ _ _ r h => by simp [spec_ApplyOp.j0] at h, fun _ _ _ _ _ r h => by simp [spec_ApplyOp.j1] at h⟩
 | k + 1 => by
  obtain ⟨ih0, ih1⟩ := spec_ApplyOp.mono_l k
  refine ⟨?_, ?_⟩
  ·intro y0 y1 y2 y3 y4 y5
   unfold spec_ApplyOp.j0
   repeat' first
   | (with_reducible exact ih0 _ _ _ _ _ _)
   | (with_reducible exact ih1 _ _ _ _ _)
   | (with_reducible exact spec_OpOk.mono _ _ _ _ _ _)
   | (with_reducible exact LeO.refl _)
   | (with_reducible exact LeO.none _)
   | (with_reducible refine LeO.ite ?_ ?_)
   | (with_reducible refine LeO.bind ?_ (fun _ => ?_))
   | exact ih0 _ _ _ _ _ _
   | exact ih1 _ _ _ _ _
   | exact spec_OpOk.mono _ _ _ _ _ _
   | exact LeO.none _
   | refine LeO.ite ?_ ?_
   | refine LeO.bind ?_ (fun _ => ?_)
  ·intro y0 y1 y2 y3 y4
   unfold spec_ApplyOp.j1
   repeat' first
   | (with_reducible exact ih0 _ _ _ _ _ _)
   | (with_reducible exact ih1 _ _ _ _ _)
   | (with_reducible exact spec_OpOk.mono _ _ _ _ _ _)
   | (with_reducible exact LeO.refl _)
   | (with_reducible exact LeO.none _)
   | (with_reducible refine LeO.ite ?_ ?_)
   | (with_reducible refine LeO.bind ?_ (fun _ => ?_))
   | exact ih0 _ _ _ _ _ _
   | exact ih1 _ _ _ _ _
   | exact spec_OpOk.mono _ _ _ _ _ _
   | exact LeO.none _
   | refine LeO.ite ?_ ?_
   | refine LeO.bind ?_ (fun _ => ?_)
theorem spec_ApplyOp.mono : ∀ a0 a1 a2 a3 a4 k, LeO (spec_ApplyOp.f k a0 a1 a2 a3 a4) (spec_ApplyOp.f (k + 1) a0 a1 a2 a3 a4) := by
 intro a0 a1 a2 a3 a4 k
 obtain ⟨ih0, ih1⟩ := spec_ApplyOp.mono_l k
 unfold spec_ApplyOp.f
 repeat' first
   | (with_reducible exact ih0 _ _ _ _ _ _)
   | (with_reducible exact ih1 _ _ _ _ _)
   | (with_reducible exact spec_OpOk.mono _ _ _ _ _ _)
   | (with_reducible exact LeO.refl _)
   | (with_reducible exact LeO.none _)
   | (with_reducible refine LeO.ite ?_ ?_)
   | (with_reducible refine LeO.bind ?_ (fun _ => ?_))
   | exact ih0 _ _ _ _ _ _
   | exact ih1 _ _ _ _ _
   | exact spec_OpOk.mono _ _ _ _ _ _
   | exact LeO.none _
   | refine LeO.ite ?_ ?_
   | refine LeO.bind ?_ (fun _ => ?_)
def spec_ApplyOp.T1 : Bool × List (List Nat × List Nat) := (true, [([], []), ([], []), ([0, 1, 0], [0, 1]), ([2], [2]), ([3, 2], [3]), ([4], [4]), ([5, 4], [4, 5]), ([6, 4], [4, 6]), ([4, 7], [4, 7])])
def spec_ApplyOp.B1 : List Nat := [0, 0, 3, 7, 15, 31, 63, 127, 255]
theorem spec_ApplyOp.tab1 : rtab .any (opsOf Try.f43 1) = spec_ApplyOp.T1 := by kernel_rfl
theorem spec_ApplyOp.bits1 : waitsOk spec_ApplyOp.T1.2 spec_ApplyOp.B1 = true := by kernel_rfl
set_option maxHeartbeats 8000000 in
set_option maxRecDepth 100000 in
theorem spec_ApplyOp.calls (k : Nat) (a0 : ByteArray) (a1 : Bool) (a2_0 : Int) (a2_1 : Int) (a2_2 : ByteArray) (r1 : ByteArray) (r2 : Bool) (w : World) (h : spec_ApplyOp.f k a0 a1 a2_0 a2_1 a2_2 = some (r1, r2)) :
  Calls Try.prog 43 #[.string a0, .bool a1, .agg #[.int .i64 a2_0, .int .i64 a2_1, .string a2_2]] w fun e w' => e = .returned (.tuple #[.string r1, .bool r2]) ∧ Below w.heap.size w w' := by
 have hu60 := Try.underlying60
 have HB := am (Below.refl w.heap.size w)
 have H : ((spec_l16Plain.f).bind fun bt115 => ((spec_OpOk.f k bt115.1 bt115.2 a2_0 a2_1 a2_2).bind fun t117 => (if t117 = true then (spec_ApplyOp.j0 k a0 a1 (decide ((a0.size : Int) > 64)) a2_0 a2_1 a2_2) else (spec_ApplyOp.j0 k a0 a1 true a2_0 a2_1 a2_2)))) = some (r1, r2) := h
 clear h
 have HC4 := am H
 clear H
 go_enter Try.func43, Try.ntmps43
 go_upto_region 1 with (first | ((with_reducible refine gate_dst (N := 5) rfl ?_); (try (refine gate_guard (by rfl) ?_; dsimp only)); refine box_event ?hg (N := 5) ?hd (cs := #[.int .i64 a2_0, .int .i64 a2_1, .string a2_2]) (t := 60) ?hr ?_; (case hd => rfl); (case hg => rfl); (case hr => first | (go_simp; done) | (go_simp; rfl)); intro gb114 hg w5 hbox hb; have n0_ := am (below_step (by repeat (first | (with_reducible first | exact HB.out | apply bal | apply pdn | apply bd1) | exact HB.out)) hb); have n1_ := am (hbox); have n2_ := am ((by rw [hg]; exact (below_size (by repeat (first | (with_reducible first | exact HB.out | apply bal | apply pdn | apply bd1) | exact HB.out))) : w.heap.size ≤ gb114)); have n3_ := am ((by rw [hg]; exact (below_size (by repeat (first | (with_reducible first | exact HB.out | apply bal | apply pdn | apply bd1) | exact HB.out))) : w.heap.size ≤ gb114)); clear HB; have HB := n0_; have BK114 := n1_; have GW114 := n2_; have GE114 := n3_; clear n0_ n1_ n2_ n3_; clear hb hbox hg))
 (try simp only [Act.put, sit, scz, scs])
 go_cut [16] (fun v16 wc => ∃ (kq : Nat) (x16_3 : Bool), v16 = .bool x16_3 ∧ Aside0 (spec_ApplyOp.j0 kq a0 a1 x16_3 a2_0 a2_1 a2_2 = some (r1, r2)) ∧ Aside0 (kq ≤ k) ∧ Aside0 (wc.heap[gb114]? = some (.cells #[.int .i64 a2_0, .int .i64 a2_1, .string a2_2] 60 (0, 0))) ∧ Aside0 (Below w.heap.size w wc))
 case first =>
  have H := HC4.out
  clear HC4
  replace H := Option.bind_eq_some_iff.mp H
  obtain ⟨⟨t115, t116⟩, A60, H⟩ := H
  replace H : ((spec_OpOk.f k t115 t116 a2_0 a2_1 a2_2).bind fun t117 => (if t117 = true then (spec_ApplyOp.j0 k a0 a1 (decide ((a0.size : Int) > 64)) a2_0 a2_1 a2_2) else (spec_ApplyOp.j0 k a0 a1 true a2_0 a2_1 a2_2))) = some (r1, r2) := H
  have A6 := am A60
  clear A60
  replace H := Option.bind_eq_some_iff.mp H
  obtain ⟨t117, A70, H⟩ := H
  replace H : (if t117 = true then (spec_ApplyOp.j0 k a0 a1 (decide ((a0.size : Int) > 64)) a2_0 a2_1 a2_2) else (spec_ApplyOp.j0 k a0 a1 true a2_0 a2_1 a2_2)) = some (r1, r2) := H
  have A7 := am A70
  clear A70
  by_cases c8 : t117 = true
  ·subst c8
   have H1 : (spec_ApplyOp.j0 k a0 a1 (decide ((a0.size : Int) > 64)) a2_0 a2_1 a2_2) = some (r1, r2) := by rw [if_pos rfl] at H; exact H
   clear H
   have H := H1
   clear H1
   have H' := am H
   clear H
   try go_wp2
   have n0_ := am (kdr BK114.out)
   have n1_ := am (bd1 HB.out)
   clear BK114
   clear HB
   have BK114 := n0_
   have HB := n1_
   clear n0_ n1_
   refine start_ (n := 9) (S := fun w' => w'.cell? ⟨gb114, 0, none⟩ = some (.int .i64 a2_0) ∧ w'.cell? ⟨gb114, 1, none⟩ = some (.int .i64 a2_1) ∧ w'.cell? ⟨gb114, 2, none⟩ = some (.string a2_2)) (ds := []) #[false, false, false, false, false, false, false, false, false] (by kernel_rfl) rfl rfl ⟨(kce BK114.out 0).trans rfl, (kce BK114.out 1).trans rfl, (kce BK114.out 2).trans rfl⟩ (fun hHeld => ?_); refine with_tabW spec_ApplyOp.tab1 spec_ApplyOp.bits1 (fun HT_ HW_ => ?_)
   generalize w5.drew = w9 at BK114 HB hHeld ⊢
   refine take_ (i := 1) (N := some 9) (v := ?_) (a' := ?_) #[false, true, false, false, false, false, false, false, false] rfl rfl (take_ofW HT_.out HW_.out (by kernel_rfl)) (fun _ _ _ h => h) (Or.inl ⟨by rfl, ?_⟩) hHeld ?_ ?_
   rotate_left
   ·rintro w' ⟨s0, s1, s2⟩
    go_simp
    with_reducible rfl
   rotate_left
   ·simp only [Act.put, sit, scz, scs, i64_w, i32_w]
    rfl
   refine one_ (i := 0) (N := some 8) #[true, true, false, false, false, false, false, false, false] rfl rfl (one_of HT_.out (by kernel_rfl)) (by decide) (fun K hK => ?_)
   refine goes_ Try.func83 (by kernel_rfl) rfl #[] (by rfl) rfl rfl (by (try simp only [mta, mco, mni]); first | done | rfl | (simp only [lnd, lnt]; rfl)) ?_
   with_reducible refine (spec_l16Plain.calls  t115 t116 _ A6.out).mono ?_
   rintro e w10 ⟨rfl, hb⟩
   refine ⟨_, rfl, ?_⟩
   have n0_ := am (kbb (g := gb114) (o := .cells #[.int .i64 a2_0, .int .i64 a2_1, .string a2_2] 60 (0, 0)) (by (with_reducible repeat (first | apply kdn | apply kdr | apply kal)); exact BK114.out) hb)
   have n1_ := am (below_step (by repeat (first | (with_reducible first | exact HB.out | apply bal | apply pdn | apply bd1 | refine bst ?_ GE114.out) | exact HB.out)) hb)
   clear BK114
   clear HB
   have BK114 := n0_
   have HB := n1_
   clear n0_ n1_
   refine hK.out _ _ ⟨(kce BK114.out 0).trans rfl, (kce BK114.out 1).trans rfl, (kce BK114.out 2).trans rfl⟩ (fun hHeld => ?_)
   clear hK K
   refine norm_ (a' := ?_) ?_ ?_
   rotate_left
   ·show Act.put _ (some 8) _ = _
    simp only [Act.put, sit, scz, scs, i64_w, i32_w]
    rfl
   refine one_ (i := 2) (N := some 10) #[true, true, true, false, false, false, false, false, false] rfl rfl (one_of HT_.out (by kernel_rfl)) (by decide) (fun K hK => ?_)
   refine goes_ Try.func53 (by kernel_rfl) rfl #[.agg #[.int .i64 t115, .int .i64 t116], .agg #[.int .i64 a2_0, .int .i64 a2_1, .string a2_2]] (by rfl) rfl rfl (by (try simp only [mta, mco, mni]); first | done | rfl | (simp only [lnd, lnt]; rfl)) ?_
   with_reducible refine (spec_OpOk.calls k t115 t116 a2_0 a2_1 a2_2 true _ A7.out).mono ?_
   rintro e w11 ⟨rfl, hb⟩
   refine ⟨_, rfl, ?_⟩
   have n0_ := am (kbb (g := gb114) (o := .cells #[.int .i64 a2_0, .int .i64 a2_1, .string a2_2] 60 (0, 0)) (by (with_reducible repeat (first | apply kdn | apply kdr | apply kal)); exact BK114.out) hb)
   have n1_ := am (below_step (by repeat (first | (with_reducible first | exact HB.out | apply bal | apply pdn | apply bd1 | refine bst ?_ GE114.out) | exact HB.out)) hb)
   clear BK114
   clear HB
   have BK114 := n0_
   have HB := n1_
   clear n0_ n1_
   refine hK.out _ _ ⟨(kce BK114.out 0).trans rfl, (kce BK114.out 1).trans rfl, (kce BK114.out 2).trans rfl⟩ (fun hHeld => ?_)
   clear hK K
   refine norm_ (a' := ?_) ?_ ?_
   rotate_left
   ·show Act.put _ (some 10) _ = _
    simp only [Act.put, sit, scz, scs, i64_w, i32_w]
    rfl
   refine pure_ (i := 3) (N := some 11) (v := ?_) (a' := ?_) #[true, true, true, true, false, false, false, false, false] rfl rfl (any_of HT_.out (by kernel_rfl)) (fun _ _ _ h => h) (Or.inl ⟨by rfl, ?_⟩) ?_ ?_
   rotate_left
   ·intro w'
    go_simp
    with_reducible rfl
   rotate_left
   ·simp only [Act.put, sit, scz, scs, i64_w, i32_w]
    rfl
   refine pure_ (i := 4) (N := some 12) (v := ?_) (a' := ?_) #[true, true, true, true, true, false, false, false, false] rfl rfl (any_of HT_.out (by kernel_rfl)) (fun _ _ _ h => h) (Or.inl ⟨by rfl, ?_⟩) ?_ ?_
   rotate_left
   ·intro w'
    go_simp
    with_reducible rfl
   rotate_left
   ·simp only [Act.put, sit, scz, scs, i64_w, i32_w]
    rfl
   refine pure_ (i := 5) (N := some 13) (v := ?_) (a' := ?_) #[true, true, true, true, true, true, false, false, false] rfl rfl (any_of HT_.out (by kernel_rfl)) (fun _ _ _ h => h) (Or.inl ⟨by rfl, ?_⟩) ?_ ?_
   rotate_left
   ·intro w'
    go_simp
    with_reducible rfl
   rotate_left
   ·simp only [Act.put, sit, scz, scs, i64_w, i32_w]
    rfl
   refine pure_ (i := 6) (N := some 14) (v := ?_) (a' := ?_) #[true, true, true, true, true, true, true, false, false] rfl rfl (any_of HT_.out (by kernel_rfl)) (fun _ _ _ h => h) (Or.inl ⟨by rfl, ?_⟩) ?_ ?_
   rotate_left
   ·intro w'
    go_simp
    with_reducible rfl
   rotate_left
   ·simp only [Act.put, sit, scz, scs, i64_w, i32_w]
    rfl
   refine pure_ (i := 7) (N := some 15) (v := ?_) (a' := ?_) #[true, true, true, true, true, true, true, true, false] rfl rfl (any_of HT_.out (by kernel_rfl)) (fun _ _ _ h => h) (Or.inl ⟨by rfl, ?_⟩) ?_ ?_
   rotate_left
   ·intro w'
    go_simp
    with_reducible rfl
   rotate_left
   ·simp only [Act.put, sit, scz, scs, i64_w, i32_w]
    rfl
   refine pure_ (i := 8) (N := some 16) (v := ?_) (a' := ?_) #[true, true, true, true, true, true, true, true, true] rfl rfl (any_of HT_.out (by kernel_rfl)) (fun _ _ _ h => h) (Or.inl ⟨by rfl, ?_⟩) ?_ ?_
   rotate_left
   ·intro w'
    go_simp
    with_reducible rfl
   rotate_left
   ·simp only [Act.put, sit, scz, scs, i64_w, i32_w]
    rfl
   refine done_ (done_of HT_.out (by kernel_rfl)) ?_
   try go_wp2
   go_meet
   case rel => exact ⟨_, (decide ((a0.size : Int) > 64)), (by first | rfl | (simp; done) | (simp [*]; done)), H', ⟨by first | omega | exact Nat.le_refl _⟩, ⟨by (with_reducible repeat (first | apply kdn | apply kdr | apply kal)); exact BK114.out⟩, ⟨by repeat (first | (with_reducible first | exact HB.out | apply bal | apply pdn | apply bd1 | refine bst ?_ GE114.out) | exact HB.out)⟩⟩
  ·replace c8 := Bool.eq_false_iff.mpr c8
   subst c8
   have H1 : (spec_ApplyOp.j0 k a0 a1 true a2_0 a2_1 a2_2) = some (r1, r2) := by rw [if_neg (show ¬ (false = true) by decide)] at H; exact H
   clear H
   have H := H1
   clear H1
   have H' := am H
   clear H
   try go_wp2
   have n0_ := am (kdr BK114.out)
   have n1_ := am (bd1 HB.out)
   clear BK114
   clear HB
   have BK114 := n0_
   have HB := n1_
   clear n0_ n1_
   refine start_ (n := 9) (S := fun w' => w'.cell? ⟨gb114, 0, none⟩ = some (.int .i64 a2_0) ∧ w'.cell? ⟨gb114, 1, none⟩ = some (.int .i64 a2_1) ∧ w'.cell? ⟨gb114, 2, none⟩ = some (.string a2_2)) (ds := []) #[false, false, false, false, false, false, false, false, false] (by kernel_rfl) rfl rfl ⟨(kce BK114.out 0).trans rfl, (kce BK114.out 1).trans rfl, (kce BK114.out 2).trans rfl⟩ (fun hHeld => ?_); refine with_tabW spec_ApplyOp.tab1 spec_ApplyOp.bits1 (fun HT_ HW_ => ?_)
   generalize w5.drew = w12 at BK114 HB hHeld ⊢
   refine take_ (i := 1) (N := some 9) (v := ?_) (a' := ?_) #[false, true, false, false, false, false, false, false, false] rfl rfl (take_ofW HT_.out HW_.out (by kernel_rfl)) (fun _ _ _ h => h) (Or.inl ⟨by rfl, ?_⟩) hHeld ?_ ?_
   rotate_left
   ·rintro w' ⟨s0, s1, s2⟩
    go_simp
    with_reducible rfl
   rotate_left
   ·simp only [Act.put, sit, scz, scs, i64_w, i32_w]
    rfl
   refine one_ (i := 0) (N := some 8) #[true, true, false, false, false, false, false, false, false] rfl rfl (one_of HT_.out (by kernel_rfl)) (by decide) (fun K hK => ?_)
   refine goes_ Try.func83 (by kernel_rfl) rfl #[] (by rfl) rfl rfl (by (try simp only [mta, mco, mni]); first | done | rfl | (simp only [lnd, lnt]; rfl)) ?_
   with_reducible refine (spec_l16Plain.calls  t115 t116 _ A6.out).mono ?_
   rintro e w13 ⟨rfl, hb⟩
   refine ⟨_, rfl, ?_⟩
   have n0_ := am (kbb (g := gb114) (o := .cells #[.int .i64 a2_0, .int .i64 a2_1, .string a2_2] 60 (0, 0)) (by (with_reducible repeat (first | apply kdn | apply kdr | apply kal)); exact BK114.out) hb)
   have n1_ := am (below_step (by repeat (first | (with_reducible first | exact HB.out | apply bal | apply pdn | apply bd1 | refine bst ?_ GE114.out) | exact HB.out)) hb)
   clear BK114
   clear HB
   have BK114 := n0_
   have HB := n1_
   clear n0_ n1_
   refine hK.out _ _ ⟨(kce BK114.out 0).trans rfl, (kce BK114.out 1).trans rfl, (kce BK114.out 2).trans rfl⟩ (fun hHeld => ?_)
   clear hK K
   refine norm_ (a' := ?_) ?_ ?_
   rotate_left
   ·show Act.put _ (some 8) _ = _
    simp only [Act.put, sit, scz, scs, i64_w, i32_w]
    rfl
   refine one_ (i := 2) (N := some 10) #[true, true, true, false, false, false, false, false, false] rfl rfl (one_of HT_.out (by kernel_rfl)) (by decide) (fun K hK => ?_)
   refine goes_ Try.func53 (by kernel_rfl) rfl #[.agg #[.int .i64 t115, .int .i64 t116], .agg #[.int .i64 a2_0, .int .i64 a2_1, .string a2_2]] (by rfl) rfl rfl (by (try simp only [mta, mco, mni]); first | done | rfl | (simp only [lnd, lnt]; rfl)) ?_
   with_reducible refine (spec_OpOk.calls k t115 t116 a2_0 a2_1 a2_2 false _ A7.out).mono ?_
   rintro e w14 ⟨rfl, hb⟩
   refine ⟨_, rfl, ?_⟩
   have n0_ := am (kbb (g := gb114) (o := .cells #[.int .i64 a2_0, .int .i64 a2_1, .string a2_2] 60 (0, 0)) (by (with_reducible repeat (first | apply kdn | apply kdr | apply kal)); exact BK114.out) hb)
   have n1_ := am (below_step (by repeat (first | (with_reducible first | exact HB.out | apply bal | apply pdn | apply bd1 | refine bst ?_ GE114.out) | exact HB.out)) hb)
   clear BK114
   clear HB
   have BK114 := n0_
   have HB := n1_
   clear n0_ n1_
   refine hK.out _ _ ⟨(kce BK114.out 0).trans rfl, (kce BK114.out 1).trans rfl, (kce BK114.out 2).trans rfl⟩ (fun hHeld => ?_)
   clear hK K
   refine norm_ (a' := ?_) ?_ ?_
   rotate_left
   ·show Act.put _ (some 10) _ = _
    simp only [Act.put, sit, scz, scs, i64_w, i32_w]
    rfl
   refine pure_ (i := 3) (N := some 11) (v := ?_) (a' := ?_) #[true, true, true, true, false, false, false, false, false] rfl rfl (any_of HT_.out (by kernel_rfl)) (fun _ _ _ h => h) (Or.inl ⟨by rfl, ?_⟩) ?_ ?_
   rotate_left
   ·intro w'
    go_simp
    with_reducible rfl
   rotate_left
   ·simp only [Act.put, sit, scz, scs, i64_w, i32_w]
    rfl
   refine pure_ (i := 4) (N := some 12) (v := ?_) (a' := ?_) #[true, true, true, true, true, false, false, false, false] rfl rfl (any_of HT_.out (by kernel_rfl)) (fun _ _ _ h => h) (Or.inl ⟨by rfl, ?_⟩) ?_ ?_
   rotate_left
   ·intro w'
    go_simp
    with_reducible rfl
   rotate_left
   ·simp only [Act.put, sit, scz, scs, i64_w, i32_w]
    rfl
   refine pure_ (i := 5) (N := some 13) (v := undef) (a' := ?_) #[true, true, true, true, true, true, false, false, false] rfl rfl (any_of HT_.out (by kernel_rfl)) (fun _ _ _ h => h) (Or.inr ⟨by rfl, rfl⟩) ?_ ?_
   rotate_left
   ·simp only [Act.put, sit, scz, scs, i64_w, i32_w]
    rfl
   refine pure_ (i := 6) (N := some 14) (v := undef) (a' := ?_) #[true, true, true, true, true, true, true, false, false] rfl rfl (any_of HT_.out (by kernel_rfl)) (fun _ _ _ h => h) (Or.inr ⟨by rfl, rfl⟩) ?_ ?_
   rotate_left
   ·simp only [Act.put, sit, scz, scs, i64_w, i32_w]
    rfl
   refine pure_ (i := 7) (N := some 15) (v := undef) (a' := ?_) #[true, true, true, true, true, true, true, true, false] rfl rfl (any_of HT_.out (by kernel_rfl)) (fun _ _ _ h => h) (Or.inr ⟨by rfl, rfl⟩) ?_ ?_
   rotate_left
   ·simp only [Act.put, sit, scz, scs, i64_w, i32_w]
    rfl
   refine pure_ (i := 8) (N := some 16) (v := ?_) (a' := ?_) #[true, true, true, true, true, true, true, true, true] rfl rfl (any_of HT_.out (by kernel_rfl)) (fun _ _ _ h => h) (Or.inl ⟨by rfl, ?_⟩) ?_ ?_
   rotate_left
   ·intro w'
    go_simp
    with_reducible rfl
   rotate_left
   ·simp only [Act.put, sit, scz, scs, i64_w, i32_w]
    rfl
   refine done_ (done_of HT_.out (by kernel_rfl)) ?_
   try go_wp2
   go_meet
   case rel => exact ⟨_, (true), (by first | rfl | (simp; done) | (simp [*]; done)), H', ⟨by first | omega | exact Nat.le_refl _⟩, ⟨by (with_reducible repeat (first | apply kdn | apply kdr | apply kal)); exact BK114.out⟩, ⟨by repeat (first | (with_reducible first | exact HB.out | apply bal | apply pdn | apply bd1 | refine bst ?_ GE114.out) | exact HB.out)⟩⟩
 case rest =>
  clear HC4
  obtain ⟨kq, x16_3, rfl, HA, HJ3, BK114, HB⟩ := hcut
  cases kq with
  | zero => exact absurd HA.out (by simp [spec_ApplyOp.j0])
  | succ kj3 =>
   have H := HA.out
   clear HA
   simp only [spec_ApplyOp.j0] at H
   by_cases c15 : x16_3 = true
   ·subst c15
    have H1 : (some ((⟨#[]⟩ : ByteArray), false)) = some (r1, r2) := by rw [if_pos rfl] at H; exact H
    clear H
    have H := H1
    clear H1
    simp only [Option.some.injEq, Prod.mk.injEq] at H
    obtain ⟨rfl, rfl⟩ := H
    go_wp2
    go_ret2
    exact ⟨by first | rfl | (simp [errW_none, errW_some] <;> rfl) | (simp [*, errW_none, errW_some] <;> rfl), by repeat (first | (with_reducible first | exact HB.out | apply bal | apply pdn | apply bd1 | refine bst ?_ GE114.out) | exact HB.out)⟩
   ·replace c15 := Bool.eq_false_iff.mpr c15
    subst c15
    have H1 : (if a1 = true then (spec_ApplyOp.j1 kj3 a0 a1 a2_0 a2_1 a2_2) else (spec_ApplyOp.j1 kj3 (⟨#[]⟩ : ByteArray) a1 a2_0 a2_1 a2_2)) = some (r1, r2) := by rw [if_neg (show ¬ (false = true) by decide)] at H; exact H
    clear H
    have H := H1
    clear H1
    have HC16 := am H
    clear H
    go_upto_if 18 with (fail)
    go_cut [0] (fun v0 wc => ∃ (kq : Nat) (x0_15 : ByteArray), v0 = .string x0_15 ∧ Aside0 (spec_ApplyOp.j1 kq x0_15 a1 a2_0 a2_1 a2_2 = some (r1, r2)) ∧ Aside0 (kq ≤ kj3) ∧ Aside0 (wc.heap[gb114]? = some (.cells #[.int .i64 a2_0, .int .i64 a2_1, .string a2_2] 60 (0, 0))) ∧ Aside0 (Below w.heap.size w wc))
    case first =>
     have H := HC16.out
     clear HC16
     by_cases c17 : a1 = true
     ·subst c17
      have H1 : (spec_ApplyOp.j1 kj3 a0 true a2_0 a2_1 a2_2) = some (r1, r2) := by rw [if_pos rfl] at H; exact H
      clear H
      have H := H1
      clear H1
      have H' := am H
      clear H
      go_wp2
      go_meet
      case rel => exact ⟨_, (a0), (by first | rfl | (simp; done) | (simp [*]; done)), H', ⟨by have := HJ3.out; first | omega | exact Nat.le_refl _⟩, ⟨by (with_reducible repeat (first | apply kdn | apply kdr | apply kal)); exact BK114.out⟩, ⟨by repeat (first | (with_reducible first | exact HB.out | apply bal | apply pdn | apply bd1 | refine bst ?_ GE114.out) | exact HB.out)⟩⟩
     ·replace c17 := Bool.eq_false_iff.mpr c17
      subst c17
      have H1 : (spec_ApplyOp.j1 kj3 (⟨#[]⟩ : ByteArray) false a2_0 a2_1 a2_2) = some (r1, r2) := by rw [if_neg (show ¬ (false = true) by decide)] at H; exact H
      clear H
      have H := H1
      clear H1
      have H' := am H
      clear H
      go_wp2
      go_meet
      case rel => exact ⟨_, ((⟨#[]⟩ : ByteArray)), (by first | rfl | (simp; done) | (simp [*]; done)), H', ⟨by have := HJ3.out; first | omega | exact Nat.le_refl _⟩, ⟨by (with_reducible repeat (first | apply kdn | apply kdr | apply kal)); exact BK114.out⟩, ⟨by repeat (first | (with_reducible first | exact HB.out | apply bal | apply pdn | apply bd1 | refine bst ?_ GE114.out) | exact HB.out)⟩⟩
    case rest =>
     clear HC16
     obtain ⟨kq, x0_15, rfl, HA, HJ15, BK114, HB⟩ := hcut
     cases kq with
     | zero => exact absurd HA.out (by simp [spec_ApplyOp.j1])
     | succ kj15 =>
      have H := HA.out
      clear HA
      simp only [spec_ApplyOp.j1] at H
      by_cases c18 : a2_0 = 1
      ·rw [if_pos c18] at H
       have c18b0 : (a2_0 == 1) = true := beq_iff_eq.mpr c18
       have c18b1 : (a2_0 != 1) = false := bne_eq_false_iff_eq.mpr c18
       clear c18
       simp only [Option.some.injEq, Prod.mk.injEq] at H
       obtain ⟨rfl, rfl⟩ := H
       have hcz19_0 : wc.cell? ⟨gb114, 0, none⟩ = some (.int .i64 a2_0) := (kce BK114.out 0).trans rfl
       have hcz19_1 : wc.cell? ⟨gb114, 1, none⟩ = some (.int .i64 a2_1) := (kce BK114.out 1).trans rfl
       have hcz19_2 : wc.cell? ⟨gb114, 2, none⟩ = some (.string a2_2) := (kce BK114.out 2).trans rfl
       have hfz19_0 := kfr BK114.out 0
       have hfz19_1 := kfr BK114.out 1
       have hfz19_2 := kfr BK114.out 2
       go_wp2
       go_ret2
       exact ⟨by first | rfl | (simp [errW_none, errW_some] <;> rfl) | (simp [*, errW_none, errW_some] <;> rfl), by repeat (first | (with_reducible first | exact HB.out | apply bal | apply pdn | apply bd1 | refine bst ?_ GE114.out) | exact HB.out)⟩
      ·rw [if_neg c18] at H
       have c18b0 : (a2_0 == 1) = false := beq_eq_false_iff_ne.mpr c18
       have c18b1 : (a2_0 != 1) = true := bne_iff_ne.mpr c18
       by_cases c20 : a2_0 = 2
       ·rw [if_pos c20] at H
        have c20b0 : (a2_0 == 2) = true := beq_iff_eq.mpr c20
        have c20b1 : (a2_0 != 2) = false := bne_eq_false_iff_eq.mpr c20
        clear c20
        simp only [Option.some.injEq, Prod.mk.injEq] at H
        obtain ⟨rfl, rfl⟩ := H
        have hcz21_0 : wc.cell? ⟨gb114, 0, none⟩ = some (.int .i64 a2_0) := (kce BK114.out 0).trans rfl
        have hcz21_1 : wc.cell? ⟨gb114, 1, none⟩ = some (.int .i64 a2_1) := (kce BK114.out 1).trans rfl
        have hcz21_2 : wc.cell? ⟨gb114, 2, none⟩ = some (.string a2_2) := (kce BK114.out 2).trans rfl
        have hfz21_0 := kfr BK114.out 0
        have hfz21_1 := kfr BK114.out 1
        have hfz21_2 := kfr BK114.out 2
        go_wp2
        go_ret2
        exact ⟨by first | rfl | (simp [errW_none, errW_some] <;> rfl) | (simp [*, errW_none, errW_some] <;> rfl), by repeat (first | (with_reducible first | exact HB.out | apply bal | apply pdn | apply bd1 | refine bst ?_ GE114.out) | exact HB.out)⟩
       ·rw [if_neg c20] at H
        have c20b0 : (a2_0 == 2) = false := beq_eq_false_iff_ne.mpr c20
        have c20b1 : (a2_0 != 2) = true := bne_iff_ne.mpr c20
        by_cases c22 : a2_0 = 3
        ·rw [if_pos c22] at H
         have c22b0 : (a2_0 == 3) = true := beq_iff_eq.mpr c22
         have c22b1 : (a2_0 != 3) = false := bne_eq_false_iff_eq.mpr c22
         clear c22
         replace H := Option.bind_eq_some_iff.mp H
         obtain ⟨t118, A230, H⟩ := H
         replace H : (some (t118, true)) = some (r1, r2) := H
         have A23 := am A230
         clear A230
         simp only [Option.some.injEq, Prod.mk.injEq] at H
         obtain ⟨rfl, rfl⟩ := H
         have hcz24_0 : wc.cell? ⟨gb114, 0, none⟩ = some (.int .i64 a2_0) := (kce BK114.out 0).trans rfl
         have hcz24_1 : wc.cell? ⟨gb114, 1, none⟩ = some (.int .i64 a2_1) := (kce BK114.out 1).trans rfl
         have hcz24_2 : wc.cell? ⟨gb114, 2, none⟩ = some (.string a2_2) := (kce BK114.out 2).trans rfl
         have hfz24_0 := kfr BK114.out 0
         have hfz24_1 := kfr BK114.out 1
         have hfz24_2 := kfr BK114.out 2
         go_wp2_with (first | ((with_reducible refine gate_callee (f := 94) rfl ?_); refine goesL_ (some 36) rfl rfl Try.func94 (by kernel_rfl) rfl #[.string x0_15, .int .i64 a2_1, .string a2_2] rfl (by (try simp only [mta, mco, mni]); first | done | rfl | (simp only [lnd, lnt]; rfl)) ?_; (with_reducible refine (spec_l16Lay.calls x0_15 a2_1 a2_2 t118 _ A23.out).mono ?_); rintro e w25 ⟨rfl, hb⟩; refine ⟨_, rfl, ?_⟩; have n0_ := am (kbb (g := gb114) (o := .cells #[.int .i64 a2_0, .int .i64 a2_1, .string a2_2] 60 (0, 0)) (by (with_reducible repeat (first | apply kdn | apply kdr | apply kal)); exact BK114.out) hb); have n1_ := am (below_step (by repeat (first | (with_reducible first | exact HB.out | apply bal | apply pdn | apply bd1 | refine bst ?_ GE114.out) | exact HB.out)) hb); clear BK114; clear HB; have BK114 := n0_; have HB := n1_; clear n0_ n1_; (try clear hb); (try clear hb2); (try clear hk); (try clear hi)))
         go_ret2
         exact ⟨by first | rfl | (simp [errW_none, errW_some] <;> rfl) | (simp [*, errW_none, errW_some] <;> rfl), by repeat (first | (with_reducible first | exact HB.out | apply bal | apply pdn | apply bd1 | refine bst ?_ GE114.out) | exact HB.out)⟩
        ·rw [if_neg c22] at H
         have c22b0 : (a2_0 == 3) = false := beq_eq_false_iff_ne.mpr c22
         have c22b1 : (a2_0 != 3) = true := bne_iff_ne.mpr c22
         by_cases c26 : a2_0 = 4
         ·rw [if_pos c26] at H
          have c26b0 : (a2_0 == 4) = true := beq_iff_eq.mpr c26
          have c26b1 : (a2_0 != 4) = false := bne_eq_false_iff_eq.mpr c26
          clear c26
          replace H := Option.bind_eq_some_iff.mp H
          obtain ⟨t119, A270, H⟩ := H
          replace H : (some (t119, true)) = some (r1, r2) := H
          have A27 := am A270
          clear A270
          simp only [Option.some.injEq, Prod.mk.injEq] at H
          obtain ⟨rfl, rfl⟩ := H
          have hcz28_0 : wc.cell? ⟨gb114, 0, none⟩ = some (.int .i64 a2_0) := (kce BK114.out 0).trans rfl
          have hcz28_1 : wc.cell? ⟨gb114, 1, none⟩ = some (.int .i64 a2_1) := (kce BK114.out 1).trans rfl
          have hcz28_2 : wc.cell? ⟨gb114, 2, none⟩ = some (.string a2_2) := (kce BK114.out 2).trans rfl
          have hfz28_0 := kfr BK114.out 0
          have hfz28_1 := kfr BK114.out 1
          have hfz28_2 := kfr BK114.out 2
          go_wp2_with (first | ((with_reducible refine gate_callee (f := 94) rfl ?_); refine goesL_ (some 44) rfl rfl Try.func94 (by kernel_rfl) rfl #[.string x0_15, .int .i64 (x0_15.size : Int), .string a2_2] rfl (by (try simp only [mta, mco, mni]); first | done | rfl | (simp only [lnd, lnt]; rfl)) ?_; (with_reducible refine (spec_l16Lay.calls x0_15 (x0_15.size : Int) a2_2 t119 _ A27.out).mono ?_); rintro e w29 ⟨rfl, hb⟩; refine ⟨_, rfl, ?_⟩; have n0_ := am (kbb (g := gb114) (o := .cells #[.int .i64 a2_0, .int .i64 a2_1, .string a2_2] 60 (0, 0)) (by (with_reducible repeat (first | apply kdn | apply kdr | apply kal)); exact BK114.out) hb); have n1_ := am (below_step (by repeat (first | (with_reducible first | exact HB.out | apply bal | apply pdn | apply bd1 | refine bst ?_ GE114.out) | exact HB.out)) hb); clear BK114; clear HB; have BK114 := n0_; have HB := n1_; clear n0_ n1_; (try clear hb); (try clear hb2); (try clear hk); (try clear hi)))
          go_ret2
          exact ⟨by first | rfl | (simp [errW_none, errW_some] <;> rfl) | (simp [*, errW_none, errW_some] <;> rfl), by repeat (first | (with_reducible first | exact HB.out | apply bal | apply pdn | apply bd1 | refine bst ?_ GE114.out) | exact HB.out)⟩
         ·rw [if_neg c26] at H
          have c26b0 : (a2_0 == 4) = false := beq_eq_false_iff_ne.mpr c26
          have c26b1 : (a2_0 != 4) = true := bne_iff_ne.mpr c26
          by_cases c30 : a2_0 = 5
          ·rw [if_pos c30] at H
           have c30b0 : (a2_0 == 5) = true := beq_iff_eq.mpr c30
           have c30b1 : (a2_0 != 5) = false := bne_eq_false_iff_eq.mpr c30
           clear c30
           replace H := Option.bind_eq_some_iff.mp H
           obtain ⟨t120, A310, H⟩ := H
           replace H : (if 0 ≤ t120 then (if t120 ≤ (x0_15.size : Int) then (some (x0_15.extract 0 (t120 : Int).toNat, a1)) else (none)) else (none)) = some (r1, r2) := H
           have A31 := am A310
           clear A310
           by_cases c32 : 0 ≤ t120
           ·rw [if_pos c32] at H
            have c32b0 := eq_true c32
            have c32b1 : decide (0 ≤ t120) = true := decide_eq_true c32
            clear c32
            by_cases c33 : t120 ≤ (x0_15.size : Int)
            ·rw [if_pos c33] at H
             have c33b0 := eq_true c33
             have c33b1 : decide (t120 ≤ (x0_15.size : Int)) = true := decide_eq_true c33
             clear c33
             simp only [Option.some.injEq, Prod.mk.injEq] at H
             obtain ⟨rfl, rfl⟩ := H
             have hcz34_0 : wc.cell? ⟨gb114, 0, none⟩ = some (.int .i64 a2_0) := (kce BK114.out 0).trans rfl
             have hcz34_1 : wc.cell? ⟨gb114, 1, none⟩ = some (.int .i64 a2_1) := (kce BK114.out 1).trans rfl
             have hcz34_2 : wc.cell? ⟨gb114, 2, none⟩ = some (.string a2_2) := (kce BK114.out 2).trans rfl
             have hfz34_0 := kfr BK114.out 0
             have hfz34_1 := kfr BK114.out 1
             have hfz34_2 := kfr BK114.out 2
             go_wp2_with (first | ((with_reducible refine gate_callee (f := 95) rfl ?_); refine goesL_ (some 52) rfl rfl Try.func95 (by kernel_rfl) rfl #[.int .i64 a2_1, .int .i64 (x0_15.size : Int)] rfl (by (try simp only [mta, mco, mni]); first | done | rfl | (simp only [lnd, lnt]; rfl)) ?_; (with_reducible refine (spec_l00Min.calls a2_1 (x0_15.size : Int) t120 _ A31.out).mono ?_); rintro e w' ⟨rfl, ⟨nd, rfl⟩⟩; refine ⟨_, rfl, ?_⟩))
             go_ret2
             exact ⟨by first | rfl | (simp [errW_none, errW_some] <;> rfl) | (simp [*, errW_none, errW_some] <;> rfl), by repeat (first | (with_reducible first | exact HB.out | apply bal | apply pdn | apply bd1 | refine bst ?_ GE114.out) | exact HB.out)⟩
            ·rw [if_neg c33] at H
             exact absurd H (by simp)
           ·rw [if_neg c32] at H
            exact absurd H (by simp)
          ·rw [if_neg c30] at H
           have c30b0 : (a2_0 == 5) = false := beq_eq_false_iff_ne.mpr c30
           have c30b1 : (a2_0 != 5) = true := bne_iff_ne.mpr c30
           simp only [Option.some.injEq, Prod.mk.injEq] at H
           obtain ⟨rfl, rfl⟩ := H
           have hcz35_0 : wc.cell? ⟨gb114, 0, none⟩ = some (.int .i64 a2_0) := (kce BK114.out 0).trans rfl
           have hcz35_1 : wc.cell? ⟨gb114, 1, none⟩ = some (.int .i64 a2_1) := (kce BK114.out 1).trans rfl
           have hcz35_2 : wc.cell? ⟨gb114, 2, none⟩ = some (.string a2_2) := (kce BK114.out 2).trans rfl
           have hfz35_0 := kfr BK114.out 0
           have hfz35_1 := kfr BK114.out 1
           have hfz35_2 := kfr BK114.out 2
           go_wp2
           go_ret2
           exact ⟨by first | rfl | (simp [errW_none, errW_some] <;> rfl) | (simp [*, errW_none, errW_some] <;> rfl), by repeat (first | (with_reducible first | exact HB.out | apply bal | apply pdn | apply bd1 | refine bst ?_ GE114.out) | exact HB.out)⟩

end Go.Proofs.Ythphhklbliambaa.MFnExactApplyOps
