/- The engine, part 32: the kit's summaries of library functions that turn a row of integers in place (Sort, DeleteFunc, Compact), as contracts of the engine. No condition. -/
import Derived.Test.YtfeaokelfbjcdaaE30
import Derived.Sort.OwnSortedInts
namespace Go.Ve
open Go.RowKit Go.Sort
set_option linter.unusedVariables false
set_option linter.unusedSimpArgs false

/-- What such a function hands back: nothing, or its slice cut to m. -/
def cutV (A : Option Addr) (cap : Nat) : Option Nat → Value
  | none => .tuple #[]
  | some m => .slice A m cap
def cutA : Option Nat → AV
  | none => .tup []
  | some m => .osl 0 1 0 m
def cutN (l : Nat) : Option Nat → Nat
  | none => l
  | some m => m
theorem SatM.of_put {P : Program} {f : FuncId} {n t : Nat} {l arr : List Int} {rest : List AV} {k : Option Nat} (hE : Enters P f) (hal : arr.length = l.length) (hk : cutN l.length k ≤ l.length)
    (hrest : ∀ x ∈ rest, ∀ q, ¬ Names x q)
    (hc : ∀ (W : World) (D : Nat → Nat → Prop) (β : Nat → Option Nat) (vs : List Value) (g cap : Nat) (cur : Array Value), vs.length = rest.length → (∀ (i : Nat) (x : AV), rest[i]? = some x → ∃ v, vs[i]? = some v ∧ Rep W D β v x) → (∀ ρ b, D ρ b → b < W.heap.size) → (∀ ρ, ¬ D ρ g) →
      W.heap[g]? = some (.cells cur t (0, 0)) → cur.toList.take l.length = l.map (Value.int .i64) → l.length ≤ cap → cap ≤ maxLen → cur.size = cap →
      Calls P f (.slice (some ⟨g, 0, none⟩) l.length cap :: vs).toArray W fun e W' => e = .returned (cutV (some ⟨g, 0, none⟩) cap k) ∧ ∃ q os, W' = grow (putRow (Value.int .i64) (Sort.ahead W q) g 0 arr.toArray) os)
    (hn : ∀ (W : World) (D : Nat → Nat → Prop) (β : Nat → Option Nat) (vs : List Value), l = [] → vs.length = rest.length → (∀ (i : Nat) (x : AV), rest[i]? = some x → ∃ v, vs[i]? = some v ∧ Rep W D β v x) → (∀ ρ b, D ρ b → b < W.heap.size) →
      Calls P f (.slice none 0 0 :: vs).toArray W fun e W' => e = .returned (cutV none 0 k) ∧ Below W.heap.size W W') :
    SatM P n f [.row t 1 (l.map (AV.int .i64))] (.osl 0 1 0 l.length :: rest) [.row t 1 ((arr.take (cutN l.length k)).map (AV.int .i64))] (cutA k) := by
  refine ⟨hE, fun W D β vs hn0 hst hlt hsep hbx hl ha => ?_⟩
  match vs, hl with
  | v0 :: vs, hl =>
  have hl' : vs.length = rest.length := by simpa using hl
  obtain ⟨u0, e0, hu0, _⟩ := ha 0 _ rfl
  simp only [List.getElem?_cons_zero, Option.some.injEq] at e0
  subst e0
  have har : ∀ (i : Nat) (x : AV), rest[i]? = some x → ∃ v, vs[i]? = some v ∧ Rep W D β v x := fun i x hi => by
    obtain ⟨v, h1, h2, _⟩ := ha (i + 1) x (by simpa using hi)
    exact ⟨v, by simpa using h1, h2⟩
  have hO : ∀ g, β 0 = some g → ∃ r, Live [.row t 1 (l.map (AV.int .i64))] r ∧ β r = some g := fun g hg => ⟨0, ⟨_, rfl, by simp⟩, hg⟩
  have live0 : ∀ {R : Root} {r : Nat}, Live [R] r → r = 0 := fun {R r} ⟨R', h1, _⟩ => by
    rcases r with _ | r
    · rfl
    · simp at h1
  have noN : ∀ q, Names (cutA k) q → q < 1 := fun q hq => by
    cases k with
    | none => cases hq with | tup _ y _ hy _ => cases hy
    | some m => cases hq; decide
  have hroot := hst.root 0 _ rfl
  have hosl : OslOk W β v0 0 1 0 l.length := by cases hu0 with | data _ _ hd => cases hd | osl _ _ _ _ _ ho => exact ho
  rcases hosl with ⟨hb, rfl, _, hl0⟩ | ⟨g, cap, t', cur, hb, rfl, hh, hsz, hcap, hlc⟩
  · have hln : l = [] := List.length_eq_zero_iff.1 hl0
    refine (hn W D β vs hln hl' har hlt).mono ?_
    rintro e W' ⟨rfl, hbl⟩
    have harr : arr = [] := List.length_eq_zero_iff.1 (by rw [hal, hln]; rfl)
    have hhp : ∀ b, b < W.heap.size → W'.heap[b]? = W.heap[b]? := fun b hb => hbl.block b hb
    subst harr hln
    refine ⟨_, D, β, rfl, ⟨⟨fun r R hr => ?_, fun r r' g h1 h2 _ _ => (live0 h1).trans (live0 h2).symm, fun r g ρ h1 h2 => ?_⟩, hbl.os, hbl.tape, hbl.output, hbl.size, fun b hb' hO' => hhp b hb', fun b t c fr hb' => ⟨c, (hhp b (Array.getElem?_eq_some_iff.1 hb').1).trans hb', rfl⟩, fun ρ b h => h, fun ρ b _ h => h, fun ρ b h => .inl h, fun ρ b h => .inl h, fun r g h1 h2 => ?_, fun ρ b h => Nat.lt_of_lt_of_le (hlt ρ b h) hbl.size, hsep, fun _ _ => rfl, Nat.le_refl _⟩, fun r R hr => ?_, fun r t cs y q hr hy hq => ?_, ?_, fun q hq => noN q hq⟩
    · rcases r with _ | r
      · simp at hr; subst hr; exact .inl ⟨hb, rfl⟩
      · simp at hr
    · rw [live0 h1, hb] at h2; cases h2
    · rw [live0 h1, hb] at h2; cases h2
    · rcases r with _ | r
      · simp at hr; subst hr; exact .inl ⟨hb, rfl⟩
      · simp at hr
    · rcases r with _ | r <;> simp at hr
    · cases k with
      | none => exact .tup _ _ (fun _ => Go.undef) rfl (fun i y hy => by simp at hy) (fun i y hy => by simp at hy)
      | some m =>
        obtain rfl : m = 0 := by simpa [cutN] using hk
        exact .osl _ _ _ _ _ (.inl ⟨hb, rfl, rfl, rfl⟩)
  · simp only [Nat.zero_mul, Nat.zero_add, Nat.mul_one] at hsz hcap
    rcases hroot with ⟨h0, _⟩ | ⟨g', cur', hb', hh', hcells⟩
    · rw [hb] at h0; cases h0
    rw [hb] at hb'
    injection hb' with hb'
    subst hb'
    rw [hh] at hh'
    injection hh' with hh'
    injection hh' with e1 e2 _
    subst e1 e2
    have htake : cur.toList.take l.length = l.map (Value.int .i64) := by
      apply List.ext_getElem?
      intro j
      by_cases hj : j < l.length
      · rw [List.getElem?_take_of_lt hj, Array.getElem?_toList]
        obtain ⟨h1, h2⟩ := hcells j (.int .i64 l[j]) (by simp [hj])
        obtain ⟨u, u1, u2⟩ := h2 0 (.int .i64 l[j]) rfl
        simp only [Nat.mul_one, Nat.add_zero] at u1
        cases u2
        rw [u1]
        simp [hj]
      · rw [List.getElem?_take_eq_none (by omega), List.getElem?_eq_none (by simp; omega)]
    have hfar : ∀ ρ, ¬ D ρ g := fun ρ => hst.far 0 g ρ ⟨_, rfl, by simp⟩ hb
    have hgl : g < W.heap.size := (Array.getElem?_eq_some_iff.1 hh).1
    have hca := hc W D β vs g cap cur hl' har hlt hfar hh htake hlc hcap hsz
    refine Calls.mono (by simpa using hca) ?_
    rintro e W' ⟨rfl, q, os, rfl⟩
    have hnew := heap_sortedI (w := W) (n := q) (os := os) arr.toArray hh
    have hgr := grownBy_sortedI (w := W) (g := g) (n := q) (os := os) arr.toArray
    have htk := take_putCellsI cur arr (by rw [hal]; omega)
    generalize (grow (putRow (Value.int .i64) (Sort.ahead W q) g 0 arr.toArray) os) = W' at *
    have hbl : Below 0 W W' := Below.grown (Below.refl _ _) hgr (Nat.zero_le _) (fun _ _ => Nat.zero_le _)
    have hother : ∀ b, b < W.heap.size → b ≠ g → W'.heap[b]? = W.heap[b]? := fun b hb' hne => hgr.block b hb' (fun e0 => hne (by injection e0))
    have hsize : W.heap.size ≤ W'.heap.size := hgr.size
    have hps : (putCells (Value.int .i64) 0 arr.toArray cur).size = cur.size := by simp [putCells]
    have hk' : cutN l.length k ≤ arr.length := by omega
    have rowok : RootOk W' D β 0 (.row t' 1 ((arr.take (cutN l.length k)).map (AV.int .i64))) := by
      refine .inr ⟨g, _, hb, hnew, fun i x hx => ?_⟩
      rw [List.getElem?_map, Option.map_eq_some_iff] at hx
      obtain ⟨z, hz, rfl⟩ := hx
      refine ⟨rfl, fun j y hy => ?_⟩
      rcases j with _ | j
      · simp only [AV.cells, List.getElem?_cons_zero, Option.some.injEq] at hy
        subst hy
        have hi := (List.getElem?_eq_some_iff.1 hz).1
        simp only [List.length_take] at hi
        have hic : i < cutN l.length k := by omega
        have hz' : arr[i]? = some z := by rw [List.getElem?_take, if_pos hic] at hz; exact hz
        refine ⟨.int .i64 z, ?_, .int ..⟩
        have := congrArg (fun l => l[i]?) htk
        simp only [List.getElem?_map, hz', Option.map_some] at this
        rw [List.getElem?_take_of_lt (by omega), Array.getElem?_toList] at this
        simpa using this
      · simp [AV.cells] at hy
    refine ⟨_, D, β, rfl, ⟨⟨fun r R hr => ?_, fun r r' g h1 h2 _ _ => (live0 h1).trans (live0 h2).symm, fun r g' ρ h1 h2 => ?_⟩, hbl.os, hbl.tape, hbl.output, hsize, fun b hb' hO' => hother b hb' (fun e0 => hO' (by subst e0; exact hO _ hb)), fun b t' c fr hb' => ?_, fun ρ b h => h, fun ρ b _ h => h, fun ρ b h => .inl h, fun ρ b h => .inl h, fun r g' h1 h2 => ?_, fun ρ b h => Nat.lt_of_lt_of_le (hlt ρ b h) hsize, hsep, fun _ _ => rfl, Nat.le_refl _⟩, fun r R hr => ?_, fun r t cs y q hr hy hq => ?_, ?_, fun q hq => noN q hq⟩
    · rcases r with _ | r
      · simp only [List.getElem?_cons_zero, Option.some.injEq] at hr; subst hr; exact rowok
      · simp at hr
    · rw [live0 h1, hb] at h2; injection h2 with h2; subst h2; exact hfar ρ
    · by_cases hbg : b = g
      · subst hbg
        rw [hh] at hb'
        injection hb' with hb'
        injection hb' with e1 e2 e3
        subst e1 e2 e3
        exact ⟨_, hnew, hps⟩
      · exact ⟨c, (hother b (Array.getElem?_eq_some_iff.1 hb').1 hbg).trans hb', rfl⟩
    · rw [live0 h1] at h2; exact .inr (hO g' h2)
    · rcases r with _ | r
      · simp only [List.getElem?_cons_zero, Option.some.injEq] at hr
        subst hr
        refine rowok.noz fun x hx y hy => ?_
        obtain ⟨z, _, rfl⟩ := List.mem_map.1 hx
        simp only [AV.cells, List.mem_cons, List.not_mem_nil, or_false] at hy
        subst hy
        exact .int ..
      · simp at hr
    · rcases r with _ | r <;> simp at hr
    · cases k with
      | none => exact .tup _ _ (fun _ => Go.undef) rfl (fun i y hy => by simp at hy) (fun i y hy => by simp at hy)
      | some m =>
        refine .osl _ _ _ _ _ (.inr ⟨g, cap, t', _, hb, by simp [cutV], hnew, by rw [hps, hsz]; simp, by simpa using hcap, ?_⟩)
        have : m ≤ l.length := hk
        omega
/-- A row of integers of the call's own, handed back. -/
theorem SatM.of_own {P : Program} {f : FuncId} {n t : Nat} {l : List Int} {args : List AV} (hE : Enters P f)
    (hc : ∀ (W : World) (D : Nat → Nat → Prop) (β : Nat → Option Nat) (vs : List Value), (∀ ρ b, D ρ b → b < W.heap.size) → vs.length = args.length → (∀ (i : Nat) (x : AV), args[i]? = some x → ∃ v, vs[i]? = some v ∧ Rep W D β v x) →
      Calls P f vs.toArray W fun e W' => ∃ v', e = .returned v' ∧ W'.ownsRow W.heap.size t 1 v' l.length (l.map (Value.int .i64)) ∧ Below W.heap.size W W') :
    SatM P n f [] args [.row t 1 (l.map (AV.int .i64))] (.osl 0 1 0 l.length) := by
  refine ⟨hE, fun W D β vs hn0 hst hlt hsep hbx hl ha => ?_⟩
  refine (hc W D β vs hlt hl fun i x hi => let ⟨v, h1, h2, _⟩ := ha i x hi; ⟨v, h1, h2⟩).mono ?_
  rintro e W' ⟨v', rfl, hown, hbl⟩
  have live0 : ∀ {R : Root} {r : Nat}, Live [R] r → r = 0 := fun {R r} ⟨R', h1, _⟩ => by
    rcases r with _ | r
    · rfl
    · simp at h1
  have fin : ∀ (β' : Nat → Option Nat), (∀ g, β' 0 = some g → W.heap.size ≤ g) → RootOk W' D β' 0 (.row t 1 (l.map (AV.int .i64))) → OslOk W' β' v' 0 1 0 l.length →
      ∃ v D' β', Ending.returned v' = Ending.returned v ∧ MemOk ⟨W, D, fun b => ∃ r, Live ([] : List Root) r ∧ β r = some b, n, β, ([] : List Root).length⟩ W' D' β' [.row t 1 (l.map (AV.int .i64))] ∧
      (∀ (r : Nat) (R : Root), [Root.row t 1 (l.map (AV.int .i64))][r]? = some R → RootOk W' (noz D') β' r R) ∧ (∀ (r t' : Nat) (cs : List AV) (y : AV) (q : Nat), [Root.row t 1 (l.map (AV.int .i64))][r]? = some (Root.box t' cs) → y ∈ cs → Names y q → q < [Root.row t 1 (l.map (AV.int .i64))].length) ∧
      Rep W' (noz D') β' v (.osl 0 1 0 l.length) ∧ ∀ q, Names (.osl 0 1 0 l.length) q → q < [Root.row t 1 (l.map (AV.int .i64))].length := by
    intro β' hg hr ho
    refine ⟨v', D, β', rfl, ⟨⟨fun r R hR => ?_, fun r r' g h1 h2 _ _ => (live0 h1).trans (live0 h2).symm, fun r g ρ h1 h2 h3 => ?_⟩, hbl.os, hbl.tape, hbl.output, hbl.size, fun b hb' _ => hbl.block b hb', fun b t c fr hb' => ⟨c, (hbl.block b (Array.getElem?_eq_some_iff.1 hb').1).trans hb', rfl⟩, fun ρ b h => h, fun ρ b _ h => h, fun ρ b h => .inl h, fun ρ b h => .inl h, fun r g h1 h2 => ?_, fun ρ b h => Nat.lt_of_lt_of_le (hlt ρ b h) hbl.size, hsep, fun r hr => absurd hr (Nat.not_lt_zero r), Nat.zero_le _⟩, fun r R hR => ?_, fun r t cs y q hR => ?_, .osl _ _ _ _ _ ho, fun q hq => by cases hq; exact Nat.zero_lt_one⟩
    · rcases r with _ | r
      · simp only [List.getElem?_cons_zero, Option.some.injEq] at hR; subst hR; exact hr
      · simp at hR
    · rw [live0 h1] at h2
      have := hg g h2
      have := hlt ρ g h3
      omega
    · rw [live0 h1] at h2; exact .inl (hg g h2)
    · rcases r with _ | r
      · simp only [List.getElem?_cons_zero, Option.some.injEq] at hR
        subst hR
        refine hr.noz fun x hx y hy => ?_
        obtain ⟨z, _, rfl⟩ := List.mem_map.1 hx
        simp only [AV.cells, List.mem_cons, List.not_mem_nil, or_false] at hy
        subst hy
        exact .int ..
      · simp at hR
    · rcases r with _ | r <;> simp at hR
  rcases hown.2 with ⟨rfl, hx⟩ | ⟨g, cap, cur, rfl, hbase, hb, h1, h2, h3, h4⟩
  · have hl0 : l = [] := by
      have := hx
      first
        | exact List.length_eq_zero_iff.1 this
        | exact List.length_eq_zero_iff.1 this.1
    subst hl0
    exact fin (fun _ => none) (fun g h => by cases h) (.inl ⟨rfl, rfl⟩) (.inl ⟨rfl, rfl, rfl, rfl⟩)
  · refine fin (fun q => if q = 0 then some g else none) (fun g' h => by simp at h; subst h; exact hbase) (.inr ⟨g, cur, by simp, hb, fun i x hx => ?_⟩) (.inr ⟨g, cap, t, cur, by simp, by simp, hb, by simpa using h3, by simpa using h2, h1⟩)
    rw [List.getElem?_map, Option.map_eq_some_iff] at hx
    obtain ⟨z, hz, rfl⟩ := hx
    refine ⟨rfl, fun j y hy => ?_⟩
    rcases j with _ | j
    · simp only [AV.cells, List.getElem?_cons_zero, Option.some.injEq] at hy
      subst hy
      have hi := (List.getElem?_eq_some_iff.1 hz).1
      refine ⟨.int .i64 z, ?_, .int ..⟩
      have := congrArg (fun l => l[i]?) h4
      simp only [List.getElem?_map, hz, Option.map_some] at this
      rw [List.getElem?_take_of_lt (by omega), Array.getElem?_toList] at this
      simpa using this
    · simp [AV.cells] at hy
/-- SubR and SubE told temporary by temporary: no temporary is looked up by a name that is not told. -/
def tmOk (tm : List (Nat × AV)) (pos : Nat → Option Nat) : List (Nat × AV) → Prop
  | [] => True
  | p :: l => p.2 = (tv tm p.1).rnp pos ∧ tmOk tm pos l
theorem tmOk_nil {tm : List (Nat × AV)} {pos : Nat → Option Nat} : tmOk tm pos [] = True := rfl
theorem tmOk_cons {tm : List (Nat × AV)} {pos : Nat → Option Nat} {t : Nat} {x : AV} {l : List (Nat × AV)} : tmOk tm pos ((t, x) :: l) = (x = (tv tm t).rnp pos ∧ tmOk tm pos l) := rfl
theorem tmOk_iff {tm : List (Nat × AV)} {pos : Nat → Option Nat} : ∀ {l : List (Nat × AV)}, tmOk tm pos l ↔ ∀ p ∈ l, p.2 = (tv tm p.1).rnp pos
  | [] => by simp [tmOk]
  | p :: l => by simp only [tmOk, List.forall_mem_cons, tmOk_iff (l := l)]
theorem subR_go {k : Nat} {ρ : List Nat} {e e' : Env} : SubR k ρ e e' = (ρ.Nodup ∧ (∀ p < k, ρ[p]? = some p) ∧ (∀ r ∈ ρ, r < e.st.length) ∧ e'.st = rinOf e.st ρ ∧ tmOk e.tm (posOf ρ) e'.tm) := by
  unfold SubR
  simp only [tmOk_iff]
def anOf (tm : List (Nat × AV)) : List Nat → List Nat
  | [] => []
  | t :: l => rootOf (tv tm t) :: anOf tm l
theorem anOf_nil {tm : List (Nat × AV)} : anOf tm [] = [] := rfl
theorem anOf_cons {tm : List (Nat × AV)} {t : Nat} {l : List Nat} : anOf tm (t :: l) = rootOf (tv tm t) :: anOf tm l := rfl
theorem anOf_map {tm : List (Nat × AV)} : ∀ {l : List Nat}, l.map (fun t => rootOf (tv tm t)) = anOf tm l
  | [] => rfl
  | t :: l => by rw [List.map_cons, anOf_map (l := l)]; rfl
theorem subE_go {k : Nat} {viv : List (Nat × Nat × Nat)} {anch : List Nat} {e e' : Env} : SubE k viv anch e e' = SubR k (anOf (vivs viv e).tm anch) (vivs viv e) e' := by
  unfold SubE
  rw [anOf_map]
end Go.Ve
