/- Contracts of the seat: DeleteFunc with the closure of impl.removed. No condition. -/
import Derived.Test.YtfeaokelfbjcdaaVK
import Derived.Shelf.SlicesE.DeleteFunc
import Derived.Shelf.SlicesE.Compact
import Derived.Ground.SlgfProg
import Derived.Ground.SlgnProg
import Derived.Shelf.SortG.Plain
import Derived.Shelf.SortG.SortNone
import Derived.Sort.OwnSortedInts
import Derived.Lib.Walk
import Derived.Lib.SliceRun
import Derived.Shelf.RegionOpenPlain
namespace Go.Ve
open Go.Proofs Go.RowKit Go.Lib Go.Sort Go.Shelf
set_option linter.unusedVariables false
set_option linter.unusedSimpArgs false
set_option maxRecDepth 100000
set_option maxHeartbeats 4000000
/- impl.removed$1 -/
def c94 : SCode := (.seq (.reg [⟨(some 3), .assign (.const (.bool false)), none⟩])
(.seq (.reg [⟨(some 4), .move (.tmp 0), none⟩,
    ⟨(some 5), .load 2 (.tmp 1), none⟩,
    ⟨(some 6), .binOp .eql 2 (.tmp 4) (.tmp 5) 2, none⟩,
    ⟨(some 3), .assign (.tmp 6), none⟩])
 .ret))
theorem s94 : slimF Try.f94 = some (c94, [.t 3], 7) := by kernel_rfl
theorem o94 : okF [] Try.f94 = true := by kernel_rfl
noncomputable def g94 : Fsem := semOf (fun i : Int × Nat × Int => [.int .i64 i.1, .dptr i.2.1 [.int .i64 i.2.2]]) (fun _ => True) (fun _ i => .bool (decide (i.1 = i.2.2)))
@[go_sem] theorem g94_eq {n τ : Nat} {x m : Int} : g94 n [.int .i64 x, .dptr τ [.int .i64 m]] = ⟨True, .bool (decide (x = m))⟩ :=
  semOf_eq (x, τ, m) rfl fun ⟨_, _, _⟩ h => by
    simp at h
    simp [h]
theorem p94 : Pure Try.prog 94 g94 := by
  refine semOf_pure fun ⟨x, τ, m⟩ n h2 _ => ?_
  refine SatP.of_body Table.nil hm Try.func94 s94 o94 h2 (by simp) ?_
  simp (config := {contextual := true, implicitDefEqProofs := false}) [c94, go_sem]
theorem s75 : slimF Try.f75 = some (idxC 22 2, [.t 4], 19) := by kernel_rfl
theorem o75_94 : okF [(94, g94)] Try.f75 = true := by kernel_rfl
theorem sat_idx0 {m : Int} : SatM Try.prog 2 75 [] [.sl 1 1 [], .fn 94 [.dptr 1 [.int .i64 m]]] [] (.int .i64 (-1)) :=
  indexFunc_ok (E := En.int .i64) (caps := [.dptr 1 [.int .i64 m]]) (p := fun x => decide (x = m)) (l := []) (τ := 1) hm Try.func75 s75 o75_94 (by omega) ty_22 (fite_2) p94 (fun c hc => by simp at hc; subst hc; rfl) (fun n τ x => by simp [go_sem]) (by decide)
shelf_lay_g SlLaysH.n10 Slgf 10 at Try 83 as delLay
theorem o83 : okF [] Try.f83 = true := by kernel_rfl
theorem gives_cl (m x : Int) (b : Addr) (W : World) (hc : W.cell? b = some (.int .i64 m)) : FnGives Try.prog 94 #[.pointer (some b)] #[.int .i64 x] (.bool (decide (x = m))) W := by
  show Calls Try.prog 94 #[.int .i64 x, .pointer (some b)] W _
  go_enter Try.func94, Try.ntmps94
  go_wp2
  all_goals (go_ret; exact ⟨by rw [show (decide (x = m)) = (x == m) from by simp [BEq.beq]]; first | rfl | simp_all, 0, rfl⟩)
theorem del_nil (m : Int) (b : Addr) (w : World) (hs : b.spot = none) (hc : w.cell? b = some (.int .i64 m)) :
    Calls Try.prog 83 #[.slice none 0 0, .func (.func 94) #[] #[.pointer (some b)]] w fun e w' => e = .returned (.slice none 0 0) ∧ Below w.heap.size w w' := by
  have HI : Calls Try.prog 75 #[.slice none 0 0, .func (.func 94) #[] #[.pointer (some b)]] w fun e w' => e = .returned (.int .i64 (-1)) ∧ Below w.heap.size w w' := by
    have hb := World.block_lt_of_cell? w b hc
    have h := (sat_idx0 (m := m)).2 w (fun ρ x => ρ = 1 ∧ x = b.block) (fun _ => none) [.slice none 0 0, .func (.func 94) #[] #[.pointer (some b)]] (by decide) ⟨fun r R hr => by simp at hr, fun r r' g h1 => by obtain ⟨R, h1, _⟩ := h1; simp at h1, fun r g ρ h1 => by obtain ⟨R, h1, _⟩ := h1; simp at h1⟩ (fun ρ x hx => by rw [hx.2]; exact hb) (fun ρ ρ' x h1 h2 => h1.1.trans h2.1.symm) (fun r t cs y q hr => by simp at hr) rfl (fun i x hi => by
      rcases i with _ | _ | i
      · simp only [List.getElem?_cons_zero, Option.some.injEq] at hi
        subst hi
        exact ⟨_, rfl, .data _ _ (.sl0 none 0 1 1), fun q hq => by cases hq⟩
      · simp only [List.getElem?_cons_succ, List.getElem?_cons_zero, Option.some.injEq] at hi
        subst hi
        refine ⟨_, rfl, .data _ _ (.fn _ _ _ (fun _ => .pointer (some b)) rfl (fun i y hy => ?_) (fun i y hy => ?_)), fun q hq => by cases hq with | fn _ _ y _ hy hq => simp at hy; subst hy; cases hq⟩
        · rcases i with _ | i
          · rfl
          · simp at hy
        · rcases i with _ | i
          · simp only [List.getElem?_cons_zero, Option.some.injEq] at hy
            subst hy
            refine .dptr b 1 _ (fun _ => .int .i64 m) hs ⟨rfl, rfl⟩ (fun j y hy => ?_) (fun j y hy => ?_)
            · rcases j with _ | j
              · obtain ⟨x1, x2, x3⟩ := b
                simp only at hs
                subst hs
                exact hc
              · simp at hy
            · rcases j with _ | j
              · simp only [List.getElem?_cons_zero, Option.some.injEq] at hy
                subst hy
                exact .int ..
              · simp at hy
          · simp at hy
      · simp at hi)
    refine Calls.mono h ?_
    rintro e W' ⟨v, D', β', rfl, hM, _, _, hv, _⟩
    rw [rep_int hv]
    exact ⟨rfl, hM.os, hM.tape, hM.output, hM.size, fun x hx => hM.frame x hx fun ⟨r, hr, _⟩ => by obtain ⟨R, h1, _⟩ := hr; simp at h1⟩
  clear hc
  go_enter Try.func83, Try.ntmps83
  go_wp2_with (go_at_call 75; refine HI.mono ?_; rintro e w' ⟨rfl, hb⟩)
  go_ret
  exact ⟨rfl, hb⟩
theorem sat_del {n τ : Nat} {m : Int} {l : List Int} (hl : l.length ≤ 1048576) : SatM Try.prog n 83 [.row 2 1 (l.map (AV.int .i64))] [.osl 0 1 0 l.length, .fn 94 [.dptr τ [.int .i64 m]]] [.row 2 1 ((l.filter fun x => !decide (x = m)).map (AV.int .i64))] (.osl 0 1 0 (l.filter fun x => !decide (x = m)).length) := by
  have hfl : (l.filter fun x => !decide (x = m)).length ≤ l.length := List.length_filter_le _ _
  have hcap : ∀ {W : World} {D : Nat → Nat → Prop} {β : Nat → Option Nat} {vs : List Value}, vs.length = 1 → (∀ (i : Nat) (x : AV), [AV.fn 94 [.dptr τ [.int .i64 m]]][i]? = some x → ∃ v, vs[i]? = some v ∧ Rep W D β v x) →
      ∃ b : Addr, vs = [.func (.func 94) #[] #[.pointer (some b)]] ∧ b.spot = none ∧ D τ b.block ∧ W.cell? b = some (.int .i64 m) := by
    intro W D β vs hvl ha
    obtain ⟨v, h1, h2⟩ := ha 0 _ rfl
    obtain ⟨w0, rfl⟩ : ∃ w0, vs = [w0] := by
      match vs, hvl with
      | [a], _ => exact ⟨a, rfl⟩
    simp only [List.getElem?_cons_zero, Option.some.injEq] at h1
    subst h1
    have key : ∃ ws : Array Value, w0 = .func (.func 94) #[] ws ∧ ws.size = 1 ∧ ∃ u, ws[0]? = some u ∧ Rep W D β u (.dptr τ [.int .i64 m]) := by
      cases h2 with
      | data _ _ hd => cases hd with | fn _ ws _ u hl hu hr => exact ⟨ws, rfl, hl, u 0, hu 0 _ rfl, .data _ _ (hr 0 _ rfl)⟩
      | fn _ ws _ u hl hu hr => exact ⟨ws, rfl, hl, u 0, hu 0 _ rfl, hr 0 _ rfl⟩
    obtain ⟨ws, rfl, hws, u, hu, hru⟩ := key
    cases hru with
    | data _ _ hd =>
    cases hd with
    | dptr b _ _ q hs hD hq hr =>
      have hw : ws = #[.pointer (some b)] := by
        apply Array.ext_getElem?
        intro i
        rcases i with _ | i
        · rw [hu]; rfl
        · rw [Array.getElem?_eq_none (by omega)]; rfl
      subst hw
      refine ⟨b, rfl, hs, hD, ?_⟩
      have h0 := hq 0 _ rfl
      have h1 := hr 0 _ rfl
      generalize q 0 = z at h0 h1
      cases h1
      obtain ⟨x1, x2, x3⟩ := b
      simp only at hs
      subst hs
      exact h0
  have hsz : ((l.filter fun x => !decide (x = m)) ++ List.replicate (l.length - (l.filter fun x => !decide (x = m)).length) (0 : Int)).length = l.length := by simp only [List.length_append, List.length_replicate]; omega
  have h := SatM.of_put (P := Try.prog) (f := 83) (n := n) (t := 2) (l := l) (arr := (l.filter fun x => !decide (x = m)) ++ List.replicate (l.length - (l.filter fun x => !decide (x = m)).length) (0 : Int)) (rest := [.fn 94 [.dptr τ [.int .i64 m]]]) (k := some (l.filter fun x => !decide (x = m)).length) (enters_of Try.func83 o83) hsz hfl (fun x hx q hq => by simp at hx; subst hx; cases hq with | fn _ _ y _ hy hq => simp at hy; subst hy; cases hq) ?_ ?_
  · have e : (((l.filter fun x => !decide (x = m)) ++ List.replicate (l.length - (l.filter fun x => !decide (x = m)).length) (0 : Int)).take (l.filter fun x => !decide (x = m)).length) = l.filter fun x => !decide (x = m) := List.take_left
    simp only [cutN, cutA, e] at h
    exact h
  · intro W D β vs g cap cur hvl ha hlt hfar hh ht hlc hcp hsz2
    obtain ⟨b, rfl, hs, hD, hc⟩ := hcap hvl ha
    have hbl := hlt τ b.block hD
    have hne : b.block ≠ g := fun e0 => hfar τ (e0 ▸ hD)
    have hgs : g < W.heap.size := (Array.getElem?_eq_some_iff.1 hh).1
    have eg : ∀ args w, (callFunc 94 args).run Try.prog w = .ok (.enter 94 args) w := Go.Proofs.enters_of Try.func94 (by kernel_rfl) rfl
    have hcon := AnyE.slices_DeleteFunc delLay (Value.int .i64) (fun _ => rfl) (fun x => decide (x = m)) 94 #[.pointer (some b)] eg 0 Try.zeroValue2 g 0 cap l.toArray W
      (fun W' x hb' => gives_cl m x b W' ((hb'.cell hbl).trans hc))
      (fun n' os dk x _ => gives_cl m x b _ (by
        unfold sortWorld
        rw [Go.Sort.cell?_grow _ _ _ (by show b.block < (Go.Sort.putRow _ _ _ _ _).heap.size; rw [Go.Sort.size_putRow]; exact hbl), Go.Sort.cell?_putRow_other _ _ g 0 _ _ (Or.inl hne)]
        exact hc)) (holds_of_blockI hh ht) (by simp; omega) (by simpa using hlc)
    refine Calls.mono hcon ?_
    rintro e W' ⟨rfl, q, rfl⟩
    refine ⟨rfl, q, #[], ?_⟩
    rw [Go.Sort.grow_empty]
    rfl
  · intro W D β vs hl0 hvl ha hlt
    subst hl0
    obtain ⟨b, rfl, hs, hD, hc⟩ := hcap hvl ha
    exact del_nil m b W hs hc
end Go.Ve
