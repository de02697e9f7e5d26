/- The engine, part 30: sizes of data with strings in them. No condition. -/
import Derived.Test.YtfeaokelfbjcdaaE29
namespace Go.Ve
open Go.RowKit
set_option linter.unusedVariables false
set_option linter.unusedSimpArgs false
set_option maxRecDepth 10000
/-- Strings, measured by their bytes. -/
def En.strz : En ByteArray where
  w := 1
  pos := Nat.one_pos
  one := true
  cs _ a := [.str a]
  tot a := a.size
  dec l := match l with
    | [.str a] => a
    | _ => ⟨#[]⟩
  len _ _ := rfl
  hone _ := rfl
  dat _ x y hy := by simp only [List.mem_cons, List.not_mem_nil, or_false] at hy; subst hy; rfl
  nz _ x _ y hy := by simp only [List.mem_cons, List.not_mem_nil, or_false] at hy; subst hy; exact .str ..
  hdec _ _ := rfl
@[go_sem] theorem En.av_strz {τ : Nat} {a : ByteArray} : En.strz.av τ a = .str a := rfl
@[go_sem] theorem En.cs_strz {τ : Nat} {a : ByteArray} : En.strz.cs τ a = [.str a] := rfl
@[go_sem] theorem En.w_strz : En.strz.w = 1 := rfl
@[go_sem] theorem en_strz_fun {τ : Nat} : En.strz.av τ = AV.str := rfl
theorem rd_strz {P : Program} {T : TypeId} (ht : P.underlying T = some .string) : Reads P T (QE En.strz fun s => s.size ≤ 140737488351232) := (rd_str ht).imp fun w cs h => h
def strB : Nat := 140737488351232
noncomputable def szSemP {α : Type} (E : En α) (ok : α → Prop) : Fsem := semOf (fun i : Nat × α × Int => [E.av i.1 i.2.1, .int .i64 i.2.2]) (fun i => 0 ≤ i.2.2 ∧ i.2.2 ≤ bigB ∧ ok i.2.1) (fun _ i => .int .i64 (szR i.2.2 (E.tot i.2.1)))
section
variable {α : Type} {E : En α} {n : Nat} {P : Program} {f : FuncId} {fn : Func} {nt : Nat}
theorem szSemP_eq {ok : α → Prop} {τ : Nat} {x : α} {b : Int} : szSemP E ok n [E.av τ x, .int .i64 b] = ⟨0 ≤ b ∧ b ≤ bigB ∧ ok x, .int .i64 (szR b (E.tot x))⟩ :=
  semOf_eq (τ, x, b) rfl fun ⟨τ', x', b'⟩ h => by
    simp only [List.cons.injEq, AV.int.injEq, and_true, true_and] at h
    obtain ⟨h1, h2⟩ := h
    have := E.inj h1
    subst this h2
    exact ⟨Iff.rfl, rfl⟩
theorem szDeepP_ok {ok : α → Prop} {ti t e fe : Nat} {sem : Fsem} (hm : P.follows .mixedOrders = true) (hf : P.funcs[f]? = some fn) (hsl : slimF fn = some (szDeepC ti t e fe, [.t 4], nt)) (ho : okF [(fe, sem)] fn = true) (hnt : 2 ≤ nt)
    (ht : tyOf P t = .sl e) (hE : FitE P e E) (hfe : Pure P fe sem) (hs : ∀ n τ x b, sem n [E.av τ x, .int .i64 b] = ⟨0 ≤ b ∧ b ≤ bigB ∧ ok x, .int .i64 (szR b (E.tot x))⟩) : Pure P f (szSemP E.list fun l => ∀ x ∈ l, ok x) := by
  refine semOf_pure fun ⟨τ, l, b⟩ n h2 ⟨hb1, hb2, hok⟩ => ?_
  have hT : Table P [(fe, sem)] := .cons hfe .nil
  refine SatP.of_body hT hm hf hsl ho h2 (by simpa using hnt) ?_
  obtain ⟨hE0, hE1, hE2⟩ := hE
  simp (config := {contextual := true}) only [szDeepC, go_sem, ht, ↓reduceIte, Nat.reduceEqDiff, Nat.reduceAdd, true_and, and_true, tot_list, List.length_map]
  intro hL
  have hL' := hL
  simp only [bigB, maxLen] at hL' hb1 hb2
  rw [wrap_ok (by omega) (by omega)]
  simp only [decide_eq_true_eq, decide_eq_false_iff_not, AV.int.injEq, true_and, szR]
  refine ⟨fun h => by rw [if_neg (by omega)], fun hb => ?_⟩
  refine VW_for hT h2 hm (fun i : Nat => ⟨[(5, .int .i64 i), (1, .int .i64 (b - l.length - ((l.take i).map E.tot).sum)), (0, .sl τ E.w (l.map (E.av τ)))], []⟩) (fun i => i ≤ l.length ∧ (((l.take i).map E.tot).sum : Int) ≤ b - l.length) (fun i => l.length - i) (· + 1) 0 ?_ ?_ ?_
  · simp; omega
  · simp [SubI, go_sem]
  · rintro i ⟨hi, hall⟩
    have hw : i < l.length → IntKind.i64.wrap ((i : Int) + 1) = (i : Int) + 1 := wrap_next hL
    have hn : ∀ h : i < l.length, nth (l.map (E.av τ)) i = E.av τ l[i] := fun h => nth_av E h
    have hw2 : (0 : Int) ≤ i := by omega
    have hok' : ∀ h : i < l.length, ok l[i] := fun h => hok _ (List.getElem_mem h)
    have hc1 : 0 ≤ b - l.length - ((l.take i).map E.tot).sum := by omega
    have hc2 : b - l.length - ((l.take i).map E.tot).sum ≤ bigB := by simp only [bigB]; omega
    simp (config := {contextual := true}) only [go_sem, ht, hE0, hE1, hE2, hs, hn, hw, hw2, hok', hc1, hc2, E.cells, ↓reduceIte, Nat.reduceEqDiff, Nat.reduceAdd, true_and, and_true, List.length_map, List.toList_toArray, List.mem_cons, List.not_mem_nil, or_false, forall_eq_or_imp, forall_eq, List.map_cons, List.map_nil, List.append_nil, decide_eq_true_eq, decide_eq_false_iff_not, Int.ofNat_lt, Int.toNat_natCast, SubI, List.cons_append, List.nil_append]
    have hsr : ∀ h : i < l.length, szR (b - l.length - ((l.take i).map E.tot).sum) (E.tot l[i]) = if ((l.length + ((l.take (i + 1)).map E.tot).sum : Nat) : Int) ≤ b then b - l.length - ((l.take (i + 1)).map E.tot).sum else -1 := fun h => by
      rw [sum_take_succ (E := E) l i h, szR]
      split <;> split <;> omega
    intro _
    refine ⟨fun a => ?_, fun h => ?_⟩
    · rw [hsr a]
      have h1 := sum_take_le (E := E) l (i + 1)
      split
      · refine ⟨fun h => by omega, fun _ => ⟨by omega, ⟨by omega, by omega⟩, by simp, rfl⟩⟩
      · refine ⟨fun _ => by rw [if_neg (by omega)], fun h => absurd (by omega) h⟩
    · rw [sum_take_all (E := E) l i (by omega)] at hall ⊢
      rw [if_pos (by omega)]
      congr 1
      omega
end
end Go.Ve
