/- The engine, part 15: the machine follows a region, in whatever order it draws. No condition. -/
import Derived.Test.YtfeaokelfbjcdaaE14
namespace Go.Ve
open Go.RowKit
set_option linter.unusedVariables false
set_option linter.unusedSimpArgs false

section
variable {P : Program} {C : Ctx} {sz n : Nat} {T : List (Nat × Fsem)} {ops : Array Oper} {K : Env → Prop} {Q : Exit → Act → World → Prop}

theorem After.normal {a : Act} {W : World} {K : Env → Prop} (h : After C sz K a W) : ∃ e D β, K e ∧ St C sz e a W D β := h

/-- What a length is bound to be. -/
def lenFact : AV → Prop
  | .sl _ _ xs => xs.length ≤ maxLen
  | .osl _ _ _ len => len ≤ maxLen
  | _ => True
/-- One operation; where it asks for a length, the length is known to be no greater than any slice's. -/
def vstepF (P : Program) (n : Nat) (T : List (Nat × Fsem)) (ops : Array Oper) (o : Oper) (e : Env) (K : Env → Prop) : Prop :=
  match o.guard, o.op with
  | none, .call ⟨.builtin .len, args, ts⟩ => match args.toList, ts.toList with
    | [x], [t] => e.argc x ∧ (vLen P e.st t (e.arg x)).c ∧ (lenFact (e.arg x) → K (e.put o.dst (vLen P e.st t (e.arg x)).v))
    | _, _ => vstep P n T ops o e K
  | _, _ => vstep P n T ops o e K
def vregF (P : Program) (n : Nat) (T : List (Nat × Fsem)) (ops : Array Oper) : List Oper → Env → (Env → Prop) → Prop
  | [], e, K => K e
  | o :: l, e, K => vstepF P n T ops o e fun e' => vregF P n T ops l e' K

theorem lenFact_ok {W : World} {D : Nat → Nat → Prop} {β : Nat → Option Nat} {v : Value} {x : AV} (h : Rep W D β v x) : lenFact x := by
  unfold lenFact
  split
  · cases h with
    | data _ _ hd => cases hd with
      | sl0 => exact Nat.zero_le _
      | sl _ _ _ _ _ _ _ _ _ hm => exact hm
  · cases h with
    | data _ _ hd => cases hd
    | osl _ _ _ _ _ ho =>
      rcases ho with ⟨_, _, _, h0⟩ | ⟨g, cap, t, cur, _, _, _, _, h1, h2⟩
      · rw [h0]; exact Nat.zero_le _
      · omega
  · trivial

theorem vstepF_vstep {e : Env} {a : Act} {W : World} {D : Nat → Nat → Prop} {β : Nat → Option Nat} (h : St C sz e a W D β) {o : Oper} {K : Env → Prop} (hv : vstepF P n T ops o e K) : vstep P n T ops o e K := by
  unfold vstepF at hv
  split at hv
  · rename_i args ts hg ho
    split at hv
    · rename_i x t hx ht
      obtain ⟨h1, h2, h3⟩ := hv
      have hl := lenFact_ok (h.fine.arg h1)
      obtain rfl : args = #[x] := by rw [← Array.toList_inj, hx]
      obtain rfl : ts = #[t] := by rw [← Array.toList_inj, ht]
      unfold vstep
      rw [hg, ho]
      exact ⟨⟨h1, h2⟩, h3 hl⟩
    · exact hv
  · exact hv

theorem vreg_ok (hC : C.n ≠ 0) (hCn : C.n ≤ n) (h2 : 2 ≤ n) (hT : Table P T) (hQ : ∀ a W, After C sz K a W → Q .normal a W)
    (hds : ∀ (i : Nat) (o' : Oper) (d : Nat), ops[i]? = some o' → o'.dst = some d → d < sz) :
    ∀ (l : List Oper) (e : Env) (a : Act) (W : World) (D : Nat → Nat → Prop) (β : Nat → Option Nat), (∀ o ∈ l, ∀ d, o.dst = some d → d < sz) → St C sz e a W D β → vregF P n T ops l e K → wpList P ops Q l a W
  | [], e, a, W, D, β, _, h, hv => hQ a W ⟨e, D, β, hv, h⟩
  | o :: l, e, a, W, D, β, hl, h, hv => by
    have h1 := vstep_ok (Q := Q) hC hCn h2 hT h (hl o (List.mem_cons_self ..)) hds (vstepF_vstep h hv)
    have ih : ∀ a W, After C sz (fun e' => vregF P n T ops l e' K) a W → wpList P ops Q l a W := fun a W ⟨e', D', β', k1, k2⟩ =>
      vreg_ok hC hCn h2 hT hQ hds l e' a W D' β' (fun o ho => hl o (List.mem_cons_of_mem _ ho)) k2 k1
    unfold wpList
    split
    · rename_i hw
      rw [if_pos hw] at h1
      exact .inl (Oper.wp_mono ih h1)
    · rename_i hw
      rw [if_neg hw] at h1
      exact ih _ _ h1

/-! ### Regions that draw -/
def tmPut (tm : List (Nat × AV)) (d : Option Nat) (v : AV) : List (Nat × AV) :=
  match d with
  | some i => (i, v) :: tm
  | none => tm
theorem put_eq (tm : List (Nat × AV)) (st : List Root) (d : Option Nat) (v : AV) : Env.put ⟨tm, st⟩ d v = ⟨tmPut tm d v, st⟩ := by cases d <;> rfl
theorem tv_put (tm : List (Nat × AV)) (d : Option Nat) (v : AV) (t : Nat) : tv (tmPut tm d v) t = if d = some t then v else tv tm t := by
  cases d with
  | none => simp [tmPut]
  | some i => simp [tmPut, tv]

/-- What a run in the order of the list leaves behind: values, roots and lists of values at every point. -/
structure Trace (P : Program) (n : Nat) (T : List (Nat × Fsem)) (ops : Array Oper) (B : List (List Nat)) (i : Nat) (V : Nat → AV) (S : Nat → List Root) (TM : Nat → List (Nat × AV)) : Prop where
  tm : ∀ k o, i ≤ k → ops[k]? = some o → TM (k + 1) = tmPut (TM k) o.dst (V k)
  soft : ∀ k o, i ≤ k → ops[k]? = some o → quiet T o.op = true → S (k + 1) = S k ∧ ∀ (tm' : List (Nat × AV)) (sp : List Root) (K' : Env → Prop), Likes ops o (TM k) tm' → qval P n T ⟨tm', sp⟩ o.op = qval P n T ⟨TM k, S k⟩ o.op → K' (Env.put ⟨tm', sp⟩ o.dst (V k)) → vstep P n T ops o ⟨tm', sp⟩ K'
  loud : ∀ k o, i ≤ k → ops[k]? = some o → ∀ (tm' : List (Nat × AV)) (K' : Env → Prop), Likes ops o (TM k) tm' → K' (Env.put ⟨tm', S (k + 1)⟩ o.dst (V k)) → vstep P n T ops o ⟨tm', S k⟩ K'
  back : ∀ j k oj ok, i ≤ j → j < k → ops[j]? = some oj → quiet T oj.op = false → ops[k]? = some ok → quiet T ok.op = true → looks ok.op = true → anc B j k = false → qval P n T ⟨TM k, S j⟩ ok.op = qval P n T ⟨TM k, S k⟩ ok.op
  fore : ∀ j k oj ok, i ≤ j → j < k → ops[j]? = some oj → quiet T oj.op = true → looks oj.op = true → ops[k]? = some ok → quiet T ok.op = false → anc B j k = false → qval P n T ⟨TM (k + 1), S (k + 1)⟩ oj.op = qval P n T ⟨TM j, S j⟩ oj.op

theorem vdr_trace {B : List (List Nat)} : ∀ (l : List Oper) (i : Nat) (hist : List (Nat × List Root)) (pend : List (Nat × Op × Option OpR)) (tm : List (Nat × AV)) (st : List Root), (∀ k, l[k]? = ops[i + k]?) →
    vdr P n T ops B i l hist pend ⟨tm, st⟩ K → ∃ (V : Nat → AV) (S : Nat → List Root) (TM : Nat → List (Nat × AV)), TM i = tm ∧ S i = st ∧ Trace P n T ops B i V S TM ∧ K ⟨TM (i + l.length), S (i + l.length)⟩ ∧
      (∀ h ∈ hist, ∀ k o, i ≤ k → ops[k]? = some o → quiet T o.op = true → looks o.op = true → anc B h.1 k = false → qval P n T ⟨TM k, h.2⟩ o.op = qval P n T ⟨TM k, S k⟩ o.op) ∧
      (∀ p ∈ pend, ∀ k o, i ≤ k → ops[k]? = some o → quiet T o.op = false → anc B p.1 k = false → qval P n T ⟨TM (k + 1), S (k + 1)⟩ p.2.1 = p.2.2)
  | [], i, hist, pend, tm, st, hl, hv => by
    have hno : ∀ k o, i ≤ k → ops[k]? = some o → False := fun k o hk ho => by
      have := hl (k - i)
      rw [show i + (k - i) = k by omega, ho] at this
      simp at this
    exact ⟨fun _ => .undef, fun _ => st, fun _ => tm, rfl, rfl, ⟨fun k o hk ho => (hno k o hk ho).elim, fun k o hk ho => (hno k o hk ho).elim, fun k o hk ho => (hno k o hk ho).elim,
      fun j k oj ok hj _ ho => (hno j oj hj ho).elim, fun j k oj ok hj _ ho => (hno j oj hj ho).elim⟩, hv, fun _ _ k o hk ho => (hno k o hk ho).elim, fun _ _ k o hk ho => (hno k o hk ho).elim⟩
  | o :: l, i, hist, pend, tm, st, hl, hv => by
    have hoi : ops[i]? = some o := by have := hl 0; simpa using this.symm
    have hl' : ∀ k, l[k]? = ops[(i + 1) + k]? := fun k => by have := hl (k + 1); rw [show i + 1 + k = i + (k + 1) by omega, ← this]; simp
    -- what one step and the rest give
    have glue : ∀ (st' : List Root) (v : AV) (hist' : List (Nat × List Root)) (pend' : List (Nat × Op × Option OpR)),
        vdr P n T ops B (i + 1) l hist' pend' (Env.put ⟨tm, st'⟩ o.dst v) K →
        (quiet T o.op = true → st' = st ∧ ∀ (tm' : List (Nat × AV)) (sp : List Root) (K' : Env → Prop), Likes ops o tm tm' → qval P n T ⟨tm', sp⟩ o.op = qval P n T ⟨tm, st⟩ o.op → K' (Env.put ⟨tm', sp⟩ o.dst v) → vstep P n T ops o ⟨tm', sp⟩ K') →
        (∀ (tm' : List (Nat × AV)) (K' : Env → Prop), Likes ops o tm tm' → K' (Env.put ⟨tm', st'⟩ o.dst v) → vstep P n T ops o ⟨tm', st⟩ K') →
        (∀ h ∈ hist, h ∈ hist') → (quiet T o.op = false → (i, st) ∈ hist') → (∀ p ∈ pend, p ∈ pend') → (quiet T o.op = true → looks o.op = true → (i, o.op, qval P n T ⟨tm, st⟩ o.op) ∈ pend') →
        (quiet T o.op = true → looks o.op = true → ∀ h ∈ hist, anc B h.1 i = false → qval P n T ⟨tm, h.2⟩ o.op = qval P n T ⟨tm, st⟩ o.op) →
        (quiet T o.op = false → ∀ p ∈ pend, anc B p.1 i = false → qval P n T ⟨tmPut tm o.dst v, st'⟩ p.2.1 = p.2.2) →
        ∃ (V : Nat → AV) (S : Nat → List Root) (TM : Nat → List (Nat × AV)), TM i = tm ∧ S i = st ∧ Trace P n T ops B i V S TM ∧ K ⟨TM (i + (l.length + 1)), S (i + (l.length + 1))⟩ ∧
          (∀ h ∈ hist, ∀ k o, i ≤ k → ops[k]? = some o → quiet T o.op = true → looks o.op = true → anc B h.1 k = false → qval P n T ⟨TM k, h.2⟩ o.op = qval P n T ⟨TM k, S k⟩ o.op) ∧
          (∀ p ∈ pend, ∀ k o, i ≤ k → ops[k]? = some o → quiet T o.op = false → anc B p.1 k = false → qval P n T ⟨TM (k + 1), S (k + 1)⟩ p.2.1 = p.2.2) := by
      intro st' v hist' pend' hk hq hs hh1 hh2 hp1 hp2 hb hf
      rw [put_eq] at hk
      obtain ⟨V, S, TM, t1, t2, tr, tk, th, tp⟩ := vdr_trace l (i + 1) hist' pend' _ _ hl' hk
      let V' : Nat → AV := fun k => if k = i then v else V k
      let S' : Nat → List Root := fun k => if k = i then st else S k
      let TM' : Nat → List (Nat × AV) := fun k => if k = i then tm else TM k
      have vi : V' i = v := by simp [V']
      have si : S' i = st := by simp [S']
      have ti : TM' i = tm := by simp [TM']
      have vn : ∀ k, i + 1 ≤ k → V' k = V k := fun k hk => by simp only [V']; rw [if_neg (by omega)]
      have sn : ∀ k, i + 1 ≤ k → S' k = S k := fun k hk => by simp only [S']; rw [if_neg (by omega)]
      have tn : ∀ k, i + 1 ≤ k → TM' k = TM k := fun k hk => by simp only [TM']; rw [if_neg (by omega)]
      have same : ∀ {o'}, ops[i]? = some o' → o' = o := fun h => by rw [hoi] at h; injection h with h; exact h.symm
      refine ⟨V', S', TM', ti, si, ⟨fun k o' hk ho => ?_, fun k o' hk ho hqo => ?_, fun k o' hk ho => ?_, fun j k oj ok hj hjk hoj hqj hok hqk hlk hanc => ?_, fun j k oj ok hj hjk hoj hqj hlj hok hqk hanc => ?_⟩, ?_, fun h hh k o' hk ho hqo hlo hanc => ?_, fun p hp k o' hk ho hqo hanc => ?_⟩
      · rcases Nat.eq_or_lt_of_le hk with rfl | hk
        · have := same ho; subst this
          rw [ti, vi, tn _ (Nat.le_refl _), t1]
        · rw [tn _ (by omega), tn _ hk, vn _ hk]
          exact tr.tm k o' hk ho
      · rcases Nat.eq_or_lt_of_le hk with rfl | hk
        · have := same ho; subst this
          rw [si, ti, vi, sn _ (Nat.le_refl _), t2]
          exact hq hqo
        · rw [sn _ hk, sn _ (by omega), tn _ hk, vn _ hk]
          exact tr.soft k o' hk ho hqo
      · rcases Nat.eq_or_lt_of_le hk with rfl | hk
        · have := same ho; subst this
          rw [si, ti, vi, sn _ (Nat.le_refl _), t2]
          exact hs
        · rw [sn _ hk, sn _ (by omega), tn _ hk, vn _ hk]
          exact tr.loud k o' hk ho
      · rcases Nat.eq_or_lt_of_le hj with rfl | hj
        · have := same hoj; subst this
          rw [si, sn _ hjk, tn _ hjk]
          exact th _ (hh2 hqj) k ok hjk hok hqk hlk hanc
        · rw [sn _ hj, sn _ (by omega), tn _ (by omega)]
          exact tr.back j k oj ok hj hjk hoj hqj hok hqk hlk hanc
      · rcases Nat.eq_or_lt_of_le hj with rfl | hj
        · have := same hoj; subst this
          rw [si, ti, sn _ (by omega), tn _ (by omega)]
          exact tp _ (hp2 hqj hlj) k ok hjk hok hqk hanc
        · rw [sn _ hj, sn _ (by omega), tn _ (by omega), tn _ (by omega)]
          exact tr.fore j k oj ok hj hjk hoj hqj hlj hok hqk hanc
      · rw [sn _ (by omega), tn _ (by omega), show i + (l.length + 1) = i + 1 + l.length by omega]
        exact tk
      · rcases Nat.eq_or_lt_of_le hk with rfl | hk
        · have := same ho; subst this
          rw [si, ti]
          exact hb hqo hlo h hh hanc
        · rw [sn _ hk, tn _ hk]
          exact th h (hh1 h hh) k o' hk ho hqo hlo hanc
      · rcases Nat.eq_or_lt_of_le hk with rfl | hk
        · have := same ho; subst this
          rw [sn _ (Nat.le_refl _), tn _ (Nat.le_refl _), t1, t2]
          exact hf hqo p hp hanc
        · rw [sn _ (by omega), tn _ (by omega)]
          exact tp p (hp1 p hp) k o' hk ho hqo hanc
    unfold vdr at hv
    cases hqo : quiet T o.op
    · rw [hqo] at hv
      simp only [cond_false] at hv
      obtain ⟨st', v, ⟨k1, k2⟩, k3, k4⟩ := vstep_trace hv
      refine glue st' v _ _ k2 (fun h => by rw [hqo] at h; cases h) k4 (fun h hh => List.mem_cons_of_mem _ hh) (fun _ => List.mem_cons_self ..) (fun p hp => hp) (fun h => by rw [hqo] at h; cases h) (fun h => by rw [hqo] at h; cases h) (fun _ p hp ha => ?_)
      have := k1 p hp
      rw [ha] at this
      rw [put_eq] at this
      exact this
    · rw [hqo] at hv
      simp only [cond_true] at hv
      obtain ⟨hv1, hv2⟩ := hv
      obtain ⟨st', v, k1, k3, k4⟩ := vstep_trace hv2
      refine glue st' v _ _ k1 k3 k4 (fun h hh => hh) (fun h => by rw [hqo] at h; cases h) (fun p hp => by cases looks o.op <;> simp [hp]) (fun _ hlo => by rw [hlo]; exact List.mem_cons_self ..) (fun _ hlo h hh ha => ?_) (fun h => by rw [hqo] at h; cases h)
      rw [hlo] at hv1
      have := hv1 h hh
      rw [ha] at this
      exact this

theorem St.congr {e : Env} {a : Act} {W : World} {D : Nat → Nat → Prop} {β : Nat → Option Nat} (h : St C sz e a W D β) {tm : List (Nat × AV)} (ht : ∀ t, tv tm t = tv e.tm t) : St C sz ⟨tm, e.st⟩ a W D β :=
  ⟨h.mem, fun i => by rw [ht i]; exact h.tm i, fun i q hq => h.nm i q (by rw [← ht i]; exact hq), h.bx, h.dd, h.sz⟩

theorem filter_lt {p q : Nat → Bool} {i : Nat} (hp : p i = true) (hq : q i = false) (h : ∀ j, q j = true → p j = true) : ∀ (l : List Nat), (l.filter q).length ≤ (l.filter p).length ∧ (i ∈ l → (l.filter q).length < (l.filter p).length)
  | [] => ⟨Nat.le_refl _, fun h => by cases h⟩
  | x :: l => by
    obtain ⟨h1, h2⟩ := filter_lt hp hq h l
    simp only [List.filter_cons]
    cases hqx : q x
    · cases hpx : p x
      · simp only [Bool.false_eq_true, if_false]
        refine ⟨h1, fun hi => ?_⟩
        rcases List.mem_cons.1 hi with rfl | hi
        · rw [hp] at hpx; cases hpx
        · exact h2 hi
      · simp only [Bool.false_eq_true, if_false, if_true, List.length_cons]
        exact ⟨by omega, fun _ => by omega⟩
    · rw [h x hqx]
      simp only [if_true, List.length_cons]
      refine ⟨by omega, fun hi => ?_⟩
      rcases List.mem_cons.1 hi with rfl | hi
      · rw [hq] at hqx; cases hqx
      · have := h2 hi; omega

theorem vdr_ok {B : List (List Nat)} (hC : C.n ≠ 0) (hCn : C.n ≤ n) (h2 : 2 ≤ n) (hT : Table P T) (hQ : ∀ a W, After C sz K a W → Q .normal a W)
    (hds : ∀ (i : Nat) (o' : Oper) (d : Nat), ops[i]? = some o' → o'.dst = some d → d < sz) (hok : drawOk T ops B = true)
    {e : Env} {a : Act} {W : World} {D : Nat → Nat → Prop} {β : Nat → Option Nat} (hst : St C sz e a W D β) (hv : vdr P n T ops B 0 ops.toList [] [] e K) :
    wpAny P .any ops Q ops.size (Array.replicate ops.size false) a W := by
  obtain ⟨tm, st⟩ := e
  obtain ⟨V, S, TM, t1, t2, tr, tk, _, _⟩ := vdr_trace ops.toList 0 [] [] tm st (fun k => by simp) hv
  subst t1 t2
  simp only [Nat.zero_add, Array.length_toList] at tk
  -- the table
  have hok' : ∀ i o, ops[i]? = some o →
      (∀ j, anc B j i = true → j < i ∧ ∃ ed ∈ o.after, Region.binds .any ed = true ∧ (ed.on = j ∨ anc B j ed.on = true)) ∧
      (∀ ed ∈ o.after, Region.binds .any ed = true → ed.on < i) ∧
      (∀ t ∈ opReads ops o, ∀ k, opDst ops k = some t → anc B k i = true ∨ (looks o.op = false ∧ anc B i k = true)) ∧
      (∀ k, k < i → ∀ d, opDst ops k = some d → o.dst ≠ some d) ∧
      (quiet T o.op = false → ∀ k o', k < i → ops[k]? = some o' → quiet T o'.op = false → anc B k i = true) := by
    intro i o ho
    have hi : i < ops.size := (Array.getElem?_eq_some_iff.1 ho).1
    have := List.all_eq_true.1 hok i (List.mem_range.2 hi)
    rw [ho] at this
    simp only [Bool.and_eq_true] at this
    obtain ⟨⟨⟨⟨a1, a2⟩, a3⟩, a4⟩, a5⟩ := this
    refine ⟨fun j hj => ?_, fun ed hed hb => ?_, fun t ht k hk => ?_, fun k hk d hd hd' => ?_, fun hq k o' hk ho' hq' => ?_⟩
    · have hm : j ∈ B.getD i [] := by simpa [anc] using hj
      have := List.all_eq_true.1 a1 j hm
      simp only [Bool.and_eq_true, decide_eq_true_eq, Array.any_eq_true'] at this
      obtain ⟨h1, ed, hed, hb, h3⟩ := this
      exact ⟨h1, ed, hed, hb, by simpa using h3⟩
    · have := Array.all_eq_true_iff_forall_mem.1 a2 ed hed
      simpa [hb] using this
    · have hk' : k < ops.size := by
        rcases Nat.lt_or_ge k ops.size with h | h
        · exact h
        · simp [opDst, Array.getElem?_eq_none h] at hk
      have := List.all_eq_true.1 (List.all_eq_true.1 a3 t ht) k (List.mem_range.2 hk')
      simpa [hk] using this
    · have := List.all_eq_true.1 a4 k (List.mem_range.2 hk)
      simp [hd, hd'] at this
    · rw [hq, Bool.false_or] at a5
      have := List.all_eq_true.1 a5 k (List.mem_range.2 hk)
      simpa [ho', hq'] using this
  have dst_uniq : ∀ i k t, opDst ops i = some t → opDst ops k = some t → i = k := by
    intro i k t hi hk
    have get : ∀ {i}, opDst ops i = some t → ∃ o, ops[i]? = some o ∧ o.dst = some t := fun {i} h => by
      simpa [opDst, Option.bind_eq_some_iff] using h
    obtain ⟨oi, h1, h2⟩ := get hi
    obtain ⟨ok, h3, h4⟩ := get hk
    rcases Nat.lt_trichotomy i k with h | h | h
    · exact absurd h4 ((hok' k ok h3).2.2.2.1 i h t hi)
    · exact h
    · exact absurd h2 ((hok' i oi h1).2.2.2.1 k h t hk)
  -- the values in the order of the list
  have tmv : ∀ k, k ≤ ops.size → (∀ i t, i < k → opDst ops i = some t → tv (TM k) t = V i) ∧ ∀ t, (∀ i, i < k → opDst ops i ≠ some t) → tv (TM k) t = tv (TM 0) t := by
    intro k
    induction k with
    | zero => exact fun _ => ⟨fun i t hi => absurd hi (Nat.not_lt_zero i), fun t _ => rfl⟩
    | succ k ih =>
      intro hk
      obtain ⟨i1, i2⟩ := ih (by omega)
      have ho : ops[k]? = some ops[k] := Array.getElem?_eq_getElem (by omega)
      have hd : opDst ops k = ops[k].dst := by simp [opDst, ho]
      rw [tr.tm k _ (Nat.zero_le k) ho]
      refine ⟨fun i t hi hit => ?_, fun t ht => ?_⟩
      · rw [tv_put]
        by_cases hik : i = k
        · subst hik
          rw [if_pos (hd ▸ hit)]
        · rw [if_neg (fun e0 => hik (dst_uniq i k t hit (hd.trans e0)))]
          exact i1 i t (by omega) hit
      · rw [tv_put, if_neg (fun e0 => ht k (by omega) (hd.trans e0))]
        exact i2 t fun i hi => ht i (by omega)
  -- roots between what is loud
  have swalk : ∀ d p, p + d ≤ ops.size → (∀ k o, p ≤ k → k < p + d → ops[k]? = some o → quiet T o.op = true) → S (p + d) = S p := by
    intro d
    induction d with
    | zero => intro p _ _; rfl
    | succ d ih =>
      intro p hp hq
      have ho : ops[p + d]? = some ops[p + d] := Array.getElem?_eq_getElem (by omega)
      have := (tr.soft (p + d) _ (Nat.zero_le _) ho (hq (p + d) _ (by omega) (by omega) ho)).1
      rw [← Nat.add_assoc, this]
      exact ih p (by omega) fun k o h1 h2 => hq k o h1 (by omega)
  have ssame : ∀ p q, p ≤ ops.size → q ≤ ops.size → (∀ k o, ops[k]? = some o → quiet T o.op = false → (k < p ↔ k < q)) → S p = S q := by
    have key : ∀ p q, p ≤ q → q ≤ ops.size → (∀ k o, ops[k]? = some o → quiet T o.op = false → (k < p ↔ k < q)) → S q = S p := by
      intro p q hpq hq h
      have := swalk (q - p) p (by omega) fun k o h1 h2 ho => by
        cases hqo : quiet T o.op
        · have := (h k o ho hqo).2 (by omega); omega
        · rfl
      rwa [show p + (q - p) = q by omega] at this
    intro p q hp hq h
    rcases Nat.le_total p q with h' | h'
    · exact (key p q h' hq h).symm
    · exact key q p h' hp fun k o ho hqo => (h k o ho hqo).symm
  -- the invariant
  have main : ∀ (fuel : Nat) (listed : Array Bool) (a : Act) (W : World), listed.size = ops.size → ((List.range ops.size).filter fun i => listed.getD i true == false).length ≤ fuel →
      (∀ i j, listed[i]? = some true → anc B j i = true → listed[j]? = some true) →
      (∃ (tmx : List (Nat × AV)) (p : Nat) (D : Nat → Nat → Prop) (β : Nat → Option Nat), (∀ t i, opDst ops i = some t → listed[i]? = some true → tv tmx t = V i) ∧ (∀ t, (∀ i, opDst ops i = some t → listed[i]? ≠ some true) → tv tmx t = tv (TM 0) t) ∧
        p ≤ ops.size ∧ (∀ i o, ops[i]? = some o → quiet T o.op = false → (listed[i]? = some true ↔ i < p)) ∧ St C sz ⟨tmx, S p⟩ a W D β) → wpAny P .any ops Q fuel listed a W := by
    intro fuel
    -- at the end
    have done : ∀ (listed : Array Bool) (a : Act) (W : World), listed.size = ops.size →
        (∃ (tmx : List (Nat × AV)) (p : Nat) (D : Nat → Nat → Prop) (β : Nat → Option Nat), (∀ t i, opDst ops i = some t → listed[i]? = some true → tv tmx t = V i) ∧ (∀ t, (∀ i, opDst ops i = some t → listed[i]? ≠ some true) → tv tmx t = tv (TM 0) t) ∧
          p ≤ ops.size ∧ (∀ i o, ops[i]? = some o → quiet T o.op = false → (listed[i]? = some true ↔ i < p)) ∧ St C sz ⟨tmx, S p⟩ a W D β) → Region.ready .any ops listed = [] → Q .normal a W := by
      rintro listed a W hs ⟨tmx, p, D, β, i1, i2, i3, i4, i5⟩ hr
      have all : ∀ i, i < ops.size → listed[i]? = some true := by
        intro i
        induction i using Nat.strongRecOn with
        | _ i ih =>
          intro hi
          rcases hb : listed[i]'(by omega) with _ | _
          · exfalso
            have ho : ops[i]? = some ops[i] := Array.getElem?_eq_getElem hi
            have : i ∈ Region.ready .any ops listed := by
              rw [mem_ready]
              refine ⟨?_, ops[i], ho, fun ed hed hb => ?_⟩
              · rw [Array.getD_eq_getD_getElem?, Array.getElem?_eq_getElem (by omega), hb]; rfl
              · have hlt := (hok' i _ ho).2.1 ed hed hb
                rw [Array.getD_eq_getD_getElem?, ih ed.on hlt (by omega)]; rfl
            rw [hr] at this
            cases this
          · rw [Array.getElem?_eq_getElem (by omega), hb]
      refine hQ a W ⟨_, D, β, tk, ?_⟩
      have hS : S ops.size = S p := ssame _ _ (Nat.le_refl _) i3 fun k o ho hq => by
        have hk : k < ops.size := (Array.getElem?_eq_some_iff.1 ho).1
        exact ⟨fun _ => (i4 k o ho hq).1 (all k hk), fun _ => hk⟩
      rw [hS]
      refine i5.congr fun t => ?_
      by_cases hex : ∃ i, opDst ops i = some t
      · obtain ⟨i, hi⟩ := hex
        have hil : i < ops.size := by
          rcases Nat.lt_or_ge i ops.size with h | h
          · exact h
          · simp [opDst, Array.getElem?_eq_none h] at hi
        rw [(tmv _ (Nat.le_refl _)).1 i t hil hi]
        exact (i1 t i hi (all i hil)).symm
      · rw [(tmv _ (Nat.le_refl _)).2 t fun i _ hi => hex ⟨i, hi⟩]
        exact (i2 t fun i hi => (hex ⟨i, hi⟩).elim).symm
    induction fuel with
    | zero =>
      intro listed a W hs hc hdown hinv
      have hr : Region.ready .any ops listed = [] := by
        apply List.eq_nil_iff_forall_not_mem.2
        intro i hi
        obtain ⟨h0, o, ho, _⟩ := mem_ready.1 hi
        have : i ∈ (List.range ops.size).filter fun i => listed.getD i true == false := List.mem_filter.2 ⟨List.mem_range.2 (Array.getElem?_eq_some_iff.1 ho).1, by simp [h0]⟩
        rw [List.eq_nil_of_length_eq_zero (Nat.le_zero.1 hc)] at this
        cases this
      exact ⟨hr, done listed a W hs hinv hr⟩
    | succ fuel ih =>
      intro listed a W hs hc hdown hinv
      refine ⟨done listed a W hs hinv, fun i hi => ?_⟩
      obtain ⟨tmx, p, D, β, i1, i2, i3, i4, i5⟩ := hinv
      obtain ⟨hun, o, ho, haft⟩ := mem_ready.1 hi
      have hil : i < ops.size := (Array.getElem?_eq_some_iff.1 ho).1
      obtain ⟨c1, c2, c3, c4, c5⟩ := hok' i o ho
      have hunl : listed[i]? ≠ some true := fun h0 => by
        rw [Array.getD_eq_getD_getElem?, h0] at hun; cases hun
      -- what comes ahead is listed
      have ahead : ∀ j, anc B j i = true → j < i ∧ listed[j]? = some true := by
        intro j hj
        obtain ⟨h1, ed, hed, hb, h3⟩ := c1 j hj
        have hl := haft ed hed hb
        have hl' : listed[ed.on]? = some true := by
          have : ed.on < listed.size := by have := c2 ed hed hb; omega
          rw [Array.getD_eq_getD_getElem?, Array.getElem?_eq_getElem this] at hl
          rw [Array.getElem?_eq_getElem this]
          simpa using hl
        refine ⟨h1, ?_⟩
        rcases h3 with h3 | h3
        · rw [← h3]; exact hl'
        · exact hdown ed.on j hl' h3
      -- it looks alike
      have alike : ∀ t ∈ opReads ops o, tv tmx t = tv (TM i) t := by
        intro t ht
        by_cases hex : ∃ k, opDst ops k = some t
        · obtain ⟨k, hk⟩ := hex
          rcases c3 t ht k hk with c3 | ⟨_, c3⟩
          · obtain ⟨h1, h2⟩ := ahead k c3
            rw [i1 t k hk h2, (tmv i (by omega)).1 k t h1 hk]
          · obtain ⟨ok, hok0, _⟩ : ∃ ok, ops[k]? = some ok ∧ ok.dst = some t := by simpa [opDst, Option.bind_eq_some_iff] using hk
            have hik : i < k := ((hok' k ok hok0).1 i c3).1
            have n1 : ∀ k', opDst ops k' = some t → listed[k']? ≠ some true := fun k' hk' hl' => by
              have := dst_uniq k' k t hk' hk
              subst this
              exact hunl (hdown k' i hl' c3)
            have n2 : ∀ k', k' < i → opDst ops k' ≠ some t := fun k' h1 hk' => by
              have := dst_uniq k' k t hk' hk
              omega
            rw [i2 t n1, (tmv i (by omega)).2 t n2]
        · rw [i2 t fun k hk => (hex ⟨k, hk⟩).elim, (tmv i (by omega)).2 t fun k _ hk => hex ⟨k, hk⟩]
      have likes : Likes ops o (TM i) tmx := by
        refine ⟨fun x hx => ?_, fun j want t hg ht => ?_⟩
        · cases x with
          | tmp t =>
            refine alike t (List.mem_append_left _ (List.mem_filterMap.2 ⟨.tmp t, by simpa using hx, rfl⟩))
          | _ => rfl
        · refine alike t (List.mem_append_right _ ?_)
          rw [hg]
          simp only [opDst, ht]
          exact List.mem_cons_self ..
      have hdst : ∀ d, o.dst = some d → d < sz := fun d hd => hds i o d ho hd
      have hoi : opDst ops i = o.dst := by simp [opDst, ho]
      -- the next state
      have next : ∀ (p' : Nat), p' ≤ ops.size → (∀ k ok, ops[k]? = some ok → quiet T ok.op = false → (((listed.setIfInBounds i true))[k]? = some true ↔ k < p')) →
          vstep P n T ops o ⟨tmx, S p⟩ (fun e' => e' = Env.put ⟨tmx, S p'⟩ o.dst (V i)) → wpOp P ops Q i (wpAny P .any ops Q fuel (listed.setIfInBounds i true)) a W := by
        intro p' hp' hch hstep
        have hset : ∀ k, (listed.setIfInBounds i true)[k]? = some true ↔ (k = i ∨ listed[k]? = some true) := by
          intro k
          by_cases hki : i = k
          · subst hki
            rw [Array.getElem?_setIfInBounds_self_of_lt (by omega)]
            simp
          · rw [Array.getElem?_setIfInBounds_ne hki]
            exact ⟨.inr, fun h => h.resolve_left fun e0 => hki e0.symm⟩
        have hgo : ∀ a' W', After C sz (fun e' => e' = Env.put ⟨tmx, S p'⟩ o.dst (V i)) a' W' → wpAny P .any ops Q fuel (listed.setIfInBounds i true) a' W' := by
          rintro a' W' ⟨e', D', β', rfl, s⟩
          rw [put_eq] at s
          refine ih _ a' W' (by simpa using hs) ?_ (fun i' j hi' hj => ?_) ⟨_, p', D', β', fun t k hk hkl => ?_, fun t ht => ?_, hp', hch, s⟩
          · have := (filter_lt (p := fun j => listed.getD j true == false) (q := fun j => (listed.setIfInBounds i true).getD j true == false) (i := i) (by simp [hun]) (by
              rw [Array.getD_eq_getD_getElem?, Array.getElem?_setIfInBounds_self_of_lt (by omega)]; rfl) (fun j hj => by
              by_cases hji : i = j
              · subst hji
                rw [Array.getD_eq_getD_getElem?, Array.getElem?_setIfInBounds_self_of_lt (by omega)] at hj
                simp at hj
              · rw [Array.getD_eq_getD_getElem?, Array.getElem?_setIfInBounds_ne hji, ← Array.getD_eq_getD_getElem?] at hj
                exact hj) (List.range ops.size)).2 (List.mem_range.2 hil)
            omega
          · rcases (hset i').1 hi' with rfl | hi'
            · exact (hset j).2 (.inr (ahead j hj).2)
            · exact (hset j).2 (.inr (hdown i' j hi' hj))
          · rw [tv_put]
            rcases (hset k).1 hkl with rfl | hkl
            · rw [if_pos (hoi ▸ hk)]
            · have hki : k ≠ i := fun e0 => hunl (e0 ▸ hkl)
              rw [if_neg (fun e0 => hki (dst_uniq k i t hk (hoi.trans e0)))]
              exact i1 t k hk hkl
          · rw [tv_put, if_neg (fun e0 => ht i (hoi.trans e0) ((hset i).2 (.inl rfl)))]
            exact i2 t fun k hk hkl => ht k hk ((hset k).2 (.inr hkl))
        have h1 := vstep_ok (Q := Q) hC hCn h2 hT i5 hdst hds hstep
        unfold wpOp
        rw [ho]
        simp only
        split
        · rename_i hw
          rw [if_pos hw] at h1
          exact .inl (Oper.wp_mono hgo h1)
        · rename_i hw
          rw [if_neg hw] at h1
          exact hgo _ _ h1
      -- loud or quiet
      cases hq : quiet T o.op
      · have hS : S p = S i := ssame p i i3 (by omega) fun k ok hok hqk => by
          rw [← i4 k ok hok hqk]
          constructor
          · intro hl
            rcases Nat.lt_trichotomy k i with h | h | h
            · exact h
            · subst h; exact (hunl hl).elim
            · have := (hok' k ok hok).2.2.2.2 hqk i o h ho hq
              exact (hunl (hdown k i hl this)).elim
          · intro hki
            exact (ahead k (c5 hq k ok hki hok hqk)).2
        refine next (i + 1) (by omega) (fun k ok hok hqk => ?_) ?_
        · by_cases hki : i = k
          · subst hki
            rw [Array.getElem?_setIfInBounds_self_of_lt (by omega)]
            simp
          · rw [Array.getElem?_setIfInBounds_ne hki]
            constructor
            · intro hl
              rcases Nat.lt_trichotomy k i with h | h | h
              · omega
              · omega
              · have := (hok' k ok hok).2.2.2.2 hqk i o h ho hq
                exact (hunl (hdown k i hl this)).elim
            · intro hlt
              exact (ahead k (c5 hq k ok (by omega) hok hqk)).2
        · rw [hS]
          exact tr.loud i o (Nat.zero_le _) ho tmx _ likes rfl
      · refine next p i3 (fun k ok hok hqk => ?_) ?_
        · by_cases hki : i = k
          · subst hki
            rw [ho] at hok; injection hok with hok; subst hok
            rw [hq] at hqk; cases hqk
          · rw [Array.getElem?_setIfInBounds_ne hki]
            exact i4 k ok hok hqk
        · refine (tr.soft i o (Nat.zero_le _) ho hq).2 tmx (S p) _ likes ?_ rfl
          have hal : qval P n T ⟨tmx, S p⟩ o.op = qval P n T ⟨TM i, S p⟩ o.op := qval_alike likes.1 (.inr rfl)
          rw [hal]
          cases hlo : looks o.op
          · exact qval_alike (fun x hx => rfl) (.inl hlo)
          · -- it looks at the roots: those of another place give the same
            rcases Nat.lt_or_ge p i with hpi | hpi
            · -- fewer loud ones may be done
              by_cases hex : ∃ j oj, p ≤ j ∧ j < i ∧ ops[j]? = some oj ∧ quiet T oj.op = false
              · -- the first of them
                obtain ⟨j, oj, j1, j2, j3, j4, j5⟩ : ∃ j oj, p ≤ j ∧ j < i ∧ ops[j]? = some oj ∧ quiet T oj.op = false ∧ ∀ k ok, p ≤ k → k < j → ops[k]? = some ok → quiet T ok.op = true := by
                  have : ∀ d j, j = p + d → (∃ oj, j < i ∧ ops[j]? = some oj ∧ quiet T oj.op = false) → ∃ j oj, p ≤ j ∧ j < i ∧ ops[j]? = some oj ∧ quiet T oj.op = false ∧ ∀ k ok, p ≤ k → k < j → ops[k]? = some ok → quiet T ok.op = true := by
                    intro d
                    induction d using Nat.strongRecOn with
                    | _ d ihd =>
                      rintro j rfl ⟨oj, k1, k2, k3⟩
                      by_cases hex : ∃ k ok, p ≤ k ∧ k < p + d ∧ ops[k]? = some ok ∧ quiet T ok.op = false
                      · obtain ⟨k, ok, l1, l2, l3, l4⟩ := hex
                        exact ihd (k - p) (by omega) k (by omega) ⟨ok, by omega, l3, l4⟩
                      · refine ⟨p + d, oj, by omega, k1, k2, k3, fun k ok h1 h2 h3 => ?_⟩
                        cases hqk : quiet T ok.op
                        · exact (hex ⟨k, ok, h1, h2, h3, hqk⟩).elim
                        · rfl
                  obtain ⟨j, oj, k1, k2, k3, k4⟩ := hex
                  exact this (j - p) j (by omega) ⟨oj, k2, k3, k4⟩
                have hSj : S j = S p := by
                  have := swalk (j - p) p (by omega) fun k ok h1 h2 h3 => j5 k ok h1 (by omega) h3
                  rwa [show p + (j - p) = j by omega] at this
                rw [← hSj]
                refine tr.back j i oj o (Nat.zero_le _) j2 j3 j4 ho hq hlo ?_
                cases hanc : anc B j i
                · rfl
                · have := (i4 j oj j3 j4).1 (ahead j hanc).2
                  omega
              · have hSi : S i = S p := by
                  have := swalk (i - p) p (by omega) fun k ok h1 h2 h3 => by
                    cases hqk : quiet T ok.op
                    · exact (hex ⟨k, ok, h1, by omega, h3, hqk⟩).elim
                    · rfl
                  rwa [show p + (i - p) = i by omega] at this
                rw [hSi]
            · -- more may be done
              have walk : ∀ d, i + d ≤ p → qval P n T ⟨TM i, S (i + d)⟩ o.op = qval P n T ⟨TM i, S i⟩ o.op := by
                intro d
                induction d with
                | zero => intro _; rfl
                | succ d ihd =>
                  intro hd
                  have hod : ops[i + d]? = some ops[i + d] := Array.getElem?_eq_getElem (by omega)
                  rw [← Nat.add_assoc]
                  cases hqd : quiet T ops[i + d].op
                  · have hl : listed[i + d]? = some true := (i4 _ _ hod hqd).2 (by omega)
                    have hne : i < i + d := by
                      rcases Nat.eq_zero_or_pos d with rfl | h
                      · exact (hunl hl).elim
                      · omega
                    have hanc : anc B i (i + d) = false := by
                      cases hanc : anc B i (i + d)
                      · rfl
                      · exact (hunl (hdown _ _ hl hanc)).elim
                    rw [← tr.fore i (i + d) o _ (Nat.zero_le _) hne ho hq hlo hod hqd hanc]
                    refine (qval_alike (fun x hx => ?_) (.inr rfl)).symm
                    cases x with
                    | tmp t =>
                      have ht : t ∈ opReads ops o := List.mem_append_left _ (List.mem_filterMap.2 ⟨.tmp t, by simpa using hx, rfl⟩)
                      show tv (TM (i + d + 1)) t = tv (TM i) t
                      by_cases hex : ∃ k, opDst ops k = some t
                      · obtain ⟨k, hk⟩ := hex
                        have c3' : anc B k i = true := by
                          rcases c3 t ht k hk with h0 | ⟨h0, _⟩
                          · exact h0
                          · rw [hlo] at h0; cases h0
                        obtain ⟨h1, _⟩ := ahead k c3'
                        rw [(tmv (i + d + 1) (by omega)).1 k t (by omega) hk, (tmv i (by omega)).1 k t h1 hk]
                      · rw [(tmv (i + d + 1) (by omega)).2 t fun k _ hk => hex ⟨k, hk⟩, (tmv i (by omega)).2 t fun k _ hk => hex ⟨k, hk⟩]
                    | _ => rfl
                  · rw [(tr.soft (i + d) _ (Nat.zero_le _) hod hqd).1]
                    exact ihd (by omega)
              have := walk (p - i) (by omega)
              rwa [show i + (p - i) = p by omega] at this
  refine main ops.size _ a W (by simp) ?_ (fun i j hi hj => ?_) ⟨TM 0, 0, D, β, fun t i hi hl => ?_, fun t _ => rfl, Nat.zero_le _, fun i o ho hq => ?_, hst⟩
  · have := List.length_filter_le (fun i => (Array.replicate ops.size false).getD i true == false) (List.range ops.size)
    simpa using this
  · rw [Array.getElem?_replicate] at hi; split at hi <;> simp at hi
  · rw [Array.getElem?_replicate] at hl; split at hl <;> simp at hl
  · rw [Array.getElem?_replicate]
    constructor
    · intro h; split at h <;> simp at h
    · intro h; exact absurd h (Nat.not_lt_zero i)
end
end Go.Ve
