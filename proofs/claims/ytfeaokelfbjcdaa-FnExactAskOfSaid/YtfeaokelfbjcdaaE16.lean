/- The engine, part 16: code in few words, its run over environments, loops. No condition. -/
import Derived.Test.YtfeaokelfbjcdaaE15
namespace Go.Ve
open Go.RowKit
set_option linter.unusedVariables false
set_option linter.unusedSimpArgs false

structure SOp where
  d : Option Nat
  op : Op
  g : Option (Nat × Bool)
inductive SCode where
  | skip
  | reg (l : List SOp)
  | draw (l : List SOp) (B : List (List Nat))
  | seq (a b : SCode)
  | cond (c : Operand) (a b : SCode)
  | block (id : Nat) (a : SCode)
  | loop (a : SCode)
  | exit (id : Nat)
  | ret

/-! ### In few words -/
def slimOp (ops : Array Oper) (o : Oper) : SOp := ⟨o.dst, o.op, o.guard.map fun x => ((opDst ops x.1).getD 0, x.2)⟩
def insOne (x : Nat) : List Nat → List Nat
  | [] => [x]
  | y :: l => bif Nat.blt x y then x :: y :: l else bif Nat.beq x y then y :: l else y :: insOne x l
/-- What comes ahead of each. -/
def befores (ops : List Oper) : List (List Nat) :=
  ops.foldl (fun B o => B ++ [o.after.toList.foldl (fun s ed => bif Region.binds .any ed then (B.getD ed.on []).foldl (fun s x => insOne x s) (insOne ed.on s) else s) []]) []
def slim : Code → Option SCode
  | .skip => some .skip
  | .label _ => some .skip
  | .region _ ops false => some (.reg (ops.toList.map (slimOp ops)))
  | .region _ ops true => some (.draw (ops.toList.map (slimOp ops)) (befores ops.toList))
  | .seq a b => match slim a, slim b with
    | some x, some y => some (.seq x y)
    | _, _ => none
  | .cond c a b => match slim a, slim b with
    | some x, some y => some (.cond c x y)
    | _, _ => none
  | .block id a => match slim a with
    | some x => some (.block id x)
    | none => none
  | .loop a => match slim a with
    | some x => some (.loop x)
    | none => none
  | .exit id => some (.exit id)
  | .ret => some .ret
  | _ => none
/-- What must hold of a code besides. -/
def okOps (sz : Nat) (ops : Array Oper) : Bool := ops.toList.all fun o => (match o.dst with
    | some d => Nat.blt d sz
    | none => true) && (match o.guard with
    | some (j, _) => (opDst ops j).isSome
    | none => true)
def okC (T : List (Nat × Fsem)) (sz : Nat) : Code → Bool
  | .region _ ops false => okOps sz ops
  | .region _ ops true => okOps sz ops && drawOk T ops (befores ops.toList)
  | .seq a b => okC T sz a && okC T sz b
  | .cond _ a b => okC T sz a && okC T sz b
  | .block _ a => okC T sz a
  | .loop a => okC T sz a
  | _ => true

/-! ### The run -/
def bitOf (v : AV) (want : Bool) : Option Bool :=
  match v with
  | .bool b => some (b == want)
  | .gd g (.bool b) => some (g && (b == want))
  | _ => none
def vopd (P : Program) (n : Nat) (d : Option Nat) (op : Op) (e : Env) (K : Env → Prop) : Prop := vop P n ⟨d, op, 0, "", #[], none⟩ e K
/-- An operation without a guard. -/
def vso (P : Program) (n : Nat) (T : List (Nat × Fsem)) (o : SOp) (e : Env) (K : Env → Prop) : Prop :=
  match qval P n T e o.op with
  | some r => r.c ∧ K (e.put o.d r.v)
  | none => vopd P n o.d o.op e K
/-- With a guard. -/
def vsg (P : Program) (n : Nat) (T : List (Nat × Fsem)) (o : SOp) (g : Option Bool) (e : Env) (K : Env → Prop) : Prop :=
  match g with
  | none => False
  | some g => match qval P n T e o.op with
    | some r => (g = true → r.c) ∧ K (e.put o.d (.gd g r.v))
    | none => (g = true → vopd P n o.d o.op e K) ∧ (g = false → K (e.put o.d .undef))
def vs (P : Program) (n : Nat) (T : List (Nat × Fsem)) (o : SOp) (e : Env) (K : Env → Prop) : Prop :=
  match o.g with
  | none => vso P n T o e K
  | some x => vsg P n T o (bitOf (tv e.tm x.1) x.2) e K
def vsF (P : Program) (n : Nat) (T : List (Nat × Fsem)) (o : SOp) (e : Env) (K : Env → Prop) : Prop :=
  match o.g, o.op with
  | none, .call ⟨.builtin .len, args, ts⟩ => match args.toList, ts.toList with
    | [x], [t] => e.argc x ∧ (vLen P e.st t (e.arg x)).c ∧ (lenFact (e.arg x) → K (e.put o.d (vLen P e.st t (e.arg x)).v))
    | _, _ => vs P n T o e K
  | _, _ => vs P n T o e K
def vr (P : Program) (n : Nat) (T : List (Nat × Fsem)) : List SOp → Env → (Env → Prop) → Prop
  | [], e, K => K e
  | o :: l, e, K => vsF P n T o e fun e' => vr P n T l e' K
def vd (P : Program) (n : Nat) (T : List (Nat × Fsem)) (B : List (List Nat)) : Nat → List SOp → List (Nat × List Root) → List (Nat × Op × Option OpR) → Env → (Env → Prop) → Prop
  | _, [], _, _, e, K => K e
  | i, o :: l, hist, pend, e, K =>
    bif quiet T o.op then
      (bif looks o.op then (∀ h ∈ hist, bif anc B h.1 i then True else qval P n T ⟨e.tm, h.2⟩ o.op = qval P n T e o.op) else True) ∧
      vs P n T o e fun e' => vd P n T B (i + 1) l hist (bif looks o.op then (i, o.op, qval P n T e o.op) :: pend else pend) e' K
    else vs P n T o e fun e' => (∀ p ∈ pend, bif anc B p.1 i then True else qval P n T e' p.2.1 = p.2.2) ∧ vd P n T B (i + 1) l ((i, e.st) :: hist) pend e' K

def thenQ (K : Env → Prop) (Q : Exit → Env → Prop) : Exit → Env → Prop
  | .normal, e => K e
  | x, e => Q x e
def blockQ (id : Nat) (Q : Exit → Env → Prop) : Exit → Env → Prop
  | .exit i, e => if i = id then Q .normal e else Q (.exit i) e
  | x, e => Q x e
def vcond (v : AV) (A B : Prop) : Prop :=
  match v with
  | .bool t => (t = true → A) ∧ (t = false → B)
  | _ => False

/-- What is known at an exit. -/
def Post (C : Ctx) (sz : Nat) (Q : Exit → Env → Prop) : Exit → Act → World → Prop := fun x a W => ∃ e D β, Q x e ∧ St C sz e a W D β
/-- The machine follows. -/
def VW (P : Program) (n k : Nat) (T : List (Nat × Fsem)) (s : SCode) (Q : Exit → Env → Prop) (e : Env) : Prop :=
  ∀ (c : Code) (C : Ctx) (sz : Nat) (a : Act) (W : World) (D : Nat → Nat → Prop) (β : Nat → Option Nat), slim c = some s → okC T sz c = true → C.n ≠ 0 → C.n ≤ n → C.k ≤ k → St C sz e a W D β → c.wp P (Post C sz Q) a W

def vc (P : Program) (n k : Nat) (T : List (Nat × Fsem)) : SCode → (Exit → Env → Prop) → Env → Prop
  | .skip, Q, e => Q .normal e
  | .reg l, Q, e => vr P n T l e (Q .normal)
  | .draw l B, Q, e => vd P n T B 0 l [] [] e (Q .normal)
  | .seq a b, Q, e => vc P n k T a (thenQ (vc P n k T b Q) Q) e
  | .cond c a b, Q, e => e.argc c ∧ vcond (e.arg c) (vc P n k T a Q e) (vc P n k T b Q e)
  | .block id a, Q, e => vc P n k T a (blockQ id Q) e
  | .loop a, Q, e => VW P n k T (.loop a) Q e
  | .exit id, Q, e => Q (.exit id) e
  | .ret, Q, e => Q .ret e

section
variable {P : Program} {n k : Nat} {T : List (Nat × Fsem)}

theorem vop_vopd {o : Oper} {e : Env} {K : Env → Prop} : vopd P n o.dst o.op e K = vop P n o e K := rfl
theorem vs_vstep {ops : Array Oper} {o : Oper} {e : Env} {K : Env → Prop} (hg : (match o.guard with | some (j, _) => (opDst ops j).isSome | none => true) = true) : vs P n T (slimOp ops o) e K = vstep P n T ops o e K := by
  unfold vs vstep slimOp
  cases h : o.guard with
  | none => rfl
  | some x =>
    obtain ⟨j, want⟩ := x
    rw [h] at hg
    simp only [Option.map_some, vsg]
    have : bitOf (tv e.tm ((opDst ops j).getD 0)) want = gbit e ops j want := by
      unfold gbit bitOf
      cases ht : opDst ops j with
      | none => simp [ht] at hg
      | some t =>
        have : (ops[j]?).bind (·.dst) = some t := ht
        rw [this]
        rfl
    rw [this]
    cases gbit e ops j want <;> rfl
theorem vsF_vstepF {ops : Array Oper} {o : Oper} {e : Env} {K : Env → Prop} (hg : (match o.guard with | some (j, _) => (opDst ops j).isSome | none => true) = true) : vsF P n T (slimOp ops o) e K = vstepF P n T ops o e K := by
  have h0 := vs_vstep (P := P) (n := n) (T := T) (e := e) (K := K) hg
  unfold vsF vstepF
  obtain ⟨dst, op, ty, pos, after, guard⟩ := o
  cases guard with
  | none =>
    simp only [slimOp, Option.map_none] at h0 ⊢
    rw [h0]
    rfl
  | some x => exact h0
theorem vr_vreg {ops : Array Oper} {K : Env → Prop} : ∀ {l : List Oper} {e : Env}, (∀ o ∈ l, (match o.guard with | some (j, _) => (opDst ops j).isSome | none => true) = true) → vr P n T (l.map (slimOp ops)) e K = vregF P n T ops l e K
  | [], e, _ => rfl
  | o :: l, e, h => by
    simp only [List.map_cons, vr, vregF]
    rw [vsF_vstepF (h o (List.mem_cons_self ..))]
    congr 1
    funext e'
    exact vr_vreg fun o ho => h o (List.mem_cons_of_mem _ ho)
theorem vd_vdr {ops : Array Oper} {B : List (List Nat)} {K : Env → Prop} : ∀ {l : List Oper} {i : Nat} {hist : List (Nat × List Root)} {pend : List (Nat × Op × Option OpR)} {e : Env}, (∀ o ∈ l, (match o.guard with | some (j, _) => (opDst ops j).isSome | none => true) = true) → vd P n T B i (l.map (slimOp ops)) hist pend e K = vdr P n T ops B i l hist pend e K
  | [], i, hist, pend, e, _ => rfl
  | o :: l, i, hist, pend, e, h => by
    have ih : ∀ i hist pend e, vd P n T B i (l.map (slimOp ops)) hist pend e K = vdr P n T ops B i l hist pend e K := fun i hist pend e => vd_vdr fun o ho => h o (List.mem_cons_of_mem _ ho)
    simp only [List.map_cons, vd, vdr, vs_vstep (h o (List.mem_cons_self ..)), ih]
    rfl

theorem okOps_dst {sz : Nat} {ops : Array Oper} (h : okOps sz ops = true) : ∀ (i : Nat) (o' : Oper) (d : Nat), ops[i]? = some o' → o'.dst = some d → d < sz := by
  intro i o d ho hd
  have := List.all_eq_true.1 h o (by simpa using Array.mem_of_getElem? ho)
  simp only [Bool.and_eq_true, hd] at this
  simpa using this.1
theorem okOps_guard {sz : Nat} {ops : Array Oper} (h : okOps sz ops = true) : ∀ o ∈ ops.toList, (match o.guard with | some (j, _) => (opDst ops j).isSome | none => true) = true := by
  intro o ho
  have := List.all_eq_true.1 h o ho
  simp only [Bool.and_eq_true] at this
  exact this.2

theorem slim_region {id : Nat} {ops : Array Oper} {draw : Bool} {s : SCode} (h : slim (.region id ops draw) = some s) : (draw = false ∧ s = .reg (ops.toList.map (slimOp ops))) ∨ (draw = true ∧ s = .draw (ops.toList.map (slimOp ops)) (befores ops.toList)) := by
  cases draw <;> simp only [slim, Option.some.injEq] at h
  · exact .inl ⟨rfl, h.symm⟩
  · exact .inr ⟨rfl, h.symm⟩

theorem vc_ok (hT : Table P T) (h2 : 2 ≤ n) (hm : P.follows .mixedOrders = true) : ∀ (s : SCode) (Q : Exit → Env → Prop) (e : Env), vc P n k T s Q e → VW P n k T s Q e := by
  intro s
  induction s with
  | loop a ih => exact fun Q e h => h
  | skip =>
    intro Q e h c C sz a W D β hs ho h0 hn hk hst
    cases c
    case region id ops draw =>
      rcases slim_region hs with ⟨rfl, e0⟩ | ⟨rfl, e0⟩
      · cases e0
      · cases e0
    all_goals simp only [slim] at hs
    all_goals try cases hs
    · exact wp_skip ⟨e, D, β, h, hst⟩
    · split at hs <;> cases hs
    · split at hs <;> cases hs
    · split at hs <;> cases hs
    · split at hs <;> cases hs
    · exact wp_label ⟨e, D, β, h, hst⟩
  | reg l =>
    intro Q e h c C sz a W D β hs ho h0 hn hk hst
    cases c
    case region id ops draw =>
      rcases slim_region hs with ⟨rfl, e0⟩ | ⟨rfl, e0⟩
      · injection e0 with e0
        subst e0
        simp only [okC] at ho
        simp only [vc] at h
        rw [vr_vreg (okOps_guard ho)] at h
        exact wp_region_list (vreg_ok h0 hn h2 hT (fun a W ⟨e', D', β', k1, k2⟩ => ⟨e', D', β', k1, k2⟩) (okOps_dst ho) ops.toList e a W D β (fun o hom d hd => by
          obtain ⟨i, hi⟩ := List.mem_iff_getElem?.1 hom
          exact okOps_dst ho i o d (by simpa using hi) hd) hst h)
      · cases e0
    all_goals simp only [slim] at hs
    all_goals try cases hs
    any_goals (split at hs <;> cases hs)
  | draw l B =>
    intro Q e h c C sz a W D β hs ho h0 hn hk hst
    cases c
    case region id ops draw =>
      rcases slim_region hs with ⟨rfl, e0⟩ | ⟨rfl, e0⟩
      · cases e0
      · injection e0 with e0 e1
        subst e0 e1
        simp only [okC, Bool.and_eq_true] at ho
        simp only [vc] at h
        rw [vd_vdr (okOps_guard ho.1)] at h
        exact wp_region_any hm (vdr_ok h0 hn h2 hT (fun a W ⟨e', D', β', k1, k2⟩ => ⟨e', D', β', k1, k2⟩) (okOps_dst ho.1) ho.2 hst.drew h)
    all_goals simp only [slim] at hs
    all_goals try cases hs
    any_goals (split at hs <;> cases hs)
  | seq x y ihx ihy =>
    intro Q e h c C sz a W D β hs ho h0 hn hk hst
    cases c
    case region id ops draw =>
      rcases slim_region hs with ⟨rfl, e0⟩ | ⟨rfl, e0⟩
      · cases e0
      · cases e0
    all_goals simp only [slim] at hs
    all_goals try cases hs
    any_goals (split at hs <;> cases hs)
    · rename_i h1 h2
      simp only [okC, Bool.and_eq_true] at ho
      simp only [vc] at h
      refine wp_seq (wp_mono (ihx _ _ h _ C sz a W D β h1 ho.1 h0 hn hk hst) ?_)
      rintro x a' W' ⟨e', D', β', k1, k2⟩
      cases x <;> try exact ⟨e', D', β', k1, k2⟩
      exact ihy _ _ k1 _ C sz a' W' D' β' h2 ho.2 h0 hn hk k2
  | cond x y z ihy ihz =>
    intro Q e h c C sz a W D β hs ho h0 hn hk hst
    cases c
    case region id ops draw =>
      rcases slim_region hs with ⟨rfl, e0⟩ | ⟨rfl, e0⟩
      · cases e0
      · cases e0
    all_goals simp only [slim] at hs
    all_goals try cases hs
    any_goals (split at hs <;> cases hs)
    · rename_i h1 h2
      simp only [okC, Bool.and_eq_true] at ho
      simp only [vc] at h
      obtain ⟨k1, k2⟩ := h
      have hc := hst.fine.arg k1
      unfold vcond at k2
      split at k2
      · rename_i t ht
        rw [ht] at hc
        exact wp_cond_split (rep_bool hc) (fun ht => ihy _ _ (k2.1 ht) _ C sz a W D β h1 ho.1 h0 hn hk hst) (fun ht => ihz _ _ (k2.2 ht) _ C sz a W D β h2 ho.2 h0 hn hk hst)
      · exact k2.elim
  | block id x ih =>
    intro Q e h c C sz a W D β hs ho h0 hn hk hst
    cases c
    case region id ops draw =>
      rcases slim_region hs with ⟨rfl, e0⟩ | ⟨rfl, e0⟩
      · cases e0
      · cases e0
    all_goals simp only [slim] at hs
    all_goals try cases hs
    any_goals (split at hs <;> cases hs)
    · rename_i h1
      simp only [okC] at ho
      simp only [vc] at h
      refine wp_block (wp_mono (ih _ _ h _ C sz a W D β h1 ho h0 hn hk hst) ?_)
      rintro x a' W' ⟨e', D', β', k1, k2⟩
      cases x <;> try exact ⟨e', D', β', k1, k2⟩
      rename_i i
      simp only [blockQ] at k1
      simp only [Exit.inBlock]
      split <;> rename_i hi
      · rw [if_pos hi] at k1; exact ⟨e', D', β', k1, k2⟩
      · rw [if_neg hi] at k1; exact ⟨e', D', β', k1, k2⟩
  | exit id =>
    intro Q e h c C sz a W D β hs ho h0 hn hk hst
    cases c
    case region id ops draw =>
      rcases slim_region hs with ⟨rfl, e0⟩ | ⟨rfl, e0⟩
      · cases e0
      · cases e0
    all_goals simp only [slim] at hs
    all_goals try cases hs
    any_goals (split at hs <;> cases hs)
    · exact wp_exit ⟨e, D, β, h, hst⟩
  | ret =>
    intro Q e h c C sz a W D β hs ho h0 hn hk hst
    cases c
    case region id ops draw =>
      rcases slim_region hs with ⟨rfl, e0⟩ | ⟨rfl, e0⟩
      · cases e0
      · cases e0
    all_goals simp only [slim] at hs
    all_goals try cases hs
    any_goals (split at hs <;> cases hs)
    · exact wp_ret ⟨e, D, β, h, hst⟩
end
end Go.Ve
