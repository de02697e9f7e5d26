/- The engine, part 14: regions; those that draw their order, too. No condition. -/
import Derived.Test.YtfeaokelfbjcdaaE13
namespace Go.Ve
open Go.RowKit
set_option linter.unusedVariables false
set_option linter.unusedSimpArgs false

def vreg (P : Program) (n : Nat) (T : List (Nat × Fsem)) (ops : Array Oper) : List Oper → Env → (Env → Prop) → Prop
  | [], e, K => K e
  | o :: l, e, K => vstep P n T ops o e fun e' => vreg P n T ops l e' K

/-- Leaves the roots alone, whatever they are. -/
def quiet (T : List (Nat × Fsem)) : Op → Bool
  | .call ⟨.value (.func f), _, _⟩ => (tget T f).isSome
  | .call ⟨.value _, _, _⟩ => false
  | .box _ _ | .alloc _ | .buildSlice _ _ _ | .makeSlice _ _ _ | .makeMap _ _ | .store _ _ _ | .mapUpdate _ _ _ _ => false
  | .call ⟨.builtin .append, _, _⟩ | .call ⟨.builtin .copy, _, _⟩ => false
  | _ => true
/-- Looks at the roots. -/
def looks : Op → Bool
  | .load _ _ | .lookup _ _ _ _ | .call _ => true
  | _ => false
def anc (B : List (List Nat)) (j i : Nat) : Bool := (B.getD i []).contains j

/-- A region that draws its order, in the order of its list; what may come in another place is looked at there. -/
def vdr (P : Program) (n : Nat) (T : List (Nat × Fsem)) (ops : Array Oper) (B : List (List Nat)) : Nat → List Oper → List (Nat × List Root) → List (Nat × Op × Option OpR) → Env → (Env → Prop) → Prop
  | _, [], _, _, e, K => K e
  | i, o :: l, hist, pend, e, K =>
    bif quiet T o.op then
      (bif looks o.op then (∀ h ∈ hist, bif anc B h.1 i then True else qval P n T ⟨e.tm, h.2⟩ o.op = qval P n T e o.op) else True) ∧
      vstep P n T ops o e fun e' => vdr P n T ops B (i + 1) l hist (bif looks o.op then (i, o.op, qval P n T e o.op) :: pend else pend) e' K
    else vstep P n T ops o e fun e' => (∀ p ∈ pend, bif anc B p.1 i then True else qval P n T e' p.2.1 = p.2.2) ∧ vdr P n T ops B (i + 1) l ((i, e.st) :: hist) pend e' K

def opDst (ops : Array Oper) (i : Nat) : Option Nat := (ops[i]?).bind (·.dst)
def opReads (ops : Array Oper) (o : Oper) : List Nat :=
  (o.op.operands.toList.filterMap fun | .tmp t => some t | _ => none) ++ (match o.guard with
    | some (j, _) => (opDst ops j).toList
    | none => [])
/-- The table of what comes ahead fits, what is read comes ahead, nothing is written twice, and what is not quiet stands in a chain. -/
def drawOk (T : List (Nat × Fsem)) (ops : Array Oper) (B : List (List Nat)) : Bool :=
  (List.range ops.size).all fun i => match ops[i]? with
    | none => false
    | some o =>
      (B.getD i []).all (fun j => decide (j < i) && o.after.any fun ed => Region.binds .any ed && (ed.on == j || anc B j ed.on)) &&
      o.after.all (fun ed => !Region.binds .any ed || decide (ed.on < i)) &&
      (opReads ops o).all (fun t => (List.range ops.size).all fun k => opDst ops k != some t || anc B k i || (!looks o.op && anc B i k)) &&
      (List.range i).all (fun k => (opDst ops k).isNone || opDst ops k != o.dst) &&
      (quiet T o.op || (List.range i).all fun k => (match ops[k]? with | some o' => quiet T o'.op | none => true) || anc B k i)

section
variable {P : Program} {n : Nat} {T : List (Nat × Fsem)} {ops : Array Oper} {tm tm' : List (Nat × AV)} {st st' : List Root}

theorem arg_eq {x : Operand} (h : Env.ev ⟨tm', st'⟩ x = Env.ev ⟨tm, st⟩ x) : Env.arg ⟨tm', st'⟩ x = Env.arg ⟨tm, st⟩ x ∧ Env.argc ⟨tm', st'⟩ x = Env.argc ⟨tm, st⟩ x := by
  simp only [Env.arg, Env.argc, h, and_self]

/-- The operands look alike. -/
def Alike (op : Op) (tm tm' : List (Nat × AV)) : Prop := ∀ x ∈ op.operands, Env.ev ⟨tm', []⟩ x = Env.ev ⟨tm, []⟩ x
theorem ev_st (x : Operand) : Env.ev ⟨tm, st⟩ x = Env.ev ⟨tm, []⟩ x := by cases x <;> rfl
theorem Alike.ev {op : Op} (h : Alike op tm tm') {x : Operand} (hx : x ∈ op.operands) (st st' : List Root) : Env.ev ⟨tm', st'⟩ x = Env.ev ⟨tm, st⟩ x := by
  rw [ev_st, h x hx, ← ev_st]
theorem Alike.arg {op : Op} (h : Alike op tm tm') {x : Operand} (hx : x ∈ op.operands) (st st' : List Root) : Env.arg ⟨tm', st'⟩ x = Env.arg ⟨tm, st⟩ x := (arg_eq (h.ev hx st st')).1
theorem Alike.argc {op : Op} (h : Alike op tm tm') {x : Operand} (hx : x ∈ op.operands) (st st' : List Root) : Env.argc ⟨tm', st'⟩ x = Env.argc ⟨tm, st⟩ x := (arg_eq (h.ev hx st st')).2

theorem map_arg_eq {op : Op} (h : Alike op tm tm') {xs : List Operand} (hx : ∀ x ∈ xs, x ∈ op.operands) (st st' : List Root) : xs.map (Env.arg ⟨tm', st'⟩) = xs.map (Env.arg ⟨tm, st⟩) :=
  List.map_congr_left fun x hxs => h.arg (hx x hxs) st st'
theorem all_argc_eq {op : Op} (h : Alike op tm tm') {xs : List Operand} (hx : ∀ x ∈ xs, x ∈ op.operands) (st st' : List Root) : (∀ x ∈ xs, Env.argc ⟨tm', st'⟩ x) = (∀ x ∈ xs, Env.argc ⟨tm, st⟩ x) := by
  apply propext
  exact ⟨fun k x hxs => h.argc (hx x hxs) st st' ▸ k x hxs, fun k x hxs => (h.argc (hx x hxs) st st').symm ▸ k x hxs⟩

/-- Operands alike, roots the same: the same is given. -/
theorem opv_alike {op : Op} (h : Alike op tm tm') (hl : looks op = false ∨ st' = st) : opv P ⟨tm', st'⟩ op = opv P ⟨tm, st⟩ op := by
  have ha := fun x (hx : x ∈ op.operands) => h.arg hx st st'
  have hc := fun x (hx : x ∈ op.operands) => h.argc hx st st'
  have he := fun x (hx : x ∈ op.operands) => h.ev hx st st'
  cases op <;> try rfl
  case move x => simp only [opv, ha x (by simp [Op.operands]), hc x (by simp [Op.operands])]
  case assign x => simp only [opv, ha x (by simp [Op.operands]), hc x (by simp [Op.operands])]
  case pick c a b => simp only [opv, he c (by simp [Op.operands]), he a (by simp [Op.operands]), he b (by simp [Op.operands])]
  case load t a =>
    rcases hl with hl | rfl
    · cases hl
    simp only [opv, ha a (by simp [Op.operands]), hc a (by simp [Op.operands])]
  case nilCheck x => simp only [opv, ha x (by simp [Op.operands]), hc x (by simp [Op.operands])]
  case binOp op t x y _ => simp only [opv, ha x (by simp [Op.operands]), hc x (by simp [Op.operands]), ha y (by simp [Op.operands]), hc y (by simp [Op.operands])]
  case unOp op t x => simp only [opv, ha x (by simp [Op.operands]), hc x (by simp [Op.operands])]
  case convert s d x => simp only [opv, ha x (by simp [Op.operands]), hc x (by simp [Op.operands])]
  case makeFunc fn first caps =>
    cases fn <;> try rfl
    rename_i f
    simp only [opv, map_arg_eq h (xs := caps.toList) (fun x hx => by simp [Op.operands]; exact .inr (by simpa using hx)) st st', all_argc_eq h (xs := caps.toList) (fun x hx => by simp [Op.operands]; exact .inr (by simpa using hx)) st st']
  case slice t x lo hi mx =>
    cases mx <;> try rfl
    have hx : x ∈ (Op.slice t x lo hi none).operands := by simp [Op.operands]
    have hlo : lo.map (Env.arg ⟨tm', st'⟩) = lo.map (Env.arg ⟨tm, st⟩) := by
      cases lo with
      | none => rfl
      | some y => simp only [Option.map_some, ha y (by simp [Op.operands])]
    have hhi : hi.map (Env.arg ⟨tm', st'⟩) = hi.map (Env.arg ⟨tm, st⟩) := by
      cases hi with
      | none => rfl
      | some y => simp only [Option.map_some, ha y (by simp [Op.operands])]
    simp only [opv, ha x hx, hc x hx, hlo, hhi, all_argc_eq h (xs := lo.toList ++ hi.toList) (fun x hx => by
      simp only [Op.operands]
      simp at hx ⊢
      rcases hx with hx | hx
      · exact .inr (.inl hx)
      · exact .inr (.inr hx)) st st']
  case fieldAddr t x f => simp only [opv, ha x (by simp [Op.operands]), hc x (by simp [Op.operands])]
  case field t x f => simp only [opv, ha x (by simp [Op.operands]), hc x (by simp [Op.operands])]
  case indexAddr t x i => simp only [opv, ha x (by simp [Op.operands]), hc x (by simp [Op.operands]), ha i (by simp [Op.operands]), hc i (by simp [Op.operands])]
  case index t x i => simp only [opv, ha x (by simp [Op.operands]), hc x (by simp [Op.operands]), ha i (by simp [Op.operands]), hc i (by simp [Op.operands])]
  case lookup t x i ok =>
    rcases hl with hl | rfl
    · cases hl
    simp only [opv, ha x (by simp [Op.operands]), hc x (by simp [Op.operands]), ha i (by simp [Op.operands]), hc i (by simp [Op.operands])]
  case extract x i => simp only [opv, ha x (by simp [Op.operands]), hc x (by simp [Op.operands])]
  case call c =>
    rcases hl with hl | rfl
    · cases hl
    obtain ⟨callee, args, ts⟩ := c
    cases callee <;> try rfl
    rename_i b
    have ha' := fun x (hx : x ∈ args.toList) => ha x (by simpa [Op.operands, Call.operands] using hx)
    have hc' := fun x (hx : x ∈ args.toList) => hc x (by simpa [Op.operands, Call.operands] using hx)
    simp only [opv]
    split
    · rename_i x t h1 h2
      simp only [ha' x (by simp [h1]), hc' x (by simp [h1])]
    · rename_i x y h1
      simp only [ha' x (by simp [h1]), hc' x (by simp [h1]), ha' y (by simp [h1]), hc' y (by simp [h1])]
    · rename_i x y h1
      simp only [ha' x (by simp [h1]), hc' x (by simp [h1]), ha' y (by simp [h1]), hc' y (by simp [h1])]
    · rfl

theorem parts_arg_eq {op : Op} (h : Alike op tm tm') {ps : List (Nat × Operand)} (hx : ∀ p ∈ ps, p.2 ∈ op.operands) (st st' : List Root) : (ps.map fun p => (p.1, Env.arg ⟨tm', st'⟩ p.2)) = (ps.map fun p => (p.1, Env.arg ⟨tm, st⟩ p.2)) :=
  List.map_congr_left fun p hp => by rw [h.arg (hx p hp) st st']
theorem parts_argc_eq {op : Op} (h : Alike op tm tm') {ps : List (Nat × Operand)} (hx : ∀ p ∈ ps, p.2 ∈ op.operands) (st st' : List Root) : (∀ p ∈ ps, Env.argc ⟨tm', st'⟩ p.2) = (∀ p ∈ ps, Env.argc ⟨tm, st⟩ p.2) := by
  apply propext
  exact ⟨fun k x hxs => h.argc (hx x hxs) st st' ▸ k x hxs, fun k x hxs => (h.argc (hx x hxs) st st').symm ▸ k x hxs⟩

theorem qval_alike {op : Op} (h : Alike op tm tm') (hl : looks op = false ∨ st' = st) : qval P n T ⟨tm', st'⟩ op = qval P n T ⟨tm, st⟩ op := by
  cases op
  case build t ps =>
    simp only [qval, parts_arg_eq h (ps := ps.toList) (fun p hp => by simp only [Op.operands]; simp; exact ⟨p.1, by simpa using hp⟩) st st', parts_argc_eq h (ps := ps.toList) (fun p hp => by simp only [Op.operands]; simp; exact ⟨p.1, by simpa using hp⟩) st st']
  case call c =>
    rcases hl with hl | rfl
    · cases hl
    obtain ⟨callee, args, ts⟩ := c
    cases callee
    case value f =>
      have hf : f ∈ (Op.call ⟨.value f, args, ts⟩).operands := by simp [Op.operands, Call.operands]
      have hxs : ∀ x ∈ args.toList, x ∈ (Op.call ⟨.value f, args, ts⟩).operands := fun x hx => by simp only [Op.operands, Call.operands]; simp; exact .inr (by simpa using hx)
      simp only [qval, h.arg hf st' st', h.argc hf st' st', map_arg_eq h hxs st' st', all_argc_eq h hxs st' st']
    case builtin b =>
      have := opv_alike (P := P) h (.inr rfl : looks _ = false ∨ st' = st')
      cases b <;> simp only [qval, this]
    case invoke r m =>
      have := opv_alike (P := P) h (.inr rfl : looks _ = false ∨ st' = st')
      simp only [qval, this]
  all_goals first
    | rfl
    | (simp only [qval]; rw [opv_alike (P := P) h hl])

/-- What an operation comes to hangs on the roots and on its operands alone. -/
theorem vop_trace {o : Oper} {K : Env → Prop} (hv : vop P n o ⟨tm, st⟩ K) :
    ∃ st' v, K (Env.put ⟨tm, st'⟩ o.dst v) ∧ ∀ (tm' : List (Nat × AV)) (K' : Env → Prop), Alike o.op tm tm' → K' (Env.put ⟨tm', st'⟩ o.dst v) → vop P n o ⟨tm', st⟩ K' := by
  obtain ⟨dst, op, ty, pos, after, guard⟩ := o
  unfold vop at hv
  simp only at hv
  split at hv
  · -- box
    rename_i t x
    obtain ⟨h1, h2, h3⟩ := hv
    refine ⟨_, _, h3, fun tm' K' ha hk => ?_⟩
    have hx : x ∈ (Op.box t x).operands := by simp [Op.operands]
    simp only [vop, ha.arg hx st st, ha.argc hx st st]
    exact ⟨h1, h2, hk⟩
  · exact ⟨_, _, hv.2, fun tm' K' ha hk => ⟨hv.1, hk⟩⟩
  · -- build
    rename_i t ps
    obtain ⟨h1, h2, h3⟩ := hv
    refine ⟨_, _, h3, fun tm' K' ha hk => ?_⟩
    have hp : ∀ p ∈ ps.toList, p.2 ∈ (Op.build t ps).operands := fun p hp => by simp only [Op.operands]; simp; exact ⟨p.1, by simpa using hp⟩
    simp only [vop]
    rw [parts_argc_eq ha hp st st, parts_arg_eq ha hp st st]
    exact ⟨h1, h2, hk⟩
  · -- buildSlice
    rename_i t len ps
    split at hv
    · rename_i et ht
      obtain ⟨h1, h2, h3, h4, h5, h6, h7⟩ := hv
      refine ⟨_, _, h7, fun tm' K' ha hk => ?_⟩
      have hp : ∀ p ∈ ps.toList, p.2 ∈ (Op.buildSlice t len ps).operands := fun p hp => by simp only [Op.operands]; simp; exact ⟨p.1, by simpa using hp⟩
      have hpa : ∀ p ∈ ps.toList, Env.arg ⟨tm', st⟩ p.2 = Env.arg ⟨tm, st⟩ p.2 := fun p h0 => ha.arg (hp p h0) st st
      have e1 : (ps.toList.flatMap fun p => (emb st n (Env.arg ⟨tm', st⟩ p.2)).rs) = ps.toList.flatMap fun p => (emb st n (Env.arg ⟨tm, st⟩ p.2)).rs := by
        rw [List.flatMap_def, List.flatMap_def, List.map_congr_left fun p h0 => by rw [hpa p h0]]
      have e2 : (ps.toList.map fun p => (emb st n (Env.arg ⟨tm', st⟩ p.2)).v) = ps.toList.map fun p => (emb st n (Env.arg ⟨tm, st⟩ p.2)).v :=
        List.map_congr_left fun p h0 => by rw [hpa p h0]
      simp only [vop, ht]
      refine ⟨h1, h2, h3, h4, ?_, fun p h0 => ?_, ?_⟩
      · rw [parts_argc_eq ha hp st st]; exact h5
      · rw [hpa p h0]; exact h6 p h0
      · rw [e1, e2]; exact hk
    · exact hv.elim
  · -- makeSlice
    rename_i t l c
    split at hv
    · rename_i et k1 l' k2 c' ht hl hc
      obtain ⟨h1, h2, h3, h4, h5, h6, h7, h8, h9, h10, h11⟩ := hv
      refine ⟨_, _, h11, fun tm' K' ha hk => ?_⟩
      have hx1 : l ∈ (Op.makeSlice t l c).operands := by simp [Op.operands]
      have hx2 : c ∈ (Op.makeSlice t l c).operands := by simp [Op.operands]
      simp only [vop, ha.arg hx1 st st, ha.argc hx1 st st, ha.arg hx2 st st, ha.argc hx2 st st, ht, hl, hc]
      exact ⟨h1, h2, h3, h4, h5, h6, h7, h8, h9, h10, hk⟩
    · exact hv.elim
  · exact ⟨_, _, hv, fun tm' K' ha hk => hk⟩
  · -- store
    rename_i t p x
    have hx1 : p ∈ (Op.store t p x).operands := by simp [Op.operands]
    have hx2 : x ∈ (Op.store t p x).operands := by simp [Op.operands]
    split at hv
    · rename_i r w i j hp
      split at hv
      · rename_i tt cs hr
        obtain ⟨h1, h2, h3, h4, h5, h6, h7, h8⟩ := hv
        refine ⟨_, _, h8, fun tm' K' ha hk => ?_⟩
        simp only [vop, ha.arg hx1 st st, ha.argc hx1 st st, ha.arg hx2 st st, ha.argc hx2 st st, hp, hr]
        exact ⟨h1, h2, h3, h4, h5, h6, h7, hk⟩
      · rename_i tt w' xs hr
        obtain ⟨h1, h2, h3, h4, h5, h6, h7, h8, h9, h10, h11⟩ := hv
        refine ⟨_, _, h11, fun tm' K' ha hk => ?_⟩
        simp only [vop, ha.arg hx1 st st, ha.argc hx1 st st, ha.arg hx2 st st, ha.argc hx2 st st, hp, hr]
        exact ⟨h1, h2, h3, h4, h5, h6, h7, h8, h9, h10, hk⟩
      · exact hv.elim
    · exact hv.elim
  · -- mapUpdate
    rename_i t mp k v
    have hx1 : mp ∈ (Op.mapUpdate t mp k v).operands := by simp [Op.operands]
    have hx2 : k ∈ (Op.mapUpdate t mp k v).operands := by simp [Op.operands]
    have hx3 : v ∈ (Op.mapUpdate t mp k v).operands := by simp [Op.operands]
    split at hv
    · rename_i kt et r ht hm
      split at hv
      · rename_i kv hr
        split at hv
        · rename_i kv' hs
          obtain ⟨h1, h2, h3, h4, h5, h6⟩ := hv
          refine ⟨_, _, h6, fun tm' K' ha hk => ?_⟩
          simp only [vop, ha.arg hx1 st st, ha.argc hx1 st st, ha.arg hx2 st st, ha.argc hx2 st st, ha.arg hx3 st st, ha.argc hx3 st st, ht, hm, hr, hs]
          exact ⟨h1, h2, h3, h4, h5, hk⟩
        · exact hv.elim
      · exact hv.elim
    · exact hv.elim
  · -- a call
    rename_i f args ts
    obtain ⟨h1, h2, fid, caps, hfe, m, n', rout, res, k1, k2, k3, k4, k5, k6⟩ := hv
    refine ⟨_, _, k6, fun tm' K' ha hk => ?_⟩
    have hf : f ∈ (Op.call ⟨.value f, args, ts⟩).operands := by simp [Op.operands, Call.operands]
    have hxs : ∀ x ∈ args.toList, x ∈ (Op.call ⟨.value f, args, ts⟩).operands := fun x hx => by simp only [Op.operands, Call.operands]; simp; exact .inr (by simpa using hx)
    simp only [vop]
    rw [ha.argc hf st st, all_argc_eq ha hxs st st, ha.arg hf st st, map_arg_eq ha hxs st st]
    exact ⟨h1, h2, fid, caps, hfe, m, n', rout, res, k1, k2, k3, k4, k5, hk⟩
  · -- append
    rename_i args ts
    split at hv
    · rename_i s x t t' hargs hts
      have hx1 : s ∈ (Op.call ⟨.builtin .append, args, ts⟩).operands := by simp only [Op.operands, Call.operands]; simp; rw [← Array.mem_toList_iff, hargs]; simp
      have hx2 : x ∈ (Op.call ⟨.builtin .append, args, ts⟩).operands := by simp only [Op.operands, Call.operands]; simp; rw [← Array.mem_toList_iff, hargs]; simp
      split at hv
      · rename_i et ht
        obtain ⟨h1, h2, h3, h4, h5, h6, h7, h8, hv⟩ := hv
        split at hv
        · rename_i hs
          refine ⟨_, _, hv.2, fun tm' K' ha hk => ?_⟩
          simp only [vop, hargs, hts, ht, ha.arg hx1 st st, ha.argc hx1 st st, ha.arg hx2 st st, ha.argc hx2 st st, hs]
          exact ⟨h1, h2, h3, h4, h5, h6, h7, h8, hv.1, hk⟩
        · rename_i r w off len hs
          split at hv
          · rename_i tt w' xs hr
            obtain ⟨k1, k2, k3, k4, k5, k6, k7⟩ := hv
            refine ⟨_, _, k7, fun tm' K' ha hk => ?_⟩
            simp only [vop, hargs, hts, ht, ha.arg hx1 st st, ha.argc hx1 st st, ha.arg hx2 st st, ha.argc hx2 st st, hs, hr]
            exact ⟨h1, h2, h3, h4, h5, h6, h7, h8, k1, k2, k3, k4, k5, k6, hk⟩
          · exact hv.elim
        · exact hv.elim
      · exact hv.elim
    · exact hv.elim
  · -- copy
    rename_i args ts
    split at hv
    · rename_i s x t t' hargs hts
      have hx1 : s ∈ (Op.call ⟨.builtin .copy, args, ts⟩).operands := by simp only [Op.operands, Call.operands]; simp; rw [← Array.mem_toList_iff, hargs]; simp
      have hx2 : x ∈ (Op.call ⟨.builtin .copy, args, ts⟩).operands := by simp only [Op.operands, Call.operands]; simp; rw [← Array.mem_toList_iff, hargs]; simp
      split at hv
      · rename_i et r w off len ht hs
        split at hv
        · rename_i tt w' xs hr
          obtain ⟨h1, h2, h3, h4, h5, h6, h7, h8, h9, h10⟩ := hv
          refine ⟨_, _, h10, fun tm' K' ha hk => ?_⟩
          simp only [vop, hargs, hts, ht, ha.arg hx1 st st, ha.argc hx1 st st, ha.arg hx2 st st, ha.argc hx2 st st, hs, hr]
          exact ⟨h1, h2, h3, h4, h5, h6, h7, h8, h9, hk⟩
        · exact hv.elim
      · exact hv.elim
    · exact hv.elim
  · refine ⟨st, _, hv.2, fun tm' K' ha hk => ?_⟩
    have := opv_alike (P := P) (st := st) (st' := st) ha (.inr rfl)
    unfold vop
    simp only
    rw [this]
    exact ⟨hv.1, hk⟩

/-- Two lists of values look alike to an operation and its guard. -/
def Likes (ops : Array Oper) (o : Oper) (tm tm' : List (Nat × AV)) : Prop :=
  Alike o.op tm tm' ∧ ∀ (j : Nat) (want : Bool) (t : Nat), o.guard = some (j, want) → (ops[j]?).bind (·.dst) = some t → tv tm' t = tv tm t

theorem Likes.gbit {o : Oper} (h : Likes ops o tm tm') {j : Nat} {want : Bool} (hg : o.guard = some (j, want)) (st st' : List Root) : gbit ⟨tm', st'⟩ ops j want = gbit ⟨tm, st⟩ ops j want := by
  unfold Go.Ve.gbit
  cases ht : (ops[j]?).bind (·.dst) with
  | none => rfl
  | some t => simp only [h.2 j want t hg ht]

theorem quiet_qval {op : Op} (h : quiet T op = true) (e : Env) : ∃ r, qval P n T e op = some r := by
  cases op
  case call c =>
    obtain ⟨callee, args, ts⟩ := c
    cases callee
    case value f =>
      cases f
      case func f =>
        obtain ⟨s, hs⟩ := Option.isSome_iff_exists.1 h
        simp only [qval, tcall, Env.arg, Env.ev, AV.core, hs]
        exact ⟨_, rfl⟩
      all_goals cases h
    case builtin b => cases b <;> first | exact ⟨_, rfl⟩ | cases h
    case invoke r m => exact ⟨_, rfl⟩
  all_goals first | exact ⟨_, rfl⟩ | cases h

theorem vstep_trace {o : Oper} {K : Env → Prop} (hv : vstep P n T ops o ⟨tm, st⟩ K) :
    ∃ st' v, K (Env.put ⟨tm, st'⟩ o.dst v) ∧
      (quiet T o.op = true → st' = st ∧ ∀ (tm' : List (Nat × AV)) (sp : List Root) (K' : Env → Prop), Likes ops o tm tm' → qval P n T ⟨tm', sp⟩ o.op = qval P n T ⟨tm, st⟩ o.op → K' (Env.put ⟨tm', sp⟩ o.dst v) → vstep P n T ops o ⟨tm', sp⟩ K') ∧
      ∀ (tm' : List (Nat × AV)) (K' : Env → Prop), Likes ops o tm tm' → K' (Env.put ⟨tm', st'⟩ o.dst v) → vstep P n T ops o ⟨tm', st⟩ K' := by
  unfold vstep at hv
  split at hv
  · rename_i hg
    split at hv
    · rename_i r hr
      have key : ∀ (tm' : List (Nat × AV)) (sp : List Root) (K' : Env → Prop), qval P n T ⟨tm', sp⟩ o.op = qval P n T ⟨tm, st⟩ o.op → K' (Env.put ⟨tm', sp⟩ o.dst r.v) → vstep P n T ops o ⟨tm', sp⟩ K' := by
        intro tm' sp K' hq hk
        unfold vstep
        rw [hg, hq, hr]
        exact ⟨hv.1, hk⟩
      exact ⟨st, r.v, hv.2, fun _ => ⟨rfl, fun tm' sp K' _ hq hk => key tm' sp K' hq hk⟩, fun tm' K' hl hk => key tm' st K' (qval_alike hl.1 (.inr rfl)) hk⟩
    · rename_i hr
      obtain ⟨st', v, h1, h2⟩ := vop_trace hv
      refine ⟨st', v, h1, fun hq => ?_, fun tm' K' hl hk => ?_⟩
      · obtain ⟨r, hr'⟩ := quiet_qval (P := P) (n := n) hq ⟨tm, st⟩
        rw [hr'] at hr
        cases hr
      · unfold vstep
        rw [hg, qval_alike hl.1 (.inr rfl), hr]
        exact h2 tm' K' hl.1 hk
  · rename_i j want hg
    split at hv
    · rename_i g hgb
      split at hv
      · rename_i r hr
        have key : ∀ (tm' : List (Nat × AV)) (sp : List Root) (K' : Env → Prop), Likes ops o tm tm' → qval P n T ⟨tm', sp⟩ o.op = qval P n T ⟨tm, st⟩ o.op → K' (Env.put ⟨tm', sp⟩ o.dst (.gd g r.v)) → vstep P n T ops o ⟨tm', sp⟩ K' := by
          intro tm' sp K' hl hq hk
          unfold vstep
          simp only [hg, hq, hr, hl.gbit hg st sp, hgb]
          exact ⟨hv.1, hk⟩
        exact ⟨st, _, hv.2, fun _ => ⟨rfl, fun tm' sp K' hl hq hk => key tm' sp K' hl hq hk⟩, fun tm' K' hl hk => key tm' st K' hl (qval_alike hl.1 (.inr rfl)) hk⟩
      · rename_i hr
        have noq : quiet T o.op = true → False := fun hq => by
          obtain ⟨r, hr'⟩ := quiet_qval (P := P) (n := n) hq ⟨tm, st⟩
          rw [hr'] at hr
          cases hr
        cases g
        · refine ⟨st, .undef, hv.2 rfl, fun hq => (noq hq).elim, fun tm' K' hl hk => ?_⟩
          unfold vstep
          simp only [hg, qval_alike hl.1 (.inr rfl : looks o.op = false ∨ st = st), hr, hl.gbit hg st st, hgb]
          exact ⟨(fun h => by cases h), fun _ => hk⟩
        · obtain ⟨st', v, h1, h2⟩ := vop_trace (hv.1 rfl)
          refine ⟨st', v, h1, fun hq => (noq hq).elim, fun tm' K' hl hk => ?_⟩
          unfold vstep
          simp only [hg, qval_alike hl.1 (.inr rfl : looks o.op = false ∨ st = st), hr, hl.gbit hg st st, hgb]
          exact ⟨fun _ => h2 tm' K' hl.1 hk, fun h => by cases h⟩
    · exact hv.elim
end
end Go.Ve
