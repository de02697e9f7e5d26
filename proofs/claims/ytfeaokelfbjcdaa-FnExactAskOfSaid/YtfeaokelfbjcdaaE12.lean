/- The engine, part 12: every operation, over an environment, and that the machine follows. No condition. -/
import Derived.Test.YtfeaokelfbjcdaaE11
namespace Go.Ve
open Go.RowKit
set_option linter.unusedVariables false
set_option linter.unusedSimpArgs false

/-- A call, with what is handed over chosen. -/
def VCall (P : Program) (n : Nat) (f : AV) (args : List AV) (e : Env) (K : Env → AV → Prop) : Prop :=
  ∃ fid caps, f = .fn fid caps ∧ ∃ (m : List Nat) (n' : Nat) (rout : List Root) (res : AV), n ≤ n' ∧ m.Nodup ∧ (∀ r ∈ m, r < e.st.length) ∧ (∀ x ∈ args ++ caps, (cv e.st (posOf m) x).1) ∧
    SatM P n' fid (rinOf e.st m) ((args ++ caps).map fun x => (cv e.st (posOf m) x).2) rout res ∧ K ⟨e.tm, stOf e.st m rout⟩ (res.ren (gmap m e.st.length))

def vop (P : Program) (n : Nat) (o : Oper) (e : Env) (K : Env → Prop) : Prop :=
  match o.op with
  | .box t x => e.argc x ∧ (e.arg x).boxable = true ∧ K (Env.put ⟨e.tm, e.st ++ [.box t (e.arg x).cells]⟩ o.dst (.ptr e.st.length 0 0 0))
  | .alloc t => zOk P t = true ∧ K (Env.put ⟨e.tm, e.st ++ [.box t (zcells P t)]⟩ o.dst (.ptr e.st.length 0 0 0))
  | .build t parts => (∀ p ∈ parts.toList, e.argc p.2) ∧ (vBuild P t (parts.toList.map fun p => (p.1, e.arg p.2))).c ∧ K (e.put o.dst (vBuild P t (parts.toList.map fun p => (p.1, e.arg p.2))).v)
  | .buildSlice t len parts => match tyOf P t with
    | .sl et => zOk P et = true ∧ 0 < P.cellsOf et ∧ len * P.cellsOf et ≤ 16777216 ∧ parts.toList.map (·.1) = List.range len ∧ (∀ p ∈ parts.toList, e.argc p.2) ∧
        (∀ p ∈ parts.toList, (emb e.st n (e.arg p.2)).c ∧ (emb e.st n (e.arg p.2)).v.cells.length = P.cellsOf et) ∧
        K (Env.put ⟨e.tm, gones e.st (parts.toList.flatMap fun p => (emb e.st n (e.arg p.2)).rs) ++ [.row et (P.cellsOf et) (parts.toList.map fun p => (emb e.st n (e.arg p.2)).v)]⟩ o.dst (.osl e.st.length (P.cellsOf et) 0 len))
    | _ => False
  | .makeSlice t l c => match tyOf P t, e.arg l, e.arg c with
    | .sl et, .int _ l', .int _ c' => e.argc l ∧ e.argc c ∧ zOk P et = true ∧ (∀ y ∈ zcells P et, y.isD = true) ∧ (zel P et).cells = zcells P et ∧ 0 < P.cellsOf et ∧ 0 ≤ l' ∧ l' ≤ c' ∧ (P.bytesOf et : Int) * c' ≤ 140737488355328 ∧ c' ≤ 140737488355328 ∧
        K (Env.put ⟨e.tm, e.st ++ [.row et (P.cellsOf et) (List.replicate l'.toNat (zel P et))]⟩ o.dst (.osl e.st.length (P.cellsOf et) 0 l'.toNat))
    | _, _, _ => False
  | .makeMap _ none => K (Env.put ⟨e.tm, e.st ++ [.mp []]⟩ o.dst (.map e.st.length))
  | .store t p x => match e.arg p with
    | .ptr r w i j => match e.st[r]? with
      | some (.box tt cs) => e.argc p ∧ e.argc x ∧ i = 0 ∧ (P.info? t).isSome = true ∧ (e.arg x).boxable = true ∧ (e.arg x).cells.length = P.cellsOf t ∧ j + (e.arg x).cells.length ≤ cs.length ∧
          K (Env.put ⟨e.tm, e.st.set r (.box tt (cs.take j ++ (e.arg x).cells ++ cs.drop (j + (e.arg x).cells.length)))⟩ o.dst .undef)
      | some (.row tt w' xs) => e.argc p ∧ e.argc x ∧ w = w' ∧ (P.info? t).isSome = true ∧ (emb e.st n (e.arg x)).c ∧ (gones e.st (emb e.st n (e.arg x)).rs)[r]? = some (.row tt w' xs) ∧ (emb e.st n (e.arg x)).v.cells.length = P.cellsOf t ∧ i < xs.length ∧ j + (emb e.st n (e.arg x)).v.cells.length ≤ w' ∧
          (setEl (nth xs i) j (emb e.st n (e.arg x)).v.cells).cells = (nth xs i).cells.take j ++ (emb e.st n (e.arg x)).v.cells ++ (nth xs i).cells.drop (j + (emb e.st n (e.arg x)).v.cells.length) ∧
          K (Env.put ⟨e.tm, (gones e.st (emb e.st n (e.arg x)).rs).set r (.row tt w' (xs.set i (setEl (nth xs i) j (emb e.st n (e.arg x)).v.cells)))⟩ o.dst .undef)
      | _ => False
    | _ => False
  | .mapUpdate t mp k v => match tyOf P t, e.arg mp with
    | .mp kt et, .map r => match e.st[r]? with
      | some (.mp kv) => match kvSet kv (e.arg k) (e.arg v) with
        | some kv' => e.argc mp ∧ e.argc k ∧ e.argc v ∧ keyOk P kt (e.arg k) = true ∧ (e.arg v).isD = true ∧ K (Env.put ⟨e.tm, e.st.set r (.mp kv')⟩ o.dst .undef)
        | none => False
      | _ => False
    | _, _ => False
  | .call ⟨.value f, args, _⟩ => e.argc f ∧ (∀ x ∈ args.toList, e.argc x) ∧ VCall P n (e.arg f) (args.toList.map e.arg) e (fun e' v => K (e'.put o.dst v))
  | .call ⟨.builtin .append, args, ts⟩ => match args.toList, ts.toList with
    | [s, x], [t, t'] => match tyOf P t with
      | .sl et => e.argc s ∧ e.argc x ∧ t' = t ∧ zOk P et = true ∧ 0 < P.bytesOf et ∧ 0 < P.cellsOf et ∧ (src e.st (e.arg x)).1 ∧ srcw (e.arg x) (P.cellsOf et) ∧
        match e.arg s with
        | .nils => (src e.st (e.arg x)).2.length * P.bytesOf et ≤ 140737488355328 ∧ K (Env.put ⟨e.tm, e.st ++ [.row et (P.cellsOf et) (src e.st (e.arg x)).2]⟩ o.dst (.osl e.st.length (P.cellsOf et) 0 (src e.st (e.arg x)).2.length))
        | .osl r w off len => match e.st[r]? with
          | some (.row tt w' xs) => w = w' ∧ P.cellsOf et = w' ∧ tt = et ∧ off = 0 ∧ len = xs.length ∧ (xs.length + (src e.st (e.arg x)).2.length) * P.bytesOf et ≤ 140737488355328 ∧
              K (Env.put ⟨e.tm, e.st.set r .gone ++ [.row et w' (xs ++ (src e.st (e.arg x)).2)]⟩ o.dst (.osl e.st.length w' 0 (xs.length + (src e.st (e.arg x)).2.length)))
          | _ => False
        | _ => False
      | _ => False
    | _, _ => False
  | .call ⟨.builtin .copy, args, ts⟩ => match args.toList, ts.toList with
    | [s, x], [t, t'] => match tyOf P t, e.arg s with
      | .sl et, .osl r w off len => match e.st[r]? with
        | some (.row tt w' xs) => e.argc s ∧ e.argc x ∧ P.cellsOf et = 1 ∧ (P.info? et).isSome = true ∧ w = 1 ∧ w' = 1 ∧ off + len ≤ xs.length ∧ (src e.st (e.arg x)).1 ∧ srcw (e.arg x) 1 ∧
            K (Env.put ⟨e.tm, e.st.set r (.row tt 1 (xs.take off ++ (src e.st (e.arg x)).2.take (min (src e.st (e.arg x)).2.length len) ++ xs.drop (off + min (src e.st (e.arg x)).2.length len)))⟩ o.dst (.int .i64 (min (src e.st (e.arg x)).2.length len : Nat)))
        | _ => False
      | _, _ => False
    | _, _ => False
  | op => (opv P e op).c ∧ K (e.put o.dst (opv P e op).v)

section
variable {P : Program} {C : Ctx} {sz n : Nat} {e : Env} {a : Act} {W : World} {D : Nat → Nat → Prop} {β : Nat → Option Nat} {K : Env → Prop} {Q : Exit → Act → World → Prop}

/-- What is known behind an operation. -/
def After (C : Ctx) (sz : Nat) (K : Env → Prop) (a : Act) (W : World) : Prop := ∃ e D β, K e ∧ St C sz e a W D β

theorem rep_nils {v : Value} (h : Rep W D β v .nils) : v = .slice none 0 0 := by cases h with | data _ _ h => cases h; rfl
theorem rep_ptr0 {v : Value} {r w j : Nat} (h : Rep W D β v (.ptr r w 0 j)) : Rep W D β v (.ptr r 0 0 j) := by
  cases h with
  | data _ _ hd => cases hd
  | ptr _ _ _ _ g hg => have := Rep.ptr (W := W) (D := D) (β := β) r 0 0 j g hg; simpa using this

theorem zip_parts {parts : List (Nat × Operand)} {len : Nat} (h : parts.map (·.1) = List.range len) (f : Operand → Value) : (parts.map fun p => (p.1, f p.2)) = ((parts.map fun p => f p.2).zipIdx 0).map fun x => (x.2, x.1) := by
  apply List.ext_getElem?
  intro i
  simp only [List.getElem?_map, List.getElem?_zipIdx, Nat.zero_add]
  cases hp : parts[i]? with
  | none => simp
  | some p =>
    have h1 : (parts.map (·.1))[i]? = some p.1 := by simp [hp]
    rw [h] at h1
    have h2 := (List.getElem?_eq_some_iff.1 h1).1
    simp at h2
    simp [h2] at h1
    simp [h1]

theorem vop_ok (hC : C.n ≠ 0) (hn : C.n ≤ n) (h : St C sz e a W D β) {o : Oper} (hd : ∀ d, o.dst = some d → d < sz) (hv : vop P n o e K) : o.wp P a W (After C sz K) Q := by
  have hf := h.fine
  obtain ⟨dst, op, ty, pos, after, guard⟩ := o
  simp only at hd
  unfold vop at hv
  simp only at hv
  unfold Oper.wp
  have pure_case : (opv P e op).c → K (e.put dst (opv P e op).v) → Oper.upon P ⟨dst, op, ty, pos, after, guard⟩ a (After C sz K) Q ((execOp a.eval ⟨dst, op, ty, pos, after, guard⟩).run P W) := by
    intro hc hk
    obtain ⟨v, hr, hx⟩ := opv_ok (o := ⟨dst, op, ty, pos, after, guard⟩) hf hc
    rw [hr, Oper.upon_value]
    exact ⟨_, D, β, hk, h.put hd hx (fun q hq => opv_names hf hc hq)⟩
  split at hv
  · -- box
    rename_i t x
    obtain ⟨h1, h2, h3⟩ := hv
    have hx := hf.arg h1
    obtain ⟨k1, k2⟩ := rep_cells hx h2
    have hb := h.new_box (t := t) k1 k2 (fun y q hy hq => hf.names' x h1 (names_cells hy hq))
    have hr : (execOp a.eval ⟨dst, .box t x, ty, pos, after, guard⟩).run P W = .ok (.value (.pointer (some ⟨W.heap.size, 0, none⟩))) (W.alloc (.cells (a.eval x).cells t)) := by
      simp [execOp, Instr.box, newVar, newRow]
    rw [hr, Oper.upon_value]
    exact ⟨_, _, _, h3, hb.put hd (rep_new_ptr β _ _) (fun q hq => by cases hq; simp)⟩
  · -- alloc
    rename_i t
    obtain ⟨h1, h2⟩ := hv
    obtain ⟨z, z1, z2, z3, z4, _⟩ := zcells_ok (W := W) h1
    have hb := h.new_box (t := t) (cs := zcells P t) z2 (fun j y hy => by obtain ⟨u, u1, u2, rfl⟩ := z4 j y hy; exact ⟨u, u1, u2, rep_ofCell ..⟩) (fun y q hy hq => by
      obtain ⟨j, hj⟩ := List.mem_iff_getElem?.1 hy
      obtain ⟨u, _, _, rfl⟩ := z4 j y hj
      exact (names_ofCell hq).elim)
    have hr : (execOp a.eval ⟨dst, .alloc t, ty, pos, after, guard⟩).run P W = .ok (.value (.pointer (some ⟨W.heap.size, 0, none⟩))) (W.alloc (.cells z.cells t)) := by
      simp [execOp, Instr.alloc, z1, newVar, newRow]
    rw [hr, Oper.upon_value]
    exact ⟨_, _, _, h2, hb.put hd (rep_new_ptr β _ _) (fun q hq => by cases hq; simp)⟩
  · -- build
    rename_i t parts
    obtain ⟨h1, h2, h3⟩ := hv
    obtain ⟨u, u1, u2⟩ := vBuild_ok (P := P) (W := W) (D := D) (β := β) (t := t) (pv := parts.map fun (i, x) => (i, a.eval x)) (px := parts.toList.map fun p => (p.1, e.arg p.2)) (by simp) (fun i k x hi => by
      simp only [List.getElem?_map, Option.map_eq_some_iff, Prod.mk.injEq] at hi
      obtain ⟨p, p1, rfl, rfl⟩ := hi
      refine ⟨a.eval p.2, ?_, hf.arg (h1 p (List.mem_of_getElem? p1))⟩
      simp only [Array.toList_map, List.getElem?_map, p1]
      rfl) h2
    have hr : (execOp a.eval ⟨dst, .build t parts, ty, pos, after, guard⟩).run P W = .ok (.value u) W := by
      simp only [execOp, Sem.run_bind, u1, Result.andThen_ok, Sem.run_pure]
    rw [hr, Oper.upon_value]
    refine ⟨_, D, β, h3, h.put hd u2 (fun q hq => ?_)⟩
    obtain ⟨k, x, hx, hq⟩ := vBuild_names h2 hq
    obtain ⟨p, hpm, hp⟩ := List.mem_map.1 hx
    simp only [Prod.mk.injEq] at hp
    obtain ⟨_, rfl⟩ := hp
    exact hf.names' _ (h1 p hpm) hq
  · -- buildSlice
    rename_i t len parts
    split at hv
    · rename_i et ht
      obtain ⟨h1, h2, h3, h4, h5, h6, h7⟩ := hv
      have hlen : parts.toList.length = len := by
        have := congrArg List.length h4
        simpa using this
      have hmf : ∀ (g : AV → List Nat), (parts.toList.flatMap fun p => g (e.arg p.2)) = ((parts.toList.map fun p => e.arg p.2).flatMap g) := fun g => by rw [List.flatMap_map]
      obtain ⟨u, W', D', β', u1, u2, u3⟩ := h.build_slice (P := P) (m := n) (t := t) (et := et) (len := len) (pv := parts.toList.map fun p => a.eval p.2) (args := parts.toList.map fun p => e.arg p.2) (parts := parts.map fun (i, x) => (i, a.eval x)) hn ht h1 h2 h3 (by simpa using hlen) (by simpa using hlen)
        (by rw [Array.toList_map]; exact zip_parts h4 a.eval) (fun i x hi => by
          simp only [List.getElem?_map, Option.map_eq_some_iff] at hi ⊢
          obtain ⟨p, p1, rfl⟩ := hi
          exact ⟨a.eval p.2, ⟨p, p1, rfl⟩, hf.arg (h5 p (List.mem_of_getElem? p1))⟩) (fun x hx => by
          obtain ⟨p, hp, rfl⟩ := List.mem_map.1 hx
          exact h6 p hp)
      rw [← hmf fun x => (emb e.st n x).rs, List.map_map] at u2
      have hr : (execOp a.eval ⟨dst, .buildSlice t len parts, ty, pos, after, guard⟩).run P W = .ok (.value u) W' := by
        simp only [execOp, Sem.run_bind, u1, Result.andThen_ok, Sem.run_pure]
      rw [hr, Oper.upon_value]
      refine ⟨_, D', β', h7, u2.put hd u3 (fun q hq => ?_)⟩
      cases hq
      simp [gones_length]
    · exact hv.elim
  · -- makeSlice
    rename_i t l c
    split at hv
    · rename_i et k1 l' k2 c' ht hl hc
      obtain ⟨h1, h2, h3, h4, h5, h6, h7, h8, h9, h10, h11⟩ := hv
      have el := rep_int (by rw [← hl]; exact hf.arg h1 : Rep W D β (a.eval l) (.int k1 l'))
      have ec := rep_int (by rw [← hc]; exact hf.arg h2 : Rep W D β (a.eval c) (.int k2 c'))
      obtain ⟨u, W', u1, u2, u3⟩ := h.make_slice (P := P) (kl := k1) (kc := k2) ht h3 h4 h5 h6 h7 h8 h9 h10
      have hr : (execOp a.eval ⟨dst, .makeSlice t l c, ty, pos, after, guard⟩).run P W = .ok (.value u) W' := by
        simp only [execOp, Sem.run_bind, el, ec, u1, Result.andThen_ok, Sem.run_pure]
      rw [hr, Oper.upon_value]
      exact ⟨_, D, _, h11, u2.put hd u3 (fun q hq => by cases hq; simp)⟩
    · exact hv.elim
  · -- makeMap
    obtain ⟨u2, u3⟩ := h.make_map
    have hr : ∀ t, (execOp a.eval ⟨dst, .makeMap t none, ty, pos, after, guard⟩).run P W = .ok (.value (.map (some W.heap.size))) (W.alloc (.map #[] 0)) := by
      intro t
      simp [execOp, Instr.makeMap]
    rw [hr, Oper.upon_value]
    exact ⟨_, D, _, hv, u2.put hd u3 (fun q hq => by cases hq; simp)⟩
  · -- store
    rename_i t p x
    split at hv
    · rename_i r w i j hp
      split at hv
      · rename_i tt cs hr
        obtain ⟨h1, h2, rfl, h4, h5, h6, h7, h8⟩ := hv
        have hpr : Rep W D β (a.eval p) (.ptr r w 0 j) := by rw [← hp]; exact hf.arg h1
        obtain ⟨W', u1, u2⟩ := h.store_box (P := P) (o := p) hr h4 h6 h7 (hf.arg h2) h5 (fun q hq => hf.names' x h2 hq) (rep_ptr0 hpr)
        have hrun : (execOp a.eval ⟨dst, .store t p x, ty, pos, after, guard⟩).run P W = .ok .skip W' := by
          simp only [execOp, Sem.run_bind, u1, Result.andThen_ok, Sem.run_pure]
        rw [hrun, Oper.upon_skip]
        exact ⟨_, D, β, h8, u2.put hd (.undef _) (fun q hq => by cases hq)⟩
      · rename_i tt w' xs hr
        obtain ⟨h1, h2, rfl, h4, h5, h6, h7, h8, h9, h10, h11⟩ := hv
        have hpr : Rep W D β (a.eval p) (.ptr r w i j) := by rw [← hp]; exact hf.arg h1
        obtain ⟨W', D', u1, u2⟩ := h.store_row (P := P) hn h4 h5 h6 h7 h8 h9 h10 (hf.arg h2) hpr
        have hrun : (execOp a.eval ⟨dst, .store t p x, ty, pos, after, guard⟩).run P W = .ok .skip W' := by
          simp only [execOp, Sem.run_bind, u1, Result.andThen_ok, Sem.run_pure]
        rw [hrun, Oper.upon_skip]
        exact ⟨_, D', β, h11, u2.put hd (.undef _) (fun q hq => by cases hq)⟩
      · exact hv.elim
    · exact hv.elim
  · -- mapUpdate
    rename_i t mp k v
    split at hv
    · rename_i kt et r ht hm
      split at hv
      · rename_i kv hr
        split at hv
        · rename_i kv' hs
          obtain ⟨h1, h2, h3, h4, h5, h6⟩ := hv
          have hmr : Rep W D β (a.eval mp) (.map r) := by rw [← hm]; exact hf.arg h1
          obtain ⟨W', u1, u2⟩ := h.map_update (P := P) ht hr hmr h4 (hf.arg h2) (hf.arg h3) h5 hs
          have hrun : (execOp a.eval ⟨dst, .mapUpdate t mp k v, ty, pos, after, guard⟩).run P W = .ok .skip W' := by
            simp only [execOp, Sem.run_bind, u1, Result.andThen_ok, Sem.run_pure]
          rw [hrun, Oper.upon_skip]
          exact ⟨_, D, β, h6, u2.put hd (.undef _) (fun q hq => by cases hq)⟩
        · exact hv.elim
      · exact hv.elim
    · exact hv.elim
  · -- a call
    rename_i f args _
    obtain ⟨h1, h2, fid, caps, hfe, m, n', rout, res, k1, k2, k3, k4, k5, k6⟩ := hv
    have hfr : Rep W D β (a.eval f) (.fn fid caps) := by rw [← hfe]; exact hf.arg h1
    obtain ⟨vs, hvf, hvl, hvr⟩ : ∃ vs : Array Value, a.eval f = .func (.func fid) #[] vs ∧ vs.size = caps.length ∧ ∀ (i : Nat) (y : AV), caps[i]? = some y → ∃ u, vs[i]? = some u ∧ Rep W D β u y := by
      generalize a.eval f = w at hfr
      cases hfr with
      | data _ _ hd => cases hd with | fn _ vs _ u hl hu hr => exact ⟨vs, rfl, hl, fun i y hy => ⟨u i, hu i y hy, .data _ _ (hr i y hy)⟩⟩
      | fn _ vs _ u hl hu hr => exact ⟨vs, rfl, hl, fun i y hy => ⟨u i, hu i y hy, hr i y hy⟩⟩
    have hrun : (execOp a.eval ⟨dst, .call ⟨.value f, args, ‹_›⟩, ty, pos, after, guard⟩).run P W = .ok (.enter fid (args.map a.eval ++ vs)) W := by
      simp only [execOp, resolve, hvf, Deferred.ofValue, Sem.run_bind, Sem.run_pure, Result.andThen_ok, invoke, Array.empty_append]
      exact k5.1 _ _
    rw [hrun, Oper.upon_enter]
    have hcall := h.call (P := P) (f := fid) (vs := (args.map a.eval ++ vs).toList) hC (Nat.le_trans hn k1) k2 k3 k5 (by simp [hvl]) (fun i x hi => by
      simp only [List.getElem?_map, Option.map_eq_some_iff] at hi
      obtain ⟨y, hy, rfl⟩ := hi
      have hym := List.mem_of_getElem? hy
      have hc := k4 y hym
      have hrep : ∃ u, (args.map a.eval ++ vs).toList[i]? = some u ∧ Rep W D β u y := by
        by_cases hia : i < args.size
        · rw [List.getElem?_append_left (by simpa using hia), List.getElem?_map, Option.map_eq_some_iff] at hy
          obtain ⟨ox, hox, rfl⟩ := hy
          refine ⟨a.eval ox, ?_, hf.arg (h2 ox (List.mem_of_getElem? hox))⟩
          rw [Array.toList_append, List.getElem?_append_left (by simpa using hia)]
          simp only [Array.toList_map, List.getElem?_map, hox]
          rfl
        · rw [List.getElem?_append_right (by simp; omega)] at hy
          simp only [List.length_map, Array.length_toList] at hy
          obtain ⟨u, u1, u2⟩ := hvr _ y hy
          refine ⟨u, ?_, u2⟩
          rw [Array.toList_append, List.getElem?_append_right (by simp; omega)]
          simpa using u1
      obtain ⟨u, u1, u2⟩ := hrep
      exact ⟨u, u1, cv_ok h.mem.store.root u2 hc, fun q hq => cv_names hq⟩)
    rw [Array.toArray_toList] at hcall
    refine hcall.mono ?_
    rintro e' W' ⟨v, D', β', rfl, s1, s2, s3, _⟩
    exact ⟨_, D', β', k6, s1.put hd s2 s3⟩
  · -- append
    rename_i args ts
    split at hv
    · rename_i s x t t' ha hts
      obtain rfl : args = #[s, x] := by rw [← Array.toList_inj, ha]
      obtain rfl : ts = #[t, t'] := by rw [← Array.toList_inj, hts]
      split at hv
      · rename_i et ht
        obtain ⟨h1, h2, rfl, h4, h5, h6, h7, h8, hv⟩ := hv
        have hx := hf.arg h2
        obtain ⟨A, cap, hxe, hsrc⟩ := src_ok (W := W) (D := D) (β := β) h.mem.store.root hx h7 h8
        have hrun : ∀ {v : Value} {u : Value} {W' : World}, a.eval s = v → (Builtin.append_ #[t', t'] ty #[v, .slice A (src e.st (e.arg x)).2.length cap]).run P W = .ok u W' → (execOp a.eval ⟨dst, .call ⟨.builtin .append, #[s, x], #[t', t']⟩, ty, pos, after, guard⟩).run P W = .ok (.value u) W' := by
          intro v u W' hs hr
          simp only [execOp, resolve, invoke, builtin, Sem.run_bind, Sem.run_pure, Result.andThen_ok, List.map_toArray, List.map_cons, List.map_nil, hs, hxe, hr]
        split at hv
        · rename_i hs
          obtain ⟨k1, k2⟩ := hv
          have hse : a.eval s = .slice none 0 0 := by
            exact rep_nils (by rw [← hs]; exact hf.arg h1)
          obtain ⟨u, W', β', u1, u2, u3⟩ := h.append_nil (P := P) (ty := ty) (c := cap) ht h4 h5 k1 hsrc
          rw [hrun hse u1, Oper.upon_value]
          exact ⟨_, D, β', k2, u2.put hd u3 (fun q hq => by cases hq; simp)⟩
        · rename_i r w off len hs
          split at hv
          · rename_i tt w' xs hr
            obtain ⟨rfl, k2, rfl, rfl, rfl, k6, k7⟩ := hv
            have hsr := hf.arg h1
            rw [hs] at hsr
            rw [k2] at hsrc h6
            obtain ⟨u, W', β', u1, u2, u3⟩ := h.append_row (P := P) (ty := ty) (c := cap) ht h4 h5 k2 h6 rfl hr hsr k6 hsrc
            rw [hrun rfl u1, Oper.upon_value]
            exact ⟨_, D, β', k7, u2.put hd u3 (fun q hq => by cases hq; simp)⟩
          · exact hv.elim
        · exact hv.elim
      · exact hv.elim
    · exact hv.elim
  · -- copy
    rename_i args ts
    split at hv
    · rename_i s x t t' ha hts
      obtain rfl : args = #[s, x] := by rw [← Array.toList_inj, ha]
      obtain rfl : ts = #[t, t'] := by rw [← Array.toList_inj, hts]
      split at hv
      · rename_i et r w off len ht hs
        split at hv
        · rename_i tt w' xs hr
          obtain ⟨h1, h2, h3, h4, rfl, rfl, h7, h8, h9, h10⟩ := hv
          have hx := hf.arg h2
          obtain ⟨A, cap, hxe, hsrc⟩ := src_ok (W := W) (D := D) (β := β) h.mem.store.root hx h8 h9
          have hsr := hf.arg h1
          rw [hs] at hsr
          obtain ⟨W', u1, u2⟩ := h.copy_row (P := P) (sT := t') (ty := ty) (c := cap) ht h3 h4 hr hsr h7 hsrc
          have hrun : (execOp a.eval ⟨dst, .call ⟨.builtin .copy, #[s, x], #[t, t']⟩, ty, pos, after, guard⟩).run P W = .ok (.value (.int .i64 (min (src e.st (e.arg x)).2.length len : Nat))) W' := by
            simp only [execOp, resolve, invoke, builtin, Sem.run_bind, Sem.run_pure, Result.andThen_ok, List.map_toArray, List.map_cons, List.map_nil, hxe, u1]
          rw [hrun, Oper.upon_value]
          exact ⟨_, D, β, h10, u2.put hd (.data _ _ (.int ..)) (fun q hq => by cases hq)⟩
        · exact hv.elim
      · exact hv.elim
    · exact hv.elim
  · exact pure_case hv.1 hv.2
end
end Go.Ve
