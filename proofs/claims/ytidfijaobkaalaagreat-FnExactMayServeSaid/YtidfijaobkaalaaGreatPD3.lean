/- The texts of this claim, part PD 3: the engine that runs the code on values, the data, the contracts. No condition. -/
import Derived.Test.YtidfijaobkaalaaGreatPD2
namespace Go.Ve
open Go.RowKit
set_option linter.unusedVariables false
set_option linter.unusedSimpArgs false
/-- A call, with what is handed over chosen. -/
def VCall (P : Program) (n : Nat) (f : AV) (args : List AV) (e : Env) (K : Env → AV → Prop) : Prop :=
  ∃ fid caps, f = .fn fid caps ∧ ∃ (m : List Nat) (n' : Nat) (rout : List Root) (res : AV), n ≤ n' ∧ m.Nodup ∧ (∀ r ∈ m, r < e.st.length) ∧ (∀ x ∈ args ++ caps, (cv e.st (posOf m) x).1) ∧
    SatM P n' fid (rinOf e.st m) ((args ++ caps).map fun x => (cv e.st (posOf m) x).2) rout res ∧ K ⟨e.tm, stOf e.st m rout⟩ (res.ren (gmap m e.st.length))
def vop (P : Program) (n : Nat) (o : Oper) (e : Env) (K : Env → Prop) : Prop :=
  match o.op with
  | .box t x => e.argc x ∧ (e.arg x).boxable = true ∧ K (Env.put ⟨e.tm, e.st ++ [.box t (e.arg x).cells]⟩ o.dst (.ptr e.st.length 0 0 0))
  | .alloc t => zOk P t = true ∧ K (Env.put ⟨e.tm, e.st ++ [.box t (zcells P t)]⟩ o.dst (.ptr e.st.length 0 0 0))
  | .build t parts => (∀ p ∈ parts.toList, e.argc p.2) ∧ (vBuild P t (parts.toList.map fun p => (p.1, e.arg p.2))).c ∧ K (e.put o.dst (vBuild P t (parts.toList.map fun p => (p.1, e.arg p.2))).v)
  | .buildSlice t len parts => match tyOf P t with
    | .sl et => zOk P et = true ∧ 0 < P.cellsOf et ∧ len * P.cellsOf et ≤ 16777216 ∧ parts.toList.map (·.1) = List.range len ∧ (∀ p ∈ parts.toList, e.argc p.2) ∧
        (∀ p ∈ parts.toList, (emb e.st n (e.arg p.2)).c ∧ (emb e.st n (e.arg p.2)).v.cells.length = P.cellsOf et) ∧
        K (Env.put ⟨e.tm, gones e.st (parts.toList.flatMap fun p => (emb e.st n (e.arg p.2)).rs) ++ [.row et (P.cellsOf et) (parts.toList.map fun p => (emb e.st n (e.arg p.2)).v)]⟩ o.dst (.osl e.st.length (P.cellsOf et) 0 len))
    | _ => False
  | .makeSlice t l c => match tyOf P t, e.arg l, e.arg c with
    | .sl et, .int _ l', .int _ c' => e.argc l ∧ e.argc c ∧ zOk P et = true ∧ (∀ y ∈ zcells P et, y.isD = true) ∧ (zel P et).cells = zcells P et ∧ 0 < P.cellsOf et ∧ 0 ≤ l' ∧ l' ≤ c' ∧ (P.bytesOf et : Int) * c' ≤ 140737488355328 ∧ c' ≤ 140737488355328 ∧
        K (Env.put ⟨e.tm, e.st ++ [.row et (P.cellsOf et) (List.replicate l'.toNat (zel P et))]⟩ o.dst (.osl e.st.length (P.cellsOf et) 0 l'.toNat))
    | _, _, _ => False
  | .makeMap _ none => K (Env.put ⟨e.tm, e.st ++ [.mp []]⟩ o.dst (.map e.st.length))
  | .store t p x => match e.arg p with
    | .ptr r w i j => match e.st[r]? with
      | some (.box tt cs) => e.argc p ∧ e.argc x ∧ i = 0 ∧ (P.info? t).isSome = true ∧ (e.arg x).boxable = true ∧ (e.arg x).cells.length = P.cellsOf t ∧ j + (e.arg x).cells.length ≤ cs.length ∧
          K (Env.put ⟨e.tm, e.st.set r (.box tt (cs.take j ++ (e.arg x).cells ++ cs.drop (j + (e.arg x).cells.length)))⟩ o.dst .undef)
      | some (.row tt w' xs) => e.argc p ∧ e.argc x ∧ w = w' ∧ (P.info? t).isSome = true ∧ (emb e.st n (e.arg x)).c ∧ (gones e.st (emb e.st n (e.arg x)).rs)[r]? = some (.row tt w' xs) ∧ (emb e.st n (e.arg x)).v.cells.length = P.cellsOf t ∧ i < xs.length ∧ j + (emb e.st n (e.arg x)).v.cells.length ≤ w' ∧
          (setEl (nth xs i) j (emb e.st n (e.arg x)).v.cells).cells = (nth xs i).cells.take j ++ (emb e.st n (e.arg x)).v.cells ++ (nth xs i).cells.drop (j + (emb e.st n (e.arg x)).v.cells.length) ∧
          K (Env.put ⟨e.tm, (gones e.st (emb e.st n (e.arg x)).rs).set r (.row tt w' (xs.set i (setEl (nth xs i) j (emb e.st n (e.arg x)).v.cells)))⟩ o.dst .undef)
      | _ => False
    | _ => False
  | .mapUpdate t mp k v => match tyOf P t, e.arg mp with
    | .mp kt et, .map r => match e.st[r]? with
      | some (.mp kv) => match kvSet kv (e.arg k) (e.arg v) with
        | some kv' => e.argc mp ∧ e.argc k ∧ e.argc v ∧ keyOk P kt (e.arg k) = true ∧ (e.arg v).isD = true ∧ K (Env.put ⟨e.tm, e.st.set r (.mp kv')⟩ o.dst .undef)
        | none => False
      | _ => False
    | _, _ => False
  | .call ⟨.value f, args, _⟩ => e.argc f ∧ (∀ x ∈ args.toList, e.argc x) ∧ VCall P n (e.arg f) (args.toList.map e.arg) e (fun e' v => K (e'.put o.dst v))
  | .call ⟨.builtin .append, args, ts⟩ => match args.toList, ts.toList with
    | [s, x], [t, t'] => match tyOf P t with
      | .sl et => e.argc s ∧ e.argc x ∧ t' = t ∧ zOk P et = true ∧ 0 < P.bytesOf et ∧ 0 < P.cellsOf et ∧ (src e.st (e.arg x)).1 ∧ srcw (e.arg x) (P.cellsOf et) ∧
        match e.arg s with
        | .nils => (src e.st (e.arg x)).2.length * P.bytesOf et ≤ 140737488355328 ∧ K (Env.put ⟨e.tm, e.st ++ [.row et (P.cellsOf et) (src e.st (e.arg x)).2]⟩ o.dst (.osl e.st.length (P.cellsOf et) 0 (src e.st (e.arg x)).2.length))
        | .osl r w off len => match e.st[r]? with
          | some (.row tt w' xs) => w = w' ∧ P.cellsOf et = w' ∧ tt = et ∧ off = 0 ∧ len = xs.length ∧ (xs.length + (src e.st (e.arg x)).2.length) * P.bytesOf et ≤ 140737488355328 ∧
              K (Env.put ⟨e.tm, e.st.set r .gone ++ [.row et w' (xs ++ (src e.st (e.arg x)).2)]⟩ o.dst (.osl e.st.length w' 0 (xs.length + (src e.st (e.arg x)).2.length)))
          | _ => False
        | _ => False
      | _ => False
    | _, _ => False
  | .call ⟨.builtin .copy, args, ts⟩ => match args.toList, ts.toList with
    | [s, x], [t, t'] => match tyOf P t, e.arg s with
      | .sl et, .osl r w off len => match e.st[r]? with
        | some (.row tt w' xs) => e.argc s ∧ e.argc x ∧ P.cellsOf et = 1 ∧ (P.info? et).isSome = true ∧ w = 1 ∧ w' = 1 ∧ off + len ≤ xs.length ∧ (src e.st (e.arg x)).1 ∧ srcw (e.arg x) 1 ∧
            K (Env.put ⟨e.tm, e.st.set r (.row tt 1 (xs.take off ++ (src e.st (e.arg x)).2.take (min (src e.st (e.arg x)).2.length len) ++ xs.drop (off + min (src e.st (e.arg x)).2.length len)))⟩ o.dst (.int .i64 (min (src e.st (e.arg x)).2.length len : Nat)))
        | _ => False
      | _, _ => False
    | _, _ => False
  | op => (opv P e op).c ∧ K (e.put o.dst (opv P e op).v)
section
variable {P : Program} {C : Ctx} {sz n : Nat} {e : Env} {a : Act} {W : World} {D : Nat → Nat → Prop} {β : Nat → Option Nat} {K : Env → Prop} {Q : Exit → Act → World → Prop}
/-- What is known behind an operation. -/
def After (C : Ctx) (sz : Nat) (K : Env → Prop) (a : Act) (W : World) : Prop := ∃ e D β, K e ∧ St C sz e a W D β
theorem rep_nils {v : Value} (h : Rep W D β v .nils) : v = .slice none 0 0 := by cases h with | data _ _ h => cases h; rfl
theorem rep_ptr0 {v : Value} {r w j : Nat} (h : Rep W D β v (.ptr r w 0 j)) : Rep W D β v (.ptr r 0 0 j) := by
  cases h with
  | data _ _ hd => cases hd
  | ptr _ _ _ _ g hg => have := Rep.ptr (W := W) (D := D) (β := β) r 0 0 j g hg; simpa using this
theorem zip_parts {parts : List (Nat × Operand)} {len : Nat} (h : parts.map (·.1) = List.range len) (f : Operand → Value) : (parts.map fun p => (p.1, f p.2)) = ((parts.map fun p => f p.2).zipIdx 0).map fun x => (x.2, x.1) := by
  apply List.ext_getElem?
  intro i
  simp only [List.getElem?_map, List.getElem?_zipIdx, Nat.zero_add]
  cases hp : parts[i]? with
  | none => simp
  | some p =>
    have h1 : (parts.map (·.1))[i]? = some p.1 := by simp [hp]
    rw [h] at h1
    have h2 := (List.getElem?_eq_some_iff.1 h1).1
    simp at h2
    simp [h2] at h1
    simp [h1]
theorem vop_ok (hC : C.n ≠ 0) (hn : C.n ≤ n) (h : St C sz e a W D β) {o : Oper} (hd : ∀ d, o.dst = some d → d < sz) (hv : vop P n o e K) : o.wp P a W (After C sz K) Q := by
  have hf := h.fine
  obtain ⟨dst, op, ty, pos, after, guard⟩ := o
  simp only at hd
  unfold vop at hv
  simp only at hv
  unfold Oper.wp
  have pure_case : (opv P e op).c → K (e.put dst (opv P e op).v) → Oper.upon P ⟨dst, op, ty, pos, after, guard⟩ a (After C sz K) Q ((execOp a.eval ⟨dst, op, ty, pos, after, guard⟩).run P W) := by
    intro hc hk
    obtain ⟨v, hr, hx⟩ := opv_ok (o := ⟨dst, op, ty, pos, after, guard⟩) hf hc
    rw [hr, Oper.upon_value]
    exact ⟨_, D, β, hk, h.put hd hx (fun q hq => opv_names hf hc hq)⟩
  split at hv
  · -- box
    rename_i t x
    obtain ⟨h1, h2, h3⟩ := hv
    have hx := hf.arg h1
    obtain ⟨k1, k2⟩ := rep_cells hx h2
    have hb := h.new_box (t := t) k1 k2 (fun y q hy hq => hf.names' x h1 (names_cells hy hq))
    have hr : (execOp a.eval ⟨dst, .box t x, ty, pos, after, guard⟩).run P W = .ok (.value (.pointer (some ⟨W.heap.size, 0, none⟩))) (W.alloc (.cells (a.eval x).cells t)) := by
      simp [execOp, Instr.box, newVar, newRow]
    rw [hr, Oper.upon_value]
    exact ⟨_, _, _, h3, hb.put hd (rep_new_ptr β _ _) (fun q hq => by cases hq; simp)⟩
  · -- alloc
    rename_i t
    obtain ⟨h1, h2⟩ := hv
    obtain ⟨z, z1, z2, z3, z4, _⟩ := zcells_ok (W := W) h1
    have hb := h.new_box (t := t) (cs := zcells P t) z2 (fun j y hy => by obtain ⟨u, u1, u2, rfl⟩ := z4 j y hy; exact ⟨u, u1, u2, rep_ofCell ..⟩) (fun y q hy hq => by
      obtain ⟨j, hj⟩ := List.mem_iff_getElem?.1 hy
      obtain ⟨u, _, _, rfl⟩ := z4 j y hj
      exact (names_ofCell hq).elim)
    have hr : (execOp a.eval ⟨dst, .alloc t, ty, pos, after, guard⟩).run P W = .ok (.value (.pointer (some ⟨W.heap.size, 0, none⟩))) (W.alloc (.cells z.cells t)) := by
      simp [execOp, Instr.alloc, z1, newVar, newRow]
    rw [hr, Oper.upon_value]
    exact ⟨_, _, _, h2, hb.put hd (rep_new_ptr β _ _) (fun q hq => by cases hq; simp)⟩
  · -- build
    rename_i t parts
    obtain ⟨h1, h2, h3⟩ := hv
    obtain ⟨u, u1, u2⟩ := vBuild_ok (P := P) (W := W) (D := D) (β := β) (t := t) (pv := parts.map fun (i, x) => (i, a.eval x)) (px := parts.toList.map fun p => (p.1, e.arg p.2)) (by simp) (fun i k x hi => by
      simp only [List.getElem?_map, Option.map_eq_some_iff, Prod.mk.injEq] at hi
      obtain ⟨p, p1, rfl, rfl⟩ := hi
      refine ⟨a.eval p.2, ?_, hf.arg (h1 p (List.mem_of_getElem? p1))⟩
      simp only [Array.toList_map, List.getElem?_map, p1]
      rfl) h2
    have hr : (execOp a.eval ⟨dst, .build t parts, ty, pos, after, guard⟩).run P W = .ok (.value u) W := by
      simp only [execOp, Sem.run_bind, u1, Result.andThen_ok, Sem.run_pure]
    rw [hr, Oper.upon_value]
    refine ⟨_, D, β, h3, h.put hd u2 (fun q hq => ?_)⟩
    obtain ⟨k, x, hx, hq⟩ := vBuild_names h2 hq
    obtain ⟨p, hpm, hp⟩ := List.mem_map.1 hx
    simp only [Prod.mk.injEq] at hp
    obtain ⟨_, rfl⟩ := hp
    exact hf.names' _ (h1 p hpm) hq
  · -- buildSlice
    rename_i t len parts
    split at hv
    · rename_i et ht
      obtain ⟨h1, h2, h3, h4, h5, h6, h7⟩ := hv
      have hlen : parts.toList.length = len := by
        have := congrArg List.length h4
        simpa using this
      have hmf : ∀ (g : AV → List Nat), (parts.toList.flatMap fun p => g (e.arg p.2)) = ((parts.toList.map fun p => e.arg p.2).flatMap g) := fun g => by rw [List.flatMap_map]
      obtain ⟨u, W', D', β', u1, u2, u3⟩ := h.build_slice (P := P) (m := n) (t := t) (et := et) (len := len) (pv := parts.toList.map fun p => a.eval p.2) (args := parts.toList.map fun p => e.arg p.2) (parts := parts.map fun (i, x) => (i, a.eval x)) hn ht h1 h2 h3 (by simpa using hlen) (by simpa using hlen)
        (by rw [Array.toList_map]; exact zip_parts h4 a.eval) (fun i x hi => by
          simp only [List.getElem?_map, Option.map_eq_some_iff] at hi ⊢
          obtain ⟨p, p1, rfl⟩ := hi
          exact ⟨a.eval p.2, ⟨p, p1, rfl⟩, hf.arg (h5 p (List.mem_of_getElem? p1))⟩) (fun x hx => by
          obtain ⟨p, hp, rfl⟩ := List.mem_map.1 hx
          exact h6 p hp)
      rw [← hmf fun x => (emb e.st n x).rs, List.map_map] at u2
      have hr : (execOp a.eval ⟨dst, .buildSlice t len parts, ty, pos, after, guard⟩).run P W = .ok (.value u) W' := by
        simp only [execOp, Sem.run_bind, u1, Result.andThen_ok, Sem.run_pure]
      rw [hr, Oper.upon_value]
      refine ⟨_, D', β', h7, u2.put hd u3 (fun q hq => ?_)⟩
      cases hq
      simp [gones_length]
    · exact hv.elim
  · -- makeSlice
    rename_i t l c
    split at hv
    · rename_i et k1 l' k2 c' ht hl hc
      obtain ⟨h1, h2, h3, h4, h5, h6, h7, h8, h9, h10, h11⟩ := hv
      have el := rep_int (by rw [← hl]; exact hf.arg h1 : Rep W D β (a.eval l) (.int k1 l'))
      have ec := rep_int (by rw [← hc]; exact hf.arg h2 : Rep W D β (a.eval c) (.int k2 c'))
      obtain ⟨u, W', u1, u2, u3⟩ := h.make_slice (P := P) (kl := k1) (kc := k2) ht h3 h4 h5 h6 h7 h8 h9 h10
      have hr : (execOp a.eval ⟨dst, .makeSlice t l c, ty, pos, after, guard⟩).run P W = .ok (.value u) W' := by
        simp only [execOp, Sem.run_bind, el, ec, u1, Result.andThen_ok, Sem.run_pure]
      rw [hr, Oper.upon_value]
      exact ⟨_, D, _, h11, u2.put hd u3 (fun q hq => by cases hq; simp)⟩
    · exact hv.elim
  · -- makeMap
    obtain ⟨u2, u3⟩ := h.make_map
    have hr : ∀ t, (execOp a.eval ⟨dst, .makeMap t none, ty, pos, after, guard⟩).run P W = .ok (.value (.map (some W.heap.size))) (W.alloc (.map #[] 0)) := by
      intro t
      simp [execOp, Instr.makeMap]
    rw [hr, Oper.upon_value]
    exact ⟨_, D, _, hv, u2.put hd u3 (fun q hq => by cases hq; simp)⟩
  · -- store
    rename_i t p x
    split at hv
    · rename_i r w i j hp
      split at hv
      · rename_i tt cs hr
        obtain ⟨h1, h2, rfl, h4, h5, h6, h7, h8⟩ := hv
        have hpr : Rep W D β (a.eval p) (.ptr r w 0 j) := by rw [← hp]; exact hf.arg h1
        obtain ⟨W', u1, u2⟩ := h.store_box (P := P) (o := p) hr h4 h6 h7 (hf.arg h2) h5 (fun q hq => hf.names' x h2 hq) (rep_ptr0 hpr)
        have hrun : (execOp a.eval ⟨dst, .store t p x, ty, pos, after, guard⟩).run P W = .ok .skip W' := by
          simp only [execOp, Sem.run_bind, u1, Result.andThen_ok, Sem.run_pure]
        rw [hrun, Oper.upon_skip]
        exact ⟨_, D, β, h8, u2.put hd (.undef _) (fun q hq => by cases hq)⟩
      · rename_i tt w' xs hr
        obtain ⟨h1, h2, rfl, h4, h5, h6, h7, h8, h9, h10, h11⟩ := hv
        have hpr : Rep W D β (a.eval p) (.ptr r w i j) := by rw [← hp]; exact hf.arg h1
        obtain ⟨W', D', u1, u2⟩ := h.store_row (P := P) hn h4 h5 h6 h7 h8 h9 h10 (hf.arg h2) hpr
        have hrun : (execOp a.eval ⟨dst, .store t p x, ty, pos, after, guard⟩).run P W = .ok .skip W' := by
          simp only [execOp, Sem.run_bind, u1, Result.andThen_ok, Sem.run_pure]
        rw [hrun, Oper.upon_skip]
        exact ⟨_, D', β, h11, u2.put hd (.undef _) (fun q hq => by cases hq)⟩
      · exact hv.elim
    · exact hv.elim
  · -- mapUpdate
    rename_i t mp k v
    split at hv
    · rename_i kt et r ht hm
      split at hv
      · rename_i kv hr
        split at hv
        · rename_i kv' hs
          obtain ⟨h1, h2, h3, h4, h5, h6⟩ := hv
          have hmr : Rep W D β (a.eval mp) (.map r) := by rw [← hm]; exact hf.arg h1
          obtain ⟨W', u1, u2⟩ := h.map_update (P := P) ht hr hmr h4 (hf.arg h2) (hf.arg h3) h5 hs
          have hrun : (execOp a.eval ⟨dst, .mapUpdate t mp k v, ty, pos, after, guard⟩).run P W = .ok .skip W' := by
            simp only [execOp, Sem.run_bind, u1, Result.andThen_ok, Sem.run_pure]
          rw [hrun, Oper.upon_skip]
          exact ⟨_, D, β, h6, u2.put hd (.undef _) (fun q hq => by cases hq)⟩
        · exact hv.elim
      · exact hv.elim
    · exact hv.elim
  · -- a call
    rename_i f args _
    obtain ⟨h1, h2, fid, caps, hfe, m, n', rout, res, k1, k2, k3, k4, k5, k6⟩ := hv
    have hfr : Rep W D β (a.eval f) (.fn fid caps) := by rw [← hfe]; exact hf.arg h1
    obtain ⟨vs, hvf, hvl, hvr⟩ : ∃ vs : Array Value, a.eval f = .func (.func fid) #[] vs ∧ vs.size = caps.length ∧ ∀ (i : Nat) (y : AV), caps[i]? = some y → ∃ u, vs[i]? = some u ∧ Rep W D β u y := by
      generalize a.eval f = w at hfr
      cases hfr with
      | data _ _ hd => cases hd with | fn _ vs _ u hl hu hr => exact ⟨vs, rfl, hl, fun i y hy => ⟨u i, hu i y hy, .data _ _ (hr i y hy)⟩⟩
      | fn _ vs _ u hl hu hr => exact ⟨vs, rfl, hl, fun i y hy => ⟨u i, hu i y hy, hr i y hy⟩⟩
    have hrun : (execOp a.eval ⟨dst, .call ⟨.value f, args, ‹_›⟩, ty, pos, after, guard⟩).run P W = .ok (.enter fid (args.map a.eval ++ vs)) W := by
      simp only [execOp, resolve, hvf, Deferred.ofValue, Sem.run_bind, Sem.run_pure, Result.andThen_ok, invoke, Array.empty_append]
      exact k5.1 _ _
    rw [hrun, Oper.upon_enter]
    have hcall := h.call (P := P) (f := fid) (vs := (args.map a.eval ++ vs).toList) hC (Nat.le_trans hn k1) k2 k3 k5 (by simp [hvl]) (fun i x hi => by
      simp only [List.getElem?_map, Option.map_eq_some_iff] at hi
      obtain ⟨y, hy, rfl⟩ := hi
      have hym := List.mem_of_getElem? hy
      have hc := k4 y hym
      have hrep : ∃ u, (args.map a.eval ++ vs).toList[i]? = some u ∧ Rep W D β u y := by
        by_cases hia : i < args.size
        · rw [List.getElem?_append_left (by simpa using hia), List.getElem?_map, Option.map_eq_some_iff] at hy
          obtain ⟨ox, hox, rfl⟩ := hy
          refine ⟨a.eval ox, ?_, hf.arg (h2 ox (List.mem_of_getElem? hox))⟩
          rw [Array.toList_append, List.getElem?_append_left (by simpa using hia)]
          simp only [Array.toList_map, List.getElem?_map, hox]
          rfl
        · rw [List.getElem?_append_right (by simp; omega)] at hy
          simp only [List.length_map, Array.length_toList] at hy
          obtain ⟨u, u1, u2⟩ := hvr _ y hy
          refine ⟨u, ?_, u2⟩
          rw [Array.toList_append, List.getElem?_append_right (by simp; omega)]
          simpa using u1
      obtain ⟨u, u1, u2⟩ := hrep
      exact ⟨u, u1, cv_ok h.mem.store.root u2 hc, fun q hq => cv_names hq⟩)
    rw [Array.toArray_toList] at hcall
    refine hcall.mono ?_
    rintro e' W' ⟨v, D', β', rfl, s1, s2, s3, _⟩
    exact ⟨_, D', β', k6, s1.put hd s2 s3⟩
  · -- append
    rename_i args ts
    split at hv
    · rename_i s x t t' ha hts
      obtain rfl : args = #[s, x] := by rw [← Array.toList_inj, ha]
      obtain rfl : ts = #[t, t'] := by rw [← Array.toList_inj, hts]
      split at hv
      · rename_i et ht
        obtain ⟨h1, h2, rfl, h4, h5, h6, h7, h8, hv⟩ := hv
        have hx := hf.arg h2
        obtain ⟨A, cap, hxe, hsrc⟩ := src_ok (W := W) (D := D) (β := β) h.mem.store.root hx h7 h8
        have hrun : ∀ {v : Value} {u : Value} {W' : World}, a.eval s = v → (Builtin.append_ #[t', t'] ty #[v, .slice A (src e.st (e.arg x)).2.length cap]).run P W = .ok u W' → (execOp a.eval ⟨dst, .call ⟨.builtin .append, #[s, x], #[t', t']⟩, ty, pos, after, guard⟩).run P W = .ok (.value u) W' := by
          intro v u W' hs hr
          simp only [execOp, resolve, invoke, builtin, Sem.run_bind, Sem.run_pure, Result.andThen_ok, List.map_toArray, List.map_cons, List.map_nil, hs, hxe, hr]
        split at hv
        · rename_i hs
          obtain ⟨k1, k2⟩ := hv
          have hse : a.eval s = .slice none 0 0 := by
            exact rep_nils (by rw [← hs]; exact hf.arg h1)
          obtain ⟨u, W', β', u1, u2, u3⟩ := h.append_nil (P := P) (ty := ty) (c := cap) ht h4 h5 k1 hsrc
          rw [hrun hse u1, Oper.upon_value]
          exact ⟨_, D, β', k2, u2.put hd u3 (fun q hq => by cases hq; simp)⟩
        · rename_i r w off len hs
          split at hv
          · rename_i tt w' xs hr
            obtain ⟨rfl, k2, rfl, rfl, rfl, k6, k7⟩ := hv
            have hsr := hf.arg h1
            rw [hs] at hsr
            rw [k2] at hsrc h6
            obtain ⟨u, W', β', u1, u2, u3⟩ := h.append_row (P := P) (ty := ty) (c := cap) ht h4 h5 k2 h6 rfl hr hsr k6 hsrc
            rw [hrun rfl u1, Oper.upon_value]
            exact ⟨_, D, β', k7, u2.put hd u3 (fun q hq => by cases hq; simp)⟩
          · exact hv.elim
        · exact hv.elim
      · exact hv.elim
    · exact hv.elim
  · -- copy
    rename_i args ts
    split at hv
    · rename_i s x t t' ha hts
      obtain rfl : args = #[s, x] := by rw [← Array.toList_inj, ha]
      obtain rfl : ts = #[t, t'] := by rw [← Array.toList_inj, hts]
      split at hv
      · rename_i et r w off len ht hs
        split at hv
        · rename_i tt w' xs hr
          obtain ⟨h1, h2, h3, h4, rfl, rfl, h7, h8, h9, h10⟩ := hv
          have hx := hf.arg h2
          obtain ⟨A, cap, hxe, hsrc⟩ := src_ok (W := W) (D := D) (β := β) h.mem.store.root hx h8 h9
          have hsr := hf.arg h1
          rw [hs] at hsr
          obtain ⟨W', u1, u2⟩ := h.copy_row (P := P) (sT := t') (ty := ty) (c := cap) ht h3 h4 hr hsr h7 hsrc
          have hrun : (execOp a.eval ⟨dst, .call ⟨.builtin .copy, #[s, x], #[t, t']⟩, ty, pos, after, guard⟩).run P W = .ok (.value (.int .i64 (min (src e.st (e.arg x)).2.length len : Nat))) W' := by
            simp only [execOp, resolve, invoke, builtin, Sem.run_bind, Sem.run_pure, Result.andThen_ok, List.map_toArray, List.map_cons, List.map_nil, hxe, u1]
          rw [hrun, Oper.upon_value]
          exact ⟨_, D, β, h10, u2.put hd (.data _ _ (.int ..)) (fun q hq => by cases hq)⟩
        · exact hv.elim
      · exact hv.elim
    · exact hv.elim
  · exact pure_case hv.1 hv.2
end
end Go.Ve
namespace Go.Ve
open Go.RowKit
set_option linter.unusedVariables false
set_option linter.unusedSimpArgs false
/-- What a function without effect gives: of the region for new rows and the arguments. -/
abbrev Fsem := Nat → List AV → OpR
/-- The function keeps to it. -/
def Pure (P : Program) (f : FuncId) (s : Fsem) : Prop := ∀ (n : Nat) (args : List AV), 2 ≤ n → (s n args).c → SatM P n f [] args [] (s n args).v
def tget : List (Nat × Fsem) → Nat → Option Fsem
  | [], _ => none
  | (g, s) :: T, f => bif Nat.beq g f then some s else tget T f
def Table (P : Program) (T : List (Nat × Fsem)) : Prop := ∀ p ∈ T, Pure P p.1 p.2
theorem Table.nil {P : Program} : Table P [] := fun _ h => by cases h
theorem Table.cons {P : Program} {f : Nat} {s : Fsem} {T : List (Nat × Fsem)} (h : Pure P f s) (hT : Table P T) : Table P ((f, s) :: T) := fun p hp => by
  cases hp with
  | head => exact h
  | tail _ hp => exact hT p hp
theorem Table.get {P : Program} {T : List (Nat × Fsem)} (h : Table P T) {f : Nat} {s : Fsem} (hs : tget T f = some s) : Pure P f s := by
  induction T with
  | nil => cases hs
  | cons p T ih =>
    obtain ⟨g, u⟩ := p
    simp only [tget] at hs
    cases hb : Nat.beq g f
    · rw [hb] at hs
      exact ih (fun q hq => h q (List.mem_cons_of_mem _ hq)) hs
    · rw [hb] at hs
      injection hs with hs
      subst hs
      have := Nat.eq_of_beq_eq_true hb
      subst this
      exact h (g, u) (List.mem_cons_self ..)
/-- A call of a table's function: everything is lent. -/
def tcall (n : Nat) (T : List (Nat × Fsem)) (st : List Root) (f : AV) (args : List AV) : Option OpR :=
  match f with
  | .fn fid caps => match tget T fid with
    | some s => some ⟨(∀ x ∈ args ++ caps, (cv st (posOf []) x).1) ∧ (s n ((args ++ caps).map fun x => (cv st (posOf []) x).2)).c, (s n ((args ++ caps).map fun x => (cv st (posOf []) x).2)).v⟩
    | none => none
  | _ => none
/-- What an operation that leaves an environment's roots alone gives; none: it is of another kind. -/
def qval (P : Program) (n : Nat) (T : List (Nat × Fsem)) (e : Env) (op : Op) : Option OpR :=
  match op with
  | .call ⟨.value f, args, _⟩ => match tcall n T e.st (e.arg f) (args.toList.map e.arg) with
    | some r => some ⟨e.argc f ∧ (∀ x ∈ args.toList, e.argc x) ∧ r.c, r.v⟩
    | none => none
  | .build t parts => some ⟨(∀ p ∈ parts.toList, e.argc p.2) ∧ (vBuild P t (parts.toList.map fun p => (p.1, e.arg p.2))).c, (vBuild P t (parts.toList.map fun p => (p.1, e.arg p.2))).v⟩
  | .box _ _ | .alloc _ | .buildSlice _ _ _ | .makeSlice _ _ _ | .makeMap _ _ | .store _ _ _ | .mapUpdate _ _ _ _ => none
  | .call ⟨.builtin .append, _, _⟩ | .call ⟨.builtin .copy, _, _⟩ => none
  | op => some (opv P e op)
/-- The bit that a guard asks for. -/
def gbit (e : Env) (ops : Array Oper) (j : Nat) (want : Bool) : Option Bool :=
  match (ops[j]?).bind (·.dst) with
  | some t => match tv e.tm t with
    | .bool b => some (b == want)
    | .gd g (.bool b) => some (g && (b == want))
    | _ => none
  | none => none
def vstep (P : Program) (n : Nat) (T : List (Nat × Fsem)) (ops : Array Oper) (o : Oper) (e : Env) (K : Env → Prop) : Prop :=
  match o.guard with
  | none => match qval P n T e o.op with
    | some r => r.c ∧ K (e.put o.dst r.v)
    | none => vop P n o e K
  | some (j, want) => match gbit e ops j want with
    | some g => match qval P n T e o.op with
      | some r => (g = true → r.c) ∧ K (e.put o.dst (.gd g r.v))
      | none => (g = true → vop P n o e K) ∧ (g = false → K (e.put o.dst .undef))
    | none => False
section
variable {P : Program} {C : Ctx} {sz n : Nat} {T : List (Nat × Fsem)} {ops : Array Oper} {e : Env} {a : Act} {W : World} {D : Nat → Nat → Prop} {β : Nat → Option Nat} {K : Env → Prop} {Q : Exit → Act → World → Prop}
theorem stOf_nil (st : List Root) : stOf st [] [] = st := by simp [stOf, putAll]
/-- What 'wanted' says of the guard's bit. -/
theorem gbit_wanted (h : St C sz e a W D β) {o : Oper} {j : Nat} {want g : Bool} (ho : o.guard = some (j, want)) (hd : ∀ (i : Nat) (o' : Oper) (d : Nat), ops[i]? = some o' → o'.dst = some d → d < sz) (hg : gbit e ops j want = some g) : Region.wanted o (yielded ops a.tmps) = g := by
  unfold gbit at hg
  split at hg
  · rename_i t ht
    have htl : t < sz := by
      rw [Option.bind_eq_some_iff] at ht
      obtain ⟨o', h1, h2⟩ := ht
      exact hd j o' t h1 h2
    have hts : a.tmps[t]? = some (a.tmps.getD t undef) := by
      have : t < a.tmps.size := by rw [h.sz]; exact htl
      simp [this]
    have htm := h.tm t
    have hy : yielded ops a.tmps j = match a.tmps.getD t undef with | .bool b => some b | _ => none := by
      unfold yielded
      rw [ht, Option.bind_some, hts]
      generalize a.tmps.getD t undef = w
      cases w <;> rfl
    simp only [Region.wanted, ho, hy]
    generalize a.tmps.getD t undef = w at htm ⊢
    split at hg
    · rename_i b hb
      injection hg with hg
      rw [hb] at htm
      rw [rep_bool htm, ← hg]
      cases b <;> cases want <;> rfl
    · rename_i g' b hb
      injection hg with hg
      rw [hb] at htm
      cases htm with
      | data _ _ hd => cases hd
      | gd _ _ _ h1 h2 =>
        cases g'
        · rw [h2 rfl, ← hg]; rfl
        · rw [rep_bool (h1 rfl), ← hg]
          cases b <;> cases want <;> rfl
    · cases hg
  · cases hg
/-- A quiet operation is done. -/
theorem qval_ok (hC : C.n ≠ 0) (hCn : C.n ≤ n) (h2 : 2 ≤ n) (hT : Table P T) (h : St C sz e a W D β) {o : Oper} (hd : ∀ d, o.dst = some d → d < sz) {r : OpR} (hq : qval P n T e o.op = some r) (hc : r.c) :
    o.wp P a W (fun a' W' => ∃ D' β' v, St C sz e a W' D' β' ∧ Rep W' D' β' v r.v ∧ (∀ q, Names r.v q → q < e.st.length) ∧ a' = a.put o.dst v) Q := by
  have hf := h.fine
  obtain ⟨dst, op, ty, pos, after, guard⟩ := o
  simp only at hd hq
  unfold qval at hq
  unfold Oper.wp
  have pure_case : (opv P e op).c → Oper.upon P ⟨dst, op, ty, pos, after, guard⟩ a (fun a' W' => ∃ D' β' v, St C sz e a W' D' β' ∧ Rep W' D' β' v (opv P e op).v ∧ (∀ q, Names (opv P e op).v q → q < e.st.length) ∧ a' = a.put dst v) Q ((execOp a.eval ⟨dst, op, ty, pos, after, guard⟩).run P W) := by
    intro hc
    obtain ⟨v, hr, hx⟩ := opv_ok (o := ⟨dst, op, ty, pos, after, guard⟩) hf hc
    rw [hr, Oper.upon_value]
    exact ⟨D, β, v, h, hx, fun q hq => opv_names hf hc hq, rfl⟩
  split at hq
  · -- a call
    rename_i f args _
    unfold tcall at hq
    split at hq
    · rename_i r' hr'
      injection hq with hq
      subst hq
      obtain ⟨h1, h3, h4⟩ := hc
      split at hr'
      · rename_i fid caps hfe
        split at hr'
        · rename_i s hs
          injection hr' with hr'
          subst hr'
          obtain ⟨h4, h5⟩ := h4
          have hfr : Rep W D β (a.eval f) (.fn fid caps) := by rw [← hfe]; exact hf.arg h1
          obtain ⟨vs, hvf, hvl, hvr⟩ : ∃ vs : Array Value, a.eval f = .func (.func fid) #[] vs ∧ vs.size = caps.length ∧ ∀ (i : Nat) (y : AV), caps[i]? = some y → ∃ u, vs[i]? = some u ∧ Rep W D β u y := by
            generalize a.eval f = w at hfr
            cases hfr with
            | data _ _ hd => cases hd with | fn _ vs _ u hl hu hr => exact ⟨vs, rfl, hl, fun i y hy => ⟨u i, hu i y hy, .data _ _ (hr i y hy)⟩⟩
            | fn _ vs _ u hl hu hr => exact ⟨vs, rfl, hl, fun i y hy => ⟨u i, hu i y hy, hr i y hy⟩⟩
          have hsat := hT.get hs n _ h2 h5
          have hrun : (execOp a.eval ⟨dst, .call ⟨.value f, args, ‹_›⟩, ty, pos, after, guard⟩).run P W = .ok (.enter fid (args.map a.eval ++ vs)) W := by
            simp only [execOp, resolve, hvf, Deferred.ofValue, Sem.run_bind, Sem.run_pure, Result.andThen_ok, invoke, Array.empty_append]
            exact hsat.1 _ _
          rw [hrun, Oper.upon_enter]
          have hcall := h.call (P := P) (f := fid) (m := []) (vs := (args.map a.eval ++ vs).toList) hC hCn (by simp) (fun _ h => by cases h) hsat (by simp [hvl]) (fun i x hi => by
            simp only [List.getElem?_map, Option.map_eq_some_iff] at hi
            obtain ⟨y, hy, rfl⟩ := hi
            have hym := List.mem_of_getElem? hy
            have hc := h4 y hym
            have hrep : ∃ u, (args.map a.eval ++ vs).toList[i]? = some u ∧ Rep W D β u y := by
              by_cases hia : i < args.size
              · rw [List.getElem?_append_left (by simpa using hia), List.getElem?_map, Option.map_eq_some_iff] at hy
                obtain ⟨ox, hox, rfl⟩ := hy
                refine ⟨a.eval ox, ?_, hf.arg (h3 ox (List.mem_of_getElem? hox))⟩
                rw [Array.toList_append, List.getElem?_append_left (by simpa using hia)]
                simp only [Array.toList_map, List.getElem?_map, hox]
                rfl
              · rw [List.getElem?_append_right (by simp; omega)] at hy
                simp only [List.length_map, Array.length_toList] at hy
                obtain ⟨u, u1, u2⟩ := hvr _ y hy
                refine ⟨u, ?_, u2⟩
                rw [Array.toList_append, List.getElem?_append_right (by simp; omega)]
                simpa using u1
            obtain ⟨u, u1, u2⟩ := hrep
            exact ⟨u, u1, cv_ok h.mem.store.root u2 hc, fun q hq => cv_names hq⟩)
          rw [Array.toArray_toList] at hcall
          refine hcall.mono ?_
          rintro e' W' ⟨v, D', β', rfl, s1, _, s3, s4⟩
          rw [stOf_nil] at s1 s3
          exact ⟨D', β', v, s1, (s4 rfl).1, fun q hq => ((s4 rfl).2 q hq).elim, rfl⟩
        · cases hr'
      · cases hr'
    · cases hq
  · -- build
    rename_i t parts
    injection hq with hq
    subst hq
    obtain ⟨h1, h2⟩ := hc
    obtain ⟨u, u1, u2⟩ := vBuild_ok (P := P) (W := W) (D := D) (β := β) (t := t) (pv := parts.map fun (i, x) => (i, a.eval x)) (px := parts.toList.map fun p => (p.1, e.arg p.2)) (by simp) (fun i k x hi => by
      simp only [List.getElem?_map, Option.map_eq_some_iff, Prod.mk.injEq] at hi
      obtain ⟨p, p1, rfl, rfl⟩ := hi
      refine ⟨a.eval p.2, ?_, hf.arg (h1 p (List.mem_of_getElem? p1))⟩
      simp only [Array.toList_map, List.getElem?_map, p1]
      rfl) h2
    have hr : (execOp a.eval ⟨dst, .build t parts, ty, pos, after, guard⟩).run P W = .ok (.value u) W := by
      simp only [execOp, Sem.run_bind, u1, Result.andThen_ok, Sem.run_pure]
    rw [hr, Oper.upon_value]
    refine ⟨D, β, u, h, u2, fun q hq => ?_, rfl⟩
    obtain ⟨k, x, hx, hq⟩ := vBuild_names h2 hq
    obtain ⟨p, hpm, hp⟩ := List.mem_map.1 hx
    simp only [Prod.mk.injEq] at hp
    obtain ⟨_, rfl⟩ := hp
    exact hf.names' _ (h1 p hpm) hq
  any_goals cases hq
  exact pure_case hc
theorem vstep_ok (hC : C.n ≠ 0) (hCn : C.n ≤ n) (h2 : 2 ≤ n) (hT : Table P T) (h : St C sz e a W D β) {o : Oper} (hd : ∀ d, o.dst = some d → d < sz)
    (hds : ∀ (i : Nat) (o' : Oper) (d : Nat), ops[i]? = some o' → o'.dst = some d → d < sz) (hv : vstep P n T ops o e K) :
    if Region.wanted o (yielded ops a.tmps) then o.wp P a W (After C sz K) Q else After C sz K (a.put o.dst undef) W := by
  unfold vstep at hv
  split at hv
  · rename_i hg
    have hw : Region.wanted o (yielded ops a.tmps) = true := by simp [Region.wanted, hg]
    rw [if_pos hw]
    split at hv
    · rename_i r hr
      refine Oper.wp_mono ?_ (qval_ok hC hCn h2 hT h hd hr hv.1)
      rintro a' W' ⟨D', β', v, s1, s2, s3, rfl⟩
      exact ⟨_, D', β', hv.2, s1.put hd s2 s3⟩
    · exact vop_ok hC hCn h hd hv
  · rename_i j want hg
    split at hv
    · rename_i g hgb
      have hw := gbit_wanted h hg hds hgb
      rw [hw]
      split at hv
      · rename_i r hr
        cases g
        · simp only [Bool.false_eq_true, if_false]
          exact ⟨_, D, β, hv.2, h.put hd (.gd _ _ _ (fun h0 => by cases h0) (fun _ => rfl)) (fun q hq => by cases hq)⟩
        · simp only [if_true]
          refine Oper.wp_mono ?_ (qval_ok hC hCn h2 hT h hd hr (hv.1 rfl))
          rintro a' W' ⟨D', β', v, s1, s2, s3, rfl⟩
          exact ⟨_, D', β', hv.2, s1.put hd (.gd _ _ _ (fun _ => s2) (fun h0 => by cases h0)) (fun q hq => by cases hq with | gd _ _ hq => exact s3 q hq)⟩
      · cases g
        · simp only [Bool.false_eq_true, if_false]
          exact ⟨_, D, β, hv.2 rfl, h.put hd (.undef _) (fun q hq => by cases hq)⟩
        · simp only [if_true]
          exact vop_ok hC hCn h hd (hv.1 rfl)
    · exact hv.elim
end
end Go.Ve
namespace Go.Ve
open Go.RowKit
set_option linter.unusedVariables false
set_option linter.unusedSimpArgs false
/-- Leaves the roots alone, whatever they are. -/
def quiet (T : List (Nat × Fsem)) : Op → Bool
  | .call ⟨.value (.func f), _, _⟩ => (tget T f).isSome
  | .call ⟨.value _, _, _⟩ => false
  | .box _ _ | .alloc _ | .buildSlice _ _ _ | .makeSlice _ _ _ | .makeMap _ _ | .store _ _ _ | .mapUpdate _ _ _ _ => false
  | .call ⟨.builtin .append, _, _⟩ | .call ⟨.builtin .copy, _, _⟩ => false
  | _ => true
/-- Looks at the roots. -/
def looks : Op → Bool
  | .load _ _ | .lookup _ _ _ _ | .call _ => true
  | _ => false
def anc (B : List (List Nat)) (j i : Nat) : Bool := (B.getD i []).contains j
/-- A region that draws its order, in the order of its list; what may come in another place is looked at there. -/
def vdr (P : Program) (n : Nat) (T : List (Nat × Fsem)) (ops : Array Oper) (B : List (List Nat)) : Nat → List Oper → List (Nat × List Root) → List (Nat × Op × Option OpR) → Env → (Env → Prop) → Prop
  | _, [], _, _, e, K => K e
  | i, o :: l, hist, pend, e, K =>
    bif quiet T o.op then
      (bif looks o.op then (∀ h ∈ hist, bif anc B h.1 i then True else qval P n T ⟨e.tm, h.2⟩ o.op = qval P n T e o.op) else True) ∧
      vstep P n T ops o e fun e' => vdr P n T ops B (i + 1) l hist (bif looks o.op then (i, o.op, qval P n T e o.op) :: pend else pend) e' K
    else vstep P n T ops o e fun e' => (∀ p ∈ pend, bif anc B p.1 i then True else qval P n T e' p.2.1 = p.2.2) ∧ vdr P n T ops B (i + 1) l ((i, e.st) :: hist) pend e' K
def opDst (ops : Array Oper) (i : Nat) : Option Nat := (ops[i]?).bind (·.dst)
def opReads (ops : Array Oper) (o : Oper) : List Nat :=
  (o.op.operands.toList.filterMap fun | .tmp t => some t | _ => none) ++ (match o.guard with
    | some (j, _) => (opDst ops j).toList
    | none => [])
/-- The table of what comes ahead fits, what is read comes ahead, nothing is written twice, and what is not quiet stands in a chain. -/
def drawOk (T : List (Nat × Fsem)) (ops : Array Oper) (B : List (List Nat)) : Bool :=
  (List.range ops.size).all fun i => match ops[i]? with
    | none => false
    | some o =>
      (B.getD i []).all (fun j => decide (j < i) && o.after.any fun ed => Region.binds .any ed && (ed.on == j || anc B j ed.on)) &&
      o.after.all (fun ed => !Region.binds .any ed || decide (ed.on < i)) &&
      (opReads ops o).all (fun t => (List.range ops.size).all fun k => opDst ops k != some t || anc B k i || (!looks o.op && anc B i k)) &&
      (List.range i).all (fun k => (opDst ops k).isNone || opDst ops k != o.dst) &&
      (quiet T o.op || (List.range i).all fun k => (match ops[k]? with | some o' => quiet T o'.op | none => true) || anc B k i)
section
variable {P : Program} {n : Nat} {T : List (Nat × Fsem)} {ops : Array Oper} {tm tm' : List (Nat × AV)} {st st' : List Root}
theorem arg_eq {x : Operand} (h : Env.ev ⟨tm', st'⟩ x = Env.ev ⟨tm, st⟩ x) : Env.arg ⟨tm', st'⟩ x = Env.arg ⟨tm, st⟩ x ∧ Env.argc ⟨tm', st'⟩ x = Env.argc ⟨tm, st⟩ x := by
  simp only [Env.arg, Env.argc, h, and_self]
/-- The operands look alike. -/
def Alike (op : Op) (tm tm' : List (Nat × AV)) : Prop := ∀ x ∈ op.operands, Env.ev ⟨tm', []⟩ x = Env.ev ⟨tm, []⟩ x
theorem ev_st (x : Operand) : Env.ev ⟨tm, st⟩ x = Env.ev ⟨tm, []⟩ x := by cases x <;> rfl
theorem Alike.ev {op : Op} (h : Alike op tm tm') {x : Operand} (hx : x ∈ op.operands) (st st' : List Root) : Env.ev ⟨tm', st'⟩ x = Env.ev ⟨tm, st⟩ x := by
  rw [ev_st, h x hx, ← ev_st]
theorem Alike.arg {op : Op} (h : Alike op tm tm') {x : Operand} (hx : x ∈ op.operands) (st st' : List Root) : Env.arg ⟨tm', st'⟩ x = Env.arg ⟨tm, st⟩ x := (arg_eq (h.ev hx st st')).1
theorem Alike.argc {op : Op} (h : Alike op tm tm') {x : Operand} (hx : x ∈ op.operands) (st st' : List Root) : Env.argc ⟨tm', st'⟩ x = Env.argc ⟨tm, st⟩ x := (arg_eq (h.ev hx st st')).2
theorem map_arg_eq {op : Op} (h : Alike op tm tm') {xs : List Operand} (hx : ∀ x ∈ xs, x ∈ op.operands) (st st' : List Root) : xs.map (Env.arg ⟨tm', st'⟩) = xs.map (Env.arg ⟨tm, st⟩) :=
  List.map_congr_left fun x hxs => h.arg (hx x hxs) st st'
theorem all_argc_eq {op : Op} (h : Alike op tm tm') {xs : List Operand} (hx : ∀ x ∈ xs, x ∈ op.operands) (st st' : List Root) : (∀ x ∈ xs, Env.argc ⟨tm', st'⟩ x) = (∀ x ∈ xs, Env.argc ⟨tm, st⟩ x) := by
  apply propext
  exact ⟨fun k x hxs => h.argc (hx x hxs) st st' ▸ k x hxs, fun k x hxs => (h.argc (hx x hxs) st st').symm ▸ k x hxs⟩
/-- Operands alike, roots the same: the same is given. -/
theorem opv_alike {op : Op} (h : Alike op tm tm') (hl : looks op = false ∨ st' = st) : opv P ⟨tm', st'⟩ op = opv P ⟨tm, st⟩ op := by
  have ha := fun x (hx : x ∈ op.operands) => h.arg hx st st'
  have hc := fun x (hx : x ∈ op.operands) => h.argc hx st st'
  have he := fun x (hx : x ∈ op.operands) => h.ev hx st st'
  cases op <;> try rfl
  case move x => simp only [opv, ha x (by simp [Op.operands]), hc x (by simp [Op.operands])]
  case assign x => simp only [opv, ha x (by simp [Op.operands]), hc x (by simp [Op.operands])]
  case pick c a b => simp only [opv, he c (by simp [Op.operands]), he a (by simp [Op.operands]), he b (by simp [Op.operands])]
  case load t a =>
    rcases hl with hl | rfl
    · cases hl
    simp only [opv, ha a (by simp [Op.operands]), hc a (by simp [Op.operands])]
  case nilCheck x => simp only [opv, ha x (by simp [Op.operands]), hc x (by simp [Op.operands])]
  case binOp op t x y _ => simp only [opv, ha x (by simp [Op.operands]), hc x (by simp [Op.operands]), ha y (by simp [Op.operands]), hc y (by simp [Op.operands])]
  case unOp op t x => simp only [opv, ha x (by simp [Op.operands]), hc x (by simp [Op.operands])]
  case convert s d x => simp only [opv, ha x (by simp [Op.operands]), hc x (by simp [Op.operands])]
  case makeFunc fn first caps =>
    cases fn <;> try rfl
    rename_i f
    simp only [opv, map_arg_eq h (xs := caps.toList) (fun x hx => by simp [Op.operands]; exact .inr (by simpa using hx)) st st', all_argc_eq h (xs := caps.toList) (fun x hx => by simp [Op.operands]; exact .inr (by simpa using hx)) st st']
  case slice t x lo hi mx =>
    cases mx <;> try rfl
    have hx : x ∈ (Op.slice t x lo hi none).operands := by simp [Op.operands]
    have hlo : lo.map (Env.arg ⟨tm', st'⟩) = lo.map (Env.arg ⟨tm, st⟩) := by
      cases lo with
      | none => rfl
      | some y => simp only [Option.map_some, ha y (by simp [Op.operands])]
    have hhi : hi.map (Env.arg ⟨tm', st'⟩) = hi.map (Env.arg ⟨tm, st⟩) := by
      cases hi with
      | none => rfl
      | some y => simp only [Option.map_some, ha y (by simp [Op.operands])]
    simp only [opv, ha x hx, hc x hx, hlo, hhi, all_argc_eq h (xs := lo.toList ++ hi.toList) (fun x hx => by
      simp only [Op.operands]
      simp at hx ⊢
      rcases hx with hx | hx
      · exact .inr (.inl hx)
      · exact .inr (.inr hx)) st st']
  case fieldAddr t x f => simp only [opv, ha x (by simp [Op.operands]), hc x (by simp [Op.operands])]
  case field t x f => simp only [opv, ha x (by simp [Op.operands]), hc x (by simp [Op.operands])]
  case indexAddr t x i => simp only [opv, ha x (by simp [Op.operands]), hc x (by simp [Op.operands]), ha i (by simp [Op.operands]), hc i (by simp [Op.operands])]
  case index t x i => simp only [opv, ha x (by simp [Op.operands]), hc x (by simp [Op.operands]), ha i (by simp [Op.operands]), hc i (by simp [Op.operands])]
  case lookup t x i ok =>
    rcases hl with hl | rfl
    · cases hl
    simp only [opv, ha x (by simp [Op.operands]), hc x (by simp [Op.operands]), ha i (by simp [Op.operands]), hc i (by simp [Op.operands])]
  case extract x i => simp only [opv, ha x (by simp [Op.operands]), hc x (by simp [Op.operands])]
  case call c =>
    rcases hl with hl | rfl
    · cases hl
    obtain ⟨callee, args, ts⟩ := c
    cases callee <;> try rfl
    rename_i b
    have ha' := fun x (hx : x ∈ args.toList) => ha x (by simpa [Op.operands, Call.operands] using hx)
    have hc' := fun x (hx : x ∈ args.toList) => hc x (by simpa [Op.operands, Call.operands] using hx)
    simp only [opv]
    split
    · rename_i x t h1 h2
      simp only [ha' x (by simp [h1]), hc' x (by simp [h1])]
    · rename_i x y h1
      simp only [ha' x (by simp [h1]), hc' x (by simp [h1]), ha' y (by simp [h1]), hc' y (by simp [h1])]
    · rename_i x y h1
      simp only [ha' x (by simp [h1]), hc' x (by simp [h1]), ha' y (by simp [h1]), hc' y (by simp [h1])]
    · rfl
theorem parts_arg_eq {op : Op} (h : Alike op tm tm') {ps : List (Nat × Operand)} (hx : ∀ p ∈ ps, p.2 ∈ op.operands) (st st' : List Root) : (ps.map fun p => (p.1, Env.arg ⟨tm', st'⟩ p.2)) = (ps.map fun p => (p.1, Env.arg ⟨tm, st⟩ p.2)) :=
  List.map_congr_left fun p hp => by rw [h.arg (hx p hp) st st']
theorem parts_argc_eq {op : Op} (h : Alike op tm tm') {ps : List (Nat × Operand)} (hx : ∀ p ∈ ps, p.2 ∈ op.operands) (st st' : List Root) : (∀ p ∈ ps, Env.argc ⟨tm', st'⟩ p.2) = (∀ p ∈ ps, Env.argc ⟨tm, st⟩ p.2) := by
  apply propext
  exact ⟨fun k x hxs => h.argc (hx x hxs) st st' ▸ k x hxs, fun k x hxs => (h.argc (hx x hxs) st st').symm ▸ k x hxs⟩
theorem qval_alike {op : Op} (h : Alike op tm tm') (hl : looks op = false ∨ st' = st) : qval P n T ⟨tm', st'⟩ op = qval P n T ⟨tm, st⟩ op := by
  cases op
  case build t ps =>
    simp only [qval, parts_arg_eq h (ps := ps.toList) (fun p hp => by simp only [Op.operands]; simp; exact ⟨p.1, by simpa using hp⟩) st st', parts_argc_eq h (ps := ps.toList) (fun p hp => by simp only [Op.operands]; simp; exact ⟨p.1, by simpa using hp⟩) st st']
  case call c =>
    rcases hl with hl | rfl
    · cases hl
    obtain ⟨callee, args, ts⟩ := c
    cases callee
    case value f =>
      have hf : f ∈ (Op.call ⟨.value f, args, ts⟩).operands := by simp [Op.operands, Call.operands]
      have hxs : ∀ x ∈ args.toList, x ∈ (Op.call ⟨.value f, args, ts⟩).operands := fun x hx => by simp only [Op.operands, Call.operands]; simp; exact .inr (by simpa using hx)
      simp only [qval, h.arg hf st' st', h.argc hf st' st', map_arg_eq h hxs st' st', all_argc_eq h hxs st' st']
    case builtin b =>
      have := opv_alike (P := P) h (.inr rfl : looks _ = false ∨ st' = st')
      cases b <;> simp only [qval, this]
    case invoke r m =>
      have := opv_alike (P := P) h (.inr rfl : looks _ = false ∨ st' = st')
      simp only [qval, this]
  all_goals first
    | rfl
    | (simp only [qval]; rw [opv_alike (P := P) h hl])
/-- What an operation comes to hangs on the roots and on its operands alone. -/
theorem vop_trace {o : Oper} {K : Env → Prop} (hv : vop P n o ⟨tm, st⟩ K) :
    ∃ st' v, K (Env.put ⟨tm, st'⟩ o.dst v) ∧ ∀ (tm' : List (Nat × AV)) (K' : Env → Prop), Alike o.op tm tm' → K' (Env.put ⟨tm', st'⟩ o.dst v) → vop P n o ⟨tm', st⟩ K' := by
  obtain ⟨dst, op, ty, pos, after, guard⟩ := o
  unfold vop at hv
  simp only at hv
  split at hv
  · -- box
    rename_i t x
    obtain ⟨h1, h2, h3⟩ := hv
    refine ⟨_, _, h3, fun tm' K' ha hk => ?_⟩
    have hx : x ∈ (Op.box t x).operands := by simp [Op.operands]
    simp only [vop, ha.arg hx st st, ha.argc hx st st]
    exact ⟨h1, h2, hk⟩
  · exact ⟨_, _, hv.2, fun tm' K' ha hk => ⟨hv.1, hk⟩⟩
  · -- build
    rename_i t ps
    obtain ⟨h1, h2, h3⟩ := hv
    refine ⟨_, _, h3, fun tm' K' ha hk => ?_⟩
    have hp : ∀ p ∈ ps.toList, p.2 ∈ (Op.build t ps).operands := fun p hp => by simp only [Op.operands]; simp; exact ⟨p.1, by simpa using hp⟩
    simp only [vop]
    rw [parts_argc_eq ha hp st st, parts_arg_eq ha hp st st]
    exact ⟨h1, h2, hk⟩
  · -- buildSlice
    rename_i t len ps
    split at hv
    · rename_i et ht
      obtain ⟨h1, h2, h3, h4, h5, h6, h7⟩ := hv
      refine ⟨_, _, h7, fun tm' K' ha hk => ?_⟩
      have hp : ∀ p ∈ ps.toList, p.2 ∈ (Op.buildSlice t len ps).operands := fun p hp => by simp only [Op.operands]; simp; exact ⟨p.1, by simpa using hp⟩
      have hpa : ∀ p ∈ ps.toList, Env.arg ⟨tm', st⟩ p.2 = Env.arg ⟨tm, st⟩ p.2 := fun p h0 => ha.arg (hp p h0) st st
      have e1 : (ps.toList.flatMap fun p => (emb st n (Env.arg ⟨tm', st⟩ p.2)).rs) = ps.toList.flatMap fun p => (emb st n (Env.arg ⟨tm, st⟩ p.2)).rs := by
        rw [List.flatMap_def, List.flatMap_def, List.map_congr_left fun p h0 => by rw [hpa p h0]]
      have e2 : (ps.toList.map fun p => (emb st n (Env.arg ⟨tm', st⟩ p.2)).v) = ps.toList.map fun p => (emb st n (Env.arg ⟨tm, st⟩ p.2)).v :=
        List.map_congr_left fun p h0 => by rw [hpa p h0]
      simp only [vop, ht]
      refine ⟨h1, h2, h3, h4, ?_, fun p h0 => ?_, ?_⟩
      · rw [parts_argc_eq ha hp st st]; exact h5
      · rw [hpa p h0]; exact h6 p h0
      · rw [e1, e2]; exact hk
    · exact hv.elim
  · -- makeSlice
    rename_i t l c
    split at hv
    · rename_i et k1 l' k2 c' ht hl hc
      obtain ⟨h1, h2, h3, h4, h5, h6, h7, h8, h9, h10, h11⟩ := hv
      refine ⟨_, _, h11, fun tm' K' ha hk => ?_⟩
      have hx1 : l ∈ (Op.makeSlice t l c).operands := by simp [Op.operands]
      have hx2 : c ∈ (Op.makeSlice t l c).operands := by simp [Op.operands]
      simp only [vop, ha.arg hx1 st st, ha.argc hx1 st st, ha.arg hx2 st st, ha.argc hx2 st st, ht, hl, hc]
      exact ⟨h1, h2, h3, h4, h5, h6, h7, h8, h9, h10, hk⟩
    · exact hv.elim
  · exact ⟨_, _, hv, fun tm' K' ha hk => hk⟩
  · -- store
    rename_i t p x
    have hx1 : p ∈ (Op.store t p x).operands := by simp [Op.operands]
    have hx2 : x ∈ (Op.store t p x).operands := by simp [Op.operands]
    split at hv
    · rename_i r w i j hp
      split at hv
      · rename_i tt cs hr
        obtain ⟨h1, h2, h3, h4, h5, h6, h7, h8⟩ := hv
        refine ⟨_, _, h8, fun tm' K' ha hk => ?_⟩
        simp only [vop, ha.arg hx1 st st, ha.argc hx1 st st, ha.arg hx2 st st, ha.argc hx2 st st, hp, hr]
        exact ⟨h1, h2, h3, h4, h5, h6, h7, hk⟩
      · rename_i tt w' xs hr
        obtain ⟨h1, h2, h3, h4, h5, h6, h7, h8, h9, h10, h11⟩ := hv
        refine ⟨_, _, h11, fun tm' K' ha hk => ?_⟩
        simp only [vop, ha.arg hx1 st st, ha.argc hx1 st st, ha.arg hx2 st st, ha.argc hx2 st st, hp, hr]
        exact ⟨h1, h2, h3, h4, h5, h6, h7, h8, h9, h10, hk⟩
      · exact hv.elim
    · exact hv.elim
  · -- mapUpdate
    rename_i t mp k v
    have hx1 : mp ∈ (Op.mapUpdate t mp k v).operands := by simp [Op.operands]
    have hx2 : k ∈ (Op.mapUpdate t mp k v).operands := by simp [Op.operands]
    have hx3 : v ∈ (Op.mapUpdate t mp k v).operands := by simp [Op.operands]
    split at hv
    · rename_i kt et r ht hm
      split at hv
      · rename_i kv hr
        split at hv
        · rename_i kv' hs
          obtain ⟨h1, h2, h3, h4, h5, h6⟩ := hv
          refine ⟨_, _, h6, fun tm' K' ha hk => ?_⟩
          simp only [vop, ha.arg hx1 st st, ha.argc hx1 st st, ha.arg hx2 st st, ha.argc hx2 st st, ha.arg hx3 st st, ha.argc hx3 st st, ht, hm, hr, hs]
          exact ⟨h1, h2, h3, h4, h5, hk⟩
        · exact hv.elim
      · exact hv.elim
    · exact hv.elim
  · -- a call
    rename_i f args ts
    obtain ⟨h1, h2, fid, caps, hfe, m, n', rout, res, k1, k2, k3, k4, k5, k6⟩ := hv
    refine ⟨_, _, k6, fun tm' K' ha hk => ?_⟩
    have hf : f ∈ (Op.call ⟨.value f, args, ts⟩).operands := by simp [Op.operands, Call.operands]
    have hxs : ∀ x ∈ args.toList, x ∈ (Op.call ⟨.value f, args, ts⟩).operands := fun x hx => by simp only [Op.operands, Call.operands]; simp; exact .inr (by simpa using hx)
    simp only [vop]
    rw [ha.argc hf st st, all_argc_eq ha hxs st st, ha.arg hf st st, map_arg_eq ha hxs st st]
    exact ⟨h1, h2, fid, caps, hfe, m, n', rout, res, k1, k2, k3, k4, k5, hk⟩
  · -- append
    rename_i args ts
    split at hv
    · rename_i s x t t' hargs hts
      have hx1 : s ∈ (Op.call ⟨.builtin .append, args, ts⟩).operands := by simp only [Op.operands, Call.operands]; simp; rw [← Array.mem_toList_iff, hargs]; simp
      have hx2 : x ∈ (Op.call ⟨.builtin .append, args, ts⟩).operands := by simp only [Op.operands, Call.operands]; simp; rw [← Array.mem_toList_iff, hargs]; simp
      split at hv
      · rename_i et ht
        obtain ⟨h1, h2, h3, h4, h5, h6, h7, h8, hv⟩ := hv
        split at hv
        · rename_i hs
          refine ⟨_, _, hv.2, fun tm' K' ha hk => ?_⟩
          simp only [vop, hargs, hts, ht, ha.arg hx1 st st, ha.argc hx1 st st, ha.arg hx2 st st, ha.argc hx2 st st, hs]
          exact ⟨h1, h2, h3, h4, h5, h6, h7, h8, hv.1, hk⟩
        · rename_i r w off len hs
          split at hv
          · rename_i tt w' xs hr
            obtain ⟨k1, k2, k3, k4, k5, k6, k7⟩ := hv
            refine ⟨_, _, k7, fun tm' K' ha hk => ?_⟩
            simp only [vop, hargs, hts, ht, ha.arg hx1 st st, ha.argc hx1 st st, ha.arg hx2 st st, ha.argc hx2 st st, hs, hr]
            exact ⟨h1, h2, h3, h4, h5, h6, h7, h8, k1, k2, k3, k4, k5, k6, hk⟩
          · exact hv.elim
        · exact hv.elim
      · exact hv.elim
    · exact hv.elim
  · -- copy
    rename_i args ts
    split at hv
    · rename_i s x t t' hargs hts
      have hx1 : s ∈ (Op.call ⟨.builtin .copy, args, ts⟩).operands := by simp only [Op.operands, Call.operands]; simp; rw [← Array.mem_toList_iff, hargs]; simp
      have hx2 : x ∈ (Op.call ⟨.builtin .copy, args, ts⟩).operands := by simp only [Op.operands, Call.operands]; simp; rw [← Array.mem_toList_iff, hargs]; simp
      split at hv
      · rename_i et r w off len ht hs
        split at hv
        · rename_i tt w' xs hr
          obtain ⟨h1, h2, h3, h4, h5, h6, h7, h8, h9, h10⟩ := hv
          refine ⟨_, _, h10, fun tm' K' ha hk => ?_⟩
          simp only [vop, hargs, hts, ht, ha.arg hx1 st st, ha.argc hx1 st st, ha.arg hx2 st st, ha.argc hx2 st st, hs, hr]
          exact ⟨h1, h2, h3, h4, h5, h6, h7, h8, h9, hk⟩
        · exact hv.elim
      · exact hv.elim
    · exact hv.elim
  · refine ⟨st, _, hv.2, fun tm' K' ha hk => ?_⟩
    have := opv_alike (P := P) (st := st) (st' := st) ha (.inr rfl)
    unfold vop
    simp only
    rw [this]
    exact ⟨hv.1, hk⟩
/-- Two lists of values look alike to an operation and its guard. -/
def Likes (ops : Array Oper) (o : Oper) (tm tm' : List (Nat × AV)) : Prop :=
  Alike o.op tm tm' ∧ ∀ (j : Nat) (want : Bool) (t : Nat), o.guard = some (j, want) → (ops[j]?).bind (·.dst) = some t → tv tm' t = tv tm t
theorem Likes.gbit {o : Oper} (h : Likes ops o tm tm') {j : Nat} {want : Bool} (hg : o.guard = some (j, want)) (st st' : List Root) : gbit ⟨tm', st'⟩ ops j want = gbit ⟨tm, st⟩ ops j want := by
  unfold Go.Ve.gbit
  cases ht : (ops[j]?).bind (·.dst) with
  | none => rfl
  | some t => simp only [h.2 j want t hg ht]
theorem quiet_qval {op : Op} (h : quiet T op = true) (e : Env) : ∃ r, qval P n T e op = some r := by
  cases op
  case call c =>
    obtain ⟨callee, args, ts⟩ := c
    cases callee
    case value f =>
      cases f
      case func f =>
        obtain ⟨s, hs⟩ := Option.isSome_iff_exists.1 h
        simp only [qval, tcall, Env.arg, Env.ev, AV.core, hs]
        exact ⟨_, rfl⟩
      all_goals cases h
    case builtin b => cases b <;> first | exact ⟨_, rfl⟩ | cases h
    case invoke r m => exact ⟨_, rfl⟩
  all_goals first | exact ⟨_, rfl⟩ | cases h
theorem vstep_trace {o : Oper} {K : Env → Prop} (hv : vstep P n T ops o ⟨tm, st⟩ K) :
    ∃ st' v, K (Env.put ⟨tm, st'⟩ o.dst v) ∧
      (quiet T o.op = true → st' = st ∧ ∀ (tm' : List (Nat × AV)) (sp : List Root) (K' : Env → Prop), Likes ops o tm tm' → qval P n T ⟨tm', sp⟩ o.op = qval P n T ⟨tm, st⟩ o.op → K' (Env.put ⟨tm', sp⟩ o.dst v) → vstep P n T ops o ⟨tm', sp⟩ K') ∧
      ∀ (tm' : List (Nat × AV)) (K' : Env → Prop), Likes ops o tm tm' → K' (Env.put ⟨tm', st'⟩ o.dst v) → vstep P n T ops o ⟨tm', st⟩ K' := by
  unfold vstep at hv
  split at hv
  · rename_i hg
    split at hv
    · rename_i r hr
      have key : ∀ (tm' : List (Nat × AV)) (sp : List Root) (K' : Env → Prop), qval P n T ⟨tm', sp⟩ o.op = qval P n T ⟨tm, st⟩ o.op → K' (Env.put ⟨tm', sp⟩ o.dst r.v) → vstep P n T ops o ⟨tm', sp⟩ K' := by
        intro tm' sp K' hq hk
        unfold vstep
        rw [hg, hq, hr]
        exact ⟨hv.1, hk⟩
      exact ⟨st, r.v, hv.2, fun _ => ⟨rfl, fun tm' sp K' _ hq hk => key tm' sp K' hq hk⟩, fun tm' K' hl hk => key tm' st K' (qval_alike hl.1 (.inr rfl)) hk⟩
    · rename_i hr
      obtain ⟨st', v, h1, h2⟩ := vop_trace hv
      refine ⟨st', v, h1, fun hq => ?_, fun tm' K' hl hk => ?_⟩
      · obtain ⟨r, hr'⟩ := quiet_qval (P := P) (n := n) hq ⟨tm, st⟩
        rw [hr'] at hr
        cases hr
      · unfold vstep
        rw [hg, qval_alike hl.1 (.inr rfl), hr]
        exact h2 tm' K' hl.1 hk
  · rename_i j want hg
    split at hv
    · rename_i g hgb
      split at hv
      · rename_i r hr
        have key : ∀ (tm' : List (Nat × AV)) (sp : List Root) (K' : Env → Prop), Likes ops o tm tm' → qval P n T ⟨tm', sp⟩ o.op = qval P n T ⟨tm, st⟩ o.op → K' (Env.put ⟨tm', sp⟩ o.dst (.gd g r.v)) → vstep P n T ops o ⟨tm', sp⟩ K' := by
          intro tm' sp K' hl hq hk
          unfold vstep
          simp only [hg, hq, hr, hl.gbit hg st sp, hgb]
          exact ⟨hv.1, hk⟩
        exact ⟨st, _, hv.2, fun _ => ⟨rfl, fun tm' sp K' hl hq hk => key tm' sp K' hl hq hk⟩, fun tm' K' hl hk => key tm' st K' hl (qval_alike hl.1 (.inr rfl)) hk⟩
      · rename_i hr
        have noq : quiet T o.op = true → False := fun hq => by
          obtain ⟨r, hr'⟩ := quiet_qval (P := P) (n := n) hq ⟨tm, st⟩
          rw [hr'] at hr
          cases hr
        cases g
        · refine ⟨st, .undef, hv.2 rfl, fun hq => (noq hq).elim, fun tm' K' hl hk => ?_⟩
          unfold vstep
          simp only [hg, qval_alike hl.1 (.inr rfl : looks o.op = false ∨ st = st), hr, hl.gbit hg st st, hgb]
          exact ⟨(fun h => by cases h), fun _ => hk⟩
        · obtain ⟨st', v, h1, h2⟩ := vop_trace (hv.1 rfl)
          refine ⟨st', v, h1, fun hq => (noq hq).elim, fun tm' K' hl hk => ?_⟩
          unfold vstep
          simp only [hg, qval_alike hl.1 (.inr rfl : looks o.op = false ∨ st = st), hr, hl.gbit hg st st, hgb]
          exact ⟨fun _ => h2 tm' K' hl.1 hk, fun h => by cases h⟩
    · exact hv.elim
end
end Go.Ve
namespace Go.Ve
open Go.RowKit
set_option linter.unusedVariables false
set_option linter.unusedSimpArgs false
section
variable {P : Program} {C : Ctx} {sz n : Nat} {T : List (Nat × Fsem)} {ops : Array Oper} {K : Env → Prop} {Q : Exit → Act → World → Prop}
theorem After.normal {a : Act} {W : World} {K : Env → Prop} (h : After C sz K a W) : ∃ e D β, K e ∧ St C sz e a W D β := h
/-- What a length is bound to be. -/
def lenFact : AV → Prop
  | .sl _ _ xs => xs.length ≤ maxLen
  | .osl _ _ _ len => len ≤ maxLen
  | _ => True
/-- One operation; where it asks for a length, the length is known to be no greater than any slice's. -/
def vstepF (P : Program) (n : Nat) (T : List (Nat × Fsem)) (ops : Array Oper) (o : Oper) (e : Env) (K : Env → Prop) : Prop :=
  match o.guard, o.op with
  | none, .call ⟨.builtin .len, args, ts⟩ => match args.toList, ts.toList with
    | [x], [t] => e.argc x ∧ (vLen P e.st t (e.arg x)).c ∧ (lenFact (e.arg x) → K (e.put o.dst (vLen P e.st t (e.arg x)).v))
    | _, _ => vstep P n T ops o e K
  | _, _ => vstep P n T ops o e K
def vregF (P : Program) (n : Nat) (T : List (Nat × Fsem)) (ops : Array Oper) : List Oper → Env → (Env → Prop) → Prop
  | [], e, K => K e
  | o :: l, e, K => vstepF P n T ops o e fun e' => vregF P n T ops l e' K
theorem lenFact_ok {W : World} {D : Nat → Nat → Prop} {β : Nat → Option Nat} {v : Value} {x : AV} (h : Rep W D β v x) : lenFact x := by
  unfold lenFact
  split
  · cases h with
    | data _ _ hd => cases hd with
      | sl0 => exact Nat.zero_le _
      | sl _ _ _ _ _ _ _ _ _ hm => exact hm
  · cases h with
    | data _ _ hd => cases hd
    | osl _ _ _ _ _ ho =>
      rcases ho with ⟨_, _, _, h0⟩ | ⟨g, cap, t, cur, _, _, _, _, h1, h2⟩
      · rw [h0]; exact Nat.zero_le _
      · omega
  · trivial
theorem vstepF_vstep {e : Env} {a : Act} {W : World} {D : Nat → Nat → Prop} {β : Nat → Option Nat} (h : St C sz e a W D β) {o : Oper} {K : Env → Prop} (hv : vstepF P n T ops o e K) : vstep P n T ops o e K := by
  unfold vstepF at hv
  split at hv
  · rename_i args ts hg ho
    split at hv
    · rename_i x t hx ht
      obtain ⟨h1, h2, h3⟩ := hv
      have hl := lenFact_ok (h.fine.arg h1)
      obtain rfl : args = #[x] := by rw [← Array.toList_inj, hx]
      obtain rfl : ts = #[t] := by rw [← Array.toList_inj, ht]
      unfold vstep
      rw [hg, ho]
      exact ⟨⟨h1, h2⟩, h3 hl⟩
    · exact hv
  · exact hv
theorem vreg_ok (hC : C.n ≠ 0) (hCn : C.n ≤ n) (h2 : 2 ≤ n) (hT : Table P T) (hQ : ∀ a W, After C sz K a W → Q .normal a W)
    (hds : ∀ (i : Nat) (o' : Oper) (d : Nat), ops[i]? = some o' → o'.dst = some d → d < sz) :
    ∀ (l : List Oper) (e : Env) (a : Act) (W : World) (D : Nat → Nat → Prop) (β : Nat → Option Nat), (∀ o ∈ l, ∀ d, o.dst = some d → d < sz) → St C sz e a W D β → vregF P n T ops l e K → wpList P ops Q l a W
  | [], e, a, W, D, β, _, h, hv => hQ a W ⟨e, D, β, hv, h⟩
  | o :: l, e, a, W, D, β, hl, h, hv => by
    have h1 := vstep_ok (Q := Q) hC hCn h2 hT h (hl o (List.mem_cons_self ..)) hds (vstepF_vstep h hv)
    have ih : ∀ a W, After C sz (fun e' => vregF P n T ops l e' K) a W → wpList P ops Q l a W := fun a W ⟨e', D', β', k1, k2⟩ =>
      vreg_ok hC hCn h2 hT hQ hds l e' a W D' β' (fun o ho => hl o (List.mem_cons_of_mem _ ho)) k2 k1
    unfold wpList
    split
    · rename_i hw
      rw [if_pos hw] at h1
      exact .inl (Oper.wp_mono ih h1)
    · rename_i hw
      rw [if_neg hw] at h1
      exact ih _ _ h1
def tmPut (tm : List (Nat × AV)) (d : Option Nat) (v : AV) : List (Nat × AV) :=
  match d with
  | some i => (i, v) :: tm
  | none => tm
theorem put_eq (tm : List (Nat × AV)) (st : List Root) (d : Option Nat) (v : AV) : Env.put ⟨tm, st⟩ d v = ⟨tmPut tm d v, st⟩ := by cases d <;> rfl
theorem tv_put (tm : List (Nat × AV)) (d : Option Nat) (v : AV) (t : Nat) : tv (tmPut tm d v) t = if d = some t then v else tv tm t := by
  cases d with
  | none => simp [tmPut]
  | some i => simp [tmPut, tv]
/-- What a run in the order of the list leaves behind: values, roots and lists of values at every point. -/
structure Trace (P : Program) (n : Nat) (T : List (Nat × Fsem)) (ops : Array Oper) (B : List (List Nat)) (i : Nat) (V : Nat → AV) (S : Nat → List Root) (TM : Nat → List (Nat × AV)) : Prop where
  tm : ∀ k o, i ≤ k → ops[k]? = some o → TM (k + 1) = tmPut (TM k) o.dst (V k)
  soft : ∀ k o, i ≤ k → ops[k]? = some o → quiet T o.op = true → S (k + 1) = S k ∧ ∀ (tm' : List (Nat × AV)) (sp : List Root) (K' : Env → Prop), Likes ops o (TM k) tm' → qval P n T ⟨tm', sp⟩ o.op = qval P n T ⟨TM k, S k⟩ o.op → K' (Env.put ⟨tm', sp⟩ o.dst (V k)) → vstep P n T ops o ⟨tm', sp⟩ K'
  loud : ∀ k o, i ≤ k → ops[k]? = some o → ∀ (tm' : List (Nat × AV)) (K' : Env → Prop), Likes ops o (TM k) tm' → K' (Env.put ⟨tm', S (k + 1)⟩ o.dst (V k)) → vstep P n T ops o ⟨tm', S k⟩ K'
  back : ∀ j k oj ok, i ≤ j → j < k → ops[j]? = some oj → quiet T oj.op = false → ops[k]? = some ok → quiet T ok.op = true → looks ok.op = true → anc B j k = false → qval P n T ⟨TM k, S j⟩ ok.op = qval P n T ⟨TM k, S k⟩ ok.op
  fore : ∀ j k oj ok, i ≤ j → j < k → ops[j]? = some oj → quiet T oj.op = true → looks oj.op = true → ops[k]? = some ok → quiet T ok.op = false → anc B j k = false → qval P n T ⟨TM (k + 1), S (k + 1)⟩ oj.op = qval P n T ⟨TM j, S j⟩ oj.op
theorem vdr_trace {B : List (List Nat)} : ∀ (l : List Oper) (i : Nat) (hist : List (Nat × List Root)) (pend : List (Nat × Op × Option OpR)) (tm : List (Nat × AV)) (st : List Root), (∀ k, l[k]? = ops[i + k]?) →
    vdr P n T ops B i l hist pend ⟨tm, st⟩ K → ∃ (V : Nat → AV) (S : Nat → List Root) (TM : Nat → List (Nat × AV)), TM i = tm ∧ S i = st ∧ Trace P n T ops B i V S TM ∧ K ⟨TM (i + l.length), S (i + l.length)⟩ ∧
      (∀ h ∈ hist, ∀ k o, i ≤ k → ops[k]? = some o → quiet T o.op = true → looks o.op = true → anc B h.1 k = false → qval P n T ⟨TM k, h.2⟩ o.op = qval P n T ⟨TM k, S k⟩ o.op) ∧
      (∀ p ∈ pend, ∀ k o, i ≤ k → ops[k]? = some o → quiet T o.op = false → anc B p.1 k = false → qval P n T ⟨TM (k + 1), S (k + 1)⟩ p.2.1 = p.2.2)
  | [], i, hist, pend, tm, st, hl, hv => by
    have hno : ∀ k o, i ≤ k → ops[k]? = some o → False := fun k o hk ho => by
      have := hl (k - i)
      rw [show i + (k - i) = k by omega, ho] at this
      simp at this
    exact ⟨fun _ => .undef, fun _ => st, fun _ => tm, rfl, rfl, ⟨fun k o hk ho => (hno k o hk ho).elim, fun k o hk ho => (hno k o hk ho).elim, fun k o hk ho => (hno k o hk ho).elim,
      fun j k oj ok hj _ ho => (hno j oj hj ho).elim, fun j k oj ok hj _ ho => (hno j oj hj ho).elim⟩, hv, fun _ _ k o hk ho => (hno k o hk ho).elim, fun _ _ k o hk ho => (hno k o hk ho).elim⟩
  | o :: l, i, hist, pend, tm, st, hl, hv => by
    have hoi : ops[i]? = some o := by have := hl 0; simpa using this.symm
    have hl' : ∀ k, l[k]? = ops[(i + 1) + k]? := fun k => by have := hl (k + 1); rw [show i + 1 + k = i + (k + 1) by omega, ← this]; simp
    -- what one step and the rest give
    have glue : ∀ (st' : List Root) (v : AV) (hist' : List (Nat × List Root)) (pend' : List (Nat × Op × Option OpR)),
        vdr P n T ops B (i + 1) l hist' pend' (Env.put ⟨tm, st'⟩ o.dst v) K →
        (quiet T o.op = true → st' = st ∧ ∀ (tm' : List (Nat × AV)) (sp : List Root) (K' : Env → Prop), Likes ops o tm tm' → qval P n T ⟨tm', sp⟩ o.op = qval P n T ⟨tm, st⟩ o.op → K' (Env.put ⟨tm', sp⟩ o.dst v) → vstep P n T ops o ⟨tm', sp⟩ K') →
        (∀ (tm' : List (Nat × AV)) (K' : Env → Prop), Likes ops o tm tm' → K' (Env.put ⟨tm', st'⟩ o.dst v) → vstep P n T ops o ⟨tm', st⟩ K') →
        (∀ h ∈ hist, h ∈ hist') → (quiet T o.op = false → (i, st) ∈ hist') → (∀ p ∈ pend, p ∈ pend') → (quiet T o.op = true → looks o.op = true → (i, o.op, qval P n T ⟨tm, st⟩ o.op) ∈ pend') →
        (quiet T o.op = true → looks o.op = true → ∀ h ∈ hist, anc B h.1 i = false → qval P n T ⟨tm, h.2⟩ o.op = qval P n T ⟨tm, st⟩ o.op) →
        (quiet T o.op = false → ∀ p ∈ pend, anc B p.1 i = false → qval P n T ⟨tmPut tm o.dst v, st'⟩ p.2.1 = p.2.2) →
        ∃ (V : Nat → AV) (S : Nat → List Root) (TM : Nat → List (Nat × AV)), TM i = tm ∧ S i = st ∧ Trace P n T ops B i V S TM ∧ K ⟨TM (i + (l.length + 1)), S (i + (l.length + 1))⟩ ∧
          (∀ h ∈ hist, ∀ k o, i ≤ k → ops[k]? = some o → quiet T o.op = true → looks o.op = true → anc B h.1 k = false → qval P n T ⟨TM k, h.2⟩ o.op = qval P n T ⟨TM k, S k⟩ o.op) ∧
          (∀ p ∈ pend, ∀ k o, i ≤ k → ops[k]? = some o → quiet T o.op = false → anc B p.1 k = false → qval P n T ⟨TM (k + 1), S (k + 1)⟩ p.2.1 = p.2.2) := by
      intro st' v hist' pend' hk hq hs hh1 hh2 hp1 hp2 hb hf
      rw [put_eq] at hk
      obtain ⟨V, S, TM, t1, t2, tr, tk, th, tp⟩ := vdr_trace l (i + 1) hist' pend' _ _ hl' hk
      let V' : Nat → AV := fun k => if k = i then v else V k
      let S' : Nat → List Root := fun k => if k = i then st else S k
      let TM' : Nat → List (Nat × AV) := fun k => if k = i then tm else TM k
      have vi : V' i = v := by simp [V']
      have si : S' i = st := by simp [S']
      have ti : TM' i = tm := by simp [TM']
      have vn : ∀ k, i + 1 ≤ k → V' k = V k := fun k hk => by simp only [V']; rw [if_neg (by omega)]
      have sn : ∀ k, i + 1 ≤ k → S' k = S k := fun k hk => by simp only [S']; rw [if_neg (by omega)]
      have tn : ∀ k, i + 1 ≤ k → TM' k = TM k := fun k hk => by simp only [TM']; rw [if_neg (by omega)]
      have same : ∀ {o'}, ops[i]? = some o' → o' = o := fun h => by rw [hoi] at h; injection h with h; exact h.symm
      refine ⟨V', S', TM', ti, si, ⟨fun k o' hk ho => ?_, fun k o' hk ho hqo => ?_, fun k o' hk ho => ?_, fun j k oj ok hj hjk hoj hqj hok hqk hlk hanc => ?_, fun j k oj ok hj hjk hoj hqj hlj hok hqk hanc => ?_⟩, ?_, fun h hh k o' hk ho hqo hlo hanc => ?_, fun p hp k o' hk ho hqo hanc => ?_⟩
      · rcases Nat.eq_or_lt_of_le hk with rfl | hk
        · have := same ho; subst this
          rw [ti, vi, tn _ (Nat.le_refl _), t1]
        · rw [tn _ (by omega), tn _ hk, vn _ hk]
          exact tr.tm k o' hk ho
      · rcases Nat.eq_or_lt_of_le hk with rfl | hk
        · have := same ho; subst this
          rw [si, ti, vi, sn _ (Nat.le_refl _), t2]
          exact hq hqo
        · rw [sn _ hk, sn _ (by omega), tn _ hk, vn _ hk]
          exact tr.soft k o' hk ho hqo
      · rcases Nat.eq_or_lt_of_le hk with rfl | hk
        · have := same ho; subst this
          rw [si, ti, vi, sn _ (Nat.le_refl _), t2]
          exact hs
        · rw [sn _ hk, sn _ (by omega), tn _ hk, vn _ hk]
          exact tr.loud k o' hk ho
      · rcases Nat.eq_or_lt_of_le hj with rfl | hj
        · have := same hoj; subst this
          rw [si, sn _ hjk, tn _ hjk]
          exact th _ (hh2 hqj) k ok hjk hok hqk hlk hanc
        · rw [sn _ hj, sn _ (by omega), tn _ (by omega)]
          exact tr.back j k oj ok hj hjk hoj hqj hok hqk hlk hanc
      · rcases Nat.eq_or_lt_of_le hj with rfl | hj
        · have := same hoj; subst this
          rw [si, ti, sn _ (by omega), tn _ (by omega)]
          exact tp _ (hp2 hqj hlj) k ok hjk hok hqk hanc
        · rw [sn _ hj, sn _ (by omega), tn _ (by omega), tn _ (by omega)]
          exact tr.fore j k oj ok hj hjk hoj hqj hlj hok hqk hanc
      · rw [sn _ (by omega), tn _ (by omega), show i + (l.length + 1) = i + 1 + l.length by omega]
        exact tk
      · rcases Nat.eq_or_lt_of_le hk with rfl | hk
        · have := same ho; subst this
          rw [si, ti]
          exact hb hqo hlo h hh hanc
        · rw [sn _ hk, tn _ hk]
          exact th h (hh1 h hh) k o' hk ho hqo hlo hanc
      · rcases Nat.eq_or_lt_of_le hk with rfl | hk
        · have := same ho; subst this
          rw [sn _ (Nat.le_refl _), tn _ (Nat.le_refl _), t1, t2]
          exact hf hqo p hp hanc
        · rw [sn _ (by omega), tn _ (by omega)]
          exact tp p (hp1 p hp) k o' hk ho hqo hanc
    unfold vdr at hv
    cases hqo : quiet T o.op
    · rw [hqo] at hv
      simp only [cond_false] at hv
      obtain ⟨st', v, ⟨k1, k2⟩, k3, k4⟩ := vstep_trace hv
      refine glue st' v _ _ k2 (fun h => by rw [hqo] at h; cases h) k4 (fun h hh => List.mem_cons_of_mem _ hh) (fun _ => List.mem_cons_self ..) (fun p hp => hp) (fun h => by rw [hqo] at h; cases h) (fun h => by rw [hqo] at h; cases h) (fun _ p hp ha => ?_)
      have := k1 p hp
      rw [ha] at this
      rw [put_eq] at this
      exact this
    · rw [hqo] at hv
      simp only [cond_true] at hv
      obtain ⟨hv1, hv2⟩ := hv
      obtain ⟨st', v, k1, k3, k4⟩ := vstep_trace hv2
      refine glue st' v _ _ k1 k3 k4 (fun h hh => hh) (fun h => by rw [hqo] at h; cases h) (fun p hp => by cases looks o.op <;> simp [hp]) (fun _ hlo => by rw [hlo]; exact List.mem_cons_self ..) (fun _ hlo h hh ha => ?_) (fun h => by rw [hqo] at h; cases h)
      rw [hlo] at hv1
      have := hv1 h hh
      rw [ha] at this
      exact this
theorem St.congr {e : Env} {a : Act} {W : World} {D : Nat → Nat → Prop} {β : Nat → Option Nat} (h : St C sz e a W D β) {tm : List (Nat × AV)} (ht : ∀ t, tv tm t = tv e.tm t) : St C sz ⟨tm, e.st⟩ a W D β :=
  ⟨h.mem, fun i => by rw [ht i]; exact h.tm i, fun i q hq => h.nm i q (by rw [← ht i]; exact hq), h.bx, h.dd, h.sz⟩
theorem filter_lt {p q : Nat → Bool} {i : Nat} (hp : p i = true) (hq : q i = false) (h : ∀ j, q j = true → p j = true) : ∀ (l : List Nat), (l.filter q).length ≤ (l.filter p).length ∧ (i ∈ l → (l.filter q).length < (l.filter p).length)
  | [] => ⟨Nat.le_refl _, fun h => by cases h⟩
  | x :: l => by
    obtain ⟨h1, h2⟩ := filter_lt hp hq h l
    simp only [List.filter_cons]
    cases hqx : q x
    · cases hpx : p x
      · simp only [Bool.false_eq_true, if_false]
        refine ⟨h1, fun hi => ?_⟩
        rcases List.mem_cons.1 hi with rfl | hi
        · rw [hp] at hpx; cases hpx
        · exact h2 hi
      · simp only [Bool.false_eq_true, if_false, if_true, List.length_cons]
        exact ⟨by omega, fun _ => by omega⟩
    · rw [h x hqx]
      simp only [if_true, List.length_cons]
      refine ⟨by omega, fun hi => ?_⟩
      rcases List.mem_cons.1 hi with rfl | hi
      · rw [hq] at hqx; cases hqx
      · have := h2 hi; omega
theorem vdr_ok {B : List (List Nat)} (hC : C.n ≠ 0) (hCn : C.n ≤ n) (h2 : 2 ≤ n) (hT : Table P T) (hQ : ∀ a W, After C sz K a W → Q .normal a W)
    (hds : ∀ (i : Nat) (o' : Oper) (d : Nat), ops[i]? = some o' → o'.dst = some d → d < sz) (hok : drawOk T ops B = true)
    {e : Env} {a : Act} {W : World} {D : Nat → Nat → Prop} {β : Nat → Option Nat} (hst : St C sz e a W D β) (hv : vdr P n T ops B 0 ops.toList [] [] e K) :
    wpAny P .any ops Q ops.size (Array.replicate ops.size false) a W := by
  obtain ⟨tm, st⟩ := e
  obtain ⟨V, S, TM, t1, t2, tr, tk, _, _⟩ := vdr_trace ops.toList 0 [] [] tm st (fun k => by simp) hv
  subst t1 t2
  simp only [Nat.zero_add, Array.length_toList] at tk
  -- the table
  have hok' : ∀ i o, ops[i]? = some o →
      (∀ j, anc B j i = true → j < i ∧ ∃ ed ∈ o.after, Region.binds .any ed = true ∧ (ed.on = j ∨ anc B j ed.on = true)) ∧
      (∀ ed ∈ o.after, Region.binds .any ed = true → ed.on < i) ∧
      (∀ t ∈ opReads ops o, ∀ k, opDst ops k = some t → anc B k i = true ∨ (looks o.op = false ∧ anc B i k = true)) ∧
      (∀ k, k < i → ∀ d, opDst ops k = some d → o.dst ≠ some d) ∧
      (quiet T o.op = false → ∀ k o', k < i → ops[k]? = some o' → quiet T o'.op = false → anc B k i = true) := by
    intro i o ho
    have hi : i < ops.size := (Array.getElem?_eq_some_iff.1 ho).1
    have := List.all_eq_true.1 hok i (List.mem_range.2 hi)
    rw [ho] at this
    simp only [Bool.and_eq_true] at this
    obtain ⟨⟨⟨⟨a1, a2⟩, a3⟩, a4⟩, a5⟩ := this
    refine ⟨fun j hj => ?_, fun ed hed hb => ?_, fun t ht k hk => ?_, fun k hk d hd hd' => ?_, fun hq k o' hk ho' hq' => ?_⟩
    · have hm : j ∈ B.getD i [] := by simpa [anc] using hj
      have := List.all_eq_true.1 a1 j hm
      simp only [Bool.and_eq_true, decide_eq_true_eq, Array.any_eq_true'] at this
      obtain ⟨h1, ed, hed, hb, h3⟩ := this
      exact ⟨h1, ed, hed, hb, by simpa using h3⟩
    · have := Array.all_eq_true_iff_forall_mem.1 a2 ed hed
      simpa [hb] using this
    · have hk' : k < ops.size := by
        rcases Nat.lt_or_ge k ops.size with h | h
        · exact h
        · simp [opDst, Array.getElem?_eq_none h] at hk
      have := List.all_eq_true.1 (List.all_eq_true.1 a3 t ht) k (List.mem_range.2 hk')
      simpa [hk] using this
    · have := List.all_eq_true.1 a4 k (List.mem_range.2 hk)
      simp [hd, hd'] at this
    · rw [hq, Bool.false_or] at a5
      have := List.all_eq_true.1 a5 k (List.mem_range.2 hk)
      simpa [ho', hq'] using this
  have dst_uniq : ∀ i k t, opDst ops i = some t → opDst ops k = some t → i = k := by
    intro i k t hi hk
    have get : ∀ {i}, opDst ops i = some t → ∃ o, ops[i]? = some o ∧ o.dst = some t := fun {i} h => by
      simpa [opDst, Option.bind_eq_some_iff] using h
    obtain ⟨oi, h1, h2⟩ := get hi
    obtain ⟨ok, h3, h4⟩ := get hk
    rcases Nat.lt_trichotomy i k with h | h | h
    · exact absurd h4 ((hok' k ok h3).2.2.2.1 i h t hi)
    · exact h
    · exact absurd h2 ((hok' i oi h1).2.2.2.1 k h t hk)
  -- the values in the order of the list
  have tmv : ∀ k, k ≤ ops.size → (∀ i t, i < k → opDst ops i = some t → tv (TM k) t = V i) ∧ ∀ t, (∀ i, i < k → opDst ops i ≠ some t) → tv (TM k) t = tv (TM 0) t := by
    intro k
    induction k with
    | zero => exact fun _ => ⟨fun i t hi => absurd hi (Nat.not_lt_zero i), fun t _ => rfl⟩
    | succ k ih =>
      intro hk
      obtain ⟨i1, i2⟩ := ih (by omega)
      have ho : ops[k]? = some ops[k] := Array.getElem?_eq_getElem (by omega)
      have hd : opDst ops k = ops[k].dst := by simp [opDst, ho]
      rw [tr.tm k _ (Nat.zero_le k) ho]
      refine ⟨fun i t hi hit => ?_, fun t ht => ?_⟩
      · rw [tv_put]
        by_cases hik : i = k
        · subst hik
          rw [if_pos (hd ▸ hit)]
        · rw [if_neg (fun e0 => hik (dst_uniq i k t hit (hd.trans e0)))]
          exact i1 i t (by omega) hit
      · rw [tv_put, if_neg (fun e0 => ht k (by omega) (hd.trans e0))]
        exact i2 t fun i hi => ht i (by omega)
  -- roots between what is loud
  have swalk : ∀ d p, p + d ≤ ops.size → (∀ k o, p ≤ k → k < p + d → ops[k]? = some o → quiet T o.op = true) → S (p + d) = S p := by
    intro d
    induction d with
    | zero => intro p _ _; rfl
    | succ d ih =>
      intro p hp hq
      have ho : ops[p + d]? = some ops[p + d] := Array.getElem?_eq_getElem (by omega)
      have := (tr.soft (p + d) _ (Nat.zero_le _) ho (hq (p + d) _ (by omega) (by omega) ho)).1
      rw [← Nat.add_assoc, this]
      exact ih p (by omega) fun k o h1 h2 => hq k o h1 (by omega)
  have ssame : ∀ p q, p ≤ ops.size → q ≤ ops.size → (∀ k o, ops[k]? = some o → quiet T o.op = false → (k < p ↔ k < q)) → S p = S q := by
    have key : ∀ p q, p ≤ q → q ≤ ops.size → (∀ k o, ops[k]? = some o → quiet T o.op = false → (k < p ↔ k < q)) → S q = S p := by
      intro p q hpq hq h
      have := swalk (q - p) p (by omega) fun k o h1 h2 ho => by
        cases hqo : quiet T o.op
        · have := (h k o ho hqo).2 (by omega); omega
        · rfl
      rwa [show p + (q - p) = q by omega] at this
    intro p q hp hq h
    rcases Nat.le_total p q with h' | h'
    · exact (key p q h' hq h).symm
    · exact key q p h' hp fun k o ho hqo => (h k o ho hqo).symm
  -- the invariant
  have main : ∀ (fuel : Nat) (listed : Array Bool) (a : Act) (W : World), listed.size = ops.size → ((List.range ops.size).filter fun i => listed.getD i true == false).length ≤ fuel →
      (∀ i j, listed[i]? = some true → anc B j i = true → listed[j]? = some true) →
      (∃ (tmx : List (Nat × AV)) (p : Nat) (D : Nat → Nat → Prop) (β : Nat → Option Nat), (∀ t i, opDst ops i = some t → listed[i]? = some true → tv tmx t = V i) ∧ (∀ t, (∀ i, opDst ops i = some t → listed[i]? ≠ some true) → tv tmx t = tv (TM 0) t) ∧
        p ≤ ops.size ∧ (∀ i o, ops[i]? = some o → quiet T o.op = false → (listed[i]? = some true ↔ i < p)) ∧ St C sz ⟨tmx, S p⟩ a W D β) → wpAny P .any ops Q fuel listed a W := by
    intro fuel
    -- at the end
    have done : ∀ (listed : Array Bool) (a : Act) (W : World), listed.size = ops.size →
        (∃ (tmx : List (Nat × AV)) (p : Nat) (D : Nat → Nat → Prop) (β : Nat → Option Nat), (∀ t i, opDst ops i = some t → listed[i]? = some true → tv tmx t = V i) ∧ (∀ t, (∀ i, opDst ops i = some t → listed[i]? ≠ some true) → tv tmx t = tv (TM 0) t) ∧
          p ≤ ops.size ∧ (∀ i o, ops[i]? = some o → quiet T o.op = false → (listed[i]? = some true ↔ i < p)) ∧ St C sz ⟨tmx, S p⟩ a W D β) → Region.ready .any ops listed = [] → Q .normal a W := by
      rintro listed a W hs ⟨tmx, p, D, β, i1, i2, i3, i4, i5⟩ hr
      have all : ∀ i, i < ops.size → listed[i]? = some true := by
        intro i
        induction i using Nat.strongRecOn with
        | _ i ih =>
          intro hi
          rcases hb : listed[i]'(by omega) with _ | _
          · exfalso
            have ho : ops[i]? = some ops[i] := Array.getElem?_eq_getElem hi
            have : i ∈ Region.ready .any ops listed := by
              rw [mem_ready]
              refine ⟨?_, ops[i], ho, fun ed hed hb => ?_⟩
              · rw [Array.getD_eq_getD_getElem?, Array.getElem?_eq_getElem (by omega), hb]; rfl
              · have hlt := (hok' i _ ho).2.1 ed hed hb
                rw [Array.getD_eq_getD_getElem?, ih ed.on hlt (by omega)]; rfl
            rw [hr] at this
            cases this
          · rw [Array.getElem?_eq_getElem (by omega), hb]
      refine hQ a W ⟨_, D, β, tk, ?_⟩
      have hS : S ops.size = S p := ssame _ _ (Nat.le_refl _) i3 fun k o ho hq => by
        have hk : k < ops.size := (Array.getElem?_eq_some_iff.1 ho).1
        exact ⟨fun _ => (i4 k o ho hq).1 (all k hk), fun _ => hk⟩
      rw [hS]
      refine i5.congr fun t => ?_
      by_cases hex : ∃ i, opDst ops i = some t
      · obtain ⟨i, hi⟩ := hex
        have hil : i < ops.size := by
          rcases Nat.lt_or_ge i ops.size with h | h
          · exact h
          · simp [opDst, Array.getElem?_eq_none h] at hi
        rw [(tmv _ (Nat.le_refl _)).1 i t hil hi]
        exact (i1 t i hi (all i hil)).symm
      · rw [(tmv _ (Nat.le_refl _)).2 t fun i _ hi => hex ⟨i, hi⟩]
        exact (i2 t fun i hi => (hex ⟨i, hi⟩).elim).symm
    induction fuel with
    | zero =>
      intro listed a W hs hc hdown hinv
      have hr : Region.ready .any ops listed = [] := by
        apply List.eq_nil_iff_forall_not_mem.2
        intro i hi
        obtain ⟨h0, o, ho, _⟩ := mem_ready.1 hi
        have : i ∈ (List.range ops.size).filter fun i => listed.getD i true == false := List.mem_filter.2 ⟨List.mem_range.2 (Array.getElem?_eq_some_iff.1 ho).1, by simp [h0]⟩
        rw [List.eq_nil_of_length_eq_zero (Nat.le_zero.1 hc)] at this
        cases this
      exact ⟨hr, done listed a W hs hinv hr⟩
    | succ fuel ih =>
      intro listed a W hs hc hdown hinv
      refine ⟨done listed a W hs hinv, fun i hi => ?_⟩
      obtain ⟨tmx, p, D, β, i1, i2, i3, i4, i5⟩ := hinv
      obtain ⟨hun, o, ho, haft⟩ := mem_ready.1 hi
      have hil : i < ops.size := (Array.getElem?_eq_some_iff.1 ho).1
      obtain ⟨c1, c2, c3, c4, c5⟩ := hok' i o ho
      have hunl : listed[i]? ≠ some true := fun h0 => by
        rw [Array.getD_eq_getD_getElem?, h0] at hun; cases hun
      -- what comes ahead is listed
      have ahead : ∀ j, anc B j i = true → j < i ∧ listed[j]? = some true := by
        intro j hj
        obtain ⟨h1, ed, hed, hb, h3⟩ := c1 j hj
        have hl := haft ed hed hb
        have hl' : listed[ed.on]? = some true := by
          have : ed.on < listed.size := by have := c2 ed hed hb; omega
          rw [Array.getD_eq_getD_getElem?, Array.getElem?_eq_getElem this] at hl
          rw [Array.getElem?_eq_getElem this]
          simpa using hl
        refine ⟨h1, ?_⟩
        rcases h3 with h3 | h3
        · rw [← h3]; exact hl'
        · exact hdown ed.on j hl' h3
      -- it looks alike
      have alike : ∀ t ∈ opReads ops o, tv tmx t = tv (TM i) t := by
        intro t ht
        by_cases hex : ∃ k, opDst ops k = some t
        · obtain ⟨k, hk⟩ := hex
          rcases c3 t ht k hk with c3 | ⟨_, c3⟩
          · obtain ⟨h1, h2⟩ := ahead k c3
            rw [i1 t k hk h2, (tmv i (by omega)).1 k t h1 hk]
          · obtain ⟨ok, hok0, _⟩ : ∃ ok, ops[k]? = some ok ∧ ok.dst = some t := by simpa [opDst, Option.bind_eq_some_iff] using hk
            have hik : i < k := ((hok' k ok hok0).1 i c3).1
            have n1 : ∀ k', opDst ops k' = some t → listed[k']? ≠ some true := fun k' hk' hl' => by
              have := dst_uniq k' k t hk' hk
              subst this
              exact hunl (hdown k' i hl' c3)
            have n2 : ∀ k', k' < i → opDst ops k' ≠ some t := fun k' h1 hk' => by
              have := dst_uniq k' k t hk' hk
              omega
            rw [i2 t n1, (tmv i (by omega)).2 t n2]
        · rw [i2 t fun k hk => (hex ⟨k, hk⟩).elim, (tmv i (by omega)).2 t fun k _ hk => hex ⟨k, hk⟩]
      have likes : Likes ops o (TM i) tmx := by
        refine ⟨fun x hx => ?_, fun j want t hg ht => ?_⟩
        · cases x with
          | tmp t =>
            refine alike t (List.mem_append_left _ (List.mem_filterMap.2 ⟨.tmp t, by simpa using hx, rfl⟩))
          | _ => rfl
        · refine alike t (List.mem_append_right _ ?_)
          rw [hg]
          simp only [opDst, ht]
          exact List.mem_cons_self ..
      have hdst : ∀ d, o.dst = some d → d < sz := fun d hd => hds i o d ho hd
      have hoi : opDst ops i = o.dst := by simp [opDst, ho]
      -- the next state
      have next : ∀ (p' : Nat), p' ≤ ops.size → (∀ k ok, ops[k]? = some ok → quiet T ok.op = false → (((listed.setIfInBounds i true))[k]? = some true ↔ k < p')) →
          vstep P n T ops o ⟨tmx, S p⟩ (fun e' => e' = Env.put ⟨tmx, S p'⟩ o.dst (V i)) → wpOp P ops Q i (wpAny P .any ops Q fuel (listed.setIfInBounds i true)) a W := by
        intro p' hp' hch hstep
        have hset : ∀ k, (listed.setIfInBounds i true)[k]? = some true ↔ (k = i ∨ listed[k]? = some true) := by
          intro k
          by_cases hki : i = k
          · subst hki
            rw [Array.getElem?_setIfInBounds_self_of_lt (by omega)]
            simp
          · rw [Array.getElem?_setIfInBounds_ne hki]
            exact ⟨.inr, fun h => h.resolve_left fun e0 => hki e0.symm⟩
        have hgo : ∀ a' W', After C sz (fun e' => e' = Env.put ⟨tmx, S p'⟩ o.dst (V i)) a' W' → wpAny P .any ops Q fuel (listed.setIfInBounds i true) a' W' := by
          rintro a' W' ⟨e', D', β', rfl, s⟩
          rw [put_eq] at s
          refine ih _ a' W' (by simpa using hs) ?_ (fun i' j hi' hj => ?_) ⟨_, p', D', β', fun t k hk hkl => ?_, fun t ht => ?_, hp', hch, s⟩
          · have := (filter_lt (p := fun j => listed.getD j true == false) (q := fun j => (listed.setIfInBounds i true).getD j true == false) (i := i) (by simp [hun]) (by
              rw [Array.getD_eq_getD_getElem?, Array.getElem?_setIfInBounds_self_of_lt (by omega)]; rfl) (fun j hj => by
              by_cases hji : i = j
              · subst hji
                rw [Array.getD_eq_getD_getElem?, Array.getElem?_setIfInBounds_self_of_lt (by omega)] at hj
                simp at hj
              · rw [Array.getD_eq_getD_getElem?, Array.getElem?_setIfInBounds_ne hji, ← Array.getD_eq_getD_getElem?] at hj
                exact hj) (List.range ops.size)).2 (List.mem_range.2 hil)
            omega
          · rcases (hset i').1 hi' with rfl | hi'
            · exact (hset j).2 (.inr (ahead j hj).2)
            · exact (hset j).2 (.inr (hdown i' j hi' hj))
          · rw [tv_put]
            rcases (hset k).1 hkl with rfl | hkl
            · rw [if_pos (hoi ▸ hk)]
            · have hki : k ≠ i := fun e0 => hunl (e0 ▸ hkl)
              rw [if_neg (fun e0 => hki (dst_uniq k i t hk (hoi.trans e0)))]
              exact i1 t k hk hkl
          · rw [tv_put, if_neg (fun e0 => ht i (hoi.trans e0) ((hset i).2 (.inl rfl)))]
            exact i2 t fun k hk hkl => ht k hk ((hset k).2 (.inr hkl))
        have h1 := vstep_ok (Q := Q) hC hCn h2 hT i5 hdst hds hstep
        unfold wpOp
        rw [ho]
        simp only
        split
        · rename_i hw
          rw [if_pos hw] at h1
          exact .inl (Oper.wp_mono hgo h1)
        · rename_i hw
          rw [if_neg hw] at h1
          exact hgo _ _ h1
      -- loud or quiet
      cases hq : quiet T o.op
      · have hS : S p = S i := ssame p i i3 (by omega) fun k ok hok hqk => by
          rw [← i4 k ok hok hqk]
          constructor
          · intro hl
            rcases Nat.lt_trichotomy k i with h | h | h
            · exact h
            · subst h; exact (hunl hl).elim
            · have := (hok' k ok hok).2.2.2.2 hqk i o h ho hq
              exact (hunl (hdown k i hl this)).elim
          · intro hki
            exact (ahead k (c5 hq k ok hki hok hqk)).2
        refine next (i + 1) (by omega) (fun k ok hok hqk => ?_) ?_
        · by_cases hki : i = k
          · subst hki
            rw [Array.getElem?_setIfInBounds_self_of_lt (by omega)]
            simp
          · rw [Array.getElem?_setIfInBounds_ne hki]
            constructor
            · intro hl
              rcases Nat.lt_trichotomy k i with h | h | h
              · omega
              · omega
              · have := (hok' k ok hok).2.2.2.2 hqk i o h ho hq
                exact (hunl (hdown k i hl this)).elim
            · intro hlt
              exact (ahead k (c5 hq k ok (by omega) hok hqk)).2
        · rw [hS]
          exact tr.loud i o (Nat.zero_le _) ho tmx _ likes rfl
      · refine next p i3 (fun k ok hok hqk => ?_) ?_
        · by_cases hki : i = k
          · subst hki
            rw [ho] at hok; injection hok with hok; subst hok
            rw [hq] at hqk; cases hqk
          · rw [Array.getElem?_setIfInBounds_ne hki]
            exact i4 k ok hok hqk
        · refine (tr.soft i o (Nat.zero_le _) ho hq).2 tmx (S p) _ likes ?_ rfl
          have hal : qval P n T ⟨tmx, S p⟩ o.op = qval P n T ⟨TM i, S p⟩ o.op := qval_alike likes.1 (.inr rfl)
          rw [hal]
          cases hlo : looks o.op
          · exact qval_alike (fun x hx => rfl) (.inl hlo)
          · -- it looks at the roots: those of another place give the same
            rcases Nat.lt_or_ge p i with hpi | hpi
            · -- fewer loud ones may be done
              by_cases hex : ∃ j oj, p ≤ j ∧ j < i ∧ ops[j]? = some oj ∧ quiet T oj.op = false
              · -- the first of them
                obtain ⟨j, oj, j1, j2, j3, j4, j5⟩ : ∃ j oj, p ≤ j ∧ j < i ∧ ops[j]? = some oj ∧ quiet T oj.op = false ∧ ∀ k ok, p ≤ k → k < j → ops[k]? = some ok → quiet T ok.op = true := by
                  have : ∀ d j, j = p + d → (∃ oj, j < i ∧ ops[j]? = some oj ∧ quiet T oj.op = false) → ∃ j oj, p ≤ j ∧ j < i ∧ ops[j]? = some oj ∧ quiet T oj.op = false ∧ ∀ k ok, p ≤ k → k < j → ops[k]? = some ok → quiet T ok.op = true := by
                    intro d
                    induction d using Nat.strongRecOn with
                    | _ d ihd =>
                      rintro j rfl ⟨oj, k1, k2, k3⟩
                      by_cases hex : ∃ k ok, p ≤ k ∧ k < p + d ∧ ops[k]? = some ok ∧ quiet T ok.op = false
                      · obtain ⟨k, ok, l1, l2, l3, l4⟩ := hex
                        exact ihd (k - p) (by omega) k (by omega) ⟨ok, by omega, l3, l4⟩
                      · refine ⟨p + d, oj, by omega, k1, k2, k3, fun k ok h1 h2 h3 => ?_⟩
                        cases hqk : quiet T ok.op
                        · exact (hex ⟨k, ok, h1, h2, h3, hqk⟩).elim
                        · rfl
                  obtain ⟨j, oj, k1, k2, k3, k4⟩ := hex
                  exact this (j - p) j (by omega) ⟨oj, k2, k3, k4⟩
                have hSj : S j = S p := by
                  have := swalk (j - p) p (by omega) fun k ok h1 h2 h3 => j5 k ok h1 (by omega) h3
                  rwa [show p + (j - p) = j by omega] at this
                rw [← hSj]
                refine tr.back j i oj o (Nat.zero_le _) j2 j3 j4 ho hq hlo ?_
                cases hanc : anc B j i
                · rfl
                · have := (i4 j oj j3 j4).1 (ahead j hanc).2
                  omega
              · have hSi : S i = S p := by
                  have := swalk (i - p) p (by omega) fun k ok h1 h2 h3 => by
                    cases hqk : quiet T ok.op
                    · exact (hex ⟨k, ok, h1, by omega, h3, hqk⟩).elim
                    · rfl
                  rwa [show p + (i - p) = i by omega] at this
                rw [hSi]
            · -- more may be done
              have walk : ∀ d, i + d ≤ p → qval P n T ⟨TM i, S (i + d)⟩ o.op = qval P n T ⟨TM i, S i⟩ o.op := by
                intro d
                induction d with
                | zero => intro _; rfl
                | succ d ihd =>
                  intro hd
                  have hod : ops[i + d]? = some ops[i + d] := Array.getElem?_eq_getElem (by omega)
                  rw [← Nat.add_assoc]
                  cases hqd : quiet T ops[i + d].op
                  · have hl : listed[i + d]? = some true := (i4 _ _ hod hqd).2 (by omega)
                    have hne : i < i + d := by
                      rcases Nat.eq_zero_or_pos d with rfl | h
                      · exact (hunl hl).elim
                      · omega
                    have hanc : anc B i (i + d) = false := by
                      cases hanc : anc B i (i + d)
                      · rfl
                      · exact (hunl (hdown _ _ hl hanc)).elim
                    rw [← tr.fore i (i + d) o _ (Nat.zero_le _) hne ho hq hlo hod hqd hanc]
                    refine (qval_alike (fun x hx => ?_) (.inr rfl)).symm
                    cases x with
                    | tmp t =>
                      have ht : t ∈ opReads ops o := List.mem_append_left _ (List.mem_filterMap.2 ⟨.tmp t, by simpa using hx, rfl⟩)
                      show tv (TM (i + d + 1)) t = tv (TM i) t
                      by_cases hex : ∃ k, opDst ops k = some t
                      · obtain ⟨k, hk⟩ := hex
                        have c3' : anc B k i = true := by
                          rcases c3 t ht k hk with h0 | ⟨h0, _⟩
                          · exact h0
                          · rw [hlo] at h0; cases h0
                        obtain ⟨h1, _⟩ := ahead k c3'
                        rw [(tmv (i + d + 1) (by omega)).1 k t (by omega) hk, (tmv i (by omega)).1 k t h1 hk]
                      · rw [(tmv (i + d + 1) (by omega)).2 t fun k _ hk => hex ⟨k, hk⟩, (tmv i (by omega)).2 t fun k _ hk => hex ⟨k, hk⟩]
                    | _ => rfl
                  · rw [(tr.soft (i + d) _ (Nat.zero_le _) hod hqd).1]
                    exact ihd (by omega)
              have := walk (p - i) (by omega)
              rwa [show i + (p - i) = p by omega] at this
  refine main ops.size _ a W (by simp) ?_ (fun i j hi hj => ?_) ⟨TM 0, 0, D, β, fun t i hi hl => ?_, fun t _ => rfl, Nat.zero_le _, fun i o ho hq => ?_, hst⟩
  · have := List.length_filter_le (fun i => (Array.replicate ops.size false).getD i true == false) (List.range ops.size)
    simpa using this
  · rw [Array.getElem?_replicate] at hi; split at hi <;> simp at hi
  · rw [Array.getElem?_replicate] at hl; split at hl <;> simp at hl
  · rw [Array.getElem?_replicate]
    constructor
    · intro h; split at h <;> simp at h
    · intro h; exact absurd h (Nat.not_lt_zero i)
end
end Go.Ve
namespace Go.Ve
open Go.RowKit
set_option linter.unusedVariables false
set_option linter.unusedSimpArgs false
structure SOp where
  d : Option Nat
  op : Op
  g : Option (Nat × Bool)
inductive SCode where
  | skip
  | reg (l : List SOp)
  | draw (l : List SOp) (B : List (List Nat))
  | seq (a b : SCode)
  | cond (c : Operand) (a b : SCode)
  | block (id : Nat) (a : SCode)
  | loop (a : SCode)
  | exit (id : Nat)
  | ret
def slimOp (ops : Array Oper) (o : Oper) : SOp := ⟨o.dst, o.op, o.guard.map fun x => ((opDst ops x.1).getD 0, x.2)⟩
def insOne (x : Nat) : List Nat → List Nat
  | [] => [x]
  | y :: l => bif Nat.blt x y then x :: y :: l else bif Nat.beq x y then y :: l else y :: insOne x l
/-- What comes ahead of each. -/
def befores (ops : List Oper) : List (List Nat) :=
  ops.foldl (fun B o => B ++ [o.after.toList.foldl (fun s ed => bif Region.binds .any ed then (B.getD ed.on []).foldl (fun s x => insOne x s) (insOne ed.on s) else s) []]) []
def slim : Code → Option SCode
  | .skip => some .skip
  | .label _ => some .skip
  | .region _ ops false => some (.reg (ops.toList.map (slimOp ops)))
  | .region _ ops true => some (.draw (ops.toList.map (slimOp ops)) (befores ops.toList))
  | .seq a b => match slim a, slim b with
    | some x, some y => some (.seq x y)
    | _, _ => none
  | .cond c a b => match slim a, slim b with
    | some x, some y => some (.cond c x y)
    | _, _ => none
  | .block id a => match slim a with
    | some x => some (.block id x)
    | none => none
  | .loop a => match slim a with
    | some x => some (.loop x)
    | none => none
  | .exit id => some (.exit id)
  | .ret => some .ret
  | _ => none
/-- What must hold of a code besides. -/
def okOps (sz : Nat) (ops : Array Oper) : Bool := ops.toList.all fun o => (match o.dst with
    | some d => Nat.blt d sz
    | none => true) && (match o.guard with
    | some (j, _) => (opDst ops j).isSome
    | none => true)
def okC (T : List (Nat × Fsem)) (sz : Nat) : Code → Bool
  | .region _ ops false => okOps sz ops
  | .region _ ops true => okOps sz ops && drawOk T ops (befores ops.toList)
  | .seq a b => okC T sz a && okC T sz b
  | .cond _ a b => okC T sz a && okC T sz b
  | .block _ a => okC T sz a
  | .loop a => okC T sz a
  | _ => true
def bitOf (v : AV) (want : Bool) : Option Bool :=
  match v with
  | .bool b => some (b == want)
  | .gd g (.bool b) => some (g && (b == want))
  | _ => none
def vopd (P : Program) (n : Nat) (d : Option Nat) (op : Op) (e : Env) (K : Env → Prop) : Prop := vop P n ⟨d, op, 0, "", #[], none⟩ e K
/-- An operation without a guard. -/
def vso (P : Program) (n : Nat) (T : List (Nat × Fsem)) (o : SOp) (e : Env) (K : Env → Prop) : Prop :=
  match qval P n T e o.op with
  | some r => r.c ∧ K (e.put o.d r.v)
  | none => vopd P n o.d o.op e K
/-- With a guard. -/
def vsg (P : Program) (n : Nat) (T : List (Nat × Fsem)) (o : SOp) (g : Option Bool) (e : Env) (K : Env → Prop) : Prop :=
  match g with
  | none => False
  | some g => match qval P n T e o.op with
    | some r => (g = true → r.c) ∧ K (e.put o.d (.gd g r.v))
    | none => (g = true → vopd P n o.d o.op e K) ∧ (g = false → K (e.put o.d .undef))
def vs (P : Program) (n : Nat) (T : List (Nat × Fsem)) (o : SOp) (e : Env) (K : Env → Prop) : Prop :=
  match o.g with
  | none => vso P n T o e K
  | some x => vsg P n T o (bitOf (tv e.tm x.1) x.2) e K
def vsF (P : Program) (n : Nat) (T : List (Nat × Fsem)) (o : SOp) (e : Env) (K : Env → Prop) : Prop :=
  match o.g, o.op with
  | none, .call ⟨.builtin .len, args, ts⟩ => match args.toList, ts.toList with
    | [x], [t] => e.argc x ∧ (vLen P e.st t (e.arg x)).c ∧ (lenFact (e.arg x) → K (e.put o.d (vLen P e.st t (e.arg x)).v))
    | _, _ => vs P n T o e K
  | _, _ => vs P n T o e K
def vr (P : Program) (n : Nat) (T : List (Nat × Fsem)) : List SOp → Env → (Env → Prop) → Prop
  | [], e, K => K e
  | o :: l, e, K => vsF P n T o e fun e' => vr P n T l e' K
def vd (P : Program) (n : Nat) (T : List (Nat × Fsem)) (B : List (List Nat)) : Nat → List SOp → List (Nat × List Root) → List (Nat × Op × Option OpR) → Env → (Env → Prop) → Prop
  | _, [], _, _, e, K => K e
  | i, o :: l, hist, pend, e, K =>
    bif quiet T o.op then
      (bif looks o.op then (∀ h ∈ hist, bif anc B h.1 i then True else qval P n T ⟨e.tm, h.2⟩ o.op = qval P n T e o.op) else True) ∧
      vs P n T o e fun e' => vd P n T B (i + 1) l hist (bif looks o.op then (i, o.op, qval P n T e o.op) :: pend else pend) e' K
    else vs P n T o e fun e' => (∀ p ∈ pend, bif anc B p.1 i then True else qval P n T e' p.2.1 = p.2.2) ∧ vd P n T B (i + 1) l ((i, e.st) :: hist) pend e' K
def thenQ (K : Env → Prop) (Q : Exit → Env → Prop) : Exit → Env → Prop
  | .normal, e => K e
  | x, e => Q x e
def blockQ (id : Nat) (Q : Exit → Env → Prop) : Exit → Env → Prop
  | .exit i, e => if i = id then Q .normal e else Q (.exit i) e
  | x, e => Q x e
def vcond (v : AV) (A B : Prop) : Prop :=
  match v with
  | .bool t => (t = true → A) ∧ (t = false → B)
  | _ => False
/-- What is known at an exit. -/
def Post (C : Ctx) (sz : Nat) (Q : Exit → Env → Prop) : Exit → Act → World → Prop := fun x a W => ∃ e D β, Q x e ∧ St C sz e a W D β
/-- The machine follows. -/
def VW (P : Program) (n k : Nat) (T : List (Nat × Fsem)) (s : SCode) (Q : Exit → Env → Prop) (e : Env) : Prop :=
  ∀ (c : Code) (C : Ctx) (sz : Nat) (a : Act) (W : World) (D : Nat → Nat → Prop) (β : Nat → Option Nat), slim c = some s → okC T sz c = true → C.n ≠ 0 → C.n ≤ n → C.k ≤ k → St C sz e a W D β → c.wp P (Post C sz Q) a W
def vc (P : Program) (n k : Nat) (T : List (Nat × Fsem)) : SCode → (Exit → Env → Prop) → Env → Prop
  | .skip, Q, e => Q .normal e
  | .reg l, Q, e => vr P n T l e (Q .normal)
  | .draw l B, Q, e => vd P n T B 0 l [] [] e (Q .normal)
  | .seq a b, Q, e => vc P n k T a (thenQ (vc P n k T b Q) Q) e
  | .cond c a b, Q, e => e.argc c ∧ vcond (e.arg c) (vc P n k T a Q e) (vc P n k T b Q e)
  | .block id a, Q, e => vc P n k T a (blockQ id Q) e
  | .loop a, Q, e => VW P n k T (.loop a) Q e
  | .exit id, Q, e => Q (.exit id) e
  | .ret, Q, e => Q .ret e
section
variable {P : Program} {n k : Nat} {T : List (Nat × Fsem)}
theorem vs_vstep {ops : Array Oper} {o : Oper} {e : Env} {K : Env → Prop} (hg : (match o.guard with | some (j, _) => (opDst ops j).isSome | none => true) = true) : vs P n T (slimOp ops o) e K = vstep P n T ops o e K := by
  unfold vs vstep slimOp
  cases h : o.guard with
  | none => rfl
  | some x =>
    obtain ⟨j, want⟩ := x
    rw [h] at hg
    simp only [Option.map_some, vsg]
    have : bitOf (tv e.tm ((opDst ops j).getD 0)) want = gbit e ops j want := by
      unfold gbit bitOf
      cases ht : opDst ops j with
      | none => simp [ht] at hg
      | some t =>
        have : (ops[j]?).bind (·.dst) = some t := ht
        rw [this]
        rfl
    rw [this]
    cases gbit e ops j want <;> rfl
theorem vsF_vstepF {ops : Array Oper} {o : Oper} {e : Env} {K : Env → Prop} (hg : (match o.guard with | some (j, _) => (opDst ops j).isSome | none => true) = true) : vsF P n T (slimOp ops o) e K = vstepF P n T ops o e K := by
  have h0 := vs_vstep (P := P) (n := n) (T := T) (e := e) (K := K) hg
  unfold vsF vstepF
  obtain ⟨dst, op, ty, pos, after, guard⟩ := o
  cases guard with
  | none =>
    simp only [slimOp, Option.map_none] at h0 ⊢
    rw [h0]
    try rfl
  | some x => exact h0
theorem vr_vreg {ops : Array Oper} {K : Env → Prop} : ∀ {l : List Oper} {e : Env}, (∀ o ∈ l, (match o.guard with | some (j, _) => (opDst ops j).isSome | none => true) = true) → vr P n T (l.map (slimOp ops)) e K = vregF P n T ops l e K
  | [], e, _ => rfl
  | o :: l, e, h => by
    simp only [List.map_cons, vr, vregF]
    rw [vsF_vstepF (h o (List.mem_cons_self ..))]
    congr 1
    funext e'
    exact vr_vreg fun o ho => h o (List.mem_cons_of_mem _ ho)
theorem vd_vdr {ops : Array Oper} {B : List (List Nat)} {K : Env → Prop} : ∀ {l : List Oper} {i : Nat} {hist : List (Nat × List Root)} {pend : List (Nat × Op × Option OpR)} {e : Env}, (∀ o ∈ l, (match o.guard with | some (j, _) => (opDst ops j).isSome | none => true) = true) → vd P n T B i (l.map (slimOp ops)) hist pend e K = vdr P n T ops B i l hist pend e K
  | [], i, hist, pend, e, _ => rfl
  | o :: l, i, hist, pend, e, h => by
    have ih : ∀ i hist pend e, vd P n T B i (l.map (slimOp ops)) hist pend e K = vdr P n T ops B i l hist pend e K := fun i hist pend e => vd_vdr fun o ho => h o (List.mem_cons_of_mem _ ho)
    simp only [List.map_cons, vd, vdr, vs_vstep (h o (List.mem_cons_self ..)), ih]
    rfl
theorem okOps_dst {sz : Nat} {ops : Array Oper} (h : okOps sz ops = true) : ∀ (i : Nat) (o' : Oper) (d : Nat), ops[i]? = some o' → o'.dst = some d → d < sz := by
  intro i o d ho hd
  have := List.all_eq_true.1 h o (by simpa using Array.mem_of_getElem? ho)
  simp only [Bool.and_eq_true, hd] at this
  simpa using this.1
theorem okOps_guard {sz : Nat} {ops : Array Oper} (h : okOps sz ops = true) : ∀ o ∈ ops.toList, (match o.guard with | some (j, _) => (opDst ops j).isSome | none => true) = true := by
  intro o ho
  have := List.all_eq_true.1 h o ho
  simp only [Bool.and_eq_true] at this
  exact this.2
theorem slim_region {id : Nat} {ops : Array Oper} {draw : Bool} {s : SCode} (h : slim (.region id ops draw) = some s) : (draw = false ∧ s = .reg (ops.toList.map (slimOp ops))) ∨ (draw = true ∧ s = .draw (ops.toList.map (slimOp ops)) (befores ops.toList)) := by
  cases draw <;> simp only [slim, Option.some.injEq] at h
  · exact .inl ⟨rfl, h.symm⟩
  · exact .inr ⟨rfl, h.symm⟩
theorem vc_ok (hT : Table P T) (h2 : 2 ≤ n) (hm : P.follows .mixedOrders = true) : ∀ (s : SCode) (Q : Exit → Env → Prop) (e : Env), vc P n k T s Q e → VW P n k T s Q e := by
  intro s
  induction s with
  | loop a ih => exact fun Q e h => h
  | skip =>
    intro Q e h c C sz a W D β hs ho h0 hn hk hst
    cases c
    case region id ops draw =>
      rcases slim_region hs with ⟨rfl, e0⟩ | ⟨rfl, e0⟩
      · cases e0
      · cases e0
    all_goals simp only [slim] at hs
    all_goals try cases hs
    · exact wp_skip ⟨e, D, β, h, hst⟩
    · split at hs <;> cases hs
    · split at hs <;> cases hs
    · split at hs <;> cases hs
    · split at hs <;> cases hs
    · exact wp_label ⟨e, D, β, h, hst⟩
  | reg l =>
    intro Q e h c C sz a W D β hs ho h0 hn hk hst
    cases c
    case region id ops draw =>
      rcases slim_region hs with ⟨rfl, e0⟩ | ⟨rfl, e0⟩
      · injection e0 with e0
        subst e0
        simp only [okC] at ho
        simp only [vc] at h
        rw [vr_vreg (okOps_guard ho)] at h
        exact wp_region_list (vreg_ok h0 hn h2 hT (fun a W ⟨e', D', β', k1, k2⟩ => ⟨e', D', β', k1, k2⟩) (okOps_dst ho) ops.toList e a W D β (fun o hom d hd => by
          obtain ⟨i, hi⟩ := List.mem_iff_getElem?.1 hom
          exact okOps_dst ho i o d (by simpa using hi) hd) hst h)
      · cases e0
    all_goals simp only [slim] at hs
    all_goals try cases hs
    any_goals (split at hs <;> cases hs)
  | draw l B =>
    intro Q e h c C sz a W D β hs ho h0 hn hk hst
    cases c
    case region id ops draw =>
      rcases slim_region hs with ⟨rfl, e0⟩ | ⟨rfl, e0⟩
      · cases e0
      · injection e0 with e0 e1
        subst e0 e1
        simp only [okC, Bool.and_eq_true] at ho
        simp only [vc] at h
        rw [vd_vdr (okOps_guard ho.1)] at h
        exact wp_region_any hm (vdr_ok h0 hn h2 hT (fun a W ⟨e', D', β', k1, k2⟩ => ⟨e', D', β', k1, k2⟩) (okOps_dst ho.1) ho.2 hst.drew h)
    all_goals simp only [slim] at hs
    all_goals try cases hs
    any_goals (split at hs <;> cases hs)
  | seq x y ihx ihy =>
    intro Q e h c C sz a W D β hs ho h0 hn hk hst
    cases c
    case region id ops draw =>
      rcases slim_region hs with ⟨rfl, e0⟩ | ⟨rfl, e0⟩
      · cases e0
      · cases e0
    all_goals simp only [slim] at hs
    all_goals try cases hs
    any_goals (split at hs <;> cases hs)
    · rename_i h1 h2
      simp only [okC, Bool.and_eq_true] at ho
      simp only [vc] at h
      refine wp_seq (wp_mono (ihx _ _ h _ C sz a W D β h1 ho.1 h0 hn hk hst) ?_)
      rintro x a' W' ⟨e', D', β', k1, k2⟩
      cases x <;> try exact ⟨e', D', β', k1, k2⟩
      exact ihy _ _ k1 _ C sz a' W' D' β' h2 ho.2 h0 hn hk k2
  | cond x y z ihy ihz =>
    intro Q e h c C sz a W D β hs ho h0 hn hk hst
    cases c
    case region id ops draw =>
      rcases slim_region hs with ⟨rfl, e0⟩ | ⟨rfl, e0⟩
      · cases e0
      · cases e0
    all_goals simp only [slim] at hs
    all_goals try cases hs
    any_goals (split at hs <;> cases hs)
    · rename_i h1 h2
      simp only [okC, Bool.and_eq_true] at ho
      simp only [vc] at h
      obtain ⟨k1, k2⟩ := h
      have hc := hst.fine.arg k1
      unfold vcond at k2
      split at k2
      · rename_i t ht
        rw [ht] at hc
        exact wp_cond_split (rep_bool hc) (fun ht => ihy _ _ (k2.1 ht) _ C sz a W D β h1 ho.1 h0 hn hk hst) (fun ht => ihz _ _ (k2.2 ht) _ C sz a W D β h2 ho.2 h0 hn hk hst)
      · exact k2.elim
  | block id x ih =>
    intro Q e h c C sz a W D β hs ho h0 hn hk hst
    cases c
    case region id ops draw =>
      rcases slim_region hs with ⟨rfl, e0⟩ | ⟨rfl, e0⟩
      · cases e0
      · cases e0
    all_goals simp only [slim] at hs
    all_goals try cases hs
    any_goals (split at hs <;> cases hs)
    · rename_i h1
      simp only [okC] at ho
      simp only [vc] at h
      refine wp_block (wp_mono (ih _ _ h _ C sz a W D β h1 ho h0 hn hk hst) ?_)
      rintro x a' W' ⟨e', D', β', k1, k2⟩
      cases x <;> try exact ⟨e', D', β', k1, k2⟩
      rename_i i
      simp only [blockQ] at k1
      simp only [Exit.inBlock]
      split <;> rename_i hi
      · rw [if_pos hi] at k1; exact ⟨e', D', β', k1, k2⟩
      · rw [if_neg hi] at k1; exact ⟨e', D', β', k1, k2⟩
  | exit id =>
    intro Q e h c C sz a W D β hs ho h0 hn hk hst
    cases c
    case region id ops draw =>
      rcases slim_region hs with ⟨rfl, e0⟩ | ⟨rfl, e0⟩
      · cases e0
      · cases e0
    all_goals simp only [slim] at hs
    all_goals try cases hs
    any_goals (split at hs <;> cases hs)
    · exact wp_exit ⟨e, D, β, h, hst⟩
  | ret =>
    intro Q e h c C sz a W D β hs ho h0 hn hk hst
    cases c
    case region id ops draw =>
      rcases slim_region hs with ⟨rfl, e0⟩ | ⟨rfl, e0⟩
      · cases e0
      · cases e0
    all_goals simp only [slim] at hs
    all_goals try cases hs
    any_goals (split at hs <;> cases hs)
    · exact wp_ret ⟨e, D, β, h, hst⟩
end
end Go.Ve
namespace Go.Ve
open Go.RowKit
set_option linter.unusedVariables false
set_option linter.unusedSimpArgs false
def Sub (k : Nat) (e e' : Env) : Prop := ∀ (C : Ctx) (sz : Nat) (a : Act) (W : World) (D : Nat → Nat → Prop) (β : Nat → Option Nat), C.k ≤ k → St C sz e a W D β → ∃ D' β', St C sz e' a W D' β'
theorem Sub.refl (k : Nat) (e : Env) : Sub k e e := fun _ _ _ _ D β _ h => ⟨D, β, h⟩
theorem Sub.trans {k : Nat} {a b c : Env} (h : Sub k a b) (h' : Sub k b c) : Sub k a c := fun C sz A W D β hk hs =>
  let ⟨D', β', h1⟩ := h C sz A W D β hk hs; h' C sz A W D' β' hk h1
def AV.rnp2 (pos : Nat → Option Nat) : AV → AV
  | .agg cs => .agg (cs.map (AV.rnp1 pos))
  | x => x.rnp1 pos
def AV.rnp (pos : Nat → Option Nat) : AV → AV
  | .tup cs => .tup (cs.map (AV.rnp2 pos))
  | x => x.rnp2 pos
section
variable {W : World} {D D' : Nat → Nat → Prop} {β : Nat → Option Nat} {m : List Nat}
theorem rnp2_ok {v : Value} {x : AV} (hD : ∀ ρ b, D ρ b → D' ρ b) (h : Rep W D β v x) : Rep W D' (handβ β m) v (x.rnp2 (posOf m)) := by
  cases x
  case agg cs =>
    cases h with
    | data _ _ hd => cases hd
    | agg vs _ u hl hu ho hr =>
      refine .agg vs _ u (by simpa using hl) (fun i y hy => ?_) (fun i y hy => ?_) (fun i y hy => ?_)
      all_goals
        rw [List.getElem?_map, Option.map_eq_some_iff] at hy
        obtain ⟨c, hc1, rfl⟩ := hy
      · exact hu i c hc1
      · exact ho i c hc1
      · exact rnp1_ok hD (hr i c hc1)
  all_goals exact rnp1_ok hD h
theorem rnp_ok {v : Value} {x : AV} (hD : ∀ ρ b, D ρ b → D' ρ b) (h : Rep W D β v x) : Rep W D' (handβ β m) v (x.rnp (posOf m)) := by
  cases x
  case tup cs =>
    cases h with
    | data _ _ hd => cases hd
    | tup vs _ u hl hu hr =>
      refine .tup vs _ u (by simpa using hl) (fun i y hy => ?_) (fun i y hy => ?_)
      all_goals
        rw [List.getElem?_map, Option.map_eq_some_iff] at hy
        obtain ⟨c, hc1, rfl⟩ := hy
      · exact hu i c hc1
      · exact rnp2_ok hD (hr i c hc1)
  all_goals exact rnp2_ok hD h
theorem rnp2_names {x : AV} {q : Nat} (h : Names (x.rnp2 (posOf m)) q) : q < m.length := by
  by_cases hx : ∃ cs, x = .agg cs
  · obtain ⟨cs, rfl⟩ := hx
    cases h with
    | agg _ y _ hy hq => obtain ⟨c, _, rfl⟩ := List.mem_map.1 hy; exact rnp1_names hq
  · have e : x.rnp2 (posOf m) = x.rnp1 (posOf m) := by
      cases x <;> first | rfl | exact absurd ⟨_, rfl⟩ hx
    rw [e] at h
    exact rnp1_names h
theorem rnp_names {x : AV} {q : Nat} (h : Names (x.rnp (posOf m)) q) : q < m.length := by
  by_cases hx : ∃ cs, x = .tup cs
  · obtain ⟨cs, rfl⟩ := hx
    cases h with
    | tup _ y _ hy hq => obtain ⟨c, _, rfl⟩ := List.mem_map.1 hy; exact rnp2_names hq
  · have e : x.rnp (posOf m) = x.rnp2 (posOf m) := by
      cases x <;> first | rfl | exact absurd ⟨_, rfl⟩ hx
    rw [e] at h
    exact rnp2_names h
end
/-- Roots kept in the order of ρ, all others dropped; of the values those that are told. -/
def SubR (k : Nat) (ρ : List Nat) (e e' : Env) : Prop :=
  ρ.Nodup ∧ (∀ p < k, ρ[p]? = some p) ∧ (∀ r ∈ ρ, r < e.st.length) ∧ e'.st = rinOf e.st ρ ∧ ∀ p ∈ e'.tm, p.2 = (tv e.tm p.1).rnp (posOf ρ)
/-- The roots as they are; of the values those that are told. -/
def SubI (e e' : Env) : Prop := e'.st = e.st ∧ ∀ p ∈ e'.tm, p.2 = tv e.tm p.1
section
variable {C : Ctx} {sz : Nat} {a : Act} {W : World} {D : Nat → Nat → Prop} {β : Nat → Option Nat}
theorem tv_sub {l : List (Nat × AV)} (f : Nat → AV) (h : ∀ p ∈ l, p.2 = f p.1) (i : Nat) : tv l i = .undef ∨ tv l i = f i := by
  induction l with
  | nil => exact .inl rfl
  | cons p l ih =>
    obtain ⟨j, v⟩ := p
    simp only [tv]
    split
    · rename_i hj
      subst hj
      exact .inr (h _ (List.mem_cons_self ..))
    · exact ih fun q hq => h q (List.mem_cons_of_mem _ hq)
theorem SubI.sub {k : Nat} {e e' : Env} (h : SubI e e') : Sub k e e' := by
  intro C sz a W D β _ hs
  obtain ⟨tm', st'⟩ := e'
  obtain ⟨rfl, h2⟩ := h
  refine ⟨D, β, hs.mem, fun i => ?_, fun i q hq => ?_, hs.bx, hs.dd, hs.sz⟩
  · rcases tv_sub _ h2 i with h0 | h0 <;> simp only [h0]
    · exact .undef _
    · exact hs.tm i
  · rcases tv_sub _ h2 i with h0 | h0 <;> simp only [h0] at hq
    · cases hq
    · exact hs.nm i q hq
/-- The roots of an environment in the order of ρ. -/
theorem MemOk.rin {st : List Root} {ρ : List Nat} (h : MemOk C W D β st) (hn : ρ.Nodup) (hk : ∀ p < C.k, ρ[p]? = some p) (hl : ∀ r ∈ ρ, r < st.length) : MemOk C W D (handβ β ρ) (rinOf st ρ) := by
  have live : ∀ {q g}, Live (rinOf st ρ) q → handβ β ρ q = some g → ∃ p, ρ[q]? = some p ∧ Live st p ∧ β p = some g := by
    intro q g h1 h2
    obtain ⟨p, p1, p2⟩ := rinOf_live h1
    exact ⟨p, p1, p2, by simpa [handβ, p1] using h2⟩
  refine ⟨⟨fun q R hq => ?_, fun q q' g h1 h2 h3 h4 => ?_, fun q g ρ' h1 h2 => ?_⟩, h.os, h.tape, h.output, h.size, h.frame, h.keeps, h.dup, h.dfix, h.dnew, h.thaw, fun q g h1 h2 => ?_, h.lt, h.sep, fun r hr => ?_, ?_⟩
  · obtain ⟨p, hp, rfl⟩ := rinOf_get hq
    have hqb : handβ β ρ q = β p := by simp [handβ, hp]
    have hpl := hl p (List.mem_of_getElem? hp)
    rw [List.getD_eq_getElem?_getD, List.getElem?_eq_getElem hpl, Option.getD_some]
    have hR := h.store.root p _ (List.getElem?_eq_getElem hpl)
    generalize st[p] = R0 at hR
    cases R0 with
    | gone => trivial
    | row t w xs =>
      rcases hR with ⟨k1, k2⟩ | ⟨g, cur, k1, k2, k3⟩
      · exact .inl ⟨hqb.trans k1, k2⟩
      · exact .inr ⟨g, cur, hqb.trans k1, k2, k3⟩
    | mp kv =>
      obtain ⟨g, es, clk, k1, k2, k3, k4⟩ := hR
      exact ⟨g, es, clk, hqb.trans k1, k2, k3, k4⟩
    | box t cs =>
      obtain ⟨g, cur, k1, k2, k3, k4⟩ := hR
      refine ⟨g, cur, hqb.trans k1, k2, by simpa using k3, fun j y hy => ?_⟩
      rw [List.getElem?_map, Option.map_eq_some_iff] at hy
      obtain ⟨c, hc, rfl⟩ := hy
      obtain ⟨u, u1, u2, u3⟩ := k4 j c hc
      exact ⟨u, u1, u2, rnp1_ok (fun _ _ h => h) u3⟩
  · obtain ⟨p, p1, p2, p3⟩ := live h1 h3
    obtain ⟨p', p1', p2', p3'⟩ := live h2 h4
    have := h.store.inj p p' g p2 p2' p3 p3'
    subst this
    have := posOf_nodup hn p1
    rw [posOf_nodup hn p1'] at this
    injection this with this
    exact this.symm
  · obtain ⟨p, p1, p2, p3⟩ := live h1 h2
    exact h.store.far p g ρ' p2 p3
  · obtain ⟨p, p1, p2, p3⟩ := live h1 h2
    exact h.own p g p2 p3
  · simp only [handβ, hk r hr, Option.bind_some]
    exact h.hand r hr
  · simp only [rinOf, List.length_map]
    rcases Nat.lt_or_ge ρ.length C.k with h1 | h1
    · have := hk ρ.length h1
      simp at this
    · exact h1
theorem SubR.sub {k : Nat} {ρ : List Nat} {e e' : Env} (h : SubR k ρ e e') : Sub k e e' := by
  intro C sz a W D β hk hs
  obtain ⟨tm', st'⟩ := e'
  obtain ⟨h1, h2, h3, rfl, h5⟩ := h
  refine ⟨D, handβ β ρ, hs.mem.rin h1 (fun p hp => h2 p (Nat.lt_of_lt_of_le hp hk)) h3, fun i => ?_, fun i q hq => ?_, fun r t cs y q hr hy hq => ?_, hs.dd, hs.sz⟩
  · rcases tv_sub (fun i => (tv e.tm i).rnp (posOf ρ)) h5 i with h0 | h0 <;> simp only [h0]
    · exact .undef _
    · exact rnp_ok (fun _ _ h => h) (hs.tm i)
  · rcases tv_sub (fun i => (tv e.tm i).rnp (posOf ρ)) h5 i with h0 | h0 <;> simp only [h0] at hq
    · cases hq
    · simpa [rinOf] using rnp_names hq
  · obtain ⟨p, _, hR⟩ := rinOf_get hr
    generalize e.st.getD p .gone = R0 at hR
    cases R0 <;> simp [Root.rnp] at hR
    obtain ⟨_, rfl⟩ := hR
    obtain ⟨c, _, rfl⟩ := List.mem_map.1 hy
    simpa [rinOf] using rnp1_names hq
end
/-- A variable that is a nil slice becomes a row of its own, with nothing in it. -/
def vivT (e : Env) (x : Nat × Nat × Nat) : Env :=
  match tv e.tm x.1 with
  | .nils => ⟨(x.1, .osl e.st.length x.2.2 0 0) :: e.tm, e.st ++ [.row x.2.1 x.2.2 []]⟩
  | _ => e
def vivs (viv : List (Nat × Nat × Nat)) (e : Env) : Env := viv.foldl vivT e
theorem vivT_sub {k : Nat} (e : Env) (x : Nat × Nat × Nat) : Sub k e (vivT e x) := by
  intro C sz a W D β hk hs
  unfold vivT
  split
  · rename_i hx
    obtain ⟨β', h1, h2, h3⟩ := hs.virt x.2.1 x.2.2
    have hv : a.tmps.getD x.1 undef = .slice none 0 0 := rep_nils (by rw [← hx]; exact hs.tm x.1)
    refine ⟨D, β', h2.mem, fun i => ?_, fun i q hq => ?_, h2.bx, h2.dd, h2.sz⟩
    · simp only [tv]
      split
      · rename_i hi; subst hi; rw [hv]; exact h3
      · exact h2.tm i
    · simp only [tv] at hq
      split at hq
      · cases hq; simp
      · exact h2.nm i q hq
  · exact ⟨D, β, hs⟩
theorem vivs_sub {k : Nat} : ∀ (viv : List (Nat × Nat × Nat)) (e : Env), Sub k e (vivs viv e)
  | [], e => Sub.refl k e
  | x :: viv, e => (vivT_sub e x).trans (vivs_sub viv _)
def rootOf : AV → Nat
  | .osl r _ _ _ => r
  | .ptr r _ _ _ => r
  | .map r => r
  | _ => 0
/-- Seen anew: nil slices become rows, the roots are those that the values of the temporaries in 'anch' name. -/
def SubE (k : Nat) (viv : List (Nat × Nat × Nat)) (anch : List Nat) (e e' : Env) : Prop := SubR k (anch.map fun t => rootOf (tv (vivs viv e).tm t)) (vivs viv e) e'
theorem SubE.sub {k : Nat} {viv : List (Nat × Nat × Nat)} {anch : List Nat} {e e' : Env} (h : SubE k viv anch e e') : Sub k e e' := (vivs_sub viv e).trans (SubR.sub h)
section
variable {P : Program} {n k : Nat} {T : List (Nat × Fsem)}
theorem least {p : Nat → Prop} (h : ∃ n, p n) : ∃ n, p n ∧ ∀ m, p m → n ≤ m := by
  obtain ⟨n, hn⟩ := h
  induction n using Nat.strongRecOn with
  | _ n ih =>
    by_cases hex : ∃ m, m < n ∧ p m
    · obtain ⟨m, h1, h2⟩ := hex
      exact ih m h1 h2
    · exact ⟨n, hn, fun m hm => Nat.le_of_not_lt fun hlt => hex ⟨m, hlt, hm⟩⟩
theorem VW_sub {s : SCode} {Q : Exit → Env → Prop} {e e' : Env} (h : Sub k e e') (hv : VW P n k T s Q e') : VW P n k T s Q e := by
  intro c C sz a W D β hs ho h0 hn hk hst
  obtain ⟨D', β', h'⟩ := h C sz a W D β hk hst
  exact hv c C sz a W D' β' hs ho h0 hn hk h'
/-- A loop: at its head the environment is that of a state; every round ends at a smaller one. -/
theorem VW_loop (hT : Table P T) (h2 : 2 ≤ n) (hm : P.follows .mixedOrders = true) {a : SCode} {Q : Exit → Env → Prop} {e : Env} {σ : Type} (I : σ → Env) (ok : σ → Prop) (μ : σ → Nat) (s0 : σ) (h0 : ok s0) (he : Sub k e (I s0))
    (L : σ → Env → Prop) (hL : ∀ s e', L s e' → ∃ s', μ s' < μ s ∧ ok s' ∧ Sub k e' (I s')) (step : ∀ s, ok s → vc P n k T a (thenQ (L s) Q) (I s)) : VW P n k T (.loop a) Q e := by
  refine VW_sub he ?_
  intro c C sz A W D β hs ho hn0 hn hk hst
  cases c
  case region id ops draw =>
    rcases slim_region hs with ⟨rfl, e0⟩ | ⟨rfl, e0⟩
    · cases e0
    · cases e0
  all_goals simp only [slim] at hs
  all_goals try cases hs
  any_goals (split at hs <;> cases hs)
  rename_i c _ hs
  simp only [okC] at ho
  let J : Act → World → Prop := fun A W => ∃ s D β, ok s ∧ St C sz (I s) A W D β
  let p : Act → World → Nat → Prop := fun A W m => ∃ s D β, ok s ∧ St C sz (I s) A W D β ∧ μ s = m
  have hp : ∀ A W, J A W → ∃ m, p A W m := fun A W ⟨s, D, β, h1, h2⟩ => ⟨μ s, s, D, β, h1, h2, rfl⟩
  classical
  let μ' : Act → World → Nat := fun A W => if h : J A W then Classical.choose (least (hp A W h)) else 0
  refine wp_loop J μ' ⟨s0, D, β, h0, hst⟩ fun A W hJ => ?_
  have hμ : μ' A W = Classical.choose (least (hp A W hJ)) := by simp only [μ']; rw [dif_pos hJ]
  obtain ⟨⟨s, D1, β1, k1, k2, k3⟩, _⟩ := Classical.choose_spec (least (hp A W hJ))
  refine wp_mono (vc_ok hT h2 hm a _ _ (step s k1) c C sz A W D1 β1 hs ho hn0 hn hk k2) ?_
  rintro x A' W' ⟨e', D2, β2, q1, q2⟩
  cases x <;> try exact ⟨e', D2, β2, q1, q2⟩
  obtain ⟨s', m1, m2, m3⟩ := hL s e' q1
  obtain ⟨D3, β3, q3⟩ := m3 C sz A' W' D2 β2 hk q2
  have hJ' : J A' W' := ⟨s', D3, β3, m2, q3⟩
  refine ⟨hJ', ?_⟩
  have hμ' : μ' A' W' = Classical.choose (least (hp A' W' hJ')) := by simp only [μ']; rw [dif_pos hJ']
  have hle := (Classical.choose_spec (least (hp A' W' hJ'))).2 (μ s') ⟨s', D3, β3, m2, q3, rfl⟩
  rw [hμ, hμ', ← k3]
  exact Nat.lt_of_le_of_lt hle m1
end
end Go.Ve
