/-
  ABS, part 8: a function's contract out of its code; calls; numbers; places.
-/
import Derived.Test.YtghjdkbmjjalmaaAbsRules
namespace Go.Abs
open Go

/-- What reads as the one reads as the other. -/
def Wk (p q : PV) : Prop := ∀ g v, Rep g p v → Rep g q v
theorem Wk.refl (p : PV) : Wk p p := fun _ _ h => h
theorem Wk.own (id : Nat) (rows : List (List PV)) : Wk (.own id rows) (.seq rows) := fun g v h => by
  simp only [Rep] at h ⊢
  obtain ⟨b, cap, sz, h1, h2, h3, h4⟩ := h
  rcases h4 with ⟨h4, a, rfl⟩ | ⟨h4, rfl, h5⟩
  · have : rows.length = 0 := by omega
    have hr : rows = [] := List.length_eq_zero_iff.1 this
    subst hr
    exact ⟨a, 0, rfl, by simp, by simp, .inl rfl⟩
  · exact ⟨_, cap, rfl, h2, h3, .inr ⟨b, 0, sz, rfl, h5⟩⟩
theorem Wk.nil : Wk (.val (.slice none 0 0)) (.seq []) := fun g v h => by
  have := rep_val h; subst this
  simp only [Rep]
  exact ⟨none, 0, rfl, by simp, by simp, .inl (by simp)⟩
theorem Wk.trans {p q r : PV} (h : Wk p q) (k : Wk q r) : Wk p r := fun g v e => k g v (h g v e)

inductive WkL : List PV → List PV → Prop
  | nil : WkL [] []
  | cons {p q : PV} {ps qs : List PV} (h : Wk p q) (k : WkL ps qs) : WkL (p :: ps) (q :: qs)
theorem WkL.rep {g : G} {ps qs : List PV} (h : WkL ps qs) : ∀ {vs : List Value}, RepL g ps vs → RepL g qs vs := by
  induction h with
  | nil => exact fun h => h
  | cons h _ ih =>
    intro vs e
    simp only [RepL] at e ⊢
    obtain ⟨v, vs', rfl, e1, e2⟩ := e
    exact ⟨v, vs', rfl, h _ _ e1, ih e2⟩
theorem WkL.refl : ∀ (ps : List PV), WkL ps ps
  | [] => .nil
  | p :: ps => .cons (Wk.refl p) (WkL.refl ps)
theorem Wk.agg {ps qs : List PV} (h : WkL ps qs) : Wk (.agg ps) (.agg qs) := fun g v e => by
  simp only [Rep] at e ⊢
  obtain ⟨vs, e1, e2⟩ := e
  exact ⟨vs, e1, h.rep e2⟩
theorem Wk.tup {ps qs : List PV} (h : WkL ps qs) : Wk (.tup ps) (.tup qs) := fun g v e => by
  simp only [Rep] at e ⊢
  obtain ⟨vs, e1, e2⟩ := e
  exact ⟨vs, e1, h.rep e2⟩

def initArgs : Nat → List PV → St → St
  | _, [], s => s
  | i, p :: ps, s => initArgs (i + 1) ps (s.pv i p)

def resPV (tt : TT) (s : St) : ResultVar → Option PV
  | .tmp t => match s.env t with
    | (true, .pv p) => some p
    | _ => none
  | .cell t T => match s.env t with
    | (true, .adr u off) => match s.L u with
      | some (_, cs) => pload tt T cs off
      | none => none
    | _ => none
def resPVs (tt : TT) (s : St) : List ResultVar → Option (List PV)
  | [] => some []
  | x :: xs => match resPV tt s x, resPVs tt s xs with
    | some p, some ps => some (p :: ps)
    | _, _ => none
def resP (tt : TT) (s : St) (xs : List ResultVar) : Option PV :=
  match resPVs tt s xs with
  | some [p] => some p
  | some ps => some (.tup ps)
  | none => none

/-- What a function's end must meet. -/
def retQ (tt : TT) (xs : List ResultVar) (R : PV → Store → Prop) : Exit → St → Prop
  | .normal, s | .ret, s => ∃ p q st2, resP tt s xs = some p ∧ Wk p q ∧ StSub st2 s.st ∧ R q st2
  | _, _ => False

section
variable {P : Program} {tt : TT}

def resVal (tmps : Array Value) : ResultVar → Sem Value
  | .tmp t => pure (tmps.getD t undef)
  | .cell u T => do loadVar T (← asAddr (tmps.getD u undef))

theorem results_eq (fn : Func) (tmps : Array Value) : results fn tmps = (fn.results.mapM (resVal tmps) >>= fun vs => pure (if h : vs.size = 1 then vs[0] else .tuple vs)) := by
  unfold results
  have : (resVal tmps) = (fun | .tmp t => pure (tmps.getD t undef) | .cell a t => do loadVar t (← asAddr (tmps.getD a undef))) := by
    funext x; cases x <;> rfl
  rw [this]
  rfl

theorem resPV_ok (htt : TTOK P tt) {c : Ctx} {s : St} {a : Act} {w : World} {g : G} {lam : Nat → Nat} (hs : SI P c s a w g lam) {x : ResultVar} {p : PV} (h : resPV tt s x = some p) :
    ∃ v, (resVal a.tmps x).run P w = .ok v w ∧ Rep g p v := by
  cases x with
  | tmp t =>
    simp only [resPV] at h
    split at h
    · rename_i q hq
      injection h with h; subst h
      have := hs.env t
      rw [hq] at this
      exact ⟨_, rfl, this⟩
    · cases h
  | cell u T =>
    simp only [resPV] at h
    split at h
    · rename_i t off hq
      split at h
      · rename_i T' cs hL
        have he := hs.env u
        rw [hq] at he
        have he' : a.tmps.getD u undef = .pointer (some ⟨lam t, off, none⟩) := he
        obtain ⟨vs, k1, k2, -⟩ := hs.box t T' cs hL
        rw [hs.mem.heap] at k1
        unfold pload at h
        split at h
        · rename_i n ha hn
          cases hb : Nat.ble (off + n) cs.length with
          | false => rw [hb] at h; simp at h
          | true =>
            rw [hb] at h
            simp only [cond_true, forceL_eq] at h
            injection h with h; subst h
            have hc := Nat.le_of_ble_eq_true hb
            have hr := (k2.drop off).take n
            have hlen := k2.length
            have hl2 : ((vs.toList.drop off).take n).length = n := by simp at hlen ⊢; omega
            have hrun0 := run_loadCells_list (P := P) (w := w) ⟨lam t, off, none⟩ ((vs.toList.drop off).take n) (fun j v hj => by
              have hj2 : j < n := by
                have : j < ((vs.toList.drop off).take n).length := by
                  rcases Nat.lt_or_ge j ((vs.toList.drop off).take n).length with h | h
                  · exact h
                  · rw [List.getElem?_eq_none h] at hj; cases hj
                omega
              rw [addr_add, cell_of_heap k1]
              simpa [List.getElem?_take, hj2, List.getElem?_drop] using hj)
            rw [hl2] at hrun0
            refine ⟨.agg ((vs.toList.drop off).take n).toArray, ?_, by simp only [Rep]; exact ⟨_, rfl, hr⟩⟩
            simp only [resVal, he', asAddr, Sem.run_bind, Sem.run_pure, Result.andThen_ok]
            simp [loadVar, run_isAgg (tiAgg_ok htt ha).1 (tiAgg_ok htt ha).2, run_sizeOf (tiSize_ok htt hn).1, hrun0]
        · rename_i n ha hn
          obtain ⟨v, e1, e2⟩ := k2.get h
          refine ⟨v, ?_, e2⟩
          have hcell : w.cell? ⟨lam t, off, none⟩ = some v := by rw [cell_of_heap k1]; simpa using e1
          simp only [resVal, he', asAddr, Sem.run_bind, Sem.run_pure, Result.andThen_ok]
          simp [loadVar, run_isAgg (tiAgg_ok htt ha).1 (tiAgg_ok htt ha).2, hcell]
        · cases h
      · cases h
    · cases h

theorem resPVs_ok (htt : TTOK P tt) {c : Ctx} {s : St} {a : Act} {w : World} {g : G} {lam : Nat → Nat} (hs : SI P c s a w g lam) : ∀ {xs : List ResultVar} {ps : List PV}, resPVs tt s xs = some ps →
    ∃ vs, (xs.mapM (resVal a.tmps)).run P w = .ok vs w ∧ RepL g ps vs
  | [], ps, h => by simp [resPVs] at h; subst h; exact ⟨[], by simp, by simp [RepL]⟩
  | x :: xs, ps, h => by
    simp only [resPVs] at h
    split at h
    · rename_i p ps' hp hps
      injection h with h; subst h
      obtain ⟨v, h1, h2⟩ := resPV_ok htt hs hp
      obtain ⟨vs, h3, h4⟩ := resPVs_ok htt hs hps
      refine ⟨v :: vs, ?_, by simp only [RepL]; exact ⟨v, vs, rfl, h2, h4⟩⟩
      rw [List.mapM_cons]
      simp only [Sem.run_bind, Sem.run_pure, h1, h3, Result.andThen_ok]
    · cases h

theorem res_ok (htt : TTOK P tt) {c : Ctx} {s : St} {a : Act} {w : World} {g : G} {lam : Nat → Nat} (hs : SI P c s a w g lam) {fn : Func} {p : PV} (h : resP tt s fn.results.toList = some p) :
    ∃ v, (results fn a.tmps).run P w = .ok v w ∧ Rep g p v := by
  unfold resP at h
  have key : ∀ ps, resPVs tt s fn.results.toList = some ps → ∃ vs, RepL g ps vs ∧ (results fn a.tmps).run P w = .ok (if h : vs.length = 1 then vs[0] else .tuple vs.toArray) w := by
    intro ps hps
    obtain ⟨vs, h1, h2⟩ := resPVs_ok htt hs hps
    refine ⟨vs, h2, ?_⟩
    rw [results_eq, Array.mapM_eq_mapM_toList]
    simp only [Sem.run_bind, Sem.run_map, Result.andThen_ok, h1, Sem.run_pure]
    rfl
  split at h
  · rename_i q hq
    injection h with h; subst h
    obtain ⟨vs, h2, h3⟩ := key _ hq
    obtain ⟨v, rfl, h4⟩ := repL_one h2
    exact ⟨v, by simpa using h3, h4⟩
  · rename_i ps hne hps
    injection h with h; subst h
    obtain ⟨vs, h2, h3⟩ := key _ hps
    have hl : vs.length ≠ 1 := by
      intro e
      have := h2.length
      rw [e] at this
      match ps, this with
      | [q], _ => exact hne q rfl
    rw [dif_neg hl] at h3
    exact ⟨_, h3, by simp only [Rep]; exact ⟨vs, rfl, h2⟩⟩
  · cases h

theorem initArgs_get : ∀ (ps : List PV) (i : Nat) (s : St) (t : Nat), (initArgs i ps s).env t = match ps[t - i]? with | some p => if i ≤ t then (true, .pv p) else s.env t | none => s.env t
  | [], i, s, t => by simp [initArgs]
  | p :: ps, i, s, t => by
    simp only [initArgs]
    rw [initArgs_get ps (i + 1) (s.pv i p) t]
    have he : (s.pv i p).env t = if t = i then (true, .pv p) else s.env t := by
      show upd s.env i _ t = _
      by_cases h : t = i
      · subst h; rw [upd_same, if_pos rfl]
      · rw [upd_ne h, if_neg h]
    rw [he]
    by_cases h1 : t = i
    · subst h1
      simp only [if_true, Nat.sub_self, List.getElem?_cons_zero, Nat.le_refl]
      cases ps[t - (t + 1)]? with
      | none => rfl
      | some q => simp only; rw [if_neg (by omega)]
    · by_cases h2 : i ≤ t
      · have : t - i = (t - (i + 1)) + 1 := by omega
        rw [this]
        simp only [List.getElem?_cons_succ, if_neg h1]
        cases ps[t - (i + 1)]? with
        | none => rfl
        | some q => simp only; rw [if_pos (by omega), if_pos h2]
      · have : t - i = 0 := by omega
        rw [this]
        simp only [List.getElem?_cons_zero, if_neg h1]
        cases ps[t - (i + 1)]? with
        | none => simp [h2]
        | some q => simp only; rw [if_neg (by omega), if_neg h2]

theorem initArgs_rest : ∀ (ps : List PV) (i : Nat) (s : St), (initArgs i ps s).L = s.L ∧ (initArgs i ps s).ad = s.ad ∧ (initArgs i ps s).st = s.st ∧ (initArgs i ps s).n = s.n
  | [], _, _ => ⟨rfl, rfl, rfl, rfl⟩
  | p :: ps, i, s => initArgs_rest ps (i + 1) (s.pv i p)

/-- A contract out of the code. -/
theorem pc_of (htt : TTOK P tt) {f : FuncId} {fn : Func} {cd : Code} {args : List PV} {st : Store} {R : PV → Store → Prop} {n : Nat} {xs : List ResultVar} (hf : P.funcs[f]? = some fn) (hc : CallOK P f = true) (hb : fn.body = some cd) (hn : fn.ntmps = n) (hx : fn.results.toList = xs)
    (hle : Nat.ble args.length n = true) (h : PWp P cd (retQ tt xs R) (initArgs 0 args (St.nil n st))) : PC P f args st R := by
  refine ⟨hc, fun w g vs hm hr => ?_⟩
  have hle := Nat.le_of_ble_eq_true hle
  have hlen := hr.length
  refine calls_of_wp hf hb ?_
  obtain ⟨i1, i2, i3, i4⟩ := initArgs_rest args 0 (St.nil n st)
  have hsi : SI P ⟨w, g, Blocks st g⟩ (initArgs 0 args (St.nil n st)) { tmps := vs.toArray ++ Array.replicate (fn.ntmps - vs.toArray.size) undef, defers := [] } w g (fun _ => 0) := {
    mem := by rw [i3]; exact hm
    le := Le.refl g
    frame := Frame.refl _ w g
    blk := fun b h => by rw [i3] at h; exact .inl h
    env := fun t => by
      rw [initArgs_get]
      simp only [Nat.sub_zero, Nat.zero_le, if_true]
      cases hp : args[t]? with
      | none => simp [St.nil, EntOK, Rep]
      | some p =>
        obtain ⟨v, e1, e2⟩ := hr.get hp
        have hlt : t < vs.length := by
          rcases Nat.lt_or_ge t vs.length with h | h
          · exact h
          · rw [List.getElem?_eq_none h] at e1; cases e1
        simp only [EntOK]
        have : (vs.toArray ++ Array.replicate (fn.ntmps - vs.toArray.size) undef)[t]? = some v := by
          rw [Array.getElem?_append_left (by simpa using hlt)]; simpa using e1
        simp only [Array.getD_eq_getD_getElem?, this]
        exact e2
    box := fun t T cs e => by rw [i1] at e; cases e
    inj := fun t t' e => by rw [i1] at e; exact absurd rfl e
    ad := fun t b u off e => by
      rw [initArgs_get] at e
      simp only [Nat.sub_zero, Nat.zero_le, if_true] at e
      cases hp : args[t]? <;> rw [hp] at e <;> cases e
    adL := fun t e => by rw [i1] at e; exact absurd rfl e
    defers := rfl
    n := by rw [i4]; simp [St.nil]; omega }
  refine wp_mono (h _ _ _ _ _ hsi) ?_
  rintro e a' w' ⟨s', g', lam', hq, hs'⟩
  have fin : (∃ p q st2, resP tt s' xs = some p ∧ Wk p q ∧ StSub st2 s'.st ∧ R q st2) → a'.defers = [] ∧ ∃ v, (results fn a'.tmps).run P w' = .ok v w' ∧
      ∃ v' r st' g'', Ending.returned v = Ending.returned v' ∧ R r st' ∧ Rep g'' r v' ∧ MemOK P st' w' g'' ∧ Le g g'' ∧ Frame (Blocks st g) w g w' g'' ∧ ∀ b, Blocks st' g'' b → Blocks st g b ∨ w.heap.size ≤ b := by
    rintro ⟨p, q, st2, h1, h2, h3, h4⟩
    rw [← hx] at h1
    obtain ⟨v, r1, r2⟩ := res_ok htt hs' h1
    exact ⟨hs'.defers, v, r1, v, q, st2, g', rfl, h4, h2 _ _ r2, hs'.mem.sub h3, hs'.le, hs'.frame, fun b hb => hs'.blk b (hb.sub h3)⟩
  cases e with
  | normal => exact fin hq
  | ret => exact fin hq
  | _ => exact hq.elim

theorem pf_of (htt : TTOK P tt) {f : FuncId} {fn : Func} {cd : Code} {args : List PV} {r : PV} {n : Nat} {xs : List ResultVar} (hf : P.funcs[f]? = some fn) (hc : CallOK P f = true) (hb : fn.body = some cd) (hn : fn.ntmps = n) (hx : fn.results.toList = xs)
    (hle : Nat.ble args.length n = true) (h : ∀ st, PWp P cd (retQ tt xs fun r' st' => r' = r ∧ st' = st) (initArgs 0 args (St.nil n st))) : PF P f args r :=
  fun st => pc_of htt hf hc hb hn hx hle (h st)

/-! ### Calls -/
theorem run_call {P : Program} {w : World} {ρ : Operand → Value} {o : Oper} {f : Operand} {args : Array Operand} {ts : Array TypeId} {fid : FuncId} {caps : Array Value} (ho : o.op = .call ⟨.value f, args, ts⟩) (hf : ρ f = .func (.func fid) #[] caps) (hc : CallOK P fid = true) :
    (execOp ρ o).run P w = .ok (.enter fid (args.map ρ ++ caps)) w := by
  unfold CallOK at hc
  split at hc
  · rename_i fn hfn
    rw [Bool.and_eq_true] at hc
    have h1 : (fn.name == "runtime.NumGoroutine") = false := by simpa using hc.1
    have h2 : fn.body.isNone = false := by cases hb : fn.body <;> simp_all
    simp only [execOp, ho, resolve, hf, Deferred.ofValue, Sem.run_bind, Sem.run_pure, Result.andThen_ok, invoke, callFunc, run_program, hfn, h1, h2, Bool.false_eq_true, if_false]
    simp
  · cases hc

theorem opv_call {o : Oper} {s : St} {f : Operand} {args : Array Operand} {ts : Array TypeId} {fid : FuncId} {caps ps : List PV} {p : PV} (ho : o.op = .call ⟨.value f, args, ts⟩) (hf : opd s f = some (.fn fid caps)) (hps : opdL s args.toList = some ps) {qs : List PV} (hw : WkL ps qs) (h : PF P fid (qs ++ caps) p) : OpV P o s p := by
  intro w g ρ hm hρ
  have rf := hρ f (by rw [ho]; simp [Op.operands, Call.operands]) _ hf
  have ra := opdL_rep hps (g := g) (ρ := ρ) (fun x hx => hρ x (by rw [ho]; simp [Op.operands, Call.operands]; exact .inr (by simpa using hx)))
  simp only [Rep] at rf
  obtain ⟨vs, e, rf⟩ := rf
  obtain ⟨hc, hcall⟩ := h s.st
  rw [run_call ho e hc]
  simp only [OpRes]
  have := hcall w g (args.toList.map ρ ++ vs) hm ((hw.rep ra).append rf)
  rw [show (args.map ρ ++ vs.toArray) = (args.toList.map ρ ++ vs).toArray from by apply Array.toList_inj.1; simp]
  refine this.mono ?_
  rintro e' w' ⟨v, r, st', g', rfl, ⟨rfl, rfl⟩, h3, h4, h5, h6, h7⟩
  exact ⟨v, rfl, g', h3, h4, h5, h6⟩

section
variable {l : List Oper} {d : Bool} {r : List Oper} {s : St} {K : St → Prop} {t : Nat} {op : Op} {ty : TypeId} {pos : String} {after : Array Edge} {gd : Option (Nat × Bool)}

theorem ev_call {f : Operand} {args : Array Operand} {ts : Array TypeId} {fid : FuncId} {caps ps : List PV} {p : PV} (hf : opd s f = some (.fn fid caps)) (hps : opdL s args.toList = some ps) (h : PF P fid (ps ++ caps) p) (hfl : flagsB s (f :: args.toList) = true) (hd : Nat.blt t s.n = true)
    (k : Ev P l d r (s.pv t p) K) : Ev P l d (⟨some t, .call ⟨.value f, args, ts⟩, ty, pos, after, none⟩ :: r) s K :=
  ev_opv (opv_call rfl hf hps (WkL.refl ps) h) (fun x hx => opl_mem (fun _ _ _ e => by cases e) hx) hfl hd k

/-- The same with arguments that read as others. -/
theorem ev_callw {f : Operand} {args : Array Operand} {ts : Array TypeId} {fid : FuncId} {caps ps : List PV} (qs : List PV) {p : PV} (hf : opd s f = some (.fn fid caps)) (hps : opdL s args.toList = some ps) (hw : WkL ps qs) (h : PF P fid (qs ++ caps) p) (hfl : flagsB s (f :: args.toList) = true) (hd : Nat.blt t s.n = true)
    (k : Ev P l d r (s.pv t p) K) : Ev P l d (⟨some t, .call ⟨.value f, args, ts⟩, ty, pos, after, none⟩ :: r) s K :=
  ev_opv (opv_call rfl hf hps hw h) (fun x hx => opl_mem (fun _ _ _ e => by cases e) hx) hfl hd k

theorem ev_callg {f : Operand} {args : Array Operand} {ts : Array TypeId} {fid : FuncId} {caps ps : List PV} {w : Bool} {p : PV} (hw : wantA l ⟨some t, .call ⟨.value f, args, ts⟩, ty, pos, after, gd⟩ s = some w) (hf : opd s f = some (.fn fid caps)) (hps : opdL s args.toList = some ps) (h : w = true → PF P fid (ps ++ caps) p) (hfl : flagsG s w (f :: args.toList)) (hd : Nat.blt t s.n = true)
    (k : Ev P l d r (s.put (some t) w (.pv p)) K) : Ev P l d (⟨some t, .call ⟨.value f, args, ts⟩, ty, pos, after, gd⟩ :: r) s K :=
  ev_opvg hw (fun hw' => opv_call rfl hf hps (WkL.refl ps) (h hw')) (fun x hx => opl_mem (fun _ _ _ e => by cases e) hx) hfl hd k
end
end
end Go.Abs
