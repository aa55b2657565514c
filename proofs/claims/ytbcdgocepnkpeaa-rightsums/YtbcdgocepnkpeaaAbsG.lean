import Derived.Test.YtbcdgocepnkpeaaAbsE
set_option linter.unusedSimpArgs false
set_option linter.unusedVariables false
namespace Go.Abs
open Go
section
variable {P : Program} {tt : TT}
theorem mem_new {st : Store} {w : World} {g : G} (hm : MemOK P st w g) (o : Obj) (o' : AObj) (ho : ∀ g' id, Le g g' → g'.heap = (w.alloc o).heap → g'.io id = some (w.heap.size, 0, 1) → g'.heap[w.heap.size]? = some o → (∀ b, b < w.heap.size → g'.heap[b]? = w.heap[b]?) → g'.fr w.heap.size = 0 → ¬ g'.fm w.heap.size → ObjOK P g' id o') :
    ∃ id g', g.io id = none ∧ st id = none ∧ g'.io id = some (w.heap.size, 0, 1) ∧ MemOK P (upd st id (some o')) (w.alloc o) g' ∧ Le g g' ∧ Frame (Blocks st g) w g (w.alloc o) g' ∧ ∀ b', Blocks (upd st id (some o')) g' b' → Blocks st g b' ∨ w.heap.size ≤ b' := by
  obtain ⟨id, f1, f2⟩ := fresh_id hm
  obtain ⟨m1, m2, m3⟩ := mem_push hm o
  let g' : G := { g with heap := (w.alloc o).heap, io := upd g.io id (some (w.heap.size, 0, 1)) }
  have hle : Le g g' := ⟨io_upd f1, m2.fr, m2.cell, m2.fm⟩
  have hnb : (w.alloc o).heap[w.heap.size]? = some o := by show (w.heap.push _)[_]? = _; simp
  have hfm : ¬ g.fm w.heap.size := fun h => by
    obtain ⟨en, cl, e, _⟩ := hm.fmm _ h
    have := heap_lt e; omega
  have hfr : g.fr w.heap.size = 0 := by
    rcases Nat.eq_zero_or_pos (g.fr w.heap.size) with h | h
    · exact h
    · have := hm.lt w.heap.size (by omega); omega
  have hmem := mem_swap (w' := w.alloc o) (g' := g') (id := id) (b' := w.heap.size) (n' := 0) (cap' := 1) (o' := o') hm f1 rfl rfl (fun _ => .inr rfl) (fun b hb _ => (m3.old b hb (fun h => h)).1) (fun _ _ => rfl) rfl (fun _ => hfm) m3.size (fun _ => heap_lt hnb) hle
    (ho g' id hle rfl (upd_same _ _ _) hnb (fun b hb => (m3.old b hb (fun h => h)).1) hfr hfm)
  have e1 : upd (upd st id none) id (some o') = upd st id (some o') := by
    funext j
    by_cases h : j = id
    · rw [h, upd_same, upd_same]
    · rw [upd_ne h, upd_ne h, upd_ne h]
  rw [e1] at hmem
  refine ⟨id, g', f1, f2, upd_same _ _ _, hmem, hle, ⟨m3.os, m3.tape, m3.output, m3.size, fun b hb hn => ⟨(m3.old b hb (fun h => h)).1, rfl, Iff.rfl⟩⟩, fun b' ⟨j, j1, j2⟩ => ?_⟩
  by_cases h : j = id
  · subst h
    right
    simp [Go.Abs.blk, g', upd_same] at j2
    omega
  · rw [upd_ne h] at j1
    refine .inl ⟨j, j1, ?_⟩
    unfold Go.Abs.blk at j2 ⊢
    rwa [show g'.io j = g.io j from upd_ne h] at j2
theorem opz_range {t : Nat} {ty : TypeId} {pos : String} {after : Array Edge} {s : St} {T kt e : TypeId} {x : Operand} {es : List (Value × PV)} (htt : TTOK P tt) (hx : opd s x = some (.fmap es)) (hT : tiK tt T = some (.map kt e)) :
    OpZ P ⟨some t, .range T x, ty, pos, after, none⟩ s fun z => ∃ id, s.st id = none ∧ z = (upd s.st id (some (.iter none es)), .ref id 0) := by
  intro w g ρ hm hρ
  have rx := hρ x (by simp [Op.operands]) _ hx
  simp only [Rep] at rx
  obtain ⟨bm, ents, clock, hxv, h2, h3, h4⟩ := rx
  rw [hm.heap] at h3
  have hu := tk_map (tiK_ok htt hT).1
  have hrun : (execOp ρ (⟨some t, .range T x, ty, pos, after, none⟩ : Oper)).run P w = .ok (.value (.pointer (some ⟨w.heap.size, 0, none⟩))) (w.alloc (.mapIter (some bm) clock #[] clock)) := by
    simp [execOp, Instr.range, run_underlying hu, hxv, MapKept.run_getObj_map h3]
  rw [hrun]
  have hlt := heap_lt h3
  obtain ⟨ents0, clock0, e0, hst0⟩ := hm.fmm bm h2
  rw [h3] at e0; injection e0 with e0; injection e0 with e1 e2; subst e1; subst e2
  obtain ⟨id, g', f1, f2, f3, q1, q2, q3, q4⟩ := mem_new hm (.mapIter (some bm) clock #[] clock) (.iter none es) (fun g' id hle hh hio hb hold _ _ => by
    simp only [ObjOK]
    refine ⟨w.heap.size, 0, 1, bm, ents, clock, #[], hio, by omega, hb, (hle.fm bm h2).1, (hold bm hlt).trans h3, hst0, ?_, fun k p e => by cases e⟩
    have : (ents.toList.filter fun e => !(#[] : Array Nat).contains e.born) = ents.toList := by simp
    rw [this]
    exact RepE.mono hle _ _ h4)
  exact ⟨g', _, ⟨id, f2, rfl⟩, by simp only [Rep]; exact ⟨w.heap.size, 0, 1, f3, rfl⟩, q1, q2, q3, q4⟩
theorem RepE.get {g : G} : ∀ {es : List (Value × PV)} {ms : List MapEntry} {j : Nat} {m : MapEntry}, RepE g es ms → ms[j]? = some m → ∃ k p, es[j]? = some (k, p) ∧ m.key = k ∧ Rep g p m.val
  | [], ms, j, m, h, hj => by simp only [RepE] at h; subst h; simp at hj
  | (k, p) :: es, ms, j, m, h, hj => by
    simp only [RepE] at h
    obtain ⟨m0, ms', rfl, h1, h2, h3⟩ := h
    cases j with
    | zero => simp at hj; subst hj; exact ⟨k, p, rfl, h1, h2⟩
    | succ j => simp at hj; simpa using RepE.get h3 hj
theorem RepE.len {g : G} : ∀ {es : List (Value × PV)} {ms : List MapEntry}, RepE g es ms → ms.length = es.length
  | [], ms, h => by simp only [RepE] at h; subst h; rfl
  | (k, p) :: es, ms, h => by
    simp only [RepE] at h
    obtain ⟨m0, ms', rfl, h1, h2, h3⟩ := h
    simp [RepE.len h3]
theorem RepE.erase {g : G} : ∀ {es : List (Value × PV)} {ms : List MapEntry} (j : Nat), RepE g es ms → RepE g (es.eraseIdx j) (ms.eraseIdx j)
  | [], ms, j, h => by simp only [RepE] at h; subst h; simp [RepE]
  | (k, p) :: es, ms, j, h => by
    simp only [RepE] at h
    obtain ⟨m0, ms', rfl, h1, h2, h3⟩ := h
    cases j with
    | zero => simpa using h3
    | succ j => simp only [List.eraseIdx_cons_succ, RepE]; exact ⟨m0, _, rfl, h1, h2, RepE.erase j h3⟩
theorem filter_ne_erase {α : Type} (f : α → Nat) : ∀ {l : List α} {j : Nat} {x : α}, (l.map f).Nodup → l[j]? = some x → l.filter (fun y => decide (f y ≠ f x)) = l.eraseIdx j
  | [], j, x, _, h => by simp at h
  | y :: l, 0, x, hn, h => by
    simp at h; subst h
    simp only [List.map_cons, List.nodup_cons] at hn
    rw [List.filter_cons_of_neg (by simp), List.eraseIdx_cons_zero]
    exact List.filter_eq_self.2 fun z hz => by
      simp only [ne_eq, decide_eq_true_eq]
      intro e; exact hn.1 (List.mem_map.2 ⟨z, hz, e⟩)
  | y :: l, j + 1, x, hn, h => by
    simp at h
    simp only [List.map_cons, List.nodup_cons] at hn
    have hne : f y ≠ f x := fun e => hn.1 (List.mem_map.2 ⟨x, List.mem_of_getElem? h, e.symm⟩)
    rw [List.filter_cons_of_pos (by simpa using hne), List.eraseIdx_cons_succ, filter_ne_erase f hn.2 h]
theorem nodup_filter_map {α : Type} (f : α → Nat) (p : α → Bool) {l : List α} (h : (l.map f).Nodup) : ((l.filter p).map f).Nodup :=
  h.sublist (List.filter_sublist.map f)
theorem run_choose_lt (n : Nat) (h : 0 < n) (w : World) : ∃ j w1, (choose (.mapNext n)).run P w = .ok j w1 ∧ j < n ∧ (w1 = w ∨ w1 = { w with drawn := w.drawn + 1 }) := by
  rw [run_choose_drew]
  by_cases hf : Question.forced (.mapNext n) = true
  · rw [if_pos hf]; exact ⟨0, w, rfl, h, .inl rfl⟩
  · rw [if_neg hf]; exact ⟨_, _, rfl, Nat.mod_lt _ h, .inr rfl⟩
theorem opz_next {t : Nat} {ty : TypeId} {pos : String} {after : Array Edge} {s : St} {x : Operand} {id : Nat} {cur : Option (Value × PV)} {left : List (Value × PV)} (hx : opd s x = some (.ref id 0)) (hst : s.st id = some (.iter cur left)) :
    OpZ P ⟨some t, .next x false, ty, pos, after, none⟩ s fun z => (left = [] ∧ z = (s.st, .tup [.val (.bool false)])) ∨ ∃ i e, left[i]? = some e ∧ z = (upd s.st id (some (.iter (some e) (left.eraseIdx i))), .tup [.val (.bool true), .und, .und]) := by
  intro w g ρ hm hρ
  have rx := hρ x (by simp [Op.operands]) _ hx
  simp only [Rep] at rx
  obtain ⟨b, n, cap, hio, hxv⟩ := rx
  have hob := hm.obj id _ hst
  have hblt : ∀ {b'}, Go.Abs.blk g id = some b' → b' < w.heap.size := fun h => blk_lt hm (by rw [hst]; simp) h
  simp only [ObjOK] at hob
  obtain ⟨b', n', cap', bm, ents, clock, seen, h1, h2, h3, h4, h5, h6, h7, h8⟩ := hob
  rw [hio] at h1; injection h1 with h1; injection h1 with h1 h1'; injection h1' with h1' h1''; subst h1; subst h1''
  rw [hm.heap] at h3 h5
  have hblk : Go.Abs.blk g id = some b := by simp [Go.Abs.blk, hio, h2]
  have hg3 : (getObj b).run P w = .ok (.mapIter (some bm) clock seen clock) w := by simp [getObj, Sem.run, h3]
  have hg5 : (getObj bm).run P w = .ok (.map ents clock) w := MapKept.run_getObj_map h5
  have hc0 : (!seen.isEmpty && !ents.isEmpty && ents.all (fun e => decide (e.born ≥ clock))) = false := by
    cases hb : ents.isEmpty with
    | true => rw [show ents = #[] from by simpa using hb]; cases seen.isEmpty <;> rfl
    | false =>
      have : ents.all (fun e => decide (e.born ≥ clock)) = false := by
        rw [← Bool.not_eq_true, Array.all_eq_true']
        intro hall
        have hne : ents.toList ≠ [] := fun h => by
          have : ents = #[] := by apply Array.toList_inj.1; rw [h]
          rw [this] at hb; simp at hb
        obtain ⟨e, he⟩ := List.exists_mem_of_ne_nil _ hne
        have := hall e (by simpa using he)
        have h' := h6.1 e he
        simp at this; omega
      rw [this]; simp
  let L := ents.filter fun e => !seen.contains e.born
  have hold : L.filter (fun e => decide (e.born < clock)) = L := by
    apply Array.toList_inj.1
    rw [Array.toList_filter]
    exact List.filter_eq_self.2 fun e he => by
      have : e ∈ ents.toList := by
        have : e ∈ L := by simpa using he
        have := (Array.mem_filter.1 this).1
        simpa using this
      simpa using h6.1 e this
  have hnew : L.filter (fun e => decide (e.born ≥ clock)) = #[] := by
    apply Array.toList_inj.1
    rw [Array.toList_filter]
    refine List.filter_eq_nil_iff.2 fun e he => ?_
    have : e ∈ ents.toList := by
      have : e ∈ L := by simpa using he
      have := (Array.mem_filter.1 this).1
      simpa using this
    have := h6.1 e this
    simp; omega
  let cands : Array (Option MapEntry) := (if L.isEmpty then #[none] else #[]) ++ L.map some
  have hpos : 0 < cands.size := by
    show 0 < ((if L.isEmpty then #[none] else #[]) ++ L.map some).size
    cases hb : L.isEmpty with
    | true => simp; omega
    | false => simp; exact Array.size_pos_iff.2 (by simpa using hb)
  obtain ⟨j, w1, c1, c2, c3⟩ := run_choose_lt (P := P) cands.size hpos w
  have hm1 : MemOK P s.st w1 g ∧ Frame (Blocks s.st g) w g w1 g ∧ w1.heap = w.heap := by
    rcases c3 with rfl | rfl
    · exact ⟨hm, Frame.refl _ _ _, rfl⟩
    · exact ⟨(mem_drew hm _ (Nat.le_succ _)).1, (mem_drew hm _ (Nat.le_succ _)).2.mono fun _ h => h.elim, rfl⟩
  obtain ⟨m1, m2, m3⟩ := hm1
  have hrun : (execOp ρ (⟨some t, .next x false, ty, pos, after, none⟩ : Oper)).run P w = ((match cands[j]? with
      | some (some e) => do
        setObj b (.mapIter (some bm) clock (seen.push e.born) clock)
        pure (.tuple #[.bool true, e.key, e.val])
      | some none => pure (.tuple #[.bool false])
      | none => stuck "Next: no such candidate" : Sem Value) >>= fun v => pure (.value v) : Sem Next).run P w1 := by
    simp only [execOp, Instr.next, hxv, Sem.run_bind, hg3, hg5, Result.andThen_ok, hc0, Bool.false_eq_true, if_false, Sem.run_pure]
    have e1 : ((if (L.filter fun e => decide (e.born < clock)).isEmpty = true then #[none] else #[]) ++ Array.map some ((L.filter fun e => decide (e.born < clock)) ++ L.filter fun e => decide (e.born ≥ clock))) = cands := by
      rw [hold, hnew, Array.append_empty]
    simp only [L] at e1
    rw [e1, c1]
    simp only [Result.andThen_ok]
    cases hj : cands[j]? with
    | none => rfl
    | some o => cases o <;> rfl
  rw [hrun]
  have hLl : L.toList = ents.toList.filter fun e => !seen.contains e.born := by rw [Array.toList_filter]
  rw [← hLl] at h7
  by_cases hL : L = #[]
  · have hleft : left = [] := by
      have := RepE.len h7
      rw [hL] at this
      exact List.length_eq_zero_iff.1 (by simpa using this.symm)
    have hc : cands = #[none] := by
      show ((if L.isEmpty then #[none] else #[]) ++ L.map some) = _
      rw [hL]; simp
    rw [hc] at c2
    have hj0 : j = 0 := by simpa using c2
    have hcj : cands[j]? = some none := by rw [hc, hj0]; rfl
    rw [hcj]
    simp only [Sem.run_bind, Sem.run_pure, Result.andThen_ok, OpRes]
    exact ⟨g, _, .inl ⟨hleft, rfl⟩, by simp only [Rep]; exact ⟨[.bool false], rfl, by simp only [RepL]; exact ⟨_, _, rfl, by simp [Rep], rfl⟩⟩, m1, Le.refl g, m2, fun b hb => .inl hb⟩
  · have hc : cands = L.map some := by
      show ((if L.isEmpty then #[none] else #[]) ++ L.map some) = _
      rw [if_neg (by simpa using hL)]; simp
    have hjL : j < L.size := by rw [hc] at c2; simpa using c2
    have hLj : L[j]? = some L[j] := by simp [hjL]
    have hcj : cands[j]? = some (some L[j]) := by rw [hc]; simp [hjL]
    obtain ⟨k, p, e1, e2, e3⟩ := RepE.get h7 (j := j) (m := L[j]) (by rw [Array.getElem?_toList]; exact hLj)
    rw [hcj]
    have hw1b : w1.heap[b]? = some (.mapIter (some bm) clock seen clock) := by rw [m3]; exact h3
    have hso : (setObj b (.mapIter (some bm) clock (seen.push L[j].born) clock)).run P w1 = .ok () { w1 with heap := w1.heap.setIfInBounds b (.mapIter (some bm) clock (seen.push L[j].born) clock) } := by
      simp [setObj, Sem.run, hw1b]
    simp only [Sem.run_bind, hso, Sem.run_pure, Result.andThen_ok, OpRes]
    have hne : bm ≠ b := fun e => by rw [e, h3] at h5; cases h5
    have hlt := heap_lt hw1b
    have hmemL : L[j] ∈ ents.toList := by
      have : L[j] ∈ L := Array.getElem_mem hjL
      have := (Array.mem_filter.1 this).1
      simpa using this
    have hfilter : (ents.toList.filter fun e => !(seen.push L[j].born).contains e.born) = L.toList.eraseIdx j := by
      rw [← filter_ne_erase (·.born) (x := L[j]) (by rw [hLl]; exact nodup_filter_map _ _ h6.2) (j := j) (by rw [Array.getElem?_toList]; exact hLj), hLl, List.filter_filter]
      refine List.filter_congr fun e he => ?_
      simp only [Array.contains_push]
      cases seen.contains e.born <;> simp [Bool.and_comm, eq_comm] <;> (try (by_cases hx : e.born = L[j].born <;> simp [hx]))
    obtain ⟨q1, q2, q3, q4⟩ := mem_inplace (o' := .iter (some (k, p)) (left.eraseIdx j)) (w' := { w1 with heap := w1.heap.setIfInBounds b (.mapIter (some bm) clock (seen.push L[j].born) clock) }) m1 (by rw [hst]; simp) hblk hw1b rfl
      (fun i hi => by simp only [cellAt, hw1b]; simp [hlt]) (fun h => by obtain ⟨a1, a2, a3, _⟩ := hm.fmm b h; rw [h3] at a3; cases a3) (fun hle => by
        simp only [ObjOK]
        refine ⟨b, n, cap, bm, ents, clock, seen.push L[j].born, hio, h2, by simp [hlt], h4, ?_, h6, ?_, fun k' p' e => ?_⟩
        · show (w1.heap.setIfInBounds b _)[bm]? = _
          rw [Array.getElem?_setIfInBounds_ne (Ne.symm hne), m3]; exact h5
        · rw [hfilter]; exact RepE.mono hle _ _ (RepE.erase j h7)
        · injection e with e; injection e with e4 e5; subst e4; subst e5
          exact ⟨L[j], hmemL, e2, Rep.mono hle _ _ e3, by simp⟩)
    refine ⟨_, _, .inr ⟨j, (k, p), e1, rfl⟩, ?_, q1, q2, m2.trans q3 fun b' _ hb' => hb', fun b' hb' => by
      rcases q4 b' hb' with h | h
      · exact .inl h
      · right; rw [m3] at h; exact h⟩
    simp only [Rep]
    exact ⟨[.bool true, L[j].key, L[j].val], rfl, by simp only [RepL]; exact ⟨_, _, rfl, by simp [Rep], _, _, rfl, trivial, _, _, rfl, trivial, rfl⟩⟩
theorem opv_entry {o : Oper} {s : St} {x : Operand} {id : Nat} {k : Value} {q p : PV} {left : List (Value × PV)} (ho : o.op = .entry x) (hx : opd s x = some (.ref id 0)) (hst : s.st id = some (.iter (some (k, p)) left)) (hq : ∀ g, Rep g q k) : OpV P o s (.tup [q, p]) := by
  refine opv_value fun w g ρ hm hρ => ?_
  have rx := hρ x (by rw [ho]; simp [Op.operands]) _ hx
  simp only [Rep] at rx
  obtain ⟨b, n, cap, hio, hxv⟩ := rx
  have hob := hm.obj id _ hst
  simp only [ObjOK] at hob
  obtain ⟨b', n', cap', bm, ents, clock, seen, h1, h2, h3, h4, h5, h6, h7, h8⟩ := hob
  rw [hio] at h1; injection h1 with h1; injection h1 with h1 h1'; subst h1
  rw [hm.heap] at h3 h5
  obtain ⟨e, e1, e2, e3, e4⟩ := h8 k p rfl
  have hfind : ents.find? (fun x => x.born == e.born) = some e := by
    rw [← Array.find?_toList]
    have : ∀ {l : List MapEntry}, (l.map (·.born)).Nodup → e ∈ l → l.find? (fun x => x.born == e.born) = some e := by
      intro l
      induction l with
      | nil => intro _ h; cases h
      | cons y l ih =>
        intro hn he
        simp only [List.map_cons, List.nodup_cons] at hn
        rcases List.mem_cons.1 he with rfl | he
        · simp
        · have hne : y.born ≠ e.born := fun h => hn.1 (List.mem_map.2 ⟨e, he, h.symm⟩)
          rw [List.find?_cons_of_neg (by simpa using hne)]
          exact ih hn.2 he
    exact this h6.2 e1
  refine ⟨.tuple #[e.key, e.val], ?_, by simp only [Rep]; exact ⟨[e.key, e.val], rfl, by simp only [RepL]; exact ⟨_, _, rfl, e2 ▸ hq g, _, _, rfl, e3, rfl⟩⟩⟩
  simp [execOp, ho, Instr.entry, hxv, getObj, Sem.run, h3, h5, e4, hfind]
end
end Go.Abs
namespace Go.Abs
open Go
section
variable {P : Program} {tt : TT}
def PY (P : Program) (idl : Nat) (args : List PV) (st : Store) (R : PV → Store → Prop) : Prop :=
  ∀ w g b vs, MemOK P st w g → (∃ n cap, g.io idl = some (b, n, cap)) → RepL g args vs →
    OpRes P (fun v w' => ∃ r st' g', R r st' ∧ Rep g' r v ∧ MemOK P st' w' g' ∧ Le g g' ∧ Frame (Blocks st g) w g w' g' ∧ ∀ b, Blocks st' g' b → Blocks st g b ∨ w.heap.size ≤ b) ((Instr.yield b vs.toArray).run P w)
theorem PY.mono {idl : Nat} {args : List PV} {st : Store} {R R' : PV → Store → Prop} (h : PY P idl args st R) (hr : ∀ r S, R r S → R' r S) : PY P idl args st R' := fun w g b vs hm hb hv =>
  (h w g b vs hm hb hv).mono fun _ _ ⟨r, st', g', h1, h2⟩ => ⟨r, st', g', hr _ _ h1, h2⟩
theorem run_callY {w : World} {ρ : Operand → Value} {o : Oper} {f : Operand} {args : Array Operand} {ts : Array TypeId} {b : Nat} (ho : o.op = .call ⟨.value f, args, ts⟩) (hf : ρ f = .func (.yield b) #[] #[]) :
    (execOp ρ o).run P w = (Instr.yield b (args.map ρ)).run P w := by
  simp [execOp, ho, resolve, hf, Deferred.ofValue, invoke]
theorem opz_yield {dst : Option Nat} {ty : TypeId} {pos : String} {after : Array Edge} {s : St} {f : Operand} {args : Array Operand} {ts : Array TypeId} {idl : Nat} {ps : List PV} (qs : List PV) {R : PV → Store → Prop} (hf : opd s f = some (.yld idl)) (hps : opdL s args.toList = some ps) (hw : WkL ps qs) (h : PY P idl qs s.st R) :
    OpZ P ⟨dst, .call ⟨.value f, args, ts⟩, ty, pos, after, none⟩ s fun x => R x.2 x.1 := by
  intro w g ρ hm hρ
  have rf := hρ f (by simp [Op.operands, Call.operands]) _ hf
  have ra := opdL_rep hps (g := g) (ρ := ρ) (fun x hx => hρ x (by simp [Op.operands, Call.operands]; exact .inr (by simpa using hx)))
  simp only [Rep] at rf
  obtain ⟨b, n, cap, e1, e2⟩ := rf
  rw [run_callY rfl e2, show args.map ρ = (args.toList.map ρ).toArray from by apply Array.toList_inj.1; simp]
  refine (h w g b (args.toList.map ρ) hm ⟨n, cap, e1⟩ (hw.rep ra)).mono ?_
  rintro v w' ⟨r, st', g', hR, h3, h4, h5, h6, h7⟩
  exact ⟨g', (st', r), hR, h3, h4, h5, h6, h7⟩
def St.nilR (n : Nat) (st : Store) : St := ⟨fun _ => (true, .pv .und), fun _ => none, fun _ => false, st, n, false⟩
def envF : List (Nat × PV) → (Nat → PV) → Nat → PV
  | [], f => f
  | x :: l, f => envF l (upd f x.1 x.2)
def envL (l : List (Nat × PV)) : Nat → PV := envF l fun _ => .und
def fillS : List (Nat × PV) → St → St
  | [], s => s
  | x :: l, s => fillS l (s.pv x.1 x.2)
def roundS (n : Nat) (st : Store) (l : List (Nat × PV)) (t0 : Nat) (p : PV) : St := (fillS l (St.nilR n st)).pv t0 p
def envOK (s : St) : List (Nat × PV) → Prop
  | [] => True
  | x :: l => s.env x.1 = (true, .pv x.2) ∧ envOK s l
theorem fillS_env : ∀ (l : List (Nat × PV)) (s : St) (f : Nat → PV), (∀ t, s.env t = (true, .pv (f t))) → ∀ t, (fillS l s).env t = (true, .pv (envF l f t))
  | [], _, _, h, t => h t
  | x :: l, s, f, h, t => fillS_env l (s.pv x.1 x.2) (upd f x.1 x.2) (fun u => by
      show upd s.env x.1 _ u = _
      by_cases hu : u = x.1
      · subst hu; rw [upd_same, upd_same]
      · rw [upd_ne hu, upd_ne hu]; exact h u) t
theorem fillS_rest : ∀ (l : List (Nat × PV)) (s : St), (fillS l s).L = s.L ∧ (fillS l s).ad = s.ad ∧ (fillS l s).st = s.st ∧ (fillS l s).n = s.n ∧ (fillS l s).top = s.top
  | [], _ => ⟨rfl, rfl, rfl, rfl, rfl⟩
  | x :: l, s => fillS_rest l (s.pv x.1 x.2)
theorem envF_ok {s : St} {g : G} {tmps : Array Value} : ∀ (l : List (Nat × PV)) (f : Nat → PV), (∀ t, Rep g (f t) (tmps.getD t undef)) → (∀ x ∈ l, Rep g x.2 (tmps.getD x.1 undef)) → ∀ t, Rep g (envF l f t) (tmps.getD t undef)
  | [], _, h, _, t => h t
  | x :: l, f, h, hl, t => envF_ok (s := s) l (upd f x.1 x.2) (fun u => by
      by_cases hu : u = x.1
      · subst hu; rw [upd_same]; exact hl x (by simp)
      · rw [upd_ne hu]; exact h u) (fun y hy => hl y (List.mem_cons_of_mem _ hy)) t
theorem envOK_mem {s : St} : ∀ {l : List (Nat × PV)}, envOK s l → ∀ x ∈ l, s.env x.1 = (true, .pv x.2)
  | _ :: _, h, x, hx => by
    rcases List.mem_cons.1 hx with rfl | hx
    · exact h.1
    · exact envOK_mem h.2 x hx
theorem SI.act {c : Ctx} {s : St} {a a' : Act} {w : World} {g : G} {lam : Nat → Nat} (hs : SI P c s a w g lam) (ht : a'.tmps = a.tmps) (hd : DfOK c a' g) : SI P c s a' w g lam :=
  ⟨hs.mem, hs.le, hs.frame, hs.blk, fun t => by rw [ht]; exact hs.env t, hs.box, hs.inj, hs.ad, hs.adL, hd, by rw [ht]; exact hs.n, hs.top⟩
theorem mem_loop {st : Store} {w : World} {g : G} (hm : MemOK P st w g) {idl b n m cap : Nat} {env : Nat → PV} {ps : Array Nat} {assign body : Code} {q q' : LoopState} (hst : st idl = some (.loop q n env ps assign body)) (hio : g.io idl = some (b, m, cap)) :
    ∃ r : Loop, w.heap[b]? = some (.loop r) ∧ r.state = q ∧ r.pending = none ∧ r.params = ps ∧ r.assign = assign ∧ r.body = body ∧ r.tmps.size = n ∧ (∀ t, Rep g (env t) (r.tmps.getD t undef)) ∧ (let w' := w.putObj b (.loop { r with state := q' })
    MemOK P (upd st idl (some (.loop q' n env ps assign body))) w' { g with heap := w'.heap } ∧ Le g { g with heap := w'.heap } ∧ Frame (Blocks st g) w g w' { g with heap := w'.heap } ∧ (∀ b', Blocks (upd st idl (some (.loop q' n env ps assign body))) { g with heap := w'.heap } b' → Blocks st g b' ∨ w.heap.size ≤ b')) := by
  have hob := hm.obj idl _ hst
  simp only [ObjOK] at hob
  obtain ⟨b', m', cap', fn, tmps, dfs, h1, h2, h3, h4, h5⟩ := hob
  rw [hio] at h1; injection h1 with h1; injection h1 with h1 h1'; injection h1' with h1' h1''; subst h1; subst h1''
  rw [hm.heap] at h3
  refine ⟨_, h3, rfl, rfl, rfl, rfl, rfl, h4, h5, ?_⟩
  have hlt := heap_lt h3
  exact mem_inplace (y := .loop { state := q', pending := none, fn, tmps, params := ps, assign, body, defers := dfs }) hm (by rw [hst]; simp) (by simp [Go.Abs.blk, hio, h2]) h3 rfl (fun i hi => by simp only [World.putObj, cellAt, h3]; simp [hlt]) (fun h => by obtain ⟨a1, a2, a3, _⟩ := hm.fmm b h; rw [h3] at a3; cases a3) fun hle => by
    simp only [ObjOK]
    exact ⟨b, m, cap, fn, tmps, dfs, hio, h2, by simp [World.putObj, hlt], h4, fun t => Rep.mono hle _ _ (h5 t)⟩
theorem py_of {idl n t0 : Nat} {l : List (Nat × PV)} {assign body : Code} {st : Store} {p : PV} {R : Store → Prop} (hst : st idl = some (.loop .ready n (envL l) #[t0] assign body)) (ht0 : t0 < n)
    (h : PWp P assign (fun e s' => e = .normal ∧ s'.st idl = some (.loop .ready n (envL l) #[t0] assign body) ∧ PWp P body (fun e s'' => e = .normal ∧ ∃ st2, StSub st2 s''.st ∧ st2 idl = some (.loop .busy n (envL l) #[t0] assign body) ∧ R (upd st2 idl (some (.loop .ready n (envL l) #[t0] assign body)))) (s'.sst (upd s'.st idl (some (.loop .busy n (envL l) #[t0] assign body))))) (roundS n st l t0 p)) :
    PY P idl [p] st fun r S => r = .val (.bool true) ∧ R S := by
  rintro w g b vs hm ⟨m, cap, hio⟩ hr
  simp only [RepL] at hr
  obtain ⟨v, vs', rfl, hv, rfl⟩ := hr
  obtain ⟨r, k1, k2, k3, k4, k5, k6, k7, k8, _⟩ := mem_loop (q' := .busy) hm hst hio
  rw [run_yield k1 (by rw [k4]; rfl)]
  simp only [OpRes]
  rw [k4, k5, k6]
  have htm : (#[t0].zip [v].toArray).foldl (fun tmps (x : Nat × Value) => tmps.setIfInBounds x.1 x.2) r.tmps = r.tmps.setIfInBounds t0 v := by simp
  rw [htm]
  obtain ⟨i1, i2, i3, i4, i5⟩ := fillS_rest l (St.nilR n st)
  have hsi : SI P ⟨w, g, Blocks st g, some b⟩ (roundS n st l t0 p) { tmps := r.tmps.setIfInBounds t0 v, defers := [] } w g (fun _ => 0) := {
    mem := by show MemOK P (fillS l (St.nilR n st)).st w g; rw [i3]; exact hm
    le := Le.refl g
    frame := Frame.refl _ w g
    blk := fun b' hb => by
      have hb : Blocks (fillS l (St.nilR n st)).st g b' := hb
      rw [i3] at hb; exact .inl hb
    env := fun t => by
      show EntOK g _ (upd (fillS l (St.nilR n st)).env t0 (true, .pv p) t) _
      by_cases ht : t = t0
      · subst ht
        rw [upd_same]
        simp only [EntOK]
        rw [← k7] at ht0
        simpa [Array.getElem?_setIfInBounds, ht0] using hv
      · rw [upd_ne ht, fillS_env l (St.nilR n st) (fun _ => .und) (fun _ => rfl) t]
        have := k8 t
        unfold envL at this
        simp only [EntOK]
        simpa [Array.getElem?_setIfInBounds_ne (Ne.symm ht)] using this
    box := fun t T cs e => by
      have e : (fillS l (St.nilR n st)).L t = some (T, cs) := e
      rw [i1] at e; cases e
    inj := fun t t' e => by
      have e : (fillS l (St.nilR n st)).L t ≠ none := e
      rw [i1] at e; exact absurd rfl e
    ad := fun t b' u off e => by
      have e : upd (fillS l (St.nilR n st)).env t0 (true, .pv p) t = (b', .adr u off) := e
      by_cases ht : t = t0
      · rw [ht, upd_same] at e; cases e
      · rw [upd_ne ht, fillS_env l (St.nilR n st) (fun _ => .und) (fun _ => rfl) t] at e; cases e
    adL := fun t e => by
      have e : (fillS l (St.nilR n st)).L t ≠ none := e
      rw [i1] at e; exact absurd rfl e
    defers := ⟨[], rfl, List.nodup_nil, fun _ h => by cases h⟩
    n := by show (r.tmps.setIfInBounds t0 v).size = (fillS l (St.nilR n st)).n; rw [i4]; simp [St.nilR, k7]
    top := fun e => by
      have e : (fillS l (St.nilR n st)).top = true := e
      rw [i5] at e; cases e }
  refine roundIn_of_wpIn trivial (wpIn_mono (h _ _ _ _ _ hsi) ?_)
  rintro e a₁ w₁ ⟨s', g', lam', ⟨rfl, hl, hbody⟩, hs'⟩
  have hio' : g'.io idl = some (b, m, cap) := hs'.le.io _ _ hio
  obtain ⟨r1, j1, j2, j3, j4, j5, j6, j7, j8, q1, q2, q3, q4⟩ := mem_loop (q' := .busy) hs'.mem hl hio'
  refine ⟨_, run_beginRound j1 j2, wpIn_mono (hbody _ _ _ _ _ (hs'.step q1 q2 q3 q4)) ?_⟩
  rintro e a₂ w₂ ⟨s'', g'', lam'', ⟨rfl, st2, hsub, hl2, hR⟩, hs''⟩
  have hio'' : g''.io idl = some (b, m, cap) := hs''.le.io _ _ hio
  obtain ⟨r2, x1, x2, x3, x4, x5, x6, x7, x8, y1, y2, y3, y4⟩ := mem_loop (q' := .ready) (hs''.mem.sub hsub) hl2 hio''
  have hend := run_endRound (P := P) none x1
  have hrec : ({ r2 with state := if (none : Option Code).isNone = true then LoopState.ready else LoopState.done, pending := none } : Loop) = { r2 with state := .ready } := by
    cases r2
    simp only at x3
    subst x3
    rfl
  refine ⟨_, _, hend, _, rfl, .val (.bool true), _, _, ⟨rfl, hR⟩, by simp [Rep], ?_, hs''.le.trans y2, ?_, fun b' hb' => ?_⟩
  · rw [hrec]; exact y1
  · refine hs''.frame.trans (B' := Blocks st2 g'') ?_ fun b' hb' hbb => (hs''.blk b' (hbb.sub hsub)).resolve_right (by omega)
    rw [hrec]; exact y3
  · rcases y4 b' hb' with h' | h'
    · exact hs''.blk b' (h'.sub hsub)
    · right; have : w.heap.size ≤ w₂.heap.size := hs''.frame.size
      omega
theorem pwp_rangeF {x t0 : Nat} {assign body : Code} {s : St} {Q : Exit → St → Prop} (l : List (Nat × PV)) {fid : FuncId} {caps : List PV} (hx : s.env x = (true, .pv (.fn fid caps))) (htop : s.top = true) (henv : envOK s l) (R : Nat → Store → Prop)
    (h : ∀ idl, s.st idl = none → PC P fid (.yld idl :: caps) (upd s.st idl (some (.loop .ready s.n (envL l) #[t0] assign body))) fun _ S => S idl = some (.loop .ready s.n (envL l) #[t0] assign body) ∧ R idl S)
    (k : ∀ idl S, s.st idl = none → R idl S → Q .normal (s.sst (upd S idl none))) : PWp P (.rangeFunc (.tmp x) #[t0] assign body) Q s := by
  intro c a w g lam hs
  have hro : (FR c.ro).round = none := hs.top htop
  have hax := hs.env x
  rw [hx] at hax
  simp only [EntOK, Rep] at hax
  obtain ⟨cvs, hax, hcv⟩ := hax
  refine wpIn_rangeFunc fun fn _ => ?_
  rw [hro]
  obtain ⟨m1, m2, m3⟩ := mem_push hs.mem (.deferred (some []))
  have hs1 := hs.world m1 m2 (m3.mono fun _ h => h.elim)
  obtain ⟨Ds, d1, d2, d3⟩ := hs1.defers
  have hDnew : (w.alloc (.deferred (some []))).heap[w.heap.size]? = some (.deferred (some [])) := World.alloc_heap_new _ _
  have hs2 : SI P c s { a with defers := markD w.heap.size :: a.defers } (w.alloc (.deferred (some []))) { g with heap := (w.alloc (.deferred (some []))).heap } lam := hs1.act rfl ⟨w.heap.size :: Ds, by rw [List.map_cons]; exact congrArg _ d1, List.nodup_cons.2 ⟨fun hm => by
    obtain ⟨Ds', e1, e2, e3⟩ := hs.defers
    have : Ds = Ds' := List.map_inj_right (fun a b h => by simp only [markD, Deferred.mk.injEq, Target.collected.injEq] at h; exact h.1) |>.1 (d1.symm.trans e1)
    subst this
    have := heap_lt (e3 _ hm).1
    rw [hs.mem.heap] at this; omega, d2⟩, fun D hD => by
      rcases List.mem_cons.1 hD with rfl | hD
      · exact ⟨hDnew, hs.frame.size⟩
      · exact d3 D hD⟩
  obtain ⟨idl, g2, f1, f2, f3, q1, q2, q3, q4⟩ := mem_new hs2.mem (.loop { state := .ready, pending := none, fn, tmps := a.tmps, params := #[t0], assign, body, defers := w.heap.size }) (.loop .ready s.n (envL l) #[t0] assign body) fun g' id hle hh hio hb hold hfr hfm => by
    simp only [ObjOK]
    refine ⟨_, 0, 1, fn, a.tmps, w.heap.size, hio, by omega, hb, hs.n, fun t => envF_ok (s := s) l (fun _ => .und) (fun _ => trivial) (fun y hy => ?_) t⟩
    have := hs2.env y.1
    rw [envOK_mem henv y hy] at this
    exact Rep.mono hle _ _ this
  have hs3 := hs2.step q1 q2 q3 q4
  have hw1 : (w.alloc (.deferred (some []))).heap.size = w.heap.size + 1 := World.size_alloc _ _
  rw [hw1] at f3
  obtain ⟨hc, hcall⟩ := h idl f2
  have hle0 : Le g g2 := m2.trans q2
  let W1 : World := (w.alloc (.deferred (some []))).alloc (.loop { state := .ready, pending := none, fn, tmps := a.tmps, params := #[t0], assign, body, defers := w.heap.size })
  refine ⟨w.heap.size + 1, [markD w.heap.size], W1, { target := .fn (.func fid) cvs.toArray, args := #[.func (.yield (w.heap.size + 1)) #[] #[]] }, W1, fid, #[.func (.yield (w.heap.size + 1)) #[] #[]] ++ cvs.toArray, W1, run_enterLoop_outer _ _ _ _ _, ?_, fun _ _ => trivial, ?_, fun h => by simp [FR, Fence.wide] at h, callsIn_FR ?_⟩
  · have : a.eval (.tmp x) = .func (.func fid) #[] cvs.toArray := hax
    simp only [resolve, rangeCall, this, Deferred.ofValue, Sem.run_pure]
    simp [Act.eval]
  · unfold CallOK at hc
    split at hc
    · rename_i fnn hfn
      rw [Bool.and_eq_true] at hc
      have h1 : (fnn.name == "runtime.NumGoroutine") = false := by simpa using hc.1
      have h2 : fnn.body.isNone = false := by cases hb : fnn.body <;> simp_all
      simp only [invoke, callFunc, Sem.run_bind, run_program, hfn, Result.andThen_ok, h1, h2, Bool.false_eq_true, if_false, Sem.run_pure]
    · cases hc
  · have := hcall W1 g2 (.func (.yield (w.heap.size + 1)) #[] #[] :: cvs) q1 (by simp only [RepL]; exact ⟨_, cvs, rfl, by simp only [Rep]; exact ⟨_, _, _, f3, rfl⟩, RepL.mono hle0 _ _ hcv⟩)
    rw [show (#[.func (.yield (w.heap.size + 1)) #[] #[]] ++ cvs.toArray : Array Value) = (.func (.yield (w.heap.size + 1)) #[] #[] :: cvs).toArray from by apply Array.toList_inj.1; simp]
    refine this.mono ?_
    rintro e w₃ ⟨v, r, S, g₃, rfl, ⟨hl, hR⟩, h3, h4, h5, h6, h7⟩
    have hs4 := hs3.step h4 h5 h6 h7
    have hio4 : g₃.io idl = some (w.heap.size + 1, 0, 1) := h5.io _ _ f3
    obtain ⟨r4, x1, x2, x3, x4, x5, x6, x7, x8, y1, y2, y3, y4⟩ := mem_loop (q' := .exhausted) h4 hl hio4
    refine ⟨r4.pending, _, run_endLoop (P := P) x1 (by rw [x2]; simp), ?_⟩
    have hs5 := hs4.step (st' := upd S idl (some (.loop .exhausted s.n (envL l) #[t0] assign body))) y1 y2 y3 y4
    split
    case h_2 hh => rw [x3] at hh; cases hh
    refine ⟨s.sst (upd S idl none), _, lam, k idl S f2 hR, hs5.sub (s2 := s.sst (upd S idl none)) ⟨fun _ => .inr rfl, fun _ _ e => e, fun j => by
      show upd S idl none j = none ∨ upd S idl none j = upd S idl _ j
      by_cases hj : j = idl
      · left; rw [hj, upd_same]
      · right; rw [upd_ne hj, upd_ne hj], rfl, fun e => e, hs5.ad, hs5.adL⟩⟩
end
end Go.Abs
namespace Go.Abs
open Go
theorem ments_erase {K V : Type} (enc : K → Value) (f : V → PV) (l : List (K × V)) (j : Nat) : ments enc f (l.eraseIdx j) = (ments enc f l).eraseIdx j := by
  unfold ments
  induction l generalizing j with
  | nil => simp
  | cons x l ih => cases j with
    | zero => simp
    | succ j => simp [ih]
section
variable {P : Program} {tt : TT}
theorem SI.frozenTo {c : Ctx} {s : St} {a : Act} {w : World} {g : G} {lam : Nat → Nat} (hs : SI P c s a w g lam) (u : Nat) {id b n cap clock clock' : Nat} {es es' : List (Value × PV)} {ents ents' : Array MapEntry} (hx : s.env u = (true, .pv (.mref id))) (hst : s.st id = some (.map es)) (hio : g.io id = some (b, n, cap)) (hb : w.heap[b]? = some (.map ents clock))
    (hr : RepE g es' ents'.toList) (hstp : StampsW ents'.toList clock') : ∃ g', SI P c ((s.sst (upd s.st id none)).pv u (.fmap es')) a { w with heap := w.heap.setIfInBounds b (.map ents' clock') } g' lam := by
  have hob := hs.mem.obj id _ hst
  simp only [ObjOK] at hob
  obtain ⟨b', n', cap', ents0, clock0, h1, h2, h3, h4, h5, h6⟩ := hob
  rw [hio] at h1; injection h1 with h1; injection h1 with h1 h1'; injection h1' with h1' h1''; subst h1; subst h1''
  have hblk : Go.Abs.blk g id = some b := by simp [Go.Abs.blk, hio, h2]
  have hlt := heap_lt hb
  let w' : World := { w with heap := w.heap.setIfInBounds b (.map ents' clock') }
  have hne : ∀ b', b' ≠ b → w'.heap[b']? = w.heap[b']? := fun b' h => by
    show (w.heap.setIfInBounds b _)[b']? = _
    rw [Array.getElem?_setIfInBounds]; simp [Ne.symm h]
  have hnew : w'.heap[b]? = some (.map ents' clock') := by show (w.heap.setIfInBounds b _)[b]? = _; simp [hlt]
  have hsz : w'.heap.size = w.heap.size := by show (w.heap.setIfInBounds b _).size = _; simp
  let g' : G := { g with heap := w'.heap, fm := fun b' => b' = b ∨ g.fm b' }
  have hle : Le g g' := by
    refine ⟨fun _ _ h => h, fun _ => Nat.le_refl _, fun k i hi => ?_, fun k hk => ⟨.inr hk, ?_⟩⟩
    · show cellAt w'.heap k i = cellAt g.heap k i
      rw [hs.mem.heap]
      by_cases h : k = b
      · subst h; simp only [cellAt, hnew, hb]
      · simp only [cellAt, hne k h]
    · show w'.heap[k]? = g.heap[k]?
      rw [hs.mem.heap]; exact hne k fun h => h5 (h ▸ hk)
  have hnb : ¬ Blocks (upd s.st id none) g b := fun ⟨j, j1, j2⟩ => by
    by_cases h : j = id
    · rw [h, upd_same] at j1; exact j1 rfl
    · rw [upd_ne h] at j1
      exact h (hs.mem.inj j id b j1 (by rw [hst]; simp) j2 hblk)
  have hsub : StSub (upd s.st id none) s.st := fun j => by
    by_cases h : j = id
    · left; rw [h, upd_same]
    · right; rw [upd_ne h]
  have hm : MemOK P (upd s.st id none) w' g' := by
    have hm1 := hs.mem.sub hsub
    refine ⟨rfl, fun j o e => (hm1.obj j o e).keep hle fun b' hb' => ⟨?_, rfl, ?_⟩, hm1.inj, fun k h => by rw [hsz]; exact hm1.lt k h, fun b' hb' => ?_, hm1.fin⟩
    · show w'.heap[b']? = g.heap[b']?
      rw [hs.mem.heap]
      exact hne b' fun h => hnb ⟨j, by rw [e]; simp, h ▸ hb'⟩
    · constructor
      · rintro (h | h)
        · exact absurd ⟨j, by rw [e]; simp, h ▸ hb'⟩ hnb
        · exact h
      · exact .inr
    · by_cases h : b' = b
      · subst h; exact ⟨ents', clock', hnew, hstp⟩
      · rcases hb' with hb' | hb'
        · exact absurd hb' h
        · rw [hne b' h]; exact hm1.fmm b' hb'
  have hcb := hs.blk b ⟨id, by rw [hst]; simp, hblk⟩
  refine ⟨g', hm, hs.le.trans hle, ⟨hs.frame.os, hs.frame.tape, hs.frame.output, by show _ ≤ w'.heap.size; rw [hsz]; exact hs.frame.size, fun b' hb' hn => ?_⟩, fun b' hb' => hs.blk b' (Blocks.sub hsub hb'), fun t => ?_, fun t U ds e => ?_, hs.inj, fun t bb v off e => ?_, hs.adL, hs.defers.mono rfl fun D hD => ?_, hs.n, hs.top⟩
  · obtain ⟨f1, f2, f3⟩ := hs.frame.old b' hb' hn
    have hbb : b' ≠ b := fun h => by
      subst h
      rcases hcb with h | h
      · exact absurd h hn
      · omega
    refine ⟨(hne b' hbb).trans f1, f2, ?_⟩
    rw [← f3]
    exact ⟨fun h => h.resolve_left hbb, .inr⟩
  · show EntOK g' lam (upd s.env u _ t) _
    by_cases h : t = u
    · subst h
      rw [upd_same]
      have := hs.env t
      rw [hx] at this
      simp only [EntOK, Rep] at this ⊢
      obtain ⟨b2, n2, cap2, e1, e2⟩ := this
      rw [hio] at e1; injection e1 with e1; injection e1 with e1 e3; subst e1
      exact ⟨b, ents', clock', e2, .inl rfl, hnew, RepE.mono hle _ _ hr⟩
    · rw [upd_ne h]; exact (hs.env t).mono hle
  · obtain ⟨us, k1, k2, k3, k4, k5⟩ := hs.box t U ds e
    refine ⟨us, ?_, RepL.mono hle _ _ k2, k3, k4, fun hh => k5 (Blocks.sub hsub hh)⟩
    show w'.heap[lam t]? = _
    have hn : lam t ≠ b := fun h => by rw [h, hs.mem.heap, hb] at k1; cases k1
    rw [hne (lam t) hn, ← hs.mem.heap]; exact k1
  · have e' : upd s.env u (true, .pv (.fmap es')) t = (bb, .adr v off) := e
    by_cases h : t = u
    · rw [h, upd_same] at e'; cases e'
    · rw [upd_ne h] at e'; exact hs.ad t bb v off e'
  · show w'.heap[D]? = g.heap[D]?
    rw [hs.mem.heap]
    exact hne D fun h => by rw [h, hs.mem.heap, hb] at hD; cases hD
variable {K V : Type} [DecidableEq K] {kt : TypeId} {enc : K → Value} {rep : K → PV} {f : V → PV}
def mdel (k : K) (l : List (K × V)) : List (K × V) := match mpos k l with
  | some j => l.eraseIdx j
  | none => l
theorem Stamps.erase {ents : List MapEntry} {clock : Nat} (h : StampsW ents clock) (j : Nat) : StampsW (ents.eraseIdx j) clock :=
  ⟨fun e he => h.1 e (List.mem_of_mem_eraseIdx he), h.2.sublist ((List.eraseIdx_sublist ents j).map _)⟩
theorem ev_delete {l r : List Oper} {s : St} {Kt : St → Prop} {ty T e : TypeId} {ts : Array TypeId} {pos : String} {after : Array Edge} {x y : Operand} {id : Nat} {es : List (K × V)} {k : K} (htt : TTOK P tt) (u : Nat) (hk : KeyOK P kt enc rep) (hu : s.env u = (true, .pv (.mref id))) (hx : opd s x = some (.mref id)) (hy : opd s y = some (rep k)) (hts : ts[0]? = some T) (hT : tiK tt T = some (.map kt e)) (hf : flagsB s [x, y] = true)
    (hst : s.st id = some (.map (ments enc f es))) (kk : Ev P l .seq r ((s.sst (upd s.st id none)).pv u (.fmap (ments enc f (mdel k es)))) Kt) : Ev P l .seq (⟨none, .call ⟨.builtin .delete, #[x, y], ts⟩, ty, pos, after, none⟩ :: r) s Kt := by
  refine evs_op rfl fun c a w g lam hs => ?_
  have hall := flagsB_mem hf
  have rm := opd_ok hs (hall x (by simp)) _ hx
  have ey := hk.rp k g _ (opd_ok hs (hall y (by simp)) _ hy)
  simp only [Rep] at rm
  obtain ⟨b, n, cap, hio, hxv⟩ := rm
  have hob := hs.mem.obj id _ hst
  simp only [ObjOK] at hob
  obtain ⟨b', n', cap', ents, clock, h1, h2, h3, h4, h5, h6⟩ := hob
  rw [hio] at h1; injection h1 with h1; injection h1 with h1 h1'; injection h1' with h1' h1''; subst h1; subst h1''
  rw [hs.mem.heap] at h3
  have htu := tk_map (tiK_ok htt hT).1
  obtain ⟨rr, f1, f2⟩ := findKeyT hk k (w := w) h4
  have go : ∀ (ents' : Array MapEntry), RepE g (ments enc f (mdel k es)) ents'.toList → StampsW ents'.toList clock → (execOp a.eval (⟨none, .call ⟨.builtin .delete, #[x, y], ts⟩, ty, pos, after, none⟩ : Oper)).run P w = .ok (.value (.tuple #[])) { w with heap := w.heap.setIfInBounds b (.map ents' clock) } →
      OpRes P (fun v w' => ∃ s' g' lam', Ev P l .seq r s' Kt ∧ SI P c s' (a.put (none : Option Nat) v) w' g' lam') ((execOp a.eval (⟨none, .call ⟨.builtin .delete, #[x, y], ts⟩, ty, pos, after, none⟩ : Oper)).run P w) := by
    intro ents' hr hsp hrun
    rw [hrun]
    obtain ⟨g', q⟩ := hs.frozenTo u hu hst hio h3 hr hsp
    exact ⟨_, g', lam, kk, q⟩
  have ey' : a.eval y = enc k := ey
  have hxv' : a.eval x = .map (some b) := hxv
  rcases f2 with ⟨k1, rfl⟩ | ⟨j, m0, k1, k2, rfl⟩
  · refine go ents (by unfold mdel; rw [k1]; exact h4) h6.weak ?_
    refine run_builtin rfl ?_
    simp [builtin, Builtin.delete_, hts, run_underlying htu, hxv', ey', MapKept.run_getObj_map h3, hk.chk, f1, MapKept.run_setObj_map _ h3]
  · have hj : j < ents.size := by have := (List.getElem?_eq_some_iff.1 k2).1; simpa using this
    have he : (ents.eraseIdxIfInBounds j).toList = ents.toList.eraseIdx j := by simp
    refine go (ents.eraseIdxIfInBounds j) (by unfold mdel; rw [k1, he]; simp only [ments_erase]; exact RepE.erase j h4) (by rw [he]; exact Stamps.erase h6.weak j) ?_
    refine run_builtin rfl ?_
    simp [builtin, Builtin.delete_, hts, run_underlying htu, hxv', ey', MapKept.run_getObj_map h3, hk.chk, f1, MapKept.run_setObj_map _ h3]
end
section
variable {P : Program} {tt : TT} {l : List Oper} {d : Md} {r : List Oper} {s : St} {K : St → Prop} {t : Nat} {ty : TypeId} {pos : String} {after : Array Edge}
theorem apM (pk : Pk P tt) {α : Type} {f : α → List PV} {xs : List α} (ys : List α) {T T2 e : TypeId} {x y : Operand} {id sz : Nat} {p : PV} (B : Nat) (hx : opd s x = some (.own id (xs.map f))) (hy : opd s y = some p) (hp : prows p = some (ys.map f)) (hk : tiK tt T = some (.slice e)) (hk2 : isSliceT tt T2 = true) (hs : tiSize tt e = some sz) (hz : (tiZ tt e).map List.length = some sz) (hf : flagsB s [x, y] = true) (hd : Nat.blt t s.n = true)
    (htok : s.st id = some (.tok e)) (hl : ∀ a, (f a).length = sz) (h1 : ∀ a, (f a).all PV.one = true) (hB : P.bytesOf e = B) (hb : (xs.length + ys.length) * B ≤ 140737488355328) (h62 : xs.length + ys.length < 4611686018427387904) (ht : tagZ d l r = true)
    (k : ∀ id', s.st id' = none → Ev P l d r ((s.sst (upd (upd s.st id none) id' (some (.tok e)))).pv t (.own id' ((xs ++ ys).map f))) K) : Ev P l d (⟨some t, .call ⟨.builtin .append, #[x, y], #[T, T2]⟩, ty, pos, after, none⟩ :: r) s K := by
  refine ev_opz (opz_append pk.htt B hx hy hp hk hk2 hs hz htok (fun r hr => by obtain ⟨a, _, rfl⟩ := List.mem_map.1 hr; exact hl a) (fun r hr => by obtain ⟨a, _, rfl⟩ := List.mem_map.1 hr; exact hl a) (fun r hr => by obtain ⟨a, _, rfl⟩ := List.mem_map.1 hr; exact h1 a) hB (by rw [List.length_map, List.length_map]; exact hb) (by rw [List.length_map, List.length_map]; exact h62)) (fun z hz => opl_mem (fun _ _ _ e => by cases e) hz) hf hd ht fun z hz => ?_
  obtain ⟨id', h, rfl⟩ := hz
  have := k id' h
  rw [List.map_append] at this
  exact this
theorem callV {f : Operand} {args : Array Operand} {ts : Array TypeId} {gd : Option (Nat × Bool)} {fid : FuncId} {caps ps : List PV} {w : Bool} {p : PV} (hw : wantA l ⟨some t, .call ⟨.value f, args, ts⟩, ty, pos, after, gd⟩ s = some w) (hf : opd s f = some (.fn fid caps)) (hps : opdL s args.toList = some ps) (h : w = true → PF P fid (ps.map soft ++ caps) p) (hfl : All (flagsI s w (f :: args.toList) [])) (hd : Nat.blt t s.n = true)
    (ht : tagE d l r = true) (k : Ev P l d r (s.put (some t) w (.pv p)) K) : Ev P l d (⟨some t, .call ⟨.value f, args, ts⟩, ty, pos, after, gd⟩ :: r) s K :=
  callW (ps.map soft) hw hf hps (WkL.soft ps) h hfl hd ht k
theorem SI.wkSlot {c : Ctx} {a : Act} {w : World} {g : G} {lam : Nat → Nat} (hs : SI P c s a w g lam) (u : Nat) {p q : PV} (hx : s.env u = (true, .pv p)) (hq : Wk p q) : SI P c (s.pv u q) a w g lam :=
  ⟨hs.mem, hs.le, hs.frame, hs.blk, fun t => by
    show EntOK g lam (upd s.env u _ t) _
    by_cases ht : t = u
    · subst ht
      rw [upd_same]
      have := hs.env t
      rw [hx] at this
      exact hq g _ this
    · rw [upd_ne ht]; exact hs.env t, hs.box, hs.inj, fun t b v off e => by
    have e' : upd s.env u (true, .pv q) t = (b, .adr v off) := e
    by_cases ht : t = u
    · rw [ht, upd_same] at e'; cases e'
    · rw [upd_ne ht] at e'; exact hs.ad t b v off e', hs.adL, hs.defers, hs.n, hs.top⟩
theorem pwp_wk {cd : Code} {Q : Exit → St → Prop} (u : Nat) {p q : PV} (hx : s.env u = (true, .pv p)) (hq : Wk p q) (k : PWp P cd Q (s.pv u q)) : PWp P cd Q s := fun c a w g lam hs => k c a w g lam (hs.wkSlot u hx hq)
end
end Go.Abs
namespace Go.Abs
open Go
section
variable {P : Program} {tt : TT}
theorem SI.freezeVec {c : Ctx} {s : St} {a : Act} {w : World} {g : G} {lam : Nat → Nat} (hs : SI P c s a w g lam) (u : Nat) {id sz n : Nat} {T : TypeId} {rows : List (List PV)} (hx : s.env u = (true, .pv (.vec id sz 0 n))) (hst : s.st id = some (.arr T rows)) (hT : P.cellsOf T = sz) (hn : rows.length = n) :
    ∃ g', SI P c ((s.sst (upd s.st id none)).pv u (.seq rows)) a w g' lam := by
  subst hn
  have henv : ∀ t, ((s.sst (upd s.st id none)).pv u (.seq rows)).env t = upd s.env u (true, .pv (.seq rows)) t := fun _ => rfl
  refine hs.subF hst hT ⟨fun t => ?_, fun t T ds e => ⟨ds, e, FzL.refl _⟩, StSub.refl _, rfl, fun h => h, fun t w' v off e => ?_, hs.adL⟩
  · rw [henv]
    by_cases h : t = u
    · subst h; rw [upd_same]; exact .inr (.inr ⟨_, _, hx, rfl, .all⟩)
    · rw [upd_ne h]; exact .inr (.inl rfl)
  · rw [henv] at e
    by_cases h : t = u
    · subst h; rw [upd_same] at e; cases e
    · rw [upd_ne h] at e; exact hs.ad t w' v off e
theorem pwp_freezeV {cd : Code} {Q : Exit → St → Prop} {s : St} (u : Nat) {id sz n : Nat} {T : TypeId} {rows : List (List PV)} (hx : s.env u = (true, .pv (.vec id sz 0 n))) (hst : s.st id = some (.arr T rows)) (hT : P.cellsOf T = sz) (hn : rows.length = n) (k : PWp P cd Q ((s.sst (upd s.st id none)).pv u (.seq rows))) : PWp P cd Q s := by
  intro c a w g lam hs
  obtain ⟨g', h⟩ := hs.freezeVec u hx hst hT hn
  exact k c a w g' lam h
theorem ev_freezeV {l r : List Oper} {o : Oper} {K : St → Prop} {s : St} (u : Nat) {id sz n : Nat} {T : TypeId} {rows : List (List PV)} (hx : s.env u = (true, .pv (.vec id sz 0 n))) (hst : s.st id = some (.arr T rows)) (hT : P.cellsOf T = sz) (hn : rows.length = n) (k : Ev P l .seq (o :: r) ((s.sst (upd s.st id none)).pv u (.seq rows)) K) : Ev P l .seq (o :: r) s K := by
  intro c a w g lam hs
  obtain ⟨g', h⟩ := hs.freezeVec u hx hst hT hn
  exact k c a w g' lam h
theorem SI.zeroVec {c : Ctx} {s : St} {a : Act} {w : World} {g : G} {lam : Nat → Nat} (hs : SI P c s a w g lam) (u : Nat) (sz : Nat) (T : TypeId) (hx : s.env u = (true, .pv (.val (.slice none 0 0)))) :
    ∃ id g', s.st id = none ∧ SI P c ((s.sst (upd s.st id (some (.arr T [])))).pv u (.vec id sz 0 0)) a w g' lam := by
  obtain ⟨id, g', h1, h2, h3, h4, h5, h6, h7⟩ := mem_zero hs.mem T
  have hs' := hs.step h4 h5 h6 h7
  refine ⟨id, g', h2, hs'.mem, hs'.le, hs'.frame, hs'.blk, fun t => ?_, hs'.box, hs'.inj, fun t b v off e => ?_, hs'.adL, hs'.defers, hs'.n, hs'.top⟩
  · show EntOK g' lam (upd s.env u _ t) _
    by_cases ht : t = u
    · subst ht
      rw [upd_same]
      have := hs.env t
      rw [hx] at this
      simp only [EntOK, Rep] at this
      simp only [EntOK]
      rw [this]
      exact h3 sz none
    · rw [upd_ne ht]; exact hs'.env t
  · have e' : upd s.env u (true, .pv (.vec id sz 0 0)) t = (b, .adr v off) := e
    by_cases ht : t = u
    · rw [ht, upd_same] at e'; cases e'
    · rw [upd_ne ht] at e'; exact hs.ad t b v off e'
theorem ev_zeroVec {l r : List Oper} {o : Oper} {K : St → Prop} {s : St} (u : Nat) (sz : Nat) (T : TypeId) (hx : s.env u = (true, .pv (.val (.slice none 0 0)))) (k : ∀ id, s.st id = none → Ev P l .seq (o :: r) ((s.sst (upd s.st id (some (.arr T [])))).pv u (.vec id sz 0 0)) K) : Ev P l .seq (o :: r) s K := by
  intro c a w g lam hs
  obtain ⟨id, g', h, h'⟩ := hs.zeroVec u sz T hx
  exact k id h c a w g' lam h'
end
end Go.Abs
namespace Go.Abs
open Go
section
variable {P : Program} {tt : TT} {l : List Oper}
def lexO (l : List Oper) (md : Md) : List Nat → Array Bool → Bool
  | [], listed => (Region.ready .any l.toArray listed).isEmpty
  | k :: ord, listed => (Region.ready .any l.toArray listed).contains k && (bif memN k md.z then (Region.ready .any l.toArray listed).all (fun j => Nat.beq j k) else freeA l md listed k) && lexO l md ord (listed.setIfInBounds k true)
def pickO (l : List Oper) : List Nat → Option (List Oper)
  | [] => some []
  | k :: ord => match l[k]?, pickO l ord with
    | some o, some r => some (o :: r)
    | _, _ => none
def tagsO (md md' : Md) : Nat → List Nat → Bool
  | _, [] => true
  | p, k :: ord => memN p md'.z == memN k md.z && memN p md'.r == memN k md.r && tagsO md md' (p + 1) ord
theorem AAny.only {md : Md} {K : St → Prop} {i : Nat} {oi : Oper} {R : Store × PV → Prop} (hi : l[i]? = some oi) (hz : memN i md.z = true) (fuel : Nat) (listed : Array Bool) (s : St)
    (hall : (Region.ready .any l.toArray listed).all (fun j => Nat.beq j i) = true) (hr : i ∈ Region.ready .any l.toArray listed) (hy : ZOp P l oi s R) (H : ∀ x, R x → AAny P l md K fuel (listed.setIfInBounds i true) (s.turn oi x)) : AAny P l md K (fuel + 1) listed s := by
  refine ⟨fun h => (by rw [h] at hr; cases hr), fun j hj => ?_⟩
  obtain rfl : j = i := by
    have := List.all_eq_true.1 hall j hj
    exact Nat.eq_of_beq_eq_true this
  unfold AOp; rw [hi]; simp only [hz]; exact ⟨R, hy, H⟩
theorem AAny.lexO {md md' : Md} {K : St → Prop} : ∀ (ord : List Nat) (r : List Oper) (p : Nat) (listed : Array Bool) (s : St), pickO l ord = some r → l.length = p + r.length → tagsO md md' p ord = true → AdOK s → LOK l s → lexO l md ord listed = true → EvD P l md' r s K → AAny P l md K r.length listed s
  | [], r, _, _, _, hp, _, _, _, _, hB, h => by
    simp only [pickO, Option.some.injEq] at hp
    subst hp
    exact ⟨by simpa [Go.Abs.lexO] using hB, h⟩
  | k :: ord, r, p, listed, s, hp, hlen, ht, hA, hLK, hB, h => by
    simp only [pickO] at hp
    cases h0 : l[k]? with
    | none => rw [h0] at hp; cases hp
    | some o =>
      cases h1 : pickO l ord with
      | none => rw [h0, h1] at hp; cases hp
      | some r' =>
        rw [h0, h1] at hp
        injection hp with hp
        subst hp
        have hk : l.length - (r'.length + 1) = p := by rw [hlen]; simp
        simp only [Go.Abs.lexO, Bool.and_eq_true] at hB
        obtain ⟨⟨hr, hf⟩, hB'⟩ := hB
        simp only [tagsO, Bool.and_eq_true, beq_iff_eq] at ht
        obtain ⟨⟨tz, tr⟩, ht'⟩ := ht
        unfold EvD at h
        rw [hk, tz, tr] at h
        have ho : o ∈ l := List.mem_of_getElem? h0
        have rest : ∀ s', AdOK s' → LOK l s' → EvD P l md' r' s' K → AAny P l md K r'.length (listed.setIfInBounds k true) s' := fun s' hA' hL' h' =>
          AAny.lexO ord r' (p + 1) _ _ h1 (by rw [hlen]; simp; omega) ht' hA' hL' hB' h'
        cases hz : memN k md.z with
        | true =>
          rw [hz] at h hf
          obtain ⟨R, hR, hK⟩ := h
          exact AAny.only h0 hz r'.length listed s hf (by simpa using hr) hR fun x hx => rest _ hA.turn (hLK.turn ho) (hK x hx)
        | false =>
          rw [hz] at h hf
          obtain ⟨T, hT, hK⟩ := h
          exact AAny.first h0 hz r'.length listed s (freeA_spec h0 hf) hA hLK (by simpa using hr) hT (rest _ (hT.adOK hA) (hLK.step ho hT hA) hK)
def ordOK (l r : List Oper) (md md' : Md) (ord : List Nat) : Bool := Nat.beq l.length r.length && tagsO md md' 0 ord && lexO l md ord (Array.replicate l.length false)
theorem pwp_drawO {md md' : Md} {r : List Oper} {id : Nat} {Q : Exit → St → Prop} {s : St} (ord : List Nat) (hm : P.follows .mixedOrders = true) (hp : pickO l ord = some r) (hB : ordOK l r md md' ord = true) (hF : frOK l s = true) (h : EvD P l md' r s (Q .normal)) : PWp P (.region id l.toArray true) Q s := by
  intro c a w g lam hs
  refine wpIn_region_any hm ?_
  obtain ⟨h1, h2⟩ := mem_drew hs.mem (w.drawn + 1) (Nat.le_succ _)
  have hs' := hs.world h1 (Le.refl g) (h2.mono fun _ h => h.elim)
  simp only [ordOK, Bool.and_eq_true] at hB
  obtain ⟨⟨b1, b2⟩, b3⟩ := hB
  have b1 : l.length = r.length := Nat.eq_of_beq_eq_true b1
  have := AAny.lexO ord r 0 (Array.replicate l.length false) s hp (by rw [b1]; simp) b2 hs.adOK (LOK.init hs.adOK hF) b3 h
  rw [← b1] at this
  have := AAny.sound (Q := fun e a' w' => ∃ s' g' lam', Q e s' ∧ SI P c s' a' w' g' lam') (fun s a w g lam hk hs => ⟨s, g, lam, hk, hs⟩) _ _ _ _ _ _ _ hs' this
  simpa using this
theorem wDO (pk : Pk P tt) (ord z0 rd0 z rd : List Nat) {s : St} {id : Nat} {ops : Array Oper} {r : List Oper} {k : List Fr} {Q : Exit → St → Prop} {a b g : Prop} (_hsz : Nat.beq ops.size ord.length = true) (hp : pickO ops.toList ord = some r) (hl : ordOK ops.toList r (.draw z0 rd0) (.draw z rd) ord = true) (hF : frOK ops.toList s = true) (h : advE P tt ops.toList (.draw z rd) r s k Q = .mk a b g) (ha : a) (hb : b) (hg : g) : PWp P (.region id ops true) (plug P k Q) s := by
  have := goE pk h ha hb hg
  have := pwp_drawO (l := ops.toList) (id := id) (Q := plug P k Q) ord pk.hm hp hl hF (by
    have e := this
    exact e)
  simpa using this
def preO (l : List Oper) (md : Md) : List Nat → Array Bool → Bool
  | [], _ => true
  | k :: ord, listed => (Region.ready .any l.toArray listed).contains k && !memN k md.z && !memN k md.r && freeA l md listed k && preO l md ord (listed.setIfInBounds k true)
def setO : List Nat → Array Bool → Array Bool
  | [], listed => listed
  | k :: ord, listed => setO ord (listed.setIfInBounds k true)
theorem AAny.pre {md : Md} {K K' : St → Prop} (n : Nat) : ∀ (ord : List Nat) (r : List Oper) (listed : Array Bool) (s : St), pickO l ord = some r → AdOK s → LOK l s → preO l md ord listed = true → EvD P l (.draw [] []) r s K' → (∀ s', AdOK s' → LOK l s' → K' s' → AAny P l md K n (setO ord listed) s') → AAny P l md K (n + r.length) listed s
  | [], r, listed, s, hp, hA, hLK, _, h, hk => by
    simp only [pickO, Option.some.injEq] at hp
    subst hp
    exact hk s hA hLK h
  | k :: ord, r, listed, s, hp, hA, hLK, hB, h, hk => by
    simp only [pickO] at hp
    cases h0 : l[k]? with
    | none => rw [h0] at hp; cases hp
    | some o =>
      cases h1 : pickO l ord with
      | none => rw [h0, h1] at hp; cases hp
      | some r' =>
        rw [h0, h1] at hp
        injection hp with hp
        subst hp
        simp only [preO, Bool.and_eq_true, Bool.not_eq_true'] at hB
        obtain ⟨⟨⟨⟨hr, hz⟩, hrd⟩, hf⟩, hB'⟩ := hB
        have ho : o ∈ l := List.mem_of_getElem? h0
        unfold EvD at h
        have e0 : ∀ x, memN x (Md.draw [] []).z = false := fun _ => rfl
        have e1 : ∀ x, memN x (Md.draw [] []).r = false := fun _ => rfl
        rw [e0, e1] at h
        obtain ⟨T, hT, hK⟩ := h
        have hT' : AStep P l o s (memN k md.r) T := by rw [hrd]; exact hT
        exact AAny.first h0 hz (n + r'.length) listed s (freeA_spec h0 hf) hA hLK (by simpa using hr) hT' (AAny.pre n ord r' _ _ h1 (hT.adOK hA) (hLK.step ho hT hA) hB' hK fun s' => hk s')
theorem AAny.fork {md md1 md2 : Md} {K : St → Prop} {j1 j2 : Nat} {ord1 ord2 : List Nat} {r1 r2 : List Oper} {p : Nat} {listed : Array Bool} {s : St} (hp1 : pickO l (j1 :: ord1) = some r1) (hp2 : pickO l (j2 :: ord2) = some r2) (hn1 : l.length = p + r1.length) (hn2 : l.length = p + r2.length)
    (ht1 : tagsO md md1 p (j1 :: ord1) = true) (ht2 : tagsO md md2 p (j2 :: ord2) = true) (hall : (Region.ready .any l.toArray listed).all (fun j => Nat.beq j j1 || Nat.beq j j2) = true) (hr : (Region.ready .any l.toArray listed).contains j1 = true) (hA : AdOK s) (hLK : LOK l s)
    (h1 : Go.Abs.lexO l md ord1 (listed.setIfInBounds j1 true) = true) (h2 : Go.Abs.lexO l md ord2 (listed.setIfInBounds j2 true) = true) (e1 : EvD P l md1 r1 s K) (e2 : EvD P l md2 r2 s K) : AAny P l md K r1.length listed s := by
  have key : ∀ {j : Nat} {ord : List Nat} {r : List Oper} {md' : Md}, pickO l (j :: ord) = some r → l.length = p + r.length → tagsO md md' p (j :: ord) = true → Go.Abs.lexO l md ord (listed.setIfInBounds j true) = true → EvD P l md' r s K → ∃ n, r.length = n + 1 ∧ AOp P l md j (AAny P l md K n (listed.setIfInBounds j true)) s := by
    intro j ord r md' hp hn ht hB h
    simp only [pickO] at hp
    cases h0 : l[j]? with
    | none => rw [h0] at hp; cases hp
    | some o =>
      cases h1 : pickO l ord with
      | none => rw [h0, h1] at hp; cases hp
      | some r' =>
        rw [h0, h1] at hp
        injection hp with hp
        subst hp
        have hk : l.length - (r'.length + 1) = p := by rw [hn]; simp
        simp only [tagsO, Bool.and_eq_true, beq_iff_eq] at ht
        obtain ⟨⟨tz, tr⟩, ht'⟩ := ht
        unfold EvD at h
        rw [hk, tz, tr] at h
        have ho : o ∈ l := List.mem_of_getElem? h0
        refine ⟨r'.length, rfl, ?_⟩
        unfold AOp
        rw [h0]
        have rest : ∀ s', AdOK s' → LOK l s' → EvD P l md' r' s' K → AAny P l md K r'.length (listed.setIfInBounds j true) s' := fun s' hA' hL' h' =>
          AAny.lexO ord r' (p + 1) _ _ h1 (by rw [hn]; simp; omega) ht' hA' hL' hB h'
        cases hz : memN j md.z with
        | true =>
          rw [hz] at h
          obtain ⟨R, hR, hK⟩ := h
          exact ⟨R, hR, fun x hx => rest _ hA.turn (hLK.turn ho) (hK x hx)⟩
        | false =>
          rw [hz] at h
          obtain ⟨T, hT, hK⟩ := h
          exact ⟨T, hT, rest _ (hT.adOK hA) (hLK.step ho hT hA) hK⟩
  obtain ⟨n1, q1, o1⟩ := key hp1 hn1 ht1 h1 e1
  obtain ⟨n2, q2, o2⟩ := key hp2 hn2 ht2 h2 e2
  have hn : n1 = n2 := by omega
  subst hn
  rw [q1]
  refine ⟨fun h => (by simp only [List.contains_iff_mem] at hr; rw [h] at hr; cases hr), fun j hj => ?_⟩
  have := List.all_eq_true.1 hall j hj
  simp only [Bool.or_eq_true] at this
  rcases this with q | q
  · rw [Nat.eq_of_beq_eq_true q]; exact o1
  · rw [Nat.eq_of_beq_eq_true q]; exact o2
def forkOK (l : List Oper) (md md1 md2 : Md) (ord0 ord1 ord2 : List Nat) (j1 j2 : Nat) : Bool :=
  preO l md ord0 (Array.replicate l.length false) && Nat.beq l.length (ord0.length + (ord1.length + 1)) && Nat.beq l.length (ord0.length + (ord2.length + 1)) && tagsO md md1 ord0.length (j1 :: ord1) && tagsO md md2 ord0.length (j2 :: ord2) &&
  (Region.ready .any l.toArray (setO ord0 (Array.replicate l.length false))).all (fun j => Nat.beq j j1 || Nat.beq j j2) && (Region.ready .any l.toArray (setO ord0 (Array.replicate l.length false))).contains j1 &&
  lexO l md ord1 ((setO ord0 (Array.replicate l.length false)).setIfInBounds j1 true) && lexO l md ord2 ((setO ord0 (Array.replicate l.length false)).setIfInBounds j2 true)
theorem pickO_len : ∀ {ord : List Nat} {r : List Oper}, pickO l ord = some r → r.length = ord.length
  | [], r, h => by simp only [pickO, Option.some.injEq] at h; rw [← h]; rfl
  | k :: ord, r, h => by
    simp only [pickO] at h
    cases h0 : l[k]? with
    | none => rw [h0] at h; cases h
    | some o =>
      cases h1 : pickO l ord with
      | none => rw [h0, h1] at h; cases h
      | some r' =>
        rw [h0, h1] at h
        injection h with h
        rw [← h, List.length_cons, List.length_cons, pickO_len h1]
structure Both (A B : Prop) : Prop where
  one : A
  two : B
theorem wFork (pk : Pk P tt) (ord0 : List Nat) (j1 : Nat) (ord1 : List Nat) (j2 : Nat) (ord2 z0 rd0 z1 rd1 z2 rd2 : List Nat) {s : St} {id : Nat} {ops : Array Oper} {r0 r1 r2 : List Oper} {k : List Fr} {Q : Exit → St → Prop} (_hsz : Nat.beq ops.size (ord0.length + (ord1.length + 1)) = true) (hp0 : pickO ops.toList ord0 = some r0) (hp1 : pickO ops.toList (j1 :: ord1) = some r1) (hp2 : pickO ops.toList (j2 :: ord2) = some r2)
    (hl : forkOK ops.toList (.draw z0 rd0) (.draw z1 rd1) (.draw z2 rd2) ord0 ord1 ord2 j1 j2 = true) (hF : frOK ops.toList s = true) (h : Ev P ops.toList (.draw [] []) r0 s (contK P [] fun _ s' => Both (Ev P ops.toList (.draw z1 rd1) r1 s' (contK P k Q)) (Ev P ops.toList (.draw z2 rd2) r2 s' (contK P k Q)))) : PWp P (.region id ops true) (plug P k Q) s := by
  intro c a w g lam hs
  refine wpIn_region_any pk.hm ?_
  obtain ⟨h1, h2⟩ := mem_drew hs.mem (w.drawn + 1) (Nat.le_succ _)
  have hs' := hs.world h1 (Le.refl g) (h2.mono fun _ h => h.elim)
  simp only [forkOK, Bool.and_eq_true] at hl
  obtain ⟨⟨⟨⟨⟨⟨⟨⟨b1, b2⟩, b3⟩, b4⟩, b5⟩, b6⟩, b7⟩, b8⟩, b9⟩ := hl
  have b2 := Nat.eq_of_beq_eq_true b2
  have b3 := Nat.eq_of_beq_eq_true b3
  have n0 := pickO_len hp0
  have n1 := pickO_len hp1
  have n2 := pickO_len hp2
  simp only [List.length_cons] at n1 n2
  have := AAny.pre (md := .draw z0 rd0) (K := contK P k Q) r1.length ord0 r0 (Array.replicate ops.toList.length false) s hp0 hs.adOK (LOK.init hs.adOK hF) b1 h fun s' hA hLK ⟨e1, e2⟩ =>
    AAny.fork hp1 hp2 (p := ord0.length) (by omega) (by omega) b4 b5 b6 b7 hA hLK b8 b9 e1 e2
  rw [show r1.length + r0.length = ops.toList.length by omega] at this
  have := AAny.sound (Q := fun e a' w' => ∃ s' g' lam', plug P k Q e s' ∧ SI P c s' a' w' g' lam') (fun s a w g lam hk hs => ⟨s, g, lam, hk, hs⟩) _ _ _ _ _ _ _ hs' this
  simpa using this
end
end Go.Abs
namespace Go.Abs
open Go
section
variable {P : Program} {tt : TT} {l : List Oper} {d : Md} {r : List Oper} {s : St} {K : St → Prop} {t : Nat} {ty : TypeId} {pos : String} {after : Array Edge} {gd : Option (Nat × Bool)}
theorem rangeA (pk : Pk P tt) {T kt e : TypeId} {x : Operand} {es : List (Value × PV)} (hx : opd s x = some (.fmap es)) (hT : tiK tt T = some (.map kt e)) (hf : flagsB s [x] = true) (hd : Nat.blt t s.n = true) (ht : tagZ d l r = true)
    (k : ∀ id, s.st id = none → Ev P l d r ((s.sst (upd s.st id (some (.iter none es)))).pv t (.ref id 0)) K) : Ev P l d (⟨some t, .range T x, ty, pos, after, none⟩ :: r) s K := by
  refine ev_opz (opz_range pk.htt hx hT) (fun z hz => opl_mem (fun _ _ _ e => by cases e) hz) hf hd ht ?_
  rintro z ⟨id, h, rfl⟩
  exact k id h
theorem nextA {x : Operand} {id : Nat} {cur : Option (Value × PV)} {left : List (Value × PV)} (hx : opd s x = some (.ref id 0)) (hst : s.st id = some (.iter cur left)) (hf : flagsB s [x] = true) (hd : Nat.blt t s.n = true) (ht : tagZ d l r = true)
    (k1 : left = [] → Ev P l d r ((s.sst s.st).pv t (.tup [.val (.bool false)])) K)
    (k2 : ∀ i e, left[i]? = some e → Ev P l d r ((s.sst (upd s.st id (some (.iter (some e) (left.eraseIdx i))))).pv t (.tup [.val (.bool true), .und, .und])) K) : Ev P l d (⟨some t, .next x false, ty, pos, after, none⟩ :: r) s K := by
  refine ev_opz (opz_next hx hst) (fun z hz => opl_mem (fun _ _ _ e => by cases e) hz) hf hd ht ?_
  rintro z (⟨h, rfl⟩ | ⟨i, e, h, rfl⟩)
  · exact k1 h
  · exact k2 i e h
theorem entryA {w : Bool} {x : Operand} {id : Nat} {k : Value} {q p : PV} {left : List (Value × PV)} (hw : wantA l ⟨some t, .entry x, ty, pos, after, gd⟩ s = some w) (hx : opd s x = some (.ref id 0)) (hst : s.st id = some (.iter (some (k, p)) left)) (hq : ∀ g, Rep g q k) (hf : All (flagsI s w [x] [])) (hd : Nat.blt t s.n = true) (ht : tagR d l r = true)
    (kk : Ev P l d r (s.put (some t) w (.pv (.tup [q, p]))) K) : Ev P l d (⟨some t, .entry x, ty, pos, after, gd⟩ :: r) s K :=
  ev_opr hw (fun _ => opv_entry rfl hx hst hq) (fun z hz => opl_mem (fun _ _ _ e => by cases e) hz) (flagsI.g hf).1 hd ht kk
theorem yieldP {f : Operand} {args : Array Operand} {ts : Array TypeId} {idl : Nat} {ps : List PV} {dst : Option Nat} {R : PV → Store → Prop} (hf : opd s f = some (.yld idl)) (hps : opdL s args.toList = some ps) (h : PY P idl (ps.map soft) s.st R) (hfl : flagsB s (f :: args.toList) = true) (hd : dstOK ⟨dst, .call ⟨.value f, args, ts⟩, ty, pos, after, none⟩ s = true) (ht : tagZ d l r = true)
    (k : ∀ p st', R p st' → Ev P l d r ((s.sst st').put dst true (.pv p)) K) : Ev P l d (⟨dst, .call ⟨.value f, args, ts⟩, ty, pos, after, none⟩ :: r) s K :=
  ev_opz (opz_yield (ps.map soft) hf hps (WkL.soft ps) h) (fun z hz => opl_mem (fun _ _ _ e => by cases e) hz) hfl hd ht fun z hz => k _ _ hz
theorem callN {f : Operand} {args : Array Operand} {ts : Array TypeId} {fid : FuncId} {caps ps : List PV} {dst : Option Nat} {R : PV → Store → Prop} (hf : opd s f = some (.fn fid caps)) (hps : opdL s args.toList = some ps) (h : PC P fid (ps ++ caps) s.st R) (hfl : flagsB s (f :: args.toList) = true) (hd : dstOK ⟨dst, .call ⟨.value f, args, ts⟩, ty, pos, after, none⟩ s = true) (ht : tagZ d l r = true)
    (k : ∀ p st', R p st' → Ev P l d r ((s.sst st').put dst true (.pv p)) K) : Ev P l d (⟨dst, .call ⟨.value f, args, ts⟩, ty, pos, after, none⟩ :: r) s K :=
  ev_opz (opz_call ps hf hps (WkL.refl ps) h) (fun z hz => opl_mem (fun _ _ _ e => by cases e) hz) hfl hd ht fun z hz => k _ _ hz
theorem Rep.int {g : G} {k : IntKind} (n : Int) : Rep g (.val (.int k n)) (.int k n) := by simp [Rep]
end
end Go.Abs
