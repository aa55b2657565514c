/-
  ABS, part 4: the operations' rules hold.
-/
import Derived.Test.YtghjdkbmjjalmaaAbsStep
import Derived.WalkKit
namespace Go.Abs
open Go

theorem RepL.length {g : G} : ∀ {ps : List PV} {vs : List Value}, RepL g ps vs → vs.length = ps.length
  | [], vs, h => by simp [RepL] at h; simp [h]
  | p :: ps, vs, h => by
    simp only [RepL] at h
    obtain ⟨v, vs', rfl, _, h2⟩ := h
    simp [RepL.length h2]

theorem RepL.get {g : G} : ∀ {ps : List PV} {vs : List Value} {i : Nat} {p : PV}, RepL g ps vs → ps[i]? = some p → ∃ v, vs[i]? = some v ∧ Rep g p v
  | [], _, _, _, _, e => by simp at e
  | q :: ps, vs, i, p, h, e => by
    simp only [RepL] at h
    obtain ⟨v, vs', rfl, h1, h2⟩ := h
    cases i with
    | zero => simp at e; subst e; exact ⟨v, by simp, h1⟩
    | succ i => simp at e; simpa using RepL.get h2 e

theorem RepL.drop {g : G} : ∀ {ps : List PV} {vs : List Value} (i : Nat), RepL g ps vs → RepL g (ps.drop i) (vs.drop i)
  | _, _, 0, h => by simpa using h
  | [], vs, i + 1, h => by simp [RepL] at h; simp [h, RepL]
  | p :: ps, vs, i + 1, h => by
    simp only [RepL] at h
    obtain ⟨v, vs', rfl, _, h2⟩ := h
    simpa using RepL.drop i h2

theorem RepL.take {g : G} : ∀ {ps : List PV} {vs : List Value} (i : Nat), RepL g ps vs → RepL g (ps.take i) (vs.take i)
  | _, _, 0, h => by simp [RepL]
  | [], vs, i + 1, h => by simp [RepL] at h; simp [h, RepL]
  | p :: ps, vs, i + 1, h => by
    simp only [RepL] at h
    obtain ⟨v, vs', rfl, h1, h2⟩ := h
    simp only [List.take_succ_cons, RepL]
    exact ⟨v, _, rfl, h1, RepL.take i h2⟩

theorem RepL.append {g : G} : ∀ {ps qs : List PV} {vs us : List Value}, RepL g ps vs → RepL g qs us → RepL g (ps ++ qs) (vs ++ us)
  | [], _, vs, us, h, k => by simp [RepL] at h; simpa [h] using k
  | p :: ps, qs, vs, us, h, k => by
    simp only [RepL] at h
    obtain ⟨v, vs', rfl, h1, h2⟩ := h
    simp only [List.cons_append, RepL]
    exact ⟨v, _, rfl, h1, RepL.append h2 k⟩

theorem RepL.vals {g : G} : ∀ (vs : List Value), RepL g (vs.map .val) vs
  | [] => by simp [RepL]
  | v :: vs => by simp only [List.map_cons, RepL]; exact ⟨v, vs, rfl, by simp [Rep], RepL.vals vs⟩

/-- Values of one cell. -/
theorem Rep.oneCell {g : G} {p : PV} {v : Value} (h : Rep g p v) (hp : p.one = true) : v.oneCell' = true ∧ v.cells = #[v] := by
  cases p with
  | agg cs => simp [PV.one] at hp
  | und => simp [PV.one] at hp
  | tup cs => simp [PV.one] at hp
  | val u =>
    simp only [Rep] at h
    subst h
    cases v <;> simp [PV.one] at hp <;> simp [Value.oneCell', Value.cells]
  | seq rows => simp only [Rep] at h; obtain ⟨_, _, rfl, _⟩ := h; exact ⟨rfl, rfl⟩
  | own id rows => simp only [Rep] at h; obtain ⟨_, _, _, _, _, _, h⟩ := h; rcases h with ⟨_, _, rfl⟩ | ⟨_, rfl, _⟩ <;> exact ⟨rfl, rfl⟩
  | rp cs => simp only [Rep] at h; obtain ⟨_, _, rfl, _⟩ := h; exact ⟨rfl, rfl⟩
  | fn f cs => simp only [Rep] at h; obtain ⟨_, rfl, _⟩ := h; exact ⟨rfl, rfl⟩
  | fmap es => simp only [Rep] at h; obtain ⟨_, _, _, rfl, _⟩ := h; exact ⟨rfl, rfl⟩
  | ref id off => simp only [Rep] at h; obtain ⟨_, _, _, _, rfl⟩ := h; exact ⟨rfl, rfl⟩
  | vec id off len => simp only [Rep] at h; obtain ⟨_, _, _, _, _, _, rfl⟩ := h; exact ⟨rfl, rfl⟩
  | mref id => simp only [Rep] at h; obtain ⟨_, _, _, _, rfl⟩ := h; exact ⟨rfl, rfl⟩

theorem RepL.ones {g : G} : ∀ {ps : List PV} {vs : List Value}, RepL g ps vs → ps.all PV.one = true → ∀ v ∈ vs, v.oneCell' = true
  | [], vs, h, _ => by simp [RepL] at h; simp [h]
  | p :: ps, vs, h, hp => by
    simp only [RepL] at h
    obtain ⟨v, vs', rfl, h1, h2⟩ := h
    simp only [List.all_cons, Bool.and_eq_true] at hp
    intro u hu
    rcases List.mem_cons.1 hu with rfl | hu
    · exact (h1.oneCell hp.1).1
    · exact RepL.ones h2 hp.2 u hu

/-- The cells of a value that shows them. -/
theorem Rep.cells {g : G} {p : PV} {v : Value} (h : Rep g p v) (hp : p.flat = true) : RepL g p.cells v.cells.toList ∧ ∀ u ∈ v.cells.toList, u.oneCell' = true := by
  cases p with
  | agg cs =>
    simp only [Rep] at h
    obtain ⟨vs, rfl, h⟩ := h
    simp only [PV.flat] at hp
    simp only [PV.cells, Value.cells]
    exact ⟨h, fun u hu => h.ones hp u (by simpa using hu)⟩
  | und => simp [PV.flat, PV.one] at hp
  | tup cs => simp [PV.flat, PV.one] at hp
  | _ =>
    obtain ⟨h1, h2⟩ := h.oneCell hp
    rw [h2]
    simp only [PV.cells]
    exact ⟨by simp only [RepL]; exact ⟨v, [], rfl, h, rfl⟩, fun u hu => by simp at hu; subst hu; exact h1⟩

theorem setAt_eq : ∀ (cs : List PV) (off : Nat) (ps : List PV), off + ps.length ≤ cs.length → setAt cs off ps = cs.take off ++ ps ++ cs.drop (off + ps.length)
  | cs, 0, [], _ => by simp [setAt]
  | [], 0, p :: ps, h => by simp at h
  | [], n + 1, ps, h => by simp at h
  | c :: cs, 0, p :: ps, h => by
    have ih := setAt_eq cs 0 ps (by simpa using h)
    simp only [setAt, ih]
    simp
  | c :: cs, n + 1, ps, h => by
    have ih := setAt_eq cs n ps (by simp at h; omega)
    simp only [setAt, ih]
    have : n + 1 + ps.length = (n + ps.length) + 1 := by omega
    simp [this]

/-! ### The memory goes on -/

theorem blk_le {P : Program} {st : Store} {w : World} {g g' : G} (hm : MemOK P st w g) (hl : Le g g') {id : Nat} (h : st id ≠ none) : Go.Abs.blk g' id = Go.Abs.blk g id := by
  cases ho : st id with
  | none => exact absurd ho h
  | some o =>
    have := hm.obj id o ho
    have hio : ∃ x, g.io id = some x := by
      cases o <;> simp only [ObjOK] at this
      · obtain ⟨b, n, cap, e, _⟩ := this; exact ⟨_, e⟩
      · obtain ⟨b, n, cap, vs, e, _⟩ := this; exact ⟨_, e⟩
      · obtain ⟨b, cap, vs, sp, e, _⟩ := this; exact ⟨_, e⟩
      · obtain ⟨b, n, cap, ents, clock, e, _⟩ := this; exact ⟨_, e⟩
    obtain ⟨x, hx⟩ := hio
    simp only [blk, hx, hl.io id x hx]

theorem Blocks_le {P : Program} {st : Store} {w : World} {g g' : G} (hm : MemOK P st w g) (hl : Le g g') (b : Nat) : Blocks st g' b ↔ Blocks st g b := by
  constructor
  · rintro ⟨id, h1, h2⟩; exact ⟨id, h1, by rw [← blk_le hm hl h1]; exact h2⟩
  · rintro ⟨id, h1, h2⟩; exact ⟨id, h1, by rw [blk_le hm hl h1]; exact h2⟩

theorem EntOK.mono {g g' : G} {lam : Nat → Nat} (h : Le g g') : ∀ {e : Bool × E} {v : Value}, EntOK g lam e v → EntOK g' lam e v
  | (true, .pv p), v, e => Rep.mono h p v e
  | (true, .adr _ _), _, e => e
  | (false, _), _, e => e

theorem heap_lt {h : Array Obj} {b : Nat} {o : Obj} (e : h[b]? = some o) : b < h.size := by
  rcases Nat.lt_or_ge b h.size with h' | h'
  · exact h'
  · rw [Array.getElem?_eq_none h'] at e; cases e

theorem SI.world {P : Program} {c : Ctx} {s : St} {a : Act} {w w' : World} {g g' : G} {lam : Nat → Nat} (hs : SI P c s a w g lam)
    (hm : MemOK P s.st w' g') (hl : Le g g') (hf : Frame (Blocks s.st g) w g w' g') : SI P c s a w' g' lam where
  mem := hm
  le := hs.le.trans hl
  frame := hs.frame.trans hf fun b hb h => (hs.blk b h).resolve_right (by omega)
  blk b h := hs.blk b ((Blocks_le hs.mem hl b).1 h)
  env t := (hs.env t).mono hl
  box t T cs e := by
    obtain ⟨vs, h1, h2, h3, h4, h5⟩ := hs.box t T cs e
    have hb : lam t < w.heap.size := by have := heap_lt h1; rwa [hs.mem.heap] at this
    obtain ⟨k1, k2, _⟩ := hf.old _ hb h5
    refine ⟨vs, ?_, RepL.mono hl _ _ h2, k2.trans h3, h4, fun h => h5 ((Blocks_le hs.mem hl _).1 h)⟩
    rw [hm.heap, k1, ← hs.mem.heap]; exact h1
  inj := hs.inj
  ad := hs.ad
  adL := hs.adL
  defers := hs.defers
  n := hs.n

theorem SI.put {P : Program} {c : Ctx} {s : St} {a : Act} {w : World} {g : G} {lam : Nat → Nat} (hs : SI P c s a w g lam) {d : Option Nat} {b : Bool} {e : E} {v : Value}
    (hd : ∀ t, d = some t → t < s.n) (hv : EntOK g lam (b, e) v) (had : ∀ u off, e = .adr u off → s.ad u = true) : SI P c (s.put d b e) (a.put d v) w g lam := by
  cases d with
  | none => exact hs
  | some d =>
    exact {
      mem := hs.mem
      le := hs.le
      frame := hs.frame
      blk := hs.blk
      env := fun t => by
        show EntOK g lam (upd s.env d (b, e) t) ((a.tmps.setIfInBounds d v).getD t undef)
        by_cases ht : t = d
        · subst ht
          have : t < a.tmps.size := by rw [hs.n]; exact hd t rfl
          rw [upd_same]
          simpa [Array.getElem?_setIfInBounds, this] using hv
        · rw [upd_ne ht]
          have := hs.env t
          simpa [Array.getElem?_setIfInBounds_ne (Ne.symm ht)] using this
      box := hs.box
      inj := hs.inj
      ad := fun t w' u off e' => by
        have e'' : upd s.env d (b, e) t = (w', .adr u off) := e'
        by_cases ht : t = d
        · subst ht; rw [upd_same] at e''; exact had u off (by injection e'')
        · rw [upd_ne ht] at e''; exact hs.ad t w' u off e''
      adL := hs.adL
      defers := hs.defers
      n := by show (a.tmps.setIfInBounds d v).size = s.n; simp [hs.n] }

/-- A new block at the heap's end. -/
theorem mem_push {P : Program} {st : Store} {w : World} {g : G} (hm : MemOK P st w g) (o : Obj) :
    MemOK P st (w.alloc o) { g with heap := (w.alloc o).heap } ∧ Le g { g with heap := (w.alloc o).heap } ∧ Frame (fun _ => False) w g (w.alloc o) { g with heap := (w.alloc o).heap } := by
  have old : ∀ b, b < w.heap.size → (w.alloc o).heap[b]? = w.heap[b]? := fun b hb => RowKit.Below.heap_alloc w o b hb
  have hle : Le g { g with heap := (w.alloc o).heap } := by
    refine ⟨fun _ _ h => h, fun _ => Nat.le_refl _, fun b i hi => ?_, fun b hb => ⟨hb, ?_⟩⟩
    · show cellAt (w.alloc o).heap b i = cellAt g.heap b i
      have hb := hm.lt b (by omega)
      rw [hm.heap]
      simp only [cellAt, old b hb]
    · show (w.alloc o).heap[b]? = g.heap[b]?
      obtain ⟨ents, clock, e⟩ := hm.fmm b hb
      rw [hm.heap, old b (heap_lt e)]
  refine ⟨⟨rfl, fun id o' e => ?_, hm.inj, fun b h => ?_, fun b h => ?_, hm.fin⟩, hle, ⟨rfl, rfl, rfl, by show _ ≤ (w.heap.push o).size; simp, fun b hb _ => ⟨old b hb, rfl, Iff.rfl⟩⟩⟩
  · have h := hm.obj id o' e
    have lt : ∀ {b : Nat} {x : Obj}, g.heap[b]? = some x → (w.alloc o).heap[b]? = some x := fun {b x} e => by
      have hb : b < w.heap.size := by have := heap_lt e; rwa [hm.heap] at this
      rw [old b hb, ← hm.heap]; exact e
    cases o' with
    | tok T =>
      simp only [ObjOK] at h ⊢
      obtain ⟨b, n, cap, h1, h2⟩ := h
      refine ⟨b, n, cap, h1, ?_⟩
      rcases h2 with h2 | ⟨c, h2, h3, h4⟩
      · exact .inl h2
      · exact .inr ⟨c, lt h2, h3, h4⟩
    | cells T cs =>
      simp only [ObjOK] at h ⊢
      obtain ⟨b, n, cap, vs, h1, h2, h3, h4, h5⟩ := h
      exact ⟨b, n, cap, vs, h1, h2, lt h3, RepL.mono hle _ _ h4, h5⟩
    | arr T rows =>
      simp only [ObjOK] at h ⊢
      obtain ⟨b, cap, vs, sp, h1, h2, h3, h4, h5, h6, h7, h8⟩ := h
      exact ⟨b, cap, vs, sp, h1, h2, h3, lt h4, h5, h6, RepL.mono hle _ _ h7, h8⟩
    | map es =>
      simp only [ObjOK] at h ⊢
      obtain ⟨b, n, cap, ents, clock, h1, h2, h3, h4, h5, h6⟩ := h
      exact ⟨b, n, cap, ents, clock, h1, h2, lt h3, RepE.mono hle _ _ h4, h5, h6⟩
  · have := hm.lt b h
    show b < (w.heap.push o).size
    simp; omega
  · obtain ⟨ents, clock, e⟩ := hm.fmm b h
    exact ⟨ents, clock, by rw [old b (heap_lt e)]; exact e⟩

theorem mem_drew {P : Program} {st : Store} {w : World} {g : G} (hm : MemOK P st w g) (k : Nat) :
    MemOK P st { w with drawn := k } g ∧ Frame (fun _ => False) w g { w with drawn := k } g :=
  ⟨⟨hm.heap, hm.obj, hm.inj, hm.lt, hm.fmm, hm.fin⟩, ⟨rfl, rfl, rfl, Nat.le_refl _, fun _ _ _ => ⟨rfl, rfl, Iff.rfl⟩⟩⟩

/-! ### One operation -/

def OneOp (P : Program) (l : List Oper) (o : Oper) (a : Act) (w : World) (K : Act → World → Prop) (Q : Exit → Act → World → Prop) : Prop :=
  if Region.wanted o (yielded l.toArray a.tmps) then o.wp P a w K Q else K (a.put o.dst undef) w

theorem wanted_of {P : Program} {c : Ctx} {s : St} {a : Act} {w : World} {g : G} {lam : Nat → Nat} (hs : SI P c s a w g lam) {l : List Oper} {o : Oper} {b : Bool} (h : wantA l o s = some b) :
    Region.wanted o (yielded l.toArray a.tmps) = b := by
  unfold wantA at h
  unfold Region.wanted
  cases hg : o.guard with
  | none => simp only [hg] at h ⊢; injection h
  | some jb =>
    obtain ⟨j, want⟩ := jb
    simp only [hg] at h ⊢
    cases ht : (l[j]?).bind (·.dst) with
    | none => simp only [ht] at h; cases h
    | some t =>
      simp only [ht] at h
      have he := hs.env t
      have hy : yielded l.toArray a.tmps j = match a.tmps[t]? with | some (.bool b) => some b | _ => none := by
        unfold yielded
        rw [show (l.toArray)[j]? = l[j]? from by simp, ht]
        simp only [Option.bind_some]
        rfl
      rw [hy]
      split at h
      · rename_i w' x hx
        rw [hx] at he
        injection h with h
        subst h
        cases w' with
        | true =>
          simp only [EntOK, Rep] at he
          have hin : a.tmps[t]? = some (.bool x) := by
            cases hq : a.tmps[t]? with
            | none => simp [hq, undef] at he
            | some v => simp [hq] at he; rw [he]
          rw [hin]
          cases x <;> cases want <;> rfl
        | false =>
          simp only [EntOK] at he
          have : (match a.tmps[t]? with | some (.bool b) => some b | _ => (none : Option Bool)) = none := by
            cases hq : a.tmps[t]? with
            | none => rfl
            | some v => simp [hq, undef] at he; rw [he]
          rw [this]
          cases want <;> rfl
      · cases h

theorem opd_ok {P : Program} {c : Ctx} {s : St} {a : Act} {w : World} {g : G} {lam : Nat → Nat} (hs : SI P c s a w g lam) {x : Operand} (hf : flagOK s x) : OpdOK g s x (a.eval x) := by
  intro p hp
  cases x with
  | tmp t =>
    have he := hs.env t
    simp only [opd] at hp
    simp only [flagOK] at hf
    split at hp
    · rename_i w' q hq
      rw [hq] at he hf
      simp only at hf
      subst hf
      injection hp with hp
      subst hp
      simpa [EntOK, Act.eval] using he
    · cases hp
  | const v => simp only [opd] at hp; injection hp with hp; subst hp; simp [Rep, Act.eval]
  | func f => simp only [opd] at hp; injection hp with hp; subst hp; simp only [Rep, Act.eval]; exact ⟨[], rfl, by simp [RepL]⟩
  | global g => simp [opd] at hp

theorem dst_lt {o : Oper} {s : St} (h : dstOK o s = true) : ∀ t, o.dst = some t → t < s.n := by
  intro t ht
  rw [dstOK, ht] at h
  simpa [Nat.blt_eq] using h

theorem upon_of_res {P : Program} {o : Oper} {a : Act} {K : Act → World → Prop} {Q : Exit → Act → World → Prop} {R : Value → World → Prop} {r : Result Next}
    (h : OpRes P R r) (hK : ∀ v w', R v w' → K (a.put o.dst v) w') : o.upon P a K Q r := by
  cases r with
  | halt x w => simp [OpRes] at h
  | ok n w =>
    cases n <;> simp only [OpRes] at h <;> simp only [Oper.upon]
    · exact hK _ _ h
    · exact hK _ _ h
    · exact h.mono fun e w' ⟨v, he, hv⟩ => by subst he; exact hK _ _ hv

/-- A new variable of the function's own. -/
theorem SI.newvar {P : Program} {c : Ctx} {s : St} {a : Act} {w : World} {g : G} {lam : Nat → Nat} (hs : SI P c s a w g lam) {d : Nat} (had : s.ad d = false) (hn : d < s.n) {T : TypeId} {cs : List PV} {vs : Array Value} (hr : RepL g cs vs.toList) :
    SI P c (s.var d T cs) (a.put (some d) (.pointer (some ⟨w.heap.size, 0, none⟩))) (w.alloc (.cells vs T (0, 0))) { g with heap := (w.alloc (.cells vs T (0, 0))).heap } (fun t => if t = d then w.heap.size else lam t) := by
  obtain ⟨h1, h2, h3⟩ := mem_push hs.mem (.cells vs T (0, 0))
  have hs1 := hs.world h1 h2 (h3.mono fun _ h => h.elim)
  have hfr : g.fr w.heap.size = 0 := by
    rcases Nat.eq_zero_or_pos (g.fr w.heap.size) with h | h
    · exact h
    · have := hs.mem.lt w.heap.size (by omega); omega
  have hblk : ∀ b, Blocks s.st g b → b < w.heap.size := by
    rintro b ⟨id, k1, k2⟩
    cases ho : s.st id with
    | none => exact absurd ho k1
    | some o =>
      have hob := hs.mem.obj id o ho
      have : ∃ x, g.heap[b]? = some x := by
        unfold Go.Abs.blk at k2
        cases o <;> simp only [ObjOK] at hob
        · obtain ⟨b', n, cap, e, h | ⟨x, e2, _⟩⟩ := hob
          · rw [e] at k2; simp [h] at k2
          · rw [e] at k2; simp at k2; exact ⟨_, k2.2 ▸ e2⟩
        · obtain ⟨b', n, cap, x, e, _, e2, _⟩ := hob; rw [e] at k2; simp at k2; exact ⟨_, k2.2 ▸ e2⟩
        · obtain ⟨b', cap, x, y, e, _, _, e2, _⟩ := hob; rw [e] at k2; simp at k2; exact ⟨_, k2.2 ▸ e2⟩
        · obtain ⟨b', n, cap, x, y, e, _, e2, _⟩ := hob; rw [e] at k2; simp at k2; exact ⟨_, k2.2 ▸ e2⟩
      obtain ⟨x, hx⟩ := this
      have := heap_lt hx
      rwa [hs.mem.heap] at this
  have ne : ∀ u, s.ad u = true → u ≠ d := fun u hu e => by rw [e, had] at hu; cases hu
  have hbox : ∀ t, s.L t ≠ none → lam t < w.heap.size := fun t ht => by
    cases hL : s.L t with
    | none => exact absurd hL ht
    | some x =>
      obtain ⟨vs', k1, _⟩ := hs.box t x.1 x.2 hL
      have := heap_lt k1
      rwa [hs.mem.heap] at this
  exact {
    mem := h1
    le := hs1.le
    frame := hs1.frame
    blk := hs1.blk
    env := fun t => by
      show EntOK _ _ (upd s.env d (true, .adr d 0) t) ((a.tmps.setIfInBounds d _).getD t undef)
      by_cases ht : t = d
      · subst ht
        have : t < a.tmps.size := by rw [hs.n]; exact hn
        rw [upd_same]
        simp [this, EntOK]
      · rw [upd_ne ht]
        have h := hs1.env t
        have hv : (a.tmps.setIfInBounds d (.pointer (some ⟨w.heap.size, 0, none⟩))).getD t undef = a.tmps.getD t undef := by
          simp [Array.getElem?_setIfInBounds_ne (Ne.symm ht)]
        rw [hv]
        cases he : s.env t with
        | mk b e =>
          rw [he] at h
          cases b with
          | false => exact h
          | true =>
            cases e with
            | pv p => exact h
            | adr u off =>
              have := ne u (hs.ad t true u off he)
              simp only [EntOK] at h ⊢
              rw [if_neg this]; exact h
    box := fun t T' cs' e => by
      have e' : upd s.L d (some (T, cs)) t = some (T', cs') := e
      by_cases ht : t = d
      · subst ht
        rw [upd_same] at e'
        injection e' with e'
        injection e' with e1 e2
        subst e1; subst e2
        simp only [if_true]
        refine ⟨vs, ?_, RepL.mono h2 _ _ hr, hfr, hs.frame.size, fun hb => ?_⟩
        · show (w.heap.push _)[w.heap.size]? = _; simp
        · have := hblk _ ((Blocks_le hs.mem h2 _).1 hb); omega
      · rw [upd_ne ht] at e'
        simp only [if_neg ht]
        exact hs1.box t T' cs' e'
    inj := fun t t' e e' hl => by
      have e1 : upd s.L d (some (T, cs)) t ≠ none := e
      have e2 : upd s.L d (some (T, cs)) t' ≠ none := e'
      by_cases ht : t = d
      · by_cases ht' : t' = d
        · rw [ht, ht']
        · rw [upd_ne ht'] at e2
          simp only [if_pos ht, if_neg ht'] at hl
          have := hbox t' e2; omega
      · rw [upd_ne ht] at e1
        by_cases ht' : t' = d
        · simp only [if_neg ht, if_pos ht'] at hl
          have := hbox t e1; omega
        · rw [upd_ne ht'] at e2
          simp only [if_neg ht, if_neg ht'] at hl
          exact hs.inj t t' e1 e2 hl
    ad := fun t b u off e => by
      have e' : upd s.env d (true, .adr d 0) t = (b, .adr u off) := e
      show upd s.ad d true u = true
      by_cases hu : u = d
      · rw [hu, upd_same]
      · rw [upd_ne hu]
        by_cases ht : t = d
        · subst ht; rw [upd_same] at e'; injection e' with h1 h2; injection h2 with h2 h3; exact absurd h2.symm hu
        · rw [upd_ne ht] at e'; exact hs.ad t b u off e'
    adL := fun t e => by
      have e' : upd s.L d (some (T, cs)) t ≠ none := e
      show upd s.ad d true t = true
      by_cases ht : t = d
      · rw [ht, upd_same]
      · rw [upd_ne ht] at e' ⊢; exact hs.adL t e'
    defers := hs.defers
    n := by show (a.tmps.setIfInBounds d _).size = s.n; simp [hs.n] }

theorem setRow_heap_ne (w : World) (b : Nat) (xs : Array Value) (k : Nat) (h : k ≠ b) : (w.setRow b xs).heap[k]? = w.heap[k]? := by
  simp only [World.setRow, Array.getElem?_modify]
  rw [if_neg (by omega)]

/-- A block that no reading looks into is written: all that is known stays so. -/
theorem mem_setRow {P : Program} {st : Store} {w : World} {g : G} (hm : MemOK P st w g) {b : Nat} {xs : Array Value} {cur : Array Value} {T : TypeId} (hb : w.heap[b]? = some (.cells cur T (0, 0))) (hfr : g.fr b = 0) (hn : ¬ Blocks st g b) :
    MemOK P st (w.setRow b xs) { g with heap := (w.setRow b xs).heap } ∧ Le g { g with heap := (w.setRow b xs).heap } := by
  have hfm : ∀ k, g.fm k → k ≠ b := fun k hk e => by
    obtain ⟨ents, clock, h⟩ := hm.fmm k hk
    rw [e, hb] at h; cases h
  have old : ∀ k, k ≠ b → (w.setRow b xs).heap[k]? = w.heap[k]? := fun k hk => setRow_heap_ne w b xs k hk
  have hle : Le g { g with heap := (w.setRow b xs).heap } := by
    refine ⟨fun _ _ h => h, fun _ => Nat.le_refl _, fun k i hi => ?_, fun k hk => ⟨hk, ?_⟩⟩
    · have hkb : k ≠ b := fun e => by rw [e, hfr] at hi; omega
      show cellAt (w.setRow b xs).heap k i = cellAt g.heap k i
      rw [hm.heap]
      simp only [cellAt, old k hkb]
    · show (w.setRow b xs).heap[k]? = g.heap[k]?
      rw [hm.heap, old k (hfm k hk)]
  have hsz : (w.setRow b xs).heap.size = w.heap.size := by simp [World.setRow]
  refine ⟨⟨rfl, fun id o e => ?_, hm.inj, fun k h => by rw [hsz]; exact hm.lt k h, fun k h => ?_, hm.fin⟩, hle⟩
  · have h := hm.obj id o e
    have ne : ∀ {k n cap}, g.io id = some (k, n, cap) → cap ≠ 0 → k ≠ b := fun {k n cap} e1 e2 e3 => by
      subst e3; exact hn ⟨id, by rw [e]; simp, by simp [Go.Abs.blk, e1, e2]⟩
    have lt : ∀ {k : Nat} {x : Obj}, k ≠ b → g.heap[k]? = some x → (w.setRow b xs).heap[k]? = some x := fun {k x} hk e => by
      rw [old k hk, ← hm.heap]; exact e
    cases o with
    | tok T =>
      simp only [ObjOK] at h ⊢
      obtain ⟨k, n, cap, h1, h2⟩ := h
      refine ⟨k, n, cap, h1, ?_⟩
      by_cases hc : cap = 0
      · exact .inl hc
      · rcases h2 with h2 | ⟨c, h2, h3, h4⟩
        · exact .inl h2
        · exact .inr ⟨c, lt (ne h1 hc) h2, h3, h4⟩
    | cells T cs =>
      simp only [ObjOK] at h ⊢
      obtain ⟨k, n, cap, vs, h1, h2, h3, h4, h5⟩ := h
      exact ⟨k, n, cap, vs, h1, h2, lt (ne h1 h2) h3, RepL.mono hle _ _ h4, h5⟩
    | arr T rows =>
      simp only [ObjOK] at h ⊢
      obtain ⟨k, cap, vs, sp, h1, h2, h3, h4, h5, h6, h7, h8⟩ := h
      exact ⟨k, cap, vs, sp, h1, h2, h3, lt (ne h1 h2) h4, h5, h6, RepL.mono hle _ _ h7, h8⟩
    | map es =>
      simp only [ObjOK] at h ⊢
      obtain ⟨k, n, cap, ents, clock, h1, h2, h3, h4, h5, h6⟩ := h
      exact ⟨k, n, cap, ents, clock, h1, h2, lt (ne h1 h2) h3, RepE.mono hle _ _ h4, h5, h6⟩
  · obtain ⟨ents, clock, e⟩ := hm.fmm k h
    exact ⟨ents, clock, by rw [old k (hfm k h)]; exact e⟩

theorem SI.setvar {P : Program} {c : Ctx} {s : St} {a : Act} {w : World} {g : G} {lam : Nat → Nat} (hs : SI P c s a w g lam) {t : Nat} {T : TypeId} {cs cs' : List PV} {xs : Array Value} (hL : s.L t = some (T, cs)) (hr : RepL g cs' xs.toList) :
    SI P c { s with L := upd s.L t (some (T, cs')) } (a.put none undef) (w.setRow (lam t) xs) { g with heap := (w.setRow (lam t) xs).heap } lam := by
  obtain ⟨vs, k1, k2, k3, k4, k5⟩ := hs.box t T cs hL
  have k1' := k1
  rw [hs.mem.heap] at k1'
  obtain ⟨m1, m2⟩ := mem_setRow (xs := xs) hs.mem k1' k3 k5
  have hsz : (w.setRow (lam t) xs).heap.size = w.heap.size := by simp [World.setRow]
  exact {
    mem := m1
    le := hs.le.trans m2
    frame := hs.frame.trans (B' := fun b => b = lam t) ⟨rfl, rfl, rfl, by rw [hsz]; exact Nat.le_refl _, fun b hb hne => ⟨setRow_heap_ne w _ _ _ hne, rfl, Iff.rfl⟩⟩ (fun b hb e => by subst e; omega)
    blk := hs.blk
    env := fun u => (hs.env u).mono m2
    box := fun u T' cs'' e => by
      have e' : upd s.L t (some (T, cs')) u = some (T', cs'') := e
      by_cases hu : u = t
      · subst hu
        rw [upd_same] at e'
        injection e' with e'
        injection e' with e1 e2
        subst e1; subst e2
        exact ⟨xs, setRow_heap w (lam u) vs xs T (0, 0) k1', RepL.mono m2 _ _ hr, k3, k4, k5⟩
      · rw [upd_ne hu] at e'
        obtain ⟨vs', j1, j2, j3, j4, j5⟩ := hs.box u T' cs'' e'
        have hne : lam u ≠ lam t := fun h => hu (hs.inj u t (by rw [e']; simp) (by rw [hL]; simp) h)
        refine ⟨vs', ?_, RepL.mono m2 _ _ j2, j3, j4, j5⟩
        show (w.setRow (lam t) xs).heap[lam u]? = _
        rw [setRow_heap_ne w _ _ _ hne, ← hs.mem.heap]; exact j1
    inj := fun u u' e e' hl => by
      have e1 : upd s.L t (some (T, cs')) u ≠ none := e
      have e2 : upd s.L t (some (T, cs')) u' ≠ none := e'
      refine hs.inj u u' ?_ ?_ hl
      · by_cases hu : u = t
        · rw [hu, hL]; simp
        · rwa [upd_ne hu] at e1
      · by_cases hu : u' = t
        · rw [hu, hL]; simp
        · rwa [upd_ne hu] at e2
    ad := hs.ad
    adL := fun u e => by
      have e1 : upd s.L t (some (T, cs')) u ≠ none := e
      by_cases hu : u = t
      · exact hs.adL u (by rw [hu, hL]; simp)
      · rw [upd_ne hu] at e1; exact hs.adL u e1
    defers := hs.defers
    n := hs.n }

/-- What one-cell load, a load of many cells, do at a variable of the function's own. -/
theorem run_isAgg {P : Program} {T : TypeId} {w : World} {b : Bool} (h : isAggT P T = b) (hu : (P.underlying T).isSome = true) : (isAgg T).run P w = .ok b w := by
  unfold isAggT at h
  unfold isAgg underlying
  cases hd : P.underlying T with
  | none => rw [hd] at hu; cases hu
  | some d => rw [hd] at h; cases d <;> simp_all

theorem under_of_agg {P : Program} {T : TypeId} (h : isAggT P T = true) : (P.underlying T).isSome = true := by
  unfold isAggT at h
  cases hd : P.underlying T with
  | none => rw [hd] at h; cases h
  | some d => rfl

theorem run_sizeOf {P : Program} {T : TypeId} {w : World} {k : Nat} (h : (P.info? T).map (·.size) = some k) : (sizeOf T).run P w = .ok k w := by
  cases hi : P.info? T with
  | none => rw [hi] at h; cases h
  | some i => rw [hi] at h; simp at h; simp [sizeOf, typeInfo, hi, h]

theorem run_zeroValue {P : Program} {T : TypeId} {w : World} {z : Value} (h : (P.info? T).bind (·.zero) = some z) : (zeroValue T).run P w = .ok z w := by
  cases hi : P.info? T with
  | none => rw [hi] at h; cases h
  | some i => rw [hi] at h; simp at h; simp [zeroValue, typeInfo, hi, h]

theorem cell_of_heap {w : World} {b off : Nat} {c : Array Value} {T : TypeId} {fz : Nat × Nat} (h : w.heap[b]? = some (.cells c T fz)) : w.cell? ⟨b, off, none⟩ = c[off]? := by
  simp [World.cell?, h]

theorem addr_add (b off k : Nat) : (Addr.add ⟨b, off, none⟩ k) = ⟨b, off + k, none⟩ := by
  simp [Addr.add]
  try (intro h; simp [h])

theorem AStep.sound {P : Program} {l : List Oper} {o : Oper} {s : St} {T : Tr} (h : AStep P l o s T) {c : Ctx} {a : Act} {w : World} {g : G} {lam : Nat → Nat} (hs : SI P c s a w g lam)
    {K : Act → World → Prop} {Q : Exit → Act → World → Prop} (hK : ∀ a' w' g' lam', SI P c (T.app s) a' w' g' lam' → K a' w') : OneOp P l o a w K Q := by
  unfold OneOp
  have skip : ∀ {b : Bool} {e : E}, b = false → dstOK o s = true → (∀ a' w' g' lam', SI P c (s.put o.dst b e) a' w' g' lam' → K a' w') → (∀ u off, e = .adr u off → s.ad u = true) → K (a.put o.dst undef) w := by
    intro b e hb hd hk had
    subst hb
    exact hk _ _ _ _ (hs.put (dst_lt hd) (by simp [EntOK]) had)
  cases h with
  | val b p hw hd hf hv =>
    rw [wanted_of hs hw]
    cases b with
    | false => simp only [Bool.false_eq_true, if_false]; exact skip rfl hd hK (fun _ _ e => by cases e)
    | true =>
      simp only [if_true]
      refine upon_of_res (hv rfl w g a.eval hs.mem fun x hx => opd_ok hs (hf rfl x hx)) ?_
      rintro v w' ⟨g', h1, h2, h3, h4⟩
      exact hK _ _ _ _ ((hs.world h2 h3 h4).put (dst_lt hd) h1 (fun _ _ e => by cases e))
  | pick b t x y wt q p hw hd ho ht hwt ha hb =>
    rw [wanted_of hs hw]
    cases b with
    | false => simp only [Bool.false_eq_true, if_false]; exact skip rfl hd hK (fun _ _ e => by cases e)
    | true =>
      simp only [if_true]
      have hq : a.eval (.tmp t) = .bool q := by rw [hwt rfl] at ht; exact hs.tmp_bool ht
      have hrun : (execOp a.eval o).run P w = .ok (.value (if q then a.eval x else a.eval y)) w := by
        simp [execOp, ho, hq, asBool]
      refine upon_of_res (R := fun v w' => v = (if q then a.eval x else a.eval y) ∧ w' = w) (by rw [hrun]; exact ⟨rfl, rfl⟩) ?_
      rintro v w' ⟨rfl, rfl⟩
      refine hK _ _ _ _ (hs.put (dst_lt hd) ?_ (fun _ _ e => by cases e))
      cases q with
      | true => obtain ⟨h1, h2⟩ := ha rfl rfl; exact opd_ok hs h1 p h2
      | false => obtain ⟨h1, h2⟩ := hb rfl rfl; exact opd_ok hs h1 p h2
  | adrI b wx t off U x y k i n e sz j hw hd ho hx hy hf hu hs' hj =>
    rw [wanted_of hs hw]
    have hin : s.ad t = true := hs.ad x _ _ _ hx
    cases b with
    | false => simp only [Bool.false_eq_true, if_false]; exact skip rfl hd hK (fun _ _ e => by cases e; exact hin)
    | true =>
      simp only [if_true]
      obtain ⟨rfl, hfy⟩ := hf rfl
      obtain ⟨rfl, hlt⟩ := hj rfl
      have hx1 := hs.env x
      rw [hx] at hx1
      have hx' : a.eval (.tmp x) = .pointer (some ⟨lam t, off, none⟩) := hx1
      have ey : a.eval y = .int k (j : Int) := by simpa [Rep] using opd_ok hs hfy _ hy
      have hin' : (0 : Int) ≤ (j : Int) ∧ (j : Int) < (n : Int) := by omega
      have hrun : (execOp a.eval o).run P w = .ok (.value (.pointer (some ⟨lam t, off + j * sz, none⟩))) w := by
        simp only [execOp, ho, Instr.indexAt, ey, hx', asIntOf, Sem.run_bind, Sem.run_pure, Result.andThen_ok, run_underlying hu, Instr.sureAddr]
        rw [if_pos hin']
        simp only [Sem.run_bind, run_sizeOf hs', Result.andThen_ok, Sem.run_pure, Int.toNat_natCast, addr_add]
      refine upon_of_res (R := fun v w' => v = .pointer (some ⟨lam t, off + j * sz, none⟩) ∧ w' = w) (by rw [hrun]; exact ⟨rfl, rfl⟩) ?_
      rintro v w' ⟨rfl, rfl⟩
      exact hK _ _ _ _ (hs.put (dst_lt hd) (by simp [EntOK]) (fun _ _ e => by cases e; exact hin))
  | adr b wx t off hw hd ho hf =>
    rw [wanted_of hs hw]
    have hop : ∃ U x f w' t' off' fs fd, o.op = .fieldAddr U (.tmp x) f ∧ s.env x = (w', .adr t' off') ∧ P.underlying U = some (.struct fs) ∧ fs[f]? = some fd ∧ P.cellsOf fd.type ≠ 0 ∧ w' = wx ∧ t' = t ∧ off' + fd.offset = off := by
      unfold addrOf at ho
      split at ho
      · rename_i U x f heq
        split at ho
        · rename_i w' t' off' hx
          split at ho
          · rename_i fs hu
            split at ho
            · rename_i fd hfd
              split at ho
              · cases ho
              · rename_i hne
                injection ho with ho
                injection ho with h1 h2
                injection h2 with h2 h3
                exact ⟨U, x, f, w', t', off', fs, fd, heq, hx, hu, hfd, hne, h1, h2, h3⟩
            · cases ho
          · cases ho
        · cases ho
      · cases ho
    obtain ⟨U, x, f, w', t', off', fs, fd, h1, h2, h3, h4, h5, rfl, rfl, rfl⟩ := hop
    have hin : s.ad t' = true := hs.ad x _ _ _ h2
    cases b with
    | false => simp only [Bool.false_eq_true, if_false]; exact skip rfl hd hK (fun _ _ e => by cases e; exact hin)
    | true =>
      simp only [if_true]
      have hx := hs.env x
      rw [h2, hf rfl] at hx
      simp only [EntOK] at hx
      have hx' : a.eval (.tmp x) = .pointer (some ⟨lam t', off', none⟩) := hx
      have hsz : (sizeOf fd.type).run P w = .ok (P.cellsOf fd.type) w := by
        refine run_sizeOf ?_
        unfold Program.cellsOf at h5 ⊢
        cases hi : P.info? fd.type with
        | none => rw [hi] at h5; simp at h5
        | some i => simp
      have hrun : (execOp a.eval o).run P w = .ok (.value (.pointer (some ⟨lam t', off' + fd.offset, none⟩))) w := by
        simp [execOp, h1, Instr.fieldAt, underlying, h3, h4, hx', Instr.sureAddr, fieldPlace, hsz, h5, Addr.add]
        try (intro h0; simp [h0])
      refine upon_of_res (R := fun v w' => v = .pointer (some ⟨lam t', off' + fd.offset, none⟩) ∧ w' = w) (by rw [hrun]; exact ⟨rfl, rfl⟩) ?_
      rintro v w' ⟨rfl, rfl⟩
      exact hK _ _ _ _ (hs.put (dst_lt hd) (by simp [EntOK]) (fun _ _ e => by cases e; exact hin))
  | load1 b wx U x t off T' cs p hw hd ho hx hf hL hT hu hc =>
    rw [wanted_of hs hw]
    cases b with
    | false => simp only [Bool.false_eq_true, if_false]; exact skip rfl hd hK (fun _ _ e => by cases e)
    | true =>
      simp only [if_true]
      have hx1 := hs.env x
      rw [hx, hf rfl] at hx1
      have hx' : a.eval (.tmp x) = .pointer (some ⟨lam t, off, none⟩) := hx1
      obtain ⟨vs, k1, k2, -⟩ := hs.box t T' cs hL
      obtain ⟨v, e1, e2⟩ := k2.get hc
      have hcell : w.cell? ⟨lam t, off, none⟩ = some v := by
        rw [hs.mem.heap] at k1
        rw [cell_of_heap k1]; simpa using e1
      have hrun : (execOp a.eval o).run P w = .ok (.value v) w := by
        simp [execOp, ho, Instr.loadAt, Instr.sureAddr, hx', loadVar, run_isAgg hT hu, hcell]
      refine upon_of_res (R := fun u w' => u = v ∧ w' = w) (by rw [hrun]; exact ⟨rfl, rfl⟩) ?_
      rintro u w' ⟨rfl, rfl⟩
      exact hK _ _ _ _ (hs.put (dst_lt hd) e2 (fun _ _ e => by cases e))
  | loadA b wx U x t off T' cs k hw hd ho hx hf hL hT hk hc =>
    rw [wanted_of hs hw]
    cases b with
    | false => simp only [Bool.false_eq_true, if_false]; exact skip rfl hd hK (fun _ _ e => by cases e)
    | true =>
      simp only [if_true]
      have hx1 := hs.env x
      rw [hx, hf rfl] at hx1
      have hx' : a.eval (.tmp x) = .pointer (some ⟨lam t, off, none⟩) := hx1
      obtain ⟨vs, k1, k2, -⟩ := hs.box t T' cs hL
      have hr := (k2.drop off).take k
      have hlen := k2.length
      have hl2 : ((vs.toList.drop off).take k).length = k := by simp at hlen ⊢; omega
      have hrun0 : (loadCells ⟨lam t, off, none⟩ k).run P w = .ok ((vs.toList.drop off).take k).toArray w := by
        have := run_loadCells_list (P := P) (w := w) ⟨lam t, off, none⟩ ((vs.toList.drop off).take k) (fun j v hj => by
          rw [hs.mem.heap] at k1
          have hj2 : j < k := by
            have : j < ((vs.toList.drop off).take k).length := by
              rcases Nat.lt_or_ge j ((vs.toList.drop off).take k).length with h | h
              · exact h
              · rw [List.getElem?_eq_none h] at hj; cases hj
            omega
          have : (Addr.add ⟨lam t, off, none⟩ j) = ⟨lam t, off + j, none⟩ := by
            unfold Addr.add; split
            · simp_all
            · rfl
          rw [this, cell_of_heap k1]
          simpa [List.getElem?_take, hj2, List.getElem?_drop] using hj)
        rw [hl2] at this
        exact this
      have hrun : (execOp a.eval o).run P w = .ok (.value (.agg ((vs.toList.drop off).take k).toArray)) w := by
        simp [execOp, ho, Instr.loadAt, Instr.sureAddr, hx', loadVar, run_isAgg hT (under_of_agg hT), run_sizeOf hk, hrun0]
      refine upon_of_res (R := fun u w' => u = .agg ((vs.toList.drop off).take k).toArray ∧ w' = w) (by rw [hrun]; exact ⟨rfl, rfl⟩) ?_
      rintro u w' ⟨rfl, rfl⟩
      exact hK _ _ _ _ (hs.put (dst_lt hd) (by simp only [EntOK, Rep]; exact ⟨_, rfl, hr⟩) (fun _ _ e => by cases e))
  | alloc d T z hg hd hn had ho hz =>
    have hw : Region.wanted o (yielded l.toArray a.tmps) = true := by simp [Region.wanted, hg]
    rw [hw]
    simp only [if_true]
    have hrun : (execOp a.eval o).run P w = .ok (.value (.pointer (some ⟨w.heap.size, 0, none⟩))) (w.alloc (.cells z.cells T (0, 0))) := by
      simp [execOp, ho, Instr.alloc, run_zeroValue hz, newVar, newRow]
    refine upon_of_res (R := fun u w' => u = .pointer (some ⟨w.heap.size, 0, none⟩) ∧ w' = w.alloc (.cells z.cells T (0, 0))) (by rw [hrun]; exact ⟨rfl, rfl⟩) ?_
    rintro u w' ⟨rfl, rfl⟩
    rw [hd]
    refine hK _ _ _ _ (hs.newvar had (by simpa [Nat.blt_eq] using hn) ?_)
    exact RepL.vals _
  | box d T x p hg hd hn had ho hf hx hp =>
    have hw : Region.wanted o (yielded l.toArray a.tmps) = true := by simp [Region.wanted, hg]
    rw [hw]
    simp only [if_true]
    have hrun : (execOp a.eval o).run P w = .ok (.value (.pointer (some ⟨w.heap.size, 0, none⟩))) (w.alloc (.cells (a.eval x).cells T (0, 0))) := by
      simp [execOp, ho, Instr.box, newVar, newRow]
    refine upon_of_res (R := fun u w' => u = .pointer (some ⟨w.heap.size, 0, none⟩) ∧ w' = w.alloc (.cells (a.eval x).cells T (0, 0))) (by rw [hrun]; exact ⟨rfl, rfl⟩) ?_
    rintro u w' ⟨rfl, rfl⟩
    rw [hd]
    refine hK _ _ _ _ (hs.newvar had (by simpa [Nat.blt_eq] using hn) ?_)
    exact ((opd_ok hs hf p hx).cells hp).1
  | store T x y t off T' cs p hg hd ho hx hL hf hy hp hk hc =>
    have hw : Region.wanted o (yielded l.toArray a.tmps) = true := by simp [Region.wanted, hg]
    rw [hw]
    simp only [if_true]
    have hx1 := hs.env x
    rw [hx] at hx1
    have hx' : a.eval (.tmp x) = .pointer (some ⟨lam t, off, none⟩) := hx1
    obtain ⟨vs, k1, k2, k3, k4, k5⟩ := hs.box t T' cs hL
    obtain ⟨m1, m2⟩ := (opd_ok hs hf p hy).cells hp
    have hlen := k2.length
    have hlen2 := m1.length
    have hsz : (a.eval y).cells.size = p.cells.length := by simpa using hlen2
    have k1' := k1
    rw [hs.mem.heap] at k1'
    have hrun0 := run_storeCells_at P (lam t) off T' (a.eval y).cells.toList 0 vs w k1' (by simp at hlen hlen2 ⊢; omega) m2
    have hrun : (execOp a.eval o).run P w = .ok .skip (w.setRow (lam t) (vs.toList.take off ++ (a.eval y).cells.toList ++ vs.toList.drop (off + (a.eval y).cells.toList.length)).toArray) := by
      simp only [Nat.add_zero] at hrun0
      simp only [execOp, ho, Instr.storeAt, Instr.sureAddr, hx', storeVar, run_sizeOf hk, Sem.run_bind, Sem.run_pure, Result.andThen_ok, hsz, ne_eq, not_true_eq_false, if_false, hrun0]
    refine upon_of_res (R := fun u w' => u = undef ∧ w' = w.setRow (lam t) (vs.toList.take off ++ (a.eval y).cells.toList ++ vs.toList.drop (off + (a.eval y).cells.toList.length)).toArray) (by rw [hrun]; exact ⟨rfl, rfl⟩) ?_
    rintro u w' ⟨rfl, rfl⟩
    rw [hd]
    refine hK _ _ _ _ (hs.setvar hL ?_)
    rw [setAt_eq cs off p.cells hc]
    have := (((k2.take off).append m1).append (k2.drop (off + p.cells.length)))
    rw [hlen2]
    exact this
