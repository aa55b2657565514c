/-
  ABS, part 10: operations that turn the objects: calls that do, append, new slices that may be appended to.
-/
import Derived.Test.YtghjdkbmjjalmaaAbsMore
import Derived.Deep.AppendSrc
namespace Go.Abs
open Go

section
variable {P : Program} {tt : TT}

/-- The memory goes on, objects turned. -/
theorem SI.step {c : Ctx} {s : St} {a : Act} {w w' : World} {g g' : G} {lam : Nat → Nat} (hs : SI P c s a w g lam) {st' : Store} (hm : MemOK P st' w' g') (hl : Le g g') (hf : Frame (Blocks s.st g) w g w' g')
    (hb : ∀ b, Blocks st' g' b → Blocks s.st g b ∨ w.heap.size ≤ b) : SI P c (s.sst (st')) a w' g' lam where
  mem := hm
  le := hs.le.trans hl
  frame := hs.frame.trans hf fun b hb h => (hs.blk b h).resolve_right (by omega)
  blk b h := by
    rcases hb b h with h | h
    · exact hs.blk b h
    · right; have := hs.frame.size; omega
  env t := (hs.env t).mono hl
  box t T cs e := by
    obtain ⟨vs, h1, h2, h3, h4, h5⟩ := hs.box t T cs e
    have hlt : lam t < w.heap.size := by have := heap_lt h1; rwa [hs.mem.heap] at this
    obtain ⟨k1, k2, _⟩ := hf.old _ hlt h5
    refine ⟨vs, ?_, RepL.mono hl _ _ h2, k2.trans h3, h4, fun h => ?_⟩
    · rw [hm.heap, k1, ← hs.mem.heap]; exact h1
    · rcases hb _ h with h | h
      · exact h5 h
      · omega
  inj := hs.inj
  ad := hs.ad
  adL := hs.adL
  defers := hs.defers
  n := hs.n

section
variable {l : List Oper} {r : List Oper} {s : St} {K : St → Prop} {t : Nat} {dst : Option Nat} {ty : TypeId} {pos : String} {after : Array Edge} {gd : Option (Nat × Bool)}

theorem evs_op {o : Oper} (hg : o.guard = none) (h : ∀ c a w g lam, SI P c s a w g lam → OpRes P (fun v w' => ∃ s' g' lam', Ev P l false r s' K ∧ SI P c s' (a.put o.dst v) w' g' lam') ((execOp a.eval o).run P w)) : Ev P l false (o :: r) s K := by
  intro c a w g lam hs K' Q hK
  unfold OneOp
  have hw : Region.wanted o (yielded l.toArray a.tmps) = true := by simp [Region.wanted, hg]
  rw [hw]
  simp only [if_true]
  refine upon_of_res (h c a w g lam hs) ?_
  rintro v w' ⟨s', g', lam', h1, h2⟩
  exact hK _ _ _ _ _ h1 h2

theorem dst_lt' {d : Option Nat} (hd : ∀ t, d = some t → Nat.blt t s.n = true) : ∀ t, d = some t → t < s.n := fun t e => by simpa [Nat.blt_eq] using hd t e

/-- A call that turns objects. -/
theorem ev_callR {f : Operand} {args : Array Operand} {ts : Array TypeId} {fid : FuncId} {caps ps : List PV} (qs : List PV) {R : PV → Store → Prop} (hf : opd s f = some (.fn fid caps)) (hps : opdL s args.toList = some ps) (hw : WkL ps qs) (h : PC P fid (qs ++ caps) s.st R) (hfl : flagsB s (f :: args.toList) = true) (hd : Nat.blt t s.n = true)
    (k : ∀ p st', R p st' → Ev P l false r ((s.sst (st')).pv t p) K) : Ev P l false (⟨some t, .call ⟨.value f, args, ts⟩, ty, pos, after, none⟩ :: r) s K := by
  refine evs_op rfl fun c a w g lam hs => ?_
  have hall := flagsB_mem hfl
  have rf := opd_ok hs (hall f (by simp)) _ hf
  have ra := opdL_rep hps (g := g) (ρ := a.eval) (fun x hx => opd_ok hs (hall x (by simp; exact .inr (by simpa using hx))))
  simp only [Rep] at rf
  obtain ⟨vs, e, rf⟩ := rf
  obtain ⟨hc, hcall⟩ := h
  rw [run_call rfl e hc]
  simp only [OpRes]
  have := hcall w g (args.toList.map a.eval ++ vs) hs.mem ((hw.rep ra).append rf)
  rw [show (args.map a.eval ++ vs.toArray) = (args.toList.map a.eval ++ vs).toArray from by apply Array.toList_inj.1; simp]
  refine this.mono ?_
  rintro e' w' ⟨v, p, st', g', rfl, hR, h3, h4, h5, h6, h7⟩
  exact ⟨v, rfl, _, g', lam, k p st' hR, (hs.step h4 h5 h6 h7).put (d := some t) (b := true) (e := .pv p) (fun z hz => by cases hz; simpa [Nat.blt_eq, St.sst] using hd) h3 (fun _ _ e => by cases e)⟩

theorem RepR.vals {g : G} {b sz : Nat} : ∀ {rows : List (List PV)} {off : Nat}, RepR g b off sz rows → ∃ vs, RepL g rows.flatten vs ∧ vs.length = rows.length * sz ∧ ∀ j v, vs[j]? = some v → cellAt g.heap b (off + j) = some v ∧ off + j < g.fr b
  | [], _, _ => ⟨[], by simp [RepL], by simp, by simp⟩
  | r :: rs, off, h => by
    simp only [RepR] at h
    obtain ⟨h1, h2, h3⟩ := h
    have key : ∀ {cs : List PV} {o : Nat}, RepA g b o cs → ∃ vs, RepL g cs vs ∧ ∀ j v, vs[j]? = some v → cellAt g.heap b (o + j) = some v ∧ o + j < g.fr b := by
      intro cs
      induction cs with
      | nil => intro o _; exact ⟨[], by simp [RepL], by simp⟩
      | cons c cs ih =>
        intro o hh
        simp only [RepA] at hh
        obtain ⟨⟨v, e1, e2, e3⟩, e4⟩ := hh
        obtain ⟨vs, k1, k2⟩ := ih e4
        refine ⟨v :: vs, by simp only [RepL]; exact ⟨v, vs, rfl, e3, k1⟩, fun j u hj => ?_⟩
        cases j with
        | zero => simp at hj; subst hj; exact ⟨e1, e2⟩
        | succ j => simp at hj; have := k2 j u hj; rwa [show o + (j + 1) = o + 1 + j from by omega]
    obtain ⟨v1, a1, a2⟩ := key h2
    obtain ⟨v2, b1, b2, b3⟩ := RepR.vals h3
    have hl1 := a1.length
    refine ⟨v1 ++ v2, by simp only [List.flatten_cons]; exact a1.append b1, by simp [b2, hl1, h1, Nat.add_mul]; omega, fun j v hj => ?_⟩
    rcases Nat.lt_or_ge j v1.length with hlt | hge
    · rw [List.getElem?_append_left hlt] at hj; exact a2 j v hj
    · rw [List.getElem?_append_right hge] at hj
      have := b3 _ v hj
      rwa [show off + sz + (j - v1.length) = off + j from by omega] at this

/-- Cells that lie there read as rows. -/
theorem RepR.mk {g : G} {b sz : Nat} : ∀ {rows : List (List PV)} {off : Nat} {vs : List Value}, (∀ r ∈ rows, r.length = sz) → RepL g rows.flatten vs → (∀ j v, vs[j]? = some v → cellAt g.heap b (off + j) = some v ∧ off + j < g.fr b) → RepR g b off sz rows
  | [], _, _, _, _, _ => by simp [RepR]
  | r :: rs, off, vs, h, hr, hc => by
    have key : ∀ {cs : List PV} {o : Nat} {us : List Value}, RepL g cs us → (∀ j v, us[j]? = some v → cellAt g.heap b (o + j) = some v ∧ o + j < g.fr b) → RepA g b o cs := by
      intro cs
      induction cs with
      | nil => intro o us _ _; simp [RepA]
      | cons c cs ih =>
        intro o us hh hcc
        simp only [RepL] at hh
        obtain ⟨v, us', rfl, e1, e2⟩ := hh
        simp only [RepA]
        refine ⟨⟨v, by simpa using (hcc 0 v (by simp)).1, by simpa using (hcc 0 v (by simp)).2, e1⟩, ih e2 fun j u hj => ?_⟩
        have := hcc (j + 1) u (by simpa using hj)
        rwa [show o + (j + 1) = o + 1 + j from by omega] at this
    simp only [List.flatten_cons] at hr
    have hl := hr.length
    have h1 : RepL g r (vs.take r.length) := by have := hr.take r.length; simpa using this
    have h2 : RepL g rs.flatten (vs.drop r.length) := by have := hr.drop r.length; simpa using this
    simp only [RepR]
    have hrl := h r (by simp)
    refine ⟨hrl, key h1 fun j v hj => ?_, RepR.mk (fun r' hr' => h r' (by simp [hr'])) h2 fun j v hj => ?_⟩
    · rw [List.getElem?_take] at hj
      split at hj
      · exact hc j v hj
      · cases hj
    · rw [List.getElem?_drop] at hj
      have := hc _ v hj
      rwa [show off + (r.length + j) = off + sz + j from by omega] at this

theorem src_of {w : World} {g : G} {st : Store} (htt : TTOK P tt) (hm : MemOK P st w g) {p : PV} {rows : List (List PV)} {x : Value} (hp : prows p = some rows) (hr : Rep g p x) {tx : TypeId} (hk : isSliceT tt tx = true) {sz : Nat} (hl : ∀ r ∈ rows, r.length = sz) (h1 : ∀ r ∈ rows, r.all PV.one = true) :
    ∃ news, Src P sz tx x rows.length news w ∧ RepL g rows.flatten news := by
  have hu : ∃ e', P.underlying tx = some (.slice e') := by
    unfold isSliceT at hk
    split at hk
    · rename_i e he; exact ⟨e, tk_slice (tiK_ok htt he).1⟩
    · cases hk
  obtain ⟨e', hu⟩ := hu
  have hr' := prows_ok hp hr
  simp only [Rep] at hr'
  obtain ⟨a, cap, rfl, _, _, h4⟩ := hr'
  have ones : ∀ vs, RepL g rows.flatten vs → ∀ u ∈ vs, u.oneCell' = true := fun vs hv => hv.ones (by
    rw [List.all_eq_true]
    intro c hc
    obtain ⟨r, hr, hc⟩ := List.mem_flatten.1 hc
    exact List.all_eq_true.1 (h1 r hr) c hc)
  have nilcase : rows = [] → ∃ news, Src P sz tx (.slice a rows.length cap) rows.length news w ∧ RepL g rows.flatten news := fun h0 => by
    subst h0
    refine ⟨[], ?_, by simp [RepL]⟩
    cases a with
    | none => exact Src.ofNil w hu cap
    | some a => exact Src.ofSlice w hu a 0 cap [] (by simp) (by simp) (by simp)
  rcases h4 with h4 | ⟨b, off, sz', rfl, hR⟩
  · exact nilcase h4
  · obtain ⟨vs, v1, v2, v3⟩ := hR.vals
    by_cases h0 : rows = []
    · exact nilcase h0
    · have hsz : sz' = sz := by
        cases rows with
        | nil => exact absurd rfl h0
        | cons r rs => simp only [RepR] at hR; have := hl r (by simp); omega
      subst hsz
      exact ⟨vs, Src.ofSlice w hu ⟨b, off, none⟩ rows.length cap vs v2 (fun j u hj => by rw [addr_add]; exact cell_of_at hm (v3 j u hj).1) (ones vs v1), v1⟩

theorem ObjOK.keep {g g' : G} {id : Nat} (hl : Le g g') (hb : ∀ b, Go.Abs.blk g id = some b → g'.heap[b]? = g.heap[b]? ∧ g'.fr b = g.fr b ∧ (g'.fm b ↔ g.fm b)) : ∀ {o : AObj}, ObjOK P g id o → ObjOK P g' id o := by
  have key : ∀ {b n cap}, g.io id = some (b, n, cap) → cap ≠ 0 → Go.Abs.blk g id = some b := fun {b n cap} h1 h2 => by simp [Go.Abs.blk, h1, h2]
  intro o h
  cases o with
  | tok T =>
    simp only [ObjOK] at h ⊢
    obtain ⟨b, n, cap, h1, h2⟩ := h
    refine ⟨b, n, cap, hl.io _ _ h1, ?_⟩
    by_cases hc : cap = 0
    · exact .inl hc
    · rcases h2 with h2 | ⟨c, h2, h3, h4⟩
      · exact .inl h2
      · obtain ⟨k1, k2, k3⟩ := hb b (key h1 hc)
        exact .inr ⟨c, k1.trans h2, h3, k2.trans h4⟩
  | cells T cs =>
    simp only [ObjOK] at h ⊢
    obtain ⟨b, n, cap, vs, h1, h2, h3, h4, h5⟩ := h
    obtain ⟨k1, k2, k3⟩ := hb b (key h1 h2)
    exact ⟨b, n, cap, vs, hl.io _ _ h1, h2, k1.trans h3, RepL.mono hl _ _ h4, k2.trans h5⟩
  | arr T rows =>
    simp only [ObjOK] at h ⊢
    obtain ⟨b, cap, vs, sp, h1, h2, h3, h4, h5, h6, h7, h8⟩ := h
    obtain ⟨k1, k2, k3⟩ := hb b (key h1 h2)
    exact ⟨b, cap, vs, sp, hl.io _ _ h1, h2, h3, k1.trans h4, h5, h6, RepL.mono hl _ _ h7, k2.trans h8⟩
  | map es =>
    simp only [ObjOK] at h ⊢
    obtain ⟨b, n, cap, ents, clock, h1, h2, h3, h4, h5, h6⟩ := h
    obtain ⟨k1, k2, k3⟩ := hb b (key h1 h2)
    exact ⟨b, n, cap, ents, clock, hl.io _ _ h1, h2, k1.trans h3, RepE.mono hl _ _ h4, fun hh => h5 (k3.1 hh), h6⟩

theorem obj_io {g : G} {id : Nat} {o : AObj} (h : ObjOK P g id o) : ∃ x, g.io id = some x := by
  cases o <;> simp only [ObjOK] at h
  · obtain ⟨b, n, cap, e, _⟩ := h; exact ⟨_, e⟩
  · obtain ⟨b, n, cap, vs, e, _⟩ := h; exact ⟨_, e⟩
  · obtain ⟨b, cap, vs, sp, e, _⟩ := h; exact ⟨_, e⟩
  · obtain ⟨b, n, cap, ents, clock, e, _⟩ := h; exact ⟨_, e⟩

theorem fresh_id {st : Store} {w : World} {g : G} (hm : MemOK P st w g) : ∃ id, g.io id = none ∧ st id = none := by
  obtain ⟨N, hN⟩ := hm.fin
  refine ⟨N, hN N (Nat.le_refl _), ?_⟩
  cases h : st N with
  | none => rfl
  | some o => obtain ⟨x, hx⟩ := obj_io (hm.obj N o h); rw [hN N (Nat.le_refl _)] at hx; cases hx

/-- One object gone, a new one in a block of its own, or in the old one's. -/
theorem mem_swap {st : Store} {w w' : World} {g g' : G} (hm : MemOK P st w g) {id id' b' n' cap' : Nat} {o' : AObj} (hf : g.io id' = none) (hh : g'.heap = w'.heap) (hio : g'.io = upd g.io id' (some (b', n', cap')))
    (hblk : cap' ≠ 0 → (Go.Abs.blk g id = some b' ∧ st id ≠ none) ∨ b' = w.heap.size) (hold : ∀ b, b < w.heap.size → cap' = 0 ∨ b ≠ b' → w'.heap[b]? = w.heap[b]?)
    (hfr : ∀ b, cap' = 0 ∨ b ≠ b' → g'.fr b = g.fr b) (hfm : g'.fm = g.fm) (hfmb : cap' ≠ 0 → ¬ g.fm b') (hsz : w.heap.size ≤ w'.heap.size) (hb' : cap' ≠ 0 → b' < w'.heap.size) (hl : Le g g') (ho : ObjOK P g' id' o') :
    MemOK P (upd (upd st id none) id' (some o')) w' g' := by
  have hst' : st id' = none := by
    cases h : st id' with
    | none => rfl
    | some o => obtain ⟨x, hx⟩ := obj_io (hm.obj id' o h); rw [hf] at hx; cases hx
  have hblt : ∀ {j b}, st j ≠ none → Go.Abs.blk g j = some b → b < w.heap.size := fun {j b} h1 h2 => by
    cases h : st j with
    | none => exact absurd h h1
    | some o =>
      have hob := hm.obj j o h
      have : ∃ x, g.heap[b]? = some x := by
        unfold Go.Abs.blk at h2
        cases o <;> simp only [ObjOK] at hob
        · obtain ⟨b', n, cap, e, h | ⟨x, e2, _⟩⟩ := hob
          · rw [e] at h2; simp [h] at h2
          · rw [e] at h2; simp at h2; exact ⟨_, h2.2 ▸ e2⟩
        · obtain ⟨b', n, cap, x, e, _, e2, _⟩ := hob; rw [e] at h2; simp at h2; exact ⟨_, h2.2 ▸ e2⟩
        · obtain ⟨b', cap, x, y, e, _, _, e2, _⟩ := hob; rw [e] at h2; simp at h2; exact ⟨_, h2.2 ▸ e2⟩
        · obtain ⟨b', n, cap, x, y, e, _, e2, _⟩ := hob; rw [e] at h2; simp at h2; exact ⟨_, h2.2 ▸ e2⟩
      obtain ⟨x, hx⟩ := this
      have := heap_lt hx
      rwa [hm.heap] at this
  -- blocks of the others are not the new one's
  have hne : ∀ {j b}, j ≠ id → st j ≠ none → Go.Abs.blk g j = some b → cap' ≠ 0 → b ≠ b' := fun {j b} h1 h2 h3 h4 e => by
    subst e
    rcases hblk h4 with ⟨k1, k2⟩ | k
    · exact h1 (hm.inj j id b h2 k2 h3 k1)
    · have := hblt h2 h3; omega
  have hother : ∀ {j}, j ≠ id' → Go.Abs.blk g' j = Go.Abs.blk g j := fun {j} h => by
    unfold Go.Abs.blk; rw [hio, upd_ne h]
  have hget : ∀ j, upd (upd st id none) id' (some o') j = if j = id' then some o' else if j = id then none else st j := fun j => by
    by_cases h1 : j = id'
    · rw [h1, upd_same, if_pos rfl]
    · rw [upd_ne h1, if_neg h1]
      by_cases h2 : j = id
      · rw [h2, upd_same, if_pos rfl]
      · rw [upd_ne h2, if_neg h2]
  have hblk' : ∀ {b}, Go.Abs.blk g' id' = some b → cap' ≠ 0 ∧ b = b' := fun {b} h => by
    unfold Go.Abs.blk at h; rw [hio, upd_same] at h; simp at h; exact ⟨h.1, h.2.symm⟩
  refine ⟨hh, fun j o e => ?_, fun j j' b e e' h1 h2 => ?_, fun b hb => ?_, fun b hb => ?_, ?_⟩
  · rw [hget] at e
    split at e
    · rename_i h; injection e with e; subst e; rw [h]; exact ho
    · rename_i h1
      split at e
      · cases e
      · rename_i h2
        refine (hm.obj j o e).keep hl fun b hb => ?_
        have hlt := hblt (by rw [e]; simp) hb
        have hc : cap' = 0 ∨ b ≠ b' := by
          by_cases hc : cap' = 0
          · exact .inl hc
          · exact .inr (hne h2 (by rw [e]; simp) hb hc)
        exact ⟨by rw [hh, hold b hlt hc, hm.heap], hfr b hc, by rw [hfm]⟩
  · rw [hget] at e e'
    by_cases j1 : j = id'
    · by_cases j2 : j' = id'
      · rw [j1, j2]
      · exfalso
        rw [if_neg j2] at e'
        by_cases j3 : j' = id
        · rw [if_pos j3] at e'; exact e' rfl
        · rw [if_neg j3] at e'
          rw [j1] at h1
          obtain ⟨c1, c2⟩ := hblk' h1
          rw [hother j2] at h2
          exact hne j3 e' h2 c1 c2
    · rw [if_neg j1] at e
      by_cases j3 : j = id
      · rw [if_pos j3] at e; exact absurd rfl e
      · rw [if_neg j3] at e
        rw [hother j1] at h1
        by_cases j2 : j' = id'
        · exfalso
          rw [j2] at h2
          obtain ⟨c1, c2⟩ := hblk' h2
          exact hne j3 e h1 c1 c2
        · rw [if_neg j2] at e'
          by_cases j4 : j' = id
          · rw [if_pos j4] at e'; exact absurd rfl e'
          · rw [if_neg j4] at e'
            rw [hother j2] at h2
            exact hm.inj j j' b e e' h1 h2
  · by_cases hc : cap' = 0 ∨ b ≠ b'
    · rw [hfr b hc] at hb; have := hm.lt b hb; omega
    · have hc1 : cap' ≠ 0 := fun e => hc (.inl e)
      have hc2 : b = b' := Classical.byContradiction fun e => hc (.inr e)
      rw [hc2]; exact hb' hc1
  · rw [hfm] at hb
    obtain ⟨ents, clock, e⟩ := hm.fmm b hb
    have hne' : cap' = 0 ∨ b ≠ b' := by
      by_cases hc : cap' = 0
      · exact .inl hc
      · exact .inr fun e => hfmb hc (e ▸ hb)
    exact ⟨ents, clock, by rw [hold b (heap_lt e) hne']; exact e⟩
  · obtain ⟨N, hN⟩ := hm.fin
    exact ⟨max N (id' + 1), fun j hj => by rw [hio, upd_ne (by omega)]; exact hN j (by omega)⟩

theorem run_append_in {w : World} (T tx ty e : TypeId) (i : TypeInfo) (ht : P.underlying T = some (.slice e)) (hi : P.info? e = some i) (b sLen sCap : Nat) (cur : Array Value) (hg : w.heap[b]? = some (.cells cur e (0, 0))) (x : Value) (n : Nat) (news : List Value) (hs : Src P i.size tx x n news w)
    (hroom : sLen + n ≤ sCap) (hfit : sLen * i.size + news.length ≤ cur.size) :
    (Builtin.append_ #[T, tx] ty #[.slice (some ⟨b, 0, none⟩) sLen sCap, x]).run P w = .ok (.slice (some ⟨b, 0, none⟩) (sLen + n) sCap) (w.setRow b (cur.toList.take (sLen * i.size) ++ news ++ cur.toList.drop (sLen * i.size + news.length)).toArray) := by
  have hst := run_storeCells_at P b (sLen * i.size) e news 0 cur w hg (by simpa using hfit) hs.one
  simp only [Nat.add_zero] at hst
  rcases hs.kind with ⟨e', hk⟩ | hk <;> simp [Builtin.append_, run_underlying ht, run_underlying hk, sizeOf, typeInfo, hi, hs.len, hroom, hs.cells, Addr.add_lit, hst]

theorem run_append_none {w : World} (T tx ty e : TypeId) (i : TypeInfo) (ht : P.underlying T = some (.slice e)) (hi : P.info? e = some i) (a : Option Addr) (x : Value) (hs : Src P i.size tx x 0 [] w) :
    (Builtin.append_ #[T, tx] ty #[.slice a 0 0, x]).run P w = .ok (.slice a 0 0) w := by
  rcases hs.kind with ⟨e', hk⟩ | hk <;> cases a <;> simp [Builtin.append_, run_underlying ht, run_underlying hk, sizeOf, typeInfo, hi, hs.len, hs.cells, storeCells]

theorem cellAt_setRow (w : World) (b : Nat) (cur xs : Array Value) (T : TypeId) (fz : Nat × Nat) (h : w.heap[b]? = some (.cells cur T fz)) (j : Nat) : cellAt (w.setRow b xs).heap b j = xs[j]? := by
  simp only [cellAt, setRow_heap w b cur xs T fz h]

theorem io_upd {g : G} {id' : Nat} {x : Nat × Nat × Nat} (h : g.io id' = none) : ∀ j v, g.io j = some v → upd g.io id' (some x) j = some v := fun j v hj => by
  have hne : j ≠ id' := fun e => by rw [e, h] at hj; cases hj
  rw [upd_ne hne]; exact hj

/-- What 'append' does to a slice that may be appended to. -/
theorem append_own (htt : TTOK P tt) {st : Store} {w : World} {g : G} (hm : MemOK P st w g) {T T2 e ty : TypeId} {id : Nat} {rows rows2 : List (List PV)} {p : PV} {x y : Value} {sz B : Nat} (htok : st id = some (.tok e)) (hx : Rep g (.own id rows) x) (hp : prows p = some rows2) (hy : Rep g p y)
    (hk : tiK tt T = some (.slice e)) (hk2 : isSliceT tt T2 = true) (hs : tiSize tt e = some sz) (hl1 : ∀ r ∈ rows, r.length = sz) (hl2 : ∀ r ∈ rows2, r.length = sz) (h1 : ∀ r ∈ rows2, r.all PV.one = true) (hB : P.bytesOf e = B) (hb : (rows.length + rows2.length) * B ≤ 140737488355328)
    (hz : (tiZ tt e).map List.length = some sz) (h62 : rows.length + rows2.length < 2 ^ 62) :
    ∃ v w' g' id', (Builtin.append_ #[T, T2] ty #[x, y]).run P w = .ok v w' ∧ g.io id' = none ∧ Rep g' (.own id' (rows ++ rows2)) v ∧ MemOK P (upd (upd st id none) id' (some (.tok e))) w' g' ∧ Le g g' ∧ Frame (Blocks st g) w g w' g' ∧
      (∀ b, Blocks (upd (upd st id none) id' (some (.tok e))) g' b → Blocks st g b ∨ w.heap.size ≤ b) := by
  obtain ⟨news, hsrc, hnr⟩ := src_of htt hm hp hy hk2 hl2 h1
  have hu := tk_slice (tiK_ok htt hk).1
  obtain ⟨k1, k2⟩ := tiSize_ok htt hs
  cases hi : P.info? e with
  | none => rw [hi] at k1; cases k1
  | some i =>
    have hsz : i.size = sz := by rw [hi] at k1; simpa using k1
    have hby : i.bytes = B := by rw [← hB]; simp [Program.bytesOf, hi]
    subst hsz; subst hby
    obtain ⟨id', hf1, hf2⟩ := fresh_id hm
    have hnl := hsrc.newsLen
    simp only [Rep] at hx
    obtain ⟨b, cap, sz', e1, e2, e3, e4⟩ := hx
    have htk := hm.obj id _ htok
    simp only [ObjOK] at htk
    obtain ⟨b0, n0, cap0, t1, t2⟩ := htk
    rw [e1] at t1
    injection t1 with t1
    injection t1 with t1 t3
    injection t3 with t3 t4
    subst t1; subst t3; subst t4
    -- the new state of the ghost's blocks
    have hblk0 : ∀ st' g', (∀ j, j ≠ id' → Go.Abs.blk g' j = Go.Abs.blk g j) → (∀ b', Go.Abs.blk g' id' = some b' → Blocks st g b' ∨ w.heap.size ≤ b') → st' = upd (upd st id none) id' (some (.tok e)) → ∀ b', Blocks st' g' b' → Blocks st g b' ∨ w.heap.size ≤ b' := by
      rintro st' g' q1 q2 rfl b' ⟨j, j1, j2⟩
      by_cases hj : j = id'
      · rw [hj] at j2; exact q2 b' j2
      · rw [upd_ne hj] at j1
        rw [q1 j hj] at j2
        by_cases hj2 : j = id
        · rw [hj2, upd_same] at j1; exact absurd rfl j1
        · rw [upd_ne hj2] at j1; exact .inl ⟨j, j1, j2⟩
    have hother : ∀ (g' : G) (v : Nat × Nat × Nat), g'.io = upd g.io id' (some v) → ∀ j, j ≠ id' → Go.Abs.blk g' j = Go.Abs.blk g j := fun g' v q j hj => by unfold Go.Abs.blk; rw [q, upd_ne hj]
    by_cases hroom : rows.length + rows2.length ≤ cap
    · by_cases hc : cap = 0
      · -- nothing onto nothing
        have r0 : rows = [] := List.length_eq_zero_iff.1 (by omega)
        have r2 : rows2 = [] := List.length_eq_zero_iff.1 (by omega)
        subst r0; subst r2
        rcases e4 with ⟨_, a, rfl⟩ | ⟨hne, _⟩
        · have hnews : news = [] := List.length_eq_zero_iff.1 (by simpa using hnl)
          subst hnews
          have hl : Le g { g with io := upd g.io id' (some (b, 0, 0)) } := ⟨io_upd hf1, fun _ => Nat.le_refl _, fun _ _ _ => rfl, fun _ h => ⟨h, rfl⟩⟩
          refine ⟨_, w, { g with io := upd g.io id' (some (b, 0, 0)) }, id', run_append_none T T2 ty e i hu hi a y hsrc, hf1, ?_, ?_, hl, ⟨rfl, rfl, rfl, Nat.le_refl _, fun _ _ _ => ⟨rfl, rfl, Iff.rfl⟩⟩, hblk0 _ _ (hother _ _ rfl) (fun b' h => by simp [Go.Abs.blk, upd_same] at h) rfl⟩
          · simp only [Rep]; exact ⟨b, 0, i.size, upd_same _ _ _, by simp, by simp, .inl ⟨rfl, a, rfl⟩⟩
          · exact mem_swap hm (id := id) hf1 hm.heap rfl (fun h => absurd rfl h) (fun _ _ _ => rfl) (fun _ _ => rfl) rfl (fun h => absurd rfl h) (Nat.le_refl _) (fun h => absurd rfl h) hl (by simp only [ObjOK]; exact ⟨b, 0, 0, upd_same _ _ _, .inl rfl⟩)
        · exact absurd hc hne
      · -- there is room
        rcases e4 with ⟨h0, _⟩ | ⟨_, rfl, hR⟩
        · exact absurd h0 hc
        rcases t2 with h0 | ⟨cur, c1, c2, c3⟩
        · exact absurd h0 hc
        have c1' := c1
        rw [hm.heap] at c1'
        rw [k2] at c2 c3
        have hle1 : rows.length * i.size + news.length ≤ cur.size := by
          rw [hnl, c2, ← Nat.add_mul]; exact Nat.mul_le_mul_right _ hroom
        have hrun := run_append_in T T2 ty e i hu hi b rows.length cap cur c1' y rows2.length news hsrc hroom hle1
        have hbl : Go.Abs.blk g id = some b := by simp [Go.Abs.blk, e1, hc]
        have hbB : Blocks st g b := ⟨id, by rw [htok]; simp, hbl⟩
        have hbsz : b < w.heap.size := heap_lt c1'
        have hnfm : ¬ g.fm b := fun h => by obtain ⟨en, cl, q⟩ := hm.fmm b h; rw [c1'] at q; cases q
        let xs : Array Value := (cur.toList.take (rows.length * i.size) ++ news ++ cur.toList.drop (rows.length * i.size + news.length)).toArray
        let w' := w.setRow b xs
        let g' : G := ⟨w'.heap, upd g.io id' (some (b, rows.length + rows2.length, cap)), upd g.fr b ((rows.length + rows2.length) * i.size), g.fm⟩
        have hxs : ∀ j, j < rows.length * i.size → xs[j]? = cur[j]? := fun j hj => by
          show (_ : List Value).toArray[j]? = _
          simp only [List.getElem?_toArray]
          rw [List.append_assoc, List.getElem?_append_left (by simp; omega), List.getElem?_take, if_pos hj]
          simp
        have hnews : ∀ j v, news[j]? = some v → xs[rows.length * i.size + j]? = some v := fun j v hj => by
          have hjl : j < news.length := by
            rcases Nat.lt_or_ge j news.length with h | h
            · exact h
            · rw [List.getElem?_eq_none h] at hj; cases hj
          show (_ : List Value).toArray[rows.length * i.size + j]? = _
          simp only [List.getElem?_toArray]
          have ht : (cur.toList.take (rows.length * i.size)).length = rows.length * i.size := by simp; omega
          rw [List.append_assoc, List.getElem?_append_right (by rw [ht]; omega), ht, List.getElem?_append_left (by omega)]
          rw [show rows.length * i.size + j - rows.length * i.size = j from by omega]; exact hj
        have hl : Le g g' := ⟨io_upd hf1, fun k => by
            show g.fr k ≤ upd g.fr b _ k
            by_cases h : k = b
            · rw [h, upd_same, c3]; exact Nat.mul_le_mul_right _ (by omega)
            · rw [upd_ne h]; exact Nat.le_refl _,
          fun k j hj => by
            show cellAt (w.setRow b xs).heap k j = cellAt g.heap k j
            rw [hm.heap]
            by_cases h : k = b
            · subst h
              have hj' : j < rows.length * i.size := by rw [← c3]; exact hj
              rw [cellAt_setRow w k cur xs e (0, 0) c1', hxs j hj']
              simp only [cellAt, c1']
            · simp only [cellAt, setRow_heap_ne w b xs k h],
          fun k hk => ⟨hk, by
            show (w.setRow b xs).heap[k]? = g.heap[k]?
            rw [hm.heap]; exact setRow_heap_ne w b xs k (fun e => hnfm (e ▸ hk))⟩⟩
        refine ⟨_, w', g', id', hrun, hf1, ?_, ?_, hl, ⟨rfl, rfl, rfl, by show _ ≤ (w.setRow b xs).heap.size; simp [World.setRow], fun k hk hn => ?_⟩, hblk0 _ _ (hother _ _ rfl) (fun b' h => ?_) rfl⟩
        · simp only [Rep]
          refine ⟨b, cap, i.size, by rw [List.length_append]; exact upd_same _ _ _, by rw [List.length_append]; exact hroom, by rw [List.length_append]; exact h62, .inr ⟨hc, by rw [List.length_append], ?_⟩⟩
          obtain ⟨vs, v1, v2, v3⟩ := hR.vals
          have hsz' : rows = [] ∨ sz' = i.size := by
            cases rows with
            | nil => exact .inl rfl
            | cons r rs => right; simp only [RepR] at hR; have := hl1 r (by simp); omega
          have hvl : vs.length = rows.length * i.size := by
            rcases hsz' with h | h
            · subst h; simpa using v2
            · rw [v2, h]
          refine RepR.mk (vs := vs ++ news) (fun r hr => ?_) (by rw [List.flatten_append]; exact (RepL.mono hl _ _ v1).append (RepL.mono hl _ _ hnr)) (fun j v hj => ?_)
          · rcases List.mem_append.1 hr with h | h
            · exact hl1 r h
            · exact hl2 r h
          · rw [Nat.zero_add]
            show cellAt (w.setRow b xs).heap b j = some v ∧ j < upd g.fr b _ b
            rw [cellAt_setRow w b cur xs e (0, 0) c1', upd_same]
            rcases Nat.lt_or_ge j vs.length with h | h
            · rw [List.getElem?_append_left h] at hj
              have := v3 j v hj
              rw [Nat.zero_add, hm.heap] at this
              refine ⟨?_, by have := Nat.mul_le_mul_right i.size (show rows.length ≤ rows.length + rows2.length from by omega); omega⟩
              rw [hxs j (by omega)]
              have := this.1
              simpa only [cellAt, c1'] using this
            · rw [List.getElem?_append_right h] at hj
              have hjl : j - vs.length < news.length := by
                rcases Nat.lt_or_ge (j - vs.length) news.length with h | h
                · exact h
                · rw [List.getElem?_eq_none h] at hj; cases hj
              have := hnews _ v hj
              rw [show rows.length * i.size + (j - vs.length) = j from by omega] at this
              exact ⟨this, by rw [Nat.add_mul]; omega⟩
        · refine mem_swap hm (id := id) hf1 rfl rfl (fun _ => .inl ⟨hbl, by rw [htok]; simp⟩) (fun k _ h => setRow_heap_ne w b xs k (h.resolve_left hc)) (fun k h => upd_ne (h.resolve_left hc)) rfl (fun _ => hnfm)
            (by show _ ≤ (w.setRow b xs).heap.size; simp [World.setRow]) (fun _ => by show b < (w.setRow b xs).heap.size; simpa [World.setRow] using hbsz) hl ?_
          simp only [ObjOK]
          refine ⟨b, _, cap, upd_same _ _ _, .inr ⟨xs, setRow_heap w b cur xs e (0, 0) c1', ?_, by rw [k2]; exact upd_same _ _ _⟩⟩
          rw [k2, ← c2]
          show (_ : List Value).toArray.size = _
          simp
          omega
        · have hkb : k ≠ b := fun e => hn (e ▸ hbB)
          exact ⟨setRow_heap_ne w b xs k hkb, upd_ne hkb, Iff.rfl⟩
        · simp [Go.Abs.blk, g', upd_same] at h
          rw [← h.2]; exact .inl hbB
    · -- a new row
      cases hz' : tiZ tt e with
      | none => rw [hz'] at hz; cases hz
      | some zl =>
        rw [hz'] at hz
        simp only [Option.map_some, Option.some.injEq] at hz
        obtain ⟨z, z1, z2⟩ := tiZ_ok htt hz'
        have hiz : i.zero = some z := by rw [hi] at z1; simpa using z1
        have hzs : z.cells.size = i.size := by rw [← hz, ← z2]; simp
        have hg : cap < rows.length + rows2.length := by omega
        have hfit := growslice_fits hg hb
        have h63 : ((rows.length + rows2.length : Nat) : Int) ≤ 9223372036854775807 := by omega
        -- the old cells
        have hold : ∃ olds, (Builtin.firstCells i.size rows.length x).run P w.drew = .ok olds.toArray w.drew ∧ RepL g rows.flatten olds ∧ olds.length = rows.length * i.size ∧ (∃ base, x = .slice base rows.length cap) := by
          rcases e4 with ⟨h0, a, rfl⟩ | ⟨_, rfl, hR⟩
          · have r0 : rows = [] := List.length_eq_zero_iff.1 (by omega)
            subst r0
            subst h0
            refine ⟨[], ?_, by simp [RepL], by simp, a, rfl⟩
            cases a <;> simp [Builtin.firstCells, loadCells, loadCellsFrom]
          · obtain ⟨vs, v1, v2, v3⟩ := hR.vals
            have hvl : vs.length = rows.length * i.size := by
              cases rows with
              | nil => simpa using v2
              | cons r rs => simp only [RepR] at hR; have := hl1 r (by simp); rw [v2]; congr 1; omega
            refine ⟨vs, run_firstCells_some w.drew i.size rows.length ⟨b, 0, none⟩ rows.length cap vs hvl (fun j u hj => ?_), v1, hvl, _, rfl⟩
            rw [addr_add]
            exact cell_of_at hm (v3 j u hj).1
        obtain ⟨olds, o1, o2, o3, base, rfl⟩ := hold
        have hrun := run_append_grow_src w T T2 ty e i z hu hi hiz base rows.length cap olds o1 y rows2.length news hsrc hg h63 hfit
        let nc := grownCap w (rows.length + rows2.length) cap e
        have hnc : rows.length + rows2.length ≤ nc := by show _ ≤ grownCap _ _ _ _; simp only [grownCap, Question.cut]; omega
        have hnc0 : nc ≠ 0 := by omega
        let xs : Array Value := (olds ++ news).toArray ++ Builtin.zeroCells z.cells (nc - (rows.length + rows2.length))
        let w' := w.drew.alloc (.cells xs e)
        let g' : G := ⟨w'.heap, upd g.io id' (some (w.heap.size, rows.length + rows2.length, nc)), upd g.fr w.heap.size ((rows.length + rows2.length) * i.size), g.fm⟩
        have hold' : ∀ k, k < w.heap.size → w'.heap[k]? = w.heap[k]? := fun k hk => RowKit.Below.heap_alloc w.drew _ k hk
        have hnew : w'.heap[w.heap.size]? = some (.cells xs e (0, 0)) := by show (w.heap.push _)[w.heap.size]? = _; simp
        have hfr0 : g.fr w.heap.size = 0 := by
          rcases Nat.eq_zero_or_pos (g.fr w.heap.size) with h | h
          · exact h
          · have := hm.lt w.heap.size (by omega); omega
        have hnfm : ¬ g.fm w.heap.size := fun h => by obtain ⟨en, cl, q⟩ := hm.fmm _ h; have := heap_lt q; omega
        have hl : Le g g' := ⟨io_upd hf1, fun k => by
            show g.fr k ≤ upd g.fr w.heap.size _ k
            by_cases h : k = w.heap.size
            · rw [h, hfr0]; omega
            · rw [upd_ne h]; exact Nat.le_refl _,
          fun k j hj => by
            have hk : k < w.heap.size := hm.lt k (by omega)
            show cellAt w'.heap k j = cellAt g.heap k j
            rw [hm.heap]
            simp only [cellAt, hold' k hk],
          fun k hk => ⟨hk, by
            obtain ⟨en, cl, q⟩ := hm.fmm k hk
            show w'.heap[k]? = g.heap[k]?
            rw [hm.heap]; exact hold' k (heap_lt q)⟩⟩
        have hws : w'.heap.size = w.heap.size + 1 := by show (w.heap.push _).size = _; simp
        have hlen : (olds ++ news).length = (rows.length + rows2.length) * i.size := by rw [List.length_append, o3, hnl, Nat.add_mul]
        refine ⟨_, w', g', id', hrun, hf1, ?_, ?_, hl, ⟨rfl, rfl, rfl, by omega, fun k hk hn => ⟨hold' k hk, upd_ne (by omega), Iff.rfl⟩⟩, hblk0 _ _ (hother _ _ rfl) (fun b' h => ?_) rfl⟩
        · simp only [Rep]
          refine ⟨w.heap.size, nc, i.size, by rw [List.length_append]; exact upd_same _ _ _, by rw [List.length_append]; exact hnc, by rw [List.length_append]; exact h62, .inr ⟨hnc0, by rw [List.length_append], ?_⟩⟩
          refine RepR.mk (vs := olds ++ news) (fun r hr => ?_) (by rw [List.flatten_append]; exact (RepL.mono hl _ _ o2).append (RepL.mono hl _ _ hnr)) (fun j v hj => ?_)
          · rcases List.mem_append.1 hr with h | h
            · exact hl1 r h
            · exact hl2 r h
          · have hjl : j < (olds ++ news).length := by
              rcases Nat.lt_or_ge j (olds ++ news).length with h | h
              · exact h
              · rw [List.getElem?_eq_none h] at hj; cases hj
            rw [Nat.zero_add]
            show cellAt w'.heap w.heap.size j = some v ∧ j < upd g.fr w.heap.size _ w.heap.size
            rw [upd_same]
            refine ⟨?_, by omega⟩
            simp only [cellAt, hnew]
            show ((olds ++ news).toArray ++ _)[j]? = _
            rw [Array.getElem?_append_left (by simpa using hjl)]
            simpa using hj
        · refine mem_swap hm (id := id) hf1 rfl rfl (fun _ => .inr rfl) (fun k hk _ => hold' k hk) (fun k h => upd_ne (h.resolve_left hnc0)) rfl (fun _ => hnfm) (by omega) (fun _ => by omega) hl ?_
          simp only [ObjOK]
          refine ⟨w.heap.size, _, nc, upd_same _ _ _, .inr ⟨xs, hnew, ?_, by rw [k2]; exact upd_same _ _ _⟩⟩
          rw [k2]
          show ((olds ++ news).toArray ++ Builtin.zeroCells z.cells (nc - (rows.length + rows2.length))).size = _
          rw [Array.size_append, size_zeroCells, hzs, List.size_toArray, hlen, ← Nat.add_mul]
          congr 1; omega
        · simp [Go.Abs.blk, g', upd_same] at h
          right; omega

section
variable {l : List Oper} {r : List Oper} {s : St} {K : St → Prop} {t : Nat} {ty : TypeId} {pos : String} {after : Array Edge}

theorem ev_append (htt : TTOK P tt) {T T2 e : TypeId} {x y : Operand} {id : Nat} {rows rows2 : List (List PV)} {p : PV} {sz : Nat} (B : Nat) (hx : opd s x = some (.own id rows)) (hy : opd s y = some p) (hp : prows p = some rows2) (hk : tiK tt T = some (.slice e)) (hk2 : isSliceT tt T2 = true) (hs : tiSize tt e = some sz) (hz : (tiZ tt e).map List.length = some sz) (hf : flagsB s [x, y] = true) (hd : Nat.blt t s.n = true)
    (htok : s.st id = some (.tok e)) (hl1 : ∀ r ∈ rows, r.length = sz) (hl2 : ∀ r ∈ rows2, r.length = sz) (h1 : ∀ r ∈ rows2, r.all PV.one = true) (hB : P.bytesOf e = B) (hb : (rows.length + rows2.length) * B ≤ 140737488355328) (h62 : rows.length + rows2.length < 2 ^ 62)
    (k : ∀ id', s.st id' = none → Ev P l false r ((s.sst (upd (upd s.st id none) id' (some (.tok e)))).pv t (.own id' (rows ++ rows2))) K) : Ev P l false (⟨some t, .call ⟨.builtin .append, #[x, y], #[T, T2]⟩, ty, pos, after, none⟩ :: r) s K := by
  refine evs_op rfl fun c a w g lam hs' => ?_
  have hall := flagsB_mem hf
  have rx := opd_ok hs' (hall x (by simp)) _ hx
  have ry := opd_ok hs' (hall y (by simp)) _ hy
  obtain ⟨v, w', g', id', q1, q2, q3, q4, q5, q6, q7⟩ := append_own (ty := ty) htt hs'.mem htok rx hp ry hk hk2 hs hl1 hl2 h1 hB hb hz h62
  have hrun : (execOp a.eval (⟨some t, .call ⟨.builtin .append, #[x, y], #[T, T2]⟩, ty, pos, after, none⟩ : Oper)).run P w = .ok (.value v) w' := run_builtin rfl (by simp [builtin, q1])
  rw [hrun]
  have hst : s.st id' = none := by
    cases h : s.st id' with
    | none => rfl
    | some o => obtain ⟨z, hz⟩ := obj_io (hs'.mem.obj id' o h); rw [q2] at hz; cases hz
  exact ⟨_, g', lam, k id' hst, (hs'.step q4 q5 q6 q7).put (d := some t) (b := true) (e := .pv _) (fun z hz => by cases hz; simpa [Nat.blt_eq, St.sst] using hd) q3 (fun _ _ e => by cases e)⟩
end

/-- A slot that holds the nil slice holds one that may be appended to. -/
theorem pwp_own {cd : Code} {Q : Exit → St → Prop} {s : St} (t : Nat) (e : TypeId) (hx : s.env t = (true, .pv (.val (.slice none 0 0)))) (hd : Nat.blt t s.n = true) (k : ∀ id, s.st id = none → PWp P cd Q ((s.sst (upd s.st id (some (.tok e)))).pv t (.own id []))) : PWp P cd Q s := by
  intro c a w g lam hs
  obtain ⟨id', hf1, hf2⟩ := fresh_id hs.mem
  let g' : G := { g with io := upd g.io id' (some (0, 0, 0)) }
  have hl : Le g g' := ⟨io_upd hf1, fun _ => Nat.le_refl _, fun _ _ _ => rfl, fun _ h => ⟨h, rfl⟩⟩
  have hm : MemOK P (upd s.st id' (some (.tok e))) w g' := by
    have := mem_swap (w' := w) (g' := g') (n' := 0) (b' := 0) (cap' := 0) (o' := .tok e) hs.mem (id := id') hf1 hs.mem.heap rfl (fun h => absurd rfl h) (fun _ _ _ => rfl) (fun _ _ => rfl) rfl (fun h => absurd rfl h) (Nat.le_refl _) (fun h => absurd rfl h) hl (by simp only [ObjOK]; exact ⟨0, 0, 0, upd_same _ _ _, .inl rfl⟩)
    have e1 : upd (upd s.st id' none) id' (some (AObj.tok e)) = upd s.st id' (some (.tok e)) := by
      funext j
      by_cases h : j = id'
      · rw [h, upd_same, upd_same]
      · rw [upd_ne h, upd_ne h, upd_ne h]
    rwa [e1] at this
  have hstep := hs.step hm hl (g' := g') ⟨rfl, rfl, rfl, Nat.le_refl _, fun _ _ _ => ⟨rfl, rfl, Iff.rfl⟩⟩ (fun b hb => by
    obtain ⟨j, j1, j2⟩ := hb
    by_cases h : j = id'
    · rw [h] at j2; simp [Go.Abs.blk, g', upd_same] at j2
    · rw [upd_ne h] at j1
      refine .inl ⟨j, j1, ?_⟩
      unfold Go.Abs.blk at j2 ⊢
      rwa [show g'.io j = g.io j from upd_ne h] at j2)
  have hv : a.tmps.getD t undef = .slice none 0 0 := by
    have := hs.env t; rw [hx] at this; simpa [EntOK, Rep] using this
  have hn : t < s.n := by simpa [Nat.blt_eq] using hd
  have hput := hstep.put (d := some t) (b := true) (e := .pv (.own id' [])) (v := .slice none 0 0) (fun z hz => by cases hz; exact hn) (by simp only [EntOK, Rep]; exact ⟨0, 0, 0, upd_same _ _ _, by simp, by simp, .inl ⟨rfl, none, rfl⟩⟩) (fun _ _ e => by cases e)
  have ha : a.put (some t) (.slice none 0 0) = a := by
    have hlt : t < a.tmps.size := by rw [hs.n]; exact hn
    have h2 : a.tmps[t] = .slice none 0 0 := by simpa [hlt] using hv
    simp only [Act.put]
    cases a with
    | mk tmps defers =>
      simp only at h2 hlt ⊢
      congr 1
      apply Array.ext
      · simp
      · intro i h1 h3
        by_cases hi : i = t
        · subst hi; simp [h2]
        · rw [Array.getElem_setIfInBounds_ne]; exact Ne.symm hi
  rw [ha] at hput
  exact k id' hf2 c a w g' lam hput

theorem stsub_swap {st : Store} {id id' : Nat} {o o2 : AObj} (h : st id = none) : StSub (upd st id' (some o)) (upd (upd (upd st id (some o2)) id none) id' (some o)) := fun j => by
  by_cases h1 : j = id'
  · right; rw [h1, upd_same, upd_same]
  · rw [upd_ne h1, upd_ne h1]
    by_cases h2 : j = id
    · left; rw [h2]; exact h
    · right; rw [upd_ne h2, upd_ne h2]
theorem stsub_drop {st : Store} {id : Nat} {o : AObj} (h : st id = none) : StSub st (upd st id (some o)) := fun j => by
  by_cases h1 : j = id
  · left; rw [h1]; exact h
  · right; rw [upd_ne h1]
theorem fresh_upd {st : Store} {id id' : Nat} {o : AObj} (h : upd st id (some o) id' = none) : st id' = none := by
  by_cases h1 : id' = id
  · rw [h1, upd_same] at h; cases h
  · rwa [upd_ne h1] at h
end
end
end Go.Abs
