/-
  ABS, part 13: maps that are written; what nobody writes any more; what arguments bear in themselves.
-/
import Derived.Test.YtghjdkbmjjalmaaAbsMap
namespace Go.Abs
open Go

section
variable {P : Program} {tt : TT}

theorem blk_lt {st : Store} {w : World} {g : G} (hm : MemOK P st w g) {j b : Nat} (h1 : st j ≠ none) (h2 : Go.Abs.blk g j = some b) : b < w.heap.size := by
  cases h : st j with
  | none => exact absurd h h1
  | some o =>
    have hob := hm.obj j o h
    have : ∃ x, g.heap[b]? = some x := by
      unfold Go.Abs.blk at h2
      cases o <;> simp only [ObjOK] at hob
      · obtain ⟨b', n, cap, e, h | ⟨x, e2, _⟩⟩ := hob
        · rw [e] at h2; simp [h] at h2
        · rw [e] at h2; simp at h2; exact ⟨_, h2.2 ▸ e2⟩
      · obtain ⟨b', n, cap, x, e, _, e2, _⟩ := hob; rw [e] at h2; simp at h2; exact ⟨_, h2.2 ▸ e2⟩
      · obtain ⟨b', cap, x, y, e, _, _, e2, _⟩ := hob; rw [e] at h2; simp at h2; exact ⟨_, h2.2 ▸ e2⟩
      · obtain ⟨b', n, cap, x, y, e, _, e2, _⟩ := hob; rw [e] at h2; simp at h2; exact ⟨_, h2.2 ▸ e2⟩
    obtain ⟨x, hx⟩ := this
    have := heap_lt hx
    rwa [hm.heap] at this

/-- An object turned where it lies. -/
theorem mem_inplace {st : Store} {w w' : World} {g : G} (hm : MemOK P st w g) {id b : Nat} {o' : AObj} {x y : Obj} (hid : st id ≠ none) (hb : Go.Abs.blk g id = some b) (hx : w.heap[b]? = some x) (hw : w' = { w with heap := w.heap.setIfInBounds b y })
    (hcell : ∀ i, i < g.fr b → cellAt w'.heap b i = cellAt w.heap b i) (hfm : ¬ g.fm b) (ho : Le g { g with heap := w'.heap } → ObjOK P { g with heap := w'.heap } id o') :
    MemOK P (upd st id (some o')) w' { g with heap := w'.heap } ∧ Le g { g with heap := w'.heap } ∧ Frame (Blocks st g) w g w' { g with heap := w'.heap } ∧ (∀ b', Blocks (upd st id (some o')) { g with heap := w'.heap } b' → Blocks st g b' ∨ w.heap.size ≤ b') := by
  have hlt := heap_lt hx
  have hne : ∀ b', b' ≠ b → w'.heap[b']? = w.heap[b']? := fun b' h => by
    rw [hw]; simp only; rw [Array.getElem?_setIfInBounds]; simp [Ne.symm h]
  have hle : Le g { g with heap := w'.heap } := by
    refine ⟨fun _ _ h => h, fun _ => Nat.le_refl _, fun b' i hi => ?_, fun b' hb' => ⟨hb', ?_⟩⟩
    · show cellAt w'.heap b' i = cellAt g.heap b' i
      rw [hm.heap]
      by_cases h : b' = b
      · subst h; exact hcell i hi
      · simp only [cellAt, hne b' h]
    · show w'.heap[b']? = g.heap[b']?
      rw [hm.heap]
      exact hne b' fun h => hfm (h ▸ hb')
  have hsz : w'.heap.size = w.heap.size := by rw [hw]; simp
  refine ⟨⟨rfl, fun j o e => ?_, fun j j' b' e e' h1 h2 => ?_, fun b' h => by rw [hsz]; exact hm.lt b' h, fun b' h => ?_, hm.fin⟩, hle, ⟨by rw [hw], by rw [hw], by rw [hw], by rw [hsz]; exact Nat.le_refl _, fun b' hb' hn => ?_⟩, fun b' ⟨j, j1, j2⟩ => .inl ?_⟩
  · by_cases h : j = id
    · subst h; rw [upd_same] at e; injection e with e; subst e; exact ho hle
    · rw [upd_ne h] at e
      refine (hm.obj j o e).keep hle fun b' hb' => ⟨?_, rfl, Iff.rfl⟩
      show w'.heap[b']? = g.heap[b']?
      rw [hm.heap]
      refine hne b' fun h' => h ?_
      rw [h'] at hb'
      exact hm.inj j id b (by rw [e]; simp) hid hb' hb
  · have e1 : st j ≠ none := by
      by_cases h : j = id
      · rw [h]; exact hid
      · rwa [upd_ne h] at e
    have e2 : st j' ≠ none := by
      by_cases h : j' = id
      · rw [h]; exact hid
      · rwa [upd_ne h] at e'
    exact hm.inj j j' b' e1 e2 h1 h2
  · obtain ⟨ents, clock, e⟩ := hm.fmm b' h
    exact ⟨ents, clock, by rw [hne b' fun h' => hfm (h' ▸ h)]; exact e⟩
  · refine ⟨hne b' fun h => hn ⟨id, hid, by rw [h]; exact hb⟩, rfl, Iff.rfl⟩
  · refine ⟨j, ?_, j2⟩
    by_cases h : j = id
    · rw [h]; exact hid
    · rwa [upd_ne h] at j1

/-! ### New maps, and entries -/
def mput (k : Value) (p : PV) : List (Value × PV) → Option (List (Value × PV))
  | [] => some [(k, p)]
  | e :: es => match samek k e.1 with
    | some true => some ((k, p) :: es)
    | some false => match mput k p es with
      | some es' => some (e :: es')
      | none => none
    | none => none

theorem samek_eq {a b : Value} (h : samek a b = some true) : a = b := by
  cases a <;> cases b <;> simp only [samek] at h <;> first | (cases h; done) | skip
  · simp at h; rw [h]
  · rename_i k n k' n'
    cases he : ikEq k k' with
    | false => rw [he] at h; simp at h
    | true => rw [he] at h; simp at h; rw [ikEq_eq he, h]
  · simp at h; rw [h]

theorem put_of {kd : TypeDesc} {t : TypeId} (hu : P.underlying t = some kd) {k : TK} (hk : tkOf P t = k) {g : G} {key v : Value} {p : PV} (hv : Rep g p v) (hc : keyK k key = true) : ∀ {es es' : List (Value × PV)} {ms : List MapEntry} (i clock : Nat), mput key p es = some es' → RepE g es ms →
    (Instr.findNow kd key ms i = some none ∧ RepE g es' (ms ++ [{ key := key, val := v, born := clock }])) ∨
    ∃ j e, Instr.findNow kd key ms i = some (some (i + j, e.val)) ∧ ms[j]? = some e ∧ e.key = key ∧ RepE g es' (ms.set j { e with key := key, val := v })
  | [], es', ms, i, clock, h, hr => by
    simp only [mput] at h
    injection h with h; subst h
    simp only [RepE] at hr
    subst hr
    exact .inl ⟨rfl, by simp only [List.nil_append, RepE]; exact ⟨_, _, rfl, rfl, hv, rfl⟩⟩
  | e :: es, es', ms, i, clock, h, hr => by
    simp only [RepE] at hr
    obtain ⟨m, ms', rfl, h1, h2, h3⟩ := hr
    simp only [mput] at h
    split at h
    · rename_i hs
      injection h with h; subst h
      have hs' := hs
      rw [← h1] at hs
      exact .inr ⟨0, m, by simp [Instr.findNow, sameNow_of hu hk hc hs], by simp, by rw [h1]; exact (samek_eq hs').symm, by simp only [List.set_cons_zero, RepE]; exact ⟨_, _, rfl, rfl, hv, h3⟩⟩
    · rename_i hs
      rw [← h1] at hs
      split at h
      · rename_i es2 h4
        injection h with h; subst h
        rcases put_of hu hk hv hc (i + 1) clock h4 h3 with ⟨k1, k2⟩ | ⟨j, e', k1, k2, k3, k4⟩
        · refine .inl ⟨by simp only [Instr.findNow, sameNow_of hu hk hc hs]; exact k1, ?_⟩
          simp only [List.cons_append, RepE]
          exact ⟨m, _, rfl, h1, h2, k2⟩
        · refine .inr ⟨j + 1, e', ?_, by simpa using k2, k3, ?_⟩
          · simp only [Instr.findNow, sameNow_of hu hk hc hs, k1]
            congr 3; omega
          · simp only [List.set_cons_succ, RepE]
            exact ⟨m, _, rfl, h1, h2, k4⟩
      · cases h
    · cases h

theorem isKey_of {kd : TypeDesc} {t : TypeId} (hu : P.underlying t = some kd) {k : TK} (hk : tkOf P t = k) {key : Value} (hc : keyK k key = true) (hi : ∀ kk n, key = .int kk n → k = .int kk) : MapKept.IsKey kd key := by
  unfold keyK at hc
  split at hc
  · rename_i kk k2 n
    have := tk_int hk
    rw [hu] at this; injection this with this; subst this
    have := hi _ _ rfl
    injection this with this
    simp [MapKept.IsKey, this]
  · have := tk_str hk
    rw [hu] at this; injection this with this; subst this
    trivial
  · have : kd = .bool := by
      unfold tkOf at hk; rw [hu] at hk
      split at hk <;> simp_all
    subst this; trivial
  · cases hc

/-- The key's kind is the map's. -/
def keyKI : TK → Value → Bool
  | .int k, .int k' _ => ikEq k k'
  | k, v => keyK k v
theorem keyKI_ok {k : TK} {v : Value} (h : keyKI k v = true) : keyK k v = true ∧ ∀ kk n, v = .int kk n → k = .int kk := by
  unfold keyKI at h
  split at h
  · exact ⟨rfl, fun kk n e => by cases e; rw [ikEq_eq h]⟩
  · rename_i k' v' hne
    refine ⟨h, fun kk n e => ?_⟩
    subst e
    unfold keyK at h
    split at h
    · exact absurd rfl (hne _ _ _ rfl)
    · rename_i e; cases e
    · rename_i e; cases e
    · cases h

theorem Stamps.push {ents : List MapEntry} {clock : Nat} (h : Stamps ents clock) (k v : Value) : Stamps (ents ++ [{ key := k, val := v, born := clock }]) (clock + 1) := by
  refine ⟨List.pairwise_append.2 ⟨h.1, by simp, fun a ha b hb => by simp at hb; subst hb; exact h.2 a ha⟩, fun e he => ?_⟩
  simp at he
  rcases he with he | he
  · have := h.2 e he; omega
  · subst he; simp
theorem Stamps.set {ents : List MapEntry} {clock j : Nat} {e : MapEntry} (h : Stamps ents clock) (hj : ents[j]? = some e) (k v : Value) : Stamps (ents.set j { e with key := k, val := v }) clock := by
  have hb : (ents.set j { e with key := k, val := v }).map (·.born) = ents.map (·.born) := by
    apply List.ext_getElem?
    intro i
    rw [List.getElem?_map, List.getElem?_map, List.getElem?_set]
    split
    · rename_i hi; subst hi
      obtain ⟨hl, he⟩ := List.getElem?_eq_some_iff.1 hj
      simp [hl, he]
    · rfl
  constructor
  · have : (ents.map (·.born)).Pairwise (· < ·) := List.pairwise_map.2 h.1
    rw [← hb] at this
    exact List.pairwise_map.1 this
  · intro x hx
    have hx' : x.born ∈ (ents.set j { e with key := k, val := v }).map (·.born) := List.mem_map_of_mem hx
    rw [hb] at hx'
    obtain ⟨y, hy, e⟩ := List.mem_map.1 hx'
    rw [← e]; exact h.2 y hy

theorem arr_modify_toList {es : Array MapEntry} {j : Nat} {e : MapEntry} (h : es.toList[j]? = some e) (f : MapEntry → MapEntry) : (es.modify j f).toList = es.toList.set j (f e) := by
  apply List.ext_getElem?
  intro i
  rw [Array.getElem?_toList, Array.getElem?_modify, List.getElem?_set]
  by_cases hi : j = i
  · subst hi
    have hl := (List.getElem?_eq_some_iff.1 h).1
    have h' : es[j]? = some e := by simpa using h
    simp [h']
    simpa using hl
  · simp [hi]

theorem map_update (htt : TTOK P tt) {st : Store} {w : World} {g : G} (hm : MemOK P st w g) {id : Nat} {es es' : List (Value × PV)} (hst : st id = some (.map es)) {T kt e : TypeId} {k : TK} (hT : tiK tt T = some (.map kt e)) (hkt : tiK tt kt = some k) {x key v : Value} {p : PV} (hx : Rep g (.mref id) x) (hv : Rep g p v) (hk : keyKI k key = true) (hput : mput key p es = some es') :
    ∃ w' g', (Instr.mapUpdate T x key v).run P w = .ok () w' ∧ MemOK P (upd st id (some (.map es'))) w' g' ∧ Le g g' ∧ Frame (Blocks st g) w g w' g' ∧ (∀ b', Blocks (upd st id (some (.map es'))) g' b' → Blocks st g b' ∨ w.heap.size ≤ b') := by
  obtain ⟨hk1, hki⟩ := keyKI_ok hk
  have hu := tk_map (tiK_ok htt hT).1
  obtain ⟨hkk1, hkk2⟩ := tiK_ok htt hkt
  have hob := hm.obj id _ hst
  simp only [ObjOK] at hob
  obtain ⟨b, n, cap, ents, clock, h1, h2, h3, h4, h5, h6⟩ := hob
  simp only [Rep] at hx
  obtain ⟨b', n', cap', h1', rfl⟩ := hx
  rw [h1] at h1'; injection h1' with h1'; injection h1' with h1' h1''; subst h1'
  have hblk : Go.Abs.blk g id = some b := by simp [Go.Abs.blk, h1, h2]
  have hb : w.heap[b]? = some (.map ents clock) := by rw [← hm.heap]; exact h3
  cases hkd : P.underlying kt with
  | none => rw [hkd] at hkk2; cases hkk2
  | some kd =>
    have hik := isKey_of hkd hkk1 hk1 hki
    have fin : ∀ ents' clock', RepE g es' ents'.toList → Stamps ents'.toList clock' → let w' : World := { w with heap := w.heap.setIfInBounds b (.map ents' clock') }
        MemOK P (upd st id (some (.map es'))) w' { g with heap := w'.heap } ∧ Le g { g with heap := w'.heap } ∧ Frame (Blocks st g) w g w' { g with heap := w'.heap } ∧ (∀ b', Blocks (upd st id (some (.map es'))) { g with heap := w'.heap } b' → Blocks st g b' ∨ w.heap.size ≤ b') := by
      intro ents' clock' hr hs w'
      have hb' : w'.heap[b]? = some (.map ents' clock') := (MapKept.heap_set hb).1
      refine mem_inplace hm (by rw [hst]; simp) hblk hb rfl (fun i hi => ?_) h5 (fun hle => ?_)
      · show cellAt w'.heap b i = _
        simp only [cellAt, hb', hb]
      · simp only [ObjOK]
        exact ⟨b, n, cap, ents', clock', h1, h2, hb', RepE.mono hle _ _ hr, h5, hs⟩
    rcases put_of hkd hkk1 hv hk1 0 clock hput h4 with ⟨k1, k2⟩ | ⟨j, e0, k1, k2, k3, k4⟩
    · refine ⟨_, _, ?_, fin (ents.push { key, val := v, born := clock }) (clock + 1) (by simpa using k2) (by simpa using h6.push key v)⟩
      simp [Instr.mapUpdate, run_underlying hu, MapKept.run_getObj_map hb, run_checkKey hkk1 hk1 hkk2, MapKept.run_findKey hkd k1, MapKept.run_setObj_map _ hb]
    · have hj : ents[j]? = some e0 := by simpa using k2
      refine ⟨_, _, ?_, fin (ents.modify j fun e => { e with key := key, val := v }) clock (by rw [arr_modify_toList k2]; exact k4) (by rw [arr_modify_toList k2]; exact h6.set k2 key v)⟩
      simp [Instr.mapUpdate, run_underlying hu, MapKept.run_getObj_map hb, run_checkKey hkk1 hk1 hkk2, MapKept.run_findKey hkd k1, hj, k3, MapKept.run_keyThatStays hik, MapKept.run_setObj_map _ hb]

/-- A new map. -/
theorem map_new {st : Store} {w : World} {g : G} (hm : MemOK P st w g) : ∃ id g', g.io id = none ∧ st id = none ∧ Rep g' (.mref id) (.map (some w.heap.size)) ∧ MemOK P (upd st id (some (.map []))) (w.alloc (.map #[] 0)) g' ∧ Le g g' ∧ Frame (Blocks st g) w g (w.alloc (.map #[] 0)) g' ∧
    ∀ b', Blocks (upd st id (some (.map []))) g' b' → Blocks st g b' ∨ w.heap.size ≤ b' := by
  obtain ⟨id, f1, f2⟩ := fresh_id hm
  obtain ⟨m1, m2, m3⟩ := mem_push hm (.map #[] 0)
  let g' : G := { g with heap := (w.alloc (.map #[] 0)).heap, io := upd g.io id (some (w.heap.size, 0, 1)) }
  have hle : Le g g' := ⟨io_upd f1, m2.fr, m2.cell, m2.fm⟩
  have hnb : (w.alloc (.map #[] 0)).heap[w.heap.size]? = some (.map #[] 0) := by show (w.heap.push _)[_]? = _; simp
  have hfm : ¬ g.fm w.heap.size := fun h => by
    obtain ⟨en, cl, e⟩ := hm.fmm _ h
    have := heap_lt e; omega
  have hmem := mem_swap (w' := w.alloc (.map #[] 0)) (g' := g') (id := id) (b' := w.heap.size) (n' := 0) (cap' := 1) (o' := .map []) hm f1 rfl rfl (fun _ => .inr rfl) (fun b hb _ => (m3.old b hb (fun h => h)).1) (fun _ _ => rfl) rfl (fun _ => hfm) m3.size (fun _ => heap_lt hnb) hle
    (by simp only [ObjOK]; exact ⟨w.heap.size, 0, 1, #[], 0, upd_same _ _ _, by omega, hnb, by simp [RepE], hfm, by simp [Stamps]⟩)
  have e1 : upd (upd st id none) id (some (AObj.map [])) = upd st id (some (.map [])) := by
    funext j
    by_cases h : j = id
    · rw [h, upd_same, upd_same]
    · rw [upd_ne h, upd_ne h, upd_ne h]
  rw [e1] at hmem
  refine ⟨id, g', f1, f2, by simp only [Rep]; exact ⟨w.heap.size, 0, 1, upd_same _ _ _, rfl⟩, hmem, hle, ⟨m3.os, m3.tape, m3.output, m3.size, fun b hb hn => ⟨(m3.old b hb (fun h => h)).1, rfl, Iff.rfl⟩⟩, fun b' ⟨j, j1, j2⟩ => ?_⟩
  by_cases h : j = id
  · subst h
    right
    simp [Go.Abs.blk, g', upd_same] at j2
    omega
  · rw [upd_ne h] at j1
    refine .inl ⟨j, j1, ?_⟩
    unfold Go.Abs.blk at j2 ⊢
    rwa [show g'.io j = g.io j from upd_ne h] at j2

section
variable {l : List Oper} {r : List Oper} {s : St} {K : St → Prop} {t : Nat} {dst : Option Nat} {op : Op} {ty : TypeId} {pos : String} {after : Array Edge} {gd : Option (Nat × Bool)}

theorem ev_makeMap {T : TypeId} (hd : Nat.blt t s.n = true) (k : ∀ id, s.st id = none → Ev P l false r ((s.sst (upd s.st id (some (.map [])))).pv t (.mref id)) K) : Ev P l false (⟨some t, .makeMap T none, ty, pos, after, none⟩ :: r) s K := by
  refine evs_op rfl fun c a w g lam hs => ?_
  obtain ⟨id, g', f1, f2, h1, h2, h3, h4, h5⟩ := map_new hs.mem
  have hrun : (execOp a.eval (⟨some t, .makeMap T none, ty, pos, after, none⟩ : Oper)).run P w = .ok (.value (.map (some w.heap.size))) (w.alloc (.map #[] 0)) := by
    simp [execOp, Instr.makeMap, newObj, Sem.run]
  rw [hrun]
  exact ⟨_, g', lam, k id f2, (hs.step h2 h3 h4 h5).put (d := some t) (b := true) (e := .pv _) (fun z hz => by cases hz; simpa [Nat.blt_eq, St.sst] using hd) h1 (fun _ _ e => by cases e)⟩

theorem ev_mapUpd (htt : TTOK P tt) {T kt e : TypeId} {k : TK} {m y z : Operand} {id : Nat} {key : Value} {p : PV} {es es' : List (Value × PV)} (hop : op = .insert T m y z ∨ op = .mapUpdate T m y z) (hm : opd s m = some (.mref id)) (hy : opd s y = some (.val key)) (hz : opd s z = some p) (hT : tiK tt T = some (.map kt e)) (hkt : tiK tt kt = some k) (hk : keyKI k key = true)
    (hf : flagsB s [m, y, z] = true) (hst : s.st id = some (.map es)) (hput : mput key p es = some es') (kk : Ev P l false r (s.sst (upd s.st id (some (.map es')))) K) : Ev P l false (⟨none, op, ty, pos, after, none⟩ :: r) s K := by
  refine evs_op rfl fun c a w g lam hs => ?_
  have hall := flagsB_mem hf
  have rm := opd_ok hs (hall m (by simp)) _ hm
  have ey := rep_val (opd_ok hs (hall y (by simp)) _ hy)
  have rz := opd_ok hs (hall z (by simp)) _ hz
  obtain ⟨w', g', h1, h2, h3, h4, h5⟩ := map_update htt hs.mem hst hT hkt rm rz hk hput
  have hrun : (execOp a.eval (⟨none, op, ty, pos, after, none⟩ : Oper)).run P w = .ok .skip w' := by
    rcases hop with rfl | rfl <;> simp only [execOp, ey, Sem.run_bind, h1, Result.andThen_ok, Sem.run_pure]
  rw [hrun]
  exact ⟨_, g', lam, kk, hs.step h2 h3 h4 h5⟩
end

/-! ### What nobody writes any more -/

/-- A variable of the function's own, from now on. -/
def St.frozen (s : St) (u : Nat) (cs : List PV) : St := { s with env := upd s.env u (true, .pv (.rp cs)), L := upd s.L u none }

theorem pwp_freeze {cd : Code} {Q : Exit → St → Prop} {s : St} (u : Nat) {T : TypeId} {cs : List PV} (hx : s.env u = (true, .adr u 0)) (hL : s.L u = some (T, cs)) (k : PWp P cd Q (s.frozen u cs)) : PWp P cd Q s := by
  intro c a w g lam hs
  obtain ⟨vs, h1, h2, h3, h4, h5⟩ := hs.box u T cs hL
  have hlt : lam u < w.heap.size := by have := heap_lt h1; rwa [hs.mem.heap] at this
  let g' : G := { g with fr := upd g.fr (lam u) vs.size }
  have hle : Le g g' := by
    refine ⟨fun _ _ h => h, fun b => ?_, fun _ _ _ => rfl, fun b hb => ⟨hb, rfl⟩⟩
    show g.fr b ≤ upd g.fr _ _ b
    by_cases h : b = lam u
    · rw [h, h3]; exact Nat.zero_le _
    · rw [upd_ne h]; exact Nat.le_refl _
  have hfr : ∀ b, b ≠ lam u → g'.fr b = g.fr b := fun b h => upd_ne h
  have hm : MemOK P s.st w g' := by
    refine ⟨hs.mem.heap, fun id o e => (hs.mem.obj id o e).keep hle fun b hb => ⟨rfl, hfr b fun h => h5 ⟨id, by rw [e]; simp, h ▸ hb⟩, Iff.rfl⟩, hs.mem.inj, fun b hb => ?_, hs.mem.fmm, hs.mem.fin⟩
    by_cases h : b = lam u
    · rw [h]; exact hlt
    · rw [hfr b h] at hb; exact hs.mem.lt b hb
  have hrp : Rep g' (.rp cs) (.pointer (some ⟨lam u, 0, none⟩)) := by
    simp only [Rep]
    refine ⟨lam u, 0, rfl, ?_⟩
    have key : ∀ {cs : List PV} {o : Nat} {us : List Value}, RepL g' cs us → (∀ j v, us[j]? = some v → cellAt g'.heap (lam u) (o + j) = some v ∧ o + j < g'.fr (lam u)) → RepA g' (lam u) o cs := by
      intro cs
      induction cs with
      | nil => intro o us _ _; simp [RepA]
      | cons c cs ih =>
        intro o us hh hcc
        simp only [RepL] at hh
        obtain ⟨v, us', rfl, e1, e2⟩ := hh
        simp only [RepA]
        refine ⟨⟨v, by simpa using (hcc 0 v (by simp)).1, by simpa using (hcc 0 v (by simp)).2, e1⟩, ih e2 fun j x hj => ?_⟩
        have := hcc (j + 1) x (by simpa using hj)
        rwa [show o + (j + 1) = o + 1 + j from by omega] at this
    refine key (RepL.mono hle _ _ h2) fun j v hj => ?_
    have hj2 : j < vs.size := by have := (List.getElem?_eq_some_iff.1 hj).1; simpa using this
    refine ⟨?_, by show 0 + j < upd g.fr _ _ _; rw [upd_same]; omega⟩
    show cellAt g.heap (lam u) (0 + j) = some v
    simp only [cellAt, h1, Nat.zero_add]
    simpa using hj
  refine k c a w g' lam ⟨hm, hs.le.trans hle, ?_, hs.blk, fun t => ?_, fun t U ds e => ?_, fun t t' e e' => ?_, fun t b v off e => ?_, fun t e => ?_, hs.defers, hs.n⟩
  · refine ⟨hs.frame.os, hs.frame.tape, hs.frame.output, hs.frame.size, fun b hb hn => ?_⟩
    obtain ⟨f1, f2, f3⟩ := hs.frame.old b hb hn
    exact ⟨f1, (hfr b (by omega)).trans f2, f3⟩
  · show EntOK g' lam (upd s.env u _ t) _
    by_cases h : t = u
    · subst h
      rw [upd_same]
      have := hs.env t
      rw [hx] at this
      simp only [EntOK] at this ⊢
      rw [this]; exact hrp
    · rw [upd_ne h]; exact (hs.env t).mono hle
  · have e' : upd s.L u none t = some (U, ds) := e
    by_cases h : t = u
    · rw [h, upd_same] at e'; cases e'
    · rw [upd_ne h] at e'
      obtain ⟨us, k1, k2, k3, k4, k5⟩ := hs.box t U ds e'
      refine ⟨us, k1, RepL.mono hle _ _ k2, ?_, k4, k5⟩
      rw [hfr]
      · exact k3
      · intro hh
        exact h (hs.inj t u (by rw [e']; simp) (by rw [hL]; simp) hh)
  · have k1 : s.L t ≠ none := fun h => e (by show upd s.L u none t = none; by_cases h' : t = u; · rw [h', upd_same]
                                             · rw [upd_ne h']; exact h)
    have k2 : s.L t' ≠ none := fun h => e' (by show upd s.L u none t' = none; by_cases h' : t' = u; · rw [h', upd_same]
                                               · rw [upd_ne h']; exact h)
    exact hs.inj t t' k1 k2
  · have e' : upd s.env u (true, .pv (.rp cs)) t = (b, .adr v off) := e
    by_cases h : t = u
    · rw [h, upd_same] at e'; cases e'
    · rw [upd_ne h] at e'; exact hs.ad t b v off e'
  · refine hs.adL t fun h => e ?_
    show upd s.L u none t = none
    by_cases h' : t = u
    · rw [h', upd_same]
    · rw [upd_ne h']; exact h

/-- A map of the state's, from now on. -/
theorem pwp_freezeMap {cd : Code} {Q : Exit → St → Prop} {s : St} (u : Nat) {id : Nat} {es : List (Value × PV)} (hx : s.env u = (true, .pv (.mref id))) (hst : s.st id = some (.map es)) (k : PWp P cd Q ((s.sst (upd s.st id none)).pv u (.fmap es))) : PWp P cd Q s := by
  intro c a w g lam hs
  have hob := hs.mem.obj id _ hst
  simp only [ObjOK] at hob
  obtain ⟨b, n, cap, ents, clock, h1, h2, h3, h4, h5, h6⟩ := hob
  have hblk : Go.Abs.blk g id = some b := by simp [Go.Abs.blk, h1, h2]
  have hb : w.heap[b]? = some (.map ents clock) := by rw [← hs.mem.heap]; exact h3
  let g' : G := { g with fm := fun b' => b' = b ∨ g.fm b' }
  have hle : Le g g' := ⟨fun _ _ h => h, fun _ => Nat.le_refl _, fun _ _ _ => rfl, fun _ h => ⟨.inr h, rfl⟩⟩
  have hnb : ¬ Blocks (upd s.st id none) g b := fun ⟨j, j1, j2⟩ => by
    by_cases h : j = id
    · rw [h, upd_same] at j1; exact j1 rfl
    · rw [upd_ne h] at j1
      exact h (hs.mem.inj j id b j1 (by rw [hst]; simp) j2 hblk)
  have hsub : StSub (upd s.st id none) s.st := fun j => by
    by_cases h : j = id
    · left; rw [h, upd_same]
    · right; rw [upd_ne h]
  have hm : MemOK P (upd s.st id none) w g' := by
    have hm1 := hs.mem.sub hsub
    refine ⟨hm1.heap, fun j o e => (hm1.obj j o e).keep hle fun b' hb' => ⟨rfl, rfl, ?_⟩, hm1.inj, hm1.lt, fun b' hb' => ?_, hm1.fin⟩
    · constructor
      · rintro (h | h)
        · exact absurd ⟨j, by rw [e]; simp, h ▸ hb'⟩ hnb
        · exact h
      · exact .inr
    · rcases hb' with rfl | hb'
      · exact ⟨ents, clock, hb⟩
      · exact hm1.fmm b' hb'
  have hcb := hs.blk b ⟨id, by rw [hst]; simp, hblk⟩
  refine k c a w g' lam ⟨hm, hs.le.trans hle, ⟨hs.frame.os, hs.frame.tape, hs.frame.output, hs.frame.size, fun b' hb' hn => ?_⟩, fun b' hb' => hs.blk b' (Blocks.sub hsub hb'), fun t => ?_, fun t U ds e => ?_, hs.inj, fun t bb v off e => ?_, hs.adL, hs.defers, hs.n⟩
  · obtain ⟨f1, f2, f3⟩ := hs.frame.old b' hb' hn
    refine ⟨f1, f2, ?_⟩
    rw [← f3]
    constructor
    · rintro (h | h)
      · subst h
        rcases hcb with h | h
        · exact absurd h hn
        · omega
      · exact h
    · exact .inr
  · show EntOK g' lam (upd s.env u _ t) _
    by_cases h : t = u
    · subst h
      rw [upd_same]
      have := hs.env t
      rw [hx] at this
      simp only [EntOK, Rep] at this ⊢
      obtain ⟨b', n', cap', e1, e2⟩ := this
      rw [h1] at e1; injection e1 with e1; injection e1 with e1 e3; subst e1
      exact ⟨b, ents, clock, e2, .inl rfl, h3, RepE.mono hle _ _ h4⟩
    · rw [upd_ne h]; exact (hs.env t).mono hle
  · obtain ⟨us, k1, k2, k3, k4, k5⟩ := hs.box t U ds e
    exact ⟨us, k1, RepL.mono hle _ _ k2, k3, k4, fun hh => k5 (Blocks.sub hsub hh)⟩
  · have e' : upd s.env u (true, .pv (.fmap es)) t = (bb, .adr v off) := e
    by_cases h : t = u
    · rw [h, upd_same] at e'; cases e'
    · rw [upd_ne h] at e'; exact hs.ad t bb v off e'

/-! ### What arguments bear in themselves -/
theorem pc_assume {f : FuncId} {args : List PV} {st : Store} {R : PV → Store → Prop} (H : Prop) (hc : CallOK P f = true) (h : ∀ g vs, RepL g args vs → H) (k : H → PC P f args st R) : PC P f args st R :=
  ⟨hc, fun w g vs hm hr => (k (h g vs hr)).2 w g vs hm hr⟩
theorem pf_assume {f : FuncId} {args : List PV} {r : PV} (H : Prop) (hc : CallOK P f = true) (h : ∀ g vs, RepL g args vs → H) (k : H → PF P f args r) : PF P f args r :=
  fun st => pc_assume H hc h (fun hh => k hh st)

mutual
/-- Slices are not too long. -/
def lens : PV → Prop
  | .seq rows => rows.length < 2 ^ 62 ∧ lensR rows
  | .own _ rows => rows.length < 2 ^ 62 ∧ lensR rows
  | .agg cs => lensL cs
  | .tup cs => lensL cs
  | .rp cs => lensL cs
  | _ => True
def lensL : List PV → Prop
  | [] => True
  | p :: ps => lens p ∧ lensL ps
def lensR : List (List PV) → Prop
  | [] => True
  | r :: rs => lensL r ∧ lensR rs
end
mutual
theorem Rep.lens {g : G} : ∀ (p : PV) (v : Value), Rep g p v → lens p
  | .seq rows, _, h => by
    simp only [Rep] at h
    simp only [Go.Abs.lens]
    obtain ⟨a, cap, _, _, h3, h⟩ := h
    refine ⟨h3, ?_⟩
    rcases h with h | ⟨b, off, sz, _, h⟩
    · subst h; simp [lensR]
    · exact RepR.lens b off sz rows h
  | .own id rows, _, h => by
    simp only [Rep] at h
    simp only [Go.Abs.lens]
    obtain ⟨b, cap, sz, _, h2, h3, h⟩ := h
    refine ⟨h3, ?_⟩
    rcases h with ⟨h, _⟩ | ⟨_, _, h⟩
    · have : rows = [] := List.length_eq_zero_iff.1 (by omega)
      subst this; simp [lensR]
    · exact RepR.lens b 0 sz rows h
  | .agg cs, _, h => by
    simp only [Rep] at h
    obtain ⟨vs, _, h⟩ := h
    simp only [Go.Abs.lens]
    exact RepL.lens cs vs h
  | .tup cs, _, h => by
    simp only [Rep] at h
    obtain ⟨vs, _, h⟩ := h
    simp only [Go.Abs.lens]
    exact RepL.lens cs vs h
  | .rp cs, _, h => by
    simp only [Rep] at h
    obtain ⟨b, off, _, h⟩ := h
    simp only [Go.Abs.lens]
    exact RepA.lens b off cs h
  | .und, _, _ => by simp [Go.Abs.lens]
  | .val _, _, _ => by simp [Go.Abs.lens]
  | .fn _ _, _, _ => by simp [Go.Abs.lens]
  | .fmap _, _, _ => by simp [Go.Abs.lens]
  | .ref _ _, _, _ => by simp [Go.Abs.lens]
  | .vec _ _ _, _, _ => by simp [Go.Abs.lens]
  | .mref _, _, _ => by simp [Go.Abs.lens]
theorem RepL.lens {g : G} : ∀ (ps : List PV) (vs : List Value), RepL g ps vs → lensL ps
  | [], _, _ => by simp [lensL]
  | p :: ps, vs, h => by
    simp only [RepL] at h
    obtain ⟨v, vs', _, h1, h2⟩ := h
    simp only [lensL]
    exact ⟨Rep.lens p v h1, RepL.lens ps vs' h2⟩
theorem RepA.lens {g : G} (b off : Nat) : ∀ (ps : List PV), RepA g b off ps → lensL ps
  | [], _ => by simp [lensL]
  | p :: ps, h => by
    simp only [RepA] at h
    obtain ⟨⟨v, _, _, h1⟩, h2⟩ := h
    simp only [lensL]
    exact ⟨Rep.lens p v h1, RepA.lens b (off + 1) ps h2⟩
theorem RepR.lens {g : G} (b off sz : Nat) : ∀ (rs : List (List PV)), RepR g b off sz rs → lensR rs
  | [], _ => by simp [lensR]
  | r :: rs, h => by
    simp only [RepR] at h
    simp only [lensR]
    exact ⟨RepA.lens b off r h.2.1, RepR.lens b (off + sz) sz rs h.2.2⟩
end
theorem pf_lens {f : FuncId} {args : List PV} {r : PV} (hc : CallOK P f = true) (k : lensL args → PF P f args r) : PF P f args r :=
  pf_assume _ hc (fun _ _ h => h.lens) k
end
end Go.Abs
