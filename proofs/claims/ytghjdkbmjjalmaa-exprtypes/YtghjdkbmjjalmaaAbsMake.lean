/-
  ABS, part 11: new slices that nobody writes; variables and maps that nobody writes any more; look-ups.
-/
import Derived.Test.YtghjdkbmjjalmaaAbsAppend
namespace Go.Abs
open Go

section
variable {P : Program} {tt : TT}

/-- New cells that nobody writes. -/
theorem mem_frozen {st : Store} {w : World} {g : G} (hm : MemOK P st w g) (c : Array Value) (T : TypeId) (o : Obj) (ho : o = .cells c T (0, 0)) :
    let g' : G := { g with heap := (w.alloc o).heap, fr := upd g.fr w.heap.size c.size }
    MemOK P st (w.alloc o) g' ∧ Le g g' ∧ Frame (fun _ => False) w g (w.alloc o) g' := by
  subst ho
  intro g'
  obtain ⟨m1, m2, m3⟩ := mem_push hm (.cells c T (0, 0))
  have hsz : (w.alloc (.cells c T (0, 0))).heap.size = w.heap.size + 1 := by show (w.heap.push _).size = _; simp
  have hle1 : Le { g with heap := (w.alloc (.cells c T (0, 0))).heap } g' := by
    refine ⟨fun _ _ h => h, fun b => ?_, fun _ _ _ => rfl, fun b hb => ⟨hb, rfl⟩⟩
    show g.fr b ≤ upd g.fr _ _ b
    by_cases h : b = w.heap.size
    · subst h
      rw [upd_same]
      cases hz : g.fr w.heap.size with
      | zero => omega
      | succ k => exact absurd (hm.lt w.heap.size (by omega)) (by omega)
    · rw [upd_ne h]; exact Nat.le_refl _
  have blt : ∀ id b, st id ≠ none → blk g id = some b → b < w.heap.size := by
    intro id b h1 h2
    cases h3 : st id with
    | none => exact absurd h3 h1
    | some o =>
      have ho := hm.obj id o h3
      unfold Go.Abs.blk at h2
      have key : ∀ {n cap b' : Nat} {x : Obj}, g.io id = some (b', n, cap) → g.heap[b']? = some x → b < w.heap.size := by
        intro n cap b' x e1 e2
        rw [e1] at h2
        simp only at h2
        split at h2
        · cases h2
        · injection h2 with h2; subst h2
          have := heap_lt e2; rwa [hm.heap] at this
      cases o with
      | tok T =>
        simp only [ObjOK] at ho
        obtain ⟨b', n, cap, e1, e2⟩ := ho
        rcases e2 with e2 | ⟨c', e2, _⟩
        · subst e2; rw [e1] at h2; simp at h2
        · exact key e1 e2
      | cells T cs => simp only [ObjOK] at ho; obtain ⟨b', n, cap, vs, e1, _, e2, _⟩ := ho; exact key e1 e2
      | arr T rows => simp only [ObjOK] at ho; obtain ⟨b', cap, vs, sp, e1, _, _, e2, _⟩ := ho; exact key e1 e2
      | map es => simp only [ObjOK] at ho; obtain ⟨b', n, cap, ents, clock, e1, _, e2, _⟩ := ho; exact key e1 e2
  refine ⟨⟨rfl, fun id o e => ?_, m1.inj, fun b hb => ?_, m1.fmm, m1.fin⟩, m2.trans hle1, ⟨rfl, rfl, rfl, m3.size, fun b hb _ => ⟨(m3.old b hb (fun h => h)).1, ?_, Iff.rfl⟩⟩⟩
  · refine ObjOK.keep hle1 (fun b hb => ⟨rfl, ?_, Iff.rfl⟩) (m1.obj id o e)
    have := blt id b (by rw [e]; simp) hb
    show upd g.fr _ _ b = g.fr b
    exact upd_ne (by omega)
  · have hb' : upd g.fr w.heap.size c.size b ≠ 0 := hb
    by_cases h : b = w.heap.size
    · subst h; rw [hsz]; omega
    · rw [upd_ne h] at hb'; have := hm.lt b hb'; rw [hsz]; omega
  · show upd g.fr _ _ b = g.fr b
    exact upd_ne (by omega)

/-! ### Slices that are built -/
def forceR {α : Type} : List (List PV) → (List (List PV) → Option α) → Option α
  | [], k => k []
  | r :: rs, k => forceL r fun r' => forceR rs fun rs' => k (r' :: rs')
theorem forceR_eq {α : Type} : ∀ (l : List (List PV)) (k : List (List PV) → Option α), forceR l k = k l
  | [], _ => rfl
  | r :: rs, k => by simp only [forceR]; rw [forceL_eq, forceR_eq rs]

def chunk (sz : Nat) : Nat → List PV → List (List PV)
  | 0, _ => []
  | n + 1, cs => cs.take sz :: chunk sz n (cs.drop sz)
theorem chunk_flat (sz : Nat) : ∀ (n : Nat) (cs : List PV), cs.length = n * sz → (chunk sz n cs).flatten = cs ∧ (chunk sz n cs).length = n ∧ ∀ r ∈ chunk sz n cs, r.length = sz
  | 0, cs, h => by
    have : cs = [] := by rw [Nat.zero_mul] at h; exact List.length_eq_zero_iff.1 h
    subst this; simp [chunk]
  | n + 1, cs, h => by
    have hh : cs.length = n * sz + sz := by rw [h, Nat.add_mul]; omega
    obtain ⟨h1, h2, h3⟩ := chunk_flat sz n (cs.drop sz) (by rw [List.length_drop, hh]; omega)
    refine ⟨by simp only [chunk, List.flatten_cons, h1]; exact List.take_append_drop _ _, by simp [chunk, h2], fun r hr => ?_⟩
    simp only [chunk, List.mem_cons] at hr
    rcases hr with rfl | hr
    · rw [List.length_take, hh]; omega
    · exact h3 r hr

def zrep : Nat → List PV → List PV
  | 0, _ => []
  | n + 1, z => z ++ zrep n z

def pslice (tt : TT) (s : St) (T : TypeId) (len : Nat) (ps : List (Nat × Operand)) : Option PV :=
  match tiK tt T with
  | some (.slice e) => match tiSize tt e, tiZ tt e with
    | some (sz + 1), some z => bif Nat.beq z.length (sz + 1) && Nat.ble (len * (sz + 1)) 16777216 then
        match pfill tt (fun i => some (i * (sz + 1), sz + 1)) s (zrep len (z.map .val)) ps with
        | some cs => bif Nat.beq cs.length (len * (sz + 1)) then forceR (chunk (sz + 1) len cs) fun rows => some (.seq rows) else none
        | none => none
      else none
    | _, _ => none
  | _ => none

theorem zrep_vals (z : List Value) : ∀ n, zrep n (z.map PV.val) = ((List.replicate n z).flatten).map PV.val
  | 0 => rfl
  | n + 1 => by simp [zrep, zrep_vals z n, List.replicate_succ]

theorem range_cycle (z : List Value) (hz : z ≠ []) : ∀ n, (List.range (n * z.length)).map (fun i => z.toArray[i % z.length]!) = (List.replicate n z).flatten
  | 0 => by simp
  | n + 1 => by
    have hp : 0 < z.length := List.length_pos_iff.2 hz
    apply List.ext_getElem?
    intro i
    rw [List.replicate_succ, List.flatten_cons]
    have ih := range_cycle z hz n
    rcases Nat.lt_or_ge i z.length with h | h
    · rw [List.getElem?_append_left h]
      have hi : i < (n + 1) * z.length := by rw [Nat.add_mul]; omega
      simp [hi, Nat.mod_eq_of_lt h, h]
    · rw [List.getElem?_append_right h, ← ih]
      rcases Nat.lt_or_ge i ((n + 1) * z.length) with h2 | h2
      · have h3 : i - z.length < n * z.length := by rw [Nat.add_mul] at h2; omega
        have h4 : (i - z.length) % z.length = i % z.length := by
          rw [← Nat.add_mod_right (i - z.length)]; congr 1; omega
        simp [h2, h3, h4]
      · have h3 : n * z.length ≤ i - z.length := by rw [Nat.add_mul] at h2; omega
        rw [List.getElem?_eq_none (by simpa using h2), List.getElem?_eq_none (by simpa using h3)]

theorem opv_slice (htt : TTOK P tt) {o : Oper} {s : St} {T : TypeId} {len : Nat} {ps : List (Nat × Operand)} {p : PV} (ho : o.op = .buildSlice T len ps.toArray) (h : pslice tt s T len ps = some p) : OpV P o s p := by
  intro w g ρ hm hρ
  have hops : ∀ x ∈ ps.map (·.2), OpdOK g s x (ρ x) := fun x hx => hρ x (by rw [ho]; simpa [Op.operands] using hx)
  unfold pslice at h
  split at h
  case h_2 => cases h
  rename_i e hk
  split at h
  case h_2 => cases h
  rename_i sz z hsz hz
  cases hb : (Nat.beq z.length (sz + 1) && Nat.ble (len * (sz + 1)) 16777216) with
  | false => rw [hb] at h; simp at h
  | true =>
    rw [hb] at h
    simp only [cond_true] at h
    rw [Bool.and_eq_true] at hb
    have hb1 := Nat.eq_of_beq_eq_true hb.1
    have hb2 := Nat.le_of_ble_eq_true hb.2
    split at h
    case h_2 => cases h
    rename_i cs hcs
    cases hb3 : Nat.beq cs.length (len * (sz + 1)) with
    | false => rw [hb3] at h; simp at h
    | true =>
      rw [hb3] at h
      have hb3 := Nat.eq_of_beq_eq_true hb3
      simp only [cond_true, forceR_eq] at h
      injection h with h; subst h
      have hu := tk_slice (tiK_ok htt hk).1
      obtain ⟨zv, hz1, hz2⟩ := tiZ_ok htt hz
      have hzne : z ≠ [] := by intro h0; rw [h0] at hb1; simp at hb1
      have hzs : zv.cells.size = sz + 1 := by rw [← hb1, ← hz2]; simp
      let base : Array Value := (Array.range (len * (sz + 1))).map (zv.cells[· % zv.cells.size]!)
      have hbase : base.toList = (List.replicate len z).flatten := by
        rw [← range_cycle z hzne len, hb1]
        have hze : zv.cells = z.toArray := by apply Array.toList_inj.1; simp [hz2]
        simp only [base, hze]
        simp [hb1]
      obtain ⟨us, h1, h2⟩ := fill_rep (place' := fun i => some (i * (sz + 1), sz + 1)) (fun i x hx => hx) (ρ := ρ) ps _ cs base hcs (by rw [hbase, zrep_vals]; exact RepL.vals _) hops
      have hus : us.size = len * (sz + 1) := by rw [← hb3, ← h2.length]; simp
      obtain ⟨c1, c2, c3⟩ := chunk_flat (sz + 1) len cs hb3
      have hrun : (execOp ρ o).run P w = .ok (.value (.slice (some ⟨w.heap.size, 0, none⟩) len len)) (w.alloc (.cells us e (0, 0))) := by
        by_cases hl : len * (sz + 1) = 0
        · have hl0 : len = 0 := by rcases Nat.mul_eq_zero.1 hl with h | h <;> omega
          subst hl0
          have h1' : Instr.fill (fun i => some (i * (sz + 1), sz + 1)) base (ps.map fun x => (x.fst, ρ x.snd)) = some us := h1
          have r0 : Array.range 0 = (#[] : Array Nat) := rfl
          simp only [base, Nat.zero_mul, r0, List.map_toArray, List.map_nil] at h1'
          simp only [execOp, ho, Instr.buildSlice, Sem.run_bind, run_underlying hu, Result.andThen_ok, run_sizeOf (tiSize_ok htt hsz).1, Sem.run_pure]
          simp [r0, h1', newRow, newObj]
          try rfl
        · have hgt : ¬ (len * (sz + 1) > 2 ^ 24) := by omega
          have h1' : Instr.fill (fun i => some (i * (sz + 1), sz + 1)) base (ps.map fun x => (x.fst, ρ x.snd)) = some us := h1
          simp only [execOp, ho, Instr.buildSlice, Sem.run_bind, run_underlying hu, Result.andThen_ok, run_sizeOf (tiSize_ok htt hsz).1, Sem.run_pure, if_neg hgt, if_neg hl, run_zeroValue hz1]
          simp only [base] at h1'
          simp [h1', newRow, newObj]
          try rfl
      rw [hrun]
      obtain ⟨m1, m2, m3⟩ := mem_frozen hm us e _ rfl
      refine ⟨_, ?_, m1, m2, m3.mono (fun b h => h.elim)⟩
      simp only [Rep]
      refine ⟨some ⟨w.heap.size, 0, none⟩, len, by rw [c2], by omega, ?_, .inr ⟨w.heap.size, 0, sz + 1, rfl, ?_⟩⟩
      · rw [c2]
        have : len * 1 ≤ len * (sz + 1) := Nat.mul_le_mul_left _ (by omega)
        omega
      · refine RepR.mk c3 (by rw [c1]; exact RepL.mono m2 _ _ h2) fun j v hj => ?_
        have hj2 : j < us.size := by
          have := (List.getElem?_eq_some_iff.1 hj).1; simpa using this
        refine ⟨?_, by show 0 + j < upd g.fr _ _ _; rw [upd_same]; omega⟩
        show cellAt (w.heap.push (.cells us e (0, 0))) w.heap.size (0 + j) = some v
        simp only [cellAt, Array.getElem?_push_size, Nat.zero_add]
        simpa using hj

section
variable {l : List Oper} {d : Bool} {r : List Oper} {s : St} {K : St → Prop} {t : Nat} {op : Op} {ty : TypeId} {pos : String} {after : Array Edge} {gd : Option (Nat × Bool)}

theorem ev_slice (htt : TTOK P tt) {T : TypeId} {len : Nat} {ps : Array (Nat × Operand)} {w : Bool} {p : PV} (hw : wantA l ⟨some t, .buildSlice T len ps, ty, pos, after, gd⟩ s = some w) (h : pslice tt s T len ps.toList = some p) (hf : flagsG s w (opl (.buildSlice T len ps))) (hd : Nat.blt t s.n = true)
    (k : Ev P l d r (s.put (some t) w (.pv p)) K) : Ev P l d (⟨some t, .buildSlice T len ps, ty, pos, after, gd⟩ :: r) s K :=
  ev_opvg hw (fun _ => opv_slice htt rfl h) (fun z hz => opl_mem (fun _ _ _ e => by cases e) hz) hf hd k

/-- A place in an array of the function's own. -/
theorem ev_idx (htt : TTOK P tt) {T : TypeId} {x : Nat} {y : Operand} {w wx : Bool} {u off n e sz : Nat} {kk : IntKind} {i : Int} (j : Nat) (hw : wantA l ⟨some t, .indexAddr T (.tmp x) y, ty, pos, after, gd⟩ s = some w) (hx : s.env x = (wx, .adr u off)) (hy : opd s y = some (.val (.int kk i))) (hk : tiK tt T = some (.arr n e)) (hs : tiSize tt e = some sz)
    (hf : w = true → wx = true) (hf2 : w = true → flagB s y = true) (hd : Nat.blt t s.n = true)
    (hj : w = true → i = (j : Int)) (hlt : w = true → j < n) (k : Ev P l d r (s.put (some t) w (.adr u (off + j * sz))) K) : Ev P l d (⟨some t, .indexAddr T (.tmp x) y, ty, pos, after, gd⟩ :: r) s K :=
  ev_step (.adrI w wx u off T x y kk i n e sz j hw hd rfl hx hy (fun h => ⟨hf h, flagOK_iff.2 (hf2 h)⟩) (tk_arr (tiK_ok htt hk).1) (tiSize_ok htt hs).1 (fun h => ⟨hj h, hlt h⟩)) k
end
end
end Go.Abs
