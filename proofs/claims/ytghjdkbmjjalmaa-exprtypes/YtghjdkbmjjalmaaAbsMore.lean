/-
  ABS, part 9: numbers, places in slices and texts, new slices.
-/
import Derived.Test.YtghjdkbmjjalmaaAbsCall
namespace Go.Abs
open Go

theorem wrap64 {n : Int} (h1 : -9223372036854775808 ≤ n) (h2 : n ≤ 9223372036854775807) : IntKind.i64.wrap n = n := by
  simp only [IntKind.wrap, IntKind.bits, IntKind.signed, Bool.true_and]
  split <;> rename_i h <;> simp at h <;> omega

section
variable {P : Program} {tt : TT} {l : List Oper} {d : Bool} {r : List Oper} {s : St} {K : St → Prop} {t : Nat} {ty : TypeId} {pos : String} {after : Array Edge} {gd : Option (Nat × Bool)}

theorem opv_arith {o : Oper} {op : BinOp} {T T2 : TypeId} {x y : Operand} {k : IntKind} {a b c : Int} (ho : o.op = .binOp op T x y T2) (hx : opd s x = some (.val (.int k a))) (hy : opd s y = some (.val (.int k b)))
    (hc : (op = .add ∧ k.wrap (a + b) = c) ∨ (op = .sub ∧ k.wrap (a - b) = c) ∨ (op = .mul ∧ k.wrap (a * b) = c) ∨ (op = .quo ∧ b ≠ 0 ∧ k.wrap (a.tdiv b) = c) ∨ (op = .rem ∧ b ≠ 0 ∧ a.tmod b = c)) : OpV P o s (.val (.int k c)) := by
  refine opv_value fun w g ρ _ hρ => ?_
  have ex := rep_val (hρ x (by rw [ho]; simp [Op.operands]) _ hx)
  have ey := rep_val (hρ y (by rw [ho]; simp [Op.operands]) _ hy)
  refine ⟨.int k c, run_binOp ho (by rw [ex, ey]; simp [eqGuard]) ?_, by simp [Rep]⟩
  rw [ex, ey]
  rcases hc with ⟨rfl, rfl⟩ | ⟨rfl, rfl⟩ | ⟨rfl, rfl⟩ | ⟨rfl, hb, rfl⟩ | ⟨rfl, hb, rfl⟩ <;> simp [binOp, Op.intArith, Op.intDiv, *]

theorem opv_neg {o : Oper} {T : TypeId} {x : Operand} {k : IntKind} {a c : Int} (ho : o.op = .unOp .neg T x) (hx : opd s x = some (.val (.int k a))) (hc : k.wrap (0 - a) = c) : OpV P o s (.val (.int k c)) := by
  refine opv_value fun w g ρ _ hρ => ?_
  have ex := rep_val (hρ x (by rw [ho]; simp [Op.operands]) _ hx)
  exact ⟨.int k c, by simp [execOp, ho, ex, Op.unary, Op.intArith, ← hc], by simp [Rep]⟩

theorem opv_conv (htt : TTOK P tt) {o : Oper} {T T2 : TypeId} {x : Operand} {k k2 : IntKind} {a c : Int} (ho : o.op = .convert T T2 x) (hx : opd s x = some (.val (.int k a))) (hT : (tiK tt T).isSome = true) (hk : tiK tt T2 = some (.int k2)) (hc : k2.wrap a = c) : OpV P o s (.val (.int k2 c)) := by
  refine opv_value fun w g ρ _ hρ => ?_
  have ex := rep_val (hρ x (by rw [ho]; simp [Op.operands]) _ hx)
  have hu2 := tk_int (tiK_ok htt hk).1
  cases hT' : tiK tt T with
  | none => rw [hT'] at hT; cases hT
  | some kk =>
    have hu := (tiK_ok htt hT').2
    cases hu1 : P.underlying T with
    | none => rw [hu1] at hu; cases hu
    | some dd =>
      refine ⟨.int k2 c, ?_, by simp [Rep]⟩
      simp [execOp, ho, ex, convert, run_underlying hu1, run_underlying hu2, Conv.intToInt, hc]

theorem mem_bin {op : BinOp} {T T2 : TypeId} {x y : Operand} : ∀ z ∈ (Op.binOp op T x y T2).operands, z ∈ opl (.binOp op T x y T2) := fun z hz => opl_mem (fun _ _ _ e => by cases e) hz

theorem ev_add {T T2 : TypeId} {x y : Operand} {a b : Int} (c : Int) (hx : opd s x = some (.val (.int .i64 a))) (hy : opd s y = some (.val (.int .i64 b))) (hf : flagsB s [x, y] = true) (hd : Nat.blt t s.n = true) (hc : a + b = c) (h1 : -9223372036854775808 ≤ c) (h2 : c ≤ 9223372036854775807)
    (k : Ev P l d r (s.pv t (.val (.int .i64 c))) K) : Ev P l d (⟨some t, .binOp .add T x y T2, ty, pos, after, none⟩ :: r) s K :=
  ev_opv (opv_arith rfl hx hy (.inl ⟨rfl, hc ▸ wrap64 (hc.symm ▸ h1) (hc.symm ▸ h2)⟩)) mem_bin hf hd k
theorem ev_sub {T T2 : TypeId} {x y : Operand} {a b : Int} (c : Int) (hx : opd s x = some (.val (.int .i64 a))) (hy : opd s y = some (.val (.int .i64 b))) (hf : flagsB s [x, y] = true) (hd : Nat.blt t s.n = true) (hc : a - b = c) (h1 : -9223372036854775808 ≤ c) (h2 : c ≤ 9223372036854775807)
    (k : Ev P l d r (s.pv t (.val (.int .i64 c))) K) : Ev P l d (⟨some t, .binOp .sub T x y T2, ty, pos, after, none⟩ :: r) s K :=
  ev_opv (opv_arith rfl hx hy (.inr (.inl ⟨rfl, hc ▸ wrap64 (hc.symm ▸ h1) (hc.symm ▸ h2)⟩))) mem_bin hf hd k
theorem ev_mul {T T2 : TypeId} {x y : Operand} {a b : Int} (c : Int) (hx : opd s x = some (.val (.int .i64 a))) (hy : opd s y = some (.val (.int .i64 b))) (hf : flagsB s [x, y] = true) (hd : Nat.blt t s.n = true) (hc : a * b = c) (h1 : -9223372036854775808 ≤ c) (h2 : c ≤ 9223372036854775807)
    (k : Ev P l d r (s.pv t (.val (.int .i64 c))) K) : Ev P l d (⟨some t, .binOp .mul T x y T2, ty, pos, after, none⟩ :: r) s K :=
  ev_opv (opv_arith rfl hx hy (.inr (.inr (.inl ⟨rfl, hc ▸ wrap64 (hc.symm ▸ h1) (hc.symm ▸ h2)⟩)))) mem_bin hf hd k
/-- Numbers that may wrap. -/
theorem ev_addw {T T2 : TypeId} {x y : Operand} {kk : IntKind} {a b : Int} (hx : opd s x = some (.val (.int kk a))) (hy : opd s y = some (.val (.int kk b))) (hf : flagsB s [x, y] = true) (hd : Nat.blt t s.n = true)
    (k : Ev P l d r (s.pv t (.val (.int kk (kk.wrap (a + b))))) K) : Ev P l d (⟨some t, .binOp .add T x y T2, ty, pos, after, none⟩ :: r) s K :=
  ev_opv (opv_arith rfl hx hy (.inl ⟨rfl, rfl⟩)) mem_bin hf hd k
theorem ev_subw {T T2 : TypeId} {x y : Operand} {kk : IntKind} {a b : Int} (hx : opd s x = some (.val (.int kk a))) (hy : opd s y = some (.val (.int kk b))) (hf : flagsB s [x, y] = true) (hd : Nat.blt t s.n = true)
    (k : Ev P l d r (s.pv t (.val (.int kk (kk.wrap (a - b))))) K) : Ev P l d (⟨some t, .binOp .sub T x y T2, ty, pos, after, none⟩ :: r) s K :=
  ev_opv (opv_arith rfl hx hy (.inr (.inl ⟨rfl, rfl⟩))) mem_bin hf hd k
theorem ev_mulw {T T2 : TypeId} {x y : Operand} {kk : IntKind} {a b : Int} (hx : opd s x = some (.val (.int kk a))) (hy : opd s y = some (.val (.int kk b))) (hf : flagsB s [x, y] = true) (hd : Nat.blt t s.n = true)
    (k : Ev P l d r (s.pv t (.val (.int kk (kk.wrap (a * b))))) K) : Ev P l d (⟨some t, .binOp .mul T x y T2, ty, pos, after, none⟩ :: r) s K :=
  ev_opv (opv_arith rfl hx hy (.inr (.inr (.inl ⟨rfl, rfl⟩)))) mem_bin hf hd k
theorem ev_quo {T T2 : TypeId} {x y : Operand} {kk : IntKind} {a b c : Int} (hx : opd s x = some (.val (.int kk a))) (hy : opd s y = some (.val (.int kk b))) (hb : b ≠ 0) (hc : kk.wrap (a.tdiv b) = c) (hf : flagsB s [x, y] = true) (hd : Nat.blt t s.n = true)
    (k : Ev P l d r (s.pv t (.val (.int kk c))) K) : Ev P l d (⟨some t, .binOp .quo T x y T2, ty, pos, after, none⟩ :: r) s K :=
  ev_opv (opv_arith rfl hx hy (.inr (.inr (.inr (.inl ⟨rfl, hb, hc⟩))))) mem_bin hf hd k
theorem ev_rem {T T2 : TypeId} {x y : Operand} {kk : IntKind} {a b c : Int} (hx : opd s x = some (.val (.int kk a))) (hy : opd s y = some (.val (.int kk b))) (hb : b ≠ 0) (hc : a.tmod b = c) (hf : flagsB s [x, y] = true) (hd : Nat.blt t s.n = true)
    (k : Ev P l d r (s.pv t (.val (.int kk c))) K) : Ev P l d (⟨some t, .binOp .rem T x y T2, ty, pos, after, none⟩ :: r) s K :=
  ev_opv (opv_arith rfl hx hy (.inr (.inr (.inr (.inr ⟨rfl, hb, hc⟩))))) mem_bin hf hd k
theorem ev_neg {T : TypeId} {x : Operand} {a : Int} (hx : opd s x = some (.val (.int .i64 a))) (h1 : -9223372036854775808 ≤ 0 - a) (h2 : 0 - a ≤ 9223372036854775807) (hf : flagsB s [x] = true) (hd : Nat.blt t s.n = true)
    (k : Ev P l d r (s.pv t (.val (.int .i64 (0 - a)))) K) : Ev P l d (⟨some t, .unOp .neg T x, ty, pos, after, none⟩ :: r) s K :=
  ev_opv (opv_neg rfl hx (wrap64 h1 h2)) (fun z hz => opl_mem (fun _ _ _ e => by cases e) hz) hf hd k
theorem ev_conv (htt : TTOK P tt) {T T2 : TypeId} {x : Operand} {k1 k2 : IntKind} {a c : Int} (hx : opd s x = some (.val (.int k1 a))) (hT : (tiK tt T).isSome = true) (hk : tiK tt T2 = some (.int k2)) (hc : k2.wrap a = c) (hf : flagsB s [x] = true) (hd : Nat.blt t s.n = true)
    (k : Ev P l d r (s.pv t (.val (.int k2 c))) K) : Ev P l d (⟨some t, .convert T T2 x, ty, pos, after, none⟩ :: r) s K :=
  ev_opv (opv_conv htt rfl hx hT hk hc) (fun z hz => opl_mem (fun _ _ _ e => by cases e) hz) hf hd k

/-! the same under a guard -/
theorem ev_arithg {op : BinOp} {T T2 : TypeId} {x y : Operand} {w : Bool} {kk : IntKind} {a b c : Int} (hw : wantA l ⟨some t, .binOp op T x y T2, ty, pos, after, gd⟩ s = some w) (hx : opd s x = some (.val (.int kk a))) (hy : opd s y = some (.val (.int kk b)))
    (hc : w = true → (op = .add ∧ kk.wrap (a + b) = c) ∨ (op = .sub ∧ kk.wrap (a - b) = c) ∨ (op = .mul ∧ kk.wrap (a * b) = c) ∨ (op = .quo ∧ b ≠ 0 ∧ kk.wrap (a.tdiv b) = c) ∨ (op = .rem ∧ b ≠ 0 ∧ a.tmod b = c)) (hf : flagsG s w [x, y]) (hd : Nat.blt t s.n = true)
    (k : Ev P l d r (s.put (some t) w (.pv (.val (.int kk c)))) K) : Ev P l d (⟨some t, .binOp op T x y T2, ty, pos, after, gd⟩ :: r) s K :=
  ev_opvg hw (fun hw' => opv_arith rfl hx hy (hc hw')) mem_bin hf hd k
theorem ev_addg {T T2 : TypeId} {x y : Operand} {w : Bool} {a b : Int} (c : Int) (hw : wantA l ⟨some t, .binOp .add T x y T2, ty, pos, after, gd⟩ s = some w) (hx : opd s x = some (.val (.int .i64 a))) (hy : opd s y = some (.val (.int .i64 b))) (hf : flagsG s w [x, y]) (hd : Nat.blt t s.n = true)
    (hc : w = true → a + b = c) (h1 : w = true → -9223372036854775808 ≤ c) (h2 : w = true → c ≤ 9223372036854775807) (k : Ev P l d r (s.put (some t) w (.pv (.val (.int .i64 c)))) K) : Ev P l d (⟨some t, .binOp .add T x y T2, ty, pos, after, gd⟩ :: r) s K :=
  ev_arithg hw hx hy (fun h => .inl ⟨rfl, (hc h) ▸ wrap64 ((hc h).symm ▸ h1 h) ((hc h).symm ▸ h2 h)⟩) hf hd k
theorem ev_subg {T T2 : TypeId} {x y : Operand} {w : Bool} {a b : Int} (c : Int) (hw : wantA l ⟨some t, .binOp .sub T x y T2, ty, pos, after, gd⟩ s = some w) (hx : opd s x = some (.val (.int .i64 a))) (hy : opd s y = some (.val (.int .i64 b))) (hf : flagsG s w [x, y]) (hd : Nat.blt t s.n = true)
    (hc : w = true → a - b = c) (h1 : w = true → -9223372036854775808 ≤ c) (h2 : w = true → c ≤ 9223372036854775807) (k : Ev P l d r (s.put (some t) w (.pv (.val (.int .i64 c)))) K) : Ev P l d (⟨some t, .binOp .sub T x y T2, ty, pos, after, gd⟩ :: r) s K :=
  ev_arithg hw hx hy (fun h => .inr (.inl ⟨rfl, (hc h) ▸ wrap64 ((hc h).symm ▸ h1 h) ((hc h).symm ▸ h2 h)⟩)) hf hd k
theorem ev_negg {T : TypeId} {x : Operand} {w : Bool} {a : Int} (hw : wantA l ⟨some t, .unOp .neg T x, ty, pos, after, gd⟩ s = some w) (hx : opd s x = some (.val (.int .i64 a))) (h1 : -9223372036854775808 ≤ 0 - a) (h2 : 0 - a ≤ 9223372036854775807) (hf : flagsG s w [x]) (hd : Nat.blt t s.n = true)
    (k : Ev P l d r (s.put (some t) w (.pv (.val (.int .i64 (0 - a))))) K) : Ev P l d (⟨some t, .unOp .neg T x, ty, pos, after, gd⟩ :: r) s K :=
  ev_opvg hw (fun _ => opv_neg rfl hx (wrap64 h1 h2)) (fun z hz => opl_mem (fun _ _ _ e => by cases e) hz) hf hd k

/-! ### Places -/

/-- A slice's rows, if its cells are nobody's to write. -/
def prows : PV → Option (List (List PV))
  | .seq rows => some rows
  | .own _ rows => some rows
  | .val (.slice none 0 0) => some []
  | _ => none

theorem prows_ok {p : PV} {rows : List (List PV)} (h : prows p = some rows) {g : G} {v : Value} (hr : Rep g p v) : Rep g (.seq rows) v := by
  unfold prows at h
  split at h
  · injection h with h; subst h; exact hr
  · injection h with h; subst h; exact Wk.own _ _ _ _ hr
  · injection h with h; subst h; exact Wk.nil _ _ hr
  · cases h

theorem RepR.get {g : G} {b : Nat} {sz : Nat} : ∀ {rows : List (List PV)} {off : Nat} {j : Nat} {row : List PV}, RepR g b off sz rows → rows[j]? = some row → row.length = sz ∧ RepA g b (off + j * sz) row
  | [], _, _, _, _, e => by simp at e
  | r :: rs, off, j, row, h, e => by
    simp only [RepR] at h
    cases j with
    | zero => simp at e; subst e; exact ⟨h.1, by simpa using h.2.1⟩
    | succ j =>
      simp at e
      have := RepR.get h.2.2 e
      refine ⟨this.1, ?_⟩
      rw [show off + (j + 1) * sz = off + sz + j * sz from by rw [Nat.add_mul]; omega]
      exact this.2

theorem opv_index (htt : TTOK P tt) {o : Oper} {T e : TypeId} {x y : Operand} {p : PV} {rows : List (List PV)} {k : IntKind} {n : Int} {j sz : Nat} {row : List PV} (ho : o.op = .indexAddr T x y) (hx : opd s x = some p) (hp : prows p = some rows) (hy : opd s y = some (.val (.int k n))) (hj : n = (j : Int))
    (hk : tiK tt T = some (.slice e)) (hs : tiSize tt e = some sz) (hr : rows[j]? = some row) (hl : row.length = sz) : OpV P o s (.rp row) := by
  refine opv_value fun w g ρ _ hρ => ?_
  have rx := prows_ok hp (hρ x (by rw [ho]; simp [Op.operands]) _ hx)
  have ey := rep_val (hρ y (by rw [ho]; simp [Op.operands]) _ hy)
  simp only [Rep] at rx
  obtain ⟨a, cap, ex, _, _, h4⟩ := rx
  rcases h4 with h4 | ⟨b, off, sz', rfl, hR⟩
  · subst h4; simp at hr
  · obtain ⟨g1, g2⟩ := hR.get hr
    have hsz : sz' = sz := by omega
    subst hsz
    have hlt : j < rows.length := by
      rcases Nat.lt_or_ge j rows.length with h | h
      · exact h
      · rw [List.getElem?_eq_none h] at hr; cases hr
    have hu := tk_slice (tiK_ok htt hk).1
    refine ⟨.pointer (some ⟨b, off + j * sz', none⟩), ?_, by simp only [Rep]; exact ⟨b, _, rfl, g2⟩⟩
    subst hj
    have hin : (0 : Int) ≤ (j : Int) ∧ (j : Int) < (rows.length : Int) := by omega
    simp only [execOp, ho, Instr.indexAt, ey, ex, asIntOf, Sem.run_bind, Sem.run_pure, Result.andThen_ok, run_underlying hu]
    rw [if_pos hin]
    simp only [Sem.run_bind, run_sizeOf (tiSize_ok htt hs).1, Result.andThen_ok, Sem.run_pure, Int.toNat_natCast, addr_add]

theorem ev_index (htt : TTOK P tt) {T e : TypeId} {x y : Operand} {p : PV} {rows : List (List PV)} {kk : IntKind} {n : Int} {j sz : Nat} {row : List PV} (hx : opd s x = some p) (hp : prows p = some rows) (hy : opd s y = some (.val (.int kk n))) (hk : tiK tt T = some (.slice e)) (hs : tiSize tt e = some sz) (hf : flagsB s [x, y] = true) (hd : Nat.blt t s.n = true)
    (hj : n = (j : Int)) (hr : rows[j]? = some row) (hl : row.length = sz) (k : Ev P l d r (s.pv t (.rp row)) K) : Ev P l d (⟨some t, .indexAddr T x y, ty, pos, after, none⟩ :: r) s K :=
  ev_opv (opv_index htt rfl hx hp hy hj hk hs hr hl) (fun z hz => opl_mem (fun _ _ _ e => by cases e) hz) hf hd k

theorem ev_indexg (htt : TTOK P tt) {T e : TypeId} {x y : Operand} {w : Bool} {p : PV} {rows : List (List PV)} {kk : IntKind} {n : Int} {j sz : Nat} {row : List PV} (hw : wantA l ⟨some t, .indexAddr T x y, ty, pos, after, gd⟩ s = some w) (hx : opd s x = some p) (hp : prows p = some rows) (hy : opd s y = some (.val (.int kk n))) (hk : tiK tt T = some (.slice e)) (hs : tiSize tt e = some sz) (hf : flagsG s w [x, y]) (hd : Nat.blt t s.n = true)
    (hj : w = true → n = (j : Int)) (hr : w = true → rows[j]? = some row) (hl : w = true → row.length = sz) (k : Ev P l d r (s.put (some t) w (.pv (.rp row))) K) : Ev P l d (⟨some t, .indexAddr T x y, ty, pos, after, gd⟩ :: r) s K :=
  ev_opvg hw (fun hw' => opv_index htt rfl hx hp hy (hj hw') hk hs (hr hw') (hl hw')) (fun z hz => opl_mem (fun _ _ _ e => by cases e) hz) hf hd k

/-- A place in an array of the function's own. -/
theorem ev_indexL {T : TypeId} {x : Nat} {y : Operand} {u off : Nat} {n e sz : Nat} {kk : IntKind} {i : Int} {j : Nat} (htt : TTOK P tt) (hx : s.env x = (true, .adr u off)) (hy : opd s y = some (.val (.int kk i))) (hk : tiK tt T = some (.arr n e)) (hs : tiSize tt e = some sz) (hf : flagB s y = true) (hd : Nat.blt t s.n = true)
    (hj : i = (j : Int)) (hlt : j < n) (k : Ev P l d r (s.put (some t) true (.adr u (off + j * sz))) K) (hdd : d = false) : Ev P l d (⟨some t, .indexAddr T (.tmp x) y, ty, pos, after, none⟩ :: r) s K := by
  subst hdd
  intro c a w g lam hs' K' Q hK
  have hw : Region.wanted (⟨some t, .indexAddr T (.tmp x) y, ty, pos, after, none⟩ : Oper) (yielded l.toArray a.tmps) = true := by simp [Region.wanted]
  unfold OneOp
  rw [hw]
  simp only [if_true]
  have hx1 := hs'.env x
  rw [hx] at hx1
  have hx' : a.eval (.tmp x) = .pointer (some ⟨lam u, off, none⟩) := hx1
  have ey := rep_val (opd_ok hs' (flagOK_iff.2 hf) _ hy)
  have hu := tk_arr (tiK_ok htt hk).1
  subst hj
  have hin : (0 : Int) ≤ (j : Int) ∧ (j : Int) < (n : Int) := by omega
  have hrun : (execOp a.eval (⟨some t, .indexAddr T (.tmp x) y, ty, pos, after, none⟩ : Oper)).run P w = .ok (.value (.pointer (some ⟨lam u, off + j * sz, none⟩))) w := by
    simp only [execOp, Instr.indexAt, ey, hx', asIntOf, Sem.run_bind, Sem.run_pure, Result.andThen_ok, run_underlying hu, Instr.sureAddr]
    rw [if_pos hin]
    simp only [Sem.run_bind, run_sizeOf (tiSize_ok htt hs).1, Result.andThen_ok, Sem.run_pure, Int.toNat_natCast, addr_add]
  refine upon_of_res (R := fun v w' => v = .pointer (some ⟨lam u, off + j * sz, none⟩) ∧ w' = w) (by rw [hrun]; exact ⟨rfl, rfl⟩) ?_
  rintro v w' ⟨rfl, rfl⟩
  exact hK _ _ _ _ _ k (hs'.put (fun z hz => by cases hz; simpa [Nat.blt_eq] using hd) (by simp [EntOK]) (fun _ _ e => by cases e; exact hs'.ad x _ _ _ hx))
end
end Go.Abs
