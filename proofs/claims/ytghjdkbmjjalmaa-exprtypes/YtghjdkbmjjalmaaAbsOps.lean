/-
  ABS, part 6: a table of the types, and what operations that look at their operands alone yield.
-/
import Derived.Test.YtghjdkbmjjalmaaAbsDraw
namespace Go.Abs
open Go

inductive TK where
  | int (k : IntKind)
  | bool
  | str
  | slice (e : TypeId)
  | arr (n : Nat) (e : TypeId)
  | struct (fs : List (TypeId × Nat))
  | map (k e : TypeId)
  | other


/-- Of a type: how many cells, whether it is a struct or an array, its zero cells, its kind, whether its values are held against each other cell by cell. -/
structure TI where
  size : Nat
  agg : Bool
  z : List Value
  k : TK
  cmp : Bool

/-- Values of the type are held against each other cell by cell: numbers, bools, texts, and structs and arrays of these. -/
def cmpT (P : Program) : Nat → TypeId → Bool
  | 0, _ => false
  | d + 1, t => match P.underlying t with
    | some (.int _) | some .bool | some .string => true
    | some (.struct fs) => !P.stoodInHeld t && fs.toList.all fun f => f.name != "_" && cmpT P d f.type
    | some (.array _ e) => cmpT P d e
    | _ => false

def tkOf (P : Program) (t : TypeId) : TK :=
  match P.underlying t with
  | some (.int k) => .int k
  | some .bool => .bool
  | some .string => .str
  | some (.slice e) => .slice e
  | some (.array n e) => .arr n e
  | some (.struct fs) => .struct (fs.toList.map fun f => (f.type, f.offset))
  | some (.map k e) => .map k e
  | _ => .other

def fieldsOK (P : Program) : TypeDesc → Bool
  | .struct fs => fs.toList.all fun f => (P.info? f.type).isSome
  | _ => true

def isAggV : Value → Bool
  | .agg _ => true
  | _ => false

def tiOf (P : Program) (t : TypeId) : Option TI :=
  match P.info? t with
  | some i => match i.zero, P.underlying t with
    | some z, some d => if fieldsOK P d && (isAggT P t == isAggV z) then some { size := i.size, agg := isAggT P t, z := z.cells.toList, k := tkOf P t, cmp := cmpT P 10 t && !P.eqGuardType P.depth t } else none
    | _, _ => none
  | none => none

abbrev TT := List (Option TI)
def TTOK (P : Program) (tt : TT) : Prop := ∀ t i, tt[t]? = some (some i) → tiOf P t = some i

theorem ttok_of {P : Program} {tt : TT} (h : (tt.zipIdx.map fun x => match x.1 with | none => none | some _ => tiOf P x.2) = tt) : TTOK P tt := by
  intro t i ht
  have h1 := ht
  rw [← h] at h1
  simp only [List.getElem?_map, List.getElem?_zipIdx, ht] at h1
  simpa using h1

theorem ti_info {P : Program} {t : TypeId} {i : TI} (h : tiOf P t = some i) :
    (P.info? t).map (·.size) = some i.size ∧ isAggT P t = i.agg ∧ (P.underlying t).isSome = true ∧ (∃ z, (P.info? t).bind (·.zero) = some z ∧ z.cells.toList = i.z ∧ isAggV z = i.agg) ∧ tkOf P t = i.k ∧
      (i.cmp = true → cmpT P 10 t = true ∧ P.eqGuardType P.depth t = false) ∧ P.cellsOf t = i.size ∧ (∀ fs, P.underlying t = some (.struct fs) → ∀ f ∈ fs.toList, (P.info? f.type).isSome = true) := by
  unfold tiOf at h
  cases hi : P.info? t with
  | none => rw [hi] at h; cases h
  | some inf =>
    rw [hi] at h
    simp only at h
    split at h
    · rename_i z d hz hu
      split at h
      · rename_i hf
        rw [Bool.and_eq_true] at hf
        obtain ⟨hf, hag⟩ := hf
        injection h with h
        subst h
        refine ⟨by simp, rfl, by simp [hu], ⟨z, by simp [hz], rfl, (by simpa using hag : isAggT P t = isAggV z).symm⟩, rfl, by simp, by simp [Program.cellsOf, hi], fun fs e f hf' => ?_⟩
        rw [hu] at e
        injection e with e
        subst e
        simp only [fieldsOK, List.all_eq_true] at hf
        exact hf f hf'
      · cases h
    · cases h

def tiSize (tt : TT) (t : TypeId) : Option Nat := match tt[t]? with | some (some ⟨n, _, _, _, _⟩) => some n | _ => none
def tiAgg (tt : TT) (t : TypeId) : Option Bool := match tt[t]? with | some (some ⟨_, a, _, _, _⟩) => some a | _ => none
def tiZ (tt : TT) (t : TypeId) : Option (List Value) := match tt[t]? with | some (some ⟨_, _, z, _, _⟩) => some z | _ => none
def tiK (tt : TT) (t : TypeId) : Option TK := match tt[t]? with | some (some ⟨_, _, _, k, _⟩) => some k | _ => none
def tiCmp (tt : TT) (t : TypeId) : Bool := match tt[t]? with | some (some ⟨_, _, _, _, c⟩) => c | _ => false

theorem tiSize_ok {P : Program} {tt : TT} (h : TTOK P tt) {t n : Nat} (e : tiSize tt t = some n) : (P.info? t).map (·.size) = some n ∧ P.cellsOf t = n := by
  unfold tiSize at e; split at e
  · rename_i x a z k c hx; injection e with e; subst e; have := ti_info (h t _ hx); exact ⟨this.1, this.2.2.2.2.2.2.1⟩
  · cases e
theorem tiAgg_ok {P : Program} {tt : TT} (h : TTOK P tt) {t : Nat} {a : Bool} (e : tiAgg tt t = some a) : isAggT P t = a ∧ (P.underlying t).isSome = true := by
  unfold tiAgg at e; split at e
  · rename_i x a z k c hx; injection e with e; subst e; have := ti_info (h t _ hx); exact ⟨this.2.1, this.2.2.1⟩
  · cases e
theorem tiZ_ok {P : Program} {tt : TT} (h : TTOK P tt) {t : Nat} {z : List Value} (e : tiZ tt t = some z) : ∃ v, (P.info? t).bind (·.zero) = some v ∧ v.cells.toList = z := by
  unfold tiZ at e; split at e
  · rename_i x a z k c hx; injection e with e; subst e; obtain ⟨v, h1, h2, _⟩ := (ti_info (h t _ hx)).2.2.2.1; exact ⟨v, h1, h2⟩
  · cases e
/-- A type's zero, as it reads. -/
def pzv (tt : TT) (t : TypeId) : Option PV :=
  match tt[t]? with
  | some (some ⟨_, true, z, _, _⟩) => some (.agg (z.map .val))
  | some (some ⟨_, false, [z], _, _⟩) => some (.val z)
  | _ => none
theorem pzv_ok {P : Program} {tt : TT} (h : TTOK P tt) {t : Nat} {p : PV} (e : pzv tt t = some p) : ∃ v, (P.info? t).bind (·.zero) = some v ∧ ∀ g, Rep g p v := by
  unfold pzv at e; split at e
  · rename_i n z k c hx
    injection e with e; subst e
    obtain ⟨v, h1, h2, h3⟩ := (ti_info (h t _ hx)).2.2.2.1
    refine ⟨v, h1, fun g => ?_⟩
    cases v <;> simp only [isAggV] at h3 <;> first | (cases h3; done) | skip
    rename_i cs
    simp only [Rep]
    refine ⟨cs.toList, by simp, ?_⟩
    have h2' : cs.toList = z := h2
    rw [h2']
    clear h1 h2 h2' h3 hx
    induction z with
    | nil => simp [RepL]
    | cons x xs ih => simp only [List.map_cons, RepL]; exact ⟨x, xs, rfl, by simp [Rep], ih⟩
  · rename_i n z k c hx
    injection e with e; subst e
    obtain ⟨v, h1, h2, h3⟩ := (ti_info (h t _ hx)).2.2.2.1
    refine ⟨v, h1, fun g => ?_⟩
    cases v <;> simp only [isAggV] at h3 <;> first | (cases h3; done) | (simp [Value.cells] at h2; simp [Rep, h2])
  · cases e
theorem tiK_ok {P : Program} {tt : TT} (h : TTOK P tt) {t : Nat} {k : TK} (e : tiK tt t = some k) : tkOf P t = k ∧ (P.underlying t).isSome = true := by
  unfold tiK at e; split at e
  · rename_i x a z k c hx; injection e with e; subst e; have := ti_info (h t _ hx); exact ⟨this.2.2.2.2.1, this.2.2.1⟩
  · cases e
theorem tiCmp_ok {P : Program} {tt : TT} (h : TTOK P tt) {t : Nat} (e : tiCmp tt t = true) : cmpT P 10 t = true ∧ P.eqGuardType P.depth t = false := by
  unfold tiCmp at e; split at e
  · rename_i x a z k c hx; have := ti_info (h t _ hx); exact this.2.2.2.2.2.1 e
  · cases e

theorem tk_int {P : Program} {t : TypeId} {k : IntKind} (h : tkOf P t = .int k) : P.underlying t = some (.int k) := by
  unfold tkOf at h; split at h <;> simp_all
theorem tk_slice {P : Program} {t e : TypeId} (h : tkOf P t = .slice e) : P.underlying t = some (.slice e) := by
  unfold tkOf at h; split at h <;> simp_all
theorem tk_str {P : Program} {t : TypeId} (h : tkOf P t = .str) : P.underlying t = some .string := by
  unfold tkOf at h; split at h <;> simp_all
theorem tk_arr {P : Program} {t e n : Nat} (h : tkOf P t = .arr n e) : P.underlying t = some (.array n e) := by
  unfold tkOf at h; split at h <;> simp_all
theorem tk_map {P : Program} {t k e : Nat} (h : tkOf P t = .map k e) : P.underlying t = some (.map k e) := by
  unfold tkOf at h; split at h <;> simp_all
theorem tk_struct {P : Program} {t : TypeId} {fs : List (TypeId × Nat)} (h : tkOf P t = .struct fs) : ∃ fields, P.underlying t = some (.struct fields) ∧ fields.toList.map (fun f => (f.type, f.offset)) = fs := by
  unfold tkOf at h; split at h <;> simp_all

/-! ### Operations that leave the world as it is -/

theorem opv_value {P : Program} {o : Oper} {s : St} {p : PV}
    (h : ∀ w g (ρ : Operand → Value), MemOK P s.st w g → (∀ x ∈ o.op.operands, OpdOK g s x (ρ x)) → ∃ v, (execOp ρ o).run P w = .ok (.value v) w ∧ Rep g p v) : OpV P o s p :=
  fun w g ρ hm hρ => by
    obtain ⟨v, h1, h2⟩ := h w g ρ hm hρ
    rw [h1]
    exact ⟨g, h2, hm, Le.refl g, Frame.refl _ w g⟩

theorem rep_val {g : G} {u v : Value} (h : Rep g (.val u) v) : v = u := by simpa [Rep] using h

def ikEq : IntKind → IntKind → Bool
  | .i8, .i8 | .i16, .i16 | .i32, .i32 | .i64, .i64 | .u8, .u8 | .u16, .u16 | .u32, .u32 | .u64, .u64 => true
  | _, _ => false
theorem ikEq_eq {a b : IntKind} (h : ikEq a b = true) : a = b := by cases a <;> cases b <;> first | rfl | cases h

/-- Held against each other cell by cell, as a type says. -/
def peqF (f : TypeId → List PV → List PV → Option Bool) (sz : TypeId → Option Nat) (cs ds : List PV) : List (TypeId × Nat) → Option Bool
  | [] => some true
  | (t, off) :: fs => match sz t with
    | some n => bif Nat.beq (cellsAt cs off n).length n && Nat.beq (cellsAt ds off n).length n then
      match f t (cellsAt cs off n) (cellsAt ds off n) with
      | some a => match fs with
        | [] => some a
        | _ :: _ => match peqF f sz cs ds fs with
          | some b => some (a && b)
          | none => none
      | none => none
      else none
    | none => none

def peq (tt : TT) : Nat → TypeId → List PV → List PV → Option Bool
  | 0, _, _, _ => none
  | d + 1, t, cs, ds => match tiK tt t with
    | some (.int _) => match cs, ds with
      | [.val (.int k a)], [.val (.int k' b)] => bif ikEq k k' then some (decide (a = b)) else none
      | _, _ => none
    | some .bool => match cs, ds with
      | [.val (.bool a)], [.val (.bool b)] => some (a == b)
      | _, _ => none
    | some .str => match cs, ds with
      | [.val (.string a)], [.val (.string b)] => some (decide (a = b))
      | _, _ => none
    | some (.struct fs) => peqF (peq tt d) (tiSize tt) cs ds fs
    | _ => none

def pbin (tt : TT) (op : BinOp) (T : TypeId) : PV → PV → Option PV
  | .val (.int k a), .val (.int k' b) => bif ikEq k k' then (match op with
      | .lss => some (.val (.bool (decide (a < b))))
      | .leq => some (.val (.bool (decide (a ≤ b))))
      | .gtr => some (.val (.bool (decide (a > b))))
      | .geq => some (.val (.bool (decide (a ≥ b))))
      | .eql => some (.val (.bool (decide (a = b))))
      | .neq => some (.val (.bool (!decide (a = b))))
      | _ => none) else none
  | .val (.bool a), .val (.bool b) => match op, tiK tt T with
      | .eql, some .bool => some (.val (.bool (a == b)))
      | .neq, some .bool => some (.val (.bool (!(a == b))))
      | _, _ => none
  | .val (.string a), .val (.string b) => match op with
      | .eql => some (.val (.bool (decide (a = b))))
      | .neq => some (.val (.bool (!decide (a = b))))
      | .lss => some (.val (.bool (Op.bytesLess a.toList b.toList)))
      | _ => none
  | .agg cs, .agg ds => bif tiCmp tt T && (match tiAgg tt T with | some true => true | _ => false) then (match op with
      | .eql => match peq tt 10 T cs ds with | some b => some (.val (.bool b)) | none => none
      | .neq => match peq tt 10 T cs ds with | some b => some (.val (.bool (!b))) | none => none
      | _ => none) else none
  | _, _ => none

theorem str_beq (a b : ByteArray) : (a.toList == b.toList) = decide (a = b) := by
  rw [ByteArray.toList_eq, ByteArray.toList_eq]
  obtain ⟨⟨x⟩⟩ := a
  obtain ⟨⟨y⟩⟩ := b
  by_cases h : x = y
  · subst h; simp
  · have : ¬ (ByteArray.mk ⟨x⟩ = ByteArray.mk ⟨y⟩) := fun e => h (by injection e with e; injection e)
    simp [h, this]

theorem repL_one {g : G} {p : PV} {vs : List Value} (h : RepL g [p] vs) : ∃ v, vs = [v] ∧ Rep g p v := by
  simp only [RepL] at h
  obtain ⟨v, vs', rfl, h1, rfl⟩ := h
  exact ⟨v, rfl, h1⟩

/-- A value's cells read as some, as its type says. -/
def VR (P : Program) (g : G) (t : TypeId) (cs : List PV) (x : Value) : Prop :=
  (isAggT P t = true → ∃ xs : Array Value, x = .agg xs ∧ RepL g cs xs.toList) ∧ (isAggT P t = false → RepL g cs [x])

theorem part_rep {P : Program} {w : World} {g : G} {t : TypeId} {cs : List PV} {vs : Array Value} {off n : Nat} (hu : (P.underlying t).isSome = true) (hn : (P.info? t).map (·.size) = some n) (h : RepL g cs vs.toList)
    (hl : (cellsAt cs off n).length = n) (h1 : isAggT P t = false → n = 1) : ∃ v, (part t vs off).run P w = .ok v w ∧ VR P g t (cellsAt cs off n) v := by
  have hr := (h.drop off).take n
  have hlen := h.length
  cases ha : isAggT P t with
  | true =>
    refine ⟨.agg (vs.extract off (off + n)), by simp [part, run_isAgg ha hu, run_sizeOf hn], ⟨fun _ => ⟨_, rfl, ?_⟩, fun e => absurd (ha.symm.trans e) (by simp)⟩⟩
    simp only [cellsAt, Array.toList_extract, List.extract_eq_take_drop]
    rw [show off + n - off = n from by omega]
    exact hr
  | false =>
    have hn1 := h1 ha
    subst hn1
    have hlt : off < vs.size := by simp [cellsAt] at hl hlen; omega
    refine ⟨vs[off], by simp [part, run_isAgg ha hu, hlt], ⟨fun e => absurd (ha.symm.trans e) (by simp), fun _ => ?_⟩⟩
    have : (vs.toList.drop off).take 1 = [vs[off]] := by
      rw [List.drop_eq_getElem_cons (by simpa using hlt)]
      simp
    rw [this] at hr
    exact hr

theorem peqF_sound {P : Program} {tt : TT} (htt : TTOK P tt) {w : World} {g : G} {d n : Nat}
    (ih : ∀ t cs ds x y b, peq tt d t cs ds = some b → cmpT P d t = true → VR P g t cs x → VR P g t ds y → (Op.equalIn n t x y).run P w = .ok b w)
    {cs ds : List PV} {xs ys : Array Value} (hx : RepL g cs xs.toList) (hy : RepL g ds ys.toList) : ∀ (fs : List Field) (b : Bool), peqF (peq tt d) (tiSize tt) cs ds (fs.map fun f => (f.type, f.offset)) = some b →
      (fs.all fun f => f.name != "_" && cmpT P d f.type) = true → (Op.eqFields n xs ys fs).run P w = .ok b w
  | [], b, h, _ => by simp [peqF] at h; subst h; rfl
  | f :: fs, b, h, hc => by
    simp only [List.all_cons, Bool.and_eq_true] at hc
    obtain ⟨⟨hc1, hc2⟩, hc3⟩ := hc
    simp only [List.map_cons, peqF] at h
    split at h
    case h_2 => cases h
    rename_i k hk
    have hlen : (cellsAt cs f.offset k).length = k ∧ (cellsAt ds f.offset k).length = k := by
      cases hb : (Nat.beq (cellsAt cs f.offset k).length k && Nat.beq (cellsAt ds f.offset k).length k) with
      | false => rw [hb] at h; simp at h
      | true =>
        rw [Bool.and_eq_true] at hb
        exact ⟨Nat.eq_of_beq_eq_true hb.1, Nat.eq_of_beq_eq_true hb.2⟩
    rw [show (Nat.beq (cellsAt cs f.offset k).length k && Nat.beq (cellsAt ds f.offset k).length k) = true from by rw [hlen.1, hlen.2]; simp] at h
    simp only [cond_true] at h
    split at h
    case h_2 => cases h
    rename_i a ha
    obtain ⟨k1, k2⟩ := tiSize_ok htt hk
    have hu : (P.underlying f.type).isSome = true := by
      cases d with
      | zero => simp [cmpT] at hc2
      | succ d => simp only [cmpT] at hc2; cases hh : P.underlying f.type with
        | none => rw [hh] at hc2; cases hc2
        | some _ => rfl
    have key : isAggT P f.type = false → k = 1 := by
      intro hag
      cases d with
      | zero => simp [peq] at ha
      | succ d =>
        simp only [peq] at ha
        split at ha
        · split at ha
          · rename_i e1 e2; rw [e1] at hlen; simpa using hlen.1.symm
          · cases ha
        · split at ha
          · rename_i e1 e2; rw [e1] at hlen; simpa using hlen.1.symm
          · cases ha
        · split at ha
          · rename_i e1 e2; rw [e1] at hlen; simpa using hlen.1.symm
          · cases ha
        · rename_i fs' hk'
          obtain ⟨fields, e1, e2⟩ := tk_struct (tiK_ok htt hk').1
          simp [isAggT, e1] at hag
        · cases ha
    obtain ⟨x, x1, x2⟩ := part_rep (w := w) hu k1 hx hlen.1 key
    obtain ⟨y, y1, y2⟩ := part_rep (w := w) hu k1 hy hlen.2 key
    have hrun := ih f.type _ _ x y a ha hc2 x2 y2
    have hne : f.name ≠ "_" := by simpa using hc1
    have step : ∀ r : Bool, (a = true → (Op.eqFields n xs ys fs).run P w = .ok r w) → (a = false → r = false) → (Op.eqFields n xs ys (f :: fs)).run P w = .ok r w := by
      intro r h1 h2
      simp only [Op.eqFields, ne_eq, hne, not_false_eq_true, if_true, Sem.run_bind, x1, y1, hrun, Result.andThen_ok]
      cases a with
      | false => simp [h2 rfl]
      | true => simpa using h1 rfl
    cases fs with
    | nil =>
      simp at h
      subst h
      exact step a (fun e => by subst e; rfl) (fun e => e)
    | cons f2 fs2 =>
      simp only [List.map_cons] at h
      split at h
      case h_2 => cases h
      rename_i b' hb'
      injection h with h
      subst h
      have := peqF_sound htt ih hx hy (f2 :: fs2) b' (by simpa using hb') hc3
      refine step (a && b') (fun e => by subst e; simpa using this) (fun e => by subst e; rfl)

theorem peq_sound {P : Program} {tt : TT} (htt : TTOK P tt) {w : World} {g : G} : ∀ (d n : Nat), d ≤ n → ∀ t cs ds x y b, peq tt d t cs ds = some b → cmpT P d t = true → VR P g t cs x → VR P g t ds y → (Op.equalIn n t x y).run P w = .ok b w
  | 0, _, _, t, cs, ds, x, y, b, h, _, _, _ => by simp [peq] at h
  | d + 1, 0, hn, _, _, _, _, _, _, _, _, _, _ => by omega
  | d + 1, n + 1, hn, t, cs, ds, x, y, b, h, hc, hx, hy => by
    simp only [peq] at h
    split at h
    · rename_i k hk
      have hu := tk_int (tiK_ok htt hk).1
      have hag : isAggT P t = false := by simp [isAggT, hu]
      split at h
      · rename_i k1 a1 k2 a2
        obtain ⟨v, e1, e2⟩ := repL_one (hx.2 hag)
        obtain ⟨v', e1', e2'⟩ := repL_one (hy.2 hag)
        injection e1 with e1 _
        injection e1' with e1' _
        rw [e1, e1', rep_val e2, rep_val e2']
        cases hk' : ikEq k1 k2 with
        | false => rw [hk'] at h; simp at h
        | true =>
          rw [hk'] at h
          have := ikEq_eq hk'
          subst this
          simp at h
          subst h
          rw [run_equalIn_int w n t k1 k a1 a2 hu]
          rfl
      · cases h
    · rename_i hk
      have hu : P.underlying t = some .bool := by
        have := (tiK_ok htt hk).1; unfold tkOf at this; split at this <;> simp_all
      have hag : isAggT P t = false := by simp [isAggT, hu]
      split at h
      · obtain ⟨v, e1, e2⟩ := repL_one (hx.2 hag)
        obtain ⟨v', e1', e2'⟩ := repL_one (hy.2 hag)
        injection e1 with e1 _
        injection e1' with e1' _
        rw [e1, e1', rep_val e2, rep_val e2']
        injection h with h
        subst h
        exact run_equalIn_bool w n t _ _ hu
      · cases h
    · rename_i hk
      have hu := tk_str (tiK_ok htt hk).1
      have hag : isAggT P t = false := by simp [isAggT, hu]
      split at h
      · obtain ⟨v, e1, e2⟩ := repL_one (hx.2 hag)
        obtain ⟨v', e1', e2'⟩ := repL_one (hy.2 hag)
        injection e1 with e1 _
        injection e1' with e1' _
        rw [e1, e1', rep_val e2, rep_val e2']
        injection h with h
        subst h
        rw [run_equalIn_string w n t _ _ hu, str_beq]
      · cases h
    · rename_i fs hk
      obtain ⟨fields, hu, hfs⟩ := tk_struct (tiK_ok htt hk).1
      have hag : isAggT P t = true := by simp [isAggT, hu]
      obtain ⟨xs, rfl, hx'⟩ := hx.1 hag
      obtain ⟨ys, rfl, hy'⟩ := hy.1 hag
      simp only [cmpT, hu, Bool.and_eq_true] at hc
      have hst : P.stoodInHeld t = false := by simpa using hc.1
      have hfo : P.fieldsOf t = fields := by simp [Program.fieldsOf, hu]
      rw [run_equalIn_struct w n t xs ys (by rw [hfo]; exact hu) hst, hfo]
      exact peqF_sound htt (fun t' cs' ds' x' y' b' h1 h2 h3 h4 => peq_sound htt d n (by omega) t' cs' ds' x' y' b' h1 h2 h3 h4) hx' hy' fields.toList b (by rw [hfs]; exact h) hc.2
    · cases h

theorem run_binOp {P : Program} {w : World} {ρ : Operand → Value} {o : Oper} {op : BinOp} {T T2 : TypeId} {x y : Operand} {v : Value} (ho : o.op = .binOp op T x y T2)
    (h1 : (eqGuard op T x y (ρ x) (ρ y)).run P w = .ok () w) (h2 : (binOp op T (ρ x) (ρ y)).run P w = .ok v w) : (execOp ρ o).run P w = .ok (.value v) w := by
  simp only [execOp, ho, Sem.run_bind, h1, h2, Result.andThen_ok, Sem.run_pure]

theorem agg_VR {P : Program} {g : G} {t : TypeId} {cs : List PV} {x : Value} (h : Rep g (.agg cs) x) (ht : isAggT P t = true) : VR P g t cs x := by
  simp only [Rep] at h
  obtain ⟨vs, rfl, h⟩ := h
  exact ⟨fun _ => ⟨vs.toArray, rfl, by simpa using h⟩, fun e => absurd (ht.symm.trans e) (by simp)⟩

theorem peq_agg {P : Program} {tt : TT} (htt : TTOK P tt) {d : Nat} {T : TypeId} {cs ds : List PV} {b : Bool} (h : peq tt d T cs ds = some b) (hc : cmpT P d T = true) (h2 : ∀ c, cs ≠ [c]) : isAggT P T = true := by
  cases d with
  | zero => simp [peq] at h
  | succ d =>
    simp only [peq] at h
    split at h
    · split at h
      · exact absurd rfl (h2 _)
      · cases h
    · split at h
      · exact absurd rfl (h2 _)
      · cases h
    · split at h
      · exact absurd rfl (h2 _)
      · cases h
    · rename_i fs hk
      obtain ⟨fields, hu, _⟩ := tk_struct (tiK_ok htt hk).1
      simp [isAggT, hu]
    · cases h

theorem opv_bin {P : Program} {tt : TT} (htt : TTOK P tt) {o : Oper} {s : St} {op : BinOp} {T T2 : TypeId} {x y : Operand} {a b p : PV} (ho : o.op = .binOp op T x y T2) (hx : opd s x = some a) (hy : opd s y = some b) (h : pbin tt op T a b = some p) : OpV P o s p := by
  refine opv_value fun w g ρ _ hρ => ?_
  have rx := hρ x (by rw [ho]; simp [Op.operands]) a hx
  have ry := hρ y (by rw [ho]; simp [Op.operands]) b hy
  unfold pbin at h
  split at h
  · rename_i k x' k' y'
    have ex := rep_val rx
    have ey := rep_val ry
    cases hk : ikEq k k' with
    | false => rw [hk] at h; simp at h
    | true =>
      rw [hk] at h
      have := ikEq_eq hk
      subst this
      simp only [cond_true] at h
      refine ⟨?_, ?_⟩
      · exact match op with
        | .lss => .bool (decide (x' < y')) | .leq => .bool (decide (x' ≤ y')) | .gtr => .bool (decide (x' > y')) | .geq => .bool (decide (x' ≥ y')) | .eql => .bool (decide (x' = y')) | .neq => .bool (!decide (x' = y')) | _ => .bool true
      · cases op <;> simp only [reduceCtorEq, Option.some.injEq] at h <;> (try (cases h; done)) <;> subst h <;> refine ⟨run_binOp ho ?_ ?_, by simp [Rep]⟩ <;> rw [ex, ey] <;> simp [eqGuard, binOp, Op.intCmp, bne] <;> rfl
  · rename_i x' y'
    have ex := rep_val rx
    have ey := rep_val ry
    have hu : tiK tt T = some .bool → P.underlying T = some .bool := fun hk => by
      have := (tiK_ok htt hk).1; unfold tkOf at this; split at this <;> simp_all
    split at h
    · rename_i hk
      injection h with h; subst h
      refine ⟨.bool (x' == y'), run_binOp ho (by rw [ex, ey]; simp [eqGuard]) ?_, by simp [Rep]⟩
      rw [ex, ey]
      simp [binOp, run_equal_bool w T x' y' (hu hk)]
    · rename_i hk
      injection h with h; subst h
      refine ⟨.bool (!(x' == y')), run_binOp ho (by rw [ex, ey]; simp [eqGuard]) ?_, by simp [Rep]⟩
      rw [ex, ey]
      simp [binOp, run_equal_bool w T x' y' (hu hk)]
    · cases h
  · rename_i x' y'
    have ex := rep_val rx
    have ey := rep_val ry
    split at h
    · injection h with h; subst h
      refine ⟨.bool (decide (x' = y')), run_binOp ho (by rw [ex, ey]; simp [eqGuard]) ?_, by simp [Rep]⟩
      rw [ex, ey, ← str_beq]; simp [binOp, Op.stringOp]
    · injection h with h; subst h
      refine ⟨.bool (!decide (x' = y')), run_binOp ho (by rw [ex, ey]; simp [eqGuard]) ?_, by simp [Rep]⟩
      rw [ex, ey, ← str_beq]; simp [binOp, Op.stringOp]
    · injection h with h; subst h
      refine ⟨.bool (Op.bytesLess x'.toList y'.toList), run_binOp ho (by rw [ex, ey]; simp [eqGuard]) ?_, by simp [Rep]⟩
      rw [ex, ey]; simp [binOp, Op.stringOp]
    · cases h
  · rename_i cs ds
    cases hc0 : (tiCmp tt T && (match tiAgg tt T with | some true => true | _ => false)) with
    | false => rw [hc0] at h; simp at h
    | true =>
      rw [hc0] at h
      simp only [cond_true] at h
      rw [Bool.and_eq_true] at hc0
      have hc := hc0.1
      have hag' : isAggT P T = true := by
        have h2 := hc0.2
        split at h2
        · rename_i hh; exact (tiAgg_ok htt hh).1
        · cases h2
      obtain ⟨c1, c2⟩ := tiCmp_ok htt hc
      have hx' := agg_VR (P := P) (t := T) rx hag'
      have hy' := agg_VR (P := P) (t := T) ry hag'
      obtain ⟨xs, ex, _⟩ := hx'.1 hag'
      obtain ⟨ys, ey, _⟩ := hy'.1 hag'
      split at h
      · split at h
        · rename_i r hr
          injection h with h; subst h
          have := peq_sound htt (w := w) 10 10000 (by omega) T cs ds _ _ r hr c1 hx' hy'
          refine ⟨.bool r, run_binOp ho (by rw [ex, ey]; exact run_eqGuard_agg w _ T x y xs ys c2) ?_, by simp [Rep]⟩
          rw [ex, ey] at this ⊢
          rw [run_eql_struct, this]; rfl
        · cases h
      · split at h
        · rename_i r hr
          injection h with h; subst h
          have := peq_sound htt (w := w) 10 10000 (by omega) T cs ds _ _ r hr c1 hx' hy'
          refine ⟨.bool (!r), run_binOp ho (by rw [ex, ey]; exact run_eqGuard_agg w _ T x y xs ys c2) ?_, by simp [Rep]⟩
          rw [ex, ey] at this ⊢
          rw [run_neq_struct, this]; rfl
        · cases h
      · cases h
  · cases h

/-- A list, forced. -/
def forceL {α : Type} : List PV → (List PV → Option α) → Option α
  | [], k => k []
  | p :: ps, k => forceL ps fun qs => k (p :: qs)
theorem forceL_eq {α : Type} : ∀ (l : List PV) (k : List PV → Option α), forceL l k = k l
  | [], _ => rfl
  | p :: ps, k => by simp only [forceL]; exact forceL_eq ps _

def pfill (tt : TT) (place : Nat → Option (Nat × Nat)) (s : St) (cells : List PV) : List (Nat × Operand) → Option (List PV)
  | [] => some cells
  | (i, x) :: rest => match place i, opd s x with
    | some (off, n), some p => bif p.flat && Nat.beq p.cells.length n && Nat.ble (off + n) cells.length then pfill tt place s (setAt cells off p.cells) rest else none
    | _, _ => none

def placeS (tt : TT) (fs : List (TypeId × Nat)) (i : Nat) : Option (Nat × Nat) :=
  match fs[i]? with
  | some (t, off) => match tiSize tt t with
    | some n => some (off, n)
    | none => none
  | none => none

def pbuild (tt : TT) (s : St) (T : TypeId) (ps : List (Nat × Operand)) : Option PV :=
  match tiK tt T, tiZ tt T with
  | some (.struct fs), some z => match pfill tt (placeS tt fs) s (z.map .val) ps with
    | some cs => forceL cs fun cs => some (.agg cs)
    | none => none
  | some (.arr _ e), some z => match tiSize tt e with
    | some n => match pfill tt (fun i => some (i * n, n)) s (z.map .val) ps with
      | some cs => forceL cs fun cs => some (.agg cs)
      | none => none
    | none => none
  | _, _ => none

theorem fill_cells (off : Nat) : ∀ (us : List Value) (k : Nat) (cs : Array Value), off + k + us.length ≤ cs.size → ((us.zipIdx k).foldl (fun cs (x : Value × Nat) => cs.setIfInBounds (off + x.2) x.1) cs).toList = cs.toList.take (off + k) ++ us ++ cs.toList.drop (off + k + us.length)
  | [], k, cs, _ => by simp
  | u :: us, k, cs, h => by
    simp only [List.length_cons] at h
    rw [List.zipIdx_cons, List.foldl_cons, fill_cells off us (k + 1) _ (by simp; omega)]
    have := list_seg_step cs.toList (off + k) u us (by simp; omega)
    simp only [Array.toList_setIfInBounds]
    rw [show off + (k + 1) = off + k + 1 from by omega, this]
    simp

theorem fill_rep {tt : TT} {g : G} {s : St} {place : Nat → Option (Nat × Nat)} {place' : Nat → Option (Nat × Nat)} (hpl : ∀ i x, place i = some x → place' i = some x) {ρ : Operand → Value} : ∀ (ps : List (Nat × Operand)) (cells : List PV) (cs : List PV) (vs : Array Value),
    pfill tt place s cells ps = some cs → RepL g cells vs.toList → (∀ x ∈ ps.map (·.2), OpdOK g s x (ρ x)) → ∃ us, Instr.fill place' vs (ps.map fun (i, x) => (i, ρ x)) = some us ∧ RepL g cs us.toList
  | [], cells, cs, vs, h, hr, _ => by simp [pfill] at h; subst h; exact ⟨vs, rfl, hr⟩
  | (i, x) :: rest, cells, cs, vs, h, hr, hρ => by
    simp only [pfill] at h
    split at h
    case h_2 => cases h
    rename_i off n p hp hx
    cases hb : (p.flat && Nat.beq p.cells.length n && Nat.ble (off + n) cells.length) with
    | false => rw [hb] at h; simp at h
    | true =>
      rw [hb] at h
      simp only [cond_true] at h
      simp only [Bool.and_eq_true] at hb
      obtain ⟨⟨hb1, hb2⟩, hb3⟩ := hb
      have hb2 := Nat.eq_of_beq_eq_true hb2
      have hb3 := Nat.le_of_ble_eq_true hb3
      obtain ⟨m1, m2⟩ := (hρ x (by simp) p hx).cells hb1
      have l1 := m1.length
      have l2 := hr.length
      have hsz : (ρ x).cells.size = n := by rw [← hb2]; simpa using l1
      simp only [List.map_cons, Instr.fill, hpl i _ hp, hsz]
      have hnot : ¬ (n ≠ n || decide (off + n > vs.size)) = true := by simp at l2 ⊢; omega
      rw [if_neg (by simpa using hnot)]
      refine fill_rep hpl rest (setAt cells off p.cells) cs _ h ?_ (fun y hy => hρ y (by simp at hy ⊢; exact .inr hy))
      have := fill_cells off (ρ x).cells.toList 0 vs (by simp at l2 ⊢; omega)
      simp only [Nat.add_zero] at this
      have e : ((ρ x).cells.zipIdx.foldl (fun cs (x : Value × Nat) => cs.setIfInBounds (off + x.2) x.1) vs).toList = vs.toList.take off ++ (ρ x).cells.toList ++ vs.toList.drop (off + p.cells.length) := by
        rw [← Array.foldl_toList, Array.toList_zipIdx, this]
        simp [hsz, hb2]
      have e2 : RepL g (setAt cells off p.cells) (vs.toList.take off ++ (ρ x).cells.toList ++ vs.toList.drop (off + p.cells.length)) := by
        rw [setAt_eq cells off p.cells (by omega)]
        exact ((hr.take off).append m1).append (hr.drop _)
      rw [← e] at e2
      exact e2

theorem ti_fields {P : Program} {tt : TT} (h : TTOK P tt) {t : Nat} {k : TK} (e : tiK tt t = some k) : ∀ fs, P.underlying t = some (.struct fs) → ∀ f ∈ fs.toList, (P.info? f.type).isSome = true := by
  unfold tiK at e; split at e
  · rename_i x a z k c hx; have := ti_info (h t _ hx); exact this.2.2.2.2.2.2.2
  · cases e

theorem run_places {P : Program} {w : World} : ∀ (fs : List Field), (∀ f ∈ fs, (P.info? f.type).isSome = true) →
    (fs.mapM fun f => do pure (f.offset, ← sizeOf f.type) : Sem (List (Nat × Nat))).run P w = .ok (fs.map fun f => (f.offset, P.cellsOf f.type)) w
  | [], _ => by simp
  | f :: fs, h => by
    have h1 := h f (by simp)
    have hs : (sizeOf f.type).run P w = .ok (P.cellsOf f.type) w := run_sizeOf (by
      cases hi : P.info? f.type with
      | none => rw [hi] at h1; cases h1
      | some i => simp [Program.cellsOf, hi])
    have ih := run_places (w := w) fs (fun g hg => h g (by simp [hg]))
    rw [List.mapM_cons]
    simp only [Sem.run_bind, Sem.run_pure, hs, Result.andThen_ok, ih]
    rfl

theorem opv_build {P : Program} {tt : TT} (htt : TTOK P tt) {o : Oper} {s : St} {T : TypeId} {ps : List (Nat × Operand)} {p : PV} (ho : o.op = .build T ps.toArray) (h : pbuild tt s T ps = some p) : OpV P o s p := by
  refine opv_value fun w g ρ _ hρ => ?_
  have hops : ∀ x ∈ ps.map (·.2), OpdOK g s x (ρ x) := fun x hx => hρ x (by rw [ho]; simpa [Op.operands] using hx)
  unfold pbuild at h
  split at h
  · rename_i fs z hk hz
    split at h
    case h_2 => cases h
    rename_i cs hcs
    rw [forceL_eq] at h
    injection h with h; subst h
    obtain ⟨fields, hu, hfs⟩ := tk_struct (tiK_ok htt hk).1
    obtain ⟨zv, hz1, hz2⟩ := tiZ_ok htt hz
    have hpl : ∀ i x, placeS tt fs i = some x → ((fields.toList.map fun f => (f.offset, P.cellsOf f.type)).toArray[·]?) i = some x := by
      intro i x hx
      unfold placeS at hx
      split at hx
      · rename_i t off hi
        split at hx
        · rename_i n hn
          injection hx with hx; subst hx
          rw [← hfs] at hi
          simp only [List.getElem?_map] at hi
          cases hf : fields.toList[i]? with
          | none => rw [hf] at hi; cases hi
          | some f =>
            rw [hf] at hi
            simp at hi
            have := (tiSize_ok htt hn).2
            have hf' : fields[i]? = some f := by simpa using hf
            simp [hf', hi, this]
        · cases hx
      · cases hx
    have hz0 : RepL g (z.map .val) zv.cells.toList := by rw [hz2]; exact RepL.vals z
    obtain ⟨us, h1, h2⟩ := fill_rep hpl (ρ := ρ) ps _ cs zv.cells hcs hz0 hops
    refine ⟨.agg us, ?_, by simp only [Rep]; exact ⟨us.toList, by simp, h2⟩⟩
    have hm := run_places (P := P) (w := w) fields.toList (ti_fields htt hk fields hu)
    have hm' : (fields.mapM fun f => do pure (f.offset, ← sizeOf f.type) : Sem (Array (Nat × Nat))).run P w = .ok (fields.toList.map fun f => (f.offset, P.cellsOf f.type)).toArray w := by
      rw [Array.mapM_eq_mapM_toList]
      simp only [Sem.run_map, hm, Result.andThen_ok]
    have h1' : Instr.fill (fun x => Option.map (fun f => (f.offset, P.cellsOf f.type)) fields[x]?) zv.cells (ps.map fun x => (x.fst, ρ x.snd)) = some us := by
      rw [← h1]; congr 1; funext x; simp
    simp only [execOp, ho, Instr.build, Sem.run_bind, run_zeroValue hz1, run_underlying hu, Result.andThen_ok, hm', Sem.run_pure]
    simp [h1']
  · rename_i n e z hk hz
    split at h
    case h_2 => cases h
    rename_i m hm
    split at h
    case h_2 => cases h
    rename_i cs hcs
    rw [forceL_eq] at h
    injection h with h; subst h
    have hu := tk_arr (tiK_ok htt hk).1
    obtain ⟨zv, hz1, hz2⟩ := tiZ_ok htt hz
    have hz0 : RepL g (z.map .val) zv.cells.toList := by rw [hz2]; exact RepL.vals z
    obtain ⟨us, h1, h2⟩ := fill_rep (place' := fun i => some (i * m, m)) (fun i x hx => hx) (ρ := ρ) ps _ cs zv.cells hcs hz0 hops
    refine ⟨.agg us, ?_, by simp only [Rep]; exact ⟨us.toList, by simp, h2⟩⟩
    simp only [execOp, ho, Instr.build, Sem.run_bind, run_zeroValue hz1, run_underlying hu, Result.andThen_ok, run_sizeOf (tiSize_ok htt hm).1, Sem.run_pure]
    simp only [List.map_toArray] at h1 ⊢
    simp [h1]
  · cases h

/-! ### The others -/

def ppart (tt : TT) (cs : List PV) (t off : Nat) : Option PV :=
  match tiAgg tt t, tiSize tt t with
  | some true, some n => bif Nat.ble (off + n) cs.length then forceL (cellsAt cs off n) fun ds => some (.agg ds) else none
  | some false, some _ => cs[off]?
  | _, _ => none

theorem ppart_ok {P : Program} {tt : TT} (htt : TTOK P tt) {w : World} {g : G} {cs : List PV} {t off : Nat} {p : PV} (h : ppart tt cs t off = some p) {vs : Array Value} (hr : RepL g cs vs.toList) :
    ∃ v, (part t vs off).run P w = .ok v w ∧ Rep g p v := by
  unfold ppart at h
  have hl := hr.length
  split at h
  · rename_i n ha hn
    cases hb : Nat.ble (off + n) cs.length with
    | false => rw [hb] at h; simp at h
    | true =>
      rw [hb] at h
      simp only [cond_true, forceL_eq] at h
      injection h with h; subst h
      have hb := Nat.le_of_ble_eq_true hb
      obtain ⟨v, h1, h2⟩ := part_rep (w := w) (tiAgg_ok htt ha).2 (tiSize_ok htt hn).1 hr (off := off) (by simp [cellsAt]; omega) (fun e => absurd ((tiAgg_ok htt ha).1.symm.trans e) (by simp))
      obtain ⟨xs, rfl, h3⟩ := h2.1 (tiAgg_ok htt ha).1
      exact ⟨_, h1, by simp only [Rep]; exact ⟨xs.toList, by simp, h3⟩⟩
  · rename_i n ha hn
    obtain ⟨v, e1, e2⟩ := hr.get h
    have e1' : vs[off]? = some v := by simpa using e1
    exact ⟨v, by simp [part, run_isAgg (tiAgg_ok htt ha).1 (tiAgg_ok htt ha).2, e1'], e2⟩
  · cases h

/-- A slice's, a string's length. -/
def plen (p : PV) : Option Nat :=
  match p with
  | .seq rows => some rows.length
  | .own _ rows => some rows.length
  | .vec _ _ n => some n
  | .val (.string b) => some b.size
  | .val (.slice none 0 0) => some 0
  | _ => none

def isStrT (tt : TT) (T : TypeId) : Bool := match tiK tt T with | some .str => true | _ => false
def isSliceT (tt : TT) (T : TypeId) : Bool := match tiK tt T with | some (.slice _) => true | _ => false
def lenT (tt : TT) (T : TypeId) (p : PV) : Option Nat :=
  match p with
  | .val (.string b) => bif isStrT tt T then some b.size else none
  | p => bif isSliceT tt T then plen p else none

def pmax (f : Int → Int → Int) : List PV → Option PV
  | [.val (.int k a), .val (.int k' b)] => bif ikEq k k' then some (.val (.int k (f a b))) else none
  | [.val (.int k a), .val (.int k' b), .val (.int k'' c)] => bif ikEq k k' && ikEq k k'' then some (.val (.int k (f (f a b) c))) else none
  | _ => none

def opdL (s : St) : List Operand → Option (List PV)
  | [] => some []
  | x :: xs => match opd s x, opdL s xs with
    | some p, some ps => some (p :: ps)
    | _, _ => none

def pcall (tt : TT) (s : St) (b : Builtin) (args : List Operand) (ts : List TypeId) : Option PV :=
  match b, args, ts with
  | .len, [x], [T] => match opd s x with
    | some p => match lenT tt T p with
      | some n => some (.val (.int .i64 n))
      | none => none
    | none => none
  | .max, xs, _ => match opdL s xs with | some ps => pmax max ps | none => none
  | .min, xs, _ => match opdL s xs with | some ps => pmax min ps | none => none
  | _, _, _ => none

/-- What an operation yields, where that asks for nothing more. -/
def pval (tt : TT) (s : St) : Op → Option PV
  | .move x => opd s x
  | .assign x => opd s x
  | .binOp op T x y _ => match opd s x, opd s y with
    | some a, some b => pbin tt op T a b
    | _, _ => none
  | .unOp .not _ x => match opd s x with
    | some (.val (.bool b)) => some (.val (.bool (!b)))
    | _ => none
  | .extract x i => match opd s x with
    | some (.tup cs) => cs[i]?
    | _ => none
  | .field T x f => match opd s x, tiK tt T with
    | some (.agg cs), some (.struct fs) => match fs[f]? with
      | some (t, off) => ppart tt cs t off
      | none => none
    | _, _ => none
  | .build T ps => pbuild tt s T ps.toList
  | .call ⟨.builtin b, args, ts⟩ => pcall tt s b args.toList ts.toList
  | .makeFunc (.func f) first caps => match first.toList, opdL s caps.toList with
    | [], some ps => some (.fn f ps)
    | _, _ => none
  | .fieldAddr T x f => match opd s x, tiK tt T with
    | some (.rp cs), some (.struct fs) => match fs[f]? with
      | some (t, off) => match tiSize tt t with
        | some (_ + 1) => forceL (cs.drop off) fun ds => some (.rp ds)
        | _ => none
      | none => none
    | _, _ => none
  | .load T x => match opd s x, tiAgg tt T, tiSize tt T with
    | some (.rp cs), some true, some n => bif Nat.ble n cs.length then forceL (cs.take n) fun ds => some (.agg ds) else none
    | some (.rp (c :: _)), some false, some _ => some c
    | _, _, _ => none
  | _ => none

theorem RepA.vals {g : G} {b : Nat} : ∀ {cs : List PV} {off : Nat}, RepA g b off cs → ∃ vs, RepL g cs vs ∧ ∀ j v, vs[j]? = some v → cellAt g.heap b (off + j) = some v
  | [], _, _ => ⟨[], by simp [RepL], by simp⟩
  | c :: cs, off, h => by
    simp only [RepA] at h
    obtain ⟨⟨v, h1, h2, h3⟩, h4⟩ := h
    obtain ⟨vs, k1, k2⟩ := RepA.vals h4
    refine ⟨v :: vs, by simp only [RepL]; exact ⟨v, vs, rfl, h3, k1⟩, fun j u hj => ?_⟩
    cases j with
    | zero => simp at hj; subst hj; exact h1
    | succ j => simp at hj; have := k2 j u hj; rwa [show off + (j + 1) = off + 1 + j from by omega]

theorem RepA.drop {g : G} {b : Nat} : ∀ {cs : List PV} {off : Nat} (k : Nat), RepA g b off cs → RepA g b (off + k) (cs.drop k)
  | _, _, 0, h => by simpa using h
  | [], _, k + 1, _ => by simp [RepA]
  | c :: cs, off, k + 1, h => by
    simp only [RepA] at h
    have := RepA.drop k h.2
    simpa [show off + (k + 1) = off + 1 + k from by omega] using this

theorem RepA.take {g : G} {b : Nat} : ∀ {cs : List PV} {off : Nat} (k : Nat), RepA g b off cs → RepA g b off (cs.take k)
  | _, _, 0, _ => by simp [RepA]
  | [], _, k + 1, _ => by simp [RepA]
  | c :: cs, off, k + 1, h => by
    simp only [RepA] at h
    simp only [List.take_succ_cons, RepA]
    exact ⟨h.1, RepA.take k h.2⟩

theorem cell_of_at {P : Program} {st : Store} {w : World} {g : G} (hm : MemOK P st w g) {b i : Nat} {v : Value} (h : cellAt g.heap b i = some v) : w.cell? ⟨b, i, none⟩ = some v := by
  rw [hm.heap] at h
  unfold cellAt at h
  simp only [World.cell?, Option.isSome_none, Bool.false_eq_true, if_false]
  exact h

theorem run_load_rp {P : Program} {st : Store} {w : World} {g : G} (hm : MemOK P st w g) {b off : Nat} {cs : List PV} (h : RepA g b off cs) {T : TypeId} {n : Nat} (ha : isAggT P T = true) (hn : (P.info? T).map (·.size) = some n) (hl : cs.length = n) :
    ∃ vs, (loadVar T ⟨b, off, none⟩).run P w = .ok (.agg vs.toArray) w ∧ RepL g cs vs := by
  obtain ⟨vs, h1, h2⟩ := h.vals
  have hlen := h1.length
  refine ⟨vs, ?_, h1⟩
  have := run_loadCells_list (P := P) (w := w) ⟨b, off, none⟩ vs (fun j v hj => by rw [addr_add]; exact cell_of_at hm (h2 j v hj))
  rw [hlen, hl] at this
  simp [loadVar, run_isAgg ha (under_of_agg ha), run_sizeOf hn, this]

theorem opdL_rep {g : G} {s : St} {ρ : Operand → Value} : ∀ {xs : List Operand} {ps : List PV}, opdL s xs = some ps → (∀ x ∈ xs, OpdOK g s x (ρ x)) → RepL g ps (xs.map ρ)
  | [], ps, h, _ => by simp [opdL] at h; subst h; simp [RepL]
  | x :: xs, ps, h, hρ => by
    simp only [opdL] at h
    split at h
    · rename_i p ps' hp hps
      injection h with h; subst h
      simp only [List.map_cons, RepL]
      exact ⟨_, _, rfl, hρ x (by simp) p hp, opdL_rep hps (fun y hy => hρ y (by simp [hy]))⟩
    · cases h

theorem lenT_ok {P : Program} {tt : TT} (htt : TTOK P tt) {T : TypeId} {p : PV} {n : Nat} (h : lenT tt T p = some n) {g : G} {v : Value} (hr : Rep g p v) {w : World} {ty : TypeId} : (Builtin.len_ #[T] ty #[v]).run P w = .ok (.int .i64 n) w := by
  have sl : isSliceT tt T = true → ∃ e, P.underlying T = some (.slice e) := fun hs => by
    unfold isSliceT at hs
    split at hs
    · rename_i e he; exact ⟨e, tk_slice (tiK_ok htt he).1⟩
    · cases hs
  unfold lenT at h
  split at h
  · rename_i b
    have hv := rep_val hr
    subst hv
    cases hs : isStrT tt T with
    | false => rw [hs] at h; simp at h
    | true =>
      rw [hs] at h
      simp at h
      unfold isStrT at hs
      split at hs
      · rename_i he
        have hu := tk_str (tiK_ok htt he).1
        simp [Builtin.len_, run_underlying hu, goInt, h]
      · cases hs
  · cases hs : isSliceT tt T with
    | false => rw [hs] at h; simp at h
    | true =>
      rw [hs] at h
      simp only [cond_true] at h
      obtain ⟨e, hu⟩ := sl hs
      unfold plen at h
      split at h
      · simp only [Rep] at hr; obtain ⟨a, cap, rfl, _⟩ := hr; injection h with h; subst h; simp [Builtin.len_, run_underlying hu, goInt]
      · simp only [Rep] at hr; obtain ⟨b, cap, sz, _, hle, _, h4⟩ := hr
        injection h with h; subst h
        rcases h4 with ⟨hc, _, rfl⟩ | ⟨_, rfl, _⟩
        · rw [hc] at hle
          simp [Builtin.len_, run_underlying hu, goInt]
          omega
        · simp [Builtin.len_, run_underlying hu, goInt]
      · simp only [Rep] at hr; obtain ⟨b, n', cap, sz, _, _, rfl⟩ := hr; injection h with h; subst h; simp [Builtin.len_, run_underlying hu, goInt]
      · rename_i b hne; exact absurd rfl (hne b)
      · have hv := rep_val hr; subst hv; injection h with h; subst h; simp [Builtin.len_, run_underlying hu, goInt]
      · cases h

theorem run_builtin {P : Program} {w w' : World} {ρ : Operand → Value} {o : Oper} {b : Builtin} {args : Array Operand} {ts : Array TypeId} {v : Value} (ho : o.op = .call ⟨.builtin b, args, ts⟩)
    (h : (builtin b ts o.type (args.map fun | .const _ => true | _ => false) (args.map ρ)).run P w = .ok (.value v) w') : (execOp ρ o).run P w = .ok (.value v) w' := by
  simp only [execOp, ho, resolve, invoke, Sem.run_bind, Sem.run_pure, Result.andThen_ok]
  exact h

theorem pval_sound {P : Program} {tt : TT} (htt : TTOK P tt) {o : Oper} {s : St} {p : PV} (h : pval tt s o.op = some p) : OpV P o s p := by
  obtain ⟨dst, op, type, pos, after, guard⟩ := o
  simp only at h
  cases op <;> simp only [pval] at h <;> try (cases h; done)
  case move x =>
    exact opv_value fun w g ρ _ hρ => ⟨ρ x, by simp [execOp], hρ x (by simp [Op.operands]) p h⟩
  case assign x =>
    exact opv_value fun w g ρ _ hρ => ⟨ρ x, by simp [execOp], hρ x (by simp [Op.operands]) p h⟩
  case build T ps =>
    exact opv_build htt (ps := ps.toList) (by simp) h
  case load T x =>
    split at h
    · rename_i cs n hx ha hn
      cases hb : Nat.ble n cs.length with
      | false => rw [hb] at h; simp at h
      | true =>
        rw [hb] at h
        simp only [cond_true, forceL_eq] at h
        injection h with h; subst h
        refine opv_value fun w g ρ hm hρ => ?_
        have hr := hρ x (by simp [Op.operands]) _ hx
        simp only [Rep] at hr
        obtain ⟨b, off, e, hr⟩ := hr
        have hb := Nat.le_of_ble_eq_true hb
        obtain ⟨vs, h1, h2⟩ := run_load_rp hm (hr.take n) (tiAgg_ok htt ha).1 (tiSize_ok htt hn).1 (by simp; omega)
        exact ⟨.agg vs.toArray, by simp [execOp, Instr.loadAt, e, Instr.sureAddr, h1], by simp only [Rep]; exact ⟨vs, rfl, h2⟩⟩
    · rename_i c cs n hx ha hn
      injection h with h; subst h
      refine opv_value fun w g ρ hm hρ => ?_
      have hr := hρ x (by simp [Op.operands]) _ hx
      simp only [Rep, RepA] at hr
      obtain ⟨b, off, e, ⟨v, h1, _, h3⟩, _⟩ := hr
      have := cell_of_at hm h1
      exact ⟨v, by simp [execOp, Instr.loadAt, e, Instr.sureAddr, loadVar, run_isAgg (tiAgg_ok htt ha).1 (tiAgg_ok htt ha).2, this], h3⟩
    · cases h
  case binOp op T x y T2 =>
    split at h
    · rename_i a b hx hy
      exact opv_bin htt rfl hx hy h
    · cases h
  case unOp op T x =>
    cases op <;> simp only at h <;> try (cases h; done)
    split at h
    · rename_i b hx
      injection h with h; subst h
      refine opv_value fun w g ρ hm hρ => ?_
      have hr := rep_val (hρ x (by simp [Op.operands]) _ hx)
      exact ⟨.bool (!b), by simp [execOp, hr, Op.unary], by simp [Rep]⟩
    · cases h
  case makeFunc fn first caps =>
    cases fn <;> simp only at h <;> try (cases h; done)
    rename_i f
    split at h
    · rename_i ps hf hps
      injection h with h; subst h
      refine opv_value fun w g ρ hm hρ => ?_
      have hr := opdL_rep hps (ρ := ρ) (g := g) (fun x hx => hρ x (by simp [Op.operands]; exact .inr (by simpa using hx)))
      have hf' : first = #[] := by simpa using hf
      exact ⟨.func (.func f) #[] (caps.map ρ), by simp [execOp, Instr.makeFunc, hf'], by simp only [Rep]; exact ⟨(caps.toList.map ρ), by rw [← Array.toList_map], hr⟩⟩
    · cases h
  case fieldAddr T x f =>
    split at h
    · rename_i cs fs hx hk
      split at h
      case h_2 => cases h
      rename_i t off hf
      split at h
      case h_2 => cases h
      rename_i m hm'
      rw [forceL_eq] at h
      injection h with h; subst h
      obtain ⟨fields, hu, hfs⟩ := tk_struct (tiK_ok htt hk).1
      rw [← hfs] at hf
      simp only [List.getElem?_map] at hf
      cases hfd : fields.toList[f]? with
      | none => rw [hfd] at hf; cases hf
      | some fd =>
        rw [hfd] at hf
        simp at hf
        have hfd' : fields[f]? = some fd := by simpa using hfd
        refine opv_value fun w g ρ hm hρ => ?_
        have hr := hρ x (by simp [Op.operands]) _ hx
        simp only [Rep] at hr
        obtain ⟨b, o', e, hr⟩ := hr
        have hsz : (sizeOf fd.type).run P w = .ok (m + 1) w := by rw [hf.1]; exact run_sizeOf (tiSize_ok htt hm').1
        refine ⟨.pointer (some ⟨b, o' + off, none⟩), ?_, by simp only [Rep]; exact ⟨b, o' + off, rfl, hr.drop off⟩⟩
        simp [execOp, Instr.fieldAt, underlying, hu, hfd', e, Instr.sureAddr, fieldPlace, hsz, addr_add, hf.2]
    · cases h
  case field T x f =>
    split at h
    · rename_i cs fs hx hk
      split at h
      case h_2 => cases h
      rename_i t off hf
      obtain ⟨fields, hu, hfs⟩ := tk_struct (tiK_ok htt hk).1
      rw [← hfs] at hf
      simp only [List.getElem?_map] at hf
      cases hfd : fields.toList[f]? with
      | none => rw [hfd] at hf; cases hf
      | some fd =>
        rw [hfd] at hf
        simp at hf
        have hfd' : fields[f]? = some fd := by simpa using hfd
        refine opv_value fun w g ρ hm hρ => ?_
        have hr := hρ x (by simp [Op.operands]) _ hx
        simp only [Rep] at hr
        obtain ⟨vs, e, hr⟩ := hr
        obtain ⟨v, h1, h2⟩ := ppart_ok htt (w := w) h (vs := vs.toArray) (by simpa using hr)
        rw [← hf.1, ← hf.2] at h1
        refine ⟨v, ?_, h2⟩
        simp [execOp, Instr.field, underlying, hu, hfd', e, asAgg, h1]
    · cases h
  case extract x i =>
    split at h
    · rename_i cs hx
      refine opv_value fun w g ρ hm hρ => ?_
      have hr := hρ x (by simp [Op.operands]) _ hx
      simp only [Rep] at hr
      obtain ⟨vs, e, hr⟩ := hr
      obtain ⟨v, h1, h2⟩ := hr.get h
      exact ⟨v, by simp [execOp, Instr.extract, e, h1], h2⟩
    · cases h
  case call c =>
    obtain ⟨callee, args, ts⟩ := c
    cases callee <;> simp only at h <;> try (cases h; done)
    rename_i b
    have hops : ∀ (g : G) (ρ : Operand → Value), (∀ x ∈ (Op.call ⟨.builtin b, args, ts⟩).operands, OpdOK g s x (ρ x)) → ∀ x ∈ args.toList, OpdOK g s x (ρ x) := fun g ρ hρ x hx =>
      hρ x (by simp [Op.operands, Call.operands]; simpa using hx)
    unfold pcall at h
    split at h
    · rename_i x T hxs hts
      split at h
      case h_2 => cases h
      rename_i q hq
      split at h
      case h_2 => cases h
      rename_i n hn
      injection h with h; subst h
      refine opv_value fun w g ρ hm hρ => ?_
      have hr := hops g ρ hρ x (by rw [hxs]; simp) _ hq
      have ha : args = #[x] := by apply Array.toList_inj.1; simpa using hxs
      have ht : ts = #[T] := by apply Array.toList_inj.1; simpa using hts
      subst ha; subst ht
      exact ⟨.int .i64 n, run_builtin rfl (by simp [builtin, lenT_ok htt hn hr]), by simp [Rep]⟩
    · split at h
      case h_2 => cases h
      rename_i ps hps
      refine opv_value fun w g ρ hm hρ => ?_
      have hr := opdL_rep hps (hops g ρ hρ)
      unfold pmax at h
      split at h
      · rename_i k a k' b
        obtain ⟨args⟩ := args
        simp only [RepL] at hr
        obtain ⟨v1, _, e1, r1, v2, _, e2, r2, e3⟩ := hr
        subst e3; subst e2
        cases hk : ikEq k k' with
        | false => rw [hk] at h; simp at h
        | true =>
          rw [hk] at h; simp at h; subst h
          have := ikEq_eq hk; subst this
          refine ⟨.int k (max a b), run_builtin rfl ?_, by simp [Rep]⟩
          simp only [List.map_toArray, e1, builtin, Builtin.max_, rep_val r1, rep_val r2]
          simp [Builtin.max2]
          omega
      · rename_i k a k' b k'' c
        obtain ⟨args⟩ := args
        simp only [RepL] at hr
        obtain ⟨v1, _, e1, r1, v2, _, e2, r2, v3, _, e3, r3, e4⟩ := hr
        subst e4; subst e3; subst e2
        cases hk : (ikEq k k' && ikEq k k'') with
        | false => rw [hk] at h; simp at h
        | true =>
          rw [hk] at h; simp at h; subst h
          rw [Bool.and_eq_true] at hk
          have h1 := ikEq_eq hk.1; subst h1
          have h2 := ikEq_eq hk.2; subst h2
          refine ⟨.int k (max (max a b) c), run_builtin rfl ?_, by simp [Rep]⟩
          simp only [List.map_toArray, e1, builtin, Builtin.max_, rep_val r1, rep_val r2, rep_val r3]
          simp [Builtin.max2]
          omega
      · cases h
    · split at h
      case h_2 => cases h
      rename_i ps hps
      refine opv_value fun w g ρ hm hρ => ?_
      have hr := opdL_rep hps (hops g ρ hρ)
      unfold pmax at h
      split at h
      · rename_i k a k' b
        obtain ⟨args⟩ := args
        simp only [RepL] at hr
        obtain ⟨v1, _, e1, r1, v2, _, e2, r2, e3⟩ := hr
        subst e3; subst e2
        cases hk : ikEq k k' with
        | false => rw [hk] at h; simp at h
        | true =>
          rw [hk] at h; simp at h; subst h
          have := ikEq_eq hk; subst this
          refine ⟨.int k (min a b), run_builtin rfl ?_, by simp [Rep]⟩
          simp only [List.map_toArray, e1, builtin, Builtin.min_, rep_val r1, rep_val r2]
          simp [Builtin.min2]
          omega
      · rename_i k a k' b k'' c
        obtain ⟨args⟩ := args
        simp only [RepL] at hr
        obtain ⟨v1, _, e1, r1, v2, _, e2, r2, v3, _, e3, r3, e4⟩ := hr
        subst e4; subst e3; subst e2
        cases hk : (ikEq k k' && ikEq k k'') with
        | false => rw [hk] at h; simp at h
        | true =>
          rw [hk] at h; simp at h; subst h
          rw [Bool.and_eq_true] at hk
          have h1 := ikEq_eq hk.1; subst h1
          have h2 := ikEq_eq hk.2; subst h2
          refine ⟨.int k (min (min a b) c), run_builtin rfl ?_, by simp [Rep]⟩
          simp only [List.map_toArray, e1, builtin, Builtin.min_, rep_val r1, rep_val r2, rep_val r3]
          simp [Builtin.min2]
          omega
      · cases h
    · cases h
