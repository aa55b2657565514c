/-
  ABS, part 15: shapes, by the table of types; the bound out of what the arguments weigh.
-/
import Derived.Test.YtghjdkbmjjalmaaAbsLift
namespace Go.Abs
open Go

section
variable {P : Program} {tt : TT} {N : Nat}

theorem tk_bool {t : TypeId} (h : tkOf P t = .bool) : P.underlying t = some .bool := by
  unfold tkOf at h; split at h <;> simp_all
theorem shape_int (htt : TTOK P tt) {t : TypeId} {k : IntKind} (hk : tiK tt t = some (.int k)) {n : Nat} {ps : List PV} (h : Shape P N n t ps) : ∃ x, ps = [.val (.int k x)] ∧ (Lit.int k x).wf = true := by
  cases n with
  | zero => simp [Shape] at h
  | succ n => simpa only [Shape, tk_int (tiK_ok htt hk).1] using h
theorem shape_bool (htt : TTOK P tt) {t : TypeId} (hk : tiK tt t = some .bool) {n : Nat} {ps : List PV} (h : Shape P N n t ps) : ∃ x, ps = [.val (.bool x)] := by
  cases n with
  | zero => simp [Shape] at h
  | succ n => simpa only [Shape, tk_bool (tiK_ok htt hk).1] using h
theorem shape_str (htt : TTOK P tt) {t : TypeId} (hk : tiK tt t = some .str) {n : Nat} {ps : List PV} (h : Shape P N n t ps) : ∃ x, ps = [.val (.string x)] ∧ x.size ≤ N := by
  cases n with
  | zero => simp [Shape] at h
  | succ n => simpa only [Shape, tk_str (tiK_ok htt hk).1] using h
theorem shape_slice (htt : TTOK P tt) {t e : TypeId} (hk : tiK tt t = some (.slice e)) {n : Nat} {ps : List PV} (h : Shape P N n t ps) : ∃ m rows, n = m + 1 ∧ ps = [.seq rows] ∧ rows.length ≤ N ∧ ∀ r ∈ rows, Shape P N m e r := by
  cases n with
  | zero => simp [Shape] at h
  | succ n =>
    simp only [Shape, tk_slice (tiK_ok htt hk).1] at h
    obtain ⟨rows, h1, h2, h3⟩ := h
    exact ⟨n, rows, rfl, h1, h2, h3⟩
theorem shape_struct (htt : TTOK P tt) {t : TypeId} {fs : List (TypeId × Nat)} (hk : tiK tt t = some (.struct fs)) {n : Nat} {ps : List PV} (h : Shape P N n t ps) : ∃ (m : Nat) (pss : List (List PV)), n = m + 1 ∧ ps = pss.flatten ∧ All2 (fun f r => Shape P N m f r) (fs.map (·.1)) pss := by
  cases n with
  | zero => simp [Shape] at h
  | succ n =>
    obtain ⟨fields, hu, hfs⟩ := tk_struct (tiK_ok htt hk).1
    simp only [Shape, hu] at h
    obtain ⟨pss, h1, h2⟩ := h
    refine ⟨n, pss, rfl, h1, ?_⟩
    rw [← hfs, List.map_map]
    exact h2.map_left
theorem shape_arr (htt : TTOK P tt) {t e : TypeId} {k : Nat} (hk : tiK tt t = some (.arr k e)) {n : Nat} {ps : List PV} (h : Shape P N n t ps) : ∃ (m : Nat) (pss : List (List PV)), n = m + 1 ∧ ps = pss.flatten ∧ pss.length = k ∧ ∀ r ∈ pss, Shape P N m e r := by
  cases n with
  | zero => simp [Shape] at h
  | succ n =>
    simp only [Shape, tk_arr (tiK_ok htt hk).1] at h
    obtain ⟨pss, h1, h2, h3⟩ := h
    exact ⟨n, pss, rfl, h1, h2, h3⟩

/-- Rows that are all of one kind come from a list of that kind. -/
theorem rows_of {α : Type} {f : α → List PV} {rows : List (List PV)} (h : ∀ r ∈ rows, ∃ a, r = f a) : ∃ l : List α, rows = l.map f := by
  induction rows with
  | nil => exact ⟨[], rfl⟩
  | cons r rs ih =>
    obtain ⟨a, rfl⟩ := h r (by simp)
    obtain ⟨l, rfl⟩ := ih fun r hr => h r (by simp [hr])
    exact ⟨a :: l, rfl⟩
theorem rows_ofP {α : Type} {f : α → List PV} {Q : α → Prop} {rows : List (List PV)} (h : ∀ r ∈ rows, ∃ a, r = f a ∧ Q a) : ∃ l : List α, rows = l.map f ∧ ∀ a ∈ l, Q a := by
  induction rows with
  | nil => exact ⟨[], rfl, by simp⟩
  | cons r rs ih =>
    obtain ⟨a, rfl, hq⟩ := h r (by simp)
    obtain ⟨l, rfl, hl⟩ := ih fun r hr => h r (by simp [hr])
    refine ⟨a :: l, rfl, fun b hb => ?_⟩
    rcases List.mem_cons.1 hb with rfl | hb
    · exact hq
    · exact hl b hb

/-! ### The bound out of the weights -/
def wB (P : Program) {H : Type} (t : TypeId) (d : DataW H) : Prop := ∀ n ∈ d.weights P t, n ≤ reachBytes

theorem weightsAll_mem {H : Type} {e : TypeId} : ∀ {ds : List (DataW H)} {d : DataW H}, d ∈ ds → ∀ n ∈ d.weights P e, n ∈ DataW.weightsAll P e ds
  | [], _, h, _, _ => by cases h
  | x :: ds, d, h, n, hn => by
    simp only [DataW.weightsAll, List.mem_append]
    rcases List.mem_cons.1 h with rfl | h
    · exact .inl hn
    · exact .inr (weightsAll_mem h n hn)
theorem weightsEach_mem {H : Type} : ∀ {ts : List TypeId} {ds : List (DataW H)} {i : Nat} {t : TypeId} {d : DataW H}, ts[i]? = some t → ds[i]? = some d → ∀ n ∈ d.weights P t, n ∈ DataW.weightsEach P ts ds
  | [], _, _, _, _, h, _, _, _ => by simp at h
  | _ :: _, [], _, _, _, _, h, _, _ => by simp at h
  | t0 :: ts, d0 :: ds, 0, t, d, h1, h2, n, hn => by
    simp at h1 h2; subst h1; subst h2
    simp only [DataW.weightsEach, List.mem_append]; exact .inl hn
  | t0 :: ts, d0 :: ds, i + 1, t, d, h1, h2, n, hn => by
    simp at h1 h2
    simp only [DataW.weightsEach, List.mem_append]; exact .inr (weightsEach_mem h1 h2 n hn)

theorem wB_bnd {H : Type} (hb : ∀ t e, t < P.types.size → P.underlying t = some (.slice e) → 1 ≤ P.bytesOf e) : Bnd P (wB P (H := H)) reachBytes where
  str t b _ h := h _ (by simp [DataW.weights])
  slice t e ds sp hlt hu h := by
    simp only [wB, DataW.weights, hu] at h
    refine ⟨?_, fun d hd n hn => h n (by simp only [List.mem_cons, List.mem_append]; exact .inr (.inl (weightsAll_mem hd n hn)))⟩
    have h1 := h _ (List.mem_cons_self)
    have h2 := hb t e hlt hu
    have h3 : ds.length * 1 ≤ (ds.length + sp.length) * P.bytesOf e := Nat.mul_le_mul (by omega) h2
    omega
  ptr t e d hu h n hn := h n (by simp only [DataW.weights, hu]; exact hn)
  struct t fs ds hu h i f d hf hd n hn := h n (by
    simp only [DataW.weights, hu]
    exact weightsEach_mem (by rw [List.getElem?_map, hf]; rfl) hd n hn)
  array t m e ds hu h d hd n hn := h n (by simp only [DataW.weights, hu]; exact weightsAll_mem hd n hn)

/-- A look through the table of types. -/
theorem slices_of (f : TypeId → TypeId → Bool) (h : ((List.range P.types.size).all fun t => match P.underlying t with | some (.slice e) => f t e | _ => true) = true) : ∀ t e, t < P.types.size → P.underlying t = some (.slice e) → f t e = true := by
  intro t e hlt ht
  have := List.all_eq_true.1 h t (List.mem_range.2 hlt)
  rw [ht] at this
  exact this
theorem ptrs_of (f : TypeId → TypeId → Bool) (h : ((List.range P.types.size).all fun t => match P.underlying t with | some (.pointer e) => f t e | _ => true) = true) : ∀ t e, t < P.types.size → P.underlying t = some (.pointer e) → f t e = true := by
  intro t e hlt ht
  have := List.all_eq_true.1 h t (List.mem_range.2 hlt)
  rw [ht] at this
  exact this
end
end Go.Abs
