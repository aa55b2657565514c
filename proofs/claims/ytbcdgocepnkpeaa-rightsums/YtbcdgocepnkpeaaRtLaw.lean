import Derived.Test.YtbcdgocepnkpeaaRtAt
set_option linter.unusedSimpArgs false
set_option linter.unusedVariables false
namespace Go.Proofs.Ytbcdgocepnkpeaa
open Go Go.Abs
set_option maxRecDepth 10000
set_option maxHeartbeats 2000000
theorem cmpI_lt (a b : Int) : cmpI a b < 0 ↔ a < b := by unfold cmpI; split <;> (try split) <;> omega
theorem cmpI_eq (a b : Int) : cmpI a b = 0 ↔ a = b := by unfold cmpI; split <;> (try split) <;> omega
def bh (a b : Rt) : Prop := a.kind < b.kind ∨ a.kind = b.kind ∧ (a.table < b.table ∨ a.table = b.table ∧ (a.col < b.col ∨ a.col = b.col ∧ ((a.kind = 3 ∧ a.lo < b.lo) ∨ (a.kind ≠ 3 ∧ a.hi < b.lo))))
theorem bh_iff (a b : Rt) : behindP a b = true ↔ bh a b := by
  unfold behindP bh
  simp only [cmpL, cmpI_eq]
  have c1 := cmpI_lt a.kind b.kind
  have c2 := cmpI_lt a.table b.table
  have c3 := cmpI_lt a.col b.col
  by_cases h1 : a.kind = b.kind
  · by_cases h2 : a.table = b.table
    · by_cases h3 : a.col = b.col
      · simp only [h1, h2, h3, if_true]
        by_cases h4 : b.kind = 3 <;> simp [h4]
      · have h4 : cmpI a.col b.col ≠ 0 := fun e => h3 ((cmpI_eq _ _).1 e)
        simp only [h1, h2, h3, if_true, if_false, ne_eq, h4, not_false_eq_true, decide_eq_true_eq]
        grind
    · have h4 : cmpI a.table b.table ≠ 0 := fun e => h2 ((cmpI_eq _ _).1 e)
      simp only [h1, h2, if_true, if_false, ne_eq, h4, not_false_eq_true, decide_eq_true_eq]
      grind
  · have h4 : cmpI a.kind b.kind ≠ 0 := fun e => h1 ((cmpI_eq _ _).1 e)
    simp only [h1, if_false, ne_eq, h4, not_false_eq_true, if_true, decide_eq_true_eq]
    grind
structure OkR (s : Sc) (dev : Int) (r : Rt) : Prop where
  there : thereP s r.kind r.table r.col = 0
  span : r.kind ≠ 3 → 0 ≤ r.lo ∧ r.lo < r.hi ∧ r.hi ≤ 1073741824 ∧ r.amt = 0
  sum : r.kind = 3 → (-1099511627776 ≤ r.lo ∧ r.lo ≤ 1099511627776) ∧ r.hi = 0 ∧ r.amt ≤ 1099511627776 ∧ r.amt ≠ 0 ∧ (dev = 1 → 0 - maxOf s r.table r.col ≤ r.amt) ∧ (dev ≠ 1 → 1 ≤ r.amt)
theorem fits_iff (n : Int) : fitsB n = true ↔ -1099511627776 ≤ n ∧ n ≤ 1099511627776 := by simp [fitsB]
theorem mayR_span {r : Rt} (h : r.kind ≠ 3) : mayR r = true ↔ 0 ≤ r.lo ∧ r.lo < r.hi ∧ r.hi ≤ 1073741824 ∧ r.amt = 0 := by
  unfold mayR; rw [if_neg h]; simp only [Bool.and_eq_true, decide_eq_true_eq]; omega
theorem mayR_sum {r : Rt} (h : r.kind = 3) : mayR r = true ↔ (-1099511627776 ≤ r.lo ∧ r.lo ≤ 1099511627776) ∧ r.hi = 0 ∧ 1 ≤ r.amt ∧ r.amt ≤ 1099511627776 := by
  unfold mayR; rw [if_pos h]; simp only [Bool.and_eq_true, decide_eq_true_eq, fits_iff]; omega
theorem rightE_ok {s : Sc} {r : Rt} : rightE s r = 0 ↔ thereP s r.kind r.table r.col = 0 ∧ mayR r = true := by
  unfold rightE
  by_cases h : thereP s r.kind r.table r.col = 0
  · rw [if_neg (by simp [h])]
    by_cases h2 : mayR r = true
    · simp [h, h2]
    · rw [if_neg h2]; simp [h2]
  · rw [if_pos h]; simp [h]
theorem okR_iff (s : Sc) (dev : Int) (r : Rt) : okR s dev r = true ↔ OkR s dev r := by
  unfold okR
  by_cases h3 : r.kind = 3
  · simp only [h3, ne_eq, not_true_eq_false, decide_false, Bool.false_and, Bool.false_or, decide_true, Bool.true_and]
    unfold amountP
    rw [h3]
    constructor
    · intro h
      split at h
      · cases h
      · rename_i hn
        simp only [not_or, Decidable.not_not, Bool.not_eq_false, fits_iff] at hn
        obtain ⟨n1, n2, n3, n4⟩ := hn
        refine ⟨by rw [h3]; exact n1, fun e => absurd h3 e, fun _ => ⟨n2, n3, by omega, ?_, ?_, ?_⟩⟩
        · split at h
          · simp at h; exact h.2
          · simp at h; omega
        · intro e; rw [if_pos e] at h; simp at h; omega
        · intro e; rw [if_neg e] at h; simp at h; omega
    · rintro ⟨h1, _, h2⟩
      obtain ⟨a1, a2, a3, a4, a5, a6⟩ := h2 h3
      rw [h3] at h1
      rw [if_neg (by rw [h1]; simp only [ne_eq, not_true_eq_false, false_or, not_or]; exact ⟨by rw [Bool.not_eq_false, fits_iff]; exact a1, by simpa using a2, by omega⟩)]
      by_cases hd : dev = 1
      · rw [if_pos hd]; have := a5 hd; simp; omega
      · rw [if_neg hd]; have := a6 hd; simp; omega
  · simp only [h3, ne_eq, not_false_eq_true, decide_true, Bool.true_and, decide_false, Bool.false_and, Bool.or_false, decide_eq_true_eq, rightE_ok]
    constructor
    · rintro ⟨h1, h2⟩; exact ⟨h1, fun _ => (mayR_span h3).1 h2, fun e => absurd e h3⟩
    · rintro ⟨h1, h2, _⟩; exact ⟨h1, (mayR_span h3).2 (h2 h3)⟩
theorem bh_trans {s : Sc} {dev : Int} {a b c : Rt} (hb : OkR s dev b) (h1 : bh a b) (h2 : bh b c) : bh a c := by
  have := hb.span
  unfold bh at *
  by_cases h3 : b.kind = 3
  · omega
  · have := this h3; omega
theorem ownA_iff (s : Sc) (dev : Int) : ∀ (p : Option Rt) (l : List Rt), ownA s dev p l = true ↔ (∀ r ∈ l, OkR s dev r) ∧ l.Pairwise bh ∧ ∀ q, p = some q → ∀ r ∈ l.head?, bh q r
  | p, [] => by simp [ownA]
  | p, r :: l => by
    simp only [ownA, Bool.and_eq_true, ownA_iff s dev (some r) l, okR_iff, List.pairwise_cons, List.mem_cons, List.head?_cons, Option.mem_def, Option.some.injEq]
    constructor
    · rintro ⟨⟨h1, h2⟩, h3, h4, h5⟩
      refine ⟨fun x hx => ?_, ⟨fun x hx => ?_, h4⟩, fun q hq x hx => ?_⟩
      · rcases hx with rfl | hx
        · exact h1
        · exact h3 x hx
      · cases l with
        | nil => cases hx
        | cons y l =>
          have hy := h5 r rfl y (by simp)
          rcases List.mem_cons.1 hx with rfl | hx
          · exact hy
          · exact bh_trans (h3 y (by simp)) hy ((List.pairwise_cons.1 h4).1 x hx)
      · subst hx; subst hq; exact (bh_iff _ _).1 h2
    · rintro ⟨h1, ⟨h2, h3⟩, h4⟩
      refine ⟨⟨h1 r (.inl rfl), ?_⟩, fun x hx => h1 x (.inr hx), h3, fun q hq x hx => ?_⟩
      · cases p with
        | none => rfl
        | some q => exact (bh_iff _ _).2 (h4 q rfl r rfl)
      · subst hq; exact h2 x (List.mem_of_mem_head? hx)
structure OkO (s : Sc) (o : Ow) : Prop where
  dev : 1 ≤ o.dev ∧ o.dev ≤ 64
  some_ : o.rights ≠ []
  rts : ∀ r ∈ o.rights, OkR s o.dev r
  srt : o.rights.Pairwise bh
theorem ownP_iff (s : Sc) (o : Ow) : ownP s o = true ↔ OkO s o := by
  unfold ownP
  simp only [Bool.and_eq_true, ownA_iff, decide_eq_true_eq, deviceB]
  constructor
  · rintro ⟨⟨h1, h2, _⟩, h3, h4⟩
    exact ⟨⟨by omega, by omega⟩, fun e => by rw [e] at h3; simp at h3, h1, h2⟩
  · rintro ⟨h1, h2, h3, h4⟩
    exact ⟨⟨h3, h4, fun q h => by cases h⟩, by rcases List.length_pos_iff.2 h2 with h; omega, by omega, by omega⟩
structure CanonO (s : Sc) (l : List Ow) : Prop where
  own : ∀ o ∈ l, OkO s o
  devs : l.Pairwise fun a b => a.dev < b.dev
  apart : l.Pairwise fun a b => ∀ x ∈ a.rights, ∀ r ∈ b.rights, clashB x r = false
theorem canonA_iff (s : Sc) : ∀ (p : Option Ow) (acc : List Rt) (l : List Ow), canonA s p acc l = true ↔ CanonO s l ∧ (∀ q, p = some q → ∀ o ∈ l.head?, q.dev < o.dev) ∧ ∀ x ∈ acc, ∀ o ∈ l, ∀ r ∈ o.rights, clashB x r = false
  | p, acc, [] => by
    simp only [canonA, true_iff]
    exact ⟨⟨fun _ h => (by cases h), List.Pairwise.nil, List.Pairwise.nil⟩, fun _ _ _ h => (by cases h), fun _ _ _ h => by cases h⟩
  | p, acc, o :: l => by
    simp only [canonA, Bool.and_eq_true, canonA_iff s (some o) (acc ++ o.rights) l, ownP_iff, List.all_eq_true, Bool.not_eq_true', List.head?_cons, Option.mem_def, Option.some.injEq]
    have hany : ∀ r, ((acc.any fun x => clashB x r) = false ↔ ∀ x ∈ acc, clashB x r = false) := fun r => by simp
    constructor
    · rintro ⟨⟨⟨h1, h2⟩, h3⟩, ⟨h4, h5, h6⟩, h7, h8⟩
      have hd : ∀ b ∈ l, o.dev < b.dev := fun b hb => by
        cases l with
        | nil => cases hb
        | cons y l =>
          have hy := h7 o rfl y (by simp)
          rcases List.mem_cons.1 hb with rfl | hb
          · exact hy
          · exact Int.lt_trans hy ((List.pairwise_cons.1 h5).1 b hb)
      refine ⟨⟨fun b hb => ?_, List.pairwise_cons.2 ⟨hd, h5⟩, List.pairwise_cons.2 ⟨fun b hb x hx r hr => h8 x (List.mem_append_right _ hx) b hb r hr, h6⟩⟩, fun q hq b hb => ?_, fun x hx b hb r hr => ?_⟩
      · rcases List.mem_cons.1 hb with rfl | hb
        · exact h1
        · exact h4 b hb
      · subst hb; subst hq; simpa using h2
      · rcases List.mem_cons.1 hb with rfl | hb
        · exact (hany r).1 (h3 r hr) x hx
        · exact h8 x (List.mem_append_left _ hx) b hb r hr
    · rintro ⟨⟨h1, h2, h3⟩, h4, h5⟩
      obtain ⟨h2a, h2b⟩ := List.pairwise_cons.1 h2
      obtain ⟨h3a, h3b⟩ := List.pairwise_cons.1 h3
      refine ⟨⟨⟨h1 o (by simp), ?_⟩, fun r hr => (hany r).2 fun x hx => h5 x hx o (by simp) r hr⟩, ⟨fun b hb => h1 b (by simp [hb]), h2b, h3b⟩, fun q hq b hb => ?_, fun x hx b hb r hr => ?_⟩
      · cases p with
        | none => rfl
        | some q => simpa using h4 q rfl o rfl
      · subst hq; exact h2a b (List.mem_of_mem_head? hb)
      · rcases List.mem_append.1 hx with hx | hx
        · exact h5 x hx b (by simp [hb]) r hr
        · exact h3a b hb x hx r hr
theorem canon_iff (s : Sc) (l : List Ow) : canonP s l = true ↔ CanonO s l := by
  unfold canonP
  rw [canonA_iff]
  exact ⟨fun h => h.1, fun h => ⟨h, fun q hq => (by cases hq), fun x hx => by cases hx⟩⟩
def sameB (a b : Rt) : Bool := ((decide (a.kind = b.kind) && decide (a.table = b.table)) && decide (a.col = b.col)) && (decide (a.kind ≠ 3) || decide (a.lo = b.lo))
def aheadB (a b : Rt) : Bool := if a.kind ≠ b.kind then decide (a.kind < b.kind) else if a.table ≠ b.table then decide (a.table < b.table) else if a.col ≠ b.col then decide (a.col < b.col) else decide (a.lo < b.lo)
theorem same_iff (a b : Rt) : sameB a b = true ↔ (a.kind = b.kind ∧ a.table = b.table ∧ a.col = b.col) ∧ (a.kind = 3 → a.lo = b.lo) := by
  unfold sameB
  by_cases h : a.kind = 3 <;> simp [h, and_assoc]
end Go.Proofs.Ytbcdgocepnkpeaa
