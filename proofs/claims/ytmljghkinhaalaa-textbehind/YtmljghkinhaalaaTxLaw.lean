import Derived.Test.YtmljghkinhaalaaTxHang
set_option linter.unusedSimpArgs false
set_option linter.unusedVariables false
namespace Go.Proofs.Ytmljghkinhaalaa
open Go Go.Abs
/-- Parts that are formed, of unlike names, and of one time for each dot. -/
structure Inv (l : List Pt) : Prop where
  formed : ∀ p ∈ l, formedP p = true
  nodup : (l.map nameOf).Nodup
  times : ∀ p ∈ l, ∀ q ∈ l, p.dot = q.dot → p.time = q.time
theorem inj_of_nodup {α β : Type} {g : α → β} : ∀ {l : List α}, (l.map g).Nodup → ∀ {a b}, a ∈ l → b ∈ l → g a = g b → a = b
  | [], _, _, _, h, _, _ => by cases h
  | x :: l, hn, a, b, ha, hb, e => by
    simp only [List.map_cons, List.nodup_cons] at hn
    rcases List.mem_cons.1 ha with ha | ha <;> rcases List.mem_cons.1 hb with hb | hb
    · rw [ha, hb]
    · exact (hn.1 (List.mem_map.2 ⟨b, hb, by rw [← e, ha]⟩)).elim
    · exact (hn.1 (List.mem_map.2 ⟨a, ha, by rw [e, hb]⟩)).elim
    · exact inj_of_nodup hn.2 ha hb e
theorem Inv.named {l : List Pt} (h : Inv l) : named l := fun _ ha _ hb e => inj_of_nodup h.nodup ha hb e
theorem snocInd {α : Type} {C : List α → Prop} (h0 : C []) (h1 : ∀ l p, C l → C (l ++ [p])) (l : List α) : C l := by
  have : ∀ r, C (List.reverse r) := fun r => by
    induction r with
    | nil => exact h0
    | cons p r ih => rw [List.reverse_cons]; exact h1 _ p ih
  have := this l.reverse
  rwa [List.reverse_reverse] at this
theorem fold_snoc {K V : Type} [DecidableEq K] (f : Pt → K) (g : Pt → V) (l : List Pt) (p : Pt) : (l ++ [p]).foldl (fun m p => mset (f p) (g p) m) [] = mset (f p) (g p) (l.foldl (fun m p => mset (f p) (g p) m) []) := by
  rw [List.foldl_append]; rfl
theorem fold_get {K V : Type} [DecidableEq K] (f : Pt → K) (g : Pt → V) (k : K) (l : List Pt) :
    (∀ v, mget k (l.foldl (fun m p => mset (f p) (g p) m) []) = some v → ∃ q ∈ l, f q = k ∧ g q = v) ∧ (mget k (l.foldl (fun m p => mset (f p) (g p) m) []) = none → ∀ q ∈ l, f q ≠ k) := by
  induction l using snocInd with
  | h0 => exact ⟨fun v h => (by cases h), fun _ q h => (by cases h)⟩
  | h1 l p ih =>
    rw [fold_snoc]
    refine ⟨fun v h => ?_, fun h q hq => ?_⟩
    · rw [mget_mset] at h
      split at h
      · rename_i e; injection h with h; exact ⟨p, by simp, e.symm, h⟩
      · obtain ⟨q, hq, h2⟩ := ih.1 v h; exact ⟨q, by simp [hq], h2⟩
    · rw [mget_mset] at h
      split at h
      · cases h
      · rename_i e
        rcases List.mem_append.1 hq with hq | hq
        · exact ih.2 h q hq
        · rw [List.mem_singleton.1 hq]; exact fun e' => e e'.symm
theorem there_get (l : List Pt) (k : Nm) : (∀ v, mget k (thereOf l) = some v → v ∈ l ∧ nameOf v = k) ∧ (mget k (thereOf l) = none → ∀ q ∈ l, nameOf q ≠ k) := by
  obtain ⟨h1, h2⟩ := fold_get nameOf id k l
  exact ⟨fun v hv => by obtain ⟨q, a, b, c⟩ := h1 v hv; exact ⟨c ▸ a, c ▸ b⟩, h2⟩
theorem times_get (l : List Pt) (k : Dt) : (∀ v, mget k (timesOf l) = some v → ∃ q ∈ l, q.dot = k ∧ q.time = v) ∧ (mget k (timesOf l) = none → ∀ q ∈ l, q.dot ≠ k) := fold_get (·.dot) (·.time) k l
theorem stepOK_iff {d : List Pt} (h : Inv d) (p : Pt) : stepOK (thereOf d) (timesOf d) p = true ↔ (∀ q ∈ d, nameOf q ≠ nameOf p) ∧ formedP p = true ∧ ∀ q ∈ d, q.dot = p.dot → q.time = p.time := by
  obtain ⟨a1, a2⟩ := there_get d (nameOf p)
  obtain ⟨b1, b2⟩ := times_get d p.dot
  unfold stepOK
  simp only [Bool.not_eq_true', Bool.or_eq_false_iff]
  constructor
  · rintro ⟨⟨h1, h2⟩, h3⟩
    refine ⟨a2 (by simpa using h1), by simpa using h2, fun q hq e => ?_⟩
    cases ht : mget p.dot (timesOf d) with
    | none => exact absurd e (b2 ht q hq)
    | some t =>
      rw [ht] at h3
      obtain ⟨r, hr, r1, r2⟩ := b1 t ht
      have : t = p.time := by simpa using h3
      rw [← this, ← r2]
      exact h.times q hq r hr (by rw [e, r1])
  · rintro ⟨h1, h2, h3⟩
    refine ⟨⟨?_, by simpa using h2⟩, ?_⟩
    · cases hm : mget (nameOf p) (thereOf d) with
      | none => rfl
      | some v => obtain ⟨c1, c2⟩ := a1 v hm; exact absurd c2 (h1 v c1)
    · cases ht : mget p.dot (timesOf d) with
      | none => rfl
      | some t => obtain ⟨r, hr, r1, r2⟩ := b1 t ht; simp [← r2, h3 r hr r1]
theorem Inv.snoc_iff {d : List Pt} (h : Inv d) (p : Pt) : Inv (d ++ [p]) ↔ (∀ q ∈ d, nameOf q ≠ nameOf p) ∧ formedP p = true ∧ ∀ q ∈ d, q.dot = p.dot → q.time = p.time := by
  constructor
  · intro k
    have hn := k.nodup
    rw [List.map_append, List.nodup_append] at hn
    exact ⟨fun q hq e => hn.2.2 _ (List.mem_map.2 ⟨q, hq, rfl⟩) _ (by simp) e, k.formed p (by simp), fun q hq e => k.times q (by simp [hq]) p (by simp) e⟩
  · rintro ⟨h1, h2, h3⟩
    refine ⟨fun q hq => ?_, ?_, fun a ha b hb e => ?_⟩
    · rcases List.mem_append.1 hq with hq | hq
      · exact h.formed q hq
      · rw [List.mem_singleton.1 hq]; exact h2
    · rw [List.map_append, List.nodup_append]
      refine ⟨h.nodup, by simp, fun a ha b hb e => ?_⟩
      obtain ⟨q, hq, rfl⟩ := List.mem_map.1 ha
      simp only [List.map_cons, List.map_nil, List.mem_singleton] at hb
      exact h1 q hq (e.trans hb)
    · rcases List.mem_append.1 ha with ha | ha <;> rcases List.mem_append.1 hb with hb | hb
      · exact h.times a ha b hb e
      · rw [List.mem_singleton.1 hb] at e ⊢; exact h3 a ha e
      · rw [List.mem_singleton.1 ha] at e ⊢; exact (h3 b hb e.symm).symm
      · rw [List.mem_singleton.1 ha, List.mem_singleton.1 hb]
theorem Inv.pre {d r : List Pt} (h : Inv (d ++ r)) : Inv d := by
  refine ⟨fun p hp => h.formed p (by simp [hp]), ?_, fun p hp q hq => h.times p (by simp [hp]) q (by simp [hq])⟩
  have := h.nodup
  rw [List.map_append, List.nodup_append] at this
  exact this.1
theorem wholeA_iff : ∀ (r d : List Pt), Inv d → (wholeA r (thereOf d) (timesOf d) = true ↔ Inv (d ++ r))
  | [], d, h => by simp [wholeA, h]
  | p :: r, d, h => by
    have e1 : mset (nameOf p) p (thereOf d) = thereOf (d ++ [p]) := (fold_snoc nameOf id d p).symm
    have e2 : mset p.dot p.time (timesOf d) = timesOf (d ++ [p]) := (fold_snoc (·.dot) (·.time) d p).symm
    rw [wholeA, Bool.and_eq_true, stepOK_iff h, ← h.snoc_iff, e1, e2]
    have e3 : d ++ p :: r = (d ++ [p]) ++ r := by simp
    constructor
    · rintro ⟨h1, h2⟩
      rw [e3]; exact (wholeA_iff r _ h1).1 h2
    · intro h1
      rw [e3] at h1
      exact ⟨h1.pre, (wholeA_iff r _ h1.pre).2 h1⟩
/-- Whole parts. -/
structure Whole (l : List Pt) : Prop extends Inv l where
  up : ∀ p ∈ l, parentOf p = Nm.zero ∨ ∃ u ∈ l, nameOf u = parentOf p ∧ aheadP u p = true
theorem wholeP_iff (l : List Pt) : wholeP l = true ↔ Whole l := by
  have h0 : Inv [] := ⟨fun _ h => (by cases h), List.nodup_nil, fun _ h => (by cases h)⟩
  unfold wholeP
  rw [Bool.and_eq_true, show wholeA l [] [] = wholeA l (thereOf []) (timesOf []) from rfl, wholeA_iff l [] h0, List.nil_append, List.all_eq_true]
  have hup : ∀ p, Inv l → (upOK (thereOf l) p = true ↔ (parentOf p = Nm.zero ∨ ∃ u ∈ l, nameOf u = parentOf p ∧ aheadP u p = true)) := fun p hI => by
    obtain ⟨a1, a2⟩ := there_get l (parentOf p)
    unfold upOK
    rw [Bool.or_eq_true, decide_eq_true_eq]
    refine or_congr Iff.rfl ?_
    cases hm : mget (parentOf p) (thereOf l) with
    | none => simp only [Bool.false_eq_true, false_iff]; rintro ⟨u, hu, e, _⟩; exact a2 hm u hu e
    | some v =>
      obtain ⟨c1, c2⟩ := a1 v hm
      constructor
      · intro h; exact ⟨v, c1, c2, h⟩
      · rintro ⟨u, hu, e, h⟩
        rw [hI.named v c1 u hu (by rw [c2, e])]; exact h
  constructor
  · rintro ⟨h1, h2⟩; exact ⟨h1, fun p hp => (hup p h1).1 (h2 p hp)⟩
  · intro h; exact ⟨h.toInv, fun p hp => (hup p h.toInv).2 (h.up p hp)⟩
instance (l : List Pt) : Decidable (Whole l) := decidable_of_iff _ (wholeP_iff l)
theorem ahead_iff (p q : Pt) : aheadP p q = true ↔ p.time < q.time ∨ p.time = q.time ∧ (p.dot.dev < q.dot.dev ∨ p.dot.dev = q.dot.dev ∧ (p.dot.seq < q.dot.seq ∨ p.dot.seq = q.dot.seq ∧ p.at_ < q.at_)) := by
  unfold aheadP
  rw [Bool.or_eq_true, lessS_iff, Bool.and_eq_true, decide_eq_true_eq, decide_eq_true_eq, Sp.ext_iff]
  simp only [stampOf]
  omega
theorem formed_name {p : Pt} (h : formedP p = true) : nameOf p ≠ Nm.zero := by
  intro e
  simp only [formedP, mayN, withinB, Bool.and_eq_true, decide_eq_true_eq] at h
  have h1 := h.1.2.1.1.1
  rw [e] at h1
  have h2 : (1 : Int) ≤ 0 := h1
  omega
theorem kid_up {l : List Pt} (h : Whole l) {u p : Pt} (hu : u ∈ l) (hp : p ∈ kids l (nameOf u)) : p ∈ l ∧ aheadP u p = true := by
  obtain ⟨h1, h2⟩ := List.mem_filter.1 hp
  have h2 : parentOf p = nameOf u := by simpa using h2
  refine ⟨h1, ?_⟩
  rcases h.up p h1 with e | ⟨v, hv, e, ha⟩
  · exact absurd (h2.symm.trans e) (formed_name (h.formed u hu))
  · rw [h.named u hu v hv (by rw [e, h2])]; exact ha
theorem filter_lt {l : List Pt} {f g : Pt → Bool} {a : Pt} (ha : a ∈ l) (hg : g a = true) (hf : f a = false) (hfg : ∀ q ∈ l, f q = true → g q = true) : (l.filter f).length < (l.filter g).length := by
  induction l with
  | nil => cases ha
  | cons x l ih =>
    have hle : (l.filter f).length ≤ (l.filter g).length := by
      clear ih ha
      induction l with
      | nil => simp
      | cons y l ih =>
        have := ih fun q hq => hfg q (by rcases List.mem_cons.1 hq with h | h <;> simp [h])
        rw [List.filter_cons, List.filter_cons]
        by_cases h1 : f y = true
        · rw [if_pos h1, if_pos (hfg y (by simp) h1)]; simp; omega
        · rw [if_neg h1]; split <;> simp <;> omega
    rw [List.filter_cons, List.filter_cons]
    rcases List.mem_cons.1 ha with e | ha
    · subst e; rw [if_pos hg, if_neg (by simp [hf])]; simp; omega
    · have := ih ha fun q hq => hfg q (by simp [hq])
      by_cases h1 : f x = true
      · rw [if_pos h1, if_pos (hfg x (by simp) h1)]; simp; omega
      · rw [if_neg h1]; split <;> simp <;> omega
theorem deep_of {l : List Pt} (h : Whole l) : ∀ (n : Nat) (u : Pt), u ∈ l → (l.filter (aheadP u)).length ≤ n → deep l n (nameOf u)
  | 0, u, hu, hn => by
    show kids l (nameOf u) = []
    cases hk : kids l (nameOf u) with
    | nil => rfl
    | cons p r =>
      obtain ⟨h1, h2⟩ := kid_up h hu (p := p) (by rw [hk]; simp)
      have : p ∈ l.filter (aheadP u) := List.mem_filter.2 ⟨h1, h2⟩
      rw [List.length_eq_zero_iff.1 (Nat.le_zero.1 hn)] at this
      cases this
  | n + 1, u, hu, hn => fun p hp => by
    obtain ⟨h1, h2⟩ := kid_up h hu hp
    refine deep_of h n p h1 ?_
    have : (l.filter (aheadP p)).length < (l.filter (aheadP u)).length := filter_lt (a := p) h1 h2 (by rw [← Bool.not_eq_true, ahead_iff]; omega) fun q _ hq => by
      rw [ahead_iff] at h2 hq ⊢; omega
    omega
theorem deep_top {l : List Pt} (h : Whole l) : deep l l.length Nm.zero := by
  cases hl : l.length with
  | zero => rw [List.length_eq_zero_iff.1 hl]; rfl
  | succ n =>
      intro p hp
      have hp := (List.mem_filter.1 hp).1
      refine deep_of h n p hp ?_
      have : (l.filter (aheadP p)).length < (l.filter fun _ => true).length := filter_lt hp rfl (by rw [← Bool.not_eq_true, ahead_iff]; omega) fun _ _ _ => rfl
      have e : (l.filter fun _ => true) = l := List.filter_eq_self.2 fun _ _ => rfl
      rw [e] at this
      omega
end Go.Proofs.Ytmljghkinhaalaa
