import Derived.Test.YtbcdgocepnkpeaaGreatRtHandA
set_option linter.unusedSimpArgs false
set_option linter.unusedVariables false
namespace Go.Proofs.YtbcdgocepnkpeaaGreat
open Go Go.Abs
set_option maxRecDepth 10000
set_option maxHeartbeats 2000000
/-- A number that is in one of the ranges. -/
def cvS (l : List Sn) (n : Int) : Prop := ∃ x ∈ l, x.lo ≤ n ∧ n < x.hi
theorem cvS_cons (x : Sn) (l : List Sn) (n : Int) : cvS (x :: l) n ↔ (x.lo ≤ n ∧ n < x.hi) ∨ cvS l n := by
  unfold cvS; simp
theorem cvS_nil (n : Int) : ¬ cvS [] n := fun ⟨_, h, _⟩ => by cases h
theorem cvS_append (l m : List Sn) (n : Int) : cvS (l ++ m) n ↔ cvS l n ∨ cvS m n := by
  unfold cvS
  constructor
  · rintro ⟨x, hx, h⟩
    rcases List.mem_append.1 hx with hx | hx
    · exact .inl ⟨x, hx, h⟩
    · exact .inr ⟨x, hx, h⟩
  · rintro (⟨x, hx, h⟩ | ⟨x, hx, h⟩)
    · exact ⟨x, List.mem_append_left _ hx, h⟩
    · exact ⟨x, List.mem_append_right _ hx, h⟩
theorem cvS_perm {l m : List Sn} (h : l.Perm m) (n : Int) : cvS l n ↔ cvS m n := by
  unfold cvS
  simp only [h.mem_iff]
theorem mergeA_cv (n : Int) : ∀ (l : List Sn) (x : Sn), (x :: l).Pairwise (fun a b => a.lo ≤ b.lo) → (cvS (mergeA x l) n ↔ cvS (x :: l) n)
  | [], _, _ => Iff.rfl
  | y :: l, x, h => by
    obtain ⟨h1, h2⟩ := List.pairwise_cons.1 h
    obtain ⟨h3, h4⟩ := List.pairwise_cons.1 h2
    have hxy := h1 y (by simp)
    rw [mergeA]
    split
    · rw [mergeA_cv n l ⟨x.lo, max x.hi y.hi⟩ (List.pairwise_cons.2 ⟨fun b hb => h1 b (List.mem_cons_of_mem _ hb), h4⟩)]
      simp only [cvS_cons]
      rw [← or_assoc]
      refine or_congr_left ?_
      omega
    · rw [cvS_cons, mergeA_cv n l y h2]
      simp only [cvS_cons]
theorem mergeA_ok : ∀ (l : List Sn) (x : Sn), (x :: l).Pairwise (fun a b => a.lo ≤ b.lo) → (∀ y ∈ x :: l, y.lo < y.hi) → (mergeA x l).Pairwise (fun a b => a.hi < b.lo) ∧ (∀ y ∈ mergeA x l, y.lo < y.hi ∧ x.lo ≤ y.lo)
  | [], x, _, h => by
    refine ⟨List.pairwise_singleton _ _, fun y hy => ?_⟩
    rw [mergeA, List.mem_singleton] at hy
    subst hy
    exact ⟨h y (by simp), Int.le_refl _⟩
  | y :: l, x, h, hn => by
    obtain ⟨h1, h2⟩ := List.pairwise_cons.1 h
    obtain ⟨h3, h4⟩ := List.pairwise_cons.1 h2
    have hxy := h1 y (by simp)
    have hx := hn x (by simp)
    rw [mergeA]
    split
    · obtain ⟨g1, g2⟩ := mergeA_ok l ⟨x.lo, max x.hi y.hi⟩ (List.pairwise_cons.2 ⟨fun b hb => h1 b (List.mem_cons_of_mem _ hb), h4⟩) (fun z hz => by
        rcases List.mem_cons.1 hz with rfl | hz
        · show x.lo < max x.hi y.hi; omega
        · exact hn z (by simp [hz]))
      exact ⟨g1, g2⟩
    · obtain ⟨g1, g2⟩ := mergeA_ok l y h2 (fun z hz => hn z (List.mem_cons_of_mem _ hz))
      refine ⟨List.pairwise_cons.2 ⟨fun z hz => by have := (g2 z hz).2; omega, g1⟩, fun z hz => ?_⟩
      rcases List.mem_cons.1 hz with rfl | hz
      · exact ⟨hx, Int.le_refl _⟩
      · have := g2 z hz; exact ⟨this.1, by omega⟩
theorem Joined.cv {l m : List Sn} (h : Joined l m) (n : Int) : cvS m n ↔ cvS l n := by
  obtain ⟨srt, hp, hs, rfl⟩ := h
  rw [← cvS_perm hp n]
  cases srt with
  | nil => rfl
  | cons x l => exact mergeA_cv n l x hs
theorem Joined.ok {l m : List Sn} (h : Joined l m) (hn : ∀ y ∈ l, y.lo < y.hi) : m.Pairwise (fun a b => a.hi < b.lo) ∧ ∀ y ∈ m, y.lo < y.hi := by
  obtain ⟨srt, hp, hs, rfl⟩ := h
  cases srt with
  | nil => exact ⟨List.Pairwise.nil, fun _ h => by cases h⟩
  | cons x l =>
    obtain ⟨g1, g2⟩ := mergeA_ok l x hs fun y hy => hn y (hp.mem_iff.1 hy)
    exact ⟨g1, fun y hy => (g2 y hy).1⟩
/-- Of a sorted list any two stand one way or the other. -/
theorem pw_tri {α : Type} {r : α → α → Prop} {l : List α} (h : l.Pairwise r) {a b : α} (ha : a ∈ l) (hb : b ∈ l) : a = b ∨ r a b ∨ r b a := by
  induction l with
  | nil => cases ha
  | cons x l ih =>
    obtain ⟨h1, h2⟩ := List.pairwise_cons.1 h
    rcases List.mem_cons.1 ha with e | ha'
    · rcases List.mem_cons.1 hb with q | hb'
      · exact .inl (e.trans q.symm)
      · exact .inr (.inl (by rw [e]; exact h1 _ hb'))
    · rcases List.mem_cons.1 hb with q | hb'
      · exact .inr (.inr (by rw [q]; exact h1 _ ha'))
      · exact ih h2 ha' hb'
/-- A sorted list is known by its members. -/
theorem pw_ext {α : Type} {r : α → α → Prop} : ∀ {l m : List α}, l.Pairwise r → m.Pairwise r → (∀ a ∈ l, ∀ b ∈ l, r a b → ¬ r b a) → (∀ x, x ∈ l ↔ x ∈ m) → l = m
  | [], [], _, _, _, _ => rfl
  | [], b :: m, _, _, _, h => by have := (h b).2 (by simp); cases this
  | a :: l, [], _, _, _, h => by have := (h a).1 (by simp); cases this
  | a :: l, b :: m, hl, hm, has, h => by
    obtain ⟨l1, l2⟩ := List.pairwise_cons.1 hl
    obtain ⟨m1, m2⟩ := List.pairwise_cons.1 hm
    have e : a = b := by
      apply Classical.byContradiction
      intro hne
      have h1 : a ∈ m := by
        rcases List.mem_cons.1 ((h a).1 (by simp)) with q | q
        · exact absurd q hne
        · exact q
      have h2 : b ∈ l := by
        rcases List.mem_cons.1 ((h b).2 (by simp)) with q | q
        · exact absurd q.symm hne
        · exact q
      exact has a (by simp) b (by simp [h2]) (l1 b h2) (m1 a h1)
    subst e
    have irr : ¬ r a a := fun q => has a (by simp) a (by simp) q q
    congr 1
    refine pw_ext l2 m2 (fun x hx y hy => has x (by simp [hx]) y (by simp [hy])) fun x => ?_
    constructor
    · intro hx
      rcases List.mem_cons.1 ((h x).1 (by simp [hx])) with q | q
      · subst q; exact absurd (l1 x hx) irr
      · exact q
    · intro hx
      rcases List.mem_cons.1 ((h x).2 (by simp [hx])) with q | q
      · subst q; exact absurd (m1 x hx) irr
      · exact q
/-- A number that is held of a thing. -/
def cvR (R : List Rt) (k : Of) (n : Int) : Prop := ∃ r ∈ R, r.kind ≠ 3 ∧ keyS r = k ∧ r.lo ≤ n ∧ n < r.hi
/-- An amount. -/
def amL : List Rt → Of → Int
  | [], _ => 0
  | r :: l, k => if r.kind = 3 ∧ keyA r = k then r.amt else amL l k
structure NF (R : List Rt) : Prop where
  srt : R.Pairwise bh
  span : ∀ r ∈ R, r.kind ≠ 3 → r.lo < r.hi ∧ r.amt = 0
  sum : ∀ r ∈ R, r.kind = 3 → r.hi = 0 ∧ r.amt ≠ 0
theorem NF.nil : NF [] := ⟨List.Pairwise.nil, fun _ h => (by cases h), fun _ h => by cases h⟩
theorem keyS_iff (r x : Rt) : keyS r = keyS x ↔ r.kind = x.kind ∧ r.table = x.table ∧ r.col = x.col := by
  unfold keyS; simp
theorem keyA_iff (r x : Rt) : keyA r = keyA x ↔ r.kind = x.kind ∧ r.table = x.table ∧ r.col = x.col ∧ r.lo = x.lo := by
  unfold keyA; simp
theorem NF.asym {R : List Rt} (h : NF R) : ∀ a ∈ R, ∀ b ∈ R, bh a b → ¬ bh b a := fun a ha b hb h1 h2 => by
  have s1 := h.span a ha
  have s2 := h.span b hb
  unfold bh at *
  by_cases h3 : a.kind = 3
  · omega
  · have := s1 h3
    by_cases h4 : b.kind = 3
    · omega
    · have := s2 h4; omega
theorem NF.tail {r : Rt} {R : List Rt} (h : NF (r :: R)) : NF R :=
  ⟨(List.pairwise_cons.1 h.srt).2, fun x hx => h.span x (List.mem_cons_of_mem _ hx), fun x hx => h.sum x (List.mem_cons_of_mem _ hx)⟩
theorem NF.span_out {R : List Rt} (h : NF R) {r : Rt} (hr : r ∈ R) (h3 : r.kind ≠ 3) : ¬ cvR R (keyS r) (r.lo - 1) ∧ ¬ cvR R (keyS r) r.hi := by
  have h1 := h.span r hr h3
  constructor
  · rintro ⟨x, hx, x3, xk, a, b⟩
    have h2 := h.span x hx x3
    obtain ⟨k1, k2, k3⟩ := (keyS_iff _ _).1 xk
    rcases pw_tri h.srt hr hx with e | e | e
    · subst e; omega
    · unfold bh at e; omega
    · unfold bh at e; omega
  · rintro ⟨x, hx, x3, xk, a, b⟩
    have h2 := h.span x hx x3
    obtain ⟨k1, k2, k3⟩ := (keyS_iff _ _).1 xk
    rcases pw_tri h.srt hr hx with e | e | e
    · subst e; omega
    · unfold bh at e; omega
    · unfold bh at e; omega
theorem NF.mem_span {R : List Rt} (h : NF R) {r : Rt} (h3 : r.kind ≠ 3) : r ∈ R ↔ r.amt = 0 ∧ r.lo < r.hi ∧ (∀ n, r.lo ≤ n → n < r.hi → cvR R (keyS r) n) ∧ ¬ cvR R (keyS r) (r.lo - 1) ∧ ¬ cvR R (keyS r) r.hi := by
  constructor
  · intro hr
    have h1 := h.span r hr h3
    have h2 := h.span_out hr h3
    exact ⟨h1.2, h1.1, fun n a b => ⟨r, hr, h3, rfl, a, b⟩, h2.1, h2.2⟩
  · rintro ⟨a1, a2, a3, a4, a5⟩
    obtain ⟨x, hx, x3, xk, x1, x2⟩ := a3 r.lo (Int.le_refl _) a2
    have h1 := h.span x hx x3
    have h2 := h.span_out hx x3
    rw [xk] at h2
    have e1 : x.lo = r.lo := by
      apply Decidable.byContradiction; intro hne
      exact a4 ⟨x, hx, x3, xk, by omega, by omega⟩
    have e2 : x.hi = r.hi := by
      rcases Int.lt_trichotomy x.hi r.hi with q | q | q
      · exact absurd (a3 x.hi (by omega) q) h2.2
      · exact q
      · exact absurd ⟨x, hx, x3, xk, by omega, q⟩ a5
    obtain ⟨k1, k2, k3⟩ := (keyS_iff _ _).1 xk
    have : x = r := (Rt.ext_iff _ _).2 ⟨k1, k2, k3, e1, e2, by rw [h1.2, a1]⟩
    rw [← this]; exact hx
theorem amL_none {R : List Rt} {k : Of} (h : ∀ r ∈ R, r.kind = 3 → keyA r ≠ k) : amL R k = 0 := by
  induction R with
  | nil => rfl
  | cons r R ih =>
    rw [amL, if_neg (fun q => h r (by simp) q.1 q.2)]
    exact ih fun x hx => h x (List.mem_cons_of_mem _ hx)
theorem amL_some {R : List Rt} {k : Of} (h : amL R k ≠ 0) : ∃ r ∈ R, r.kind = 3 ∧ keyA r = k ∧ r.amt = amL R k := by
  induction R with
  | nil => exact absurd rfl h
  | cons r R ih =>
    rw [amL] at h ⊢
    split at h
    · rename_i q
      rw [if_pos q]
      exact ⟨r, by simp, q.1, q.2, rfl⟩
    · rename_i q
      rw [if_neg q]
      obtain ⟨x, hx, e⟩ := ih h
      exact ⟨x, List.mem_cons_of_mem _ hx, e⟩
theorem bh_keyA {a b : Rt} (h : bh a b) (ha : a.kind = 3) : keyA a ≠ keyA b := fun e => by
  obtain ⟨k1, k2, k3, k4⟩ := (keyA_iff _ _).1 e
  unfold bh at h; omega
theorem amL_of {R : List Rt} (h : NF R) {r : Rt} (hr : r ∈ R) (h3 : r.kind = 3) : amL R (keyA r) = r.amt := by
  induction R with
  | nil => cases hr
  | cons x R ih =>
    rcases List.mem_cons.1 hr with e | hr
    · subst e; rw [amL, if_pos ⟨h3, rfl⟩]
    · rw [amL, if_neg, ih h.tail hr]
      rintro ⟨q1, q2⟩
      exact bh_keyA ((List.pairwise_cons.1 h.srt).1 r hr) q1 q2
theorem NF.mem_sum {R : List Rt} (h : NF R) {r : Rt} (h3 : r.kind = 3) : r ∈ R ↔ r.hi = 0 ∧ r.amt ≠ 0 ∧ amL R (keyA r) = r.amt := by
  constructor
  · intro hr
    have := h.sum r hr h3
    exact ⟨this.1, this.2, amL_of h hr h3⟩
  · rintro ⟨a1, a2, a3⟩
    obtain ⟨x, hx, x3, xk, xa⟩ := amL_some (R := R) (k := keyA r) (by rw [a3]; exact a2)
    have h1 := h.sum x hx x3
    obtain ⟨k1, k2, k3, k4⟩ := (keyA_iff _ _).1 xk
    have : x = r := (Rt.ext_iff _ _).2 ⟨k1, k2, k3, k4, by rw [h1.1, a1], by rw [xa, a3]⟩
    rw [← this]; exact hx
theorem NF.ext {R R' : List Rt} (h : NF R) (h' : NF R') (hc : ∀ k n, cvR R k n ↔ cvR R' k n) (ha : ∀ k, amL R k = amL R' k) : R = R' := by
  refine pw_ext h.srt h'.srt h.asym fun r => ?_
  by_cases h3 : r.kind = 3
  · rw [h.mem_sum h3, h'.mem_sum h3, ha]
  · rw [h.mem_span h3, h'.mem_span h3]
    simp only [hc]
def rtsOf : List Ow → Int → List Rt
  | [], _ => []
  | w :: o, d => if w.dev = d then w.rights else rtsOf o d
/-- Owns in order. -/
structure NFO (o : List Ow) : Prop where
  devs : o.Pairwise fun a b => a.dev < b.dev
  some_ : ∀ w ∈ o, w.rights ≠ []
  nf : ∀ w ∈ o, NF w.rights
theorem rtsOf_none {o : List Ow} {d : Int} (h : ∀ w ∈ o, w.dev ≠ d) : rtsOf o d = [] := by
  induction o with
  | nil => rfl
  | cons w o ih => rw [rtsOf, if_neg (h w (by simp))]; exact ih fun x hx => h x (List.mem_cons_of_mem _ hx)
theorem rtsOf_mem {o : List Ow} (hp : o.Pairwise fun a b => a.dev < b.dev) {w : Ow} (h : w ∈ o) : rtsOf o w.dev = w.rights := by
  induction o with
  | nil => cases h
  | cons x o ih =>
    obtain ⟨h1, h2⟩ := List.pairwise_cons.1 hp
    rcases List.mem_cons.1 h with rfl | h
    · rw [rtsOf, if_pos rfl]
    · have := h1 w h
      rw [rtsOf, if_neg (by omega)]; exact ih h2 h
theorem rtsOf_some {o : List Ow} {d : Int} (h : rtsOf o d ≠ []) : ∃ w ∈ o, w.dev = d ∧ rtsOf o d = w.rights := by
  induction o with
  | nil => exact absurd rfl h
  | cons x o ih =>
    rw [rtsOf] at h ⊢
    split at h
    · rename_i e; rw [if_pos e]; exact ⟨x, by simp, e, rfl⟩
    · rename_i e
      rw [if_neg e]
      obtain ⟨w, hw, q⟩ := ih h
      exact ⟨w, List.mem_cons_of_mem _ hw, q⟩
theorem NFO.get {o : List Ow} (h : NFO o) (d : Int) : NF (rtsOf o d) := by
  by_cases hq : rtsOf o d = []
  · rw [hq]; exact NF.nil
  · obtain ⟨w, hw, _, e⟩ := rtsOf_some hq
    rw [e]; exact h.nf w hw
theorem NFO.ext {o o' : List Ow} (h : NFO o) (h' : NFO o') (hr : ∀ d, rtsOf o d = rtsOf o' d) : o = o' := by
  have key : ∀ {a b : List Ow}, NFO a → NFO b → (∀ d, rtsOf a d = rtsOf b d) → ∀ x, x ∈ a → x ∈ b := fun {a b} ha hb he x hx => by
    have h1 := rtsOf_mem ha.devs hx
    rw [he] at h1
    obtain ⟨w, hw, e1, e2⟩ := rtsOf_some (o := b) (d := x.dev) (by rw [h1]; exact ha.some_ x hx)
    have : w = x := (Ow.ext_iff _ _).2 ⟨e1, by rw [← e2, h1]⟩
    rw [← this]; exact hw
  refine pw_ext h.devs h'.devs (fun a _ b _ h1 h2 => by omega) fun x => ⟨key h h' hr x, key h' h (fun d => (hr d).symm) x⟩
theorem NFO.ext2 {o o' : List Ow} (h : NFO o) (h' : NFO o') (hc : ∀ d k n, cvR (rtsOf o d) k n ↔ cvR (rtsOf o' d) k n) (ha : ∀ d k, amL (rtsOf o d) k = amL (rtsOf o' d) k) : o = o' :=
  h.ext h' fun d => (h.get d).ext (h'.get d) (hc d) (ha d)
theorem CanonO.nfo {s : Sc} {o : List Ow} (h : CanonO s o) : NFO o :=
  ⟨h.devs, fun w hw => (h.own w hw).some_, fun w hw => ⟨(h.own w hw).srt, fun r hr h3 => by
    obtain ⟨_, a, _, b⟩ := ((h.own w hw).rts r hr).span h3
    exact ⟨a, b⟩, fun r hr h3 => by
    obtain ⟨_, a, _, b, _⟩ := ((h.own w hw).rts r hr).sum h3
    exact ⟨a, b⟩⟩⟩
end Go.Proofs.YtbcdgocepnkpeaaGreat
