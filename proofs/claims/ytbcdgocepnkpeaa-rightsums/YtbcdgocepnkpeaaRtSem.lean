import Derived.Test.YtbcdgocepnkpeaaRtHandS
set_option linter.unusedSimpArgs false
set_option linter.unusedVariables false
namespace Go.Proofs.Ytbcdgocepnkpeaa
open Go Go.Abs
set_option maxRecDepth 10000
set_option maxHeartbeats 2000000
def cvS (l : List Sn) (n : Int) : Prop := ∃ x ∈ l, x.lo ≤ n ∧ n < x.hi
theorem cvS_cons (x : Sn) (l : List Sn) (n : Int) : cvS (x :: l) n ↔ (x.lo ≤ n ∧ n < x.hi) ∨ cvS l n := by
  unfold cvS; simp
theorem cvS_nil (n : Int) : ¬ cvS [] n := fun ⟨_, h, _⟩ => by cases h
theorem cvS_append (l m : List Sn) (n : Int) : cvS (l ++ m) n ↔ cvS l n ∨ cvS m n := by
  unfold cvS
  constructor
  · rintro ⟨x, hx, h⟩
    rcases List.mem_append.1 hx with hx | hx
    · exact .inl ⟨x, hx, h⟩
    · exact .inr ⟨x, hx, h⟩
  · rintro (⟨x, hx, h⟩ | ⟨x, hx, h⟩)
    · exact ⟨x, List.mem_append_left _ hx, h⟩
    · exact ⟨x, List.mem_append_right _ hx, h⟩
theorem cvS_perm {l m : List Sn} (h : l.Perm m) (n : Int) : cvS l n ↔ cvS m n := by
  unfold cvS
  simp only [h.mem_iff]
theorem mergeA_cv (n : Int) : ∀ (l : List Sn) (x : Sn), (x :: l).Pairwise (fun a b => a.lo ≤ b.lo) → (cvS (mergeA x l) n ↔ cvS (x :: l) n)
  | [], _, _ => Iff.rfl
  | y :: l, x, h => by
    obtain ⟨h1, h2⟩ := List.pairwise_cons.1 h
    obtain ⟨h3, h4⟩ := List.pairwise_cons.1 h2
    have hxy := h1 y (by simp)
    rw [mergeA]
    split
    · rw [mergeA_cv n l ⟨x.lo, max x.hi y.hi⟩ (List.pairwise_cons.2 ⟨fun b hb => h1 b (List.mem_cons_of_mem _ hb), h4⟩)]
      simp only [cvS_cons]
      rw [← or_assoc]
      refine or_congr_left ?_
      omega
    · rw [cvS_cons, mergeA_cv n l y h2]
      simp only [cvS_cons]
theorem mergeA_ok : ∀ (l : List Sn) (x : Sn), (x :: l).Pairwise (fun a b => a.lo ≤ b.lo) → (∀ y ∈ x :: l, y.lo < y.hi) → (mergeA x l).Pairwise (fun a b => a.hi < b.lo) ∧ (∀ y ∈ mergeA x l, y.lo < y.hi ∧ x.lo ≤ y.lo)
  | [], x, _, h => by
    refine ⟨List.pairwise_singleton _ _, fun y hy => ?_⟩
    rw [mergeA, List.mem_singleton] at hy
    subst hy
    exact ⟨h y (by simp), Int.le_refl _⟩
  | y :: l, x, h, hn => by
    obtain ⟨h1, h2⟩ := List.pairwise_cons.1 h
    obtain ⟨h3, h4⟩ := List.pairwise_cons.1 h2
    have hxy := h1 y (by simp)
    have hx := hn x (by simp)
    rw [mergeA]
    split
    · obtain ⟨g1, g2⟩ := mergeA_ok l ⟨x.lo, max x.hi y.hi⟩ (List.pairwise_cons.2 ⟨fun b hb => h1 b (List.mem_cons_of_mem _ hb), h4⟩) (fun z hz => by
        rcases List.mem_cons.1 hz with rfl | hz
        · show x.lo < max x.hi y.hi; omega
        · exact hn z (by simp [hz]))
      exact ⟨g1, g2⟩
    · obtain ⟨g1, g2⟩ := mergeA_ok l y h2 (fun z hz => hn z (List.mem_cons_of_mem _ hz))
      refine ⟨List.pairwise_cons.2 ⟨fun z hz => by have := (g2 z hz).2; omega, g1⟩, fun z hz => ?_⟩
      rcases List.mem_cons.1 hz with rfl | hz
      · exact ⟨hx, Int.le_refl _⟩
      · have := g2 z hz; exact ⟨this.1, by omega⟩
theorem Joined.cv {l m : List Sn} (h : Joined l m) (n : Int) : cvS m n ↔ cvS l n := by
  obtain ⟨srt, hp, hs, rfl⟩ := h
  rw [← cvS_perm hp n]
  cases srt with
  | nil => rfl
  | cons x l => exact mergeA_cv n l x hs
theorem Joined.ok {l m : List Sn} (h : Joined l m) (hn : ∀ y ∈ l, y.lo < y.hi) : m.Pairwise (fun a b => a.hi < b.lo) ∧ ∀ y ∈ m, y.lo < y.hi := by
  obtain ⟨srt, hp, hs, rfl⟩ := h
  cases srt with
  | nil => exact ⟨List.Pairwise.nil, fun _ h => by cases h⟩
  | cons x l =>
    obtain ⟨g1, g2⟩ := mergeA_ok l x hs fun y hy => hn y (hp.mem_iff.1 hy)
    exact ⟨g1, fun y hy => (g2 y hy).1⟩
theorem pw_tri {α : Type} {r : α → α → Prop} {l : List α} (h : l.Pairwise r) {a b : α} (ha : a ∈ l) (hb : b ∈ l) : a = b ∨ r a b ∨ r b a := by
  induction l with
  | nil => cases ha
  | cons x l ih =>
    obtain ⟨h1, h2⟩ := List.pairwise_cons.1 h
    rcases List.mem_cons.1 ha with e | ha'
    · rcases List.mem_cons.1 hb with q | hb'
      · exact .inl (e.trans q.symm)
      · exact .inr (.inl (by rw [e]; exact h1 _ hb'))
    · rcases List.mem_cons.1 hb with q | hb'
      · exact .inr (.inr (by rw [q]; exact h1 _ ha'))
      · exact ih h2 ha' hb'
theorem pw_ext {α : Type} {r : α → α → Prop} : ∀ {l m : List α}, l.Pairwise r → m.Pairwise r → (∀ a ∈ l, ∀ b ∈ l, r a b → ¬ r b a) → (∀ x, x ∈ l ↔ x ∈ m) → l = m
  | [], [], _, _, _, _ => rfl
  | [], b :: m, _, _, _, h => by have := (h b).2 (by simp); cases this
  | a :: l, [], _, _, _, h => by have := (h a).1 (by simp); cases this
  | a :: l, b :: m, hl, hm, has, h => by
    obtain ⟨l1, l2⟩ := List.pairwise_cons.1 hl
    obtain ⟨m1, m2⟩ := List.pairwise_cons.1 hm
    have e : a = b := by
      apply Classical.byContradiction
      intro hne
      have h1 : a ∈ m := by
        rcases List.mem_cons.1 ((h a).1 (by simp)) with q | q
        · exact absurd q hne
        · exact q
      have h2 : b ∈ l := by
        rcases List.mem_cons.1 ((h b).2 (by simp)) with q | q
        · exact absurd q.symm hne
        · exact q
      exact has a (by simp) b (by simp [h2]) (l1 b h2) (m1 a h1)
    subst e
    have irr : ¬ r a a := fun q => has a (by simp) a (by simp) q q
    congr 1
    refine pw_ext l2 m2 (fun x hx y hy => has x (by simp [hx]) y (by simp [hy])) fun x => ?_
    constructor
    · intro hx
      rcases List.mem_cons.1 ((h x).1 (by simp [hx])) with q | q
      · subst q; exact absurd (l1 x hx) irr
      · exact q
    · intro hx
      rcases List.mem_cons.1 ((h x).2 (by simp [hx])) with q | q
      · subst q; exact absurd (m1 x hx) irr
      · exact q
def cvR (R : List Rt) (k : Of) (n : Int) : Prop := ∃ r ∈ R, r.kind ≠ 3 ∧ keyS r = k ∧ r.lo ≤ n ∧ n < r.hi
def amL : List Rt → Of → Int
  | [], _ => 0
  | r :: l, k => if r.kind = 3 ∧ keyA r = k then r.amt else amL l k
structure NF (R : List Rt) : Prop where
  srt : R.Pairwise bh
  span : ∀ r ∈ R, r.kind ≠ 3 → r.lo < r.hi ∧ r.amt = 0
  sum : ∀ r ∈ R, r.kind = 3 → r.hi = 0 ∧ r.amt ≠ 0
theorem NF.nil : NF [] := ⟨List.Pairwise.nil, fun _ h => (by cases h), fun _ h => by cases h⟩
theorem keyS_iff (r x : Rt) : keyS r = keyS x ↔ r.kind = x.kind ∧ r.table = x.table ∧ r.col = x.col := by
  unfold keyS; simp
theorem keyA_iff (r x : Rt) : keyA r = keyA x ↔ r.kind = x.kind ∧ r.table = x.table ∧ r.col = x.col ∧ r.lo = x.lo := by
  unfold keyA; simp
theorem NF.asym {R : List Rt} (h : NF R) : ∀ a ∈ R, ∀ b ∈ R, bh a b → ¬ bh b a := fun a ha b hb h1 h2 => by
  have s1 := h.span a ha
  have s2 := h.span b hb
  unfold bh at *
  by_cases h3 : a.kind = 3
  · omega
  · have := s1 h3
    by_cases h4 : b.kind = 3
    · omega
    · have := s2 h4; omega
theorem NF.tail {r : Rt} {R : List Rt} (h : NF (r :: R)) : NF R :=
  ⟨(List.pairwise_cons.1 h.srt).2, fun x hx => h.span x (List.mem_cons_of_mem _ hx), fun x hx => h.sum x (List.mem_cons_of_mem _ hx)⟩
theorem NF.span_out {R : List Rt} (h : NF R) {r : Rt} (hr : r ∈ R) (h3 : r.kind ≠ 3) : ¬ cvR R (keyS r) (r.lo - 1) ∧ ¬ cvR R (keyS r) r.hi := by
  have h1 := h.span r hr h3
  constructor
  · rintro ⟨x, hx, x3, xk, a, b⟩
    have h2 := h.span x hx x3
    obtain ⟨k1, k2, k3⟩ := (keyS_iff _ _).1 xk
    rcases pw_tri h.srt hr hx with e | e | e
    · subst e; omega
    · unfold bh at e; omega
    · unfold bh at e; omega
  · rintro ⟨x, hx, x3, xk, a, b⟩
    have h2 := h.span x hx x3
    obtain ⟨k1, k2, k3⟩ := (keyS_iff _ _).1 xk
    rcases pw_tri h.srt hr hx with e | e | e
    · subst e; omega
    · unfold bh at e; omega
    · unfold bh at e; omega
theorem NF.mem_span {R : List Rt} (h : NF R) {r : Rt} (h3 : r.kind ≠ 3) : r ∈ R ↔ r.amt = 0 ∧ r.lo < r.hi ∧ (∀ n, r.lo ≤ n → n < r.hi → cvR R (keyS r) n) ∧ ¬ cvR R (keyS r) (r.lo - 1) ∧ ¬ cvR R (keyS r) r.hi := by
  constructor
  · intro hr
    have h1 := h.span r hr h3
    have h2 := h.span_out hr h3
    exact ⟨h1.2, h1.1, fun n a b => ⟨r, hr, h3, rfl, a, b⟩, h2.1, h2.2⟩
  · rintro ⟨a1, a2, a3, a4, a5⟩
    obtain ⟨x, hx, x3, xk, x1, x2⟩ := a3 r.lo (Int.le_refl _) a2
    have h1 := h.span x hx x3
    have h2 := h.span_out hx x3
    rw [xk] at h2
    have e1 : x.lo = r.lo := by
      apply Decidable.byContradiction; intro hne
      exact a4 ⟨x, hx, x3, xk, by omega, by omega⟩
    have e2 : x.hi = r.hi := by
      rcases Int.lt_trichotomy x.hi r.hi with q | q | q
      · exact absurd (a3 x.hi (by omega) q) h2.2
      · exact q
      · exact absurd ⟨x, hx, x3, xk, by omega, q⟩ a5
    obtain ⟨k1, k2, k3⟩ := (keyS_iff _ _).1 xk
    have : x = r := (Rt.ext_iff _ _).2 ⟨k1, k2, k3, e1, e2, by rw [h1.2, a1]⟩
    rw [← this]; exact hx
theorem amL_none {R : List Rt} {k : Of} (h : ∀ r ∈ R, r.kind = 3 → keyA r ≠ k) : amL R k = 0 := by
  induction R with
  | nil => rfl
  | cons r R ih =>
    rw [amL, if_neg (fun q => h r (by simp) q.1 q.2)]
    exact ih fun x hx => h x (List.mem_cons_of_mem _ hx)
theorem amL_some {R : List Rt} {k : Of} (h : amL R k ≠ 0) : ∃ r ∈ R, r.kind = 3 ∧ keyA r = k ∧ r.amt = amL R k := by
  induction R with
  | nil => exact absurd rfl h
  | cons r R ih =>
    rw [amL] at h ⊢
    split at h
    · rename_i q
      rw [if_pos q]
      exact ⟨r, by simp, q.1, q.2, rfl⟩
    · rename_i q
      rw [if_neg q]
      obtain ⟨x, hx, e⟩ := ih h
      exact ⟨x, List.mem_cons_of_mem _ hx, e⟩
theorem bh_keyA {a b : Rt} (h : bh a b) (ha : a.kind = 3) : keyA a ≠ keyA b := fun e => by
  obtain ⟨k1, k2, k3, k4⟩ := (keyA_iff _ _).1 e
  unfold bh at h; omega
theorem amL_of {R : List Rt} (h : NF R) {r : Rt} (hr : r ∈ R) (h3 : r.kind = 3) : amL R (keyA r) = r.amt := by
  induction R with
  | nil => cases hr
  | cons x R ih =>
    rcases List.mem_cons.1 hr with e | hr
    · subst e; rw [amL, if_pos ⟨h3, rfl⟩]
    · rw [amL, if_neg, ih h.tail hr]
      rintro ⟨q1, q2⟩
      exact bh_keyA ((List.pairwise_cons.1 h.srt).1 r hr) q1 q2
theorem NF.mem_sum {R : List Rt} (h : NF R) {r : Rt} (h3 : r.kind = 3) : r ∈ R ↔ r.hi = 0 ∧ r.amt ≠ 0 ∧ amL R (keyA r) = r.amt := by
  constructor
  · intro hr
    have := h.sum r hr h3
    exact ⟨this.1, this.2, amL_of h hr h3⟩
  · rintro ⟨a1, a2, a3⟩
    obtain ⟨x, hx, x3, xk, xa⟩ := amL_some (R := R) (k := keyA r) (by rw [a3]; exact a2)
    have h1 := h.sum x hx x3
    obtain ⟨k1, k2, k3, k4⟩ := (keyA_iff _ _).1 xk
    have : x = r := (Rt.ext_iff _ _).2 ⟨k1, k2, k3, k4, by rw [h1.1, a1], by rw [xa, a3]⟩
    rw [← this]; exact hx
theorem NF.ext {R R' : List Rt} (h : NF R) (h' : NF R') (hc : ∀ k n, cvR R k n ↔ cvR R' k n) (ha : ∀ k, amL R k = amL R' k) : R = R' := by
  refine pw_ext h.srt h'.srt h.asym fun r => ?_
  by_cases h3 : r.kind = 3
  · rw [h.mem_sum h3, h'.mem_sum h3, ha]
  · rw [h.mem_span h3, h'.mem_span h3]
    simp only [hc]
def rtsOf : List Ow → Int → List Rt
  | [], _ => []
  | w :: o, d => if w.dev = d then w.rights else rtsOf o d
structure NFO (o : List Ow) : Prop where
  devs : o.Pairwise fun a b => a.dev < b.dev
  some_ : ∀ w ∈ o, w.rights ≠ []
  nf : ∀ w ∈ o, NF w.rights
theorem rtsOf_none {o : List Ow} {d : Int} (h : ∀ w ∈ o, w.dev ≠ d) : rtsOf o d = [] := by
  induction o with
  | nil => rfl
  | cons w o ih => rw [rtsOf, if_neg (h w (by simp))]; exact ih fun x hx => h x (List.mem_cons_of_mem _ hx)
theorem rtsOf_mem {o : List Ow} (hp : o.Pairwise fun a b => a.dev < b.dev) {w : Ow} (h : w ∈ o) : rtsOf o w.dev = w.rights := by
  induction o with
  | nil => cases h
  | cons x o ih =>
    obtain ⟨h1, h2⟩ := List.pairwise_cons.1 hp
    rcases List.mem_cons.1 h with rfl | h
    · rw [rtsOf, if_pos rfl]
    · have := h1 w h
      rw [rtsOf, if_neg (by omega)]; exact ih h2 h
theorem rtsOf_some {o : List Ow} {d : Int} (h : rtsOf o d ≠ []) : ∃ w ∈ o, w.dev = d ∧ rtsOf o d = w.rights := by
  induction o with
  | nil => exact absurd rfl h
  | cons x o ih =>
    rw [rtsOf] at h ⊢
    split at h
    · rename_i e; rw [if_pos e]; exact ⟨x, by simp, e, rfl⟩
    · rename_i e
      rw [if_neg e]
      obtain ⟨w, hw, q⟩ := ih h
      exact ⟨w, List.mem_cons_of_mem _ hw, q⟩
theorem NFO.get {o : List Ow} (h : NFO o) (d : Int) : NF (rtsOf o d) := by
  by_cases hq : rtsOf o d = []
  · rw [hq]; exact NF.nil
  · obtain ⟨w, hw, _, e⟩ := rtsOf_some hq
    rw [e]; exact h.nf w hw
theorem NFO.ext {o o' : List Ow} (h : NFO o) (h' : NFO o') (hr : ∀ d, rtsOf o d = rtsOf o' d) : o = o' := by
  have key : ∀ {a b : List Ow}, NFO a → NFO b → (∀ d, rtsOf a d = rtsOf b d) → ∀ x, x ∈ a → x ∈ b := fun {a b} ha hb he x hx => by
    have h1 := rtsOf_mem ha.devs hx
    rw [he] at h1
    obtain ⟨w, hw, e1, e2⟩ := rtsOf_some (o := b) (d := x.dev) (by rw [h1]; exact ha.some_ x hx)
    have : w = x := (Ow.ext_iff _ _).2 ⟨e1, by rw [← e2, h1]⟩
    rw [← this]; exact hw
  refine pw_ext h.devs h'.devs (fun a _ b _ h1 h2 => by omega) fun x => ⟨key h h' hr x, key h' h (fun d => (hr d).symm) x⟩
theorem NFO.ext2 {o o' : List Ow} (h : NFO o) (h' : NFO o') (hc : ∀ d k n, cvR (rtsOf o d) k n ↔ cvR (rtsOf o' d) k n) (ha : ∀ d k, amL (rtsOf o d) k = amL (rtsOf o' d) k) : o = o' :=
  h.ext h' fun d => (h.get d).ext (h'.get d) (hc d) (ha d)
theorem CanonO.nfo {s : Sc} {o : List Ow} (h : CanonO s o) : NFO o :=
  ⟨h.devs, fun w hw => (h.own w hw).some_, fun w hw => ⟨(h.own w hw).srt, fun r hr h3 => by
    obtain ⟨_, a, _, b⟩ := ((h.own w hw).rts r hr).span h3
    exact ⟨a, b⟩, fun r hr h3 => by
    obtain ⟨_, a, _, b, _⟩ := ((h.own w hw).rts r hr).sum h3
    exact ⟨a, b⟩⟩⟩
end Go.Proofs.Ytbcdgocepnkpeaa
namespace Go.Proofs.Ytbcdgocepnkpeaa
open Go Go.Abs
set_option maxRecDepth 10000
set_option maxHeartbeats 2000000
structure PdK (p : PD) : Prop where
  sk : ∀ e ∈ p.sp, e.1.kind ≠ 3 ∧ e.1.group = 0
  sn : ∀ e ∈ p.sp, ∀ x ∈ e.2, x.lo < x.hi
  ak : ∀ e ∈ p.am, e.1.kind = 3
  snd : (p.sp.map (·.1)).Nodup
  ann : (p.am.map (·.1)).Nodup
theorem keyS_span {k : Of} (x : Sn) (h : k.group = 0) : keyS (spanRt k x) = k := by
  unfold keyS spanRt; simp only; rw [← h]
theorem keyA_amt (k : Of) (n : Int) : keyA (amtRt k n) = k := rfl
theorem mem_amR {l : List (Of × Int)} {r : Rt} : r ∈ amR l ↔ ∃ e ∈ l, e.2 ≠ 0 ∧ r = amtRt e.1 e.2 := by
  unfold amR
  simp only [List.mem_map, List.mem_filter, decide_eq_true_eq]
  constructor
  · rintro ⟨e, ⟨h1, h2⟩, rfl⟩; exact ⟨e, h1, h2, rfl⟩
  · rintro ⟨e, h1, h2, rfl⟩; exact ⟨e, ⟨h1, h2⟩, rfl⟩
theorem of_ne {a b : Of} (h : a ≠ b) (hk : a.kind ≠ 3 ∧ a.group = 0) (hk2 : b.kind ≠ 3 ∧ b.group = 0) : a.kind ≠ b.kind ∨ a.table ≠ b.table ∨ a.col ≠ b.col := by
  apply Decidable.byContradiction; intro q
  simp only [not_or, Decidable.not_not] at q
  exact h ((Of.ext_iff _ _).2 ⟨q.1, q.2.1, q.2.2, by rw [hk.2, hk2.2]⟩)
theorem of_ne3 {a b : Of} (h : a ≠ b) (hk : a.kind = 3) (hk2 : b.kind = 3) : a.table ≠ b.table ∨ a.col ≠ b.col ∨ a.group ≠ b.group := by
  apply Decidable.byContradiction; intro q
  simp only [not_or, Decidable.not_not] at q
  exact h ((Of.ext_iff _ _).2 ⟨by rw [hk, hk2], q.1, q.2.1, q.2.2⟩)
def Sy (a b : Rt) : Prop := bh a b ∨ bh b a
theorem Sy.symm {a b : Rt} (h : Sy a b) : Sy b a := Or.symm h
theorem Vis.sy {vis : List Vis} (hk : ∀ v ∈ vis, v.k.kind ≠ 3 ∧ v.k.group = 0) (hn : (vis.map (·.k)).Nodup) (hm : ∀ v ∈ vis, v.m.Pairwise fun a b => a.hi < b.lo) : (vis.flatMap Vis.rts).Pairwise Sy := by
  rw [List.pairwise_flatMap]
  refine ⟨fun v hv => ?_, ?_⟩
  · unfold Vis.rts
    rw [List.pairwise_map]
    refine (hm v hv).imp fun {a b} h => .inl ?_
    have h3 := (hk v hv).1
    exact .inr ⟨rfl, .inr ⟨rfl, .inr ⟨rfl, .inr ⟨h3, h⟩⟩⟩⟩
  · rw [List.Nodup, List.pairwise_map] at hn
    refine List.Pairwise.imp_of_mem ?_ hn
    intro v w hv hw hne x hx y hy
    unfold Vis.rts at hx hy
    obtain ⟨a, _, rfl⟩ := List.mem_map.1 hx
    obtain ⟨b, _, rfl⟩ := List.mem_map.1 hy
    have := of_ne hne (hk v hv) (hk w hw)
    unfold Sy bh spanRt
    simp only
    omega
theorem amR_sy {l : List (Of × Int)} (hk : ∀ e ∈ l, e.1.kind = 3) (hn : (l.map (·.1)).Nodup) : (amR l).Pairwise Sy := by
  unfold amR
  rw [List.pairwise_map]
  refine List.Pairwise.filter _ ?_
  rw [List.Nodup, List.pairwise_map] at hn
  refine List.Pairwise.imp_of_mem ?_ hn
  intro v w hv hw hne
  have := of_ne3 hne (hk v hv) (hk w hw)
  have h1 := hk v hv
  have h2 := hk w hw
  unfold Sy bh amtRt
  simp only
  omega
theorem RightsOf.sem {p : PD} (hp : PdK p) {R : List Rt} (h : RightsOf p R) : NF R ∧ (∀ k n, cvR R k n ↔ cvS ((mget k p.sp).getD []) n) ∧ ∀ k, amL R k = (mget k p.am).getD 0 := by
  obtain ⟨⟨vis, va, h1, h2, h3, h4⟩, ho⟩ := h
  have hvm : ∀ v ∈ vis, (v.k, v.l) ∈ p.sp := fun v hv => h1.mem_iff.1 (List.mem_map.2 ⟨v, hv, rfl⟩)
  have hk : ∀ v ∈ vis, v.k.kind ≠ 3 ∧ v.k.group = 0 := fun v hv => hp.sk _ (hvm v hv)
  have hj : ∀ v ∈ vis, v.m.Pairwise (fun a b => a.hi < b.lo) ∧ ∀ y ∈ v.m, y.lo < y.hi := fun v hv => (h2 v hv).ok (hp.sn _ (hvm v hv))
  have hvn : (vis.map (·.k)).Nodup := by
    have := (h1.map (·.1)).nodup_iff.2 hp.snd
    rwa [List.map_map] at this
  have hak : ∀ e ∈ va, e.1.kind = 3 := fun e he => hp.ak e (h3.mem_iff.1 he)
  have han : (va.map (·.1)).Nodup := (h3.map (·.1)).nodup_iff.2 hp.ann
  have hmem : ∀ r, r ∈ R ↔ (∃ v ∈ vis, ∃ x ∈ v.m, r = spanRt v.k x) ∨ ∃ e ∈ va, e.2 ≠ 0 ∧ r = amtRt e.1 e.2 := fun r => by
    rw [h4.mem_iff, List.mem_append, mem_amR, List.mem_flatMap]
    unfold Vis.rts
    simp only [List.mem_map]
    constructor
    · rintro (⟨v, hv, x, hx, rfl⟩ | h)
      · exact .inl ⟨v, hv, x, hx, rfl⟩
      · exact .inr h
    · rintro (⟨v, hv, x, hx, rfl⟩ | h)
      · exact .inl ⟨v, hv, x, hx, rfl⟩
      · exact .inr h
  have hspan : ∀ r ∈ R, r.kind ≠ 3 → r.lo < r.hi ∧ r.amt = 0 := fun r hr h3 => by
    rcases (hmem r).1 hr with ⟨v, hv, x, hx, rfl⟩ | ⟨e, he, _, rfl⟩
    · exact ⟨(hj v hv).2 x hx, rfl⟩
    · exact absurd (hak e he) h3
  have hsum : ∀ r ∈ R, r.kind = 3 → r.hi = 0 ∧ r.amt ≠ 0 := fun r hr h3 => by
    rcases (hmem r).1 hr with ⟨v, hv, x, hx, rfl⟩ | ⟨e, he, h0, rfl⟩
    · exact absurd h3 (hk v hv).1
    · exact ⟨rfl, h0⟩
  have hsy : R.Pairwise Sy := by
    refine (List.Perm.pairwise_iff (fun {a b} h => Sy.symm h) h4).2 ?_
    rw [List.pairwise_append]
    refine ⟨Vis.sy hk hvn fun v hv => (hj v hv).1, amR_sy hak han, fun a ha b hb => ?_⟩
    obtain ⟨v, hv, ha⟩ := List.mem_flatMap.1 ha
    unfold Vis.rts at ha
    obtain ⟨x, _, rfl⟩ := List.mem_map.1 ha
    obtain ⟨e, he, _, rfl⟩ := mem_amR.1 hb
    have q1 := (hk v hv).1
    have q2 := hak e he
    unfold Sy bh spanRt amtRt
    simp only
    omega
  have hnf : NF R := by
    refine ⟨?_, hspan, hsum⟩
    refine List.Pairwise.imp_of_mem ?_ (ho.and hsy)
    rintro a b ha hb ⟨g1, g2⟩
    rcases g2 with g2 | g2
    · exact g2
    · have q1 := hspan b hb
      unfold bh at g2 ⊢
      unfold RtLt at g1
      by_cases q3 : b.kind = 3
      · omega
      · have := q1 q3; omega
  refine ⟨hnf, fun k n => ?_, fun k => ?_⟩
  · constructor
    · rintro ⟨r, hr, r3, rk, a1, a2⟩
      rcases (hmem r).1 hr with ⟨v, hv, x, hx, rfl⟩ | ⟨e, he, _, rfl⟩
      · rw [keyS_span x (hk v hv).2] at rk
        subst rk
        rw [mget_of hp.snd (hvm v hv), Option.getD_some, ← (h2 v hv).cv]
        exact ⟨x, hx, a1, a2⟩
      · exact absurd (hak e he) r3
    · intro h
      cases hg : mget k p.sp with
      | none => rw [hg] at h; exact absurd h (cvS_nil n)
      | some l =>
        rw [hg, Option.getD_some] at h
        have hm := mget_mem hg
        obtain ⟨v, hv, e⟩ := List.mem_map.1 (h1.mem_iff.2 hm)
        injection e with e1 e2
        subst e1; subst e2
        obtain ⟨x, hx, a1, a2⟩ := ((h2 v hv).cv n).2 h
        exact ⟨spanRt v.k x, (hmem _).2 (.inl ⟨v, hv, x, hx, rfl⟩), (hk v hv).1, keyS_span x (hk v hv).2, a1, a2⟩
  · cases hg : mget k p.am with
    | none =>
      rw [Option.getD_none]
      refine amL_none fun r hr r3 rk => ?_
      rcases (hmem r).1 hr with ⟨v, hv, x, hx, rfl⟩ | ⟨e, he, h0, rfl⟩
      · exact (hk v hv).1 r3
      · rw [keyA_amt] at rk
        subst rk
        have := mget_of hp.ann (h3.mem_iff.1 he)
        rw [hg] at this; cases this
    | some n =>
      rw [Option.getD_some]
      have hm := mget_mem hg
      by_cases h0 : n = 0
      · subst h0
        refine amL_none fun r hr r3 rk => ?_
        rcases (hmem r).1 hr with ⟨v, hv, x, hx, rfl⟩ | ⟨e, he, h0, rfl⟩
        · exact (hk v hv).1 r3
        · rw [keyA_amt] at rk
          subst rk
          have := mget_of hp.ann (h3.mem_iff.1 he)
          rw [hg] at this; injection this with this
          exact h0 this.symm
      · exact amL_of hnf ((hmem (amtRt k n)).2 (.inr ⟨(k, n), h3.mem_iff.2 hm, h0, rfl⟩)) (hp.ak _ hm)
structure Sem (L : List PD) (o : List Ow) : Prop where
  nfo : NFO o
  cv : ∀ d k n, cvR (rtsOf o d) k n ↔ cvS (spOf L d k) n
  am : ∀ d k, amL (rtsOf o d) k = amtOf L d k
theorem Sem.uniq {L : List PD} {o o' : List Ow} (h : Sem L o) (h' : Sem L o') : o = o' :=
  h.nfo.ext2 h'.nfo (fun d k n => (h.cv d k n).trans (h'.cv d k n).symm) fun d k => (h.am d k).trans (h'.am d k).symm
theorem rtsOf_ows {ps : List (PD × List Rt)} (hd : (ps.map fun p => p.1.dev).Nodup) (d : Int) : (∀ p ∈ ps, p.1.dev ≠ d) ∧ rtsOf (owsOf ps) d = [] ∨ ∃ p ∈ ps, p.1.dev = d ∧ rtsOf (owsOf ps) d = p.2 := by
  induction ps with
  | nil => exact .inl ⟨fun _ h => (by cases h), rfl⟩
  | cons p ps ih =>
    simp only [List.map_cons, List.nodup_cons] at hd
    by_cases hp : p.2.length > 0
    · have e : owsOf (p :: ps) = ⟨p.1.dev, p.2⟩ :: owsOf ps := by unfold owsOf; rw [List.filter_cons_of_pos (by simpa using hp)]; rfl
      rw [e, rtsOf]
      by_cases hq : p.1.dev = d
      · rw [if_pos hq]; exact .inr ⟨p, by simp, hq, rfl⟩
      · rw [if_neg hq]
        rcases ih hd.2 with ⟨g1, g2⟩ | ⟨q, hq1, hq2⟩
        · exact .inl ⟨fun x hx => by rcases List.mem_cons.1 hx with rfl | hx; exact hq; exact g1 x hx, g2⟩
        · exact .inr ⟨q, by simp [hq1], hq2⟩
    · have e : owsOf (p :: ps) = owsOf ps := by unfold owsOf; rw [List.filter_cons_of_neg (by simpa using hp)]
      have e2 : p.2 = [] := by cases hl : p.2 with | nil => rfl | cons a b => rw [hl] at hp; simp at hp
      rw [e]
      by_cases hq : p.1.dev = d
      · refine .inr ⟨p, by simp, hq, ?_⟩
        rcases ih hd.2 with ⟨g1, g2⟩ | ⟨q, hq1, hq2, _⟩
        · rw [g2, e2]
        · exact absurd (List.mem_map.2 ⟨q, hq1, hq2.trans hq.symm⟩) hd.1
      · rcases ih hd.2 with ⟨g1, g2⟩ | ⟨q, hq1, hq2⟩
        · exact .inl ⟨fun x hx => by rcases List.mem_cons.1 hx with rfl | hx; exact hq; exact g1 x hx, g2⟩
        · exact .inr ⟨q, by simp [hq1], hq2⟩
theorem ClosedOf.sem {L : List PD} {o : List Ow} (h : ClosedOf L o) (hL : ∀ p ∈ L, PdK p) (hd : (L.map (·.dev)).Nodup) : Sem L o := by
  obtain ⟨ps, h1, h2, h3, rfl⟩ := h
  have hmem : ∀ p ∈ ps, p.1 ∈ L := fun p hp => h1.mem_iff.1 (List.mem_map.2 ⟨p, hp, rfl⟩)
  have hdn : (ps.map fun p => p.1.dev).Nodup := by
    have := (h1.map (·.dev)).nodup_iff.2 hd
    rwa [List.map_map] at this
  have hs : ∀ p ∈ ps, _ := fun p hp => (h3 p hp).sem (hL _ (hmem p hp))
  refine ⟨⟨?_, fun w hw => ?_, fun w hw => ?_⟩, fun d k n => ?_, fun d k => ?_⟩
  · unfold owsOf
    rw [List.pairwise_map]
    refine List.Pairwise.filter _ ?_
    rw [List.Nodup, List.pairwise_map] at hdn
    exact (h2.and hdn).imp fun {a b} q => by have := q.1; have := q.2; simp only; omega
  · unfold owsOf at hw
    obtain ⟨p, hp, rfl⟩ := List.mem_map.1 hw
    have := (List.mem_filter.1 hp).2
    intro e
    simp only at e
    rw [e] at this; simp at this
  · unfold owsOf at hw
    obtain ⟨p, hp, rfl⟩ := List.mem_map.1 hw
    exact (hs p (List.mem_filter.1 hp).1).1
  · rcases rtsOf_ows hdn d with ⟨g1, g2⟩ | ⟨p, hp, rfl, g2⟩
    · have e : spOf L d k = [] := by
        unfold spOf
        rw [findD_none fun q => ?_]
        obtain ⟨p, hp, e⟩ := List.mem_map.1 q
        obtain ⟨x, hx, rfl⟩ := List.mem_map.1 (h1.mem_iff.2 hp)
        exact g1 x hx e
      rw [g2, e]
      exact ⟨fun ⟨_, h, _⟩ => (by cases h), fun h => absurd h (cvS_nil n)⟩
    · have e : spOf L p.1.dev k = (mget k p.1.sp).getD [] := by unfold spOf; rw [findD_mem hd (hmem p hp)]
      rw [g2, e]; exact (hs p hp).2.1 k n
  · rcases rtsOf_ows hdn d with ⟨g1, g2⟩ | ⟨p, hp, rfl, g2⟩
    · have e : amtOf L d k = 0 := by
        unfold amtOf
        rw [findD_none fun q => ?_]
        obtain ⟨p, hp, e⟩ := List.mem_map.1 q
        obtain ⟨x, hx, rfl⟩ := List.mem_map.1 (h1.mem_iff.2 hp)
        exact g1 x hx e
      rw [g2, e]; rfl
    · have e : amtOf L p.1.dev k = (mget k p.1.am).getD 0 := by unfold amtOf; rw [findD_mem hd (hmem p hp)]
      rw [g2, e]; exact (hs p hp).2.2 k
theorem mset_keys {K V : Type} [DecidableEq K] (k : K) (v : V) : ∀ (l : List (K × V)), (∀ e ∈ mset k v l, e = (k, v) ∨ e ∈ l) ∧ ((l.map (·.1)).Nodup → ((mset k v l).map (·.1)).Nodup) ∧ ∀ k', k' ∈ (mset k v l).map (·.1) → k' = k ∨ k' ∈ l.map (·.1)
  | [] => by simp [mset]
  | x :: l => by
    obtain ⟨h1, h2, h3⟩ := mset_keys k v l
    rw [mset]
    by_cases e : k = x.1
    · rw [if_pos e]
      refine ⟨fun y hy => ?_, fun hn => ?_, fun k' hk' => ?_⟩
      · rcases List.mem_cons.1 hy with q | q
        · exact .inl (by rw [q, e])
        · exact .inr (List.mem_cons_of_mem _ q)
      · simp only [List.map_cons] at hn ⊢; rw [e]; exact hn
      · simp only [List.map_cons, List.mem_cons] at hk' ⊢; rw [e] at hk'; exact .inr (e ▸ hk')
    · rw [if_neg e]
      refine ⟨fun y hy => ?_, fun hn => ?_, fun k' hk' => ?_⟩
      · rcases List.mem_cons.1 hy with q | q
        · exact .inr (by rw [q]; simp)
        · exact (h1 y q).imp id (List.mem_cons_of_mem _)
      · simp only [List.map_cons, List.nodup_cons] at hn ⊢
        refine ⟨fun q => ?_, h2 hn.2⟩
        rcases h3 _ q with q | q
        · exact e q.symm
        · exact hn.1 q
      · simp only [List.map_cons, List.mem_cons] at hk' ⊢
        rcases hk' with q | q
        · exact .inr (.inl q)
        · exact (h3 _ q).imp id .inr
theorem PdK.am {p : PD} (h : PdK p) {k : Of} (hk : k.kind = 3) (n : Int) : PdK { p with am := mset k n p.am } :=
  ⟨h.sk, h.sn, fun e he => by
    rcases (mset_keys k n p.am).1 e he with rfl | q
    · exact hk
    · exact h.ak e q, h.snd, (mset_keys k n p.am).2.1 h.ann⟩
theorem PdK.sp {p : PD} (h : PdK p) {k : Of} (hk : k.kind ≠ 3 ∧ k.group = 0) {v : List Sn} (hv : ∀ x ∈ v, x.lo < x.hi) : PdK { p with sp := mset k v p.sp } :=
  ⟨fun e he => by
    rcases (mset_keys k v p.sp).1 e he with rfl | q
    · exact hk
    · exact h.sk e q, fun e he => by
    rcases (mset_keys k v p.sp).1 e he with rfl | q
    · exact hv
    · exact h.sn e q, h.ak, (mset_keys k v p.sp).2.1 h.snd, h.ann⟩
theorem PdK.get {p : PD} (h : PdK p) (k : Of) : ∀ x ∈ (mget k p.sp).getD [], x.lo < x.hi := by
  cases hg : mget k p.sp with
  | none => intro x hx; cases hx
  | some v => exact h.sn _ (mget_mem hg)
theorem PdK.fold : ∀ (rs : List Rt) {p : PD}, PdK p → (∀ r ∈ rs, r.kind ≠ 3 → r.lo < r.hi) → PdK (rs.foldl addR p)
  | [], _, h, _ => h
  | r :: rs, p, h, hr => by
    rw [List.foldl_cons]
    refine PdK.fold rs ?_ fun x hx => hr x (List.mem_cons_of_mem _ hx)
    unfold addR
    split
    · rename_i h3; exact h.am (show (keyA r).kind = 3 from h3) _
    · rename_i h3
      refine h.sp ⟨h3, rfl⟩ fun x hx => ?_
      rcases List.mem_append.1 hx with hx | hx
      · exact h.get _ x hx
      · rw [List.mem_singleton.1 hx]; exact hr r (by simp) h3
theorem PdK.zero (dev : Int) : PdK ⟨dev, [], []⟩ := ⟨fun _ h => (by cases h), fun _ h => (by cases h), fun _ h => (by cases h), List.nodup_nil, List.nodup_nil⟩
theorem cv_fold (k : Of) (n : Int) : ∀ (rs : List Rt) (d : PD), cvS ((mget k (rs.foldl addR d).sp).getD []) n ↔ cvS ((mget k d.sp).getD []) n ∨ cvR rs k n
  | [], _ => ⟨.inl, fun h => h.elim id fun ⟨_, h, _⟩ => by cases h⟩
  | r :: rs, d => by
    have hc : cvR (r :: rs) k n ↔ (r.kind ≠ 3 ∧ keyS r = k ∧ r.lo ≤ n ∧ n < r.hi) ∨ cvR rs k n := by unfold cvR; simp
    rw [List.foldl_cons, cv_fold k n rs, hc, ← or_assoc]
    refine or_congr_left ?_
    unfold addR
    split
    · rename_i h3
      exact ⟨.inl, fun h => h.elim id fun q => absurd h3 q.1⟩
    · rename_i h3
      simp only [mget_mset]
      by_cases e : k = keyS r
      · subst e
        rw [if_pos rfl, Option.getD_some, cvS_append]
        refine or_congr_right ?_
        rw [cvS_cons]
        exact ⟨fun h => h.elim (fun q => ⟨h3, rfl, q⟩) fun q => absurd q (cvS_nil n), fun h => .inl h.2.2⟩
      · rw [if_neg e]
        exact ⟨.inl, fun h => h.elim id fun q => absurd q.2.1.symm e⟩
theorem am_ne (k : Of) : ∀ (rs : List Rt) (d : PD), ((∃ r ∈ rs, r.kind = 3 ∧ keyA r = k) ∨ mget k d.am ≠ none) → mget k (rs.foldl addR d).am ≠ none
  | [], _, h => h.elim (fun ⟨_, h, _⟩ => by cases h) id
  | r :: rs, d, h => by
    rw [List.foldl_cons]
    refine am_ne k rs _ ?_
    rcases h with ⟨x, hx, q1, q2⟩ | h
    · rcases List.mem_cons.1 hx with rfl | hx
      · right
        unfold addR
        rw [if_pos q1]
        simp only [mget_mset, if_pos q2.symm]; simp
      · exact .inl ⟨x, hx, q1, q2⟩
    · right
      unfold addR
      split
      · simp only [mget_mset]
        split
        · simp
        · exact h
      · exact h
theorem am_open {R : List Rt} (h : NF R) (dev : Int) (k : Of) : (mget k (R.foldl addR ⟨dev, [], []⟩).am).getD 0 = amL R k := by
  cases hg : mget k (R.foldl addR ⟨dev, [], []⟩).am with
  | none =>
    refine (amL_none fun r hr q1 q2 => ?_).symm
    exact am_ne k R ⟨dev, [], []⟩ (.inl ⟨r, hr, q1, q2⟩) hg
  | some n =>
    rcases am_fold k n R _ hg with ⟨r, hr, q1, q2, q3⟩ | q
    · rw [← q2, Option.getD_some, amL_of h hr q1, q3]
    · cases q
theorem findD_open {o : List Ow} (d : Int) : findD d (openP o) = if d ∈ o.map (·.dev) then some ((rtsOf o d).foldl addR ⟨d, [], []⟩) else none := by
  induction o with
  | nil => rfl
  | cons w o ih =>
    have e : openP (w :: o) = ofOw w :: openP o := rfl
    have hd : (ofOw w).dev = w.dev := fold_dev w.rights _
    unfold findD at ih ⊢
    rw [e, rtsOf]
    by_cases h : w.dev = d
    · rw [List.find?_cons_of_pos (by simpa [hd] using h), if_pos (by simp [h]), if_pos h, ← h]; rfl
    · rw [List.find?_cons_of_neg (by simpa [hd] using h), ih]
      by_cases h2 : d ∈ o.map (·.dev)
      · rw [if_pos h2, if_pos (by simp only [List.map_cons, List.mem_cons]; exact .inr h2), if_neg h]
      · rw [if_neg h2, if_neg (by simp only [List.map_cons, List.mem_cons, not_or]; exact ⟨fun q => h q.symm, h2⟩)]
theorem openP_sem {o : List Ow} (h : NFO o) : (∀ p ∈ openP o, PdK p) ∧ ((openP o).map (·.dev)).Nodup ∧ Sem (openP o) o := by
  have hnd : (o.map (·.dev)).Nodup := by
    rw [List.Nodup, List.pairwise_map]
    exact h.devs.imp fun {a b} q => by omega
  have hno : ∀ {d}, d ∉ o.map (·.dev) → rtsOf o d = [] := fun {d} hd => rtsOf_none fun w hw e => hd (e ▸ List.mem_map.2 ⟨w, hw, rfl⟩)
  refine ⟨fun p hp => ?_, by rw [openP_devs]; exact hnd, h, fun d k n => ?_, fun d k => ?_⟩
  · obtain ⟨w, hw, rfl⟩ := List.mem_map.1 hp
    exact PdK.fold _ (PdK.zero _) fun r hr h3 => ((h.nf w hw).span r hr h3).1
  · unfold spOf
    rw [findD_open]
    by_cases hd : d ∈ o.map (·.dev)
    · rw [if_pos hd, cv_fold]
      exact ⟨.inr, fun h => h.elim (fun q => absurd q (cvS_nil n)) id⟩
    · rw [if_neg hd, hno hd]
      exact ⟨fun ⟨_, h, _⟩ => (by cases h), fun h => absurd h (cvS_nil n)⟩
  · unfold amtOf
    rw [findD_open]
    by_cases hd : d ∈ o.map (·.dev)
    · rw [if_pos hd]; exact (am_open (h.get d) d k).symm
    · rw [if_neg hd, hno hd]; rfl
end Go.Proofs.Ytbcdgocepnkpeaa
