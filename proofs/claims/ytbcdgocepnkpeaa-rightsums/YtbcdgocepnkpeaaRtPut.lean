import Derived.Test.YtbcdgocepnkpeaaRtSem
set_option linter.unusedSimpArgs false
set_option linter.unusedVariables false
namespace Go.Proofs.Ytbcdgocepnkpeaa
open Go Go.Abs
set_option maxRecDepth 10000
set_option maxHeartbeats 2000000
theorem ahead_iff (a b : Rt) : aheadB a b = true ↔ RtLt a b := by
  unfold aheadB RtLt
  repeat' split
  all_goals simp only [decide_eq_true_eq]
  all_goals omega
def liveB (r : Rt) : Bool := decide (r.kind ≠ 3) || decide (r.amt ≠ 0)
def putA (r : Rt) (done : Bool) : List Rt → List Rt
  | [] => if !done && liveB r then [r] else []
  | x :: l =>
    if sameB x r && decide (r.kind = 3) then putA { r with amt := r.amt + x.amt } done l
    else if (sameB x r && decide (x.lo ≤ r.hi)) && decide (r.lo ≤ x.hi) then putA { r with lo := min r.lo x.lo, hi := max r.hi x.hi } done l
    else if (!aheadB x r && !done) && liveB r then r :: x :: putA r true l
    else x :: putA r done l
def putP (l : List Rt) (r : Rt) : List Rt := putA r false l
structure Rg (r : Rt) : Prop where
  span : r.kind ≠ 3 → r.lo < r.hi ∧ r.amt = 0
  sum : r.kind = 3 → r.hi = 0
theorem NF.rg {R : List Rt} (h : NF R) {r : Rt} (hr : r ∈ R) : Rg r := ⟨h.span r hr, fun h3 => (h.sum r hr h3).1⟩
theorem bh_tr {a b c : Rt} (hb : Rg b) (h1 : bh a b) (h2 : bh b c) : bh a c := by
  have := hb.span
  unfold bh at *
  by_cases h3 : b.kind = 3
  · omega
  · have := this h3; omega
theorem putA_done (r : Rt) (done : Bool) : ∀ (l : List Rt), NF l → Rg r → (∀ y ∈ l, bh r y) → (done = true ∨ liveB r = false) → putA r done l = l
  | [], _, _, _, hd => by
    rw [putA]
    rcases hd with hd | hd <;> simp [hd]
  | x :: l, hl, hr, hb, hd => by
    have h1 := hb x (by simp)
    have hx := hl.rg (r := x) (by simp)
    have e1 : ¬ (sameB x r && decide (r.kind = 3)) = true := by
      rw [Bool.and_eq_true, same_iff, decide_eq_true_eq]
      unfold bh at h1
      omega
    have e2 : ¬ ((sameB x r && decide (x.lo ≤ r.hi)) && decide (r.lo ≤ x.hi)) = true := by
      rw [Bool.and_eq_true, Bool.and_eq_true, same_iff, decide_eq_true_eq, decide_eq_true_eq]
      have := hr.span
      unfold bh at h1
      omega
    have e3 : ¬ ((!aheadB x r && !done) && liveB r) = true := by
      rcases hd with hd | hd <;> simp [hd]
    rw [putA, if_neg e1, if_neg e2, if_neg e3, putA_done r done l hl.tail hr (fun y hy => hb y (List.mem_cons_of_mem _ hy)) hd]
theorem putA_bh (x : Rt) : ∀ (l : List Rt) (r : Rt) (done : Bool), bh x r → (∀ y ∈ l, bh x y) → ∀ z ∈ putA r done l, bh x z
  | [], r, done, h, _, z, hz => by
    rw [putA] at hz
    split at hz
    · rw [List.mem_singleton.1 hz]; exact h
    · cases hz
  | y :: l, r, done, h, hl, z, hz => by
    have hy := hl y (by simp)
    have hl' : ∀ y ∈ l, bh x y := fun y hy => hl y (List.mem_cons_of_mem _ hy)
    rw [putA] at hz
    split at hz
    · exact putA_bh x l _ done (by unfold bh at h ⊢; exact h) hl' z hz
    split at hz
    · rename_i q
      simp only [Bool.and_eq_true, same_iff] at q
      refine putA_bh x l _ done ?_ hl' z hz
      unfold bh at h hy ⊢
      simp only
      omega
    split at hz
    · rcases List.mem_cons.1 hz with rfl | hz
      · exact h
      · rcases List.mem_cons.1 hz with rfl | hz
        · exact hy
        · exact putA_bh x l _ _ h hl' z hz
    · rcases List.mem_cons.1 hz with rfl | hz
      · exact hy
      · exact putA_bh x l _ _ h hl' z hz
theorem cvR_cons (r : Rt) (R : List Rt) (k : Of) (n : Int) : cvR (r :: R) k n ↔ (r.kind ≠ 3 ∧ keyS r = k ∧ r.lo ≤ n ∧ n < r.hi) ∨ cvR R k n := by unfold cvR; simp
theorem cvR_nil (k : Of) (n : Int) : ¬ cvR [] k n := fun ⟨_, h, _⟩ => by cases h
def add0 (r : Rt) (k : Of) : Int := if r.kind = 3 ∧ keyA r = k then r.amt else 0
def inR (r : Rt) (k : Of) (n : Int) : Prop := r.kind ≠ 3 ∧ keyS r = k ∧ r.lo ≤ n ∧ n < r.hi
theorem amL_cons (r : Rt) (R : List Rt) (k : Of) : amL (r :: R) k = if r.kind = 3 ∧ keyA r = k then r.amt else amL R k := rfl
theorem amL_bh {r : Rt} {R : List Rt} (h : ∀ y ∈ R, bh r y) (h3 : r.kind = 3) : amL R (keyA r) = 0 :=
  amL_none fun y hy _ e => bh_keyA (h y hy) h3 e.symm
structure PutS (l : List Rt) (r : Rt) (m : List Rt) : Prop where
  nf : NF m
  cv : ∀ k n, cvR m k n ↔ inR r k n ∨ cvR l k n
  am : ∀ k, amL m k = amL l k + add0 r k
theorem NF.cons {x : Rt} {R : List Rt} (h : NF R) (hx : Rg x) (hl : liveB x = true) (hb : ∀ y ∈ R, bh x y) : NF (x :: R) := by
  refine ⟨List.pairwise_cons.2 ⟨hb, h.srt⟩, fun r hr h3 => ?_, fun r hr h3 => ?_⟩
  · rcases List.mem_cons.1 hr with rfl | hr
    · exact hx.span h3
    · exact h.span r hr h3
  · rcases List.mem_cons.1 hr with rfl | hr
    · refine ⟨hx.sum h3, ?_⟩
      unfold liveB at hl
      simpa [h3] using hl
    · exact h.sum r hr h3
theorem NF.live {R : List Rt} (h : NF R) {r : Rt} (hr : r ∈ R) : liveB r = true := by
  unfold liveB
  by_cases h3 : r.kind = 3
  · have := (h.sum r hr h3).2; simp [this]
  · simp [h3]
theorem putA_sem : ∀ (l : List Rt) (r : Rt), NF l → Rg r → PutS l r (putA r false l)
  | [], r, _, hr => by
    rw [putA]
    by_cases hl : liveB r = true
    · rw [if_pos (by simp [hl])]
      refine ⟨NF.nil.cons hr hl fun _ h => (by cases h), fun k n => ?_, fun k => ?_⟩
      · rw [cvR_cons]; rfl
      · rw [amL_cons]
        unfold add0
        split <;> simp [amL]
    · rw [if_neg (by simp [hl])]
      have h0 : r.kind = 3 ∧ r.amt = 0 := by
        unfold liveB at hl
        simpa using hl
      refine ⟨NF.nil, fun k n => ⟨fun h => absurd h (cvR_nil k n), fun h => h.elim (fun q => absurd h0.1 q.1) id⟩, fun k => ?_⟩
      unfold add0
      rw [h0.2]; simp [amL]
  | x :: l, r, hN, hr => by
    have hl := hN.tail
    have hx := hN.rg (r := x) (by simp)
    have hxl := hN.live (r := x) (by simp)
    have hxb := (List.pairwise_cons.1 hN.srt).1
    rw [putA]
    by_cases c1 : (sameB x r && decide (r.kind = 3)) = true
    · rw [if_pos c1]
      rw [Bool.and_eq_true, same_iff, decide_eq_true_eq] at c1
      obtain ⟨⟨⟨k1, k2, k3⟩, k4⟩, r3⟩ := c1
      have x3 : x.kind = 3 := by omega
      have kk := k4 x3
      obtain ⟨g1, g2, g3⟩ := putA_sem l { r with amt := r.amt + x.amt } hl ⟨fun h => absurd r3 h, hr.sum⟩
      refine ⟨g1, fun k n => ?_, fun k => ?_⟩
      · rw [g2, cvR_cons]
        unfold inR
        simp only [r3, x3, ne_eq, not_true_eq_false, false_and, false_or]
      · rw [g3, amL_cons]
        have e : keyA x = keyA r := (keyA_iff _ _).2 ⟨k1, k2, k3, kk⟩
        have h0 := amL_bh hxb x3
        unfold add0
        show amL l k + (if r.kind = 3 ∧ keyA r = k then r.amt + x.amt else 0) = (if x.kind = 3 ∧ keyA x = k then x.amt else amL l k) + if r.kind = 3 ∧ keyA r = k then r.amt else 0
        by_cases ek : keyA r = k
        · rw [if_pos ⟨r3, ek⟩, if_pos ⟨x3, e.trans ek⟩, if_pos ⟨r3, ek⟩, ← ek, ← e, h0]; omega
        · rw [if_neg (fun q => ek q.2), if_neg (fun q => ek (e.symm.trans q.2)), if_neg (fun q => ek q.2)]
    rw [if_neg c1]
    by_cases c2 : ((sameB x r && decide (x.lo ≤ r.hi)) && decide (r.lo ≤ x.hi)) = true
    · rw [if_pos c2]
      rw [Bool.and_eq_true, same_iff, decide_eq_true_eq] at c1
      rw [Bool.and_eq_true, Bool.and_eq_true, same_iff, decide_eq_true_eq, decide_eq_true_eq] at c2
      obtain ⟨⟨k0, k4⟩, k5⟩ := c2
      have r3 : r.kind ≠ 3 := fun q => c1 ⟨k0, q⟩
      obtain ⟨⟨k1, k2, k3⟩, _⟩ := k0
      have x3 : x.kind ≠ 3 := by omega
      have s1 := hr.span r3
      have s2 := hx.span x3
      obtain ⟨g1, g2, g3⟩ := putA_sem l { r with lo := min r.lo x.lo, hi := max r.hi x.hi } hl ⟨fun _ => ⟨by show min r.lo x.lo < max r.hi x.hi; omega, s1.2⟩, fun h => absurd h r3⟩
      refine ⟨g1, fun k n => ?_, fun k => ?_⟩
      · rw [g2, cvR_cons, ← or_assoc]
        refine or_congr_left ?_
        have e : keyS x = keyS r := (keyS_iff _ _).2 ⟨k1, k2, k3⟩
        unfold inR
        show (r.kind ≠ 3 ∧ keyS r = k ∧ min r.lo x.lo ≤ n ∧ n < max r.hi x.hi) ↔ _
        rw [e]
        constructor
        · rintro ⟨_, ek, q1, q2⟩
          by_cases q : r.lo ≤ n ∧ n < r.hi
          · exact .inl ⟨r3, ek, q⟩
          · exact .inr ⟨x3, ek, by omega, by omega⟩
        · rintro (⟨_, ek, q1, q2⟩ | ⟨_, ek, q1, q2⟩)
          · exact ⟨r3, ek, by omega, by omega⟩
          · exact ⟨r3, ek, by omega, by omega⟩
      · rw [g3, amL_cons, if_neg (fun q => x3 q.1)]
        unfold add0
        rw [if_neg (fun q => r3 q.1), if_neg (fun q => r3 q.1)]
    rw [if_neg c2]
    rw [Bool.and_eq_true, same_iff, decide_eq_true_eq] at c1
    rw [Bool.and_eq_true, Bool.and_eq_true, same_iff, decide_eq_true_eq, decide_eq_true_eq] at c2
    have hxr : aheadB x r = true → bh x r := fun q => by
      rw [ahead_iff] at q
      have s1 := hr.span
      have s2 := hx.span
      unfold RtLt at q
      unfold bh
      by_cases r3 : r.kind = 3
      · omega
      · have := s1 r3
        by_cases x3 : x.kind = 3
        · omega
        · have := s2 x3; omega
    have hrx : aheadB x r = false → bh r x := fun q => by
      have q : ¬ RtLt x r := fun h => by rw [(ahead_iff x r).2 h] at q; cases q
      have s1 := hr.span
      have s2 := hx.span
      unfold RtLt at q
      unfold bh
      by_cases r3 : r.kind = 3
      · omega
      · have := s1 r3
        by_cases x3 : x.kind = 3
        · omega
        · have := s2 x3; omega
    cases ha : aheadB x r with
    | true =>
      rw [if_neg (by simp)]
      obtain ⟨g1, g2, g3⟩ := putA_sem l r hl hr
      have hb := hxr ha
      refine ⟨g1.cons hx hxl fun z hz => putA_bh x l r false hb hxb z hz, fun k n => ?_, fun k => ?_⟩
      · rw [cvR_cons, cvR_cons, g2]
        constructor
        · rintro (q | q | q)
          · exact .inr (.inl q)
          · exact .inl q
          · exact .inr (.inr q)
        · rintro (q | q | q)
          · exact .inr (.inl q)
          · exact .inl q
          · exact .inr (.inr q)
      · rw [amL_cons, amL_cons, g3]
        split
        · rename_i q
          have : add0 r k = 0 := by
            unfold add0
            rw [if_neg]
            rintro ⟨q1, q2⟩
            exact bh_keyA hb q.1 (q.2.trans q2.symm)
          omega
        · rfl
    | false =>
      have hb := hrx ha
      have hba : ∀ y ∈ l, bh r y := fun y hy => bh_tr hx hb (hxb y hy)
      cases hlv : liveB r with
      | true =>
        rw [if_pos (by simp), putA_done r true l hl hr hba (.inl rfl)]
        refine ⟨hN.cons hr hlv fun y hy => ?_, fun k n => by rw [cvR_cons]; rfl, fun k => ?_⟩
        · rcases List.mem_cons.1 hy with rfl | hy
          · exact hb
          · exact hba y hy
        · rw [amL_cons r]
          unfold add0
          split
          · rename_i q
            rw [← q.2, amL_bh (R := x :: l) (fun y hy => by rcases List.mem_cons.1 hy with rfl | hy; exact hb; exact hba y hy) q.1]; omega
          · omega
      | false =>
        rw [if_neg (by simp), putA_done r false l hl hr hba (.inr hlv)]
        have h0 : r.kind = 3 ∧ r.amt = 0 := by
          unfold liveB at hlv
          simpa using hlv
        refine ⟨hN, fun k n => ⟨.inr, fun h => h.elim (fun q => absurd h0.1 q.1) id⟩, fun k => ?_⟩
        unfold add0
        rw [h0.2]; simp
theorem put_sem {l : List Rt} {r : Rt} (hl : NF l) (hr : Rg r) : PutS l r (putP l r) := putA_sem l r hl hr
def cutX (r x : Rt) : List Rt :=
  if (!sameB x r || decide (r.hi ≤ x.lo)) || decide (x.hi ≤ r.lo) then [x]
  else (if x.lo < r.lo then [{ x with hi := r.lo }] else []) ++ if r.hi < x.hi then [{ x with lo := r.hi }] else []
def cutP (l : List Rt) (r : Rt) : List Rt := l.flatMap (cutX r)
theorem cutX_mem {r x z : Rt} (hr : Rg r) (r3 : r.kind ≠ 3) (hx : Rg x) (h : z ∈ cutX r x) : z = x ∨ (x.kind ≠ 3 ∧ keyS z = keyS x ∧ z.kind ≠ 3 ∧ z.amt = 0 ∧ x.lo ≤ z.lo ∧ z.hi ≤ x.hi ∧ z.lo < z.hi) := by
  unfold cutX at h
  split at h
  · exact .inl (List.mem_singleton.1 h)
  · rename_i q
    simp only [Bool.or_eq_true, not_or, decide_eq_true_eq, Bool.not_eq_true', Bool.not_eq_false, same_iff] at q
    obtain ⟨⟨⟨⟨k1, k2, k3⟩, _⟩, k4⟩, k5⟩ := q
    have x3 : x.kind ≠ 3 := by omega
    have s1 := hr.span r3
    have s2 := hx.span x3
    right
    rcases List.mem_append.1 h with h | h
    · split at h
      · rw [List.mem_singleton.1 h]
        exact ⟨x3, rfl, x3, s2.2, Int.le_refl _, by show r.lo ≤ x.hi; omega, by show x.lo < r.lo; assumption⟩
      · cases h
    · split at h
      · rw [List.mem_singleton.1 h]
        exact ⟨x3, rfl, x3, s2.2, by show x.lo ≤ r.hi; omega, Int.le_refl _, by show r.hi < x.hi; assumption⟩
      · cases h
structure CutS (l : List Rt) (r : Rt) (m : List Rt) : Prop where
  nf : NF m
  cv : ∀ k n, cvR m k n ↔ cvR l k n ∧ ¬ inR r k n
  am : ∀ k, amL m k = amL l k
theorem amL_append (R R' : List Rt) (k : Of) : (∀ r ∈ R, r.kind = 3 → keyA r ≠ k) → amL (R ++ R') k = amL R' k := fun h => by
  induction R with
  | nil => rfl
  | cons x R ih =>
    rw [List.cons_append, amL_cons, if_neg (fun q => h x (by simp) q.1 q.2)]
    exact ih fun y hy => h y (List.mem_cons_of_mem _ hy)
theorem cut_sem {r : Rt} (hr : Rg r) (r3 : r.kind ≠ 3) {l : List Rt} (hl : NF l) : CutS l r (cutP l r) := by
  have hs := hr.span r3
  have hm : ∀ x ∈ l, ∀ z ∈ cutX r x, _ := fun x hx z hz => cutX_mem hr r3 (hl.rg hx) hz
  refine ⟨⟨?_, fun z hz h3 => ?_, fun z hz h3 => ?_⟩, fun k n => ?_, fun k => ?_⟩
  · unfold cutP
    rw [List.pairwise_flatMap]
    refine ⟨fun x hx => ?_, List.Pairwise.imp_of_mem ?_ hl.srt⟩
    · unfold cutX
      split
      · exact List.pairwise_singleton _ _
      · rename_i q
        simp only [Bool.or_eq_true, not_or, decide_eq_true_eq, Bool.not_eq_true', Bool.not_eq_false, same_iff] at q
        rw [List.pairwise_append]
        refine ⟨by split <;> simp, by split <;> simp, fun a ha b hb => ?_⟩
        split at ha
        · split at hb
          · rw [List.mem_singleton.1 ha, List.mem_singleton.1 hb]
            exact .inr ⟨rfl, .inr ⟨rfl, .inr ⟨rfl, .inr ⟨fun e => r3 (q.1.1.1.1.symm.trans e), hs.1⟩⟩⟩⟩
          · cases hb
        · cases ha
    · intro x y hx hy hb a ha b hbm
      have h1 := hm x hx a ha
      have h2 := hm y hy b hbm
      rcases h1 with rfl | ⟨x3, k1, a3, _, p1, p2, p3⟩
      · rcases h2 with rfl | ⟨y3, k2, b3, _, q1, q2, q3⟩
        · exact hb
        · obtain ⟨c1, c2, c3⟩ := (keyS_iff _ _).1 k2
          unfold bh at *
          omega
      · obtain ⟨d1, d2, d3⟩ := (keyS_iff _ _).1 k1
        rcases h2 with rfl | ⟨y3, k2, b3, _, q1, q2, q3⟩
        · unfold bh at *
          omega
        · obtain ⟨c1, c2, c3⟩ := (keyS_iff _ _).1 k2
          unfold bh at *
          omega
  · obtain ⟨x, hx, hz⟩ := List.mem_flatMap.1 hz
    rcases hm x hx z hz with rfl | ⟨_, _, _, q1, _, _, q2⟩
    · exact hl.span _ hx h3
    · exact ⟨q2, q1⟩
  · obtain ⟨x, hx, hz⟩ := List.mem_flatMap.1 hz
    rcases hm x hx z hz with rfl | ⟨_, _, q, _⟩
    · exact hl.sum _ hx h3
    · exact absurd h3 q
  · constructor
    · rintro ⟨z, hz, z3, zk, z1, z2⟩
      obtain ⟨x, hx, hz⟩ := List.mem_flatMap.1 hz
      have hc := hm x hx z hz
      refine ⟨?_, fun ⟨_, rk, r1, r2⟩ => ?_⟩
      · rcases hc with rfl | ⟨q1, q2, q3, q4, q5, q6, q7⟩
        · exact ⟨z, hx, z3, zk, z1, z2⟩
        · exact ⟨x, hx, q1, by rw [← q2]; exact zk, by omega, by omega⟩
      · have ek : keyS z = keyS r := zk.trans rk.symm
        obtain ⟨c1, c2, c3⟩ := (keyS_iff _ _).1 ek
        unfold cutX at hz
        split at hz
        · rename_i q
          have hzx := List.mem_singleton.1 hz
          subst hzx
          have : sameB z r = true := (same_iff _ _).2 ⟨⟨c1, c2, c3⟩, fun q => absurd q z3⟩
          simp only [this, Bool.not_true, Bool.false_or, Bool.or_eq_true, decide_eq_true_eq] at q
          omega
        · rcases List.mem_append.1 hz with hz | hz
          · split at hz
            · rw [List.mem_singleton.1 hz] at z2
              have z2 : n < r.lo := z2
              omega
            · cases hz
          · split at hz
            · rw [List.mem_singleton.1 hz] at z1
              have z1 : r.hi ≤ n := z1
              omega
            · cases hz
    · rintro ⟨⟨x, hx, x3, xk, x1, x2⟩, hn⟩
      by_cases hc : ((!sameB x r || decide (r.hi ≤ x.lo)) || decide (x.hi ≤ r.lo)) = true
      · exact ⟨x, List.mem_flatMap.2 ⟨x, hx, by unfold cutX; rw [if_pos hc]; simp⟩, x3, xk, x1, x2⟩
      · have hc' := hc
        simp only [Bool.or_eq_true, not_or, decide_eq_true_eq, Bool.not_eq_true', Bool.not_eq_false, same_iff] at hc'
        have ek : keyS r = k := ((keyS_iff _ _).2 ⟨hc'.1.1.1.1.symm, hc'.1.1.1.2.1.symm, hc'.1.1.1.2.2.symm⟩).trans xk
        have hn' : ¬ (r.lo ≤ n ∧ n < r.hi) := fun q => hn ⟨r3, ek, q⟩
        by_cases q : n < r.lo
        · refine ⟨{ x with hi := r.lo }, List.mem_flatMap.2 ⟨x, hx, ?_⟩, x3, xk, x1, q⟩
          unfold cutX
          rw [if_neg hc, if_pos (by omega)]; simp
        · refine ⟨{ x with lo := r.hi }, List.mem_flatMap.2 ⟨x, hx, ?_⟩, x3, xk, by show r.hi ≤ n; omega, x2⟩
          unfold cutX
          rw [if_neg hc, if_pos (show r.hi < x.hi by omega)]; simp
  · clear hm
    induction l with
    | nil => rfl
    | cons x l ih =>
      have e : cutP (x :: l) r = cutX r x ++ cutP l r := by unfold cutP; rw [List.flatMap_cons]
      rw [e, amL_cons]
      by_cases x3 : x.kind = 3
      · have e2 : cutX r x = [x] := by
          unfold cutX
          rw [if_pos]
          have : sameB x r = false := by
            rw [Bool.eq_false_iff]; intro q; rw [same_iff] at q; omega
          simp [this]
        rw [e2, List.cons_append, List.nil_append, amL_cons, ih hl.tail]
      · rw [if_neg (fun q => x3 q.1), amL_append, ih hl.tail]
        intro z hz z3
        rcases cutX_mem hr r3 (hl.rg (by simp)) hz with rfl | ⟨_, _, q, _⟩
        · exact absurd z3 x3
        · exact absurd z3 q
def withA (dev : Int) (l : List Rt) (done : Bool) : List Ow → List Ow
  | [] => if done then [] else [⟨dev, l⟩]
  | w :: o => (if w.dev ≥ dev ∧ done = false then [⟨dev, l⟩] else []) ++ ((if w.dev ≠ dev then [w] else []) ++ withA dev l (done || decide (w.dev ≥ dev)) o)
def withP (o : List Ow) (dev : Int) (l : List Rt) : List Ow := withA dev l (decide (l.length = 0)) o
structure WithS (o : List Ow) (dev : Int) (l : List Rt) (o' : List Ow) : Prop where
  nfo : NFO o'
  rts : ∀ d, rtsOf o' d = if d = dev then l else rtsOf o d
theorem withA_done (dev : Int) (l : List Rt) : ∀ o : List Ow, withA dev l true o = o.filter fun w => decide (w.dev ≠ dev)
  | [] => rfl
  | w :: o => by
    rw [withA, if_neg (by simp), Bool.true_or, withA_done dev l o]
    by_cases h : w.dev ≠ dev
    · rw [if_pos h, List.filter_cons_of_pos (by simpa using h)]; rfl
    · rw [if_neg h, List.filter_cons_of_neg (by simpa using h)]; rfl
theorem rtsOf_filter (dev d : Int) (o : List Ow) (h : d ≠ dev) : rtsOf (o.filter fun w => decide (w.dev ≠ dev)) d = rtsOf o d := by
  induction o with
  | nil => rfl
  | cons w o ih =>
    by_cases e : w.dev ≠ dev
    · rw [List.filter_cons_of_pos (by simpa using e), rtsOf, rtsOf, ih]
    · rw [List.filter_cons_of_neg (by simpa using e), rtsOf, if_neg (by omega), ih]
theorem withA_mem (dev : Int) (l : List Rt) : ∀ (o : List Ow) (done : Bool), ∀ w ∈ withA dev l done o, w = ⟨dev, l⟩ ∨ w ∈ o ∧ w.dev ≠ dev
  | [], done, w, h => by
    rw [withA] at h
    split at h
    · cases h
    · exact .inl (List.mem_singleton.1 h)
  | x :: o, done, w, h => by
    rw [withA, List.mem_append, List.mem_append] at h
    rcases h with h | h | h
    · split at h
      · exact .inl (List.mem_singleton.1 h)
      · cases h
    · split at h
      · rw [List.mem_singleton.1 h]; exact .inr ⟨by simp, by assumption⟩
      · cases h
    · rcases withA_mem dev l o _ w h with q | q
      · exact .inl q
      · exact .inr ⟨List.mem_cons_of_mem _ q.1, q.2⟩
theorem withA_sem (dev : Int) (l : List Rt) : ∀ (o : List Ow), (o.Pairwise fun a b => a.dev < b.dev) → ((withA dev l false o).Pairwise fun a b => a.dev < b.dev) ∧ ∀ d, rtsOf (withA dev l false o) d = if d = dev then l else rtsOf o d
  | [], _ => by
    refine ⟨by simp [withA], fun d => ?_⟩
    rw [withA, if_neg (by simp)]
    show (if dev = d then l else []) = if d = dev then l else []
    by_cases h : d = dev
    · rw [if_pos h.symm, if_pos h]
    · rw [if_neg (fun e => h e.symm), if_neg h]
  | x :: o, hp => by
    obtain ⟨h1, h2⟩ := List.pairwise_cons.1 hp
    rw [withA]
    by_cases c : x.dev ≥ dev
    · rw [if_pos ⟨c, rfl⟩, Bool.false_or, decide_eq_true c, withA_done]
      have hf : (o.filter fun w => decide (w.dev ≠ dev)).Pairwise fun a b => a.dev < b.dev := h2.filter _
      have e : ((if x.dev ≠ dev then [x] else []) ++ o.filter fun w => decide (w.dev ≠ dev)) = (x :: o).filter fun w => decide (w.dev ≠ dev) := by
        by_cases q : x.dev ≠ dev
        · rw [if_pos q, List.filter_cons_of_pos (by simpa using q)]; rfl
        · rw [if_neg q, List.filter_cons_of_neg (by simpa using q)]; rfl
      rw [e]
      refine ⟨List.pairwise_cons.2 ⟨fun b hb => ?_, hp.filter _⟩, fun d => ?_⟩
      · obtain ⟨b1, b2⟩ := List.mem_filter.1 hb
        have b2 : b.dev ≠ dev := by simpa using b2
        show dev < b.dev
        rcases List.mem_cons.1 b1 with rfl | b1
        · omega
        · have := h1 b b1; omega
      · show (if dev = d then l else rtsOf ((x :: o).filter fun w => decide (w.dev ≠ dev)) d) = _
        by_cases q : d = dev
        · rw [if_pos q.symm, if_pos q]
        · rw [if_neg (fun e => q e.symm), if_neg q, rtsOf_filter _ _ _ q]
    · have c2 : x.dev ≠ dev := by omega
      rw [if_neg (fun q => c q.1), if_pos c2, Bool.false_or, decide_eq_false c]
      obtain ⟨g1, g2⟩ := withA_sem dev l o h2
      refine ⟨List.pairwise_cons.2 ⟨fun b hb => ?_, g1⟩, fun d => ?_⟩
      · rcases withA_mem dev l o false b hb with rfl | ⟨q, _⟩
        · show x.dev < dev; omega
        · exact h1 b q
      · show (if x.dev = d then x.rights else rtsOf (withA dev l false o) d) = _
        rw [rtsOf, g2]
        by_cases q : d = dev
        · rw [if_pos q, if_neg (by omega), if_pos q]
        · rw [if_neg q, if_neg q]
theorem with_sem {o : List Ow} (ho : NFO o) (dev : Int) {l : List Rt} (hl : NF l) : WithS o dev l (withP o dev l) := by
  unfold withP
  by_cases h0 : l.length = 0
  · have h0 : l = [] := List.length_eq_zero_iff.1 h0
    subst h0
    rw [show decide (([] : List Rt).length = 0) = true from rfl, withA_done]
    refine ⟨⟨ho.devs.filter _, fun w hw => ho.some_ w (List.mem_filter.1 hw).1, fun w hw => ho.nf w (List.mem_filter.1 hw).1⟩, fun d => ?_⟩
    by_cases q : d = dev
    · rw [if_pos q]
      refine rtsOf_none fun w hw => ?_
      have := (List.mem_filter.1 hw).2
      have : w.dev ≠ dev := by simpa using this
      omega
    · rw [if_neg q, rtsOf_filter _ _ _ q]
  · rw [decide_eq_false h0]
    obtain ⟨g1, g2⟩ := withA_sem dev l o ho.devs
    refine ⟨⟨g1, fun w hw => ?_, fun w hw => ?_⟩, g2⟩
    · rcases withA_mem dev l o false w hw with rfl | ⟨q, _⟩
      · intro e; exact h0 (by rw [show l = [] from e]; rfl)
      · exact ho.some_ w q
    · rcases withA_mem dev l o false w hw with rfl | ⟨q, _⟩
      · exact hl
      · exact ho.nf w q
end Go.Proofs.Ytbcdgocepnkpeaa
