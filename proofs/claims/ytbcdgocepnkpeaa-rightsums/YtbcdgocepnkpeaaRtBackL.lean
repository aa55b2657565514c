import Derived.Test.YtbcdgocepnkpeaaRtSem3
import Derived.Test.YtbcdgocepnkpeaaRtGiveL
set_option linter.unusedSimpArgs false
set_option linter.unusedVariables false
namespace Go.Proofs.Ytbcdgocepnkpeaa
open Go Go.Abs
set_option maxRecDepth 10000
set_option maxHeartbeats 2000000
structure HandG (s : Sc) (o : List Ow) (a b : Int) (r : Rt) : Prop where
  canon : CanonO s o
  ha : 1 ≤ a ∧ a ≤ 64
  hb : 1 ≤ b ∧ b ≤ 64
  ne : a ≠ b
  right : rightE s r = 0
  holds : holdsP s o a r = true
  nov : r.kind = 3 → ¬ amL (rtsOf o b) (keyA r) + r.amt > 1099511627776
theorem handP_good {s : Sc} {o : List Ow} {a b : Int} {r : Rt} (h : HandG s o a b r) : (handP s o a b r).2 = 0 ∧ HandS o a b r (handP s o a b r).1 := by
  have hn := h.canon.nfo
  have hrg := rg_of h.right
  unfold handP
  rw [if_neg (fun q => q ⟨⟨⟨(canon_iff s o).2 h.canon, by have := h.ha; simp [deviceB]; omega⟩, by have := h.hb; simp [deviceB]; omega⟩, h.ne⟩), if_neg (fun q => q h.right), if_neg (by rw [h.holds]; simp)]
  by_cases h3 : r.kind = 3
  · rw [if_pos h3, if_neg (h.nov h3)]
    exact ⟨rfl, handO_sum hn h.ne hrg h3⟩
  · rw [if_neg h3]
    exact ⟨rfl, handO_span hn h.ne hrg h3⟩
theorem handP_eq {s : Sc} {o : List Ow} {a b : Int} {r : Rt} (h : HandG s o a b r) {l : List Ow} (hl : HandS o a b r l) : handP s o a b r = (l, 0) := by
  obtain ⟨h1, h2⟩ := handP_good h
  rw [← h1, ← h2.uniq hl]
theorem handP_bad {s : Sc} {o : List Ow} {a b : Int} {r : Rt} (h : ¬ HandG s o a b r) : (handP s o a b r).2 ≠ 0 ∧ (handP s o a b r).1 = [] := by
  unfold handP
  split
  · exact ⟨by simp, rfl⟩
  rename_i c1
  split
  · rename_i c2; exact ⟨c2, rfl⟩
  rename_i c2
  split
  · exact ⟨by simp, rfl⟩
  rename_i c3
  have c1 := Decidable.of_not_not c1
  have hg : (r.kind = 3 → ¬ amL (rtsOf o b) (keyA r) + r.amt > 1099511627776) → False := fun q => h ⟨(canon_iff s o).1 c1.1.1.1, by have := c1.1.1.2; simp [deviceB] at this; omega, by have := c1.1.2; simp [deviceB] at this; omega, c1.2, Decidable.of_not_not c2, by simpa using c3, q⟩
  split
  · rename_i c4
    split
    · exact ⟨by simp, rfl⟩
    · rename_i c5; exact (hg fun _ => c5).elim
  · rename_i c4; exact (hg fun q => absurd q c4).elim
theorem HandG.lt {s : Sc} {o : List Ow} {a b : Int} {r : Rt} (h : HandG s o a b r) (h3 : r.kind ≠ 3) : r.lo < r.hi := ((rg_of h.right).span h3).1
theorem HandG.cov {s : Sc} {o : List Ow} {a b : Int} {r : Rt} (h : HandG s o a b r) {k : Of} {n : Int} (hi : inR r k n) : cvR (rtsOf o a) k n := by
  have := ((holds_sem h.canon a r).1 h.holds).2.2 hi.1 n hi.2.2.1 hi.2.2.2
  rw [hi.2.1] at this; exact this
theorem HandG.next {s : Sc} (hs : FewS s) {o : List Ow} {a b : Int} {r : Rt} (h : HandG s o a b r) {l : List Ow} (hl : HandS o a b r l) : CanonO s l := hand_canon hs h.canon h.hb h.ne h.holds h.nov hl
theorem HandG.got {s : Sc} (hs : FewS s) {o : List Ow} {a b : Int} {r : Rt} (h : HandG s o a b r) {l : List Ow} (hl : HandS o a b r l) : holdsP s l b r = true := by
  have hc := h.next hs hl
  refine (holds_sem hc b r).2 ⟨⟨h.right, h.hb⟩, fun h3 => ?_, fun h3 n h1 h2 => ?_⟩
  · obtain ⟨ht, hm⟩ := rightE_ok.1 h.right
    have hm := (mayR_sum h3).1 hm
    rw [h3] at ht
    have hb0 := budget_nn hs h.canon b r.table r.col r.lo
    rw [budget_sem h.canon h.hb ht hm.1] at hb0
    rw [budget_sem hc h.hb ht hm.1, hl.am, if_neg (fun e => h.ne e.symm), if_pos rfl]
    have : add0 r ⟨3, r.table, r.col, r.lo⟩ = r.amt := if_pos ⟨h3, by unfold keyA; rw [h3]⟩
    rw [this]; omega
  · exact (hl.cv b (keyS r) n).2 (.inr ⟨rfl, h3, rfl, h1, h2⟩)
theorem HandG.backS {s : Sc} {o : List Ow} {a b : Int} {r : Rt} (h : HandG s o a b r) {l : List Ow} (hl : HandS o a b r l) : HandS l b a r o := by
  have hne := h.ne
  have ho := (canon_sem.1 h.canon).2
  refine ⟨h.canon.nfo, fun d k n => ?_, fun d k => ?_⟩
  · rw [hl.cv]
    by_cases hi : inR r k n
    · have hca := h.cov hi
      constructor
      · intro hc
        by_cases e : d = a
        · exact .inr ⟨e, hi⟩
        · refine .inl ⟨.inl ⟨hc, fun q => e q.1⟩, fun q => ?_⟩
          exact ho.apart d a k n e hc hca
      · rintro (⟨q | q, q2⟩ | ⟨rfl, _⟩)
        · exact q.1
        · exact absurd q q2
        · exact hca
    · constructor
      · intro hc; exact .inl ⟨.inl ⟨hc, fun q => hi q.2⟩, fun q => hi q.2⟩
      · rintro (⟨q | q, _⟩ | ⟨_, q⟩)
        · exact q.1
        · exact absurd q.2 hi
        · exact absurd q hi
  · rw [hl.am]
    by_cases e1 : d = a
    · subst e1
      rw [if_pos rfl, if_neg hne]; omega
    · rw [if_neg e1]
      by_cases e2 : d = b
      · rw [if_pos e2]; omega
      · rw [if_neg e2]; omega
theorem HandG.back {s : Sc} (hs : FewS s) {o : List Ow} {a b : Int} {r : Rt} (h : HandG s o a b r) {l : List Ow} (hl : HandS o a b r l) : HandG s l b a r := by
  refine ⟨h.next hs hl, h.hb, h.ha, fun e => h.ne e.symm, h.right, h.got hs hl, fun h3 => ?_⟩
  have e : add0 r (keyA r) = r.amt := if_pos ⟨h3, rfl⟩
  rw [hl.am, if_pos rfl, if_neg h.ne, e]
  by_cases q : amL (rtsOf o a) (keyA r) = 0
  · omega
  · have := ((canon_sem.1 h.canon).2.am a (keyA r) q).2.2.1; omega
theorem HandG.budget {s : Sc} (hs : FewS s) {o : List Ow} {a b : Int} {r : Rt} (h : HandG s o a b r) {l : List Ow} (hl : HandS o a b r l) (h3 : r.kind = 3) : budgetP s l a r.table r.col r.lo = budgetP s o a r.table r.col r.lo - r.amt := by
  obtain ⟨ht, hm⟩ := rightE_ok.1 h.right
  have hm := (mayR_sum h3).1 hm
  rw [h3] at ht
  have : add0 r ⟨3, r.table, r.col, r.lo⟩ = r.amt := if_pos ⟨h3, by unfold keyA; rw [h3]⟩
  rw [budget_sem (h.next hs hl) h.ha ht hm.1, budget_sem h.canon h.ha ht hm.1, hl.am, if_pos rfl, if_neg h.ne, this]; omega
theorem HandG.gone {s : Sc} (hs : FewS s) {o : List Ow} {a b : Int} {r : Rt} (h : HandG s o a b r) {l : List Ow} (hl : HandS o a b r l) {x : Rt} (h3 : r.kind ≠ 3) (hk : keyS x = keyS r) (h1 : r.lo ≤ x.lo) (h2 : x.lo < r.hi) (hx : x.lo < x.hi) : holdsP s l a x = false := by
  rw [Bool.eq_false_iff]; intro hh
  obtain ⟨k1, k2, k3⟩ := (keyS_iff _ _).1 hk
  have := ((holds_sem (h.next hs hl) a x).1 hh).2.2 (by omega) x.lo (Int.le_refl _) hx
  rcases (hl.cv a (keyS x) x.lo).1 this with ⟨_, q⟩ | ⟨q, _⟩
  · exact q ⟨rfl, h3, hk.symm, h1, h2⟩
  · exact h.ne q
theorem right_part {s : Sc} {r x : Rt} (hr : rightE s r = 0) (h3 : r.kind ≠ 3) (hk : keyS x = keyS r) (ha : x.amt = r.amt) (h1 : r.lo ≤ x.lo) (h2 : x.hi ≤ r.hi) (hx : x.lo < x.hi) : rightE s x = 0 := by
  obtain ⟨k1, k2, k3⟩ := (keyS_iff _ _).1 hk
  obtain ⟨ht, hm⟩ := rightE_ok.1 hr
  have hm := (mayR_span h3).1 hm
  exact rightE_ok.2 ⟨by rw [k1, k2, k3]; exact ht, (mayR_span (by omega)).2 (by omega)⟩
theorem HandG.part {s : Sc} {o : List Ow} {a b : Int} {r : Rt} (h : HandG s o a b r) {x : Rt} (h3 : r.kind ≠ 3) (hk : keyS x = keyS r) (ha : x.amt = r.amt) (h1 : r.lo ≤ x.lo) (h2 : x.hi ≤ r.hi) (hx : x.lo < x.hi) : HandG s o a b x := by
  obtain ⟨k1, k2, k3⟩ := (keyS_iff _ _).1 hk
  refine ⟨h.canon, h.ha, h.hb, h.ne, right_part h.right h3 hk ha h1 h2 hx, (holds_sem h.canon a x).2 ⟨⟨right_part h.right h3 hk ha h1 h2 hx, h.ha⟩, fun q => absurd (k1.symm.trans q) h3, fun _ n q1 q2 => ?_⟩, fun q => absurd (k1.symm.trans q) h3⟩
  rw [hk]
  exact ((holds_sem h.canon a r).1 h.holds).2.2 h3 n (by omega) (by omega)
theorem HandG.two {s : Sc} (hs : FewS s) {o : List Ow} {a b : Int} {r : Rt} (h : HandG s o a b r) (h3 : r.kind ≠ 3) {m : Int} (h1 : r.lo < m) (h2 : m < r.hi) {c : List Ow} (hc : HandS o a b { r with lo := m } c) : HandG s c a b { r with hi := m } ∧ ∀ d, HandS c a b { r with hi := m } d → HandS o a b r d := by
  have hy := h.part (x := { r with lo := m }) h3 rfl rfl (by show r.lo ≤ m; omega) (Int.le_refl _) h2
  have hx := h.part (x := { r with hi := m }) h3 rfl rfl (Int.le_refl _) (by show m ≤ r.hi; omega) h1
  have hin : ∀ k n, inR r k n ↔ inR { r with lo := m } k n ∨ inR { r with hi := m } k n := fun k n => by
    unfold inR
    show (r.kind ≠ 3 ∧ keyS r = k ∧ r.lo ≤ n ∧ n < r.hi) ↔ (r.kind ≠ 3 ∧ keyS r = k ∧ m ≤ n ∧ n < r.hi) ∨ (r.kind ≠ 3 ∧ keyS r = k ∧ r.lo ≤ n ∧ n < m)
    constructor
    · rintro ⟨q1, q2, q3, q4⟩
      by_cases e : m ≤ n
      · exact .inl ⟨q1, q2, e, q4⟩
      · exact .inr ⟨q1, q2, q3, by omega⟩
    · rintro (⟨q1, q2, q3, q4⟩ | ⟨q1, q2, q3, q4⟩)
      · exact ⟨q1, q2, by omega, q4⟩
      · exact ⟨q1, q2, q3, by omega⟩
  have hcan := hy.next hs hc
  refine ⟨⟨hcan, h.ha, h.hb, h.ne, hx.right, (holds_sem hcan a _).2 ⟨⟨hx.right, h.ha⟩, fun q => absurd q h3, fun _ n q1 q2 => (hc.cv a _ n).2 (.inl ⟨?_, ?_⟩)⟩, fun q => absurd q h3⟩, fun d hd => ⟨hd.nfo, fun e k n => ?_, fun e k => ?_⟩⟩
  · exact hx.cov ⟨h3, rfl, q1, q2⟩
  · rintro ⟨_, _, _, q3, _⟩
    have q3 : m ≤ n := q3
    have q2 : n < m := q2
    omega
  · rw [hd.cv, hc.cv, hin]
    constructor
    · rintro (⟨⟨q1, q2⟩ | ⟨q1, q2⟩, q3⟩ | ⟨q1, q2⟩)
      · exact .inl ⟨q1, fun q => q.2.elim (fun i => q2 ⟨q.1, i⟩) fun i => q3 ⟨q.1, i⟩⟩
      · exact .inr ⟨q1, .inl q2⟩
      · exact .inr ⟨q1, .inr q2⟩
    · rintro (⟨q1, q2⟩ | ⟨q1, q2 | q2⟩)
      · exact .inl ⟨.inl ⟨q1, fun q => q2 ⟨q.1, .inl q.2⟩⟩, fun q => q2 ⟨q.1, .inr q.2⟩⟩
      · refine .inl ⟨.inr ⟨q1, q2⟩, fun q => h.ne (q.1.symm.trans q1)⟩
      · exact .inr ⟨q1, q2⟩
  · rw [hd.am, hc.am, add3 (r := { r with hi := m }) h3, add3 (r := { r with lo := m }) h3, add3 h3]
    split <;> split <;> omega
structure GiveG (s : Sc) (o : List Ow) (a b : Int) : Prop where
  canon : CanonO s o
  ha : 1 ≤ a ∧ a ≤ 64
  hb : 1 ≤ b ∧ b ≤ 64
  h1 : a ≠ 1
  ne : a ≠ b
  nov : ∀ k, ¬ amL (rtsOf o b) k + amL (rtsOf o a) k > 1099511627776
theorem giveP_cases (s : Sc) (hs : FewS s) (o : List Ow) (a b : Int) : ((giveP s o a b).2 = 0 ∧ GiveG s o a b ∧ GiveS o a b (giveP s o a b).1) ∨ ((giveP s o a b).2 ≠ 0 ∧ (giveP s o a b).1 = []) := by
  unfold giveP
  split
  · exact .inr ⟨by simp, rfl⟩
  rename_i c1
  have c1 := Decidable.of_not_not c1
  have hc := (canon_iff s o).1 c1.1.1.1.1
  have hn := hc.nfo
  have ha : 1 ≤ a ∧ a ≤ 64 := by have := c1.1.1.1.2; simpa [deviceB] using this
  have hb : 1 ≤ b ∧ b ≤ 64 := by have := c1.1.1.2; simpa [deviceB] using this
  have w1 := with_sem hn a NF.nil
  have hab := c1.2
  have e1 : rtsOf (withP o a []) b = rtsOf o b := by rw [w1.rts, if_neg (fun q => hab q.symm)]
  by_cases hov : ∃ r ∈ rtsOf o a, r.kind = 3 ∧ amL (rtsOf (withP o a []) b) (keyA r) + r.amt > 1099511627776
  · rw [giveA_over b _ _ (hn.get a) w1.nfo hov]
    exact .inr ⟨by simp, rfl⟩
  · obtain ⟨i1, i2, i3, i4, i5⟩ := giveA_ok b (rtsOf o a) (withP o a []) (hn.get a) w1.nfo fun r hr r3 q => hov ⟨r, hr, r3, q⟩
    refine .inl ⟨i1, ⟨hc, ha, hb, c1.1.2, hab, fun k hk => ?_⟩, ⟨i2, fun d k n => ?_, fun d k => ?_⟩⟩
    · have hb2 : amL (rtsOf o b) k ≤ 1099511627776 := by
        by_cases q : amL (rtsOf o b) k = 0
        · omega
        · exact ((canon_sem.1 hc).2.am b k q).2.2.1
      obtain ⟨r, hr, r3, rk, ra⟩ := amL_some (R := rtsOf o a) (k := k) (by omega)
      exact hov ⟨r, hr, r3, by rw [e1, rk, ra]; exact hk⟩
    · by_cases q : d = b
      · subst q
        rw [i4, e1]
        exact ⟨fun h => h.elim (fun h => .inl ⟨fun q => hab q.symm, h⟩) fun h => .inr ⟨rfl, h⟩, fun h => h.elim (fun h => .inl h.2) fun h => .inr h.2⟩
      · rw [i3 d q, w1.rts]
        by_cases q2 : d = a
        · rw [if_pos q2]
          exact ⟨fun h => absurd h (cvR_nil k n), fun h => h.elim (fun h => absurd q2 h.1) fun h => absurd h.1 q⟩
        · rw [if_neg q2]
          exact ⟨fun h => .inl ⟨q2, h⟩, fun h => h.elim (fun h => h.2) fun h => absurd h.1 q⟩
    · by_cases q : d = b
      · subst q
        rw [i5, e1, if_neg (fun q => hab q.symm), if_pos rfl]
      · rw [i3 d q, w1.rts, if_neg q]
        by_cases q2 : d = a
        · rw [if_pos q2, if_pos q2]; rfl
        · rw [if_neg q2, if_neg q2]; omega
theorem give_canon {s : Sc} (hs : FewS s) {o : List Ow} {a b : Int} (h : GiveG s o a b) {l : List Ow} (hl : GiveS o a b l) : CanonO s l := by
  obtain ⟨hn, ho⟩ := canon_sem.1 h.canon
  have hab := h.ne
  refine canon_sem.2 ⟨hl.nfo, fun d hd => ?_, fun d k n hc => ?_, fun d k hk => ?_, fun d d' k n hne h1 h2 => ?_⟩
  · apply Decidable.byContradiction; intro q
    have e0 : rtsOf o d = [] := Decidable.byContradiction fun e => q (ho.dev d e)
    have d1 : d ≠ a := fun e => q (by have := h.ha; omega)
    have d2 : d ≠ b := fun e => q (by have := h.hb; omega)
    refine hd (rtsOf_of_sem (hl.nfo.get d) (fun k n hc => ?_) fun k => ?_)
    · rcases (hl.cv d k n).1 hc with ⟨_, q1⟩ | ⟨q1, _⟩
      · rw [e0] at q1; exact cvR_nil k n q1
      · exact d2 q1
    · rw [hl.am, if_neg d1, if_neg d2, e0]; rfl
  · rcases (hl.cv d k n).1 hc with ⟨_, q1⟩ | ⟨_, q1⟩
    · exact ho.cv d k n q1
    · exact ho.cv a k n q1
  · rw [hl.am] at hk ⊢
    by_cases q1 : d = a
    · rw [if_pos q1, if_neg (fun e => hab (q1.symm.trans e))] at hk
      exact absurd rfl hk
    · rw [if_neg q1] at hk ⊢
      by_cases q2 : d = b
      · subst q2
        rw [if_pos rfl] at hk ⊢
        have hnov := h.nov k
        by_cases za : amL (rtsOf o a) k = 0
        · rw [za, Int.add_zero] at hk ⊢
          exact ho.am d k hk
        · obtain ⟨p1, p2, p3, p4, p5⟩ := ho.am a k za
          have p5 := p5 h.h1
          refine ⟨p1, p2, by omega, fun e => ?_, fun e => ?_⟩
          · by_cases zb : amL (rtsOf o d) k = 0
            · have := max_ok hs p1; omega
            · have := (ho.am d k zb).2.2.2.1 e; omega
          · by_cases zb : amL (rtsOf o d) k = 0
            · omega
            · have := (ho.am d k zb).2.2.2.2 e; omega
      · rw [if_neg q2, Int.add_zero] at hk ⊢
        exact ho.am d k hk
  · have hcv : ∀ d, cvR (rtsOf l d) k n → d ≠ a ∧ (cvR (rtsOf o d) k n ∨ (d = b ∧ cvR (rtsOf o a) k n)) := fun d hc => by
      rcases (hl.cv d k n).1 hc with ⟨q, q1⟩ | ⟨q, q1⟩
      · exact ⟨q, .inl q1⟩
      · exact ⟨fun e => hab (e.symm.trans q), .inr ⟨q, q1⟩⟩
    obtain ⟨a1, a2⟩ := hcv d h1
    obtain ⟨b1, b2⟩ := hcv d' h2
    rcases a2 with a2 | ⟨a2, a3⟩
    · rcases b2 with b2 | ⟨b2, b3⟩
      · exact ho.apart d d' k n hne a2 b2
      · exact ho.apart d a k n a1 a2 b3
    · rcases b2 with b2 | ⟨b2, b3⟩
      · exact ho.apart d' a k n b1 b2 a3
      · exact hne (a2.trans b2.symm)
end Go.Proofs.Ytbcdgocepnkpeaa
