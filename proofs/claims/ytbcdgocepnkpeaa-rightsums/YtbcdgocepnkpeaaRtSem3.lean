import Derived.Test.YtbcdgocepnkpeaaRtEq
set_option linter.unusedSimpArgs false
set_option linter.unusedVariables false
namespace Go.Proofs.Ytbcdgocepnkpeaa
open Go Go.Abs
set_option maxRecDepth 10000
set_option maxHeartbeats 2000000
structure SemOk (s : Sc) (l : List Ow) : Prop where
  dev : ∀ d, rtsOf l d ≠ [] → 1 ≤ d ∧ d ≤ 64
  cv : ∀ d k n, cvR (rtsOf l d) k n → thereP s k.kind k.table k.col = 0 ∧ 0 ≤ n ∧ n < 1073741824
  am : ∀ d k, amL (rtsOf l d) k ≠ 0 → thereP s 3 k.table k.col = 0 ∧ (-1099511627776 ≤ k.group ∧ k.group ≤ 1099511627776) ∧ amL (rtsOf l d) k ≤ 1099511627776 ∧ (d = 1 → 0 - maxOf s k.table k.col ≤ amL (rtsOf l d) k) ∧ (d ≠ 1 → 1 ≤ amL (rtsOf l d) k)
  apart : ∀ d d' k n, d ≠ d' → cvR (rtsOf l d) k n → ¬ cvR (rtsOf l d') k n
theorem canon_sem {s : Sc} {l : List Ow} : CanonO s l ↔ NFO l ∧ SemOk s l := by
  constructor
  · intro h
    have hn := h.nfo
    have hok : ∀ d, ∀ r ∈ rtsOf l d, (1 ≤ d ∧ d ≤ 64) ∧ OkR s d r := fun d r hr => by
      have hne : rtsOf l d ≠ [] := fun e => by rw [e] at hr; cases hr
      obtain ⟨w, hw, rfl, e⟩ := rtsOf_some hne
      rw [e] at hr
      exact ⟨(h.own w hw).dev, (h.own w hw).rts r hr⟩
    refine ⟨hn, fun d hd => ?_, fun d k n hc => ?_, fun d k ha => ?_, fun d d' k n hne h1 h2 => ?_⟩
    · obtain ⟨w, hw, rfl, _⟩ := rtsOf_some hd
      exact (h.own w hw).dev
    · obtain ⟨r, hr, r3, rk, r1, r2⟩ := hc
      have ho := (hok d r hr).2
      have hs := ho.span r3
      subst rk
      exact ⟨ho.there, by omega, by omega⟩
    · obtain ⟨r, hr, r3, rk, ra⟩ := amL_some ha
      have ho := (hok d r hr).2
      obtain ⟨q1, q2, q3, q4, q5, q6⟩ := ho.sum r3
      have ht := ho.there
      subst rk
      rw [r3] at ht
      rw [← ra]
      exact ⟨ht, q1, q3, q5, q6⟩
    · obtain ⟨x, hx, x3, xk, x1, x2⟩ := h1
      obtain ⟨r, hr, r3, rk, r1, r2⟩ := h2
      obtain ⟨w, hw, e1, ew⟩ := rtsOf_some (o := l) (d := d) fun e => by rw [e] at hx; cases hx
      obtain ⟨v, hv, e2, ev⟩ := rtsOf_some (o := l) (d := d') fun e => by rw [e] at hr; cases hr
      rw [ew] at hx
      rw [ev] at hr
      obtain ⟨k1, k2, k3⟩ := (keyS_iff _ _).1 (xk.trans rk.symm)
      have hap : ∀ x r : Rt, x.kind = r.kind → x.table = r.table → x.col = r.col → x.kind ≠ 3 → x.lo ≤ n → n < x.hi → r.lo ≤ n → n < r.hi → clashB x r = true := fun x r a b c d e f g i => by
        unfold clashB; simp only [Bool.and_eq_true, decide_eq_true_eq]; exact ⟨⟨⟨⟨⟨a, b⟩, c⟩, d⟩, by omega⟩, by omega⟩
      rcases pw_tri h.apart hw hv with e | e | e
      · rw [e] at e1; exact hne (e1.symm.trans e2)
      · have := e x hx r hr
        rw [hap x r k1 k2 k3 x3 x1 x2 r1 r2] at this; cases this
      · have := e r hr x hx
        rw [hap r x k1.symm k2.symm k3.symm r3 r1 r2 x1 x2] at this; cases this
  · rintro ⟨hn, h⟩
    have hrw : ∀ w ∈ l, rtsOf l w.dev = w.rights := fun w hw => rtsOf_mem hn.devs hw
    refine ⟨fun w hw => ⟨h.dev w.dev (by rw [hrw w hw]; exact hn.some_ w hw), hn.some_ w hw, fun r hr => ⟨?_, fun h3 => ?_, fun h3 => ?_⟩, (hn.nf w hw).srt⟩, hn.devs, ?_⟩
    · by_cases h3 : r.kind = 3
      · have ha := amL_of (hn.nf w hw) hr h3
        have := (h.am w.dev (keyA r) (by rw [hrw w hw, ha]; exact ((hn.nf w hw).sum r hr h3).2)).1
        rw [h3]; exact this
      · have hs := (hn.nf w hw).span r hr h3
        exact (h.cv w.dev (keyS r) r.lo (by rw [hrw w hw]; exact ⟨r, hr, h3, rfl, Int.le_refl _, hs.1⟩)).1
    · have hs := (hn.nf w hw).span r hr h3
      have h1 := (h.cv w.dev (keyS r) r.lo (by rw [hrw w hw]; exact ⟨r, hr, h3, rfl, Int.le_refl _, hs.1⟩)).2
      have h2 := (h.cv w.dev (keyS r) (r.hi - 1) (by rw [hrw w hw]; exact ⟨r, hr, h3, rfl, by omega, by omega⟩)).2
      exact ⟨h1.1, hs.1, by omega, hs.2⟩
    · have ha := amL_of (hn.nf w hw) hr h3
      have hs := (hn.nf w hw).sum r hr h3
      obtain ⟨q1, q2, q3, q4, q5⟩ := h.am w.dev (keyA r) (by rw [hrw w hw, ha]; exact hs.2)
      rw [hrw w hw, ha] at q3 q4 q5
      exact ⟨q2, hs.1, q3, hs.2, q4, q5⟩
    · refine List.Pairwise.imp_of_mem ?_ hn.devs
      intro w v hw hv hlt x hx r hr
      rw [Bool.eq_false_iff]; intro hc
      unfold clashB at hc
      simp only [Bool.and_eq_true, decide_eq_true_eq] at hc
      obtain ⟨⟨⟨⟨⟨k1, k2⟩, k3⟩, x3⟩, c1⟩, c2⟩ := hc
      have hsx := (hn.nf w hw).span x hx x3
      have r3 : r.kind ≠ 3 := by omega
      have hsr := (hn.nf v hv).span r hr r3
      have hk : keyS r = keyS x := (keyS_iff _ _).2 ⟨k1.symm, k2.symm, k3.symm⟩
      refine h.apart w.dev v.dev (keyS x) (max x.lo r.lo) (by omega) ?_ ?_
      · rw [hrw w hw]; exact ⟨x, hx, x3, rfl, by omega, by omega⟩
      · rw [hrw v hv]; exact ⟨r, hr, r3, hk, by omega, by omega⟩
theorem budget_sem {s : Sc} {o : List Ow} (h : CanonO s o) {d t c g : Int} (hd : 1 ≤ d ∧ d ≤ 64) (ht : thereP s 3 t c = 0) (hg : -1099511627776 ≤ g ∧ g ≤ 1099511627776) : budgetP s o d t c g = amL (rtsOf o d) ⟨3, t, c, g⟩ + if d = 1 then maxOf s t c else 0 := by
  unfold budgetP
  rw [if_neg, amt_open h.nfo]
  simp only [not_or, Bool.not_eq_false, ne_eq, Decidable.not_not]
  exact ⟨(canon_iff s o).2 h, by simp [deviceB]; omega, ht, (fits_iff g).2 hg⟩
theorem budget_zero {s : Sc} {o : List Ow} {d t c g : Int} (h : ¬ ((1 ≤ d ∧ d ≤ 64) ∧ thereP s 3 t c = 0 ∧ -1099511627776 ≤ g ∧ g ≤ 1099511627776)) : budgetP s o d t c g = 0 := by
  unfold budgetP
  rw [if_pos]
  apply Decidable.byContradiction; intro q
  simp only [not_or, Bool.not_eq_false, ne_eq, Decidable.not_not] at q
  obtain ⟨q1, q2, q3, q4⟩ := q
  exact h ⟨by simpa [deviceB] using q2, q3, (fits_iff g).1 q4⟩
theorem holds_cov {R : List Rt} (h : NF R) {r : Rt} (hlt : r.lo < r.hi) : (∃ y ∈ R, y.kind ≠ 3 ∧ keyS y = keyS r ∧ y.lo ≤ r.lo ∧ r.hi ≤ y.hi) ↔ ∀ n, r.lo ≤ n → n < r.hi → cvR R (keyS r) n := by
  constructor
  · rintro ⟨y, hy, y3, yk, y1, y2⟩ n h1 h2
    exact ⟨y, hy, y3, yk, by omega, by omega⟩
  · intro hc
    obtain ⟨y, hy, y3, yk, y1, y2⟩ := hc r.lo (Int.le_refl _) hlt
    refine ⟨y, hy, y3, yk, y1, ?_⟩
    apply Decidable.byContradiction; intro q
    have := hc y.hi (by omega) (by omega)
    rw [← yk] at this
    exact (h.span_out hy y3).2 this
theorem mem_spOf {o : List Ow} (dev : Int) (r : Rt) (x : Sn) : x ∈ spOf (openP o) dev ⟨r.kind, r.table, r.col, 0⟩ ↔ ∃ y ∈ rtsOf o dev, y.kind ≠ 3 ∧ keyS y = keyS r ∧ x = ⟨y.lo, y.hi⟩ := by
  have hm : ∀ (rs : List Rt) (p : PD) (x : Sn), x ∈ (mget (keyS r) (rs.foldl addR p).sp).getD [] ↔ x ∈ (mget (keyS r) p.sp).getD [] ∨ ∃ y ∈ rs, y.kind ≠ 3 ∧ keyS y = keyS r ∧ x = ⟨y.lo, y.hi⟩ := fun rs => by
    induction rs with
    | nil => intro p x; simp
    | cons y rs ih =>
      intro p x
      rw [List.foldl_cons, ih]
      have e : (∃ z ∈ y :: rs, z.kind ≠ 3 ∧ keyS z = keyS r ∧ x = ⟨z.lo, z.hi⟩) ↔ (y.kind ≠ 3 ∧ keyS y = keyS r ∧ x = ⟨y.lo, y.hi⟩) ∨ ∃ z ∈ rs, z.kind ≠ 3 ∧ keyS z = keyS r ∧ x = ⟨z.lo, z.hi⟩ := by simp
      rw [e, ← or_assoc]
      refine or_congr_left ?_
      unfold addR
      split
      · rename_i y3
        exact ⟨.inl, fun h => h.elim id fun q => absurd y3 q.1⟩
      · rename_i y3
        simp only [mget_mset]
        by_cases q : keyS r = keyS y
        · rw [if_pos q, Option.getD_some, List.mem_append, List.mem_singleton, q]
          exact or_congr_right ⟨fun h => ⟨y3, rfl, h⟩, fun h => h.2.2⟩
        · rw [if_neg q]
          exact ⟨.inl, fun h => h.elim id fun z => absurd z.2.1.symm q⟩
  unfold spOf
  rw [findD_open]
  by_cases hd : dev ∈ o.map (·.dev)
  · rw [if_pos hd]
    show x ∈ (mget (keyS r) _).getD [] ↔ _
    rw [hm]
    exact ⟨fun h => h.elim (fun q => by cases q) id, .inr⟩
  · rw [if_neg hd, rtsOf_none (d := dev) fun w hw e => hd (by rw [← e]; exact List.mem_map.2 ⟨w, hw, rfl⟩)]
    simp
theorem holds_sem {s : Sc} {o : List Ow} (h : CanonO s o) (d : Int) (r : Rt) : holdsP s o d r = true ↔ (rightE s r = 0 ∧ 1 ≤ d ∧ d ≤ 64) ∧ (r.kind = 3 → budgetP s o d r.table r.col r.lo ≥ r.amt) ∧ (r.kind ≠ 3 → ∀ n, r.lo ≤ n → n < r.hi → cvR (rtsOf o d) (keyS r) n) := by
  have hc := (canon_iff s o).2 h
  unfold holdsP
  simp only [hc, Bool.true_and, Bool.and_eq_true, decide_eq_true_eq, deviceB]
  refine and_assoc.trans ?_
  by_cases hr : rightE s r = 0
  · by_cases h3 : r.kind = 3
    · rw [if_pos h3, decide_eq_true_eq]
      constructor
      · rintro ⟨a, b, c⟩; exact ⟨⟨a, by omega, by omega⟩, fun _ => c, fun q => absurd h3 q⟩
      · rintro ⟨⟨a, b1, b2⟩, c, _⟩; exact ⟨a, ⟨b1, b2⟩, c h3⟩
    · rw [if_neg h3]
      have hlt : r.lo < r.hi := (rg_of hr).span h3 |>.1
      have e : (spOf (openP o) d ⟨r.kind, r.table, r.col, 0⟩).any (inB r) = true ↔ ∀ n, r.lo ≤ n → n < r.hi → cvR (rtsOf o d) (keyS r) n := by
        rw [← holds_cov (h.nfo.get d) hlt, List.any_eq_true]
        constructor
        · rintro ⟨x, hx, hb⟩
          obtain ⟨y, hy, y3, yk, rfl⟩ := (mem_spOf d r x).1 hx
          unfold inB at hb
          simp only [Bool.and_eq_true, decide_eq_true_eq] at hb
          exact ⟨y, hy, y3, yk, hb.1, hb.2⟩
        · rintro ⟨y, hy, y3, yk, y1, y2⟩
          refine ⟨⟨y.lo, y.hi⟩, (mem_spOf d r _).2 ⟨y, hy, y3, yk, rfl⟩, ?_⟩
          unfold inB
          simp only [Bool.and_eq_true, decide_eq_true_eq]
          exact ⟨y1, y2⟩
      rw [e]
      constructor
      · rintro ⟨a, b, c⟩; exact ⟨⟨a, by omega, by omega⟩, fun q => absurd q h3, fun _ => c⟩
      · rintro ⟨⟨a, b1, b2⟩, _, c⟩; exact ⟨a, ⟨b1, b2⟩, c h3⟩
  · constructor
    · rintro ⟨a, _⟩; exact absurd a hr
    · rintro ⟨⟨a, _⟩, _⟩; exact absurd a hr
theorem budget_nn {s : Sc} (hs : FewS s) {o : List Ow} (h : CanonO s o) (d t c g : Int) : 0 ≤ budgetP s o d t c g := by
  by_cases q : (1 ≤ d ∧ d ≤ 64) ∧ thereP s 3 t c = 0 ∧ -1099511627776 ≤ g ∧ g ≤ 1099511627776
  · rw [budget_sem h q.1 q.2.1 q.2.2]
    have hm := max_ok hs q.2.1
    by_cases ha : amL (rtsOf o d) ⟨3, t, c, g⟩ = 0
    · rw [ha]; split <;> omega
    · obtain ⟨_, _, _, q4, q5⟩ := (canon_sem.1 h).2.am d ⟨3, t, c, g⟩ ha
      by_cases e : d = 1
      · rw [if_pos e]; have q4 : 0 - maxOf s t c ≤ _ := q4 e; omega
      · rw [if_neg e]; have := q5 e; omega
  · rw [budget_zero q]; exact Int.le_refl _
theorem rtsOf_of_sem {R : List Rt} (h : NF R) (hc : ∀ k n, ¬ cvR R k n) (ha : ∀ k, amL R k = 0) : R = [] :=
  h.ext NF.nil (fun k n => ⟨fun q => absurd q (hc k n), fun q => absurd q (cvR_nil k n)⟩) fun k => by rw [ha]; rfl
theorem hand_canon {s : Sc} (hs : FewS s) {o : List Ow} (h : CanonO s o) {a b : Int} (hb : 1 ≤ b ∧ b ≤ 64) (hab : a ≠ b) {r : Rt} (hh : holdsP s o a r = true) (hov : r.kind = 3 → ¬ amL (rtsOf o b) (keyA r) + r.amt > 1099511627776) {l : List Ow} (hl : HandS o a b r l) : CanonO s l := by
  obtain ⟨⟨hr, ha1, ha2⟩, hh3, hhs⟩ := (holds_sem h a r).1 hh
  obtain ⟨hn, ho⟩ := canon_sem.1 h
  obtain ⟨ht, hm⟩ := rightE_ok.1 hr
  refine canon_sem.2 ⟨hl.nfo, fun d hd => ?_, fun d k n hc => ?_, fun d k hk => ?_, fun d d' k n hne h1 h2 => ?_⟩
  · apply Decidable.byContradiction; intro q
    have e0 : rtsOf o d = [] := Decidable.byContradiction fun e => q (ho.dev d e)
    have d1 : d ≠ a := fun e => q (by omega)
    have d2 : d ≠ b := fun e => q (by omega)
    refine hd (rtsOf_of_sem (hl.nfo.get d) (fun k n hc => ?_) fun k => ?_)
    · rcases (hl.cv d k n).1 hc with ⟨q1, _⟩ | ⟨q1, _⟩
      · rw [e0] at q1; exact cvR_nil k n q1
      · exact d2 q1
    · rw [hl.am, if_neg d1, if_neg d2, e0]; rfl
  · rcases (hl.cv d k n).1 hc with ⟨q1, _⟩ | ⟨_, q3, q4, q5, q6⟩
    · exact ho.cv d k n q1
    · have := (mayR_span q3).1 hm
      subst q4
      exact ⟨ht, by omega, by omega⟩
  · rw [hl.am] at hk ⊢
    by_cases q : r.kind = 3 ∧ keyA r = k
    · obtain ⟨r3, rk⟩ := q
      subst rk
      have ea : add0 r (keyA r) = r.amt := if_pos ⟨r3, rfl⟩
      rw [ea] at hk ⊢
      have hm := (mayR_sum r3).1 hm
      have ht : thereP s 3 r.table r.col = 0 := by rw [← r3]; exact ht
      refine ⟨ht, hm.1, ?_⟩
      have hov := hov r3
      have hbu := hh3 r3
      rw [budget_sem h ⟨ha1, ha2⟩ ht hm.1] at hbu
      have ek : (⟨3, r.table, r.col, r.lo⟩ : Of) = keyA r := by unfold keyA; rw [r3]
      rw [ek] at hbu
      have hmx := max_ok hs ht
      have hb0 := budget_nn hs h d r.table r.col r.lo
      have hbd : ∀ d, amL (rtsOf o d) (keyA r) ≤ 1099511627776 := fun d => by
        by_cases e : amL (rtsOf o d) (keyA r) = 0
        · omega
        · exact (ho.am d (keyA r) e).2.2.1
      have hbd2 := hbd d
      show _ ∧ (d = 1 → 0 - maxOf s r.table r.col ≤ _) ∧ _
      have hold : (d = 1 → 0 - maxOf s r.table r.col ≤ amL (rtsOf o d) (keyA r)) ∧ (d ≠ 1 → 0 ≤ amL (rtsOf o d) (keyA r)) := by
        by_cases e : amL (rtsOf o d) (keyA r) = 0
        · rw [e]; exact ⟨fun _ => by omega, fun _ => Int.le_refl _⟩
        · obtain ⟨_, _, _, q4, q5⟩ := ho.am d (keyA r) e
          exact ⟨q4, fun e => by have := q5 e; omega⟩
      by_cases ea : d = a
      · subst ea
        have hd2 : d ≠ b := hab
        rw [if_pos rfl, if_neg hd2] at hk ⊢
        refine ⟨by omega, fun e => ?_, fun e => ?_⟩
        · rw [if_pos e] at hbu; omega
        · rw [if_neg e] at hbu; omega
      · rw [if_neg ea] at hk ⊢
        by_cases eb : d = b
        · subst eb
          rw [if_pos rfl] at hk ⊢
          refine ⟨by omega, fun e => ?_, fun e => ?_⟩
          · have := hold.1 e; omega
          · have := hold.2 e; omega
        · rw [if_neg eb] at hk ⊢
          have hk' : amL (rtsOf o d) (keyA r) ≠ 0 := by omega
          obtain ⟨_, _, _, q4, q5⟩ := ho.am d (keyA r) hk'
          refine ⟨by omega, fun e => ?_, fun e => ?_⟩
          · have := hold.1 e; omega
          · have := q5 e; omega
    · have e0 : add0 r k = 0 := if_neg q
      rw [e0] at hk ⊢
      have e1 : amL (rtsOf o d) k - (if d = a then 0 else 0) + (if d = b then 0 else 0) = amL (rtsOf o d) k := by split <;> split <;> omega
      rw [e1] at hk ⊢
      exact ho.am d k hk
  · have key : ∀ d d', d ≠ d' → ((cvR (rtsOf o d) k n ∧ ¬ (d = a ∧ inR r k n)) ∧ (d' = b ∧ inR r k n)) → False := fun d d' hne ⟨⟨q1, q2⟩, q3, q4⟩ => by
      have hca : cvR (rtsOf o a) k n := by
        have := hhs q4.1 n q4.2.2.1 q4.2.2.2
        rw [q4.2.1] at this; exact this
      by_cases e : d = a
      · exact q2 ⟨e, q4⟩
      · exact ho.apart d a k n e q1 hca
    rcases (hl.cv d k n).1 h1 with q | q
    · rcases (hl.cv d' k n).1 h2 with p | p
      · exact ho.apart d d' k n hne q.1 p.1
      · exact key d d' hne ⟨q, p⟩
    · rcases (hl.cv d' k n).1 h2 with p | p
      · exact key d' d (Ne.symm hne) ⟨p, q⟩
      · exact hne (q.1.trans p.1.symm)
theorem use_canon {s : Sc} (hs : FewS s) {o : List Ow} (h : CanonO s o) {dev t c g by_ : Int} (hd : 1 ≤ dev ∧ dev ≤ 64) (hg : -1099511627776 ≤ g ∧ g ≤ 1099511627776) (ht : thereP s 3 t c = 0) (hb : ¬ by_ > budgetP s o dev t c g) (hov : ¬ amL (rtsOf o dev) (kS t c g) - by_ > 1099511627776) {l : List Ow} (hl : UseS o dev (kS t c g) by_ l) : CanonO s l := by
  obtain ⟨hn, ho⟩ := canon_sem.1 h
  rw [budget_sem h hd ht hg] at hb
  have ek : (⟨3, t, c, g⟩ : Of) = kS t c g := rfl
  rw [ek] at hb
  refine canon_sem.2 ⟨hl.nfo, fun d hd' => ?_, fun d k n hc => ho.cv d k n ((hl.cv d k n).1 hc), fun d k hk => ?_, fun d d' k n hne h1 h2 => ho.apart d d' k n hne ((hl.cv d k n).1 h1) ((hl.cv d' k n).1 h2)⟩
  · apply Decidable.byContradiction; intro q
    have e0 : rtsOf o d = [] := Decidable.byContradiction fun e => q (ho.dev d e)
    refine hd' (rtsOf_of_sem (hl.nfo.get d) (fun k n hc => ?_) fun k => ?_)
    · have := (hl.cv d k n).1 hc
      rw [e0] at this; exact cvR_nil k n this
    · rw [hl.am, if_neg (fun e => q (by omega)), e0]; rfl
  · rw [hl.am] at hk ⊢
    by_cases q : d = dev ∧ k = kS t c g
    · obtain ⟨rfl, rfl⟩ := q
      rw [if_pos ⟨rfl, rfl⟩] at hk ⊢
      refine ⟨ht, hg, by omega, fun e => ?_, fun e => ?_⟩
      · rw [if_pos e] at hb
        show 0 - maxOf s t c ≤ _; omega
      · rw [if_neg e] at hb; omega
    · rw [if_neg q] at hk ⊢
      exact ho.am d k hk
end Go.Proofs.Ytbcdgocepnkpeaa
