import Derived.Test.YtmljghkinhaalaaTxOrd
set_option linter.unusedSimpArgs false
set_option linter.unusedVariables false
namespace Go.Proofs.Ytmljghkinhaalaa
open Go Go.Abs
/-- What a part hangs on, from the root on, and itself. -/
inductive Anc (l : List Pt) : Pt → List Pt → Prop
  | root {p : Pt} (hp : p ∈ l) (h0 : parentOf p = Nm.zero) : Anc l p [p]
  | step {p u : Pt} {s : List Pt} (hp : p ∈ l) (hu : u ∈ l) (e : nameOf u = parentOf p) (h0 : parentOf p ≠ Nm.zero) (h : Anc l u s) : Anc l p (s ++ [p])
theorem Anc.mem {l : List Pt} {p : Pt} {s : List Pt} (h : Anc l p s) : p ∈ l := by cases h <;> assumption
theorem Anc.all {l : List Pt} {p : Pt} {s : List Pt} (h : Anc l p s) : ∀ q ∈ s, q ∈ l := by
  induction h with
  | root hp _ => intro q hq; rw [List.mem_singleton.1 hq]; exact hp
  | step hp _ _ _ _ ih => intro q hq; rcases List.mem_append.1 hq with hq | hq
                          · exact ih q hq
                          · rw [List.mem_singleton.1 hq]; exact hp
theorem Anc.fn {l : List Pt} (hn : named l) {p : Pt} {s : List Pt} (h : Anc l p s) : ∀ {t : List Pt}, Anc l p t → s = t := by
  induction h with
  | root hp h0 => intro t ht; cases ht with
    | root => rfl
    | step _ _ _ h0' _ => exact absurd h0 h0'
  | step hp hu e h0 _ ih => intro t ht; cases ht with
    | root _ h0' => exact absurd h0' h0
    | step _ hu' e' _ h' =>
      have := hn _ hu _ hu' (by rw [e, e'])
      subst this
      rw [ih h']
theorem Anc.last {l : List Pt} {p : Pt} {s : List Pt} (h : Anc l p s) : ∃ r, s = r ++ [p] := by
  cases h with
  | root => exact ⟨[], rfl⟩
  | step => exact ⟨_, rfl⟩
theorem Anc.ex {l : List Pt} (hW : Whole l) : ∀ (n : Nat) (p : Pt), p ∈ l → (l.filter fun q => aheadP q p).length ≤ n → ∃ s, Anc l p s
  | n, p, hp, hn => by
    by_cases h0 : parentOf p = Nm.zero
    · exact ⟨_, .root hp h0⟩
    · obtain ⟨u, hu, e, ha⟩ := (hW.up p hp).resolve_left h0
      have hlt : (l.filter fun q => aheadP q u).length < (l.filter fun q => aheadP q p).length := filter_lt (a := u) hu ha (by rw [← Bool.not_eq_true, ahead_iff]; omega) fun q _ hq => by
        rw [ahead_iff] at ha hq ⊢; omega
      cases n with
      | zero => omega
      | succ n =>
        obtain ⟨s, hs⟩ := Anc.ex hW n u hu (by omega)
        exact ⟨_, .step hp hu e h0 hs⟩
/-- The order of what parts hang on. -/
def lexLt : List Pt → List Pt → Prop
  | _, [] => False
  | [], _ :: _ => True
  | a :: s, b :: t => a = b ∧ lexLt s t ∨ kinLt a b
theorem kinLt_irr (a : Pt) : ¬ kinLt a a := by rw [kinLt_iff]; omega
theorem kinLt_tr {a b c : Pt} (h1 : kinLt a b) (h2 : kinLt b c) : kinLt a c := by rw [kinLt_iff] at h1 h2 ⊢; omega
theorem lexLt_irr : ∀ (s : List Pt), ¬ lexLt s s
  | [], h => h
  | a :: s, h => by rcases h with ⟨_, h⟩ | h; exact lexLt_irr s h; exact kinLt_irr a h
theorem lexLt_tr : ∀ {s t u : List Pt}, lexLt s t → lexLt t u → lexLt s u
  | _, _, [], _, h => (by cases ‹List Pt› <;> exact h.elim)
  | s, [], _ :: _, h, _ => (by cases s <;> simp [lexLt] at h)
  | [], _ :: _, _ :: _, _, _ => trivial
  | a :: s, b :: t, c :: u, h1, h2 => by
    rcases h1 with ⟨rfl, h1⟩ | h1 <;> rcases h2 with ⟨rfl, h2⟩ | h2
    · exact .inl ⟨rfl, lexLt_tr h1 h2⟩
    · exact .inr h2
    · exact .inr h1
    · exact .inr (kinLt_tr h1 h2)
theorem lexLt_tot {l : List Pt} (hn : named l) : ∀ {s t : List Pt}, (∀ q ∈ s, q ∈ l) → (∀ q ∈ t, q ∈ l) → s ≠ t → lexLt s t ∨ lexLt t s
  | [], [], _, _, h => absurd rfl h
  | [], _ :: _, _, _, _ => .inl trivial
  | _ :: _, [], _, _, _ => .inr trivial
  | a :: s, b :: t, h1, h2, h => by
    by_cases hab : a = b
    · subst hab
      rcases lexLt_tot hn (s := s) (t := t) (fun q hq => h1 q (by simp [hq])) (fun q hq => h2 q (by simp [hq])) (fun e => h (by rw [e])) with k | k
      · exact .inl (.inl ⟨rfl, k⟩)
      · exact .inr (.inl ⟨rfl, k⟩)
    · by_cases k : kinLt a b
      · exact .inl (.inr k)
      · by_cases k2 : kinLt b a
        · exact .inr (.inr k2)
        · exact absurd (kin_tot hn (h1 a (by simp)) (h2 b (by simp)) k k2) hab
theorem lexLt_app : ∀ (P : List Pt) {s t : List Pt}, lexLt s t → lexLt (P ++ s) (P ++ t)
  | [], _, _, h => h
  | a :: P, _, _, h => .inl ⟨rfl, lexLt_app P h⟩
/-- One part stands ahead of another one. -/
def ltP (l : List Pt) (p q : Pt) : Prop := ∃ s t, Anc l p s ∧ Anc l q t ∧ lexLt s t
theorem ltP_irr {l : List Pt} (hn : named l) (p : Pt) : ¬ ltP l p p := fun ⟨s, t, h1, h2, h⟩ => by rw [h1.fn hn h2] at h; exact lexLt_irr _ h
theorem ltP_asym {l : List Pt} (hn : named l) {p q : Pt} (h : ltP l p q) (h' : ltP l q p) : False := by
  obtain ⟨s, t, h1, h2, h3⟩ := h
  obtain ⟨t', s', h4, h5, h6⟩ := h'
  rw [← h1.fn hn h5, ← h2.fn hn h4] at h6
  exact lexLt_irr _ (lexLt_tr h3 h6)
theorem ltP_tot {l : List Pt} (hW : Whole l) {p q : Pt} (hp : p ∈ l) (hq : q ∈ l) (hne : p ≠ q) : ltP l p q ∨ ltP l q p := by
  obtain ⟨s, hs⟩ := Anc.ex hW _ p hp (Nat.le_refl _)
  obtain ⟨t, ht⟩ := Anc.ex hW _ q hq (Nat.le_refl _)
  have : s ≠ t := fun e => by
    subst e
    obtain ⟨r, h1⟩ := hs.last
    obtain ⟨r', h2⟩ := ht.last
    rw [h1] at h2
    exact hne (List.singleton_inj.1 (List.append_inj' h2 rfl).2)
  rcases lexLt_tot hW.named hs.all ht.all this with h | h
  · exact .inl ⟨s, t, hs, ht, h⟩
  · exact .inr ⟨t, s, ht, hs, h⟩
theorem nodup_of_map {l : List Pt} (h : (l.map nameOf).Nodup) : l.Nodup := by
  induction l with
  | nil => exact List.nodup_nil
  | cons a l ih =>
    simp only [List.map_cons, List.nodup_cons] at h
    exact List.nodup_cons.2 ⟨fun hm => h.1 (List.mem_map.2 ⟨a, hm, rfl⟩), ih h.2⟩
theorem hang_sorted {l : List Pt} (hW : Whole l) : ∀ (n : Nat) (k : Nm) (P : List Pt), (∀ p ∈ kids l k, Anc l p (P ++ [p])) →
    (∀ x ∈ hangP l n k, ∃ q s, q ∈ skids l k ∧ Anc l x (P ++ q :: s)) ∧ (hangP l n k).Pairwise (ltP l)
  | 0, _, _, _ => ⟨fun x h => (by cases h), List.Pairwise.nil⟩
  | n + 1, k, P, hP => by
    have hq : ∀ q ∈ skids l k, Anc l q (P ++ [q]) := fun q hq => hP q (skids_mem hq).2
    have hc : ∀ q ∈ skids l k, ∀ p ∈ kids l (nameOf q), Anc l p ((P ++ [q]) ++ [p]) := fun q hq' p hp => by
      obtain ⟨h1, h2⟩ := List.mem_filter.1 hp
      have h2 : parentOf p = nameOf q := by simpa using h2
      have hql := (skids_mem hq').1
      exact .step h1 hql h2.symm (by rw [h2]; exact formed_name (hW.formed q hql)) (hq q hq')
    have key : ∀ q ∈ skids l k, ∀ x ∈ q :: hangP l n (nameOf q), ∃ s, Anc l x (P ++ q :: s) := fun q hq' x hx => by
      rcases List.mem_cons.1 hx with rfl | hx
      · exact ⟨[], hq x hq'⟩
      · obtain ⟨r, s, _, h⟩ := (hang_sorted hW n (nameOf q) (P ++ [q]) (hc q hq')).1 x hx
        exact ⟨r :: s, by simpa using h⟩
    constructor
    · intro x hx
      obtain ⟨q, hq', hx⟩ := List.mem_flatMap.1 hx
      obtain ⟨s, h⟩ := key q hq' x hx
      exact ⟨q, s, hq', h⟩
    · rw [hangP, List.pairwise_flatMap]
      refine ⟨fun q hq' => ?_, ?_⟩
      · have ih := hang_sorted hW n (nameOf q) (P ++ [q]) (hc q hq')
        rw [List.pairwise_cons]
        refine ⟨fun x hx => ?_, ih.2⟩
        obtain ⟨r, s, _, h⟩ := ih.1 x hx
        refine ⟨_, _, hq q hq', h, ?_⟩
        have := lexLt_app (P ++ [q]) (s := []) (t := r :: s) trivial
        simpa using this
      · have hs := skids_sorted l k
        have hnd : (skids l k).Nodup := by
          have := hW.nodup
          have h1 : (kids l k).Nodup := (List.Pairwise.filter _ (nodup_of_map this))
          exact (skids_perm l k).nodup_iff.2 h1
        refine (hs.and hnd).imp_of_mem fun {a b} ha hb hab x hx y hy => ?_
        obtain ⟨s, h1⟩ := key a ha x hx
        obtain ⟨t, h2⟩ := key b hb y hy
        refine ⟨_, _, h1, h2, lexLt_app P (.inr ?_)⟩
        by_cases hk : kinLt a b
        · exact hk
        · exact absurd (kin_tot hW.named (skids_mem ha).1 (skids_mem hb).1 hk hab.1) hab.2
theorem mem_top {l : List Pt} {n : Nat} {k : Nm} {p : Pt} (hd : deep l n k) (hp : p ∈ kids l k) : p ∈ hangP l n k := by
  cases n with
  | zero => rw [show kids l k = [] from hd] at hp; cases hp
  | succ n => exact List.mem_flatMap.2 ⟨p, (skids_perm l k).symm.subset hp, by simp⟩
theorem mem_step {l : List Pt} {p u : Pt} (hp : p ∈ kids l (nameOf u)) : ∀ {n : Nat} {k : Nm}, deep l n k → u ∈ hangP l n k → p ∈ hangP l n k
  | 0, _, _, hu => (by cases hu)
  | n + 1, k, hd, hu => by
    obtain ⟨q, hq, hu⟩ := List.mem_flatMap.1 hu
    have hdq := hd q (skids_mem hq).2
    refine List.mem_flatMap.2 ⟨q, hq, ?_⟩
    rcases List.mem_cons.1 hu with rfl | hu
    · exact List.mem_cons_of_mem _ (mem_top hdq hp)
    · exact List.mem_cons_of_mem _ (mem_step hp hdq hu)
theorem hang_sub {l : List Pt} : ∀ {n : Nat} {k : Nm} {p : Pt}, p ∈ hangP l n k → p ∈ l
  | 0, _, _, h => (by cases h)
  | n + 1, k, p, h => by
    obtain ⟨q, hq, h⟩ := List.mem_flatMap.1 h
    rcases List.mem_cons.1 h with rfl | h
    · exact (skids_mem hq).1
    · exact hang_sub h
theorem anc_in {l : List Pt} (hW : Whole l) {p : Pt} {s : List Pt} (h : Anc l p s) : p ∈ hangP l l.length Nm.zero := by
  have hd := deep_top hW
  induction h with
  | root hp h0 => exact mem_top hd (List.mem_filter.2 ⟨hp, by simpa using h0⟩)
  | step hp hu e h0 _ ih => exact mem_step (List.mem_filter.2 ⟨hp, by simpa using e.symm⟩) hd ih
theorem perm_of_nodup {l m : List Pt} (h1 : l.Nodup) (h2 : m.Nodup) (h : ∀ a, a ∈ l ↔ a ∈ m) : l.Perm m := by
  rw [List.perm_iff_count]
  intro a
  rw [h1.count, h2.count]
  simp [h a]
theorem hang_top {l : List Pt} (hW : Whole l) : (hangP l l.length Nm.zero).Perm l ∧ (hangP l l.length Nm.zero).Pairwise (ltP l) := by
  have hs := (hang_sorted hW l.length Nm.zero [] fun p hp => by
    obtain ⟨h1, h2⟩ := List.mem_filter.1 hp
    exact .root h1 (by simpa using h2)).2
  refine ⟨perm_of_nodup ?_ (nodup_of_map hW.nodup) fun a => ⟨hang_sub, fun ha => ?_⟩, hs⟩
  · exact hs.imp fun {a b} h e => by subst e; exact ltP_irr hW.named _ h
  · obtain ⟨s, hs⟩ := Anc.ex hW _ a ha (Nat.le_refl _)
    exact anc_in hW hs
theorem order_spec (l : List Pt) (hl : l.length < 4611686018427387904) : PF Try.prog 15 [.seq (l.map Pt.cells)] (.seq ((orderP l).map Pt.cells)) :=
  order_spec0 l hl fun h => (hang_top ((wholeP_iff l).1 h)).1.length_eq
/-- The parts as they stand: all of them, each one ahead of those behind it; none, if they are not whole. -/
theorem orderP_whole {l : List Pt} (hW : Whole l) (hl : l.length ≤ 2000) : (orderP l).Perm l ∧ (orderP l).Pairwise (ltP l) := by
  unfold orderP
  rw [if_pos ⟨(wholeP_iff l).2 hW, hl⟩]
  exact hang_top hW
theorem orderP_not {l : List Pt} (h : ¬ (Whole l ∧ l.length ≤ 2000)) : orderP l = [] := by
  unfold orderP
  rw [if_neg fun ⟨a, b⟩ => h ⟨(wholeP_iff l).1 a, b⟩]
theorem orderP_uniq {l m : List Pt} (hW : Whole l) (hl : l.length ≤ 2000) (hp : m.Perm l) (hs : m.Pairwise (ltP l)) : orderP l = m := by
  obtain ⟨h1, h2⟩ := orderP_whole hW hl
  exact uniq (h1.trans hp.symm) h2 hs fun a _ b _ h h' => (ltP_asym hW.named h h').elim
theorem Inv.perm {l m : List Pt} (hp : l.Perm m) (h : Inv l) : Inv m :=
  ⟨fun p hm => h.formed p (hp.symm.subset hm), (hp.map nameOf).nodup_iff.1 h.nodup, fun a ha b hb => h.times a (hp.symm.subset ha) b (hp.symm.subset hb)⟩
theorem Whole.perm {l m : List Pt} (hp : l.Perm m) (h : Whole l) : Whole m where
  toInv := h.toInv.perm hp
  up p hm := by
    rcases h.up p (hp.symm.subset hm) with e | ⟨u, hu, e⟩
    · exact .inl e
    · exact .inr ⟨u, hp.subset hu, e⟩
theorem Anc.perm {l m : List Pt} (hp : ∀ a, a ∈ l → a ∈ m) {p : Pt} {s : List Pt} (h : Anc l p s) : Anc m p s := by
  induction h with
  | root h h0 => exact .root (hp _ h) h0
  | step h hu e h0 _ ih => exact .step (hp _ h) (hp _ hu) e h0 ih
theorem ltP.perm {l m : List Pt} (hp : ∀ a, a ∈ l → a ∈ m) {p q : Pt} (h : ltP l p q) : ltP m p q := by
  obtain ⟨s, t, h1, h2, h3⟩ := h
  exact ⟨s, t, h1.perm hp, h2.perm hp, h3⟩
/-- However parts came, they stand in one order. -/
theorem orderP_perm {l m : List Pt} (hp : l.Perm m) : orderP l = orderP m := by
  by_cases h : Whole l ∧ l.length ≤ 2000
  · have hm : Whole m := h.1.perm hp
    have hml : m.length ≤ 2000 := by rw [← hp.length_eq]; exact h.2
    obtain ⟨h1, h2⟩ := orderP_whole hm hml
    exact orderP_uniq h.1 h.2 (h1.trans hp.symm) (h2.imp fun k => k.perm fun a ha => hp.symm.subset ha)
  · rw [orderP_not h, orderP_not fun k => h ⟨k.1.perm hp.symm, by rw [hp.length_eq]; exact k.2⟩]
end Go.Proofs.Ytmljghkinhaalaa
