import Derived.Test.YtkaliolnijkadaaGreatDoorBsWroteL
import Derived.Test.YtkaliolnijkadaaGreatDoorTyC
set_option linter.unusedSimpArgs false
set_option linter.unusedVariables false
namespace Go.Proofs.YtkaliolnijkadaaGreatDoor
open Go Go.Abs
theorem srt_ext {α : Type} {r : α → α → Prop} (tr : ∀ {a b c}, r a b → r b c → r a c) (irr : ∀ {a}, ¬ r a a) : ∀ {l m : List α}, l.Pairwise r → m.Pairwise r → (∀ x, x ∈ l ↔ x ∈ m) → l = m
  | [], [], _, _, _ => rfl
  | [], b :: m, _, _, h => absurd ((h b).2 (by simp)) (by simp)
  | a :: l, [], _, _, h => absurd ((h a).1 (by simp)) (by simp)
  | a :: l, b :: m, h1, h2, h => by
    have h1' := List.pairwise_cons.1 h1
    have h2' := List.pairwise_cons.1 h2
    have e : a = b := by
      rcases List.mem_cons.1 ((h a).1 (by simp)) with q | q
      · exact q
      rcases List.mem_cons.1 ((h b).2 (by simp)) with w | w
      · exact w.symm
      exact absurd (tr (h2'.1 a q) (h1'.1 b w)) irr
    subst e
    refine congrArg (a :: ·) (srt_ext (r := r) tr irr h1'.2 h2'.2 fun x => ?_)
    constructor
    · intro q
      rcases List.mem_cons.1 ((h x).1 (List.mem_cons_of_mem _ q)) with w | w
      · subst w; exact absurd (h1'.1 x q) irr
      · exact w
    · intro q
      rcases List.mem_cons.1 ((h x).2 (List.mem_cons_of_mem _ q)) with w | w
      · subst w; exact absurd (h2'.1 x q) irr
      · exact w
def KSort (L : List Ln) : Prop := (L.map (·.key)).Pairwise (· < ·)
theorem KSort.at {L : List Ln} (h : KSort L) {i j : Nat} (hij : i < j) (hj : j < L.length) : (L[i]'(by omega)).key < L[j].key := by
  have := List.pairwise_iff_getElem.1 h i j (by simp; omega) (by simpa using hj) hij
  simpa using this
theorem KSort.inj {L : List Ln} (h : KSort L) {i j : Nat} (hi : i < L.length) (hj : j < L.length) (e : L[i].key = L[j].key) : i = j := by
  rcases Nat.lt_trichotomy i j with q | q | q
  · have := h.at q hj; omega
  · exact q
  · have := h.at q hi; omega
theorem KSort.eq {L : List Ln} (h : KSort L) {x y : Ln} (hx : x ∈ L) (hy : y ∈ L) (e : x.key = y.key) : x = y := by
  obtain ⟨i, hi, rfl⟩ := List.getElem_of_mem hx
  obtain ⟨j, hj, rfl⟩ := List.getElem_of_mem hy
  have := h.inj hi hj e
  subst this; rfl
theorem get_iff {L : List Ln} (h : KSort L) {k : Int} {x : Ln} : getL L k = some x ↔ x ∈ L ∧ x.key = k := by
  unfold getL
  constructor
  · intro q
    exact ⟨List.mem_of_find?_eq_some q, by simpa using List.find?_some q⟩
  · rintro ⟨hx, rfl⟩
    cases q : L.find? fun y => decide (y.key = x.key) with
    | none => exact absurd (List.find?_eq_none.1 q x hx) (by simp)
    | some y => rw [h.eq (List.mem_of_find?_eq_some q) hx (by simpa using List.find?_some q)]
theorem get_eq {L M : List Ln} (hL : KSort L) (hM : KSort M) {k : Int} (h : ∀ x : Ln, x.key = k → (x ∈ L ↔ x ∈ M)) : getL L k = getL M k := by
  cases q : getL L k with
  | some x => obtain ⟨q1, q2⟩ := (get_iff hL).1 q; exact ((get_iff hM).2 ⟨(h x q2).1 q1, q2⟩).symm
  | none =>
    cases w : getL M k with
    | none => rfl
    | some x =>
      obtain ⟨w1, w2⟩ := (get_iff hM).1 w
      rw [(get_iff hL).2 ⟨(h x w2).2 w1, w2⟩] at q; cases q
theorem k_ext {L M : List Ln} (hL : KSort L) (hM : KSort M) (h : ∀ x, x ∈ L ↔ x ∈ M) : L = M := by
  refine srt_ext (r := fun a b : Ln => a.key < b.key) (fun h1 h2 => Int.lt_trans h1 h2) (fun h => Int.lt_irrefl _ h) ?_ ?_ h
  · exact List.pairwise_map.1 hL
  · exact List.pairwise_map.1 hM
def dropL (L : List Ln) (key : Int) : List Ln := if (atP L key).2 then L.eraseIdx (atP L key).1.toNat else L
theorem putL_mem_iff {L : List Ln} (h : KSort L) (a x : Ln) : x ∈ putL L a ↔ x = a ∨ (x ∈ L ∧ x.key ≠ a.key) := by
  unfold putL
  rcases at_facts L a.key with ⟨j, hj, e, _, hk, _⟩ | ⟨j, hj, e, _, hk, _, _⟩
  · rw [e, if_pos rfl, Int.toNat_natCast]
    constructor
    · intro hx
      obtain ⟨q, hq, rfl⟩ := List.getElem_of_mem hx
      rw [List.length_set] at hq
      rw [List.getElem_set]
      split
      · exact .inl rfl
      · rename_i hne
        exact .inr ⟨List.getElem_mem hq, fun e2 => hne (h.inj hj hq (hk.trans e2.symm))⟩
    · rintro (rfl | ⟨hx, hne⟩)
      · exact List.mem_iff_getElem.2 ⟨j, by simpa using hj, by simp⟩
      · obtain ⟨q, hq, rfl⟩ := List.getElem_of_mem hx
        have hqj : q ≠ j := fun e2 => hne (by subst e2; exact hk)
        exact List.mem_iff_getElem.2 ⟨q, by simpa using hq, by rw [List.getElem_set_ne (Ne.symm hqj)]⟩
  · rw [e, if_neg (by simp), Int.toNat_natCast]
    unfold putInLn
    have e2 := List.take_append_drop j L
    have : x ∈ L ↔ x ∈ L.take j ∨ x ∈ L.drop j := by rw [← List.mem_append, e2]
    simp only [List.mem_append, List.mem_singleton]
    constructor
    · rintro ((q | q) | q)
      · exact .inr ⟨this.2 (.inl q), hk x (this.2 (.inl q))⟩
      · exact .inl q
      · exact .inr ⟨this.2 (.inr q), hk x (this.2 (.inr q))⟩
    · rintro (q | ⟨q, _⟩)
      · exact .inl (.inr q)
      · rcases this.1 q with q | q
        · exact .inl (.inl q)
        · exact .inr q
theorem KSort.put {L : List Ln} (h : KSort L) (a : Ln) : KSort (putL L a) := by
  unfold putL
  rcases at_facts L a.key with ⟨j, hj, e, _, hk, _⟩ | ⟨j, hj, e, _, hk, hlo, hhi⟩
  · rw [e, if_pos rfl, Int.toNat_natCast]
    unfold KSort
    rw [List.map_set, ← hk]
    have : (L.map (·.key)).set j L[j].key = L.map (·.key) := by
      have hj2 : j < (L.map (·.key)).length := by simpa using hj
      have := List.set_getElem_self hj2
      simpa using this
    rw [this]; exact h
  · rw [e, if_neg (by simp), Int.toNat_natCast]
    unfold KSort putInLn
    have hp := h
    unfold KSort at hp
    rw [← List.take_append_drop j L, List.map_append, List.pairwise_append] at hp
    rw [List.map_append, List.map_append, List.pairwise_append, List.pairwise_append]
    refine ⟨⟨hp.1, List.pairwise_singleton .., fun x hx y hy => ?_⟩, hp.2.1, fun x hx y hy => ?_⟩
    · simp only [List.map_cons, List.map_nil, List.mem_singleton] at hy
      subst hy
      obtain ⟨z, hz, rfl⟩ := List.mem_map.1 hx
      obtain ⟨q, hq, rfl⟩ := List.getElem_of_mem hz
      rw [List.length_take] at hq
      rw [List.getElem_take]
      have h1 := hlo q (by omega) (by omega)
      have h2 := hk _ (List.getElem_mem (show q < L.length by omega))
      omega
    · have hyk : a.key < y := by
        obtain ⟨z, hz, rfl⟩ := List.mem_map.1 hy
        obtain ⟨q, hq, rfl⟩ := List.getElem_of_mem hz
        rw [List.length_drop] at hq
        rw [List.getElem_drop]
        have h1 := hhi (by omega)
        rcases Nat.eq_zero_or_pos q with rfl | hq0
        · exact h1
        · have := h.at (show j < j + q by omega) (by omega); omega
      rw [List.mem_append] at hx
      rcases hx with hx | hx
      · exact hp.2.2 x hx y hy
      · simp only [List.map_cons, List.map_nil, List.mem_singleton] at hx
        subst hx; exact hyk
theorem dropL_mem_iff {L : List Ln} (h : KSort L) (k : Int) (x : Ln) : x ∈ dropL L k ↔ x ∈ L ∧ x.key ≠ k := by
  unfold dropL
  rcases at_facts L k with ⟨j, hj, e, _, hk, _⟩ | ⟨j, hj, e, _, hk, _, _⟩
  · rw [e, if_pos rfl, Int.toNat_natCast, List.mem_eraseIdx_iff_getElem]
    constructor
    · rintro ⟨q, hq, hne, rfl⟩
      exact ⟨List.getElem_mem hq, fun e2 => hne (h.inj hq hj (e2.trans hk.symm))⟩
    · rintro ⟨hx, hne⟩
      obtain ⟨q, hq, rfl⟩ := List.getElem_of_mem hx
      exact ⟨q, hq, fun e2 => hne (by subst e2; exact hk), rfl⟩
  · rw [e, if_neg (by simp)]
    exact ⟨fun q => ⟨q, hk x q⟩, fun q => q.1⟩
theorem KSort.drop {L : List Ln} (h : KSort L) (k : Int) : KSort (dropL L k) := by
  unfold dropL
  split
  · exact h.sublist ((List.eraseIdx_sublist ..).map _)
  · exact h
end Go.Proofs.YtkaliolnijkadaaGreatDoor
namespace Go.Proofs.YtkaliolnijkadaaGreatDoor
open Go Go.Abs
section
variable {L : List Ln}
theorem put_get (h : KSort L) (a : Ln) : getL (putL L a) a.key = some a := (get_iff (h.put a)).2 ⟨(putL_mem_iff h a a).2 (.inl rfl), rfl⟩
theorem put_other (h : KSort L) {a : Ln} {k : Int} (hk : k ≠ a.key) : getL (putL L a) k = getL L k :=
  get_eq (h.put a) h fun x hx => by
    rw [putL_mem_iff h]
    exact ⟨fun q => q.elim (fun e => absurd (e ▸ hx.symm) hk) fun q => q.1, fun q => .inr ⟨q, hx ▸ hk⟩⟩
theorem put_put (h : KSort L) (a : Ln) : putL (putL L a) a = putL L a :=
  k_ext ((h.put a).put a) (h.put a) fun x => by rw [putL_mem_iff (h.put a), putL_mem_iff h]; grind
theorem put_comm (h : KSort L) {a c : Ln} (hne : a.key ≠ c.key) : putL (putL L a) c = putL (putL L c) a :=
  k_ext ((h.put a).put c) ((h.put c).put a) fun x => by rw [putL_mem_iff (h.put a), putL_mem_iff h, putL_mem_iff (h.put c), putL_mem_iff h]; grind
theorem drop_put (h : KSort L) {a : Ln} {k : Int} (hne : a.key ≠ k) : dropL (putL L a) k = putL (dropL L k) a :=
  k_ext ((h.put a).drop k) ((h.drop k).put a) fun x => by rw [dropL_mem_iff (h.put a), putL_mem_iff h, putL_mem_iff (h.drop k), dropL_mem_iff h]; grind
theorem drop_get (h : KSort L) (k : Int) : getL (dropL L k) k = none := by
  cases q : getL (dropL L k) k with
  | none => rfl
  | some x => obtain ⟨q1, q2⟩ := (get_iff (h.drop k)).1 q; exact absurd q2 ((dropL_mem_iff h k x).1 q1).2
theorem drop_other (h : KSort L) {k k' : Int} (hk : k' ≠ k) : getL (dropL L k) k' = getL L k' :=
  get_eq (h.drop k) h fun x hx => by
    rw [dropL_mem_iff h]
    exact ⟨fun q => q.1, fun q => ⟨q, hx ▸ hk⟩⟩
theorem drop_drop (h : KSort L) (k : Int) : dropL (dropL L k) k = dropL L k :=
  k_ext ((h.drop k).drop k) (h.drop k) fun x => by rw [dropL_mem_iff (h.drop k), dropL_mem_iff h]; grind
theorem put_drop (h : KSort L) {k : Int} {l : Ln} (hl : getL L k = some l) : putL (dropL L k) l = L := by
  obtain ⟨q1, q2⟩ := (get_iff h).1 hl
  refine k_ext ((h.drop k).put l) h fun x => ?_
  rw [putL_mem_iff (h.drop k), dropL_mem_iff h]
  constructor
  · rintro (rfl | ⟨⟨q, _⟩, _⟩) <;> assumption
  · intro q
    by_cases e : x.key = k
    · exact .inl (h.eq q q1 (e.trans q2.symm))
    · exact .inr ⟨⟨q, e⟩, by rw [q2]; exact e⟩
theorem drop_none {k : Int} (hn : getL L k = none) : dropL L k = L := by
  unfold dropL
  rcases at_get L k with ⟨j, hj, _, e2⟩ | ⟨e1, _⟩
  · rw [hn] at e2; cases e2
  · rw [e1]; rfl
end
theorem okT_set (b : Bs) (k k' : Int) (ls : List Ln) : okT (setL b k ls) k' = okT b k' := by unfold okT; rw [setL_len]
theorem lines_set {b : Bs} {k : Int} (h : okT b k = true) (ls : List Ln) : linesP (setL b k ls) k = ls := by
  unfold linesP
  rw [okT_set, if_pos h]
  unfold setL
  rw [if_pos h]
  simp only [okT, Bool.and_eq_true, decide_eq_true_eq] at h
  rw [getElem!_pos _ k.toNat (by rw [List.length_set]; omega), List.getElem_set_self]
theorem lines_no {b : Bs} {k : Int} (h : okT b k = false) : linesP b k = [] := by unfold linesP; rw [h]; rfl
theorem set_no {b : Bs} {k : Int} (h : okT b k = false) (ls : List Ln) : setL b k ls = b := by unfold setL; rw [h]; rfl
theorem set_set (b : Bs) (k : Int) (l m : List Ln) : setL (setL b k l) k m = setL b k m := by
  cases h : okT b k with
  | false => rw [set_no h, set_no h]
  | true =>
    rw [show setL (setL b k l) k m = (setL b k l).set k.toNat ⟨m⟩ from if_pos (by rw [okT_set, h]), show setL b k l = b.set k.toNat ⟨l⟩ from if_pos h, show setL b k m = b.set k.toNat ⟨m⟩ from if_pos h, List.set_set]
theorem set_self (b : Bs) (k : Int) : setL b k (linesP b k) = b := by
  cases h : okT b k with
  | false => exact set_no h _
  | true =>
    unfold setL linesP
    rw [if_pos h, if_pos h]
    simp only [okT, Bool.and_eq_true, decide_eq_true_eq] at h
    rw [getElem!_pos b k.toNat (by omega)]
    exact List.set_getElem_self (by omega)
theorem dropP_L (b : Bs) (k key : Int) : dropP b k key = setL b k (dropL (linesP b k) key) := dropP_set b k key
variable {tx : Cl → Int}
theorem dataB_iff {t : Tb} {L : List Ln} : dataB tx t L = true ↔ L.length ≤ 2000 ∧ (∀ x ∈ L, lineB tx t x = true) ∧ KSort L := by
  unfold dataB
  rw [Bool.and_eq_true, decide_eq_true_eq, allR_iff]
  refine and_congr Iff.rfl ?_
  constructor
  · intro h
    have h1 : ∀ i (hi : i < L.length), lineB tx t L[i] = true ∧ (i = 0 ∨ L[i - 1]!.key < L[i].key) := fun i hi => by
      have := h i hi
      unfold lnR at this
      rw [getElem!_pos L i hi] at this
      simpa using this
    refine ⟨fun x hx => by obtain ⟨i, hi, rfl⟩ := List.getElem_of_mem hx; exact (h1 i hi).1, ?_⟩
    have key : ∀ j (hj : j < L.length) i (hi : i < j), (L[i]'(by omega)).key < L[j].key := by
      intro j
      induction j with
      | zero => intro _ i hi; exact absurd hi (Nat.not_lt_zero _)
      | succ j ih =>
        intro hj i hi
        have := (h1 (j + 1) hj).2.resolve_left (Nat.succ_ne_zero j)
        rw [show j + 1 - 1 = j from rfl, getElem!_pos L j (by omega)] at this
        rcases Nat.lt_succ_iff_lt_or_eq.1 hi with q | q
        · exact Int.lt_trans (ih (by omega) i q) this
        · subst q; exact this
    unfold KSort
    exact List.pairwise_iff_getElem.2 fun i j hi hj hij => by simpa using key j (by simpa using hj) i hij
  · rintro ⟨h1, h2⟩ i hi
    unfold lnR
    rw [getElem!_pos L i hi, h1 _ (List.getElem_mem hi), Bool.true_and]
    rcases Nat.eq_zero_or_pos i with rfl | h0
    · simp
    · rw [getElem!_pos L (i - 1) (by omega)]
      have := h2.at (show i - 1 < i by omega) hi
      simp [this]
theorem dataB_nil (t : Tb) : dataB tx t [] = true := dataB_iff.2 ⟨by simp, fun _ h => by simp at h, by simp [KSort]⟩
theorem dataB_put {t : Tb} {L : List Ln} (h : dataB tx t L = true) (hl : L.length ≤ 1000) (a : Ln) : dataB tx t (putL L a) = lineB tx t a := by
  obtain ⟨h1, h2, h3⟩ := dataB_iff.1 h
  rw [Bool.eq_iff_iff, dataB_iff]
  constructor
  · exact fun q => q.2.1 a ((putL_mem_iff h3 a a).2 (.inl rfl))
  · intro q
    refine ⟨by have := putL_len L a; omega, fun x hx => ?_, h3.put a⟩
    rcases (putL_mem_iff h3 a x).1 hx with rfl | w
    · exact q
    · exact h2 x w.1
theorem dataB_drop {t : Tb} {L : List Ln} (h : dataB tx t L = true) (k : Int) : dataB tx t (dropL L k) = true := by
  obtain ⟨h1, h2, h3⟩ := dataB_iff.1 h
  refine dataB_iff.2 ⟨?_, fun x hx => h2 x ((dropL_mem_iff h3 k x).1 hx).1, h3.drop k⟩
  unfold dropL
  split
  · exact Nat.le_trans (List.length_eraseIdx_le ..) h1
  · exact h1
theorem baseB_iff {s : Sc} {b : Bs} : baseB tx s b = true ↔ (rightS s = 0 ∧ b.length = s.length) ∧ ∀ k < b.length, dataB tx s[k]! b[k]!.lines = true := by
  unfold baseB
  rw [Bool.and_eq_true, decide_eq_true_eq, allR_iff]
  exact Iff.rfl
theorem baseB_lines {s : Sc} {b : Bs} (h : baseB tx s b = true) (k : Int) : KSort (linesP b k) := by
  cases hk : okT b k with
  | false => rw [lines_no hk]; simp [KSort]
  | true =>
    have e : linesP b k = b[k.toNat]!.lines := by unfold linesP; rw [if_pos hk]
    simp only [okT, Bool.and_eq_true, decide_eq_true_eq] at hk
    rw [e]
    exact (dataB_iff.1 ((baseB_iff.1 h).2 k.toNat (by omega))).2.2
theorem baseB_data {s : Sc} {b : Bs} (h : baseB tx s b = true) {k : Int} (hk : okT b k = true) : dataB tx s[k.toNat]! (linesP b k) = true := by
  have e : linesP b k = b[k.toNat]!.lines := by unfold linesP; rw [if_pos hk]
  simp only [okT, Bool.and_eq_true, decide_eq_true_eq] at hk
  rw [e]
  exact (baseB_iff.1 h).2 k.toNat (by omega)
theorem baseB_set {s : Sc} {b : Bs} (h : baseB tx s b = true) {k : Int} (hk : okT b k = true) (ls : List Ln) : baseB tx s (setL b k ls) = dataB tx s[k.toNat]! ls := by
  obtain ⟨h1, h2⟩ := baseB_iff.1 h
  have hk2 := hk
  simp only [okT, Bool.and_eq_true, decide_eq_true_eq] at hk2
  obtain ⟨q, rfl⟩ : ∃ q : Nat, k = q := ⟨k.toNat, by omega⟩
  have hq : q < b.length := by omega
  rw [Bool.eq_iff_iff, baseB_iff, setL_len, Int.toNat_natCast]
  constructor
  · intro w
    have := w.2 q hq
    rwa [getElem!_pos (setL b q ls) q (by rw [setL_len]; exact hq), setL_eq hq rfl] at this
  · intro w
    refine ⟨h1, fun i hi => ?_⟩
    rw [getElem!_pos (setL b q ls) i (by rw [setL_len]; exact hi)]
    by_cases e : (i : Int) = q
    · rw [setL_eq hi e, show i = q by omega]; exact w
    · rw [setL_ne hi e, ← getElem!_pos b i hi]; exact h2 i hi
theorem newB {s : Sc} (h : rightS s = 0) : baseB tx s (newP s) = true := baseB_iff.2 ⟨⟨h, by simp [newP]⟩, fun k hk => by
  rw [getElem!_pos (newP s) k hk, show (newP s)[k] = ⟨[]⟩ from by simp [newP]]
  exact dataB_nil _⟩
theorem okT_new (s : Sc) (b : Bs) (h : b.length = s.length) (k : Int) : okT (newP s) k = okT b k := by unfold okT; rw [show (newP s).length = b.length from by simp [newP, h]]
theorem lines_new (s : Sc) (k : Int) : linesP (newP s) k = [] := by
  cases h : okT (newP s) k with
  | false => exact lines_no h
  | true =>
    unfold linesP
    rw [if_pos h]
    simp only [okT, Bool.and_eq_true, decide_eq_true_eq] at h
    rw [getElem!_pos _ k.toNat (by omega)]
    simp [newP]
end Go.Proofs.YtkaliolnijkadaaGreatDoor
