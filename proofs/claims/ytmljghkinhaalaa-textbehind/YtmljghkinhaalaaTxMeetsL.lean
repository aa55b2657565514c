import Derived.Test.YtmljghkinhaalaaTxErase
set_option linter.unusedSimpArgs false
set_option linter.unusedVariables false
namespace Go.Proofs.Ytmljghkinhaalaa
open Go Go.Abs
set_option maxRecDepth 10000
set_option maxHeartbeats 4000000
/-- A text is right, and its parts are these, in some order. -/
structure Is (c : Cl) (l : List Pt) : Prop where
  kind : c.kind = 4
  val : c.val = Vl.zero
  whole : Whole l
  len : l.length ≤ 2000
  parts : c.parts = orderP l
theorem Is.perm {c : Cl} {l : List Pt} (h : Is c l) : c.parts.Perm l := by rw [h.parts]; exact (orderP_whole h.whole h.len).1
theorem Is.of {c : Cl} (h : rightP c = 0) : Is c c.parts := by
  obtain ⟨h1, h2, hW, hl, ho⟩ := rightP_whole h
  exact ⟨h1, h2, hW, hl, ho.symm⟩
theorem Whole.perm' {l m : List Pt} (hp : l.Perm m) (h : Whole l) : Whole m := h.perm hp
theorem Is.right {c : Cl} {l : List Pt} (h : Is c l) : rightP c = 0 := by
  refine right_mk h.kind h.val (h.whole.perm' h.perm.symm) (by rw [h.perm.length_eq]; exact h.len) ?_
  rw [orderP_perm h.perm]; exact h.parts.symm
theorem Is.eq {c d : Cl} {l m : List Pt} (h : Is c l) (h' : Is d m) (hp : l.Perm m) : c = d := by
  obtain ⟨k, v, p⟩ := c
  obtain ⟨k', v', p'⟩ := d
  have e1 : k = 4 := h.kind
  have e2 : k' = 4 := h'.kind
  have e3 : v = Vl.zero := h.val
  have e4 : v' = Vl.zero := h'.val
  have e5 : p = orderP l := h.parts
  have e6 : p' = orderP m := h'.parts
  rw [e1, e2, e3, e4, e5, e6, orderP_perm hp]
theorem Is.erase {c : Cl} {l : List Pt} (h : Is c l) (k : Nm) : Is (eraseP c k) (eraseL k l) :=
  ⟨h.kind, h.val, ((gE_keeps k).whole l).2 h.whole, by rw [eraseL_eq, List.length_map]; exact h.len, by
    show eraseL k c.parts = _
    rw [h.parts, eraseL_eq, eraseL_eq, (gE_keeps k).order]⟩
/-! ### The writer's count -/
def dotOf (w : Sp) : Dt := ⟨w.dev, w.seq⟩
def wOK (w : Sp) : Prop := withinB w.time 1 1125899906842624 = true ∧ mayN ⟨⟨w.dev, w.seq⟩, 0⟩ = true
instance (w : Sp) : Decidable (wOK w) := inferInstanceAs (Decidable (_ ∧ _))
def wrL (l : List Pt) (w : Sp) : Int := if wOK w then wrF (dotOf w) w.time l 0 else -1
theorem writerP_eq (c : Cl) (w : Sp) : writerP c w = wrL c.parts w := rfl
theorem wrF_perm {d : Dt} {t : Int} {l m : List Pt} (h : l.Perm m) : ∀ n, wrF d t l n = wrF d t m n := by
  induction h with
  | nil => intro n; rfl
  | cons x _ ih => intro n; simp only [wrF, ih]
  | swap x y l =>
    intro n
    simp only [wrF]
    by_cases h1 : x.dot = d
    · by_cases h2 : y.dot = d
      · simp only [h1, h2, ne_eq, not_true_eq_false, if_false]
        by_cases h3 : x.time = t
        · by_cases h4 : y.time = t
          · simp only [h3, h4, not_true_eq_false, if_false]; congr 1; omega
          · simp only [h3, h4, not_true_eq_false, not_false_eq_true, if_false, if_true]
        · by_cases h4 : y.time = t
          · simp only [h3, h4, not_true_eq_false, not_false_eq_true, if_false, if_true]
          · simp only [h3, h4, not_false_eq_true, if_true]
      · simp only [h1, h2, ne_eq, not_true_eq_false, not_false_eq_true, if_false, if_true]
    · simp only [h1, ne_eq, not_false_eq_true, if_true]
  | trans _ _ ih1 ih2 => intro n; rw [ih1, ih2]
theorem wrL_perm {l m : List Pt} (h : l.Perm m) (w : Sp) : wrL l w = wrL m w := by unfold wrL; rw [wrF_perm h]
theorem wrF_neg {d : Dt} {t : Int} : ∀ {l : List Pt} {n : Int}, 0 ≤ n → (∀ p ∈ l, 0 ≤ p.at_) → wrF d t l n = -1 ∨ n ≤ wrF d t l n
  | [], n, _, _ => .inr (Int.le_refl _)
  | p :: r, n, h, hf => by
    have hp := hf p (by simp)
    have hr : ∀ q ∈ r, 0 ≤ q.at_ := fun q hq => hf q (by simp [hq])
    simp only [wrF]
    split
    · exact wrF_neg h hr
    · split
      · exact .inl rfl
      · rcases wrF_neg (d := d) (t := t) (n := max n (p.at_ + 1)) (by omega) hr with e | e
        · exact .inl e
        · exact .inr (by omega)
theorem wrF_app {d : Dt} {t : Int} : ∀ {l m : List Pt} {n : Int}, 0 ≤ n → (∀ p ∈ l, 0 ≤ p.at_) → 0 ≤ wrF d t l n → wrF d t (l ++ m) n = wrF d t m (wrF d t l n)
  | [], _, _, _, _, _ => rfl
  | p :: r, m, n, h, hf, h0 => by
    have hp := hf p (by simp)
    have hr : ∀ q ∈ r, 0 ≤ q.at_ := fun q hq => hf q (by simp [hq])
    rw [List.cons_append]
    simp only [wrF] at h0 ⊢
    split
    · rename_i e; rw [if_pos e] at h0; exact wrF_app h hr h0
    · rename_i e
      rw [if_neg e] at h0
      split
      · rename_i e2; rw [if_pos e2] at h0; omega
      · rename_i e2; rw [if_neg e2] at h0; exact wrF_app (by omega) hr h0
theorem wrF_none {d : Dt} {t : Int} : ∀ {l : List Pt} {n : Int}, (∀ p ∈ l, p.dot ≠ d) → wrF d t l n = n
  | [], _, _ => rfl
  | p :: r, n, h => by
    simp only [wrF]
    rw [if_pos (h p (by simp))]
    exact wrF_none fun q hq => h q (by simp [hq])
theorem wrF_app_none {d : Dt} {t : Int} {m : List Pt} (h : ∀ p ∈ m, p.dot ≠ d) : ∀ (l : List Pt) (n : Int), wrF d t (l ++ m) n = wrF d t l n
  | [], n => wrF_none h
  | p :: r, n => by rw [List.cons_append]; simp only [wrF, wrF_app_none h r]
theorem wrF_all {d : Dt} {t : Int} : ∀ {l : List Pt} {n : Int}, (∀ p ∈ l, 0 ≤ p.at_) → 0 ≤ n → 0 ≤ wrF d t l n → ∀ p ∈ l, p.dot = d → p.time = t ∧ p.at_ < wrF d t l n
  | [], _, _, _, _, p, h, _ => by cases h
  | x :: r, n, hf, hn, h0, p, hp, e => by
    have hx := hf x (by simp)
    have hr : ∀ q ∈ r, 0 ≤ q.at_ := fun q hq => hf q (by simp [hq])
    simp only [wrF] at h0 ⊢
    rcases List.mem_cons.1 hp with rfl | hp
    · rw [if_neg (by simp [e])] at h0 ⊢
      split at h0
      · omega
      · rename_i e2
        rw [if_neg e2]
        refine ⟨by simpa using e2, ?_⟩
        rcases wrF_neg (d := d) (t := t) (l := r) (n := max n (p.at_ + 1)) (by omega) hr with q | q <;> omega
    · split at h0
      · rename_i e2; rw [if_pos e2]; exact wrF_all hr hn h0 p hp e
      · rename_i e2
        rw [if_neg e2]
        split at h0
        · omega
        · rename_i e3; rw [if_neg e3]; exact wrF_all hr (by omega) h0 p hp e
theorem tyF_dot {w : Sp} : ∀ {bs : List UInt8} {n : Int} {up : Nm}, ∀ x ∈ tyF w bs n up, x.dot = dotOf w
  | [], _, _, x, h => by cases h
  | b :: r, n, up, x, h => by
    rcases List.mem_cons.1 h with rfl | h
    · rfl
    · exact tyF_dot x h
theorem wrF_ty (w : Sp) : ∀ (bs : List UInt8) (n : Int) (up : Nm), wrF (dotOf w) w.time (tyF w bs n up) n = n + bs.length
  | [], n, _ => by simp [tyF, wrF]
  | b :: r, n, up => by
    rw [tyF]
    simp only [wrF]
    rw [if_neg (by simp [dotOf]), if_neg (by simp), show max n (n + 1) = n + 1 by omega, wrF_ty w r (n + 1), List.length_cons]
    omega
/-! ### Whole with what was typed -/
/-- May bytes be put behind? -/
def behB (l : List Pt) (w : Sp) (up : Nm) : Prop := up = Nm.zero ∨ ∃ u ∈ l, nameOf u = up ∧ (stampOf u = w ∨ lessS (stampOf u) w = true)
theorem behind_iff {c : Cl} {w : Sp} {up : Nm} (hn : named c.parts) : behindP c w up = 0 ↔ behB c.parts w up := by
  constructor
  · intro h
    by_cases h0 : up = Nm.zero
    · exact .inl h0
    · obtain ⟨u, hu, e, h2⟩ := behind_mem h h0
      refine .inr ⟨u, hu, e, ?_⟩
      by_cases h3 : stampOf u = w
      · exact .inl h3
      · refine .inr ?_
        cases h4 : lessS (stampOf u) w
        · exact absurd ⟨h3, h4⟩ h2
        · rfl
  · intro h
    unfold behindP
    by_cases h0 : up = Nm.zero
    · rw [if_pos h0]
    · rw [if_neg h0]
      obtain ⟨u, hu, e, h2⟩ := h.resolve_left h0
      cases hI : c.parts.findIdx? (fun p => decide (nameOf p = up)) with
      | none =>
        have := List.findIdx?_eq_none_iff.1 hI u hu
        simp [e] at this
      | some i =>
        obtain ⟨hk, hk1, _⟩ := List.findIdx?_eq_some_iff_getElem.1 hI
        simp only [List.getElem?_eq_getElem hk]
        have e2 : c.parts[i] = u := hn _ (List.getElem_mem hk) _ hu ((of_decide_eq_true hk1).trans e.symm)
        rw [e2, if_neg]
        rintro ⟨h3, h4⟩
        rcases h2 with h2 | h2
        · exact h3 h2
        · rw [h4] at h2; cases h2
theorem behB_perm {l m : List Pt} (h : l.Perm m) (w : Sp) (up : Nm) : behB l w up ↔ behB m w up :=
  or_congr Iff.rfl ⟨fun ⟨u, hu, q⟩ => ⟨u, h.subset hu, q⟩, fun ⟨u, hu, q⟩ => ⟨u, h.symm.subset hu, q⟩⟩
theorem behB_app {l m : List Pt} {w : Sp} {up : Nm} (h : ∀ x ∈ m, nameOf x ≠ up) : behB (l ++ m) w up ↔ behB l w up :=
  or_congr Iff.rfl ⟨fun ⟨u, hu, q⟩ => ⟨u, (List.mem_append.1 hu).resolve_right fun hm => h u hm q.1, q⟩, fun ⟨u, hu, q⟩ => ⟨u, List.mem_append_left _ hu, q⟩⟩
theorem behB_mono {l m : List Pt} {w : Sp} {up : Nm} (h : behB l w up) : behB (l ++ m) w up :=
  h.imp id fun ⟨u, hu, q⟩ => ⟨u, List.mem_append_left _ hu, q⟩
theorem behB_erase {l : List Pt} {w : Sp} {up k : Nm} : behB (eraseL k l) w up ↔ behB l w up := by
  refine or_congr Iff.rfl ⟨fun ⟨u', hu, q⟩ => ?_, fun ⟨u, hu, q⟩ => ⟨gE k u, List.mem_map_of_mem hu, by rw [(gE_keeps k).name, (gE_keeps k).stamp]; exact q⟩⟩
  obtain ⟨u, hv, rfl⟩ := List.mem_map.1 hu
  exact ⟨u, hv, by rw [← (gE_keeps k).name u, ← (gE_keeps k).stamp u]; exact q⟩
theorem may_up {p : Pt} (h : formedP p = true) : mayN (nameOf p) = true := by
  simp only [formedP, Bool.and_eq_true] at h; exact h.1.2
theorem may_of {w : Sp} (hw : wOK w) {n : Int} (h0 : 0 ≤ n) (h1 : n ≤ 1999) : mayN ⟨dotOf w, n⟩ = true := by
  have := hw.2
  show mayN ⟨⟨w.dev, w.seq⟩, n⟩ = true
  simp only [mayN, withinB, Bool.and_eq_true, decide_eq_true_eq] at this ⊢
  exact ⟨this.1, h0, h1⟩
/-- One more part, above all of its writer's. -/
theorem whole_snoc {l : List Pt} {w : Sp} {n : Int} {up : Nm} (b : UInt8) (hW : Whole l) (hw : wOK w) (h0 : 0 ≤ n) (h1 : n ≤ 1999) (ha : ∀ p ∈ l, p.dot = dotOf w → p.time = w.time ∧ p.at_ < n)
    (hup : up = Nm.zero ∨ ∃ u ∈ l, nameOf u = up ∧ (stampOf u = w ∨ lessS (stampOf u) w = true)) :
    Whole (l ++ [⟨⟨1, (b.toNat : Int), e0⟩, ⟨w.dev, w.seq⟩, n, w.time, up.dot, up.at_, false⟩]) := by
  have hb := b.toNat_lt
  obtain ⟨x, hx⟩ : ∃ x : Pt, (⟨⟨1, (b.toNat : Int), e0⟩, ⟨w.dev, w.seq⟩, n, w.time, up.dot, up.at_, false⟩ : Pt) = x := ⟨_, rfl⟩
  have hxn : nameOf x = ⟨dotOf w, n⟩ := by rw [← hx]; rfl
  have hxp : parentOf x = up := by rw [← hx]; rfl
  have hxd : x.dot = dotOf w := by rw [← hx]; rfl
  have hxt : x.time = w.time := by rw [← hx]
  have hxs : stampOf x = w := by rw [← hx]; rfl
  have hxa : x.at_ = n := by rw [← hx]
  have hxv : x.val = ⟨1, (b.toNat : Int), e0⟩ := by rw [← hx]
  rw [hx]
  have hmu : up = Nm.zero ∨ mayN up = true := hup.imp id fun ⟨u, hu, e, _⟩ => by rw [← e]; exact may_up (hW.formed u hu)
  have hfx : formedP x = true := by
    unfold formedP
    rw [hxv, hxt, hxn, hxp, may_of hw h0 h1, hw.1]
    have e1 : withinB (b.toNat : Int) 0 255 = true := by
      unfold withinB; rw [Bool.and_eq_true, decide_eq_true_eq, decide_eq_true_eq]; omega
    rcases hmu with e | e
    · simp [e1, e]
    · simp [e1, e]
  refine ⟨⟨fun p hp => ?_, ?_, fun p hp q hq e => ?_⟩, fun p hp => ?_⟩
  · rcases List.mem_append.1 hp with hp | hp
    · exact hW.formed p hp
    · rw [List.mem_singleton.1 hp]; exact hfx
  · rw [List.map_append, List.nodup_append]
    refine ⟨hW.nodup, by simp, fun m hm m' hm' e => ?_⟩
    obtain ⟨p, hp, rfl⟩ := List.mem_map.1 hm
    rw [List.map_singleton, List.mem_singleton] at hm'
    rw [hm', hxn] at e
    injection e with e1 e2
    have := (ha p hp e1).2
    omega
  · rcases List.mem_append.1 hp with hp | hp <;> rcases List.mem_append.1 hq with hq | hq
    · exact hW.times p hp q hq e
    · rw [List.mem_singleton.1 hq] at e ⊢; rw [hxt]; exact (ha p hp (e.trans hxd)).1
    · rw [List.mem_singleton.1 hp] at e ⊢; rw [hxt]; exact (ha q hq (e.symm.trans hxd)).1.symm
    · rw [List.mem_singleton.1 hp, List.mem_singleton.1 hq]
  · rcases List.mem_append.1 hp with hp | hp
    · rcases hW.up p hp with e | ⟨u, hu, e⟩
      · exact .inl e
      · exact .inr ⟨u, List.mem_append_left _ hu, e⟩
    · rw [List.mem_singleton.1 hp, hxp]
      rcases hup with e | ⟨u, hu, e, h3⟩
      · exact .inl e
      · refine .inr ⟨u, List.mem_append_left _ hu, e, ?_⟩
        unfold aheadP
        rw [hxs, hxa]
        rcases h3 with h3 | h3
        · have hd : u.dot = dotOf w := by rw [← h3]; rfl
          have := (ha u hu hd).2
          simp [h3, this]
        · rw [h3]; rfl
theorem whole_type {w : Sp} : ∀ (bs : List UInt8) {l : List Pt} {n : Int} {up : Nm}, Whole l → wOK w → 0 ≤ n → n + bs.length ≤ 2000 → (∀ p ∈ l, p.dot = dotOf w → p.time = w.time ∧ p.at_ < n) → behB l w up → Whole (l ++ tyF w bs n up)
  | [], l, n, up, hW, _, _, _, _, _ => by rw [tyF, List.append_nil]; exact hW
  | b :: r, l, n, up, hW, hw, h0, h1, ha, hup => by
    rw [List.length_cons] at h1
    have h2 := whole_snoc b hW hw h0 (by omega) ha hup
    have := whole_type r (n := n + 1) (up := ⟨⟨w.dev, w.seq⟩, n⟩) h2 hw (by omega) (by omega) (fun p hp e => by
      rcases List.mem_append.1 hp with hp | hp
      · have := ha p hp e; exact ⟨this.1, by omega⟩
      · rw [List.mem_singleton.1 hp]; exact ⟨rfl, by simp only; omega⟩) (.inr ⟨_, List.mem_append_right _ (List.mem_singleton.2 rfl), rfl, .inl rfl⟩)
    rw [List.append_assoc] at this
    exact this
/-! ### Typed again and again -/
def typedP (c : Cl) (w : Sp) (up : Nm) : List ByteArray → Cl
  | [] => c
  | s :: r => typedP (if (typeP c s w up).2 = 0 then (typeP c s w up).1 else c) w up r
def deltaF (w : Sp) (up : Nm) : Int → List ByteArray → List Pt
  | _, [] => []
  | n, s :: r => if 200 < s.size ∨ 2000 < n + s.size then deltaF w up n r else tyF w s.data.toList n up ++ deltaF w up (n + s.size) r
def sizes : List ByteArray → Nat
  | [] => 0
  | s :: r => s.size + sizes r
open Classical in
noncomputable def deltaL (l : List Pt) (w : Sp) (up : Nm) (ss : List ByteArray) : List Pt := if wrL l w < 0 ∨ ¬ behB l w up then [] else deltaF w up (wrL l w) ss
theorem whole_at {l : List Pt} (hW : Whole l) : ∀ p ∈ l, 0 ≤ p.at_ := fun p hp => (formed_at (hW.formed p hp)).1
theorem size_len (s : ByteArray) : s.data.toList.length = s.size := rfl
/-- What is typed, once. -/
theorem Is.type {c : Cl} {l : List Pt} (h : Is c l) (s : ByteArray) (w : Sp) (up : Nm) (hl : l.length + s.size ≤ 2000) :
    ((wrL l w < 0 ∨ ¬ behB l w up ∨ 200 < s.size ∨ 2000 < wrL l w + s.size) ∧ (typeP c s w up).2 ≠ 0) ∨
    (0 ≤ wrL l w ∧ behB l w up ∧ ¬ (200 < s.size ∨ 2000 < wrL l w + s.size)) ∧ (typeP c s w up).2 = 0 ∧ Is (typeP c s w up).1 (l ++ tyF w s.data.toList (wrL l w) up) := by
  have hp := h.perm
  have hWc : Whole c.parts := h.whole.perm' hp.symm
  have e1 : writerP c w = wrL l w := by rw [writerP_eq, wrL_perm hp]
  have e2 : behindP c w up = 0 ↔ behB l w up := by rw [behind_iff hWc.named, behB_perm hp]
  have e3 : c.parts.length = l.length := hp.length_eq
  unfold typeP
  rw [h.right, e1, e3]
  simp only [ne_eq, not_true_eq_false, if_false]
  by_cases h1 : wrL l w < 0
  · left; rw [if_pos h1]; exact ⟨.inl h1, by simp⟩
  · rw [if_neg h1]
    by_cases h2 : 200 < s.size ∨ 2000 < l.length + s.size ∨ 2000 < wrL l w + s.size
    · left; rw [if_pos h2]; exact ⟨by rcases h2 with q | q | q; exact .inr (.inr (.inl q)); omega; exact .inr (.inr (.inr q)), by simp⟩
    · rw [if_neg h2]
      by_cases h3 : behindP c w up = 0
      · right
        rw [if_neg (by simp [h3])]
        have hb := e2.1 h3
        refine ⟨⟨by omega, hb, fun q => h2 (q.imp id .inr)⟩, rfl, h.kind, h.val, ?_, ?_, ?_⟩
        · have hw : wOK w := by
            apply Classical.byContradiction
            intro q; unfold wrL at h1; rw [if_neg q] at h1; omega
          have e4 : wrL l w = wrF (dotOf w) w.time l 0 := by unfold wrL; rw [if_pos hw]
          refine whole_type _ h.whole hw (by omega) (by rw [size_len]; omega) ?_ hb
          rw [e4] at h1 ⊢
          exact wrF_all (whole_at h.whole) (Int.le_refl 0) (by omega)
        · rw [List.length_append, tyF_len, size_len]; omega
        · exact orderP_perm (hp.append_right _)
      · left
        rw [if_pos h3]
        exact ⟨.inr (.inl fun q => h3 (e2.2 q)), h3⟩
theorem wrL_ty {l : List Pt} (hW : Whole l) {w : Sp} (h0 : 0 ≤ wrL l w) (bs : List UInt8) (up : Nm) : wrL (l ++ tyF w bs (wrL l w) up) w = wrL l w + bs.length := by
  have hw : wOK w := by
    apply Classical.byContradiction
    intro q; unfold wrL at h0; rw [if_neg q] at h0; omega
  have e : wrL l w = wrF (dotOf w) w.time l 0 := by unfold wrL; rw [if_pos hw]
  have e2 : ∀ m, wrL m w = wrF (dotOf w) w.time m 0 := fun m => by unfold wrL; rw [if_pos hw]
  rw [e2 (l ++ _), e]
  rw [e] at h0
  rw [wrF_app (Int.le_refl 0) (whole_at hW) h0, wrF_ty]
theorem Is.typed {w : Sp} {up : Nm} : ∀ (ss : List ByteArray) {c : Cl} {l : List Pt}, Is c l → l.length + sizes ss ≤ 2000 → Is (typedP c w up ss) (l ++ deltaL l w up ss)
  | [], c, l, h, _ => by
    have : deltaL l w up [] = [] := by unfold deltaL; split <;> rfl
    rw [this, List.append_nil]; exact h
  | s :: r, c, l, h, hl => by
    rw [sizes] at hl
    rw [typedP]
    rcases h.type s w up (by omega) with ⟨h1, h2⟩ | ⟨⟨h0, hb, hn⟩, h2, h3⟩
    · rw [if_neg h2]
      have := Is.typed r (w := w) (up := up) h (by omega)
      have e : deltaL l w up (s :: r) = deltaL l w up r := by
        unfold deltaL
        split
        · rfl
        · rename_i q
          rw [deltaF, if_pos]
          rcases h1 with h1 | h1 | h1
          · exact absurd (.inl h1) q
          · exact absurd (.inr h1) q
          · exact h1
      rw [e]; exact this
    · rw [if_pos h2]
      have hlen : (l ++ tyF w s.data.toList (wrL l w) up).length = l.length + s.size := by rw [List.length_append, tyF_len, size_len]
      have := Is.typed r (w := w) (up := up) h3 (by omega)
      have hw2 := wrL_ty h.whole h0 s.data.toList up
      rw [size_len] at hw2
      have e : deltaL l w up (s :: r) = tyF w s.data.toList (wrL l w) up ++ deltaL (l ++ tyF w s.data.toList (wrL l w) up) w up r := by
        unfold deltaL
        rw [if_neg (by rintro (q | q); omega; exact q hb), if_neg (by rw [hw2]; rintro (q | q); omega; exact q (behB_mono hb)), deltaF, if_neg hn, hw2]
      rw [e, ← List.append_assoc]; exact this
theorem deltaF_dot {w : Sp} {up : Nm} : ∀ {ss : List ByteArray} {n : Int}, ∀ x ∈ deltaF w up n ss, x.dot = dotOf w
  | [], _, x, h => by cases h
  | s :: r, n, x, h => by
    rw [deltaF] at h
    split at h
    · exact deltaF_dot x h
    · rcases List.mem_append.1 h with h | h
      · exact tyF_dot x h
      · exact deltaF_dot x h
theorem deltaL_dot {l : List Pt} {w : Sp} {up : Nm} {ss : List ByteArray} : ∀ x ∈ deltaL l w up ss, x.dot = dotOf w := by
  intro x h
  unfold deltaL at h
  split at h
  · cases h
  · exact deltaF_dot x h
theorem deltaF_len {w : Sp} {up : Nm} : ∀ {ss : List ByteArray} {n : Int}, (deltaF w up n ss).length ≤ sizes ss
  | [], _ => Nat.le_refl _
  | s :: r, n => by
    rw [deltaF, sizes]
    split
    · exact Nat.le_trans deltaF_len (by omega)
    · rw [List.length_append, tyF_len, size_len]; have := deltaF_len (w := w) (up := up) (ss := r) (n := n + s.size); omega
theorem deltaL_len {l : List Pt} {w : Sp} {up : Nm} {ss : List ByteArray} : (deltaL l w up ss).length ≤ sizes ss := by
  unfold deltaL
  split
  · exact Nat.zero_le _
  · exact deltaF_len
/-- What another writer puts in, and erases, changes nothing for this one. -/
theorem deltaL_apart {l A : List Pt} {w v : Sp} {up k : Nm} {ss : List ByteArray} (hA : ∀ x ∈ A, x.dot = dotOf v) (hne : dotOf v ≠ dotOf w) (hup : up.dot ≠ dotOf v) : deltaL (eraseL k (l ++ A)) w up ss = deltaL l w up ss := by
  have e1 : wrL (eraseL k (l ++ A)) w = wrL l w := by
    unfold wrL
    rw [eraseL_eq, wrF_keeps (gE_keeps k), wrF_app_none fun p hp => by rw [hA p hp]; exact hne]
  have e2 : behB (eraseL k (l ++ A)) w up ↔ behB l w up := by
    rw [behB_erase, behB_app fun x hx e => hup (by rw [← e]; exact hA x hx)]
  unfold deltaL
  rw [e1]
  by_cases hb : wrL l w < 0 ∨ ¬ behB l w up
  · rw [if_pos hb, if_pos (by rw [e2]; exact hb)]
  · rw [if_neg hb, if_neg (by rw [e2]; exact hb)]
theorem erase_apart {A : List Pt} {v : Sp} {k : Nm} (hA : ∀ x ∈ A, x.dot = dotOf v) (hk : k.dot ≠ dotOf v) : eraseL k A = A :=
  map_gE_self fun x hx e => hk (by rw [← e]; exact hA x hx)
theorem eraseL_app (k : Nm) (l m : List Pt) : eraseL k (l ++ m) = eraseL k l ++ eraseL k m := List.map_append
/-- Two writers come to one text. -/
theorem meets {c : Cl} (hr : rightP c = 0) {a b : Sp} {p q : Nm} {s t : List ByteArray} (hab : dotOf a ≠ dotOf b) (hp : p.dot ≠ dotOf b) (hq : q.dot ≠ dotOf a) (hl : c.parts.length + sizes s + sizes t ≤ 2000) :
    eraseP (typedP (eraseP (typedP c a p s) p) b q t) q = eraseP (typedP (eraseP (typedP c b q t) q) a p s) p ∧ rightP (eraseP (typedP (eraseP (typedP c a p s) p) b q t) q) = 0 := by
  have h := Is.of hr
  have lA := deltaL_len (l := c.parts) (w := a) (up := p) (ss := s)
  have lB := deltaL_len (l := c.parts) (w := b) (up := q) (ss := t)
  have dA := deltaL_dot (l := c.parts) (w := a) (up := p) (ss := s)
  have dB := deltaL_dot (l := c.parts) (w := b) (up := q) (ss := t)
  have a1 := (h.typed s (w := a) (up := p) (by omega)).erase p
  have b1 := (h.typed t (w := b) (up := q) (by omega)).erase q
  have eB := deltaL_apart (l := c.parts) (w := b) (up := q) (ss := t) (k := p) dA hab hq
  have eA := deltaL_apart (l := c.parts) (w := a) (up := p) (ss := s) (k := q) dB (Ne.symm hab) hp
  have a2 := (a1.typed t (w := b) (up := q) (by rw [eraseL_eq, List.length_map, List.length_append]; omega)).erase q
  have b2 := (b1.typed s (w := a) (up := p) (by rw [eraseL_eq, List.length_map, List.length_append]; omega)).erase p
  rw [eB] at a2
  rw [eA] at b2
  have x1 := erase_apart dA hq
  have x2 := erase_apart dB hp
  generalize deltaL c.parts a p s = A at *
  generalize deltaL c.parts b q t = B at *
  refine ⟨a2.eq b2 ?_, a2.right⟩
  simp only [eraseL_app]
  rw [eraseL_comm q p c.parts, eraseL_comm q p A, x1, eraseL_comm p q B, x2]
  simp only [List.append_assoc]
  exact List.Perm.append_left _ List.perm_append_comm
end Go.Proofs.Ytmljghkinhaalaa
