import Derived.Test.YtmljghkinhaalaaTxTells
set_option linter.unusedSimpArgs false
set_option linter.unusedVariables false
namespace Go.Proofs.Ytmljghkinhaalaa
open Go Go.Abs
set_option maxRecDepth 10000
set_option maxHeartbeats 4000000
/-- A change of a part that keeps all that its place depends on. -/
structure Keeps (g : Pt → Pt) : Prop where
  val : ∀ p, (g p).val = p.val
  dot : ∀ p, (g p).dot = p.dot
  at_ : ∀ p, (g p).at_ = p.at_
  time : ∀ p, (g p).time = p.time
  after : ∀ p, (g p).after = p.after
  afterAt : ∀ p, (g p).afterAt = p.afterAt
theorem Keeps.name {g : Pt → Pt} (hg : Keeps g) (p : Pt) : nameOf (g p) = nameOf p := by unfold nameOf; rw [hg.dot, hg.at_]
theorem Keeps.parent {g : Pt → Pt} (hg : Keeps g) (p : Pt) : parentOf (g p) = parentOf p := by unfold parentOf; rw [hg.after, hg.afterAt]
theorem Keeps.stamp {g : Pt → Pt} (hg : Keeps g) (p : Pt) : stampOf (g p) = stampOf p := by unfold stampOf; rw [hg.dot, hg.time]
theorem Keeps.formed {g : Pt → Pt} (hg : Keeps g) (p : Pt) : formedP (g p) = formedP p := by unfold formedP; rw [hg.val, hg.time, hg.name, hg.parent]
theorem Keeps.ahead {g : Pt → Pt} (hg : Keeps g) (a b : Pt) : aheadP (g a) (g b) = aheadP a b := by unfold aheadP; rw [hg.stamp, hg.stamp, hg.at_, hg.at_]
theorem Keeps.names {g : Pt → Pt} (hg : Keeps g) (l : List Pt) : (l.map g).map nameOf = l.map nameOf := by
  rw [List.map_map]; exact List.map_congr_left fun p _ => hg.name p
theorem Keeps.whole {g : Pt → Pt} (hg : Keeps g) (l : List Pt) : Whole (l.map g) ↔ Whole l := by
  constructor
  · intro h
    refine ⟨⟨fun p hp => ?_, ?_, fun p hp q hq e => ?_⟩, fun p hp => ?_⟩
    · rw [← hg.formed]; exact h.formed _ (List.mem_map_of_mem hp)
    · rw [← hg.names]; exact h.nodup
    · rw [← hg.time p, ← hg.time q]; exact h.times _ (List.mem_map_of_mem hp) _ (List.mem_map_of_mem hq) (by rw [hg.dot, hg.dot, e])
    · rcases h.up _ (List.mem_map_of_mem hp) with e | ⟨u', hu', e1, e2⟩
      · left; rw [← hg.parent]; exact e
      · obtain ⟨u, hu, rfl⟩ := List.mem_map.1 hu'
        right; exact ⟨u, hu, by rw [← hg.name, e1, hg.parent], by rw [← hg.ahead u p]; exact e2⟩
  · intro h
    refine ⟨⟨fun p' hp' => ?_, ?_, fun p' hp' q' hq' e => ?_⟩, fun p' hp' => ?_⟩
    · obtain ⟨p, hp, rfl⟩ := List.mem_map.1 hp'; rw [hg.formed]; exact h.formed p hp
    · rw [hg.names]; exact h.nodup
    · obtain ⟨p, hp, rfl⟩ := List.mem_map.1 hp'
      obtain ⟨q, hq, rfl⟩ := List.mem_map.1 hq'
      rw [hg.time, hg.time]; exact h.times p hp q hq (by rw [hg.dot, hg.dot] at e; exact e)
    · obtain ⟨p, hp, rfl⟩ := List.mem_map.1 hp'
      rcases h.up p hp with e | ⟨u, hu, e1, e2⟩
      · left; rw [hg.parent]; exact e
      · right; exact ⟨g u, List.mem_map_of_mem hu, by rw [hg.name, e1, hg.parent], by rw [hg.ahead]; exact e2⟩
theorem Keeps.anc {g : Pt → Pt} (hg : Keeps g) {l : List Pt} {p : Pt} {s : List Pt} (h : Anc l p s) : Anc (l.map g) (g p) (s.map g) := by
  induction h with
  | root hp h0 => exact .root (List.mem_map_of_mem hp) (by rw [hg.parent]; exact h0)
  | step hp hu e h0 _ ih => rw [List.map_append]; exact .step (List.mem_map_of_mem hp) (List.mem_map_of_mem hu) (by rw [hg.name, hg.parent]; exact e) (by rw [hg.parent]; exact h0) ih
theorem Keeps.lex {g : Pt → Pt} (hg : Keeps g) : ∀ {s t : List Pt}, lexLt s t → lexLt (s.map g) (t.map g)
  | _, [], h => by cases ‹List Pt› <;> exact h.elim
  | [], _ :: _, _ => trivial
  | a :: s, b :: t, h => by
    rcases h with ⟨rfl, h⟩ | h
    · exact .inl ⟨rfl, hg.lex h⟩
    · refine .inr ?_
      rw [kinLt_iff, hg.time, hg.time, hg.dot, hg.dot, hg.at_, hg.at_, ← kinLt_iff]; exact h
theorem Keeps.order {g : Pt → Pt} (hg : Keeps g) (l : List Pt) : orderP (l.map g) = (orderP l).map g := by
  by_cases hW : Whole l ∧ l.length ≤ 2000
  · obtain ⟨h1, h2⟩ := orderP_whole hW.1 hW.2
    refine orderP_uniq ((hg.whole l).2 hW.1) (by rw [List.length_map]; exact hW.2) (h1.map g) ?_
    rw [List.pairwise_map]
    exact h2.imp fun ⟨s, t, a, b, c⟩ => ⟨_, _, hg.anc a, hg.anc b, hg.lex c⟩
  · rw [orderP_not hW, orderP_not (by rw [hg.whole, List.length_map]; exact hW)]; rfl
/-! ### Erasing -/
def gE (k : Nm) (p : Pt) : Pt := if nameOf p = k then goneP p else p
theorem eraseL_eq (k : Nm) (l : List Pt) : eraseL k l = l.map (gE k) := rfl
theorem gE_keeps (k : Nm) : Keeps (gE k) := by
  constructor <;> intro p <;> unfold gE goneP <;> split <;> rfl
theorem gE_comm (j k : Nm) (p : Pt) : gE j (gE k p) = gE k (gE j p) := by
  have h1 := (gE_keeps k).name p
  have h2 := (gE_keeps j).name p
  show (if nameOf (gE k p) = j then goneP (gE k p) else gE k p) = if nameOf (gE j p) = k then goneP (gE j p) else gE j p
  rw [h1, h2]
  unfold gE
  by_cases e1 : nameOf p = k
  · by_cases e2 : nameOf p = j
    · rw [if_pos e1, if_pos e2, if_pos e2, if_pos e1]
    · rw [if_pos e1, if_neg e2, if_neg e2, if_pos e1]
  · by_cases e2 : nameOf p = j
    · rw [if_neg e1, if_pos e2, if_neg e1]
    · rw [if_neg e1, if_neg e2, if_neg e1]
theorem gE_idem (k : Nm) (p : Pt) : gE k (gE k p) = gE k p := by
  unfold gE
  by_cases h : nameOf p = k
  · rw [if_pos h, if_pos (show nameOf (goneP p) = k from h)]; rfl
  · rw [if_neg h, if_neg h]
theorem eraseL_comm (j k : Nm) (l : List Pt) : eraseL j (eraseL k l) = eraseL k (eraseL j l) := by
  simp only [eraseL_eq, List.map_map]; exact List.map_congr_left fun p _ => gE_comm j k p
theorem eraseL_idem (k : Nm) (l : List Pt) : eraseL k (eraseL k l) = eraseL k l := by
  simp only [eraseL_eq, List.map_map]; exact List.map_congr_left fun p _ => gE_idem k p
theorem eraseP_comm (j k : Nm) (c : Cl) : eraseP (eraseP c k) j = eraseP (eraseP c j) k := by
  unfold eraseP; simp only [eraseL_comm]
theorem eraseP_idem (k : Nm) (c : Cl) : eraseP (eraseP c k) k = eraseP c k := by
  unfold eraseP; simp only [eraseL_idem]
theorem eraseP_len (k : Nm) (c : Cl) : (eraseP c k).parts.length = c.parts.length := List.length_map _
theorem right_mk {c : Cl} (h1 : c.kind = 4) (h2 : c.val = Vl.zero) (hW : Whole c.parts) (hl : c.parts.length ≤ 2000) (ho : orderP c.parts = c.parts) : rightP c = 0 := by
  unfold rightP
  rw [if_neg (by simp [h1]), if_neg (by simp [h2, (wholeP_iff _).2 hW]), if_neg (by omega), if_neg (by simp [ho])]
theorem right_erase {c : Cl} (k : Nm) (h : rightP c = 0) : rightP (eraseP c k) = 0 := by
  obtain ⟨h1, h2, hW, hl, ho⟩ := rightP_whole h
  refine right_mk h1 h2 (((gE_keeps k).whole _).2 hW) (by rw [eraseP_len]; exact hl) ?_
  show orderP (c.parts.map (gE k)) = c.parts.map (gE k)
  rw [(gE_keeps k).order, ho]
theorem wrF_keeps {g : Pt → Pt} (hg : Keeps g) (d : Dt) (t : Int) : ∀ (l : List Pt) (n : Int), wrF d t (l.map g) n = wrF d t l n
  | [], _ => rfl
  | p :: r, n => by simp only [List.map_cons, wrF, hg.dot, hg.time, hg.at_, wrF_keeps hg d t r]
theorem writer_erase (c : Cl) (w : Sp) (k : Nm) : writerP (eraseP c k) w = writerP c w := by
  unfold writerP
  rw [show (eraseP c k).parts = c.parts.map (gE k) from rfl, wrF_keeps (gE_keeps k)]
theorem behind_erase (c : Cl) (w : Sp) (up k : Nm) : behindP (eraseP c k) w up = behindP c w up := by
  unfold behindP
  rw [show (eraseP c k).parts = c.parts.map (gE k) from rfl, List.findIdx?_map]
  have e : ((fun p => decide (nameOf p = up)) ∘ gE k) = fun p => decide (nameOf p = up) := by
    funext p; simp only [Function.comp, (gE_keeps k).name]
  rw [e]
  split
  · rfl
  · cases c.parts.findIdx? (fun p => decide (nameOf p = up)) with
    | none => rfl
    | some i =>
      simp only [List.getElem?_map]
      cases c.parts[i]? with
      | none => rfl
      | some p => simp only [Option.map_some, (gE_keeps k).stamp]
theorem behind_mem {c : Cl} {w : Sp} {up : Nm} (h : behindP c w up = 0) (h0 : up ≠ Nm.zero) : ∃ u ∈ c.parts, nameOf u = up ∧ ¬ (stampOf u ≠ w ∧ lessS (stampOf u) w = false) := by
  unfold behindP at h
  rw [if_neg h0] at h
  cases hI : c.parts.findIdx? (fun p => decide (nameOf p = up)) with
  | none => rw [hI] at h; cases h
  | some i =>
    rw [hI] at h
    obtain ⟨hk, hk1, _⟩ := List.findIdx?_eq_some_iff_getElem.1 hI
    simp only [List.getElem?_eq_getElem hk] at h
    refine ⟨c.parts[i], List.getElem_mem hk, of_decide_eq_true hk1, fun q => ?_⟩
    rw [if_pos q] at h; cases h
theorem name_nz {p : Pt} (h : formedP p = true) : nameOf p ≠ Nm.zero := by
  intro e
  simp only [formedP, Bool.and_eq_true] at h
  have := h.1.2
  rw [e] at this
  exact absurd this (by decide)
theorem type_ne {c : Cl} {w : Sp} {up : Nm} (t : List Pt) (h : behindP c w up = 0) (hW : Whole (c.parts ++ t)) : ∀ x ∈ t, nameOf x ≠ up := by
  intro x hx e
  have hxf := hW.formed x (List.mem_append_right _ hx)
  by_cases h0 : up = Nm.zero
  · exact name_nz hxf (e.trans h0)
  · obtain ⟨u, hu, hn, _⟩ := behind_mem h h0
    have hnd := hW.nodup
    rw [List.map_append, List.nodup_append] at hnd
    exact hnd.2.2 _ (List.mem_map_of_mem hu) _ (List.mem_map_of_mem hx) (hn.trans e.symm)
theorem map_gE_self {k : Nm} {t : List Pt} (h : ∀ x ∈ t, nameOf x ≠ k) : t.map (gE k) = t := by
  conv => rhs; rw [← List.map_id t]
  exact List.map_congr_left fun x hx => by unfold gE; rw [if_neg (h x hx)]; rfl
theorem order_erase {c : Cl} {w : Sp} {up : Nm} (t : List Pt) (h : behindP c w up = 0) : eraseL up (orderP (c.parts ++ t)) = orderP (eraseL up c.parts ++ t) := by
  have hg := gE_keeps up
  rw [eraseL_eq, eraseL_eq, ← hg.order, List.map_append]
  by_cases hW : Whole (c.parts ++ t)
  · rw [map_gE_self (type_ne t h hW)]
  · have e : ((c.parts.map (gE up) ++ t).map (gE up)) = (c.parts ++ t).map (gE up) := by
      rw [List.map_append, List.map_append, List.map_map]
      congr 1
      exact List.map_congr_left fun p _ => gE_idem up p
    rw [orderP_not (fun q => hW ((hg.whole _).1 (by rw [List.map_append]; exact q.1))), orderP_not (fun q => hW ?_)]
    have := (hg.whole _).2 q.1
    rw [e] at this
    exact (hg.whole _).1 this
theorem type_erase {c : Cl} (hr : rightP c = 0) (s : ByteArray) (w : Sp) (up : Nm) : (typeP (eraseP c up) s w up).2 = (typeP c s w up).2 ∧ ((typeP c s w up).2 = 0 → eraseP (typeP c s w up).1 up = (typeP (eraseP c up) s w up).1) := by
  unfold typeP
  rw [right_erase up hr, hr, writer_erase, behind_erase, eraseP_len]
  simp only [ne_eq, not_true_eq_false, if_false]
  by_cases h1 : writerP c w < 0
  · rw [if_pos h1, if_pos h1]; exact ⟨rfl, fun h => by cases h⟩
  · rw [if_neg h1, if_neg h1]
    by_cases h2 : 200 < s.size ∨ 2000 < c.parts.length + s.size ∨ 2000 < writerP c w + s.size
    · rw [if_pos h2, if_pos h2]; exact ⟨rfl, fun h => by cases h⟩
    · rw [if_neg h2, if_neg h2]
      by_cases h3 : behindP c w up = 0
      · rw [if_neg (by simp [h3]), if_neg (by simp [h3])]
        refine ⟨rfl, fun _ => ?_⟩
        unfold eraseP
        simp only [order_erase _ h3]
      · rw [if_pos h3, if_pos h3]; exact ⟨rfl, fun h => absurd h h3⟩
theorem type_len (c : Cl) (s : ByteArray) (w : Sp) (up : Nm) : (typeP c s w up).1.parts.length ≤ c.parts.length + s.size := by
  unfold typeP
  split
  · exact Nat.zero_le _
  · split
    · exact Nat.zero_le _
    · split
      · exact Nat.zero_le _
      · split
        · exact Nat.zero_le _
        · refine Nat.le_trans (order_len _) ?_
          rw [List.length_append, tyF_len]; exact Nat.le_refl _
theorem erase_gone (k : Nm) (p : Pt) : (gE k p).gone = (p.gone || decide (nameOf p = k)) := by
  unfold gE goneP
  by_cases h : nameOf p = k
  · rw [if_pos h, decide_eq_true h, Bool.or_true]
  · rw [if_neg h, decide_eq_false h, Bool.or_false]
end Go.Proofs.Ytmljghkinhaalaa
