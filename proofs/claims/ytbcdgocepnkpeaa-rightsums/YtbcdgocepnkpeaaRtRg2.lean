import Derived.Test.YtbcdgocepnkpeaaRtRights
set_option linter.unusedSimpArgs false
set_option linter.unusedVariables false
namespace Go.Proofs.Ytbcdgocepnkpeaa
open Go Go.Abs
attribute [local irreducible] Ev PWp
set_option maxRecDepth 10000
set_option maxHeartbeats 4000000
def Joined (l m : List Sn) : Prop := ∃ srt : List Sn, srt.Perm l ∧ (srt.Pairwise fun x y => x.lo ≤ y.lo) ∧ m = mergeL srt
structure Vis where
  k : Of
  l : List Sn
  m : List Sn
def Vis.rts (v : Vis) : List Rt := v.m.map (spanRt v.k)
def lens (l : List (Of × Option (Nat × List Sn))) : Nat := (l.map fun e => (lst e.2).length).sum
def LiveR (st0 : Store) (d : CD) (it : Nat) (rest : List (Of × Option (Nat × List Sn))) (j : Nat) : Prop := (st0 j ≠ none ∧ j ∉ d.ids) ∨ j = it ∨ j = d.i2 ∨ j ∈ spI rest
structure InvS (st0 : Store) (d : CD) (id3 it : Nat) (rest : List (Of × Option (Nat × List Sn))) (a : Option (Nat × List Rt)) (S : Store) : Prop where
  acc : Acc (LiveR st0 d it rest) S id3 a
  iter : ∃ cur, S it = some (.iter cur (ments Of.enc spF (spE rest)))
  old : ∀ j, (st0 j ≠ none ∧ j ∉ d.ids) ∨ j = d.i2 ∨ j ∈ spI rest → S j = st0 j ∧ j ≠ it ∧ st0 j ≠ none
  ids : (spI rest).Nodup
structure InvL (d : CD) (rest : List (Of × Option (Nat × List Sn))) (vis : List Vis) (al : List Rt) : Prop where
  perm : ((vis.map fun v => (v.k, v.l)) ++ rest.map fun e => (e.1, lst e.2)).Perm (d.sp.map fun e => (e.1, lst e.2))
  joined : ∀ v ∈ vis, Joined v.l v.m
  accl : al = vis.flatMap Vis.rts
  len : al.length + lens rest ≤ lens d.sp
  sub : ∀ e ∈ rest, e ∈ d.sp
theorem InvS.live {st0 : Store} {d : CD} {id3 it : Nat} {rest : List (Of × Option (Nat × List Sn))} {a : Option (Nat × List Rt)} {S : Store} (h : InvS st0 d id3 it rest a S) : ∀ j, LiveR st0 d it rest j → S j ≠ none := fun j hj => by
  rcases hj with hj | rfl | hj
  · rw [(h.old j (.inl hj)).1]; exact hj.1
  · obtain ⟨cur, e⟩ := h.iter; rw [e]; simp
  · obtain ⟨e1, _, e2⟩ := h.old j (.inr hj); rw [e1]; exact e2
theorem map_erase {α β : Type} (f : α → β) : ∀ (l : List α) (i : Nat), (l.map f).eraseIdx i = (l.eraseIdx i).map f
  | [], i => by simp
  | x :: l, 0 => by simp
  | x :: l, i + 1 => by simp only [List.map_cons, List.eraseIdx_cons_succ, map_erase f l i]
theorem spI_erase {l : List (Of × Option (Nat × List Sn))} {i : Nat} (h : i < l.length) : (∀ j ∈ spI (l.eraseIdx i), j ∈ spI l) ∧ ((spI l).Nodup → (spI (l.eraseIdx i)).Nodup ∧ ∀ y, l[i].2 = some y → y.1 ∈ spI l ∧ y.1 ∉ spI (l.eraseIdx i)) := by
  have e : l = l.take i ++ l[i] :: l.drop (i + 1) := by rw [← List.drop_eq_getElem_cons h, List.take_append_drop]
  have e2 : l.eraseIdx i = l.take i ++ l.drop (i + 1) := List.eraseIdx_eq_take_drop_succ ..
  have hI : ∀ a b : List (Of × Option (Nat × List Sn)), spI (a ++ b) = spI a ++ spI b := fun a b => List.filterMap_append ..
  have e3 : spI l = spI (l.take i) ++ spI [l[i]] ++ spI (l.drop (i + 1)) := by
    conv => lhs; rw [e]
    rw [hI, List.append_assoc, ← hI [_]]; rfl
  rw [e2, e3, hI]
  refine ⟨fun j hj => ?_, fun hn => ⟨?_, fun y hy => ?_⟩⟩
  · simp only [List.mem_append] at hj ⊢
    rcases hj with hj | hj
    · exact .inl (.inl hj)
    · exact .inr hj
  · refine hn.sublist ?_
    rw [List.append_assoc]
    exact List.Sublist.append_left (List.sublist_append_right _ _) _
  · have e4 : spI [l[i]] = [y.1] := by unfold spI; rw [List.filterMap_cons, hy]; rfl
    rw [e4] at hn ⊢
    refine ⟨by simp, fun q => ?_⟩
    simp only [List.mem_append] at q
    simp only [List.nodup_append, List.mem_append, List.mem_singleton] at hn
    rcases q with q | q
    · exact hn.1.2.2 y.1 q y.1 rfl rfl
    · exact hn.2.2 y.1 (.inr rfl) y.1 q rfl
theorem lens_erase {l : List (Of × Option (Nat × List Sn))} {i : Nat} (h : i < l.length) : lens l = (lst l[i].2).length + lens (l.eraseIdx i) := by
  unfold lens
  induction l generalizing i with
  | nil => simp at h
  | cons x l ih =>
    cases i with
    | zero => simp
    | succ i =>
      have := ih (i := i) (by simpa using h)
      simp only [List.map_cons, List.sum_cons, List.getElem_cons_succ, List.eraseIdx_cons_succ]
      omega
theorem perm_erase {α : Type} {l : List α} {i : Nat} (h : i < l.length) : l.Perm (l[i] :: l.eraseIdx i) := by
  have e : l = l.take i ++ l[i] :: l.drop (i + 1) := by rw [← List.drop_eq_getElem_cons h, List.take_append_drop]
  rw [List.eraseIdx_eq_take_drop_succ]
  conv => lhs; rw [e]
  exact List.perm_middle
section
variable {st0 : Store} {d : CD} {id3 it : Nat} {rest : List (Of × Option (Nat × List Sn))} {a : Option (Nat × List Rt)} {S C : Store}
theorem InvS.take (h : InvS st0 d id3 it rest a S) {i : Nat} (hi : i < rest.length) (cur : Option (Value × PV)) : InvS st0 d id3 it (rest.eraseIdx i) a (upd S it (some (.iter cur (ments Of.enc spF (spE (rest.eraseIdx i)))))) := by
  obtain ⟨q1, q2⟩ := spI_erase hi
  have hL : ∀ j, LiveR st0 d it (rest.eraseIdx i) j → LiveR st0 d it rest j := fun j hj => by
    rcases hj with hj | hj | hj | hj
    · exact .inl hj
    · exact .inr (.inl hj)
    · exact .inr (.inr (.inl hj))
    · exact .inr (.inr (.inr (q1 j hj)))
  refine ⟨h.acc.move (upd_ne fun e => h.acc.out (by rw [e]; exact .inr (.inl rfl))) (fun y e => ⟨upd_ne fun q => (h.acc.arr y e).2 (by rw [q]; exact .inr (.inl rfl)), fun q => (h.acc.arr y e).2 (hL _ q)⟩) fun q => h.acc.out (hL _ q), ⟨cur, upd_same _ _ _⟩, fun j hj => ?_, (q2 h.ids).1⟩
  have hj' : (st0 j ≠ none ∧ j ∉ d.ids) ∨ j = d.i2 ∨ j ∈ spI rest := by
    rcases hj with hj | hj | hj
    · exact .inl hj
    · exact .inr (.inl hj)
    · exact .inr (.inr (q1 j hj))
  obtain ⟨e1, e2, e3⟩ := h.old j hj'
  exact ⟨by rw [upd_ne e2]; exact e1, e2, e3⟩
theorem InvL.take {vis : List Vis} {al : List Rt} (h : InvL d rest vis al) {i : Nat} (hi : i < rest.length) {k : Of} {v : Option (Nat × List Sn)} (hv : rest[i] = (k, v)) {m : List Sn} (hj : Joined (lst v) m) : InvL d (rest.eraseIdx i) (vis ++ [⟨k, lst v, m⟩]) (al ++ m.map (spanRt k)) := by
  refine ⟨?_, fun w hw => ?_, ?_, ?_, fun e he => h.sub e (List.mem_of_mem_eraseIdx he)⟩
  · refine List.Perm.trans ?_ h.perm
    have := (perm_erase hi).map fun e : Of × Option (Nat × List Sn) => (e.1, lst e.2)
    rw [hv, List.map_cons] at this
    rw [List.map_append, List.map_cons, List.map_nil, List.append_assoc]
    exact (this.symm).append_left _
  · rcases List.mem_append.1 hw with hw | hw
    · exact h.joined w hw
    · rw [List.mem_singleton.1 hw]; exact hj
  · rw [h.accl, List.flatMap_append]
    simp [Vis.rts]
  · have h1 := h.len
    have h2 := lens_erase hi
    rw [hv] at h2
    obtain ⟨srt, p1, _, rfl⟩ := hj
    have h3 := mergeL_len srt
    have h4 := p1.length_eq
    rw [List.length_append, List.length_map]
    have h2 : lens rest = (lst v).length + lens (rest.eraseIdx i) := h2
    omega
structure ArrA (st0 : Store) (d : CD) (it : Nat) (rest : List (Of × Option (Nat × List Sn))) (a : Option (Nat × List Rt)) (C : Store) (idA : Nat) (l : List Sn) : Prop where
  arr : C idA = some (.arr 80 (l.map Sn.cells))
  out : ¬ LiveR st0 d it rest idA
  acc : ∀ y, a = some y → y.1 ≠ idA
theorem InvS.arrS (h : InvS st0 d id3 it rest a S) {i : Nat} (hi : i < rest.length) (cur : Option (Value × PV)) {y : Nat × List Sn} (hy : rest[i].2 = some y) (hd : d.i2 ∉ spI rest) (harr : st0 y.1 = some (.arr 80 (y.2.map Sn.cells))) (hids : ∀ j ∈ spI rest, j ∈ d.ids) :
    ArrA st0 d it (rest.eraseIdx i) a (upd S it (some (.iter cur (ments Of.enc spF (spE (rest.eraseIdx i)))))) y.1 y.2 := by
  obtain ⟨q1, q2⟩ := spI_erase hi
  obtain ⟨q3, q4⟩ := (q2 h.ids).2 y hy
  obtain ⟨e1, e2, e3⟩ := h.old _ (.inr (.inr q3))
  refine ⟨by rw [upd_ne e2, e1, harr], fun q => ?_, fun z hz e => (h.acc.arr z hz).2 (by rw [e]; exact .inr (.inr (.inr q3)))⟩
  rcases q with q | q | q | q
  · exact q.2 (hids _ q3)
  · exact e2 q
  · exact hd (q ▸ q3)
  · exact q4 q
theorem InvS.zero (h : InvS st0 d id3 it rest a C) {idA : Nat} (hA : C idA = none) : InvS st0 d id3 it rest a (upd C idA (some (.arr 80 []))) ∧ ArrA st0 d it rest a (upd C idA (some (.arr 80 []))) idA [] := by
  have hl := h.live
  have nl : ¬ LiveR st0 d it rest idA := fun q => hl _ q hA
  have na : ∀ y, a = some y → y.1 ≠ idA := fun y e q => by have := (h.acc.arr y e).1; rw [q, hA] at this; cases this
  refine ⟨⟨h.acc.move (upd_ne fun e => by have := h.acc.box; rw [e, hA] at this; cases this) (fun y e => ⟨upd_ne (na y e), (h.acc.arr y e).2⟩) h.acc.out, ?_, fun j hj => ?_, h.ids⟩, upd_same _ _ _, nl, na⟩
  · obtain ⟨cur, e⟩ := h.iter
    exact ⟨cur, by rw [upd_ne fun q => by rw [q, hA] at e; cases e]; exact e⟩
  · obtain ⟨e1, e2, e3⟩ := h.old j hj
    exact ⟨by rw [upd_ne fun q => e3 (by rw [← e1, q, hA])]; exact e1, e2, e3⟩
structure JJ (st0 : Store) (d : CD) (id3 it : Nat) (rest : List (Of × Option (Nat × List Sn))) (C : Store) (lp : AObj) (idl idA : Nat) (k : Of) (al : List Rt) (srt done : List Sn) (S : Store) : Prop where
  loop : S idl = some lp
  arr : S idA = some (.arr 80 (srt.map Sn.cells))
  acc : ∃ a', Acc (fun j => LiveR st0 d it rest j ∨ j = idl ∨ j = idA) S id3 a' ∧ accL a' = al ++ done.map (spanRt k)
  old : ∀ j, LiveR st0 d it rest j → S j = C j
theorem JJ.zero (h : InvS st0 d id3 it rest a C) {idA idl : Nat} {l : List Sn} (hA : ArrA st0 d it rest a C idA l) (hl : C idl = none) (lp : AObj) (k : Of) (srt : List Sn) : JJ st0 d id3 it rest C lp idl idA k (accL a) srt [] (upd (upd C idl (some lp)) idA (some (.arr 80 (srt.map Sn.cells)))) := by
  have hL := h.live
  have n1 : idl ≠ idA := fun e => by have := hA.arr; rw [← e, hl] at this; cases this
  have n3 : id3 ≠ idl := fun e => by have := h.acc.box; rw [e, hl] at this; cases this
  have n4 : id3 ≠ idA := fun e => by have := h.acc.box; rw [e, hA.arr] at this; cases this
  have na : ∀ y, a = some y → y.1 ≠ idl := fun y e q => by have := (h.acc.arr y e).1; rw [q, hl] at this; cases this
  refine ⟨by rw [upd_ne n1, upd_same], upd_same _ _ _, ⟨a, h.acc.move (by rw [upd_ne n4, upd_ne n3]) (fun y e => ⟨by rw [upd_ne (hA.acc y e), upd_ne (na y e)], ?_⟩) ?_, by simp⟩, fun j hj => ?_⟩
  · rintro (q | q | q)
    · exact (h.acc.arr y e).2 q
    · exact na y e q
    · exact hA.acc y e q
  · rintro (q | q | q)
    · exact h.acc.out q
    · exact n3 q
    · exact n4 q
  · rw [upd_ne fun e => hA.out (by rw [← e]; exact hj), upd_ne fun e => hL j hj (by rw [e]; exact hl)]
theorem JJ.live (h : InvS st0 d id3 it rest a C) {lp : AObj} {idl idA : Nat} {k : Of} {al : List Rt} {srt done : List Sn} (hJ : JJ st0 d id3 it rest C lp idl idA k al srt done S) : ∀ j, LiveR st0 d it rest j ∨ j = idl ∨ j = idA → S j ≠ none := fun j hj => by
  rcases hj with hj | rfl | rfl
  · rw [hJ.old j hj]; exact h.live j hj
  · rw [hJ.loop]; simp
  · rw [hJ.arr]; simp
theorem JJ.out (h : InvS st0 d id3 it rest a C) {lp : AObj} {idl idA : Nat} {k : Of} {al : List Rt} {srt done : List Sn} (hl : C idl = none) (hJ : JJ st0 d id3 it rest C lp idl idA k al srt done S) : ∃ a', InvS st0 d id3 it rest a' (upd S idl none) ∧ accL a' = al ++ done.map (spanRt k) := by
  obtain ⟨a', h1, h2⟩ := hJ.acc
  have nl : ∀ j, LiveR st0 d it rest j → j ≠ idl := fun j hj e => h.live j hj (e ▸ hl)
  refine ⟨a', ⟨h1.move (upd_ne fun e => h1.out (.inr (.inl e))) (fun y e => ⟨upd_ne fun q => (h1.arr y e).2 (.inr (.inl q)), fun q => (h1.arr y e).2 (.inl q)⟩) fun q => h1.out (.inl q), ?_, fun j hj => ?_, h.ids⟩, h2⟩
  · obtain ⟨cur, e⟩ := h.iter
    exact ⟨cur, by rw [upd_ne (nl it (.inr (.inl rfl))), hJ.old it (.inr (.inl rfl))]; exact e⟩
  · obtain ⟨e1, e2, e3⟩ := h.old j hj
    have hj' : LiveR st0 d it rest j := by
      rcases hj with hj | hj
      · exact .inl hj
      · exact .inr (.inr hj)
    exact ⟨by rw [upd_ne (nl j hj'), hJ.old j hj']; exact e1, e2, e3⟩
theorem JJ.round (h : InvS st0 d id3 it rest a C) {busy lp : AObj} {idl idA : Nat} {k : Of} {al : List Rt} {srt done : List Sn} (hna : idl ≠ idA) (hnl : ¬ LiveR st0 d it rest idl) (hJ : JJ st0 d id3 it rest C lp idl idA k al srt done S) {a' : Option (Nat × List Rt)} (hacc : Acc (fun j => LiveR st0 d it rest j ∨ j = idl ∨ j = idA) S id3 a') (hal : accL a' = al ++ done.map (spanRt k)) (x : Sn) {i' : Nat} {S1 : Store} (hi : upd S idl (some busy) i' = none)
    (hS : S1 = upd (upd (upd S idl (some busy)) i' (some (.arr 34 ((accL a' ++ [spanRt k x]).map Rt.cells)))) id3 (some (.cells 50 [accV (some (i', accL a' ++ [spanRt k x]))])) ∨ ∃ y, a' = some y ∧ S1 = upd (upd (upd (upd S idl (some busy)) y.1 none) i' (some (.arr 34 ((accL a' ++ [spanRt k x]).map Rt.cells)))) id3 (some (.cells 50 [accV (some (i', accL a' ++ [spanRt k x]))]))) :
    S1 idl = some busy ∧ JJ st0 d id3 it rest C lp idl idA k al srt (done ++ [x]) (upd S1 idl (some lp)) := by
  obtain ⟨g1, g2, g3⟩ := hacc.round (.inr (.inl rfl)) (hJ.live h) busy lp hi hS
  refine ⟨g2, upd_same _ _ _, by rw [g3 idA (.inr (.inr rfl)) (Ne.symm hna)]; exact hJ.arr, ⟨_, g1, ?_⟩, fun j hj => by rw [g3 j (.inl hj) fun e => hnl (e ▸ hj)]; exact hJ.old j hj⟩
  show accL a' ++ [spanRt k x] = _
  rw [hal, List.map_append, List.append_assoc]; rfl
end
def LiveB (st0 : Store) (d : CD) (it : Nat) (j : Nat) : Prop := (st0 j ≠ none ∧ j ∉ d.ids) ∨ j = it
structure InvB (st0 : Store) (d : CD) (id3 it : Nat) (rest : List (Of × Int)) (a : Option (Nat × List Rt)) (S : Store) : Prop where
  acc : Acc (LiveB st0 d it) S id3 a
  iter : ∃ cur, S it = some (.iter cur (ments Of.enc intF rest))
  old : ∀ j, st0 j ≠ none ∧ j ∉ d.ids → S j = st0 j ∧ j ≠ it
def amR (l : List (Of × Int)) : List Rt := (l.filter fun e => decide (e.2 ≠ 0)).map fun e => amtRt e.1 e.2
structure InvC (d : CD) (rest va : List (Of × Int)) (base al : List Rt) : Prop where
  perm : (va ++ rest).Perm d.am
  accl : al = base ++ amR va
section
variable {st0 : Store} {d : CD} {id3 it : Nat} {a : Option (Nat × List Rt)} {S S1 : Store} {rest : List (Of × Int)}
theorem InvB.live (h : InvB st0 d id3 it rest a S) : ∀ j, LiveB st0 d it j → S j ≠ none := fun j hj => by
  rcases hj with hj | rfl
  · rw [(h.old j hj).1]; exact hj.1
  · obtain ⟨cur, e⟩ := h.iter; rw [e]; simp
theorem InvB.start {it2 : Nat} (h : InvS st0 d id3 it [] a S) (hit2 : upd S d.i2 none it2 = none) (cur : Option (Value × PV)) (es : List (Of × Int)) : InvB st0 d id3 it2 es a (upd (upd S d.i2 none) it2 (some (.iter cur (ments Of.enc intF es)))) := by
  have k2 : ∀ j, S j ≠ none → j ≠ d.i2 → j ≠ it2 := fun j h1 h2 e => by rw [← e, upd_ne h2] at hit2; exact h1 hit2
  have h3 : id3 ≠ d.i2 := fun e => h.acc.out (by rw [e]; exact .inr (.inr (.inl rfl)))
  have h4 := k2 id3 (by rw [h.acc.box]; simp) h3
  have hy : ∀ y, a = some y → y.1 ≠ d.i2 ∧ y.1 ≠ it2 := fun y e => by
    have h5 : y.1 ≠ d.i2 := fun q => (h.acc.arr y e).2 (by rw [q]; exact .inr (.inr (.inl rfl)))
    exact ⟨h5, k2 _ (by rw [(h.acc.arr y e).1]; simp) h5⟩
  have ho : ∀ j, st0 j ≠ none ∧ j ∉ d.ids → S j = st0 j ∧ j ≠ d.i2 ∧ j ≠ it2 := fun j hj => by
    have h6 := (h.old j (.inl hj)).1
    have h7 : j ≠ d.i2 := fun e => hj.2 (by rw [e]; simp [CD.ids])
    exact ⟨h6, h7, k2 j (by rw [h6]; exact hj.1) h7⟩
  refine ⟨h.acc.move (by rw [upd_ne h4, upd_ne h3]) (fun y e => ⟨by rw [upd_ne (hy y e).2, upd_ne (hy y e).1], ?_⟩) ?_, ⟨cur, upd_same _ _ _⟩, fun j hj => ?_⟩
  · rintro (q | q)
    · exact (h.acc.arr y e).2 (.inl q)
    · exact (hy y e).2 q
  · rintro (q | q)
    · exact h.acc.out (.inl q)
    · exact h4 q
  · obtain ⟨e1, e2, e3⟩ := ho j hj
    exact ⟨by rw [upd_ne e3, upd_ne e2]; exact e1, e3⟩
theorem InvB.take (h : InvB st0 d id3 it rest a S) (cur : Option (Value × PV)) (es : List (Of × Int)) : InvB st0 d id3 it es a (upd S it (some (.iter cur (ments Of.enc intF es)))) :=
  ⟨h.acc.move (upd_ne fun e => h.acc.out (by rw [e]; exact .inr rfl)) (fun y e => ⟨upd_ne fun q => (h.acc.arr y e).2 (by rw [q]; exact .inr rfl), (h.acc.arr y e).2⟩) h.acc.out, ⟨cur, upd_same _ _ _⟩, fun j hj => by
    obtain ⟨e1, e2⟩ := h.old j hj
    exact ⟨by rw [upd_ne e2]; exact e1, e2⟩⟩
theorem InvB.grow (h : InvB st0 d id3 it rest a S) {i' : Nat} {l' : List Rt} (hi : S i' = none)
    (hS : S1 = upd (upd S i' (some (.arr 34 (l'.map Rt.cells)))) id3 (some (.cells 50 [accV (some (i', l'))])) ∨ ∃ y, a = some y ∧ S1 = upd (upd (upd S y.1 none) i' (some (.arr 34 (l'.map Rt.cells)))) id3 (some (.cells 50 [accV (some (i', l'))]))) : InvB st0 d id3 it rest (some (i', l')) S1 := by
  obtain ⟨g1, g2⟩ := h.acc.grow hi h.live hS
  refine ⟨g1, ?_, fun j hj => ?_⟩
  · obtain ⟨cur, e⟩ := h.iter
    exact ⟨cur, (g2 it (.inr rfl)).trans e⟩
  · obtain ⟨e1, e2⟩ := h.old j hj
    exact ⟨(g2 j (.inl hj)).trans e1, e2⟩
theorem InvC.take {va : List (Of × Int)} {base al : List Rt} (h : InvC d rest va base al) {i : Nat} (hi : i < rest.length) {k : Of} {n : Int} (hv : rest[i] = (k, n)) : (va ++ [(k, n)] ++ rest.eraseIdx i).Perm d.am ∧ (n = 0 → InvC d (rest.eraseIdx i) (va ++ [(k, n)]) base al) ∧ (n ≠ 0 → InvC d (rest.eraseIdx i) (va ++ [(k, n)]) base (al ++ [amtRt k n])) := by
  have hp : (va ++ [(k, n)] ++ rest.eraseIdx i).Perm d.am := by
    refine List.Perm.trans ?_ h.perm
    have := perm_erase hi
    rw [hv] at this
    rw [List.append_assoc]
    exact (this.symm).append_left _
  refine ⟨hp, fun e => ⟨hp, ?_⟩, fun e => ⟨hp, ?_⟩⟩
  · rw [h.accl]; simp [amR, e]
  · rw [h.accl]; simp [amR, e]
theorem InvC.len {va : List (Of × Int)} {base al : List Rt} (h : InvC d rest va base al) : al.length + rest.length ≤ base.length + d.am.length := by
  have h1 := h.perm.length_eq
  rw [List.length_append] at h1
  rw [h.accl, List.length_append, amR, List.length_map]
  have := List.length_filter_le (fun e : Of × Int => decide (e.2 ≠ 0)) va
  omega
end
structure RightsOf (d : PD) (r : List Rt) : Prop where
  ex : ∃ (vis : List Vis) (va : List (Of × Int)), (vis.map fun v => (v.k, v.l)).Perm d.sp ∧ (∀ v ∈ vis, Joined v.l v.m) ∧ va.Perm d.am ∧ r.Perm (vis.flatMap Vis.rts ++ amR va)
  ord : r.Pairwise fun x y => ¬ RtLt y x
def cutS (st : Store) (ids : List Nat) : Store := fun j => if j ∈ ids then none else st j
theorem joined_spec (id n : Nat) : PF Try.prog 48 [.vec id 2 0 n] (.fn 55 [.rp [.vec id 2 0 n]]) := by
  refine pf_of tt_ok Try.func48 (by kernel_rfl) rfl rfl rfl rfl (fun st => ?_)
  (try (apply wO pk; exact rfl)); (repeat' (first | exact All.nil | refine All.cons ?_ ?_ | (apply wC pk; exact rfl; exact rfl) | (apply wE pk; exact rfl; exact rfl) | (apply wX pk; exact rfl) | (apply wN pk; exact rfl) | (apply wD pk [] []; kernel_rfl; exact rfl; exact rfl) | exact Imp.one | exact Imp.same | refine Imp.left ?_ | exact ImpX.one | exact ImpX.same | exact ImpX.mk | refine ImpX.up ?_ | refine ImpX.old ?_ | (apply pwp_condC; simp only [cond_true, cond_false]) | (refine pwp_cond rfl (fun h => ?_) (fun h => ?_) <;> (try simp at h) <;> (first | done | (exfalso; omega) | skip)) | (refine pwp_ret ?_; refine ⟨_, _, _, rfl, Wk.refl _, StSub.refl _, ?_, rfl⟩; (first | rfl | skip)) | (apply ev_freeze 1; exact rfl; exact rfl) | (intros; omega) | (intros; simp only [List.length_map]; omega)))
theorem rights_pc (st0 : Store) (d : CD) (hm1 : st0 d.i1 = some (.map (ments Of.enc spF (spE d.sp)))) (hm2 : st0 d.i2 = some (.map (ments Of.enc intF d.am))) (harr : ∀ k id l, (k, some (id, l)) ∈ d.sp → st0 id = some (.arr 80 (l.map Sn.cells))) (hids : d.ids.Nodup)
    (hB : ∀ k id l, (k, some (id, l)) ∈ d.sp → ∀ x ∈ l, SnB x) (hlen : lens d.sp + d.am.length ≤ 100000) :
    PC Try.prog 42 [.agg [.mref d.i1, .mref d.i2]] st0 fun r S => ∃ rs : List Rt, r = .seq (rs.map Rt.cells) ∧ RightsOf d.pd rs ∧ S = cutS st0 d.ids := by
  refine pc_of tt_ok Try.func42 (by kernel_rfl) rfl rfl rfl rfl ?_
  (try (apply wO pk; exact rfl)); (repeat' (first | exact All.nil | refine All.cons ?_ ?_ | (apply wC pk; exact rfl; exact rfl) | (apply wE pk; exact rfl; exact rfl) | (apply wX pk; exact rfl) | (apply wN pk; exact rfl) | (apply wD pk [] []; kernel_rfl; exact rfl; exact rfl) | exact Imp.one | exact Imp.same | refine Imp.left ?_ | exact ImpX.one | exact ImpX.same | exact ImpX.mk | refine ImpX.up ?_ | refine ImpX.old ?_ | (apply pwp_condC; simp only [cond_true, cond_false]) | (refine pwp_cond rfl (fun h => ?_) (fun h => ?_) <;> (try simp at h) <;> (first | done | (exfalso; omega) | skip)) | (refine pwp_ret ?_; refine ⟨_, _, _, rfl, Wk.refl _, StSub.refl _, ?_, rfl⟩; (first | rfl | skip)) | (apply ev_share 3; exact rfl; exact rfl; intro id3 h3) | (intros; omega) | (intros; simp only [List.length_map]; omega)))
  have h3 : st0 id3 = none := h3
  have n31 : d.i1 ≠ id3 := fun e => by rw [e, h3] at hm1; cases hm1
  apply ev_freezeMap 10
  · exact rfl
  · exact (upd_ne n31).trans hm1
  apply rangeA pk
  · exact rfl
  · exact rfl
  · exact rfl
  · exact rfl
  · exact rfl
  intro it hit
  have hit : upd (upd st0 id3 (some (.cells 50 [.val (.slice none 0 0)]))) d.i1 none it = none := hit
  have hit2 : it ≠ id3 ∧ (it = d.i1 ∨ st0 it = none) := by
    have n13 : it ≠ id3 := fun e => by
      rw [e, upd_ne (Ne.symm n31), upd_same] at hit; cases hit
    refine ⟨n13, ?_⟩
    by_cases e : it = d.i1
    · exact .inl e
    · right; rwa [upd_ne e, upd_ne n13] at hit
  have hi12 : d.i1 ≠ d.i2 := fun e => by
    have := hids; simp only [CD.ids, e, List.nodup_cons, List.mem_cons, true_or, not_true_eq_false, false_and] at this
  have hii : ∀ j ∈ spI d.sp, j ≠ d.i1 ∧ j ≠ d.i2 ∧ st0 j ≠ none := fun j hj => by
    have := hids
    simp only [CD.ids, List.nodup_cons, List.mem_cons, not_or] at this
    refine ⟨fun e => this.1.2 (e ▸ hj), fun e => this.2.1 (e ▸ hj), ?_⟩
    obtain ⟨k, x, hx⟩ := spI_mem.1 hj
    rw [harr k j x hx]; simp
  have hold : ∀ j, (st0 j ≠ none ∧ j ∉ d.ids) ∨ j = d.i2 ∨ j ∈ spI d.sp → st0 j ≠ none ∧ j ≠ d.i1 ∧ j ≠ it ∧ j ≠ id3 := fun j hj => by
    have h1 : st0 j ≠ none ∧ j ≠ d.i1 := by
      rcases hj with hj | rfl | hj
      · exact ⟨hj.1, fun e => hj.2 (by rw [e]; simp [CD.ids])⟩
      · exact ⟨by rw [hm2]; simp, Ne.symm hi12⟩
      · exact ⟨(hii j hj).2.2, (hii j hj).1⟩
    refine ⟨h1.1, h1.2, fun e => ?_, fun e => h1.1 (e ▸ h3)⟩
    rcases hit2.2 with q | q
    · exact h1.2 (e.trans q)
    · exact h1.1 (e ▸ q)
  have hinit : InvS st0 d id3 it d.sp none (upd (upd (upd st0 id3 (some (.cells 50 [.val (.slice none 0 0)]))) d.i1 none) it (some (.iter none (ments Of.enc spF (spE d.sp))))) := by
    refine ⟨⟨?_, fun _ e => (by cases e), fun q => ?_⟩, ⟨none, upd_same _ _ _⟩, fun j hj => ?_, ?_⟩
    · rw [upd_ne (Ne.symm hit2.1), upd_ne (Ne.symm n31), upd_same]; rfl
    · rcases q with q | q | q
      · exact q.1 h3
      · exact hit2.1 q.symm
      · exact (hold id3 (.inr q)).2.2.2 rfl
    · obtain ⟨q1, q2, q3, q4⟩ := hold j hj
      exact ⟨by rw [upd_ne q3, upd_ne q2, upd_ne q4], q3, q1⟩
    · have := hids
      simp only [CD.ids, List.nodup_cons] at this
      exact this.2.2
  have hinitL : InvL d d.sp [] (accL none) := ⟨by simp, fun _ h => (by cases h), rfl, by simp [accL], fun _ h => h⟩
  (try (apply wO pk; exact rfl)); (repeat' (first | exact All.nil | refine All.cons ?_ ?_ | (apply wC pk; exact rfl; exact rfl) | (apply wE pk; exact rfl; exact rfl) | (apply wX pk; exact rfl) | (apply wN pk; exact rfl) | (apply wD pk [] []; kernel_rfl; exact rfl; exact rfl) | exact Imp.one | exact Imp.same | refine Imp.left ?_ | exact ImpX.one | exact ImpX.same | exact ImpX.mk | refine ImpX.up ?_ | refine ImpX.old ?_ | (apply pwp_condC; simp only [cond_true, cond_false]) | (refine pwp_cond rfl (fun h => ?_) (fun h => ?_) <;> (try simp at h) <;> (first | done | (exfalso; omega) | skip)) | (refine pwp_ret ?_; refine ⟨_, _, _, rfl, Wk.refl _, StSub.refl _, ?_, rfl⟩; (first | rfl | skip)) | (intros; omega) | (intros; simp only [List.length_map]; omega)))
  refine pwp_loop (X := { x : List (Of × Option (Nat × List Sn)) × List Vis × Option (Nat × List Rt) × Store // InvS st0 d id3 it x.1 x.2.2.1 x.2.2.2 ∧ InvL d x.1 x.2.1 (accL x.2.2.1) }) (fun i => ((((St.nil 60 (i.1.2.2.2)).var 1 72 ([.mref d.i1, .mref d.i2])).pv 3 (.ref id3 0)).pv 11 (.ref it 0))) (fun i => i.1.1.length) ⟨(d.sp, [], none, _), hinit, hinitL⟩ ?_ (fun i => ?_)
  · (first | exact Sub.nil _ _ _ (StSub.refl _) rfl | ((repeat (first | refine Sub.pv ?_ rfl | refine Sub.var ?_ rfl rfl)); (first | exact Sub.nil _ _ _ (StSub.refl _) rfl | exact Sub.nil _ _ _ (stsub_swap (by assumption)) rfl | exact Sub.nil _ _ _ (stsub_eq (by first | rfl | exact upd_eta (by assumption) | ((simp only [St.pv, St.put, St.sst, St.setv, St.nil, St.var, upd_upd]); first | done | rfl))) rfl | (refine Sub.nil _ _ _ (stsub_eq ?_) rfl; (simp only [St.pv, St.put, St.sst, St.setv, St.nil, St.var, upd_upd]); (rw [upd4 (by assumption)]); first | done | rfl))))
  obtain ⟨⟨rest, vis, a, S⟩, hI, hL⟩ := i
  dsimp only at hI hL
  dsimp only
  obtain ⟨cur, hcur⟩ := hI.iter
  (try (apply wO pk; exact rfl)); (repeat' (first | exact All.nil | refine All.cons ?_ ?_ | (apply wC pk; exact rfl; exact rfl) | (apply wE pk; exact rfl; exact rfl) | (apply wX pk; exact rfl) | (apply wN pk; exact rfl) | (apply wD pk [] []; kernel_rfl; exact rfl; exact rfl) | exact Imp.one | exact Imp.same | refine Imp.left ?_ | exact ImpX.one | exact ImpX.same | exact ImpX.mk | refine ImpX.up ?_ | refine ImpX.old ?_ | (apply pwp_condC; simp only [cond_true, cond_false]) | (refine pwp_cond rfl (fun h => ?_) (fun h => ?_) <;> (try simp at h) <;> (first | done | (exfalso; omega) | skip)) | (refine pwp_ret ?_; refine ⟨_, _, _, rfl, Wk.refl _, StSub.refl _, ?_, rfl⟩; (first | rfl | skip)) | (apply nextA; exact rfl; exact hcur; exact rfl; exact rfl; exact rfl; intro hleft; rotate_left; intro i e he; rotate_left) | (intros; omega) | (intros; simp only [List.length_map]; omega)))
  · have hr0 : rest = [] := by
      cases rest with
      | nil => rfl
      | cons _ _ => cases hleft
    subst hr0
    have hm2' : S d.i2 = some (.map (ments Of.enc intF d.am)) := (hI.old _ (.inr (.inl rfl))).1.trans hm2
    apply ev_freezeMap 35
    · exact rfl
    · exact hm2'
    apply rangeA pk
    · exact rfl
    · exact rfl
    · exact rfl
    · exact rfl
    · exact rfl
    intro it2 hit2
    have hit2 : upd S d.i2 none it2 = none := hit2
    have hB0 := InvB.start hI hit2 none d.am
    have hC0 : InvC d d.am [] (accL a) (accL a) := ⟨by simp, by simp [amR]⟩
    have hlen0 := hL.len
    (try (apply wO pk; exact rfl)); (repeat' (first | exact All.nil | refine All.cons ?_ ?_ | (apply wC pk; exact rfl; exact rfl) | (apply wE pk; exact rfl; exact rfl) | (apply wX pk; exact rfl) | (apply wN pk; exact rfl) | (apply wD pk [] []; kernel_rfl; exact rfl; exact rfl) | exact Imp.one | exact Imp.same | refine Imp.left ?_ | exact ImpX.one | exact ImpX.same | exact ImpX.mk | refine ImpX.up ?_ | refine ImpX.old ?_ | (apply pwp_condC; simp only [cond_true, cond_false]) | (refine pwp_cond rfl (fun h => ?_) (fun h => ?_) <;> (try simp at h) <;> (first | done | (exfalso; omega) | skip)) | (refine pwp_ret ?_; refine ⟨_, _, _, rfl, Wk.refl _, StSub.refl _, ?_, rfl⟩; (first | rfl | skip)) | (intros; omega) | (intros; simp only [List.length_map]; omega)))
    refine pwp_loop (X := { x : List (Of × Int) × List (Of × Int) × Option (Nat × List Rt) × Store // InvB st0 d id3 it2 x.1 x.2.2.1 x.2.2.2 ∧ InvC d x.1 x.2.1 (accL a) (accL x.2.2.1) }) (fun y => (((St.nil 60 (y.1.2.2.2)).pv 3 (.ref id3 0)).pv 36 (.ref it2 0))) (fun y => y.1.1.length) ⟨(d.am, [], a, _), hB0, hC0⟩ ?_ (fun y => ?_)
    · (first | exact Sub.nil _ _ _ (StSub.refl _) rfl | ((repeat (first | refine Sub.pv ?_ rfl | refine Sub.var ?_ rfl rfl)); (first | exact Sub.nil _ _ _ (StSub.refl _) rfl | exact Sub.nil _ _ _ (stsub_swap (by assumption)) rfl | exact Sub.nil _ _ _ (stsub_eq (by first | rfl | exact upd_eta (by assumption) | ((simp only [St.pv, St.put, St.sst, St.setv, St.nil, St.var, upd_upd]); first | done | rfl))) rfl | (refine Sub.nil _ _ _ (stsub_eq ?_) rfl; (simp only [St.pv, St.put, St.sst, St.setv, St.nil, St.var, upd_upd]); (rw [upd4 (by assumption)]); first | done | rfl))))
    obtain ⟨⟨ra, va, b, S2⟩, hB2, hC2⟩ := y
    dsimp only at hB2 hC2
    dsimp only
    obtain ⟨cur2, hcur2⟩ := hB2.iter
    have hlen2 := hC2.len
    (try (apply wO pk; exact rfl)); (repeat' (first | exact All.nil | refine All.cons ?_ ?_ | (apply wC pk; exact rfl; exact rfl) | (apply wE pk; exact rfl; exact rfl) | (apply wX pk; exact rfl) | (apply wN pk; exact rfl) | (apply wD pk [] []; kernel_rfl; exact rfl; exact rfl) | exact Imp.one | exact Imp.same | refine Imp.left ?_ | exact ImpX.one | exact ImpX.same | exact ImpX.mk | refine ImpX.up ?_ | refine ImpX.old ?_ | (apply pwp_condC; simp only [cond_true, cond_false]) | (refine pwp_cond rfl (fun h => ?_) (fun h => ?_) <;> (try simp at h) <;> (first | done | (exfalso; omega) | skip)) | (refine pwp_ret ?_; refine ⟨_, _, _, rfl, Wk.refl _, StSub.refl _, ?_, rfl⟩; (first | rfl | skip)) | (apply nextA; exact rfl; exact hcur2; exact rfl; exact rfl; exact rfl; intro hleft2; rotate_left; intro i e he; rotate_left) | (intros; omega) | (intros; simp only [List.length_map]; omega)))
    · have hr1 : ra = [] := by
        cases ra with
        | nil => rfl
        | cons _ _ => cases hleft2
      subst hr1
      have hbox := hB2.acc.box
      have hpa := hC2.perm
      rw [List.append_nil] at hpa
      have hpv := hL.perm
      rw [List.map_nil, List.append_nil] at hpv
      have hacb := hC2.accl
      rw [hL.accl] at hacb
      have hcut : ∀ S3 : Store, (∀ j, LiveB st0 d it2 j → S3 j = S2 j) → StSub (cutS st0 d.ids) S3 := fun S3 h j => by
        unfold cutS
        by_cases hj : j ∈ d.ids
        · left; rw [if_pos hj]
        · rw [if_neg hj]
          by_cases hs : st0 j = none
          · exact .inl hs
          · right
            rw [h j (.inl ⟨hs, hj⟩), (hB2.old j ⟨hs, hj⟩).1]
      cases b with
      | none =>
        (try (apply wO pk; exact rfl)); (repeat' (first | exact All.nil | refine All.cons ?_ ?_ | (apply wC pk; exact rfl; exact rfl) | (apply wE pk; exact rfl; exact rfl) | (apply wX pk; exact rfl) | (apply wN pk; exact rfl) | (apply wD pk [] []; kernel_rfl; exact rfl; exact rfl) | exact Imp.one | exact Imp.same | refine Imp.left ?_ | exact ImpX.one | exact ImpX.same | exact ImpX.mk | refine ImpX.up ?_ | refine ImpX.old ?_ | (apply pwp_condC; simp only [cond_true, cond_false]) | (refine pwp_cond rfl (fun h => ?_) (fun h => ?_) <;> (try simp at h) <;> (first | done | (exfalso; omega) | skip)) | (refine pwp_ret ?_; refine ⟨_, _, _, rfl, Wk.refl _, StSub.refl _, ?_, rfl⟩; (first | rfl | skip)) | (apply ldR pk; exact rfl; exact rfl; rotate_left; exact rfl; exact hbox; exact rfl; exact rfl) | (intros; omega) | (intros; simp only [List.length_map]; omega)))
        apply ev_zeroVec 57 6 34
        · exact rfl
        intro idZ hZ
        have hZ : S2 idZ = none := hZ
        have nZ3 : id3 ≠ idZ := fun e => by rw [e, hZ] at hbox; cases hbox
        have hso := sortR_pc [] (st := upd S2 idZ (some (.arr 34 []))) (id := idZ) (n := 0) (upd_same _ _ _) rfl (by decide)
        have hfin : RightsOf d.pd [] := ⟨⟨vis, va, hpv, hL.joined, hpa, by rw [← hacb]; exact List.Perm.refl _⟩, List.Pairwise.nil⟩
        (try (apply wO pk; exact rfl)); (repeat' (first | exact All.nil | refine All.cons ?_ ?_ | (apply wC pk; exact rfl; exact rfl) | (apply wE pk; exact rfl; exact rfl) | (apply wX pk; exact rfl) | (apply wN pk; exact rfl) | (apply wDx pk; exact rfl; kernel_rfl; exact rfl; exact rfl) | exact Imp.one | exact Imp.same | refine Imp.left ?_ | exact ImpX.one | exact ImpX.same | exact ImpX.mk | refine ImpX.up ?_ | refine ImpX.old ?_ | (apply pwp_condC; simp only [cond_true, cond_false]) | (refine pwp_cond rfl (fun h => ?_) (fun h => ?_) <;> (try simp at h) <;> (first | done | (exfalso; omega) | skip)) | (refine pwp_ret ?_; refine ⟨_, _, _, rfl, Wk.refl _, StSub.refl _, ?_, rfl⟩; (first | rfl | skip)) | (apply ncA; exact rfl; exact rfl; exact rfl; rotate_left; exact rfl; exact rfl) | (apply ldR pk; exact rfl; exact rfl; rotate_left; exact rfl; (first | exact upd_same _ _ _ | assumption | (focus ((repeat (first | exact upd_same _ _ _ | assumption | refine (upd_ne (by assumption)).trans ?_)); done))); exact rfl; exact rfl) | (apply stR pk; exact rfl; exact rfl; (first | exact upd_same _ _ _ | assumption | (focus ((repeat (first | exact upd_same _ _ _ | assumption | refine (upd_ne (by assumption)).trans ?_)); done))); exact rfl; exact rfl) | (apply callP; exact rfl; exact rfl; (apply hso <;> first | exact upd_same _ _ _ | assumption | omega | (first | exact upd_same _ _ _ | assumption | (focus ((repeat (first | exact upd_same _ _ _ | assumption | refine (upd_ne (by assumption)).trans ?_)); done)))); exact rfl; exact rfl; exact rfl; intro _ st' hR; obtain ⟨r, rfl, hperm, hpw⟩ := hR) | (apply callP; exact rfl; exact rfl; (first | (apply fail_no_spec <;> first | exact upd_same _ _ _ | assumption | omega | (simp only [Array.size_setIfInBounds]; omega) | (first | exact upd_same _ _ _ | assumption | (focus ((repeat (first | exact upd_same _ _ _ | assumption | refine (upd_ne (by assumption)).trans ?_)); done))))); exact rfl; exact rfl; exact rfl; intro _ st' hR; (first | subst hR | obtain ⟨rfl, rfl⟩ := hR)) | (apply ldR pk; exact rfl; exact rfl; rotate_left; exact rfl; exact (upd_ne nZ3).trans ((upd_ne nZ3).trans hbox); exact rfl; exact rfl) | (intros; omega) | (intros; simp only [List.length_map]; omega)))
        refine pwp_ret ?_
        refine ⟨_, .seq [], cutS st0 d.ids, rfl, Wk.nil, ?_, [], rfl, hfin, rfl⟩
        refine hcut _ fun j hj => ?_
        have hjZ : j ≠ idZ := fun e => hB2.live j hj (by rw [e]; exact hZ)
        exact (upd_ne hjZ).trans (upd_ne hjZ)
      | some z =>
        have hz := (hB2.acc.arr z rfl).1
        have hzo := (hB2.acc.arr z rfl).2
        have n3z : id3 ≠ z.1 := fun e => by rw [e, hz] at hbox; cases hbox
        have hlz : z.2.length + 0 ≤ (accL a).length + d.am.length := hlen2
        have hso := sortR_pc z.2 (st := S2) (id := z.1) (n := z.2.length) hz rfl (by omega)
        have hfin : ∀ r : List Rt, r.Perm z.2 → (r.Pairwise fun x y => ¬ RtLt y x) → RightsOf d.pd r := fun r h1 h2 => ⟨⟨vis, va, hpv, hL.joined, hpa, by rw [← hacb]; exact h1⟩, h2⟩
        (try (apply wO pk; exact rfl)); (repeat' (first | exact All.nil | refine All.cons ?_ ?_ | (apply wC pk; exact rfl; exact rfl) | (apply wE pk; exact rfl; exact rfl) | (apply wX pk; exact rfl) | (apply wN pk; exact rfl) | (apply wDx pk; exact rfl; kernel_rfl; exact rfl; exact rfl) | exact Imp.one | exact Imp.same | refine Imp.left ?_ | exact ImpX.one | exact ImpX.same | exact ImpX.mk | refine ImpX.up ?_ | refine ImpX.old ?_ | (apply pwp_condC; simp only [cond_true, cond_false]) | (refine pwp_cond rfl (fun h => ?_) (fun h => ?_) <;> (try simp at h) <;> (first | done | (exfalso; omega) | skip)) | (refine pwp_ret ?_; refine ⟨_, _, _, rfl, Wk.refl _, StSub.refl _, ?_, rfl⟩; (first | rfl | skip)) | (apply ncA; exact rfl; exact rfl; exact rfl; rotate_left; exact rfl; exact rfl) | (apply ldR pk; exact rfl; exact rfl; rotate_left; exact rfl; (first | exact upd_same _ _ _ | assumption | (focus ((repeat (first | exact upd_same _ _ _ | assumption | refine (upd_ne (by assumption)).trans ?_)); done))); exact rfl; exact rfl) | (apply stR pk; exact rfl; exact rfl; (first | exact upd_same _ _ _ | assumption | (focus ((repeat (first | exact upd_same _ _ _ | assumption | refine (upd_ne (by assumption)).trans ?_)); done))); exact rfl; exact rfl) | (apply callP; exact rfl; exact rfl; (apply hso <;> first | exact upd_same _ _ _ | assumption | omega | (first | exact upd_same _ _ _ | assumption | (focus ((repeat (first | exact upd_same _ _ _ | assumption | refine (upd_ne (by assumption)).trans ?_)); done)))); exact rfl; exact rfl; exact rfl; intro _ st' hR; obtain ⟨r, rfl, hperm, hpw⟩ := hR) | (apply callP; exact rfl; exact rfl; (first | (apply fail_no_spec <;> first | exact upd_same _ _ _ | assumption | omega | (simp only [Array.size_setIfInBounds]; omega) | (first | exact upd_same _ _ _ | assumption | (focus ((repeat (first | exact upd_same _ _ _ | assumption | refine (upd_ne (by assumption)).trans ?_)); done))))); exact rfl; exact rfl; exact rfl; intro _ st' hR; (first | subst hR | obtain ⟨rfl, rfl⟩ := hR)) | (apply ldR pk; exact rfl; exact rfl; rotate_left; exact rfl; exact hbox; exact rfl; exact rfl) | (apply ldR pk; exact rfl; exact rfl; rotate_left; exact rfl; exact (upd_ne n3z).trans hbox; exact rfl; exact rfl) | (intros; omega) | (intros; simp only [List.length_map]; omega)))
        apply pwp_freezeV 2
        · exact rfl
        · exact upd_same _ _ _
        · kernel_rfl
        · rw [List.length_map]; exact hperm.length_eq
        refine pwp_ret ?_
        exact ⟨_, .seq (r.map Rt.cells), cutS st0 d.ids, rfl, Wk.refl _, hcut _ (fun j hj => (upd_ne (fun e => hzo (by rw [← e]; exact hj))).trans (upd_ne (fun e => hzo (by rw [← e]; exact hj)))), r, rfl, hfin r hperm hpw, rfl⟩
    have hi : i < ra.length := by
      have := (List.getElem?_eq_some_iff.1 he).1
      simpa [ments] using this
    have he : e = (Of.enc ra[i].1, intF ra[i].2) := by
      have := (List.getElem?_eq_some_iff.1 he).2
      rw [← this]; simp [ments]
    subst he
    have hel : (ments Of.enc intF ra).eraseIdx i = ments Of.enc intF (ra.eraseIdx i) := (ments_erase _ _ _ _).symm
    rw [hel]
    have hkey2 : ∀ g, Rep g (.agg (ra[i].1).cells) (Of.enc ra[i].1) := fun g => by simp only [Rep]; exact ⟨(ra[i].1).vals, rfl, RepL.vals (ra[i].1).vals⟩
    have hler := List.length_eraseIdx_of_lt hi
    have hB3 := hB2.take (some (Of.enc ra[i].1, intF ra[i].2)) (ra.eraseIdx i)
    have hC3 := hC2.take hi (k := ra[i].1) (n := ra[i].2) rfl
    generalize ra[i].1 = k at *
    generalize ra[i].2 = n at *
    obtain ⟨_, hC4, hC5⟩ := hC3
    have hb4 := hB3.acc.box
    cases b with
    | none =>
      (try (apply wO pk; exact rfl)); (repeat' (first | exact All.nil | refine All.cons ?_ ?_ | (apply wC pk; exact rfl; exact rfl) | (apply wE pk; exact rfl; exact rfl) | (apply wX pk; exact rfl) | (apply wN pk; exact rfl) | (apply wDx pk; exact rfl; kernel_rfl; exact rfl; exact rfl) | exact Imp.one | exact Imp.same | refine Imp.left ?_ | exact ImpX.one | exact ImpX.same | exact ImpX.mk | refine ImpX.up ?_ | refine ImpX.old ?_ | (apply pwp_condC; simp only [cond_true, cond_false]) | (refine pwp_cond rfl (fun h => ?_) (fun h => ?_) <;> (try simp at h) <;> (first | done | (exfalso; omega) | skip)) | (refine pwp_ret ?_; refine ⟨_, _, _, rfl, Wk.refl _, StSub.refl _, ?_, rfl⟩; (first | rfl | skip)) | (apply ncA; exact rfl; exact rfl; exact rfl; rotate_left; exact rfl; exact rfl) | (apply ldR pk; exact rfl; exact rfl; rotate_left; exact rfl; (first | exact upd_same _ _ _ | assumption | (focus ((repeat (first | exact upd_same _ _ _ | assumption | refine (upd_ne (by assumption)).trans ?_)); done))); exact rfl; exact rfl) | (apply stR pk; exact rfl; exact rfl; (first | exact upd_same _ _ _ | assumption | (focus ((repeat (first | exact upd_same _ _ _ | assumption | refine (upd_ne (by assumption)).trans ?_)); done))); exact rfl; exact rfl) | (apply apV pk (f := Rt.cells) [amtRt k n] 48; exact rfl; exact rfl; exact rfl; exact rfl; exact rfl; exact rfl; exact rfl; exact rfl; exact rfl; (first | exact upd_same _ _ _ | assumption | (focus ((repeat (first | exact upd_same _ _ _ | assumption | refine (upd_ne (by assumption)).trans ?_)); done))); (first | omega | assumption | (focus (simp; done)) | (focus (simp; omega)) | (focus (simp at *; omega))); exact fun _ => rfl; exact fun _ => rfl; exact bytesR; (first | omega | assumption | (focus (simp; done)) | (focus (simp; omega)) | (focus (simp at *; omega))); (first | omega | assumption | (focus (simp; done)) | (focus (simp; omega)) | (focus (simp at *; omega))); exact rfl; intro id' hid') | (apply ap0 pk (f := Rt.cells) [amtRt k n] 48; exact rfl; exact rfl; exact rfl; exact rfl; exact rfl; exact rfl; exact rfl; exact rfl; exact rfl; exact rfl; exact fun _ => rfl; exact fun _ => rfl; exact bytesR; (first | omega | assumption | (focus (simp; done)) | (focus (simp; omega)) | (focus (simp at *; omega))); (first | omega | assumption | (focus (simp; done)) | (focus (simp; omega)) | (focus (simp at *; omega))); exact rfl; intro id' hid') | (apply callP; exact rfl; exact rfl; (first | (apply hs <;> first | exact upd_same _ _ _ | assumption | omega | (simp only [Array.size_setIfInBounds]; omega) | (first | exact upd_same _ _ _ | assumption | (focus ((repeat (first | exact upd_same _ _ _ | assumption | refine (upd_ne (by assumption)).trans ?_)); done))))); exact rfl; exact rfl; exact rfl; intro _ st' hR; (first | subst hR | obtain ⟨rfl, rfl⟩ := hR)) | (apply entryA; exact rfl; exact rfl; exact upd_same _ _ _; exact hkey2; rotate_left; exact rfl; exact rfl) | (apply ldR pk; exact rfl; exact rfl; rotate_left; exact rfl; exact hb4; exact rfl; exact rfl) | (apply stR pk; exact rfl; exact rfl; exact (upd_ne (fun e => Option.some_ne_none _ (hb4.symm.trans ((congrArg _ e).trans hid')))).trans hb4; exact rfl; exact rfl) | (refine ⟨⟨(ra.eraseIdx i, va ++ [(k, n)], none, _), hB3, hC4 (by assumption)⟩, ?_, by simp only; omega⟩; (first | exact Sub.nil _ _ _ (StSub.refl _) rfl | ((repeat (first | refine Sub.pv ?_ rfl | refine Sub.var ?_ rfl rfl)); (first | exact Sub.nil _ _ _ (StSub.refl _) rfl | exact Sub.nil _ _ _ (stsub_swap (by assumption)) rfl | exact Sub.nil _ _ _ (stsub_eq (by first | rfl | exact upd_eta (by assumption) | ((simp only [St.pv, St.put, St.sst, St.setv, St.nil, St.var, upd_upd]); first | done | rfl))) rfl | (refine Sub.nil _ _ _ (stsub_eq ?_) rfl; (simp only [St.pv, St.put, St.sst, St.setv, St.nil, St.var, upd_upd]); (rw [upd4 (by assumption)]); first | done | rfl))))) | (refine ⟨⟨(ra.eraseIdx i, va ++ [(k, n)], some (id', [amtRt k n]), _), hB3.grow hid' (.inl rfl), hC5 (by assumption)⟩, ?_, by simp only; omega⟩; (first | exact Sub.nil _ _ _ (StSub.refl _) rfl | ((repeat (first | refine Sub.pv ?_ rfl | refine Sub.var ?_ rfl rfl)); (first | exact Sub.nil _ _ _ (StSub.refl _) rfl | exact Sub.nil _ _ _ (stsub_swap (by assumption)) rfl | exact Sub.nil _ _ _ (stsub_eq (by first | rfl | exact upd_eta (by assumption) | ((simp only [St.pv, St.put, St.sst, St.setv, St.nil, St.var, upd_upd]); first | done | rfl))) rfl | (refine Sub.nil _ _ _ (stsub_eq ?_) rfl; (simp only [St.pv, St.put, St.sst, St.setv, St.nil, St.var, upd_upd]); (rw [upd4 (by assumption)]); first | done | rfl))))) | (intros; omega) | (intros; simp only [List.length_map]; omega)))
    | some z =>
      have hz3 := (hB3.acc.arr z rfl).1
      have n3z : id3 ≠ z.1 := fun e => by rw [e, hz3] at hb4; cases hb4
      have hlz : z.2.length + ra.length ≤ (accL a).length + d.am.length := hlen2
      (try (apply wO pk; exact rfl)); (repeat' (first | exact All.nil | refine All.cons ?_ ?_ | (apply wC pk; exact rfl; exact rfl) | (apply wE pk; exact rfl; exact rfl) | (apply wX pk; exact rfl) | (apply wN pk; exact rfl) | (apply wDx pk; exact rfl; kernel_rfl; exact rfl; exact rfl) | exact Imp.one | exact Imp.same | refine Imp.left ?_ | exact ImpX.one | exact ImpX.same | exact ImpX.mk | refine ImpX.up ?_ | refine ImpX.old ?_ | (apply pwp_condC; simp only [cond_true, cond_false]) | (refine pwp_cond rfl (fun h => ?_) (fun h => ?_) <;> (try simp at h) <;> (first | done | (exfalso; omega) | skip)) | (refine pwp_ret ?_; refine ⟨_, _, _, rfl, Wk.refl _, StSub.refl _, ?_, rfl⟩; (first | rfl | skip)) | (apply ncA; exact rfl; exact rfl; exact rfl; rotate_left; exact rfl; exact rfl) | (apply ldR pk; exact rfl; exact rfl; rotate_left; exact rfl; (first | exact upd_same _ _ _ | assumption | (focus ((repeat (first | exact upd_same _ _ _ | assumption | refine (upd_ne (by assumption)).trans ?_)); done))); exact rfl; exact rfl) | (apply stR pk; exact rfl; exact rfl; (first | exact upd_same _ _ _ | assumption | (focus ((repeat (first | exact upd_same _ _ _ | assumption | refine (upd_ne (by assumption)).trans ?_)); done))); exact rfl; exact rfl) | (apply callP; exact rfl; exact rfl; (first | (apply hs <;> first | exact upd_same _ _ _ | assumption | omega | (simp only [Array.size_setIfInBounds]; omega) | (first | exact upd_same _ _ _ | assumption | (focus ((repeat (first | exact upd_same _ _ _ | assumption | refine (upd_ne (by assumption)).trans ?_)); done))))); exact rfl; exact rfl; exact rfl; intro _ st' hR; (first | subst hR | obtain ⟨rfl, rfl⟩ := hR)) | (apply entryA; exact rfl; exact rfl; exact upd_same _ _ _; exact hkey2; rotate_left; exact rfl; exact rfl) | (apply ldR pk; exact rfl; exact rfl; rotate_left; exact rfl; exact hb4; exact rfl; exact rfl) | (apply apV pk (f := Rt.cells) (xs := z.2) [amtRt k n] 48; exact rfl; exact rfl; exact rfl; exact rfl; exact rfl; exact rfl; exact rfl; exact rfl; exact rfl; exact hz3; exact rfl; exact fun _ => rfl; exact fun _ => rfl; exact bytesR; (simp only [List.length_cons, List.length_nil]; omega); (simp only [List.length_cons, List.length_nil]; omega); exact rfl; intro id' hid') | (apply stR pk; exact rfl; exact rfl; exact (upd_ne (fun e => Option.some_ne_none _ (hb4.symm.trans ((congrArg _ e).trans hid')))).trans ((upd_ne n3z).trans hb4); exact rfl; exact rfl) | (refine ⟨⟨(ra.eraseIdx i, va ++ [(k, n)], some z, _), hB3, hC4 (by assumption)⟩, ?_, by simp only; omega⟩; (first | exact Sub.nil _ _ _ (StSub.refl _) rfl | ((repeat (first | refine Sub.pv ?_ rfl | refine Sub.var ?_ rfl rfl)); (first | exact Sub.nil _ _ _ (StSub.refl _) rfl | exact Sub.nil _ _ _ (stsub_swap (by assumption)) rfl | exact Sub.nil _ _ _ (stsub_eq (by first | rfl | exact upd_eta (by assumption) | ((simp only [St.pv, St.put, St.sst, St.setv, St.nil, St.var, upd_upd]); first | done | rfl))) rfl | (refine Sub.nil _ _ _ (stsub_eq ?_) rfl; (simp only [St.pv, St.put, St.sst, St.setv, St.nil, St.var, upd_upd]); (rw [upd4 (by assumption)]); first | done | rfl))))) | (intros; omega) | (intros; simp only [List.length_map]; omega)))
      have hg := hB3.grow hid' (.inr ⟨z, rfl, rfl⟩) (l' := z.2 ++ [amtRt k n])
      rw [show accV (some (id', z.2 ++ [amtRt k n])) = .vec id' 6 0 (z.2.length + [amtRt k n].length) from by simp [accV]] at hg
      refine ⟨⟨(ra.eraseIdx i, va ++ [(k, n)], some (id', z.2 ++ [amtRt k n]), _), hg, hC5 (by assumption)⟩, ?_, by simp only; omega⟩
      (first | exact Sub.nil _ _ _ (StSub.refl _) rfl | ((repeat (first | refine Sub.pv ?_ rfl | refine Sub.var ?_ rfl rfl)); (first | exact Sub.nil _ _ _ (StSub.refl _) rfl | exact Sub.nil _ _ _ (stsub_swap (by assumption)) rfl | exact Sub.nil _ _ _ (stsub_eq (by first | rfl | exact upd_eta (by assumption) | ((simp only [St.pv, St.put, St.sst, St.setv, St.nil, St.var, upd_upd]); first | done | rfl))) rfl | (refine Sub.nil _ _ _ (stsub_eq ?_) rfl; (simp only [St.pv, St.put, St.sst, St.setv, St.nil, St.var, upd_upd]); (rw [upd4 (by assumption)]); first | done | rfl))))
  have hi : i < rest.length := by
    have := (List.getElem?_eq_some_iff.1 he).1
    simpa [ments, spE] using this
  have he : e = (Of.enc rest[i].1, spF (shp rest[i].2)) := by
    have := (List.getElem?_eq_some_iff.1 he).2
    rw [← this]; simp [ments, spE]
  subst he
  have hel : (ments Of.enc spF (spE rest)).eraseIdx i = ments Of.enc spF (spE (rest.eraseIdx i)) := by
    rw [← ments_erase]
    congr 1
    unfold spE
    generalize (fun e : Of × Option (Nat × List Sn) => (e.1, shp e.2)) = f
    exact map_erase f rest i
  rw [hel]
  have hsp := hL.sub _ (List.getElem_mem hi)
  have hkey : ∀ g, Rep g (.agg (rest[i].1).cells) (Of.enc rest[i].1) := fun g => by simp only [Rep]; exact ⟨(rest[i].1).vals, rfl, RepL.vals (rest[i].1).vals⟩
  generalize hk : rest[i].1 = k at *
  have hdi : d.i2 ∉ spI rest := fun q => by
    obtain ⟨k', x, hx⟩ := spI_mem.1 q
    exact (hii _ (spI_mem.2 ⟨k', x, hL.sub _ hx⟩)).2.1 rfl
  have hrid : ∀ j ∈ spI rest, j ∈ d.ids := fun j hj => by
    obtain ⟨k', x, hx⟩ := spI_mem.1 hj
    simp only [CD.ids, List.mem_cons]
    exact .inr (.inr (spI_mem.2 ⟨k', x, hL.sub _ hx⟩))
  have hle := hL.len
  have hle2 := lens_erase hi
  have hler := List.length_eraseIdx_of_lt hi
  cases hv : rest[i].2 with
  | none =>
    (try (apply wO pk; exact rfl)); (repeat' (first | exact All.nil | refine All.cons ?_ ?_ | (apply wC pk; exact rfl; exact rfl) | (apply wE pk; exact rfl; exact rfl) | (apply wX pk; exact rfl) | (apply wN pk; exact rfl) | (apply wD pk [] []; kernel_rfl; exact rfl; exact rfl) | exact Imp.one | exact Imp.same | refine Imp.left ?_ | exact ImpX.one | exact ImpX.same | exact ImpX.mk | refine ImpX.up ?_ | refine ImpX.old ?_ | (apply pwp_condC; simp only [cond_true, cond_false]) | (refine pwp_cond rfl (fun h => ?_) (fun h => ?_) <;> (try simp at h) <;> (first | done | (exfalso; omega) | skip)) | (refine pwp_ret ?_; refine ⟨_, _, _, rfl, Wk.refl _, StSub.refl _, ?_, rfl⟩; (first | rfl | skip)) | (apply entryA; exact rfl; exact rfl; exact upd_same _ _ _; exact hkey; rotate_left; exact rfl; exact rfl) | (intros; omega) | (intros; simp only [List.length_map]; omega)))
    apply ev_zeroVec 17 2 80
    · exact rfl
    intro idA hA
    have hA : (upd S it (some (.iter (some (Of.enc k, spF (shp (none : Option (Nat × List Sn))))) (ments Of.enc spF (spE (rest.eraseIdx i)))))) idA = none := hA
    obtain ⟨hC, hAr⟩ := (hI.take hi (some (Of.enc k, spF (shp (none : Option (Nat × List Sn)))))).zero hA
    have hjs := joined_spec idA 0
    have hlB : ∀ x ∈ ([] : List Sn), SnB x := fun _ h => by cases h
    have hn6 : 0 < 1000000 := by decide
    (try (apply wO pk; exact rfl)); (repeat' (first | exact All.nil | refine All.cons ?_ ?_ | (apply wC pk; exact rfl; exact rfl) | (apply wE pk; exact rfl; exact rfl) | (apply wX pk; exact rfl) | (apply wN pk; exact rfl) | (apply wD pk [] []; kernel_rfl; exact rfl; exact rfl) | exact Imp.one | exact Imp.same | refine Imp.left ?_ | exact ImpX.one | exact ImpX.same | exact ImpX.mk | refine ImpX.up ?_ | refine ImpX.old ?_ | (apply pwp_condC; simp only [cond_true, cond_false]) | (refine pwp_cond rfl (fun h => ?_) (fun h => ?_) <;> (try simp at h) <;> (first | done | (exfalso; omega) | skip)) | (refine pwp_ret ?_; refine ⟨_, _, _, rfl, Wk.refl _, StSub.refl _, ?_, rfl⟩; (first | rfl | skip)) | (apply callS; exact rfl; exact rfl; exact rfl; (intro _; first | (apply hjs <;> first | assumption | omega)); rotate_left; exact rfl; exact rfl) | (apply callV; exact rfl; exact rfl; exact rfl; (intro _; first | (apply hjs <;> first | assumption | omega)); rotate_left; exact rfl; exact rfl) | (intros; omega) | (intros; simp only [List.length_map]; omega)))
    apply pwp_freeze 4
    · exact rfl
    · exact rfl
    refine pwp_rangeF [(3, .ref id3 0), (4, .rp k.cells)] rfl rfl ⟨rfl, rfl, trivial⟩ (fun idl S' => ∃ srt a', srt.Perm ([]) ∧ (srt.Pairwise fun x y => x.lo ≤ y.lo) ∧ InvS st0 d id3 it (rest.eraseIdx i) a' (upd S' idl none) ∧ accL a' = accL a ++ (mergeL srt).map (spanRt k)) ?_ ?_
    · intro idl hidl
      have hidl : (upd (upd S it (some (.iter (some (Of.enc k, spF (shp (none : Option (Nat × List Sn))))) (ments Of.enc spF (spE (rest.eraseIdx i)))))) idA (some (.arr 80 []))) idl = none := hidl
      generalize hlp : AObj.loop _ _ _ _ _ _ = lp
      have nA : idl ≠ idA := fun e => by have h1 := hAr.arr; rw [e] at hidl; rw [hidl] at h1; cases h1
      have nL : ¬ LiveR st0 d it (rest.eraseIdx i) idl := fun q => hC.live _ q hidl
      have n3l : id3 ≠ idl := fun e => by have := hC.acc.box; rw [e, hidl] at this; cases this
      have := joined1_pc (id := idA) (n := 0) (idl := idl) ([]) hlB (st := upd (upd (upd S it (some (.iter (some (Of.enc k, spF (shp (none : Option (Nat × List Sn))))) (ments Of.enc spF (spE (rest.eraseIdx i)))))) idA (some (.arr 80 []))) idl (some lp)) ((upd_ne (Ne.symm nA)).trans hAr.arr) (by simp) hn6
        (fun srt done S' => srt.Perm ([]) ∧ JJ st0 d id3 it (rest.eraseIdx i) (upd (upd S it (some (.iter (some (Of.enc k, spF (shp (none : Option (Nat × List Sn))))) (ments Of.enc spF (spE (rest.eraseIdx i)))))) idA (some (.arr 80 []))) lp idl idA k (accL a) srt done S') (fun srt hp _ => ⟨hp, JJ.zero hC hAr hidl lp k srt⟩) (fun srt done S' h => h.2.arr) (fun srt done x rs S' hh hm => ?_)
      · refine ⟨this.1, fun w g vs h1 h2 => (this.2 w g vs h1 h2).mono ?_⟩
        rintro e w' ⟨v, q, S', g', h3, ⟨srt, hp, hw, _, hJ⟩, h4⟩
        obtain ⟨a', o1, o2⟩ := hJ.out hC hidl
        exact ⟨v, q, S', g', h3, ⟨hJ.loop, srt, a', hp, hw, o1, o2⟩, h4⟩
      · obtain ⟨hp, hJ⟩ := hh
        have hloop := hJ.loop
        obtain ⟨a', ha1, ha2⟩ := hJ.acc
        have hlen : (accL a').length ≤ 100000 := by
          have h1 : (mergeL srt).length = done.length + (rs.length + 1) := by rw [hm]; simp
          have h2 := mergeL_len srt
          have h3 := hp.length_eq
          rw [ha2, List.length_append, List.length_map]
          have h4 := hL.len
          have h5 := lens_erase hi
          rw [hv] at h5
          have h6 : (lst none).length = ([]).length := rfl
          omega
        rw [← hlp] at hloop
        refine py_of (R := fun S' => srt.Perm ([]) ∧ JJ st0 d id3 it (rest.eraseIdx i) (upd (upd S it (some (.iter (some (Of.enc k, spF (shp (none : Option (Nat × List Sn))))) (ments Of.enc spF (spE (rest.eraseIdx i)))))) idA (some (.arr 80 []))) lp idl idA k (accL a) srt (done ++ [x]) S') hloop (show 19 < 60 by decide) ?_
        have hb3 : ∀ o, upd S' idl o id3 = some (.cells 50 [accV a']) := fun o => (upd_ne n3l).trans ha1.box
        show PWp _ _ _ ((((St.nilR 60 S').pv 3 (.ref id3 0)).pv 4 (.rp k.cells)).pv 19 (.agg x.cells))
        (try (apply wO pk; exact rfl)); (repeat' (first | exact All.nil | refine All.cons ?_ ?_ | (apply wC pk; exact rfl; exact rfl) | (apply wE pk; exact rfl; exact rfl) | (apply wX pk; exact rfl) | (apply wN pk; exact rfl) | (apply wD pk [] []; kernel_rfl; exact rfl; exact rfl) | exact Imp.one | exact Imp.same | refine Imp.left ?_ | exact ImpX.one | exact ImpX.same | exact ImpX.mk | refine ImpX.up ?_ | refine ImpX.old ?_ | (apply pwp_condC; simp only [cond_true, cond_false]) | (refine pwp_cond rfl (fun h => ?_) (fun h => ?_) <;> (try simp at h) <;> (first | done | (exfalso; omega) | skip)) | (refine pwp_ret ?_; refine ⟨_, _, _, rfl, Wk.refl _, StSub.refl _, ?_, rfl⟩; (first | rfl | skip)) | (intros; omega) | (intros; simp only [List.length_map]; omega)))
        refine ⟨rfl, hloop, ?_⟩
        cases a' with
        | none =>
          (try (apply wO pk; exact rfl)); (repeat' (first | exact All.nil | refine All.cons ?_ ?_ | (apply wC pk; exact rfl; exact rfl) | (apply wE pk; exact rfl; exact rfl) | (apply wX pk; exact rfl) | (apply wN pk; exact rfl) | (apply wDx pk; exact rfl; kernel_rfl; exact rfl; exact rfl) | exact Imp.one | exact Imp.same | refine Imp.left ?_ | exact ImpX.one | exact ImpX.same | exact ImpX.mk | refine ImpX.up ?_ | refine ImpX.old ?_ | (apply pwp_condC; simp only [cond_true, cond_false]) | (refine pwp_cond rfl (fun h => ?_) (fun h => ?_) <;> (try simp at h) <;> (first | done | (exfalso; omega) | skip)) | (refine pwp_ret ?_; refine ⟨_, _, _, rfl, Wk.refl _, StSub.refl _, ?_, rfl⟩; (first | rfl | skip)) | (apply ncA; exact rfl; exact rfl; exact rfl; rotate_left; exact rfl; exact rfl) | (apply ldR pk; exact rfl; exact rfl; rotate_left; exact rfl; (first | exact upd_same _ _ _ | assumption | (focus ((repeat (first | exact upd_same _ _ _ | assumption | refine (upd_ne (by assumption)).trans ?_)); done))); exact rfl; exact rfl) | (apply stR pk; exact rfl; exact rfl; (first | exact upd_same _ _ _ | assumption | (focus ((repeat (first | exact upd_same _ _ _ | assumption | refine (upd_ne (by assumption)).trans ?_)); done))); exact rfl; exact rfl) | (apply apV pk (f := Rt.cells) [spanRt k x] 48; exact rfl; exact rfl; exact rfl; exact rfl; exact rfl; exact rfl; exact rfl; exact rfl; exact rfl; (first | exact upd_same _ _ _ | assumption | (focus ((repeat (first | exact upd_same _ _ _ | assumption | refine (upd_ne (by assumption)).trans ?_)); done))); (first | omega | assumption | (focus (simp; done)) | (focus (simp; omega)) | (focus (simp at *; omega))); exact fun _ => rfl; exact fun _ => rfl; exact bytesR; (first | omega | assumption | (focus (simp; done)) | (focus (simp; omega)) | (focus (simp at *; omega))); (first | omega | assumption | (focus (simp; done)) | (focus (simp; omega)) | (focus (simp at *; omega))); exact rfl; intro id' hid') | (apply ap0 pk (f := Rt.cells) [spanRt k x] 48; exact rfl; exact rfl; exact rfl; exact rfl; exact rfl; exact rfl; exact rfl; exact rfl; exact rfl; exact rfl; exact fun _ => rfl; exact fun _ => rfl; exact bytesR; (first | omega | assumption | (focus (simp; done)) | (focus (simp; omega)) | (focus (simp at *; omega))); (first | omega | assumption | (focus (simp; done)) | (focus (simp; omega)) | (focus (simp at *; omega))); exact rfl; intro id' hid') | (apply callP; exact rfl; exact rfl; (first | (apply hs <;> first | exact upd_same _ _ _ | assumption | omega | (simp only [Array.size_setIfInBounds]; omega) | (first | exact upd_same _ _ _ | assumption | (focus ((repeat (first | exact upd_same _ _ _ | assumption | refine (upd_ne (by assumption)).trans ?_)); done))))); exact rfl; exact rfl; exact rfl; intro _ st' hR; (first | subst hR | obtain ⟨rfl, rfl⟩ := hR)) | (apply ldR pk; exact rfl; exact rfl; rotate_left; exact rfl; exact hb3 _; exact rfl; exact rfl) | (apply stR pk; exact rfl; exact rfl; exact (upd_ne (fun e => Option.some_ne_none _ ((hb3 _).symm.trans ((congrArg (upd S' idl _) e).trans hid')))).trans (hb3 _); exact rfl; exact rfl) | (intros; omega) | (intros; simp only [List.length_map]; omega)))
          obtain ⟨g1, g2⟩ := JJ.round hC nA nL hJ ha1 ha2 x hid' (.inl rfl)
          subst hlp
          exact ⟨rfl, _, StSub.refl _, g1, hp, g2⟩
        | some z =>
          have nz : z.1 ≠ idl := fun e => (ha1.arr z rfl).2 (.inr (.inl e))
          have hz3 : ∀ o, upd S' idl o z.1 = some (.arr 34 (z.2.map Rt.cells)) := fun o => (upd_ne nz).trans (ha1.arr z rfl).1
          have n3z : id3 ≠ z.1 := fun e => by have h1 := ha1.box; have h2 := (ha1.arr z rfl).1; rw [e, h2] at h1; cases h1
          have hlz : z.2.length ≤ 100000 := hlen
          (try (apply wO pk; exact rfl)); (repeat' (first | exact All.nil | refine All.cons ?_ ?_ | (apply wC pk; exact rfl; exact rfl) | (apply wE pk; exact rfl; exact rfl) | (apply wX pk; exact rfl) | (apply wN pk; exact rfl) | (apply wDx pk; exact rfl; kernel_rfl; exact rfl; exact rfl) | exact Imp.one | exact Imp.same | refine Imp.left ?_ | exact ImpX.one | exact ImpX.same | exact ImpX.mk | refine ImpX.up ?_ | refine ImpX.old ?_ | (apply pwp_condC; simp only [cond_true, cond_false]) | (refine pwp_cond rfl (fun h => ?_) (fun h => ?_) <;> (try simp at h) <;> (first | done | (exfalso; omega) | skip)) | (refine pwp_ret ?_; refine ⟨_, _, _, rfl, Wk.refl _, StSub.refl _, ?_, rfl⟩; (first | rfl | skip)) | (apply ncA; exact rfl; exact rfl; exact rfl; rotate_left; exact rfl; exact rfl) | (apply ldR pk; exact rfl; exact rfl; rotate_left; exact rfl; (first | exact upd_same _ _ _ | assumption | (focus ((repeat (first | exact upd_same _ _ _ | assumption | refine (upd_ne (by assumption)).trans ?_)); done))); exact rfl; exact rfl) | (apply stR pk; exact rfl; exact rfl; (first | exact upd_same _ _ _ | assumption | (focus ((repeat (first | exact upd_same _ _ _ | assumption | refine (upd_ne (by assumption)).trans ?_)); done))); exact rfl; exact rfl) | (apply callP; exact rfl; exact rfl; (first | (apply hs <;> first | exact upd_same _ _ _ | assumption | omega | (simp only [Array.size_setIfInBounds]; omega) | (first | exact upd_same _ _ _ | assumption | (focus ((repeat (first | exact upd_same _ _ _ | assumption | refine (upd_ne (by assumption)).trans ?_)); done))))); exact rfl; exact rfl; exact rfl; intro _ st' hR; (first | subst hR | obtain ⟨rfl, rfl⟩ := hR)) | (apply ldR pk; exact rfl; exact rfl; rotate_left; exact rfl; exact hb3 _; exact rfl; exact rfl) | (apply apV pk (f := Rt.cells) (xs := z.2) [spanRt k x] 48; exact rfl; exact rfl; exact rfl; exact rfl; exact rfl; exact rfl; exact rfl; exact rfl; exact rfl; exact hz3 _; exact rfl; exact fun _ => rfl; exact fun _ => rfl; exact bytesR; (simp only [List.length_cons, List.length_nil]; omega); (simp only [List.length_cons, List.length_nil]; omega); exact rfl; intro id' hid') | (apply stR pk; exact rfl; exact rfl; exact (upd_ne (fun e => Option.some_ne_none _ ((hb3 _).symm.trans ((congrArg (upd S' idl _) e).trans hid')))).trans ((upd_ne n3z).trans (hb3 _)); exact rfl; exact rfl) | (intros; omega) | (intros; simp only [List.length_map]; omega)))
          obtain ⟨g1, g2⟩ := JJ.round hC nA nL hJ ha1 ha2 x hid' (.inr ⟨z, rfl, rfl⟩)
          rw [show accV (some (id', accL (some z) ++ [spanRt k x])) = .vec id' 6 0 (z.2.length + [spanRt k x].length) from by simp [accV, accL]] at g1 g2
          subst hlp
          exact ⟨rfl, _, StSub.refl _, g1, hp, g2⟩
    · rintro idl S' hidl ⟨srt, a', hp, hw, hI2, hacc⟩
      have hL2 := hL.take hi (k := k) (v := none) (by rw [← hk, ← hv]) ⟨srt, hp, hw, rfl⟩
      rw [← hacc] at hL2
      (try (apply wO pk; exact rfl)); (repeat' (first | exact All.nil | refine All.cons ?_ ?_ | (apply wC pk; exact rfl; exact rfl) | (apply wE pk; exact rfl; exact rfl) | (apply wX pk; exact rfl) | (apply wN pk; exact rfl) | (apply wD pk [] []; kernel_rfl; exact rfl; exact rfl) | exact Imp.one | exact Imp.same | refine Imp.left ?_ | exact ImpX.one | exact ImpX.same | exact ImpX.mk | refine ImpX.up ?_ | refine ImpX.old ?_ | (apply pwp_condC; simp only [cond_true, cond_false]) | (refine pwp_cond rfl (fun h => ?_) (fun h => ?_) <;> (try simp at h) <;> (first | done | (exfalso; omega) | skip)) | (refine pwp_ret ?_; refine ⟨_, _, _, rfl, Wk.refl _, StSub.refl _, ?_, rfl⟩; (first | rfl | skip)) | (refine ⟨⟨(rest.eraseIdx i, vis ++ [⟨k, lst none, mergeL srt⟩], a', upd S' idl none), hI2, hL2⟩, ?_, by simp only; omega⟩; (first | exact Sub.nil _ _ _ (StSub.refl _) rfl | ((repeat (first | refine Sub.pv ?_ rfl | refine Sub.var ?_ rfl rfl)); (first | exact Sub.nil _ _ _ (StSub.refl _) rfl | exact Sub.nil _ _ _ (stsub_swap (by assumption)) rfl | exact Sub.nil _ _ _ (stsub_eq (by first | rfl | exact upd_eta (by assumption) | ((simp only [St.pv, St.put, St.sst, St.setv, St.nil, St.var, upd_upd]); first | done | rfl))) rfl | (refine Sub.nil _ _ _ (stsub_eq ?_) rfl; (simp only [St.pv, St.put, St.sst, St.setv, St.nil, St.var, upd_upd]); (rw [upd4 (by assumption)]); first | done | rfl))))) | (intros; omega) | (intros; simp only [List.length_map]; omega)))
  | some y =>
    have hin : (k, some (y.1, y.2)) ∈ d.sp := by rw [← hk]; rw [show (rest[i].1, some (y.1, y.2)) = rest[i] from by rw [← hv]]; exact hsp
    have hC := hI.take hi (some (Of.enc k, spF (shp (some y))))
    have hAr := hI.arrS hi (some (Of.enc k, spF (shp (some y)))) hv hdi (harr _ _ _ hin) hrid
    have hjs := joined_spec y.1 y.2.length
    have hlB := hB _ _ _ hin
    have hn6 : y.2.length < 1000000 := by
      rw [hv] at hle2
      have h6 : (lst (some y)).length = y.2.length := rfl
      omega
    (try (apply wO pk; exact rfl)); (repeat' (first | exact All.nil | refine All.cons ?_ ?_ | (apply wC pk; exact rfl; exact rfl) | (apply wE pk; exact rfl; exact rfl) | (apply wX pk; exact rfl) | (apply wN pk; exact rfl) | (apply wD pk [] []; kernel_rfl; exact rfl; exact rfl) | exact Imp.one | exact Imp.same | refine Imp.left ?_ | exact ImpX.one | exact ImpX.same | exact ImpX.mk | refine ImpX.up ?_ | refine ImpX.old ?_ | (apply pwp_condC; simp only [cond_true, cond_false]) | (refine pwp_cond rfl (fun h => ?_) (fun h => ?_) <;> (try simp at h) <;> (first | done | (exfalso; omega) | skip)) | (refine pwp_ret ?_; refine ⟨_, _, _, rfl, Wk.refl _, StSub.refl _, ?_, rfl⟩; (first | rfl | skip)) | (apply entryA; exact rfl; exact rfl; exact upd_same _ _ _; exact hkey; rotate_left; exact rfl; exact rfl) | (intros; omega) | (intros; simp only [List.length_map]; omega)))
    (try (apply wO pk; exact rfl)); (repeat' (first | exact All.nil | refine All.cons ?_ ?_ | (apply wC pk; exact rfl; exact rfl) | (apply wE pk; exact rfl; exact rfl) | (apply wX pk; exact rfl) | (apply wN pk; exact rfl) | (apply wD pk [] []; kernel_rfl; exact rfl; exact rfl) | exact Imp.one | exact Imp.same | refine Imp.left ?_ | exact ImpX.one | exact ImpX.same | exact ImpX.mk | refine ImpX.up ?_ | refine ImpX.old ?_ | (apply pwp_condC; simp only [cond_true, cond_false]) | (refine pwp_cond rfl (fun h => ?_) (fun h => ?_) <;> (try simp at h) <;> (first | done | (exfalso; omega) | skip)) | (refine pwp_ret ?_; refine ⟨_, _, _, rfl, Wk.refl _, StSub.refl _, ?_, rfl⟩; (first | rfl | skip)) | (apply callS; exact rfl; exact rfl; exact rfl; (intro _; first | (apply hjs <;> first | assumption | omega)); rotate_left; exact rfl; exact rfl) | (apply callV; exact rfl; exact rfl; exact rfl; (intro _; first | (apply hjs <;> first | assumption | omega)); rotate_left; exact rfl; exact rfl) | (intros; omega) | (intros; simp only [List.length_map]; omega)))
    apply pwp_freeze 4
    · exact rfl
    · exact rfl
    refine pwp_rangeF [(3, .ref id3 0), (4, .rp k.cells)] rfl rfl ⟨rfl, rfl, trivial⟩ (fun idl S' => ∃ srt a', srt.Perm (y.2) ∧ (srt.Pairwise fun x y => x.lo ≤ y.lo) ∧ InvS st0 d id3 it (rest.eraseIdx i) a' (upd S' idl none) ∧ accL a' = accL a ++ (mergeL srt).map (spanRt k)) ?_ ?_
    · intro idl hidl
      have hidl : (upd S it (some (.iter (some (Of.enc k, spF (shp (some y)))) (ments Of.enc spF (spE (rest.eraseIdx i)))))) idl = none := hidl
      generalize hlp : AObj.loop _ _ _ _ _ _ = lp
      have nA : idl ≠ y.1 := fun e => by have h1 := hAr.arr; rw [e] at hidl; rw [hidl] at h1; cases h1
      have nL : ¬ LiveR st0 d it (rest.eraseIdx i) idl := fun q => hC.live _ q hidl
      have n3l : id3 ≠ idl := fun e => by have := hC.acc.box; rw [e, hidl] at this; cases this
      have := joined1_pc (id := y.1) (n := y.2.length) (idl := idl) (y.2) hlB (st := upd (upd S it (some (.iter (some (Of.enc k, spF (shp (some y)))) (ments Of.enc spF (spE (rest.eraseIdx i)))))) idl (some lp)) ((upd_ne (Ne.symm nA)).trans hAr.arr) (by simp) hn6
        (fun srt done S' => srt.Perm (y.2) ∧ JJ st0 d id3 it (rest.eraseIdx i) (upd S it (some (.iter (some (Of.enc k, spF (shp (some y)))) (ments Of.enc spF (spE (rest.eraseIdx i)))))) lp idl y.1 k (accL a) srt done S') (fun srt hp _ => ⟨hp, JJ.zero hC hAr hidl lp k srt⟩) (fun srt done S' h => h.2.arr) (fun srt done x rs S' hh hm => ?_)
      · refine ⟨this.1, fun w g vs h1 h2 => (this.2 w g vs h1 h2).mono ?_⟩
        rintro e w' ⟨v, q, S', g', h3, ⟨srt, hp, hw, _, hJ⟩, h4⟩
        obtain ⟨a', o1, o2⟩ := hJ.out hC hidl
        exact ⟨v, q, S', g', h3, ⟨hJ.loop, srt, a', hp, hw, o1, o2⟩, h4⟩
      · obtain ⟨hp, hJ⟩ := hh
        have hloop := hJ.loop
        obtain ⟨a', ha1, ha2⟩ := hJ.acc
        have hlen : (accL a').length ≤ 100000 := by
          have h1 : (mergeL srt).length = done.length + (rs.length + 1) := by rw [hm]; simp
          have h2 := mergeL_len srt
          have h3 := hp.length_eq
          rw [ha2, List.length_append, List.length_map]
          have h4 := hL.len
          have h5 := lens_erase hi
          rw [hv] at h5
          have h6 : (lst (some y)).length = (y.2).length := rfl
          omega
        rw [← hlp] at hloop
        refine py_of (R := fun S' => srt.Perm (y.2) ∧ JJ st0 d id3 it (rest.eraseIdx i) (upd S it (some (.iter (some (Of.enc k, spF (shp (some y)))) (ments Of.enc spF (spE (rest.eraseIdx i)))))) lp idl y.1 k (accL a) srt (done ++ [x]) S') hloop (show 19 < 60 by decide) ?_
        have hb3 : ∀ o, upd S' idl o id3 = some (.cells 50 [accV a']) := fun o => (upd_ne n3l).trans ha1.box
        show PWp _ _ _ ((((St.nilR 60 S').pv 3 (.ref id3 0)).pv 4 (.rp k.cells)).pv 19 (.agg x.cells))
        (try (apply wO pk; exact rfl)); (repeat' (first | exact All.nil | refine All.cons ?_ ?_ | (apply wC pk; exact rfl; exact rfl) | (apply wE pk; exact rfl; exact rfl) | (apply wX pk; exact rfl) | (apply wN pk; exact rfl) | (apply wD pk [] []; kernel_rfl; exact rfl; exact rfl) | exact Imp.one | exact Imp.same | refine Imp.left ?_ | exact ImpX.one | exact ImpX.same | exact ImpX.mk | refine ImpX.up ?_ | refine ImpX.old ?_ | (apply pwp_condC; simp only [cond_true, cond_false]) | (refine pwp_cond rfl (fun h => ?_) (fun h => ?_) <;> (try simp at h) <;> (first | done | (exfalso; omega) | skip)) | (refine pwp_ret ?_; refine ⟨_, _, _, rfl, Wk.refl _, StSub.refl _, ?_, rfl⟩; (first | rfl | skip)) | (intros; omega) | (intros; simp only [List.length_map]; omega)))
        refine ⟨rfl, hloop, ?_⟩
        cases a' with
        | none =>
          (try (apply wO pk; exact rfl)); (repeat' (first | exact All.nil | refine All.cons ?_ ?_ | (apply wC pk; exact rfl; exact rfl) | (apply wE pk; exact rfl; exact rfl) | (apply wX pk; exact rfl) | (apply wN pk; exact rfl) | (apply wDx pk; exact rfl; kernel_rfl; exact rfl; exact rfl) | exact Imp.one | exact Imp.same | refine Imp.left ?_ | exact ImpX.one | exact ImpX.same | exact ImpX.mk | refine ImpX.up ?_ | refine ImpX.old ?_ | (apply pwp_condC; simp only [cond_true, cond_false]) | (refine pwp_cond rfl (fun h => ?_) (fun h => ?_) <;> (try simp at h) <;> (first | done | (exfalso; omega) | skip)) | (refine pwp_ret ?_; refine ⟨_, _, _, rfl, Wk.refl _, StSub.refl _, ?_, rfl⟩; (first | rfl | skip)) | (apply ncA; exact rfl; exact rfl; exact rfl; rotate_left; exact rfl; exact rfl) | (apply ldR pk; exact rfl; exact rfl; rotate_left; exact rfl; (first | exact upd_same _ _ _ | assumption | (focus ((repeat (first | exact upd_same _ _ _ | assumption | refine (upd_ne (by assumption)).trans ?_)); done))); exact rfl; exact rfl) | (apply stR pk; exact rfl; exact rfl; (first | exact upd_same _ _ _ | assumption | (focus ((repeat (first | exact upd_same _ _ _ | assumption | refine (upd_ne (by assumption)).trans ?_)); done))); exact rfl; exact rfl) | (apply apV pk (f := Rt.cells) [spanRt k x] 48; exact rfl; exact rfl; exact rfl; exact rfl; exact rfl; exact rfl; exact rfl; exact rfl; exact rfl; (first | exact upd_same _ _ _ | assumption | (focus ((repeat (first | exact upd_same _ _ _ | assumption | refine (upd_ne (by assumption)).trans ?_)); done))); (first | omega | assumption | (focus (simp; done)) | (focus (simp; omega)) | (focus (simp at *; omega))); exact fun _ => rfl; exact fun _ => rfl; exact bytesR; (first | omega | assumption | (focus (simp; done)) | (focus (simp; omega)) | (focus (simp at *; omega))); (first | omega | assumption | (focus (simp; done)) | (focus (simp; omega)) | (focus (simp at *; omega))); exact rfl; intro id' hid') | (apply ap0 pk (f := Rt.cells) [spanRt k x] 48; exact rfl; exact rfl; exact rfl; exact rfl; exact rfl; exact rfl; exact rfl; exact rfl; exact rfl; exact rfl; exact fun _ => rfl; exact fun _ => rfl; exact bytesR; (first | omega | assumption | (focus (simp; done)) | (focus (simp; omega)) | (focus (simp at *; omega))); (first | omega | assumption | (focus (simp; done)) | (focus (simp; omega)) | (focus (simp at *; omega))); exact rfl; intro id' hid') | (apply callP; exact rfl; exact rfl; (first | (apply hs <;> first | exact upd_same _ _ _ | assumption | omega | (simp only [Array.size_setIfInBounds]; omega) | (first | exact upd_same _ _ _ | assumption | (focus ((repeat (first | exact upd_same _ _ _ | assumption | refine (upd_ne (by assumption)).trans ?_)); done))))); exact rfl; exact rfl; exact rfl; intro _ st' hR; (first | subst hR | obtain ⟨rfl, rfl⟩ := hR)) | (apply ldR pk; exact rfl; exact rfl; rotate_left; exact rfl; exact hb3 _; exact rfl; exact rfl) | (apply stR pk; exact rfl; exact rfl; exact (upd_ne (fun e => Option.some_ne_none _ ((hb3 _).symm.trans ((congrArg (upd S' idl _) e).trans hid')))).trans (hb3 _); exact rfl; exact rfl) | (intros; omega) | (intros; simp only [List.length_map]; omega)))
          obtain ⟨g1, g2⟩ := JJ.round hC nA nL hJ ha1 ha2 x hid' (.inl rfl)
          subst hlp
          exact ⟨rfl, _, StSub.refl _, g1, hp, g2⟩
        | some z =>
          have nz : z.1 ≠ idl := fun e => (ha1.arr z rfl).2 (.inr (.inl e))
          have hz3 : ∀ o, upd S' idl o z.1 = some (.arr 34 (z.2.map Rt.cells)) := fun o => (upd_ne nz).trans (ha1.arr z rfl).1
          have n3z : id3 ≠ z.1 := fun e => by have h1 := ha1.box; have h2 := (ha1.arr z rfl).1; rw [e, h2] at h1; cases h1
          have hlz : z.2.length ≤ 100000 := hlen
          (try (apply wO pk; exact rfl)); (repeat' (first | exact All.nil | refine All.cons ?_ ?_ | (apply wC pk; exact rfl; exact rfl) | (apply wE pk; exact rfl; exact rfl) | (apply wX pk; exact rfl) | (apply wN pk; exact rfl) | (apply wDx pk; exact rfl; kernel_rfl; exact rfl; exact rfl) | exact Imp.one | exact Imp.same | refine Imp.left ?_ | exact ImpX.one | exact ImpX.same | exact ImpX.mk | refine ImpX.up ?_ | refine ImpX.old ?_ | (apply pwp_condC; simp only [cond_true, cond_false]) | (refine pwp_cond rfl (fun h => ?_) (fun h => ?_) <;> (try simp at h) <;> (first | done | (exfalso; omega) | skip)) | (refine pwp_ret ?_; refine ⟨_, _, _, rfl, Wk.refl _, StSub.refl _, ?_, rfl⟩; (first | rfl | skip)) | (apply ncA; exact rfl; exact rfl; exact rfl; rotate_left; exact rfl; exact rfl) | (apply ldR pk; exact rfl; exact rfl; rotate_left; exact rfl; (first | exact upd_same _ _ _ | assumption | (focus ((repeat (first | exact upd_same _ _ _ | assumption | refine (upd_ne (by assumption)).trans ?_)); done))); exact rfl; exact rfl) | (apply stR pk; exact rfl; exact rfl; (first | exact upd_same _ _ _ | assumption | (focus ((repeat (first | exact upd_same _ _ _ | assumption | refine (upd_ne (by assumption)).trans ?_)); done))); exact rfl; exact rfl) | (apply callP; exact rfl; exact rfl; (first | (apply hs <;> first | exact upd_same _ _ _ | assumption | omega | (simp only [Array.size_setIfInBounds]; omega) | (first | exact upd_same _ _ _ | assumption | (focus ((repeat (first | exact upd_same _ _ _ | assumption | refine (upd_ne (by assumption)).trans ?_)); done))))); exact rfl; exact rfl; exact rfl; intro _ st' hR; (first | subst hR | obtain ⟨rfl, rfl⟩ := hR)) | (apply ldR pk; exact rfl; exact rfl; rotate_left; exact rfl; exact hb3 _; exact rfl; exact rfl) | (apply apV pk (f := Rt.cells) (xs := z.2) [spanRt k x] 48; exact rfl; exact rfl; exact rfl; exact rfl; exact rfl; exact rfl; exact rfl; exact rfl; exact rfl; exact hz3 _; exact rfl; exact fun _ => rfl; exact fun _ => rfl; exact bytesR; (simp only [List.length_cons, List.length_nil]; omega); (simp only [List.length_cons, List.length_nil]; omega); exact rfl; intro id' hid') | (apply stR pk; exact rfl; exact rfl; exact (upd_ne (fun e => Option.some_ne_none _ ((hb3 _).symm.trans ((congrArg (upd S' idl _) e).trans hid')))).trans ((upd_ne n3z).trans (hb3 _)); exact rfl; exact rfl) | (intros; omega) | (intros; simp only [List.length_map]; omega)))
          obtain ⟨g1, g2⟩ := JJ.round hC nA nL hJ ha1 ha2 x hid' (.inr ⟨z, rfl, rfl⟩)
          rw [show accV (some (id', accL (some z) ++ [spanRt k x])) = .vec id' 6 0 (z.2.length + [spanRt k x].length) from by simp [accV, accL]] at g1 g2
          subst hlp
          exact ⟨rfl, _, StSub.refl _, g1, hp, g2⟩
    · rintro idl S' hidl ⟨srt, a', hp, hw, hI2, hacc⟩
      have hL2 := hL.take hi (k := k) (v := (some y)) (by rw [← hk, ← hv]) ⟨srt, hp, hw, rfl⟩
      rw [← hacc] at hL2
      (try (apply wO pk; exact rfl)); (repeat' (first | exact All.nil | refine All.cons ?_ ?_ | (apply wC pk; exact rfl; exact rfl) | (apply wE pk; exact rfl; exact rfl) | (apply wX pk; exact rfl) | (apply wN pk; exact rfl) | (apply wD pk [] []; kernel_rfl; exact rfl; exact rfl) | exact Imp.one | exact Imp.same | refine Imp.left ?_ | exact ImpX.one | exact ImpX.same | exact ImpX.mk | refine ImpX.up ?_ | refine ImpX.old ?_ | (apply pwp_condC; simp only [cond_true, cond_false]) | (refine pwp_cond rfl (fun h => ?_) (fun h => ?_) <;> (try simp at h) <;> (first | done | (exfalso; omega) | skip)) | (refine pwp_ret ?_; refine ⟨_, _, _, rfl, Wk.refl _, StSub.refl _, ?_, rfl⟩; (first | rfl | skip)) | (refine ⟨⟨(rest.eraseIdx i, vis ++ [⟨k, lst (some y), mergeL srt⟩], a', upd S' idl none), hI2, hL2⟩, ?_, by simp only; omega⟩; (first | exact Sub.nil _ _ _ (StSub.refl _) rfl | ((repeat (first | refine Sub.pv ?_ rfl | refine Sub.var ?_ rfl rfl)); (first | exact Sub.nil _ _ _ (StSub.refl _) rfl | exact Sub.nil _ _ _ (stsub_swap (by assumption)) rfl | exact Sub.nil _ _ _ (stsub_eq (by first | rfl | exact upd_eta (by assumption) | ((simp only [St.pv, St.put, St.sst, St.setv, St.nil, St.var, upd_upd]); first | done | rfl))) rfl | (refine Sub.nil _ _ _ (stsub_eq ?_) rfl; (simp only [St.pv, St.put, St.sst, St.setv, St.nil, St.var, upd_upd]); (rw [upd4 (by assumption)]); first | done | rfl))))) | (intros; omega) | (intros; simp only [List.length_map]; omega)))
end Go.Proofs.Ytbcdgocepnkpeaa
