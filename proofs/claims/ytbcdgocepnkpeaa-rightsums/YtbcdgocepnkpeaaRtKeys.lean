import Derived.Test.YtbcdgocepnkpeaaRtRg2
set_option linter.unusedSimpArgs false
set_option linter.unusedVariables false
namespace Go.Proofs.Ytbcdgocepnkpeaa
open Go Go.Abs
attribute [local irreducible] Ev PWp
set_option maxRecDepth 10000
set_option maxHeartbeats 4000000
def accVI : Option (Nat × List Int) → PV
  | none => .val (.slice none 0 0)
  | some y => .vec y.1 1 0 y.2.length
def accLI : Option (Nat × List Int) → List Int
  | none => []
  | some y => y.2
structure AccI (L : Nat → Prop) (S : Store) (id3 : Nat) (a : Option (Nat × List Int)) : Prop where
  box : S id3 = some (.cells 56 [accVI a])
  arr : ∀ y, a = some y → S y.1 = some (.arr 3 (y.2.map I1)) ∧ ¬ L y.1
  out : ¬ L id3
theorem AccI.grow {L : Nat → Prop} {S S1 : Store} {id3 : Nat} {a : Option (Nat × List Int)} (h : AccI L S id3 a) {i' : Nat} {l' : List Int} (hi : S i' = none) (hL : ∀ j, L j → S j ≠ none)
    (hS : S1 = upd (upd S i' (some (.arr 3 (l'.map I1)))) id3 (some (.cells 56 [accVI (some (i', l'))])) ∨ ∃ y, a = some y ∧ S1 = upd (upd (upd S y.1 none) i' (some (.arr 3 (l'.map I1)))) id3 (some (.cells 56 [accVI (some (i', l'))]))) :
    AccI L S1 id3 (some (i', l')) ∧ ∀ j, L j → S1 j = S j := by
  have n3 : i' ≠ id3 := fun e => by rw [e, h.box] at hi; cases hi
  have ni : ¬ L i' := fun q => hL i' q hi
  rcases hS with rfl | ⟨y, ha, rfl⟩
  · refine ⟨⟨upd_same _ _ _, fun y e => ?_, h.out⟩, fun j hj => ?_⟩
    · injection e with e; subst e
      exact ⟨by rw [upd_ne n3, upd_same], ni⟩
    · rw [upd_ne (fun e => h.out (by rw [← e]; exact hj)), upd_ne (fun e => ni (by rw [← e]; exact hj))]
  · refine ⟨⟨upd_same _ _ _, fun y e => ?_, h.out⟩, fun j hj => ?_⟩
    · injection e with e; subst e
      exact ⟨by rw [upd_ne n3, upd_same], ni⟩
    · rw [upd_ne (fun e => h.out (by rw [← e]; exact hj)), upd_ne (fun e => ni (by rw [← e]; exact hj)), upd_ne (fun e => (h.arr y ha).2 (by rw [← e]; exact hj))]
theorem AccI.move {L L' : Nat → Prop} {S S1 : Store} {id3 : Nat} {a : Option (Nat × List Int)} (h : AccI L S id3 a) (h3 : S1 id3 = S id3) (ha : ∀ y, a = some y → S1 y.1 = S y.1 ∧ ¬ L' y.1) (hL : ¬ L' id3) : AccI L' S1 id3 a :=
  ⟨h3.trans h.box, fun y e => ⟨(ha y e).1.trans (h.arr y e).1, (ha y e).2⟩, hL⟩
theorem AccI.round {L : Nat → Prop} {S S1 : Store} {id3 idl : Nat} {a : Option (Nat × List Int)} (h : AccI L S id3 a) (hl : L idl) (hL : ∀ j, L j → S j ≠ none) (busy ready : AObj) {i' : Nat} {l' : List Int} (hi : upd S idl (some busy) i' = none)
    (hS : S1 = upd (upd (upd S idl (some busy)) i' (some (.arr 3 (l'.map I1)))) id3 (some (.cells 56 [accVI (some (i', l'))])) ∨ ∃ y, a = some y ∧ S1 = upd (upd (upd (upd S idl (some busy)) y.1 none) i' (some (.arr 3 (l'.map I1)))) id3 (some (.cells 56 [accVI (some (i', l'))]))) :
    AccI L (upd S1 idl (some ready)) id3 (some (i', l')) ∧ S1 idl = some busy ∧ ∀ j, L j → j ≠ idl → upd S1 idl (some ready) j = S j := by
  have n3 : id3 ≠ idl := fun e => h.out (by rw [e]; exact hl)
  have hb : AccI L (upd S idl (some busy)) id3 a := h.move (upd_ne n3) (fun y e => ⟨upd_ne fun q => (h.arr y e).2 (by rw [q]; exact hl), (h.arr y e).2⟩) h.out
  have hLb : ∀ j, L j → upd S idl (some busy) j ≠ none := fun j hj => by
    by_cases e : j = idl
    · rw [e, upd_same]; simp
    · rw [upd_ne e]; exact hL j hj
  obtain ⟨g1, g2⟩ := hb.grow hi hLb hS
  refine ⟨g1.move (upd_ne n3) (fun y e => ⟨upd_ne fun q => (g1.arr y e).2 (by rw [q]; exact hl), (g1.arr y e).2⟩) g1.out, by rw [g2 idl hl, upd_same], fun j hj hne => ?_⟩
  rw [upd_ne hne, g2 j hj, upd_ne hne]
theorem keys_spec (es : List (Value × PV)) : PF Try.prog 41 [.fmap es] (.fn 47 [.rp [.fmap es]]) := by
  refine pf_of tt_ok Try.func41 (by kernel_rfl) rfl rfl rfl rfl (fun st => ?_)
  (try (apply wO pk; exact rfl)); (repeat' (first | exact All.nil | refine All.cons ?_ ?_ | (apply wC pk; exact rfl; exact rfl) | (apply wE pk; exact rfl; exact rfl) | (apply wX pk; exact rfl) | (apply wN pk; exact rfl) | (apply wD pk [] []; kernel_rfl; exact rfl; exact rfl) | exact Imp.one | exact Imp.same | refine Imp.left ?_ | exact ImpX.one | exact ImpX.same | exact ImpX.mk | refine ImpX.up ?_ | refine ImpX.old ?_ | (apply pwp_condC; simp only [cond_true, cond_false]) | (refine pwp_cond rfl (fun h => ?_) (fun h => ?_) <;> (try simp at h) <;> (first | done | (exfalso; omega) | skip)) | (refine pwp_ret ?_; refine ⟨_, _, _, rfl, Wk.refl _, StSub.refl _, ?_, rfl⟩; (first | rfl | skip)) | (apply ev_freeze 1; exact rfl; exact rfl) | (intros; omega) | (intros; simp only [List.length_map]; omega)))
theorem keys1_pc {idl : Nat} (es : List (Int × (Nat × Nat))) {st : Store} (J : Nat → List (Int × (Nat × Nat)) → List Int → Store → Prop)
    (h0 : ∀ it, st it = none → J it es [] (upd st it (some (.iter none (ments Ie heldF es)))))
    (h1 : ∀ it rest done S, J it rest done S → ∃ cur, S it = some (.iter cur (ments Ie heldF rest)))
    (h2 : ∀ it rest done S i (h : i < rest.length) cur, J it rest done S → PY Try.prog idl [(PV.val (Value.int .i64 (rest[i].1)))] (upd S it (some (.iter cur (ments Ie heldF (rest.eraseIdx i))))) fun r S' => r = .val (.bool true) ∧ J it (rest.eraseIdx i) (done ++ [rest[i].1]) S') :
    PC Try.prog 47 [.yld idl, .rp [.fmap (ments Ie heldF es)]] st fun _ S => ∃ it done, J it [] done S := by
  refine pc_of tt_ok Try.func47 (by kernel_rfl) rfl rfl rfl rfl ?_
  (try (apply wO pk; exact rfl)); (repeat' (first | exact All.nil | refine All.cons ?_ ?_ | (apply wC pk; exact rfl; exact rfl) | (apply wE pk; exact rfl; exact rfl) | (apply wX pk; exact rfl) | (apply wN pk; exact rfl) | (apply wD pk [] []; kernel_rfl; exact rfl; exact rfl) | exact Imp.one | exact Imp.same | refine Imp.left ?_ | exact ImpX.one | exact ImpX.same | exact ImpX.mk | refine ImpX.up ?_ | refine ImpX.old ?_ | (apply pwp_condC; simp only [cond_true, cond_false]) | (refine pwp_cond rfl (fun h => ?_) (fun h => ?_) <;> (try simp at h) <;> (first | done | (exfalso; omega) | skip)) | (refine pwp_ret ?_; refine ⟨_, _, _, rfl, Wk.refl _, StSub.refl _, ?_, rfl⟩; (first | rfl | skip)) | (apply rangeA pk; exact rfl; exact rfl; exact rfl; exact rfl; exact rfl; intro it hit) | (intros; omega) | (intros; simp only [List.length_map]; omega)))
  have h0 := h0 it hit
  refine pwp_loop (X := { x : List (Int × (Nat × Nat)) × List Int × Store // J it x.1 x.2.1 x.2.2 }) (fun i => (((St.nil 14 (i.1.2.2)).pv 0 (.yld idl)).pv 5 (.ref it 0))) (fun i => i.1.1.length) ⟨(es, [], _), h0⟩ ?_ (fun i => ?_)
  · (first | exact Sub.nil _ _ _ (StSub.refl _) rfl | ((repeat (first | refine Sub.pv ?_ rfl | refine Sub.var ?_ rfl rfl)); (first | exact Sub.nil _ _ _ (StSub.refl _) rfl | exact Sub.nil _ _ _ (stsub_swap (by assumption)) rfl | exact Sub.nil _ _ _ (stsub_eq (by first | rfl | exact upd_eta (by assumption) | ((simp only [St.pv, St.put, St.sst, St.setv, St.nil, St.var, upd_upd]); first | done | rfl))) rfl | (refine Sub.nil _ _ _ (stsub_eq ?_) rfl; (simp only [St.pv, St.put, St.sst, St.setv, St.nil, St.var, upd_upd]); (rw [upd4 (by assumption)]); first | done | rfl))))
  obtain ⟨⟨rest, done, S⟩, hJ⟩ := i
  dsimp only at hJ
  dsimp only
  obtain ⟨cur, hcur⟩ := h1 _ _ _ _ hJ
  (try (apply wO pk; exact rfl)); (repeat' (first | exact All.nil | refine All.cons ?_ ?_ | (apply wC pk; exact rfl; exact rfl) | (apply wE pk; exact rfl; exact rfl) | (apply wX pk; exact rfl) | (apply wN pk; exact rfl) | (apply wD pk [] []; kernel_rfl; exact rfl; exact rfl) | exact Imp.one | exact Imp.same | refine Imp.left ?_ | exact ImpX.one | exact ImpX.same | exact ImpX.mk | refine ImpX.up ?_ | refine ImpX.old ?_ | (apply pwp_condC; simp only [cond_true, cond_false]) | (refine pwp_cond rfl (fun h => ?_) (fun h => ?_) <;> (try simp at h) <;> (first | done | (exfalso; omega) | skip)) | (refine pwp_ret ?_; refine ⟨_, _, _, rfl, Wk.refl _, StSub.refl _, ?_, rfl⟩; (first | rfl | skip)) | (apply nextA; exact rfl; exact hcur; exact rfl; exact rfl; exact rfl; intro hleft; rotate_left; intro i e he; rotate_left) | (intros; omega) | (intros; simp only [List.length_map]; omega)))
  · have hr0 : rest = [] := by
      cases rest with
      | nil => rfl
      | cons _ _ => cases hleft
    subst hr0
    (try (apply wO pk; exact rfl)); (repeat' (first | exact All.nil | refine All.cons ?_ ?_ | (apply wC pk; exact rfl; exact rfl) | (apply wE pk; exact rfl; exact rfl) | (apply wX pk; exact rfl) | (apply wN pk; exact rfl) | (apply wDx pk; exact rfl; kernel_rfl; exact rfl; exact rfl) | exact Imp.one | exact Imp.same | refine Imp.left ?_ | exact ImpX.one | exact ImpX.same | exact ImpX.mk | refine ImpX.up ?_ | refine ImpX.old ?_ | (apply pwp_condC; simp only [cond_true, cond_false]) | (refine pwp_cond rfl (fun h => ?_) (fun h => ?_) <;> (try simp at h) <;> (first | done | (exfalso; omega) | skip)) | ((try refine pwp_ret ?_); (first | (refine ⟨_, _, _, rfl, Wk.refl _, StSub.refl _, ?_⟩; (exact ⟨it, done, hJ⟩); done) | (refine ⟨_, _, ?zs, rfl, Wk.refl _, ?zh, ?zr⟩; (case zh => (refine stsub_over ?_ (by assumption); (repeat refine stsub_over ?_ (by assumption)); exact StSub.refl _)); (case zr => (exact ⟨it, done, hJ⟩))) | refine ⟨_, _, _, rfl, Wk.refl _, StSub.refl _, ?_⟩)) | (apply ncA; exact rfl; exact rfl; exact rfl; rotate_left; exact rfl; exact rfl) | (apply ldR pk; exact rfl; exact rfl; rotate_left; exact rfl; (first | exact upd_same _ _ _ | assumption | (focus ((repeat (first | exact upd_same _ _ _ | assumption | refine (upd_ne (by assumption)).trans ?_)); done))); exact rfl; exact rfl) | (apply stR pk; exact rfl; exact rfl; (first | exact upd_same _ _ _ | assumption | (focus ((repeat (first | exact upd_same _ _ _ | assumption | refine (upd_ne (by assumption)).trans ?_)); done))); exact rfl; exact rfl) | (intros; omega) | (intros; simp only [List.length_map]; omega)))
  have hi : i < rest.length := by
    have := (List.getElem?_eq_some_iff.1 he).1
    simpa [ments] using this
  have he : e = (Ie rest[i].1, heldF rest[i].2) := by
    have := (List.getElem?_eq_some_iff.1 he).2
    rw [← this]; simp [ments]
  subst he
  have hel : (ments Ie heldF rest).eraseIdx i = ments Ie heldF (rest.eraseIdx i) := (ments_erase _ _ _ _).symm
  rw [hel]
  have hler := List.length_eraseIdx_of_lt hi
  have hy := h2 it rest done S i hi (some (Ie rest[i].1, heldF rest[i].2)) hJ
  have hkey : ∀ g, Rep g (PV.val (Value.int .i64 (rest[i].1))) (Ie rest[i].1) := fun g => by simp [Rep, Ie]
  generalize rest[i].1 = k at *
  (try (apply wO pk; exact rfl)); (repeat' (first | exact All.nil | refine All.cons ?_ ?_ | (apply wC pk; exact rfl; exact rfl) | (apply wE pk; exact rfl; exact rfl) | (apply wX pk; exact rfl) | (apply wN pk; exact rfl) | (apply wD pk [] []; kernel_rfl; exact rfl; exact rfl) | exact Imp.one | exact Imp.same | refine Imp.left ?_ | exact ImpX.one | exact ImpX.same | exact ImpX.mk | refine ImpX.up ?_ | refine ImpX.old ?_ | (apply pwp_condC; simp only [cond_true, cond_false]) | (refine pwp_cond rfl (fun h => ?_) (fun h => ?_) <;> (try simp at h) <;> (first | done | (exfalso; omega) | skip)) | (refine pwp_ret ?_; refine ⟨_, _, _, rfl, Wk.refl _, StSub.refl _, ?_, rfl⟩; (first | rfl | skip)) | (apply entryA; exact rfl; exact rfl; exact upd_same _ _ _; exact hkey; rotate_left; exact rfl; exact rfl) | (apply yieldP; exact rfl; exact rfl; exact hy; exact rfl; exact rfl; exact rfl; rintro _ S' ⟨rfl, hJ'⟩) | (refine ⟨⟨(rest.eraseIdx i, done ++ [k], S'), hJ'⟩, ?_, by simp only; omega⟩; (first | exact Sub.nil _ _ _ (StSub.refl _) rfl | ((repeat (first | refine Sub.pv ?_ rfl | refine Sub.var ?_ rfl rfl)); (first | exact Sub.nil _ _ _ (StSub.refl _) rfl | exact Sub.nil _ _ _ (stsub_swap (by assumption)) rfl | exact Sub.nil _ _ _ (stsub_eq (by first | rfl | exact upd_eta (by assumption) | ((simp only [St.pv, St.put, St.sst, St.setv, St.nil, St.var, upd_upd]); first | done | rfl))) rfl | (refine Sub.nil _ _ _ (stsub_eq ?_) rfl; (simp only [St.pv, St.put, St.sst, St.setv, St.nil, St.var, upd_upd]); (rw [upd4 (by assumption)]); first | done | rfl))))) | (intros; omega) | (intros; simp only [List.length_map]; omega)))
end Go.Proofs.Ytbcdgocepnkpeaa
