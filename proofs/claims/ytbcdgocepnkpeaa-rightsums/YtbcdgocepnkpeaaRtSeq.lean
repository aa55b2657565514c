import Derived.Test.YtbcdgocepnkpeaaRtKeys
set_option linter.unusedSimpArgs false
set_option linter.unusedVariables false
namespace Go.Proofs.Ytbcdgocepnkpeaa
open Go Go.Abs
attribute [local irreducible] Ev PWp
set_option maxRecDepth 10000
set_option maxHeartbeats 4000000
theorem bytesI : Try.prog.bytesOf 3 = 8 := by kernel_rfl
def seqF (es : List (Int × (Nat × Nat))) : PV := .fn 47 [.rp [.fmap (ments Ie heldF es)]]
structure KJ (st0 : Store) (lp : AObj) (idl id2 it : Nat) (es rest : List (Int × (Nat × Nat))) (done : List Int) (S : Store) : Prop where
  loop : S idl = some lp
  iter : ∃ cur, S it = some (.iter cur (ments Ie heldF rest))
  acc : ∃ b, AccI (fun j => st0 j ≠ none ∨ j = idl ∨ j = it) S id2 b ∧ accLI b = done
  old : ∀ j, st0 j ≠ none → S j = st0 j
  perm : (done ++ rest.map (·.1)).Perm (es.map (·.1))
  apart : idl ≠ it ∧ st0 it = none ∧ st0 idl = none
theorem KJ.live {st0 S : Store} {lp : AObj} {idl id2 it : Nat} {es rest : List (Int × (Nat × Nat))} {done : List Int} (h : KJ st0 lp idl id2 it es rest done S) : ∀ j, st0 j ≠ none ∨ j = idl ∨ j = it → S j ≠ none := fun j hj => by
  rcases hj with hj | rfl | rfl
  · rw [h.old j hj]; exact hj
  · rw [h.loop]; simp
  · obtain ⟨cur, e⟩ := h.iter; rw [e]; simp
theorem appSeq_pc (es : List (Int × (Nat × Nat))) (hlen : es.length ≤ 100000) (st : Store) : PC Try.prog 52 [.val (.slice none 0 0), seqF es] st fun r S => ∃ b, r = accVI b ∧ (accLI b).Perm (es.map (·.1)) ∧ (∀ y, b = some y → S y.1 = some (.arr 3 (y.2.map I1)) ∧ st y.1 = none) ∧ ∀ j, st j ≠ none → S j = st j := by
  unfold seqF
  refine pc_of tt_ok Try.func52 (by kernel_rfl) rfl rfl rfl rfl ?_
  (try (apply wO pk; exact rfl)); (repeat' (first | exact All.nil | refine All.cons ?_ ?_ | (apply wC pk; exact rfl; exact rfl) | (apply wE pk; exact rfl; exact rfl) | (apply wX pk; exact rfl) | (apply wN pk; exact rfl) | (apply wD pk [] []; kernel_rfl; exact rfl; exact rfl) | exact Imp.one | exact Imp.same | refine Imp.left ?_ | exact ImpX.one | exact ImpX.same | exact ImpX.mk | refine ImpX.up ?_ | refine ImpX.old ?_ | (apply pwp_condC; simp only [cond_true, cond_false]) | (refine pwp_cond rfl (fun h => ?_) (fun h => ?_) <;> (try simp at h) <;> (first | done | (exfalso; omega) | skip)) | (refine pwp_ret ?_; refine ⟨_, _, _, rfl, Wk.refl _, StSub.refl _, ?_, rfl⟩; (first | rfl | skip)) | (intros; omega) | (intros; simp only [List.length_map]; omega)))
  refine pwp_share 2 rfl rfl fun id2 h2 => ?_
  have h2 : st id2 = none := h2
  refine pwp_rangeF [(2, .ref id2 0)] rfl rfl ⟨rfl, trivial⟩ (fun idl S => ∃ b, (accLI b).Perm (es.map (·.1)) ∧ AccI (fun j => st j ≠ none) (upd S idl none) id2 b ∧ ∀ j, st j ≠ none → upd S idl none j = st j) ?_ ?_
  · intro idl hidl
    have hidl : upd st id2 (some (.cells 56 [.val (.slice none 0 0)])) idl = none := hidl
    have nl2 : idl ≠ id2 := fun e => by rw [e, upd_same] at hidl; cases hidl
    have hsl : st idl = none := by rwa [upd_ne nl2] at hidl
    generalize hlp : AObj.loop _ _ _ _ _ _ = lp
    have := keys1_pc (idl := idl) es (st := upd (upd st id2 (some (.cells 56 [.val (.slice none 0 0)]))) idl (some lp)) (fun it rest done S => KJ st lp idl id2 it es rest done S) (fun it hit => ?_) (fun it rest done S h => h.iter) (fun it rest done S i hi cur h => ?_)
    · refine ⟨this.1, fun w g vs h1 h2 => (this.2 w g vs h1 h2).mono ?_⟩
      rintro e w' ⟨v, q, S, g', h3, ⟨it, done, hJ⟩, h4⟩
      obtain ⟨b, hb, hbl⟩ := hJ.acc
      have hp := hJ.perm
      rw [List.map_nil, List.append_nil, ← hbl] at hp
      refine ⟨v, q, S, g', h3, ⟨hJ.loop, b, hp, hb.move (upd_ne fun e => hb.out (.inr (.inl e))) (fun y e => ⟨upd_ne fun q => (hb.arr y e).2 (.inr (.inl q)), fun q => (hb.arr y e).2 (.inl q)⟩) (fun q => hb.out (.inl q)), fun j hj => ?_⟩, h4⟩
      rw [upd_ne (fun e => hj (by rw [e]; exact hsl))]
      exact hJ.old j hj
    · have nit : it ≠ idl := fun e => by rw [e, upd_same] at hit; cases hit
      rw [upd_ne nit] at hit
      have nit2 : it ≠ id2 := fun e => by rw [e, upd_same] at hit; cases hit
      rw [upd_ne nit2] at hit
      refine ⟨by rw [upd_ne (Ne.symm nit), upd_same], ⟨none, upd_same _ _ _⟩, ⟨none, ⟨by rw [upd_ne (Ne.symm nit2), upd_ne (Ne.symm nl2), upd_same]; rfl, fun _ e => (by cases e), ?_⟩, rfl⟩, fun j hj => ?_, by simp, ⟨Ne.symm nit, hit, hsl⟩⟩
      · rintro (q | q | q)
        · exact q h2
        · exact nl2 q.symm
        · exact nit2 q.symm
      · rw [upd_ne (fun e => hj (by rw [e]; exact hit)), upd_ne (fun e => hj (by rw [e]; exact hsl)), upd_ne (fun e => hj (by rw [e]; exact h2))]
    · have hloop := h.loop
      obtain ⟨b, hb, hbl⟩ := h.acc
      obtain ⟨n1, n2, n3⟩ := h.apart
      generalize hS3 : upd S it (some (.iter cur (ments Ie heldF (rest.eraseIdx i)))) = S3
      have hS3l : S3 idl = some lp := by rw [← hS3, upd_ne n1]; exact hloop
      have hS3i : S3 it = some (.iter cur (ments Ie heldF (rest.eraseIdx i))) := by rw [← hS3, upd_same]
      have hb3 : AccI (fun j => st j ≠ none ∨ j = idl ∨ j = it) S3 id2 b := by
        rw [← hS3]
        exact hb.move (upd_ne fun e => hb.out (.inr (.inr e))) (fun y e => ⟨upd_ne fun q => (hb.arr y e).2 (.inr (.inr q)), (hb.arr y e).2⟩) hb.out
      have hL3 : ∀ j, (st j ≠ none ∨ j = idl ∨ j = it) → S3 j ≠ none := fun j hj => by
        by_cases e : j = it
        · rw [e, hS3i]; simp
        · rw [← hS3, upd_ne e]; exact h.live j hj
      have ho3 : ∀ j, st j ≠ none → S3 j = st j := fun j hj => by
        rw [← hS3, upd_ne (fun e => hj (by rw [e]; exact n2))]; exact h.old j hj
      have hp3 : (done ++ [rest[i].1] ++ (rest.eraseIdx i).map (·.1)).Perm (es.map (·.1)) := by
        refine List.Perm.trans ?_ h.perm
        have := (perm_erase hi).map (·.1)
        rw [List.append_assoc]
        exact (this.symm).append_left _
      have hbn : (accLI b).length ≤ 100000 := by
        have := h.perm.length_eq
        rw [List.length_append, List.length_map, List.length_map] at this
        rw [hbl]; omega
      have hfin : ∀ (busy : AObj) (i' : Nat) (S1 : Store), upd S3 idl (some busy) i' = none → (S1 = upd (upd (upd S3 idl (some busy)) i' (some (.arr 3 ((accLI b ++ [rest[i].1]).map I1)))) id2 (some (.cells 56 [accVI (some (i', accLI b ++ [rest[i].1]))])) ∨ ∃ y, b = some y ∧ S1 = upd (upd (upd (upd S3 idl (some busy)) y.1 none) i' (some (.arr 3 ((accLI b ++ [rest[i].1]).map I1)))) id2 (some (.cells 56 [accVI (some (i', accLI b ++ [rest[i].1]))]))) → S1 idl = some busy ∧ KJ st lp idl id2 it es (rest.eraseIdx i) (done ++ [rest[i].1]) (upd S1 idl (some lp)) := fun busy i' S1 hi' hS1 => by
        obtain ⟨g1, g2, g3⟩ := hb3.round (.inr (.inl rfl)) hL3 busy lp hi' hS1
        refine ⟨g2, upd_same _ _ _, ⟨cur, by rw [g3 it (.inr (.inr rfl)) (Ne.symm n1)]; exact hS3i⟩, ⟨_, g1, by show accLI b ++ _ = _; rw [hbl]⟩, fun j hj => by rw [g3 j (.inl hj) (fun e => hj (by rw [e]; exact n3))]; exact ho3 j hj, hp3, ⟨n1, n2, n3⟩⟩
      have nb2 : id2 ≠ idl := Ne.symm nl2
      have hbx : ∀ o, upd S3 idl o id2 = some (.cells 56 [accVI b]) := fun o => (upd_ne nb2).trans hb3.box
      generalize rest[i].1 = x at *
      rw [← hlp] at hS3l
      refine py_of (R := fun S' => KJ st lp idl id2 it es (rest.eraseIdx i) (done ++ [x]) S') hS3l (show 7 < 13 by decide) ?_
      show PWp _ _ _ (((St.nilR 13 S3).pv 2 (.ref id2 0)).pv 7 (PV.val (Value.int .i64 (x))))
      (try (apply wO pk; exact rfl)); (repeat' (first | exact All.nil | refine All.cons ?_ ?_ | (apply wC pk; exact rfl; exact rfl) | (apply wE pk; exact rfl; exact rfl) | (apply wX pk; exact rfl) | (apply wN pk; exact rfl) | (apply wD pk [] []; kernel_rfl; exact rfl; exact rfl) | exact Imp.one | exact Imp.same | refine Imp.left ?_ | exact ImpX.one | exact ImpX.same | exact ImpX.mk | refine ImpX.up ?_ | refine ImpX.old ?_ | (apply pwp_condC; simp only [cond_true, cond_false]) | (refine pwp_cond rfl (fun h => ?_) (fun h => ?_) <;> (try simp at h) <;> (first | done | (exfalso; omega) | skip)) | (refine pwp_ret ?_; refine ⟨_, _, _, rfl, Wk.refl _, StSub.refl _, ?_, rfl⟩; (first | rfl | skip)) | (intros; omega) | (intros; simp only [List.length_map]; omega)))
      refine ⟨rfl, hS3l, ?_⟩
      cases b with
      | none =>
        (try (apply wO pk; exact rfl)); (repeat' (first | exact All.nil | refine All.cons ?_ ?_ | (apply wC pk; exact rfl; exact rfl) | (apply wE pk; exact rfl; exact rfl) | (apply wX pk; exact rfl) | (apply wN pk; exact rfl) | (apply wDx pk; exact rfl; kernel_rfl; exact rfl; exact rfl) | exact Imp.one | exact Imp.same | refine Imp.left ?_ | exact ImpX.one | exact ImpX.same | exact ImpX.mk | refine ImpX.up ?_ | refine ImpX.old ?_ | (apply pwp_condC; simp only [cond_true, cond_false]) | (refine pwp_cond rfl (fun h => ?_) (fun h => ?_) <;> (try simp at h) <;> (first | done | (exfalso; omega) | skip)) | (refine pwp_ret ?_; refine ⟨_, _, _, rfl, Wk.refl _, StSub.refl _, ?_, rfl⟩; (first | rfl | skip)) | (apply ncA; exact rfl; exact rfl; exact rfl; rotate_left; exact rfl; exact rfl) | (apply ldR pk; exact rfl; exact rfl; rotate_left; exact rfl; (first | exact upd_same _ _ _ | assumption | (focus ((repeat (first | exact upd_same _ _ _ | assumption | refine (upd_ne (by assumption)).trans ?_)); done))); exact rfl; exact rfl) | (apply stR pk; exact rfl; exact rfl; (first | exact upd_same _ _ _ | assumption | (focus ((repeat (first | exact upd_same _ _ _ | assumption | refine (upd_ne (by assumption)).trans ?_)); done))); exact rfl; exact rfl) | (apply apV pk (f := I1) [x] 8; exact rfl; exact rfl; exact rfl; exact rfl; exact rfl; exact rfl; exact rfl; exact rfl; exact rfl; (first | exact upd_same _ _ _ | assumption | (focus ((repeat (first | exact upd_same _ _ _ | assumption | refine (upd_ne (by assumption)).trans ?_)); done))); (first | omega | assumption | (focus (simp; done)) | (focus (simp; omega)) | (focus (simp at *; omega))); exact fun _ => rfl; exact fun _ => rfl; exact bytesI; (first | omega | assumption | (focus (simp; done)) | (focus (simp; omega)) | (focus (simp at *; omega))); (first | omega | assumption | (focus (simp; done)) | (focus (simp; omega)) | (focus (simp at *; omega))); exact rfl; intro id' hid') | (apply ap0 pk (f := I1) [x] 8; exact rfl; exact rfl; exact rfl; exact rfl; exact rfl; exact rfl; exact rfl; exact rfl; exact rfl; exact rfl; exact fun _ => rfl; exact fun _ => rfl; exact bytesI; (first | omega | assumption | (focus (simp; done)) | (focus (simp; omega)) | (focus (simp at *; omega))); (first | omega | assumption | (focus (simp; done)) | (focus (simp; omega)) | (focus (simp at *; omega))); exact rfl; intro id' hid') | (apply ixA pk; exact rfl; exact rfl; exact rfl; exact rfl; exact rfl; rotate_left; exact rfl; (intro hw; (first | exact (show _ = ((i : Nat) : Int) from by omega) | (simp [gw] at hw; first | exact (show _ = ((i : Nat) : Int) from by omega) | (refine (show _ = ((0 : Nat) : Int) from ?_); omega)) | exact rfl)); (intro hw; (first | omega | (simp [gw] at hw; omega) | (simp only [Array.size_setIfInBounds]; omega))); exact rfl; exact Nat.zero_add _) | (apply ldA pk Sn.elem; exact rfl; exact rfl; rotate_left; exact rfl; (first | exact upd_same _ _ _ | assumption | (focus ((repeat (first | exact upd_same _ _ _ | assumption | refine (upd_ne (by assumption)).trans ?_)); done))); (intro hw; (first | omega | (simp [gw] at hw; omega) | (simp only [Array.size_setIfInBounds]; omega))); exact rfl) | (apply stA pk Sn.elem; exact rfl; exact rfl; exact rfl; (first | exact upd_same _ _ _ | assumption | (focus ((repeat (first | exact upd_same _ _ _ | assumption | refine (upd_ne (by assumption)).trans ?_)); done))); (first | omega | (simp only [Array.size_setIfInBounds]; omega)); exact rfl) | (apply ldR pk; exact rfl; exact rfl; rotate_left; exact rfl; exact hbx _; exact rfl; exact rfl) | (apply stR pk; exact rfl; exact rfl; exact (upd_ne (fun e => Option.some_ne_none _ ((hbx _).symm.trans ((congrArg (upd S3 idl _) e).trans hid')))).trans (hbx _); exact rfl; exact rfl) | (intros; omega) | (intros; simp only [List.length_map]; omega)))
        obtain ⟨g1, g2⟩ := hfin _ id' _ hid' (.inl rfl)
        subst hlp
        exact ⟨rfl, _, StSub.refl _, g1, g2⟩
      | some z =>
        have nz : z.1 ≠ idl := fun e => (hb3.arr z rfl).2 (.inr (.inl e))
        have hz3 : ∀ o, upd S3 idl o z.1 = some (.arr 3 (z.2.map I1)) := fun o => (upd_ne nz).trans (hb3.arr z rfl).1
        have n3z : id2 ≠ z.1 := fun e => by have h1 := hb3.box; have h2 := (hb3.arr z rfl).1; rw [e, h2] at h1; cases h1
        have hlz : z.2.length ≤ 100000 := hbn
        (try (apply wO pk; exact rfl)); (repeat' (first | exact All.nil | refine All.cons ?_ ?_ | (apply wC pk; exact rfl; exact rfl) | (apply wE pk; exact rfl; exact rfl) | (apply wX pk; exact rfl) | (apply wN pk; exact rfl) | (apply wDx pk; exact rfl; kernel_rfl; exact rfl; exact rfl) | exact Imp.one | exact Imp.same | refine Imp.left ?_ | exact ImpX.one | exact ImpX.same | exact ImpX.mk | refine ImpX.up ?_ | refine ImpX.old ?_ | (apply pwp_condC; simp only [cond_true, cond_false]) | (refine pwp_cond rfl (fun h => ?_) (fun h => ?_) <;> (try simp at h) <;> (first | done | (exfalso; omega) | skip)) | (refine pwp_ret ?_; refine ⟨_, _, _, rfl, Wk.refl _, StSub.refl _, ?_, rfl⟩; (first | rfl | skip)) | (apply ncA; exact rfl; exact rfl; exact rfl; rotate_left; exact rfl; exact rfl) | (apply ldR pk; exact rfl; exact rfl; rotate_left; exact rfl; (first | exact upd_same _ _ _ | assumption | (focus ((repeat (first | exact upd_same _ _ _ | assumption | refine (upd_ne (by assumption)).trans ?_)); done))); exact rfl; exact rfl) | (apply stR pk; exact rfl; exact rfl; (first | exact upd_same _ _ _ | assumption | (focus ((repeat (first | exact upd_same _ _ _ | assumption | refine (upd_ne (by assumption)).trans ?_)); done))); exact rfl; exact rfl) | (apply ixA pk; exact rfl; exact rfl; exact rfl; exact rfl; exact rfl; rotate_left; exact rfl; (intro hw; (first | exact (show _ = ((i : Nat) : Int) from by omega) | (simp [gw] at hw; first | exact (show _ = ((i : Nat) : Int) from by omega) | (refine (show _ = ((0 : Nat) : Int) from ?_); omega)) | exact rfl)); (intro hw; (first | omega | (simp [gw] at hw; omega) | (simp only [Array.size_setIfInBounds]; omega))); exact rfl; exact Nat.zero_add _) | (apply ldA pk Sn.elem; exact rfl; exact rfl; rotate_left; exact rfl; (first | exact upd_same _ _ _ | assumption | (focus ((repeat (first | exact upd_same _ _ _ | assumption | refine (upd_ne (by assumption)).trans ?_)); done))); (intro hw; (first | omega | (simp [gw] at hw; omega) | (simp only [Array.size_setIfInBounds]; omega))); exact rfl) | (apply stA pk Sn.elem; exact rfl; exact rfl; exact rfl; (first | exact upd_same _ _ _ | assumption | (focus ((repeat (first | exact upd_same _ _ _ | assumption | refine (upd_ne (by assumption)).trans ?_)); done))); (first | omega | (simp only [Array.size_setIfInBounds]; omega)); exact rfl) | (apply ldR pk; exact rfl; exact rfl; rotate_left; exact rfl; exact hbx _; exact rfl; exact rfl) | (apply apV pk (f := I1) (xs := z.2) [x] 8; exact rfl; exact rfl; exact rfl; exact rfl; exact rfl; exact rfl; exact rfl; exact rfl; exact rfl; exact hz3 _; exact rfl; exact fun _ => rfl; exact fun _ => rfl; exact bytesI; (simp only [List.length_cons, List.length_nil]; omega); (simp only [List.length_cons, List.length_nil]; omega); exact rfl; intro id' hid') | (apply stR pk; exact rfl; exact rfl; exact (upd_ne (fun e => Option.some_ne_none _ ((hbx _).symm.trans ((congrArg (upd S3 idl _) e).trans hid')))).trans ((upd_ne n3z).trans (hbx _)); exact rfl; exact rfl) | (intros; omega) | (intros; simp only [List.length_map]; omega)))
        have hg := hfin _ id' _ hid' (.inr ⟨z, rfl, rfl⟩)
        rw [show accVI (some (id', accLI (some z) ++ [x])) = .vec id' 1 0 (z.2.length + [x].length) from by simp [accVI, accLI]] at hg
        obtain ⟨g1, g2⟩ := hg
        subst hlp
        exact ⟨rfl, _, StSub.refl _, g1, g2⟩
  · rintro idl S hidl ⟨b, hp, hb, ho⟩
    have hbx := hb.box
    cases b with
    | none =>
      (try (apply wO pk; exact rfl)); (repeat' (first | exact All.nil | refine All.cons ?_ ?_ | (apply wC pk; exact rfl; exact rfl) | (apply wE pk; exact rfl; exact rfl) | (apply wX pk; exact rfl) | (apply wN pk; exact rfl) | (apply wDx pk; exact rfl; kernel_rfl; exact rfl; exact rfl) | exact Imp.one | exact Imp.same | refine Imp.left ?_ | exact ImpX.one | exact ImpX.same | exact ImpX.mk | refine ImpX.up ?_ | refine ImpX.old ?_ | (apply pwp_condC; simp only [cond_true, cond_false]) | (refine pwp_cond rfl (fun h => ?_) (fun h => ?_) <;> (try simp at h) <;> (first | done | (exfalso; omega) | skip)) | ((try refine pwp_ret ?_); (first | (refine ⟨_, _, _, rfl, Wk.refl _, StSub.refl _, ?_⟩; (exact ⟨none, rfl, hp, fun _ e => (by cases e), ho⟩); done) | (refine ⟨_, _, ?zs, rfl, Wk.refl _, ?zh, ?zr⟩; (case zh => (refine stsub_over ?_ (by assumption); (repeat refine stsub_over ?_ (by assumption)); exact StSub.refl _)); (case zr => (exact ⟨none, rfl, hp, fun _ e => (by cases e), ho⟩))) | refine ⟨_, _, _, rfl, Wk.refl _, StSub.refl _, ?_⟩)) | (apply ncA; exact rfl; exact rfl; exact rfl; rotate_left; exact rfl; exact rfl) | (apply ldR pk; exact rfl; exact rfl; rotate_left; exact rfl; (first | exact upd_same _ _ _ | assumption | (focus ((repeat (first | exact upd_same _ _ _ | assumption | refine (upd_ne (by assumption)).trans ?_)); done))); exact rfl; exact rfl) | (apply stR pk; exact rfl; exact rfl; (first | exact upd_same _ _ _ | assumption | (focus ((repeat (first | exact upd_same _ _ _ | assumption | refine (upd_ne (by assumption)).trans ?_)); done))); exact rfl; exact rfl) | (apply ldR pk; exact rfl; exact rfl; rotate_left; exact rfl; exact hbx; exact rfl; exact rfl) | (intros; omega) | (intros; simp only [List.length_map]; omega)))
    | some z =>
      have hz := hb.arr z rfl
      have hst : st z.1 = none := Decidable.byContradiction fun q => hz.2 q
      (try (apply wO pk; exact rfl)); (repeat' (first | exact All.nil | refine All.cons ?_ ?_ | (apply wC pk; exact rfl; exact rfl) | (apply wE pk; exact rfl; exact rfl) | (apply wX pk; exact rfl) | (apply wN pk; exact rfl) | (apply wDx pk; exact rfl; kernel_rfl; exact rfl; exact rfl) | exact Imp.one | exact Imp.same | refine Imp.left ?_ | exact ImpX.one | exact ImpX.same | exact ImpX.mk | refine ImpX.up ?_ | refine ImpX.old ?_ | (apply pwp_condC; simp only [cond_true, cond_false]) | (refine pwp_cond rfl (fun h => ?_) (fun h => ?_) <;> (try simp at h) <;> (first | done | (exfalso; omega) | skip)) | ((try refine pwp_ret ?_); (first | (refine ⟨_, _, _, rfl, Wk.refl _, StSub.refl _, ?_⟩; (exact ⟨some z, rfl, hp, fun _ e => (by cases e; exact ⟨hz.1, hst⟩), ho⟩); done) | (refine ⟨_, _, ?zs, rfl, Wk.refl _, ?zh, ?zr⟩; (case zh => (refine stsub_over ?_ (by assumption); (repeat refine stsub_over ?_ (by assumption)); exact StSub.refl _)); (case zr => (exact ⟨some z, rfl, hp, fun _ e => (by cases e; exact ⟨hz.1, hst⟩), ho⟩))) | refine ⟨_, _, _, rfl, Wk.refl _, StSub.refl _, ?_⟩)) | (apply ncA; exact rfl; exact rfl; exact rfl; rotate_left; exact rfl; exact rfl) | (apply ldR pk; exact rfl; exact rfl; rotate_left; exact rfl; (first | exact upd_same _ _ _ | assumption | (focus ((repeat (first | exact upd_same _ _ _ | assumption | refine (upd_ne (by assumption)).trans ?_)); done))); exact rfl; exact rfl) | (apply stR pk; exact rfl; exact rfl; (first | exact upd_same _ _ _ | assumption | (focus ((repeat (first | exact upd_same _ _ _ | assumption | refine (upd_ne (by assumption)).trans ?_)); done))); exact rfl; exact rfl) | (apply ldR pk; exact rfl; exact rfl; rotate_left; exact rfl; exact hbx; exact rfl; exact rfl) | (intros; omega) | (intros; simp only [List.length_map]; omega)))
end Go.Proofs.Ytbcdgocepnkpeaa
namespace Go.Proofs.Ytbcdgocepnkpeaa
open Go Go.Abs
attribute [local irreducible] Ev PWp
set_option maxRecDepth 10000
set_option maxHeartbeats 4000000
theorem collect_pc (es : List (Int × (Nat × Nat))) (hlen : es.length ≤ 100000) (st : Store) : PC Try.prog 45 [seqF es] st fun r S => ∃ b, r = accVI b ∧ (accLI b).Perm (es.map (·.1)) ∧ (∀ y, b = some y → S y.1 = some (.arr 3 (y.2.map I1)) ∧ st y.1 = none) ∧ ∀ j, st j ≠ none → S j = st j := by
  have ha := appSeq_pc es hlen st
  unfold seqF at *
  refine pc_of tt_ok Try.func45 (by kernel_rfl) rfl rfl rfl rfl ?_
  (try (apply wO pk; exact rfl)); (repeat' (first | exact All.nil | refine All.cons ?_ ?_ | (apply wC pk; exact rfl; exact rfl) | (apply wE pk; exact rfl; exact rfl) | (apply wX pk; exact rfl) | (apply wN pk; exact rfl) | (apply wDx pk; exact rfl; kernel_rfl; exact rfl; exact rfl) | exact Imp.one | exact Imp.same | refine Imp.left ?_ | exact ImpX.one | exact ImpX.same | exact ImpX.mk | refine ImpX.up ?_ | refine ImpX.old ?_ | (apply pwp_condC; simp only [cond_true, cond_false]) | (refine pwp_cond rfl (fun h => ?_) (fun h => ?_) <;> (try simp at h) <;> (first | done | (exfalso; omega) | skip)) | ((try refine pwp_ret ?_); (first | (refine ⟨_, _, _, rfl, Wk.refl _, StSub.refl _, ?_⟩; (exact ⟨b, rfl, hp, hb, ho⟩); done) | (refine ⟨_, _, ?zs, rfl, Wk.refl _, ?zh, ?zr⟩; (case zh => (refine stsub_over ?_ (by assumption); (repeat refine stsub_over ?_ (by assumption)); exact StSub.refl _)); (case zr => (exact ⟨b, rfl, hp, hb, ho⟩))) | refine ⟨_, _, _, rfl, Wk.refl _, StSub.refl _, ?_⟩)) | (apply ncA; exact rfl; exact rfl; exact rfl; rotate_left; exact rfl; exact rfl) | (apply ldR pk; exact rfl; exact rfl; rotate_left; exact rfl; (first | exact upd_same _ _ _ | assumption | (focus ((repeat (first | exact upd_same _ _ _ | assumption | refine (upd_ne (by assumption)).trans ?_)); done))); exact rfl; exact rfl) | (apply stR pk; exact rfl; exact rfl; (first | exact upd_same _ _ _ | assumption | (focus ((repeat (first | exact upd_same _ _ _ | assumption | refine (upd_ne (by assumption)).trans ?_)); done))); exact rfl; exact rfl) | (apply callN; exact rfl; exact rfl; exact ha; exact rfl; exact rfl; exact rfl; rintro _ S ⟨b, rfl, hp, hb, ho⟩) | (intros; omega) | (intros; simp only [List.length_map]; omega)))
theorem sortI2_pc (zs : List Int) {st : Store} {id n : Nat} (hst : st id = some (.arr 3 (zs.map I1))) (hn : zs.length = n) (h62 : n < 4611686018427387904) :
    PC Try.prog 46 [.vec id 1 0 n] st fun _ S => S = upd st id (some (.arr 3 ((zs.mergeSort fun x y => decide (x ≤ y)).map I1))) :=
  sortI_pc (P := Try.prog) layI (by kernel_rfl) (by kernel_rfl) hst hn h62
theorem sorted_pc (es : List (Int × (Nat × Nat))) (hlen : es.length ≤ 100000) (st : Store) : PC Try.prog 40 [seqF es] st fun r S => ∃ ks : List Int, r = .seq (ks.map I1) ∧ ks.Perm (es.map (·.1)) ∧ ks.Pairwise (· ≤ ·) ∧ S = st := by
  have ha := collect_pc es hlen st
  unfold seqF at *
  refine pc_of tt_ok Try.func40 (by kernel_rfl) rfl rfl rfl rfl ?_
  (try (apply wO pk; exact rfl)); (repeat' (first | exact All.nil | refine All.cons ?_ ?_ | (apply wC pk; exact rfl; exact rfl) | (apply wE pk; exact rfl; exact rfl) | (apply wX pk; exact rfl) | (apply wN pk; exact rfl) | (apply wD pk [] []; kernel_rfl; exact rfl; exact rfl) | exact Imp.one | exact Imp.same | refine Imp.left ?_ | exact ImpX.one | exact ImpX.same | exact ImpX.mk | refine ImpX.up ?_ | refine ImpX.old ?_ | (apply pwp_condC; simp only [cond_true, cond_false]) | (refine pwp_cond rfl (fun h => ?_) (fun h => ?_) <;> (try simp at h) <;> (first | done | (exfalso; omega) | skip)) | (refine pwp_ret ?_; refine ⟨_, _, _, rfl, Wk.refl _, StSub.refl _, ?_, rfl⟩; (first | rfl | skip)) | (apply callN; exact rfl; exact rfl; exact ha; exact rfl; exact rfl; exact rfl; rintro _ S ⟨b, rfl, hp, hb, ho⟩; cases b) | (intros; omega) | (intros; simp only [List.length_map]; omega)))
  · apply ev_zeroVec 6 1 3
    · exact rfl
    intro idZ hZ
    have hZ : S idZ = none := hZ
    have hso := sortI2_pc [] (st := upd S idZ (some (.arr 3 []))) (id := idZ) (n := 0) (upd_same _ _ _) rfl (by decide)
    (try (apply wO pk; exact rfl)); (repeat' (first | exact All.nil | refine All.cons ?_ ?_ | (apply wC pk; exact rfl; exact rfl) | (apply wE pk; exact rfl; exact rfl) | (apply wX pk; exact rfl) | (apply wN pk; exact rfl) | (apply wDx pk; exact rfl; kernel_rfl; exact rfl; exact rfl) | exact Imp.one | exact Imp.same | refine Imp.left ?_ | exact ImpX.one | exact ImpX.same | exact ImpX.mk | refine ImpX.up ?_ | refine ImpX.old ?_ | (apply pwp_condC; simp only [cond_true, cond_false]) | (refine pwp_cond rfl (fun h => ?_) (fun h => ?_) <;> (try simp at h) <;> (first | done | (exfalso; omega) | skip)) | (refine pwp_ret ?_; refine ⟨_, _, _, rfl, Wk.refl _, StSub.refl _, ?_, rfl⟩; (first | rfl | skip)) | (apply ncA; exact rfl; exact rfl; exact rfl; rotate_left; exact rfl; exact rfl) | (apply ldR pk; exact rfl; exact rfl; rotate_left; exact rfl; (first | exact upd_same _ _ _ | assumption | (focus ((repeat (first | exact upd_same _ _ _ | assumption | refine (upd_ne (by assumption)).trans ?_)); done))); exact rfl; exact rfl) | (apply stR pk; exact rfl; exact rfl; (first | exact upd_same _ _ _ | assumption | (focus ((repeat (first | exact upd_same _ _ _ | assumption | refine (upd_ne (by assumption)).trans ?_)); done))); exact rfl; exact rfl) | (apply callP; exact rfl; exact rfl; (apply hso <;> first | exact upd_same _ _ _ | assumption | omega | (first | exact upd_same _ _ _ | assumption | (focus ((repeat (first | exact upd_same _ _ _ | assumption | refine (upd_ne (by assumption)).trans ?_)); done)))); exact rfl; exact rfl; exact rfl; intro _ st' hR; obtain rfl := hR) | (apply callP; exact rfl; exact rfl; (first | (apply fail_no_spec <;> first | exact upd_same _ _ _ | assumption | omega | (simp only [Array.size_setIfInBounds]; omega) | (first | exact upd_same _ _ _ | assumption | (focus ((repeat (first | exact upd_same _ _ _ | assumption | refine (upd_ne (by assumption)).trans ?_)); done))))); exact rfl; exact rfl; exact rfl; intro _ st' hR; (first | subst hR | obtain ⟨rfl, rfl⟩ := hR)) | (intros; omega) | (intros; simp only [List.length_map]; omega)))
    refine pwp_ret ?_
    refine ⟨_, .seq [], st, rfl, Wk.nil, fun j => ?_, [], rfl, hp, List.Pairwise.nil, rfl⟩
    by_cases hj : st j = none
    · exact .inl hj
    · have hjZ : j ≠ idZ := fun e => by rw [← e, ho j hj] at hZ; exact hj hZ
      exact .inr (((upd_ne hjZ).trans ((upd_ne hjZ).trans (ho j hj))).symm)
  · rename_i z
    obtain ⟨hz1, hz2⟩ := hb z rfl
    have hzl : z.2.length ≤ 100000 := by
      have := hp.length_eq
      rw [List.length_map] at this
      have e : accLI (some z) = z.2 := rfl
      rw [e] at this; omega
    have hso := sortI2_pc z.2 (st := S) (id := z.1) (n := z.2.length) hz1 rfl (by omega)
    (try (apply wO pk; exact rfl)); (repeat' (first | exact All.nil | refine All.cons ?_ ?_ | (apply wC pk; exact rfl; exact rfl) | (apply wE pk; exact rfl; exact rfl) | (apply wX pk; exact rfl) | (apply wN pk; exact rfl) | (apply wDx pk; exact rfl; kernel_rfl; exact rfl; exact rfl) | exact Imp.one | exact Imp.same | refine Imp.left ?_ | exact ImpX.one | exact ImpX.same | exact ImpX.mk | refine ImpX.up ?_ | refine ImpX.old ?_ | (apply pwp_condC; simp only [cond_true, cond_false]) | (refine pwp_cond rfl (fun h => ?_) (fun h => ?_) <;> (try simp at h) <;> (first | done | (exfalso; omega) | skip)) | (refine pwp_ret ?_; refine ⟨_, _, _, rfl, Wk.refl _, StSub.refl _, ?_, rfl⟩; (first | rfl | skip)) | (apply ncA; exact rfl; exact rfl; exact rfl; rotate_left; exact rfl; exact rfl) | (apply ldR pk; exact rfl; exact rfl; rotate_left; exact rfl; (first | exact upd_same _ _ _ | assumption | (focus ((repeat (first | exact upd_same _ _ _ | assumption | refine (upd_ne (by assumption)).trans ?_)); done))); exact rfl; exact rfl) | (apply stR pk; exact rfl; exact rfl; (first | exact upd_same _ _ _ | assumption | (focus ((repeat (first | exact upd_same _ _ _ | assumption | refine (upd_ne (by assumption)).trans ?_)); done))); exact rfl; exact rfl) | (apply callP; exact rfl; exact rfl; (apply hso <;> first | exact upd_same _ _ _ | assumption | omega | (first | exact upd_same _ _ _ | assumption | (focus ((repeat (first | exact upd_same _ _ _ | assumption | refine (upd_ne (by assumption)).trans ?_)); done)))); exact rfl; exact rfl; exact rfl; intro _ st' hR; obtain rfl := hR) | (apply callP; exact rfl; exact rfl; (first | (apply fail_no_spec <;> first | exact upd_same _ _ _ | assumption | omega | (simp only [Array.size_setIfInBounds]; omega) | (first | exact upd_same _ _ _ | assumption | (focus ((repeat (first | exact upd_same _ _ _ | assumption | refine (upd_ne (by assumption)).trans ?_)); done))))); exact rfl; exact rfl; exact rfl; intro _ st' hR; (first | subst hR | obtain ⟨rfl, rfl⟩ := hR)) | (intros; omega) | (intros; simp only [List.length_map]; omega)))
    apply pwp_freezeV 2
    · exact rfl
    · exact upd_same _ _ _
    · kernel_rfl
    · rw [List.length_map, List.length_mergeSort]
    refine pwp_ret ?_
    refine ⟨_, .seq ((z.2.mergeSort fun x y => decide (x ≤ y)).map I1), st, rfl, Wk.refl _, fun j => ?_, _, rfl, (List.mergeSort_perm _ _).trans hp, ?_, rfl⟩
    · by_cases hj : st j = none
      · exact .inl hj
      · have hjz : j ≠ z.1 := fun e => hj (by rw [e]; exact hz2)
        exact .inr (((upd_ne hjz).trans ((upd_ne hjz).trans (ho j hj))).symm)
    · have := List.pairwise_mergeSort (le := fun x y : Int => decide (x ≤ y)) (fun a b c h1 h2 => by simp at *; omega) (fun a b => by simp; omega) z.2
      exact this.imp fun {a b} h => by simpa using h
end Go.Proofs.Ytbcdgocepnkpeaa
