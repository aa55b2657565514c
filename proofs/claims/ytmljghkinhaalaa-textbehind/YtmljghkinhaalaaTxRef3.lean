import Derived.Test.YtmljghkinhaalaaTxRef2
set_option linter.unusedSimpArgs false
set_option linter.unusedVariables false
namespace Go.Proofs.Ytmljghkinhaalaa
open Go Go.Abs
attribute [local irreducible] Ev PWp
set_option maxRecDepth 10000
set_option maxHeartbeats 4000000
theorem Anc.pre {l : List Pt} {p : Pt} {s : List Pt} (h : Anc l p s) : ∀ (c : Nat) (hc : c < s.length), Anc l s[c] (s.take (c + 1)) := by
  induction h with
  | root hp h0 => intro c hc; have : c = 0 := by simpa using hc
                  subst this; exact .root hp h0
  | @step p u r hp hu e h0 h ih =>
    intro c hc
    by_cases h1 : c < r.length
    · have := ih c h1
      rw [List.getElem_append_left h1, List.take_append_of_le_length (by omega)]; exact this
    · have : c = r.length := by simp at hc; omega
      subst this
      rw [List.take_of_length_le (by simp)]
      simp only [List.getElem_append_right (Nat.le_refl _), Nat.sub_self, List.getElem_singleton]
      exact .step hp hu e h0 h
theorem Anc.par {l : List Pt} {p : Pt} {s : List Pt} (h : Anc l p s) : ∀ (c : Nat) (hc : c < s.length), (c = 0 → parentOf s[c] = Nm.zero) ∧ ∀ (h0 : 0 < c), parentOf s[c] = nameOf (s[c - 1]'(by omega)) ∧ parentOf s[c] ≠ Nm.zero := by
  intro c hc
  have hA := h.pre c hc
  generalize he : s.take (c + 1) = t at hA
  have hlen : t.length = c + 1 := by rw [← he, List.length_take]; omega
  have hq : s[c] = s[c] := rfl
  cases hA with
  | root _ h0 => exact ⟨fun _ => h0, fun h1 => by simp at hlen; omega⟩
  | @step _ u r hp hu e h0 h' =>
    simp only [List.length_append, List.length_singleton] at hlen
    refine ⟨fun h1 => ?_, fun h1 => ⟨?_, h0⟩⟩
    · subst h1
      obtain ⟨q, hq⟩ := h'.last
      rw [hq] at hlen; simp at hlen
    · rw [← e]
      obtain ⟨q, hq⟩ := h'.last
      have h2 : r[c - 1]? = some u := by rw [hq, List.getElem?_append_right (by rw [hq] at hlen; simp at hlen; omega)]; rw [hq] at hlen; simp at hlen; simp [show c - 1 - q.length = 0 by omega]
      have h3 : (s.take (c + 1))[c - 1]? = some u := by rw [he, List.getElem?_append_left (by omega)]; exact h2
      rw [List.getElem?_take, if_pos (by omega), List.getElem?_eq_getElem (by omega)] at h3
      injection h3 with h3
      rw [h3]
theorem lex_at : ∀ {s t : List Pt} (c : Nat) (hs : c < s.length) (ht : c < t.length), s.take c = t.take c → s[c] ≠ t[c] → (lexLt s t ↔ kinLt s[c] t[c])
  | [], _, _, hs, _, _, _ => by simp at hs
  | _ :: _, [], _, _, ht, _, _ => by simp at ht
  | a :: s, b :: t, 0, _, _, _, h => by
    simp only [List.getElem_cons_zero] at h ⊢
    simp only [lexLt]; constructor
    · rintro (⟨e, _⟩ | e)
      · exact absurd e h
      · exact e
    · exact .inr
  | a :: s, b :: t, c + 1, hs, ht, he, h => by
    simp only [List.take_succ_cons, List.cons.injEq] at he
    simp only [List.getElem_cons_succ] at h ⊢
    have := lex_at c (by simpa using hs) (by simpa using ht) he.2 h
    simp only [lexLt]
    rw [← this, he.1]
    constructor
    · rintro (⟨_, k⟩ | k)
      · exact k
      · exact absurd k (kinLt_irr b)
    · exact fun k => .inl ⟨rfl, k⟩
theorem lex_pre : ∀ {s t : List Pt}, (∃ m, s.take m = t.take m ∧ (m = s.length ∧ m ≤ t.length ∨ m = t.length ∧ m ≤ s.length)) → (lexLt s t ↔ s.length < t.length)
  | [], [], _ => by simp [lexLt]
  | [], b :: t, _ => by simp [lexLt]
  | a :: s, [], _ => by simp [lexLt]
  | a :: s, b :: t, ⟨m, he, hm⟩ => by
    cases m with
    | zero => simp at hm
    | succ m =>
      simp only [List.take_succ_cons, List.cons.injEq] at he
      simp only [List.length_cons] at hm ⊢
      have := lex_pre (s := s) (t := t) ⟨m, he.2, by omega⟩
      simp only [lexLt, he.1]
      constructor
      · rintro (⟨_, k⟩ | k)
        · have := this.1 k; omega
        · exact absurd k (kinLt_irr b)
      · intro k; exact .inl ⟨trivial, this.2 (by omega)⟩
theorem idx_uniq {l : List Pt} (hn : (l.map nameOf).Nodup) {i j : Nat} (hi : i < l.length) (hj : j < l.length) (e : l[i] = l[j]) : i = j := by
  have h1 := atP_self hn hi
  have h2 := atP_self hn hj
  rw [e, h2] at h1
  omega
theorem Anc.len {l : List Pt} (hW : Whole l) {p : Pt} {s : List Pt} (h : Anc l p s) : s.length ≤ (l.filter fun q => aheadP q p).length + 1 := by
  induction h with
  | root => simp
  | @step p u r hp hu e h0 h ih =>
    rw [List.length_append, List.length_singleton]
    obtain ⟨v, hv, e2, ha⟩ := (hW.up p hp).resolve_left h0
    have : u = v := hW.named u hu v hv (by rw [e, e2])
    subst this
    have := filter_lt (f := fun q => aheadP q u) (g := fun q => aheadP q p) (a := u) hu ha (by rw [← Bool.not_eq_true, ahead_iff]; omega) fun q _ hq => by
      rw [ahead_iff] at ha hq ⊢; omega
    omega
theorem Anc.le {l : List Pt} (hW : Whole l) {p : Pt} {s : List Pt} (h : Anc l p s) : s.length ≤ l.length + 1 := by
  have := h.len hW
  have := List.length_filter_le (fun q => aheadP q p) l
  omega
theorem rdepth_spec {l : List Pt} (hW : Whole l) (hl : l.length < 1000000000000) {i : Nat} (hi : i < l.length) {s : List Pt} (hs : Anc l (l[i]'hi) s) : PF Try.prog 46 [.seq (l.map Pt.cells), (PV.val (Value.int .i64 ((i : Nat))))] (PV.val (Value.int .i64 ((s.length : Int) - 1))) := by
  have hsl := hs.le hW
  refine pf_of tt_ok Try.func46 (by kernel_rfl) rfl rfl rfl rfl (fun st => ?_)
  (try (apply wO pk; exact rfl)); (repeat' (first | exact All.nil | refine All.cons ?_ ?_ | (apply wC pk; exact rfl; exact rfl) | (apply wE pk; exact rfl; exact rfl) | (apply wX pk; exact rfl) | (apply wN pk; exact rfl) | (apply wD pk [] []; kernel_rfl; exact rfl; exact rfl) | exact Imp.one | exact Imp.same | refine Imp.left ?_ | exact ImpX.one | exact ImpX.same | exact ImpX.mk | refine ImpX.up ?_ | refine ImpX.old ?_ | (apply pwp_condC; simp only [cond_true, cond_false]) | (refine pwp_cond rfl (fun h => ?_) (fun h => ?_) <;> (try simp at h) <;> (first | done | (exfalso; omega) | skip)) | (refine pwp_ret ?_; refine ⟨_, _, _, rfl, Wk.refl _, StSub.refl _, ?_, rfl⟩; (first | rfl | skip)) | (intros; omega) | (intros; simp only [List.length_map]; omega)))
  refine pwp_loop (X := { x : Nat × List Pt × Nat // (∃ h : x.1 < l.length, Anc l l[x.1] x.2.1) ∧ x.2.1.length + x.2.2 = s.length }) (fun i => ((((St.nil 28 st).pv 0 (.seq (l.map Pt.cells))).pv 1 ((PV.val (Value.int .i64 ((i.1.1 : Nat)))))).pv 5 ((PV.val (Value.int .i64 ((i.1.2.2 : Nat))))))) (fun i => s.length - i.1.2.2) ⟨(i, s, 0), ⟨hi, hs⟩, by simp⟩ ?_ (fun i => ?_)
  · (first | exact Sub.nil _ _ _ (StSub.refl _) rfl | ((repeat (first | refine Sub.pv ?_ rfl | refine Sub.var ?_ rfl rfl)); (first | exact Sub.nil _ _ _ (StSub.refl _) rfl | exact Sub.nil _ _ _ (stsub_swap (by assumption)) rfl | exact Sub.nil _ _ _ (stsub_eq (by first | rfl | exact upd_eta (by assumption) | ((simp only [St.pv, St.put, St.sst, St.setv, St.nil, St.var, upd_upd]); first | done | rfl))) rfl | (refine Sub.nil _ _ _ (stsub_eq ?_) rfl; (simp only [St.pv, St.put, St.sst, St.setv, St.nil, St.var, upd_upd]); (rw [upd4 (by assumption)]); first | done | rfl))))
  obtain ⟨⟨j, t, n⟩, ⟨hj, hA⟩, hlen⟩ := i
  simp only at hj hA hlen
  dsimp only
  have hz : (l[j]'hj).after = Dt.zero ↔ (l[j]'hj).after.dev = 0 ∧ (l[j]'hj).after.seq = 0 := Dt.ext_iff _ _
  have hr := root_iff (hW.formed _ (List.getElem_mem hj))
  have hup := rat_spec l (l[j]'hj).after (l[j]'hj).afterAt hl
  generalize hq : l[j]'hj = q at hA
  cases hA with
  | root hp h0 =>
    obtain ⟨h1, h2⟩ := hz.1 (hr.2 (by rw [hq]; exact h0))
    simp only [List.length_singleton] at hlen
    have hlen2 : (n : Int) = (s.length : Int) - 1 := by omega
    (try (apply wO pk; exact rfl)); (repeat' (first | exact All.nil | refine All.cons ?_ ?_ | (apply wC pk; exact rfl; exact rfl) | (apply wE pk; exact rfl; exact rfl) | (apply wX pk; exact rfl) | (apply wN pk; exact rfl) | (apply wD pk [] []; kernel_rfl; exact rfl; exact rfl) | exact Imp.one | exact Imp.same | refine Imp.left ?_ | exact ImpX.one | exact ImpX.same | exact ImpX.mk | refine ImpX.up ?_ | refine ImpX.old ?_ | (apply pwp_condC; simp only [cond_true, cond_false]) | (refine pwp_cond rfl (fun h => ?_) (fun h => ?_) <;> (try simp at h) <;> (first | done | (exfalso; omega) | skip)) | (refine pwp_ret ?_; refine ⟨_, _, _, rfl, Wk.refl _, StSub.refl _, ?_, rfl⟩; (first | rfl | ((rw [hlen2]); done) | skip)) | (apply idxS pk; exact rfl; exact rfl; exact rfl; exact rfl; exact rfl; exact rfl; rotate_left; exact rfl; (intro _; exact rfl); (intro _; apply get_map <;> omega); (intro _; exact rfl); exact rfl) | (intros; omega) | (intros; simp only [List.length_map]; omega)))
  | @step _ u r hp hu e h0 h =>
    obtain ⟨k, hk, rfl⟩ := List.getElem_of_mem hu
    have hat := atP_self hW.nodup hk
    have hne : (l[j]'hj).after.dev ≠ 0 ∨ (l[j]'hj).after.seq ≠ 0 := by
      have : ¬ (l[j]'hj).after = Dt.zero := by rw [hr, hq]; exact h0
      rw [hz] at this
      omega
    rw [show (⟨(l[j]'hj).after, (l[j]'hj).afterAt⟩ : Nm) = parentOf (l[j]'hj) from rfl, hq, ← e, hat, ← hq] at hup
    simp only [List.length_append, List.length_singleton] at hlen
    have hH := h
    (try (apply wO pk; exact rfl)); (repeat' (first | exact All.nil | refine All.cons ?_ ?_ | (apply wC pk; exact rfl; exact rfl) | (apply wE pk; exact rfl; exact rfl) | (apply wX pk; exact rfl) | (apply wN pk; exact rfl) | (apply wD pk [] []; kernel_rfl; exact rfl; exact rfl) | exact Imp.one | exact Imp.same | refine Imp.left ?_ | exact ImpX.one | exact ImpX.same | exact ImpX.mk | refine ImpX.up ?_ | refine ImpX.old ?_ | (apply pwp_condC; simp only [cond_true, cond_false]) | (refine pwp_cond rfl (fun h => ?_) (fun h => ?_) <;> (try simp at h) <;> (first | done | (exfalso; omega) | skip)) | (refine pwp_ret ?_; refine ⟨_, _, _, rfl, Wk.refl _, StSub.refl _, ?_, rfl⟩; (first | rfl | skip)) | (apply callS; exact rfl; exact rfl; exact rfl; (intro _; first | (apply hup <;> first | assumption | omega)); rotate_left; exact rfl; exact rfl) | (apply callV; exact rfl; exact rfl; exact rfl; (intro _; first | (apply hup <;> first | assumption | omega)); rotate_left; exact rfl; exact rfl) | (apply idxS pk; exact rfl; exact rfl; exact rfl; exact rfl; exact rfl; exact rfl; rotate_left; exact rfl; (intro _; exact rfl); (intro _; apply get_map <;> omega); (intro _; exact rfl); exact rfl) | (refine ⟨⟨(k, r, n + 1), ⟨hk, hH⟩, by simp only; omega⟩, ?_, by simp only; omega⟩; (first | exact Sub.nil _ _ _ (StSub.refl _) rfl | ((repeat (first | refine Sub.pv ?_ rfl | refine Sub.var ?_ rfl rfl)); (first | exact Sub.nil _ _ _ (StSub.refl _) rfl | exact Sub.nil _ _ _ (stsub_swap (by assumption)) rfl | exact Sub.nil _ _ _ (stsub_eq (by first | rfl | exact upd_eta (by assumption) | ((simp only [St.pv, St.put, St.sst, St.setv, St.nil, St.var, upd_upd]); first | done | rfl))) rfl | (refine Sub.nil _ _ _ (stsub_eq ?_) rfl; (simp only [St.pv, St.put, St.sst, St.setv, St.nil, St.var, upd_upd]); (rw [upd4 (by assumption)]); first | done | rfl))))) | (intros; omega) | (intros; simp only [List.length_map]; omega)))
theorem rup_spec {l : List Pt} (hW : Whole l) (hl : l.length < 1000000000000) {i : Nat} (hi : i < l.length) {s : List Pt} (hs : Anc l (l[i]'hi) s) (m : Nat) (hm : m < s.length) (j : Nat) (hj : j < l.length) (e : s[s.length - 1 - m]'(by omega) = l[j]) : PF Try.prog 47 [.seq (l.map Pt.cells), (PV.val (Value.int .i64 ((i : Nat)))), (PV.val (Value.int .i64 ((m : Nat))))] (PV.val (Value.int .i64 ((j : Nat)))) := by
  have hsl := hs.le hW
  refine pf_of tt_ok Try.func47 (by kernel_rfl) rfl rfl rfl rfl (fun st => ?_)
  (try (apply wO pk; exact rfl)); (repeat' (first | exact All.nil | refine All.cons ?_ ?_ | (apply wC pk; exact rfl; exact rfl) | (apply wE pk; exact rfl; exact rfl) | (apply wX pk; exact rfl) | (apply wN pk; exact rfl) | (apply wD pk [] []; kernel_rfl; exact rfl; exact rfl) | exact Imp.one | exact Imp.same | refine Imp.left ?_ | exact ImpX.one | exact ImpX.same | exact ImpX.mk | refine ImpX.up ?_ | refine ImpX.old ?_ | (apply pwp_condC; simp only [cond_true, cond_false]) | (refine pwp_cond rfl (fun h => ?_) (fun h => ?_) <;> (try simp at h) <;> (first | done | (exfalso; omega) | skip)) | (refine pwp_ret ?_; refine ⟨_, _, _, rfl, Wk.refl _, StSub.refl _, ?_, rfl⟩; (first | rfl | skip)) | (intros; omega) | (intros; simp only [List.length_map]; omega)))
  refine pwp_loop (X := { x : Nat × Nat // (∃ h : x.1 < l.length, l[x.1] = s[s.length - 1 - x.2]'(by omega)) ∧ x.2 ≤ m }) (fun i => (((((St.nil 26 st).pv 0 (.seq (l.map Pt.cells))).pv 1 ((PV.val (Value.int .i64 ((i.1.1 : Nat)))))).pv 2 ((PV.val (Value.int .i64 ((m : Nat)))))).pv 7 ((PV.val (Value.int .i64 ((i.1.2 : Nat))))))) (fun i => m - i.1.2) ⟨(i, 0), ⟨hi, by obtain ⟨r, hr⟩ := hs.last; simp [hr]⟩, by simp⟩ ?_ (fun i => ?_)
  · (first | exact Sub.nil _ _ _ (StSub.refl _) rfl | ((repeat (first | refine Sub.pv ?_ rfl | refine Sub.var ?_ rfl rfl)); (first | exact Sub.nil _ _ _ (StSub.refl _) rfl | exact Sub.nil _ _ _ (stsub_swap (by assumption)) rfl | exact Sub.nil _ _ _ (stsub_eq (by first | rfl | exact upd_eta (by assumption) | ((simp only [St.pv, St.put, St.sst, St.setv, St.nil, St.var, upd_upd]); first | done | rfl))) rfl | (refine Sub.nil _ _ _ (stsub_eq ?_) rfl; (simp only [St.pv, St.put, St.sst, St.setv, St.nil, St.var, upd_upd]); (rw [upd4 (by assumption)]); first | done | rfl))))
  obtain ⟨⟨k, n⟩, ⟨hk, hA⟩, hn⟩ := i
  simp only at hk hA hn
  dsimp only
  have hup := rat_spec l (l[k]'hk).after (l[k]'hk).afterAt hl
  by_cases hnm : n < m
  · obtain ⟨h1, h2⟩ := (hs.par (s.length - 1 - n) (by omega)).2 (by omega)
    have hmem := hs.all _ (List.getElem_mem (show s.length - 1 - n - 1 < s.length by omega))
    obtain ⟨k2, hk2, hk2e⟩ := List.getElem_of_mem hmem
    have hat := atP_self hW.nodup hk2
    rw [show (⟨(l[k]'hk).after, (l[k]'hk).afterAt⟩ : Nm) = parentOf (l[k]'hk) from rfl, hA, h1, ← hk2e, hat] at hup
    rw [← hA] at hup
    (try (apply wO pk; exact rfl)); (repeat' (first | exact All.nil | refine All.cons ?_ ?_ | (apply wC pk; exact rfl; exact rfl) | (apply wE pk; exact rfl; exact rfl) | (apply wX pk; exact rfl) | (apply wN pk; exact rfl) | (apply wD pk [] []; kernel_rfl; exact rfl; exact rfl) | exact Imp.one | exact Imp.same | refine Imp.left ?_ | exact ImpX.one | exact ImpX.same | exact ImpX.mk | refine ImpX.up ?_ | refine ImpX.old ?_ | (apply pwp_condC; simp only [cond_true, cond_false]) | (refine pwp_cond rfl (fun h => ?_) (fun h => ?_) <;> (try simp at h) <;> (first | done | (exfalso; omega) | skip)) | (refine pwp_ret ?_; refine ⟨_, _, _, rfl, Wk.refl _, StSub.refl _, ?_, rfl⟩; (first | rfl | skip)) | (apply callS; exact rfl; exact rfl; exact rfl; (intro _; first | (apply hup <;> first | assumption | omega)); rotate_left; exact rfl; exact rfl) | (apply callV; exact rfl; exact rfl; exact rfl; (intro _; first | (apply hup <;> first | assumption | omega)); rotate_left; exact rfl; exact rfl) | (apply idxS pk; exact rfl; exact rfl; exact rfl; exact rfl; exact rfl; exact rfl; rotate_left; exact rfl; (intro _; exact rfl); (intro _; apply get_map <;> omega); (intro _; exact rfl); exact rfl) | (refine ⟨⟨(k2, n + 1), ⟨hk2, by simp only [hk2e]; congr 1⟩, by simp only; omega⟩, ?_, by simp only; omega⟩; (first | exact Sub.nil _ _ _ (StSub.refl _) rfl | ((repeat (first | refine Sub.pv ?_ rfl | refine Sub.var ?_ rfl rfl)); (first | exact Sub.nil _ _ _ (StSub.refl _) rfl | exact Sub.nil _ _ _ (stsub_swap (by assumption)) rfl | exact Sub.nil _ _ _ (stsub_eq (by first | rfl | exact upd_eta (by assumption) | ((simp only [St.pv, St.put, St.sst, St.setv, St.nil, St.var, upd_upd]); first | done | rfl))) rfl | (refine Sub.nil _ _ _ (stsub_eq ?_) rfl; (simp only [St.pv, St.put, St.sst, St.setv, St.nil, St.var, upd_upd]); (rw [upd4 (by assumption)]); first | done | rfl))))) | (intros; omega) | (intros; simp only [List.length_map]; omega)))
  · have : n = m := by omega
    subst this
    obtain rfl : k = j := idx_uniq hW.nodup hk hj (by rw [hA, e])
    (try (apply wO pk; exact rfl)); (repeat' (first | exact All.nil | refine All.cons ?_ ?_ | (apply wC pk; exact rfl; exact rfl) | (apply wE pk; exact rfl; exact rfl) | (apply wX pk; exact rfl) | (apply wN pk; exact rfl) | (apply wD pk [] []; kernel_rfl; exact rfl; exact rfl) | exact Imp.one | exact Imp.same | refine Imp.left ?_ | exact ImpX.one | exact ImpX.same | exact ImpX.mk | refine ImpX.up ?_ | refine ImpX.old ?_ | (apply pwp_condC; simp only [cond_true, cond_false]) | (refine pwp_cond rfl (fun h => ?_) (fun h => ?_) <;> (try simp at h) <;> (first | done | (exfalso; omega) | skip)) | (refine pwp_ret ?_; refine ⟨_, _, _, rfl, Wk.refl _, StSub.refl _, ?_, rfl⟩; (first | rfl | skip)) | (apply idxS pk; exact rfl; exact rfl; exact rfl; exact rfl; exact rfl; exact rfl; rotate_left; exact rfl; (intro _; exact rfl); (intro _; apply get_map <;> omega); (intro _; exact rfl); exact rfl) | (intros; omega) | (intros; simp only [List.length_map]; omega)))
end Go.Proofs.Ytmljghkinhaalaa
