import Derived.Test.YtbcdgocepnkpeaaGreatRfFn
set_option linter.unusedSimpArgs false
set_option linter.unusedVariables false
namespace Go.Proofs.YtbcdgocepnkpeaaGreat
open Go Go.Abs
attribute [local irreducible] Ev PWp
set_option maxRecDepth 10000
set_option maxHeartbeats 2000000
def ltR (a b : Rt) : Prop := a.kind < b.kind ∨ a.kind = b.kind ∧ (a.table < b.table ∨ a.table = b.table ∧ (a.col < b.col ∨ a.col = b.col ∧ a.lo < b.lo))
theorem ahead_iff0 (a b : Rt) : aheadB a b = true ↔ ltR a b := by
  unfold aheadB ltR
  repeat' split
  all_goals simp only [decide_eq_true_eq]
  all_goals omega
theorem ahead_bh {s : Sc} {d : Int} {a b : Rt} (ha : OkR s d a) : (aheadB a b = true ∧ ¬ (sameB a b = true ∧ (a.kind = 3 ∨ a.hi ≥ b.lo))) ↔ bh a b := by
  rw [ahead_iff0, same_iff]
  have := ha.span
  unfold ltR bh
  by_cases h3 : a.kind = 3
  · omega
  · have := this h3; omega
theorem clash_same (a b : Rt) : clashB a b = true ↔ ((sameB a b = true ∧ a.kind ≠ 3) ∧ a.lo < b.hi) ∧ b.lo < a.hi := by
  rw [same_iff]
  unfold clashB
  simp only [Bool.and_eq_true, decide_eq_true_eq]
  omega
structure CI (s : Sc) (o : List Ow) (i : Nat) : Prop where
  own : ∀ j (_ : j < i) (h : j < o.length), OkO s o[j]
  devs : ∀ j (_ : j + 1 < i) (h : j + 1 < o.length), o[j].dev < o[j + 1].dev
  apart : ∀ j j' (_ : j < j') (_ : j' < i) (h : j' < o.length), ∀ x ∈ o[j].rights, ∀ r ∈ o[j'].rights, clashB x r = false
theorem CI.fin {s : Sc} {o : List Ow} {i : Nat} (h : CI s o i) (hi : o.length ≤ i) : canonP s o = true := by
  rw [canon_iff]
  refine ⟨fun w hw => ?_, ?_, ?_⟩
  · obtain ⟨j, hj, rfl⟩ := List.getElem_of_mem hw
    exact h.own j (by omega) hj
  · rw [List.pairwise_iff_getElem]
    intro a b ha hb hab
    have : ∀ n, ∀ a (ha : a < o.length) (hb : a + n + 1 < o.length), o[a].dev < o[a + n + 1].dev := fun n => by
      induction n with
      | zero => intro a ha hb; exact h.devs a (by omega) hb
      | succ n ih => intro a ha hb; exact Int.lt_trans (ih a ha (by omega)) (h.devs (a + n + 1) (by omega) hb)
    have h2 := this (b - a - 1) a ha (by omega)
    simp only [show a + (b - a - 1) + 1 = b from by omega] at h2
    exact h2
  · rw [List.pairwise_iff_getElem]
    intro a b ha hb hab
    exact h.apart a b hab (by omega) hb
structure CK (s : Sc) (o : List Ow) (i : Nat) (hi : i < o.length) (k : Nat) : Prop where
  ok : ∀ n (_ : n < k) (h : n < (o[i]'hi).rights.length), OkR s (o[i]'hi).dev ((o[i]'hi).rights[n])
  srt : ∀ n m (_ : n < m) (_ : m < k) (h : m < (o[i]'hi).rights.length), bh ((o[i]'hi).rights[n]) ((o[i]'hi).rights[m])
  apart : ∀ j (_ : j < i), ∀ x ∈ (o[j]'(by omega)).rights, ∀ n (_ : n < k) (h : n < (o[i]'hi).rights.length), clashB x ((o[i]'hi).rights[n]) = false
theorem CK.step {s : Sc} {o : List Ow} {i : Nat} {hi : i < o.length} {k : Nat} (h : CK s o i hi k) (hk : k < o[i].rights.length) (h1 : OkR s o[i].dev o[i].rights[k]) (h2 : ∀ n (h : n < k), bh (o[i].rights[n]) (o[i].rights[k])) (h3 : ∀ j (h : j < i), ∀ x ∈ o[j].rights, clashB x o[i].rights[k] = false) : CK s o i hi (k + 1) := by
  refine ⟨fun n hn hl => ?_, fun n m hnm hm hl => ?_, fun j hj x hx n hn hl => ?_⟩
  · rcases Nat.lt_succ_iff_lt_or_eq.1 hn with q | q
    · exact h.ok n q hl
    · subst q; exact h1
  · rcases Nat.lt_succ_iff_lt_or_eq.1 hm with q | q
    · exact h.srt n m hnm q hl
    · subst q; exact h2 n hnm
  · rcases Nat.lt_succ_iff_lt_or_eq.1 hn with q | q
    · exact h.apart j hj x hx n q hl
    · subst q; exact h3 j hj x hx
theorem CI.step {s : Sc} {o : List Ow} {i k : Nat} (h : CI s o i) {hi : i < o.length} (hk : CK s o i hi k) (hl : o[i].rights.length ≤ k) (h1 : 1 ≤ o[i].dev ∧ o[i].dev ≤ 64) (h2 : o[i].rights ≠ []) (h3 : ∀ j (h : j < o.length) (_ : j + 1 = i), (o[j]'h).dev < o[i].dev) : CI s o (i + 1) := by
  refine ⟨fun j hj hl2 => ?_, fun j hj hl2 => ?_, fun j j' hjj hj' hl2 => ?_⟩
  · rcases Nat.lt_succ_iff_lt_or_eq.1 hj with q | q
    · exact h.own j q hl2
    · subst q
      refine ⟨h1, h2, fun r hr => ?_, ?_⟩
      · obtain ⟨n, hn, rfl⟩ := List.getElem_of_mem hr
        exact hk.ok n (by omega) hn
      · rw [List.pairwise_iff_getElem]
        intro a b ha hb hab
        exact hk.srt a b hab (by omega) hb
  · rcases Nat.lt_succ_iff_lt_or_eq.1 hj with q | q
    · exact h.devs j q hl2
    · subst q; exact h3 j _ rfl
  · rcases Nat.lt_succ_iff_lt_or_eq.1 hj' with q | q
    · exact h.apart j j' hjj q hl2
    · subst q
      intro x hx r hr
      obtain ⟨n, hn, rfl⟩ := List.getElem_of_mem hr
      exact hk.apart j hjj x hx n (by omega) hn
theorem rcanon_spec (s : Sc) (hs : FewS s) (o : List Ow) (hl : FewO o) : PF Tryz.prog 12 [.agg (scC s), .seq (o.map Ow.cells)] (PV.val (Value.bool (canonP s o))) := by
  have hlen := hl.len
  have hCO := canon_iff s o
  have hfin := fun i => CI.fin (s := s) (o := o) (i := i)
  have hno : ¬ CanonO s o → canonP s o = false := fun h => by rw [Bool.eq_false_iff]; exact fun q => h (hCO.1 q)
  generalize canonP s o = cp at *
  refine pf_of tt_ok Tryz.func12 (by kernel_rfl) rfl rfl rfl rfl (fun st => ?_)
  (try (apply wO pk; exact rfl)); (repeat' (first | exact All.nil | refine All.cons ?_ ?_ | (apply wC pk; exact rfl; exact rfl) | (apply wE pk; exact rfl; exact rfl) | (apply wX pk; exact rfl) | (apply wN pk; exact rfl) | (apply wD pk [] []; kernel_rfl; exact rfl; exact rfl) | exact Imp.one | exact Imp.same | refine Imp.left ?_ | exact ImpX.one | exact ImpX.same | exact ImpX.mk | refine ImpX.up ?_ | refine ImpX.old ?_ | (apply pwp_condC; simp only [cond_true, cond_false]) | (refine pwp_cond rfl (fun h => ?_) (fun h => ?_) <;> (try simp at h) <;> (first | done | (exfalso; omega) | skip)) | (refine pwp_ret ?_; refine ⟨_, _, _, rfl, Wk.refl _, StSub.refl _, ?_, rfl⟩; (first | rfl | skip)) | (intros; omega) | (intros; simp only [List.length_map]; omega)))
  refine pwp_loop (X := { x : Nat // x ≤ o.length ∧ CI s o x }) (fun i => ((((St.nil 161 st).pv 1 (.seq (o.map Ow.cells))).var 2 24 ((scC s))).pv 5 ((PV.val (Value.int .i64 ((i.1 : Nat))))))) (fun i => o.length - i.1) ⟨0, by omega, ⟨fun _ h => absurd h (Nat.not_lt_zero _), fun _ h => absurd h (Nat.not_lt_zero _), fun _ _ _ h => absurd h (Nat.not_lt_zero _)⟩⟩ ?_ (fun i => ?_)
  · (first | exact Sub.nil _ _ _ (StSub.refl _) rfl | ((repeat (first | refine Sub.pv ?_ rfl | refine Sub.var ?_ rfl rfl)); (first | exact Sub.nil _ _ _ (StSub.refl _) rfl | exact Sub.nil _ _ _ (stsub_swap (by assumption)) rfl | exact Sub.nil _ _ _ (stsub_eq (by first | rfl | exact upd_eta (by assumption) | ((simp only [St.pv, St.put, St.sst, St.setv, St.nil, St.var, upd_upd]); first | done | rfl))) rfl | (refine Sub.nil _ _ _ (stsub_eq ?_) rfl; (simp only [St.pv, St.put, St.sst, St.setv, St.nil, St.var, upd_upd]); (rw [upd4 (by assumption)]); first | done | rfl))))
  obtain ⟨i, hi, hI⟩ := i
  dsimp only
  by_cases hend : o.length ≤ i
  · have e := hfin i hI hend
    (try (apply wO pk; exact rfl)); (repeat' (first | exact All.nil | refine All.cons ?_ ?_ | (apply wC pk; exact rfl; exact rfl) | (apply wE pk; exact rfl; exact rfl) | (apply wX pk; exact rfl) | (apply wN pk; exact rfl) | (apply wD pk [] []; kernel_rfl; exact rfl; exact rfl) | exact Imp.one | exact Imp.same | refine Imp.left ?_ | exact ImpX.one | exact ImpX.same | exact ImpX.mk | refine ImpX.up ?_ | refine ImpX.old ?_ | (apply pwp_condC; simp only [cond_true, cond_false]) | (refine pwp_cond rfl (fun h => ?_) (fun h => ?_) <;> (try simp at h) <;> (first | done | (exfalso; omega) | skip)) | (refine pwp_ret ?_; refine ⟨_, _, _, rfl, Wk.refl _, StSub.refl _, ?_, rfl⟩; (first | rfl | ((rw [e]); done) | skip)) | (intros; omega) | (intros; simp only [List.length_map]; omega)))
  have hlt : i < o.length := by omega
  have hol := hl.rts o[i] (List.getElem_mem hlt)
  by_cases hgood : ¬ ((1 ≤ o[i].dev ∧ o[i].dev ≤ 64) ∧ ¬ o[i].rights = [])
  · have e : cp = false := hno fun h => hgood ⟨(h.own _ (List.getElem_mem hlt)).dev, (h.own _ (List.getElem_mem hlt)).some_⟩
    (try (apply wO pk; exact rfl)); (repeat' (first | ((exfalso; exact hgood (by assumption))) | exact All.nil | refine All.cons ?_ ?_ | (apply wC pk; exact rfl; exact rfl) | (apply wE pk; exact rfl; exact rfl) | (apply wX pk; exact rfl) | (apply wN pk; exact rfl) | (apply wD pk [] []; kernel_rfl; exact rfl; exact rfl) | exact Imp.one | exact Imp.same | refine Imp.left ?_ | exact ImpX.one | exact ImpX.same | exact ImpX.mk | refine ImpX.up ?_ | refine ImpX.old ?_ | (apply pwp_condC; simp only [cond_true, cond_false]) | (refine pwp_cond rfl (fun h => ?_) (fun h => ?_) <;> (try simp at h) <;> (first | done | (exfalso; omega) | skip)) | (refine pwp_ret ?_; refine ⟨_, _, _, rfl, Wk.refl _, StSub.refl _, ?_, rfl⟩; (first | rfl | ((rw [e]); done) | skip)) | (apply idxS pk; exact rfl; exact rfl; exact rfl; exact rfl; exact rfl; exact rfl; rotate_left; exact rfl; (intro _; exact rfl); (intro _; apply get_map <;> omega); (intro _; exact rfl); exact rfl) | (intros; omega) | (intros; simp only [List.length_map]; omega)))
  replace hgood := Decidable.of_not_not hgood
  have hbad : ¬ ((o[i].dev < 1 ∨ 64 < o[i].dev) ∨ o[i].rights = []) := fun q => q.elim (fun q => by omega) fun q => hgood.2 q
  have hdv := hgood.1
  have hne := hgood.2
  have h0 : CK s o i hlt 0 := ⟨fun _ h => absurd h (Nat.not_lt_zero _), fun _ _ _ h => absurd h (Nat.not_lt_zero _), fun _ _ _ _ _ h => absurd h (Nat.not_lt_zero _)⟩
  have hF2 : ∀ j (h : j < o.length) (_ : j + 1 = i), (o[j]'h).dev ≥ (o[i]'hlt).dev → cp = false := fun j _ hj q => hno fun h => by
    have := (List.pairwise_iff_getElem.1 h.devs) j i (by omega) hlt (by omega)
    omega
  by_cases h00 : i = 0
  · have h3 : ∀ j (h : j < o.length) (_ : j + 1 = i), (o[j]'h).dev < (o[i]'hlt).dev := fun j _ hj => by omega
    (try (apply wO pk; exact rfl)); (repeat' (first | ((exfalso; first | omega | exact hbad (by assumption))) | exact All.nil | refine All.cons ?_ ?_ | (apply wC pk; exact rfl; exact rfl) | (apply wE pk; exact rfl; exact rfl) | (apply wX pk; exact rfl) | (apply wN pk; exact rfl) | (apply wD pk [] []; kernel_rfl; exact rfl; exact rfl) | exact Imp.one | exact Imp.same | refine Imp.left ?_ | exact ImpX.one | exact ImpX.same | exact ImpX.mk | refine ImpX.up ?_ | refine ImpX.old ?_ | (apply pwp_condC; simp only [cond_true, cond_false]) | (refine pwp_cond rfl (fun h => ?_) (fun h => ?_) <;> (try simp at h) <;> (first | done | (exfalso; omega) | skip)) | (refine pwp_ret ?_; refine ⟨_, _, _, rfl, Wk.refl _, StSub.refl _, ?_, rfl⟩; (first | rfl | ((exfalso; first | omega | exact hbad (by assumption)); done) | skip)) | (apply idxS pk; exact rfl; exact rfl; exact rfl; exact rfl; exact rfl; exact rfl; rotate_left; exact rfl; (intro _; exact rfl); (intro _; apply get_map <;> omega); (intro _; exact rfl); exact rfl) | (intros; omega) | (intros; simp only [List.length_map]; omega)))
    clear h h00
    refine pwp_loop (X := { x : Nat // x ≤ o[i].rights.length ∧ CK s o i hlt x }) (fun y => ((((((St.nil 161 st).pv 1 (.seq (o.map Ow.cells))).var 2 24 ((scC s))).pv 5 ((PV.val (Value.int .i64 ((i : Nat)))))).var 6 49 ((o[i]).cells)).pv 7 ((PV.val (Value.int .i64 ((y.1 : Nat))))))) (fun y => o[i].rights.length - y.1) ⟨0, by omega, h0⟩ ?_ (fun y => ?_)
    · (first | exact Sub.nil _ _ _ (StSub.refl _) rfl | ((repeat (first | refine Sub.pv ?_ rfl | refine Sub.var ?_ rfl rfl)); (first | exact Sub.nil _ _ _ (StSub.refl _) rfl | exact Sub.nil _ _ _ (stsub_swap (by assumption)) rfl | exact Sub.nil _ _ _ (stsub_eq (by first | rfl | exact upd_eta (by assumption) | ((simp only [St.pv, St.put, St.sst, St.setv, St.nil, St.var, upd_upd]); first | done | rfl))) rfl | (refine Sub.nil _ _ _ (stsub_eq ?_) rfl; (simp only [St.pv, St.put, St.sst, St.setv, St.nil, St.var, upd_upd]); (rw [upd4 (by assumption)]); first | done | rfl))))
    obtain ⟨k, hk, hK⟩ := y
    dsimp only
    by_cases hend2 : o[i].rights.length ≤ k
    · (try (apply wO pk; exact rfl)); (repeat' (first | exact All.nil | refine All.cons ?_ ?_ | (apply wC pk; exact rfl; exact rfl) | (apply wE pk; exact rfl; exact rfl) | (apply wX pk; exact rfl) | (apply wN pk; exact rfl) | (apply wD pk [] []; kernel_rfl; exact rfl; exact rfl) | exact Imp.one | exact Imp.same | refine Imp.left ?_ | exact ImpX.one | exact ImpX.same | exact ImpX.mk | refine ImpX.up ?_ | refine ImpX.old ?_ | (apply pwp_condC; simp only [cond_true, cond_false]) | (refine pwp_cond rfl (fun h => ?_) (fun h => ?_) <;> (try simp at h) <;> (first | done | (exfalso; omega) | skip)) | (refine pwp_ret ?_; refine ⟨_, _, _, rfl, Wk.refl _, StSub.refl _, ?_, rfl⟩; (first | rfl | skip)) | (apply idxS pk; exact rfl; exact rfl; exact rfl; exact rfl; exact rfl; exact rfl; rotate_left; exact rfl; (intro _; exact rfl); (intro _; apply get_map <;> omega); (intro _; exact rfl); exact rfl) | (refine ⟨⟨i + 1, by omega, hI.step hK hend2 hdv hne h3⟩, ?_, by simp only; omega⟩; (first | exact Sub.nil _ _ _ (StSub.refl _) rfl | ((repeat (first | refine Sub.pv ?_ rfl | refine Sub.var ?_ rfl rfl)); (first | exact Sub.nil _ _ _ (StSub.refl _) rfl | exact Sub.nil _ _ _ (stsub_swap (by assumption)) rfl | exact Sub.nil _ _ _ (stsub_eq (by first | rfl | exact upd_eta (by assumption) | ((simp only [St.pv, St.put, St.sst, St.setv, St.nil, St.var, upd_upd]); first | done | rfl))) rfl | (refine Sub.nil _ _ _ (stsub_eq ?_) rfl; (simp only [St.pv, St.put, St.sst, St.setv, St.nil, St.var, upd_upd]); (rw [upd4 (by assumption)]); first | done | rfl))))) | (intros; omega) | (intros; simp only [List.length_map]; omega)))
    have hlk : k < o[i].rights.length := by omega
    have hm := mine_spec s hs o[i].dev o[i].rights[k]
    by_cases hok : ¬ (okR s o[i].dev o[i].rights[k] = true)
    · have e : cp = false := hno fun h => hok ((okR_iff _ _ _).2 ((h.own _ (List.getElem_mem hlt)).rts _ (List.getElem_mem hlk)))
      have hok2 : okR s o[i].dev o[i].rights[k] = false := by simpa using hok
      rw [hok2] at hm
      (try (apply wO pk; exact rfl)); (repeat' (first | exact All.nil | refine All.cons ?_ ?_ | (apply wC pk; exact rfl; exact rfl) | (apply wE pk; exact rfl; exact rfl) | (apply wX pk; exact rfl) | (apply wN pk; exact rfl) | (apply wD pk [] []; kernel_rfl; exact rfl; exact rfl) | exact Imp.one | exact Imp.same | refine Imp.left ?_ | exact ImpX.one | exact ImpX.same | exact ImpX.mk | refine ImpX.up ?_ | refine ImpX.old ?_ | (apply pwp_condC; simp only [cond_true, cond_false]) | (refine pwp_cond rfl (fun h => ?_) (fun h => ?_) <;> (try simp at h) <;> (first | done | (exfalso; omega) | skip)) | (refine pwp_ret ?_; refine ⟨_, _, _, rfl, Wk.refl _, StSub.refl _, ?_, rfl⟩; (first | rfl | ((rw [e]); done) | skip)) | (apply callS; exact rfl; exact rfl; exact rfl; (intro _; first | (apply hm <;> first | assumption | omega)); rotate_left; exact rfl; exact rfl) | (apply callV; exact rfl; exact rfl; exact rfl; (intro _; first | (apply hm <;> first | assumption | omega)); rotate_left; exact rfl; exact rfl) | (apply idxS pk; exact rfl; exact rfl; exact rfl; exact rfl; exact rfl; exact rfl; rotate_left; exact rfl; (intro _; exact rfl); (intro _; apply get_map <;> omega); (intro _; exact rfl); exact rfl) | (intros; omega) | (intros; simp only [List.length_map]; omega)))
    replace hok := Decidable.of_not_not hok
    rw [hok] at hm
    have hokR := (okR_iff _ _ _).1 hok
    (try (apply wO pk; exact rfl)); (repeat' (first | exact All.nil | refine All.cons ?_ ?_ | (apply wC pk; exact rfl; exact rfl) | (apply wE pk; exact rfl; exact rfl) | (apply wX pk; exact rfl) | (apply wN pk; exact rfl) | (apply wD pk [] []; kernel_rfl; exact rfl; exact rfl) | exact Imp.one | exact Imp.same | refine Imp.left ?_ | exact ImpX.one | exact ImpX.same | exact ImpX.mk | refine ImpX.up ?_ | refine ImpX.old ?_ | (apply pwp_condC; simp only [cond_true, cond_false]) | (refine pwp_cond rfl (fun h => ?_) (fun h => ?_) <;> (try simp at h) <;> (first | done | (exfalso; omega) | skip)) | (refine pwp_ret ?_; refine ⟨_, _, _, rfl, Wk.refl _, StSub.refl _, ?_, rfl⟩; (first | rfl | skip)) | (apply callS; exact rfl; exact rfl; exact rfl; (intro _; first | (apply hm <;> first | assumption | omega)); rotate_left; exact rfl; exact rfl) | (apply callV; exact rfl; exact rfl; exact rfl; (intro _; first | (apply hm <;> first | assumption | omega)); rotate_left; exact rfl; exact rfl) | (apply idxS pk; exact rfl; exact rfl; exact rfl; exact rfl; exact rfl; exact rfl; rotate_left; exact rfl; (intro _; exact rfl); (intro _; apply get_map <;> omega); (intro _; exact rfl); exact rfl) | (intros; omega) | (intros; simp only [List.length_map]; omega)))
    refine pwp_loop (X := { x : Nat // x ≤ k ∧ ∀ n (h : n < x) (h2 : n < o[i].rights.length), bh o[i].rights[n] o[i].rights[k] }) (fun z => (((((((St.nil 161 st).pv 1 (.seq (o.map Ow.cells))).var 2 24 ((scC s))).pv 5 ((PV.val (Value.int .i64 ((i : Nat)))))).var 6 49 ((o[i]).cells)).pv 7 ((PV.val (Value.int .i64 ((k : Nat)))))).pv 9 ((PV.val (Value.int .i64 ((z.1 : Nat))))))) (fun z => k - z.1) ⟨0, by omega, fun _ h => absurd h (Nat.not_lt_zero _)⟩ ?_ (fun z => ?_)
    · (first | exact Sub.nil _ _ _ (StSub.refl _) rfl | ((repeat (first | refine Sub.pv ?_ rfl | refine Sub.var ?_ rfl rfl)); (first | exact Sub.nil _ _ _ (StSub.refl _) rfl | exact Sub.nil _ _ _ (stsub_swap (by assumption)) rfl | exact Sub.nil _ _ _ (stsub_eq (by first | rfl | exact upd_eta (by assumption) | ((simp only [St.pv, St.put, St.sst, St.setv, St.nil, St.var, upd_upd]); first | done | rfl))) rfl | (refine Sub.nil _ _ _ (stsub_eq ?_) rfl; (simp only [St.pv, St.put, St.sst, St.setv, St.nil, St.var, upd_upd]); (rw [upd4 (by assumption)]); first | done | rfl))))
    obtain ⟨n, hn, hN⟩ := z
    dsimp only
    by_cases hend3 : ¬ (k ≤ n)
    · have hln : n < o[i].rights.length := by omega
      have ha := ahead_spec o[i].rights[n] o[i].rights[k]
      have hsm := same_spec o[i].rights[n] o[i].rights[k]
      have hbh := ahead_bh (b := o[i].rights[k]) (hK.ok n (by omega) hln)
      have hF : ¬ bh o[i].rights[n] o[i].rights[k] → cp = false := fun q => hno fun h => q ((List.pairwise_iff_getElem.1 (h.own _ (List.getElem_mem hlt)).srt) n k hln hlk (by omega))
      have hS : bh o[i].rights[n] o[i].rights[k] → ∀ m (h : m < n + 1) (h2 : m < o[i].rights.length), bh o[i].rights[m] o[i].rights[k] := fun q m hm h2 => by
        rcases Nat.lt_succ_iff_lt_or_eq.1 hm with q2 | q2
        · exact hN m q2 h2
        · subst q2; exact q
      rw [← hbh] at hF hS
      clear hbh
      generalize aheadB o[i].rights[n] o[i].rights[k] = ah at *
      generalize sameB o[i].rights[n] o[i].rights[k] = sm at *
      (try (apply wO pk; exact rfl)); (repeat' (first | exact All.nil | refine All.cons ?_ ?_ | (apply wC pk; exact rfl; exact rfl) | (apply wE pk; exact rfl; exact rfl) | (apply wX pk; exact rfl) | (apply wN pk; exact rfl) | (apply wD pk [] []; kernel_rfl; exact rfl; exact rfl) | exact Imp.one | exact Imp.same | refine Imp.left ?_ | exact ImpX.one | exact ImpX.same | exact ImpX.mk | refine ImpX.up ?_ | refine ImpX.old ?_ | (apply pwp_condC; simp only [cond_true, cond_false]) | (refine pwp_cond rfl (fun h => ?_) (fun h => ?_) <;> (try simp at h) <;> (first | done | (exfalso; omega) | skip)) | (refine pwp_ret ?_; refine ⟨_, _, _, rfl, Wk.refl _, StSub.refl _, ?_, rfl⟩; (first | rfl | ((rw [hF (by grind)]); done) | skip)) | (apply callS; exact rfl; exact rfl; exact rfl; (intro _; first | (apply ha <;> first | assumption | omega) | (apply hsm <;> first | assumption | omega)); rotate_left; exact rfl; exact rfl) | (apply callV; exact rfl; exact rfl; exact rfl; (intro _; first | (apply ha <;> first | assumption | omega) | (apply hsm <;> first | assumption | omega)); rotate_left; exact rfl; exact rfl) | (apply idxS pk; exact rfl; exact rfl; exact rfl; exact rfl; exact rfl; exact rfl; rotate_left; exact rfl; (intro _; exact rfl); (intro _; apply get_map <;> omega); (intro _; exact rfl); exact rfl) | (refine ⟨⟨n + 1, by omega, hS (by grind)⟩, ?_, by simp only; omega⟩; (first | exact Sub.nil _ _ _ (StSub.refl _) rfl | ((repeat (first | refine Sub.pv ?_ rfl | refine Sub.var ?_ rfl rfl)); (first | exact Sub.nil _ _ _ (StSub.refl _) rfl | exact Sub.nil _ _ _ (stsub_swap (by assumption)) rfl | exact Sub.nil _ _ _ (stsub_eq (by first | rfl | exact upd_eta (by assumption) | ((simp only [St.pv, St.put, St.sst, St.setv, St.nil, St.var, upd_upd]); first | done | rfl))) rfl | (refine Sub.nil _ _ _ (stsub_eq ?_) rfl; (simp only [St.pv, St.put, St.sst, St.setv, St.nil, St.var, upd_upd]); (rw [upd4 (by assumption)]); first | done | rfl))))) | (intros; omega) | (intros; simp only [List.length_map]; omega)))
    replace hend3 := Decidable.of_not_not hend3
    have hB2 : ∀ n (h : n < k), bh o[i].rights[n] o[i].rights[k] := fun m hm => hN m (by omega) (by omega)
    (try (apply wO pk; exact rfl)); (repeat' (first | exact All.nil | refine All.cons ?_ ?_ | (apply wC pk; exact rfl; exact rfl) | (apply wE pk; exact rfl; exact rfl) | (apply wX pk; exact rfl) | (apply wN pk; exact rfl) | (apply wD pk [] []; kernel_rfl; exact rfl; exact rfl) | exact Imp.one | exact Imp.same | refine Imp.left ?_ | exact ImpX.one | exact ImpX.same | exact ImpX.mk | refine ImpX.up ?_ | refine ImpX.old ?_ | (apply pwp_condC; simp only [cond_true, cond_false]) | (refine pwp_cond rfl (fun h => ?_) (fun h => ?_) <;> (try simp at h) <;> (first | done | (exfalso; omega) | skip)) | (refine pwp_ret ?_; refine ⟨_, _, _, rfl, Wk.refl _, StSub.refl _, ?_, rfl⟩; (first | rfl | skip)) | (intros; omega) | (intros; simp only [List.length_map]; omega)))
    refine pwp_loop (X := { x : Nat // x ≤ i ∧ ∀ j (h : j < x) (h2 : j < o.length), ∀ y ∈ o[j].rights, clashB y o[i].rights[k] = false }) (fun u => (((((((St.nil 161 st).pv 1 (.seq (o.map Ow.cells))).var 2 24 ((scC s))).pv 5 ((PV.val (Value.int .i64 ((i : Nat)))))).var 6 49 ((o[i]).cells)).pv 7 ((PV.val (Value.int .i64 ((k : Nat)))))).pv 14 ((PV.val (Value.int .i64 ((u.1 : Nat))))))) (fun u => i - u.1) ⟨0, by omega, fun _ h => absurd h (Nat.not_lt_zero _)⟩ ?_ (fun u => ?_)
    · (first | exact Sub.nil _ _ _ (StSub.refl _) rfl | ((repeat (first | refine Sub.pv ?_ rfl | refine Sub.var ?_ rfl rfl)); (first | exact Sub.nil _ _ _ (StSub.refl _) rfl | exact Sub.nil _ _ _ (stsub_swap (by assumption)) rfl | exact Sub.nil _ _ _ (stsub_eq (by first | rfl | exact upd_eta (by assumption) | ((simp only [St.pv, St.put, St.sst, St.setv, St.nil, St.var, upd_upd]); first | done | rfl))) rfl | (refine Sub.nil _ _ _ (stsub_eq ?_) rfl; (simp only [St.pv, St.put, St.sst, St.setv, St.nil, St.var, upd_upd]); (rw [upd4 (by assumption)]); first | done | rfl))))
    obtain ⟨j, hj, hJ⟩ := u
    dsimp only
    by_cases hend4 : i ≤ j
    · have hJ2 : ∀ j (h : j < i), ∀ x ∈ o[j].rights, clashB x o[i].rights[k] = false := fun m hm => hJ m (by omega) (by omega)
      (try (apply wO pk; exact rfl)); (repeat' (first | exact All.nil | refine All.cons ?_ ?_ | (apply wC pk; exact rfl; exact rfl) | (apply wE pk; exact rfl; exact rfl) | (apply wX pk; exact rfl) | (apply wN pk; exact rfl) | (apply wD pk [] []; kernel_rfl; exact rfl; exact rfl) | exact Imp.one | exact Imp.same | refine Imp.left ?_ | exact ImpX.one | exact ImpX.same | exact ImpX.mk | refine ImpX.up ?_ | refine ImpX.old ?_ | (apply pwp_condC; simp only [cond_true, cond_false]) | (refine pwp_cond rfl (fun h => ?_) (fun h => ?_) <;> (try simp at h) <;> (first | done | (exfalso; omega) | skip)) | (refine pwp_ret ?_; refine ⟨_, _, _, rfl, Wk.refl _, StSub.refl _, ?_, rfl⟩; (first | rfl | skip)) | (refine ⟨⟨k + 1, by omega, hK.step hlk hokR hB2 hJ2⟩, ?_, by simp only; omega⟩; (first | exact Sub.nil _ _ _ (StSub.refl _) rfl | ((repeat (first | refine Sub.pv ?_ rfl | refine Sub.var ?_ rfl rfl)); (first | exact Sub.nil _ _ _ (StSub.refl _) rfl | exact Sub.nil _ _ _ (stsub_swap (by assumption)) rfl | exact Sub.nil _ _ _ (stsub_eq (by first | rfl | exact upd_eta (by assumption) | ((simp only [St.pv, St.put, St.sst, St.setv, St.nil, St.var, upd_upd]); first | done | rfl))) rfl | (refine Sub.nil _ _ _ (stsub_eq ?_) rfl; (simp only [St.pv, St.put, St.sst, St.setv, St.nil, St.var, upd_upd]); (rw [upd4 (by assumption)]); first | done | rfl))))) | (intros; omega) | (intros; simp only [List.length_map]; omega)))
    have hlj : j < o.length := by omega
    have hjl := hl.rts o[j] (List.getElem_mem hlj)
    (try (apply wO pk; exact rfl)); (repeat' (first | exact All.nil | refine All.cons ?_ ?_ | (apply wC pk; exact rfl; exact rfl) | (apply wE pk; exact rfl; exact rfl) | (apply wX pk; exact rfl) | (apply wN pk; exact rfl) | (apply wD pk [] []; kernel_rfl; exact rfl; exact rfl) | exact Imp.one | exact Imp.same | refine Imp.left ?_ | exact ImpX.one | exact ImpX.same | exact ImpX.mk | refine ImpX.up ?_ | refine ImpX.old ?_ | (apply pwp_condC; simp only [cond_true, cond_false]) | (refine pwp_cond rfl (fun h => ?_) (fun h => ?_) <;> (try simp at h) <;> (first | done | (exfalso; omega) | skip)) | (refine pwp_ret ?_; refine ⟨_, _, _, rfl, Wk.refl _, StSub.refl _, ?_, rfl⟩; (first | rfl | skip)) | (intros; omega) | (intros; simp only [List.length_map]; omega)))
    refine pwp_loop (X := { x : Nat // x ≤ o[j].rights.length ∧ ∀ m (h : m < x) (h2 : m < o[j].rights.length), clashB o[j].rights[m] o[i].rights[k] = false }) (fun v => ((((((((St.nil 161 st).pv 1 (.seq (o.map Ow.cells))).var 2 24 ((scC s))).pv 5 ((PV.val (Value.int .i64 ((i : Nat)))))).var 6 49 ((o[i]).cells)).pv 7 ((PV.val (Value.int .i64 ((k : Nat)))))).pv 14 ((PV.val (Value.int .i64 ((j : Nat)))))).pv 15 ((PV.val (Value.int .i64 ((v.1 : Nat))))))) (fun v => o[j].rights.length - v.1) ⟨0, by omega, fun _ h => absurd h (Nat.not_lt_zero _)⟩ ?_ (fun v => ?_)
    · (first | exact Sub.nil _ _ _ (StSub.refl _) rfl | ((repeat (first | refine Sub.pv ?_ rfl | refine Sub.var ?_ rfl rfl)); (first | exact Sub.nil _ _ _ (StSub.refl _) rfl | exact Sub.nil _ _ _ (stsub_swap (by assumption)) rfl | exact Sub.nil _ _ _ (stsub_eq (by first | rfl | exact upd_eta (by assumption) | ((simp only [St.pv, St.put, St.sst, St.setv, St.nil, St.var, upd_upd]); first | done | rfl))) rfl | (refine Sub.nil _ _ _ (stsub_eq ?_) rfl; (simp only [St.pv, St.put, St.sst, St.setv, St.nil, St.var, upd_upd]); (rw [upd4 (by assumption)]); first | done | rfl))))
    obtain ⟨m, hm', hM⟩ := v
    dsimp only
    by_cases hend5 : o[j].rights.length ≤ m
    · have hJ3 : ∀ n (h : n < j + 1) (h2 : n < o.length), ∀ y ∈ o[n].rights, clashB y o[i].rights[k] = false := fun n hn h2 y hy => by
        rcases Nat.lt_succ_iff_lt_or_eq.1 hn with q | q
        · exact hJ n q h2 y hy
        · subst q
          obtain ⟨a, ha, rfl⟩ := List.getElem_of_mem hy
          exact hM a (by omega) ha
      (try (apply wO pk; exact rfl)); (repeat' (first | exact All.nil | refine All.cons ?_ ?_ | (apply wC pk; exact rfl; exact rfl) | (apply wE pk; exact rfl; exact rfl) | (apply wX pk; exact rfl) | (apply wN pk; exact rfl) | (apply wD pk [] []; kernel_rfl; exact rfl; exact rfl) | exact Imp.one | exact Imp.same | refine Imp.left ?_ | exact ImpX.one | exact ImpX.same | exact ImpX.mk | refine ImpX.up ?_ | refine ImpX.old ?_ | (apply pwp_condC; simp only [cond_true, cond_false]) | (refine pwp_cond rfl (fun h => ?_) (fun h => ?_) <;> (try simp at h) <;> (first | done | (exfalso; omega) | skip)) | (refine pwp_ret ?_; refine ⟨_, _, _, rfl, Wk.refl _, StSub.refl _, ?_, rfl⟩; (first | rfl | skip)) | (apply idxS pk; exact rfl; exact rfl; exact rfl; exact rfl; exact rfl; exact rfl; rotate_left; exact rfl; (intro _; exact rfl); (intro _; apply get_map <;> omega); (intro _; exact rfl); exact rfl) | (refine ⟨⟨j + 1, by omega, hJ3⟩, ?_, by simp only; omega⟩; (first | exact Sub.nil _ _ _ (StSub.refl _) rfl | ((repeat (first | refine Sub.pv ?_ rfl | refine Sub.var ?_ rfl rfl)); (first | exact Sub.nil _ _ _ (StSub.refl _) rfl | exact Sub.nil _ _ _ (stsub_swap (by assumption)) rfl | exact Sub.nil _ _ _ (stsub_eq (by first | rfl | exact upd_eta (by assumption) | ((simp only [St.pv, St.put, St.sst, St.setv, St.nil, St.var, upd_upd]); first | done | rfl))) rfl | (refine Sub.nil _ _ _ (stsub_eq ?_) rfl; (simp only [St.pv, St.put, St.sst, St.setv, St.nil, St.var, upd_upd]); (rw [upd4 (by assumption)]); first | done | rfl))))) | (intros; omega) | (intros; simp only [List.length_map]; omega)))
    have hlm : m < o[j].rights.length := by omega
    have hsm := same_spec o[j].rights[m] o[i].rights[k]
    have hcl := clash_same o[j].rights[m] o[i].rights[k]
    have hF : clashB o[j].rights[m] o[i].rights[k] = true → cp = false := fun q => hno fun h => by
      have := (List.pairwise_iff_getElem.1 h.apart) j i hlj hlt (by omega) _ (List.getElem_mem hlm) _ (List.getElem_mem hlk)
      rw [q] at this; cases this
    have hS : clashB o[j].rights[m] o[i].rights[k] = false → ∀ n (h : n < m + 1) (h2 : n < o[j].rights.length), clashB o[j].rights[n] o[i].rights[k] = false := fun q n hn h2 => by
      rcases Nat.lt_succ_iff_lt_or_eq.1 hn with q2 | q2
      · exact hM n q2 h2
      · subst q2; exact q
    rw [← Bool.not_eq_true, hcl] at hS
    rw [hcl] at hF
    clear hcl
    generalize sameB o[j].rights[m] o[i].rights[k] = sm at *
    (try (apply wO pk; exact rfl)); (repeat' (first | exact All.nil | refine All.cons ?_ ?_ | (apply wC pk; exact rfl; exact rfl) | (apply wE pk; exact rfl; exact rfl) | (apply wX pk; exact rfl) | (apply wN pk; exact rfl) | (apply wD pk [] []; kernel_rfl; exact rfl; exact rfl) | exact Imp.one | exact Imp.same | refine Imp.left ?_ | exact ImpX.one | exact ImpX.same | exact ImpX.mk | refine ImpX.up ?_ | refine ImpX.old ?_ | (apply pwp_condC; simp only [cond_true, cond_false]) | (refine pwp_cond rfl (fun h => ?_) (fun h => ?_) <;> (try simp at h) <;> (first | done | (exfalso; omega) | skip)) | (refine pwp_ret ?_; refine ⟨_, _, _, rfl, Wk.refl _, StSub.refl _, ?_, rfl⟩; (first | rfl | ((rw [hF (by grind)]); done) | skip)) | (apply callS; exact rfl; exact rfl; exact rfl; (intro _; first | (apply hsm <;> first | assumption | omega)); rotate_left; exact rfl; exact rfl) | (apply callV; exact rfl; exact rfl; exact rfl; (intro _; first | (apply hsm <;> first | assumption | omega)); rotate_left; exact rfl; exact rfl) | (apply idxS pk; exact rfl; exact rfl; exact rfl; exact rfl; exact rfl; exact rfl; rotate_left; exact rfl; (intro _; exact rfl); (intro _; apply get_map <;> omega); (intro _; exact rfl); exact rfl) | (refine ⟨⟨m + 1, by omega, hS (by grind)⟩, ?_, by simp only; omega⟩; (first | exact Sub.nil _ _ _ (StSub.refl _) rfl | ((repeat (first | refine Sub.pv ?_ rfl | refine Sub.var ?_ rfl rfl)); (first | exact Sub.nil _ _ _ (StSub.refl _) rfl | exact Sub.nil _ _ _ (stsub_swap (by assumption)) rfl | exact Sub.nil _ _ _ (stsub_eq (by first | rfl | exact upd_eta (by assumption) | ((simp only [St.pv, St.put, St.sst, St.setv, St.nil, St.var, upd_upd]); first | done | rfl))) rfl | (refine Sub.nil _ _ _ (stsub_eq ?_) rfl; (simp only [St.pv, St.put, St.sst, St.setv, St.nil, St.var, upd_upd]); (rw [upd4 (by assumption)]); first | done | rfl))))) | (intros; omega) | (intros; simp only [List.length_map]; omega)))
  · obtain ⟨i', hi'⟩ : ∃ n, i = n + 1 := ⟨i - 1, by omega⟩
    have hlp : i' < o.length := by omega
    have hix : ((i : Nat) : Int) - 1 = ((i' : Nat) : Int) := by omega
    by_cases hdd : o[i'].dev ≥ o[i].dev
    · have e := hF2 i' hlp hi'.symm hdd
      (try (apply wO pk; exact rfl)); (repeat' (first | ((exfalso; first | omega | exact hbad (by assumption))) | exact All.nil | refine All.cons ?_ ?_ | (apply wC pk; exact rfl; exact rfl) | (apply wE pk; exact rfl; exact rfl) | (apply wX pk; exact rfl) | (apply wN pk; exact rfl) | (apply wD pk [] []; kernel_rfl; exact rfl; exact rfl) | exact Imp.one | exact Imp.same | refine Imp.left ?_ | exact ImpX.one | exact ImpX.same | exact ImpX.mk | refine ImpX.up ?_ | refine ImpX.old ?_ | (apply pwp_condC; simp only [cond_true, cond_false]) | (refine pwp_cond rfl (fun h => ?_) (fun h => ?_) <;> (try simp at h) <;> (first | done | (exfalso; omega) | skip)) | (refine pwp_ret ?_; refine ⟨_, _, _, rfl, Wk.refl _, StSub.refl _, ?_, rfl⟩; (first | rfl | ((first | (rw [e]; done) | (exfalso; first | omega | exact hbad (by assumption))); done) | skip)) | (apply idxS pk; exact rfl; exact rfl; exact rfl; exact rfl; exact rfl; exact rfl; rotate_left; exact rfl; (intro _; exact rfl); (intro _; apply get_map <;> omega); (intro _; exact rfl); exact rfl) | (apply idxS pk; exact rfl; exact rfl; exact rfl; exact rfl; exact rfl; exact rfl; rotate_left; exact rfl; (intro _; exact hix); (intro _; apply get_map <;> omega); (intro _; exact rfl); exact rfl) | (intros; omega) | (intros; simp only [List.length_map]; omega)))
    have h3 : ∀ j (h : j < o.length) (_ : j + 1 = i), (o[j]'h).dev < (o[i]'hlt).dev := fun j _ hj => by
      have : j = i' := by omega
      subst this; omega
    (try (apply wO pk; exact rfl)); (repeat' (first | ((exfalso; first | omega | exact hbad (by assumption))) | exact All.nil | refine All.cons ?_ ?_ | (apply wC pk; exact rfl; exact rfl) | (apply wE pk; exact rfl; exact rfl) | (apply wX pk; exact rfl) | (apply wN pk; exact rfl) | (apply wD pk [] []; kernel_rfl; exact rfl; exact rfl) | exact Imp.one | exact Imp.same | refine Imp.left ?_ | exact ImpX.one | exact ImpX.same | exact ImpX.mk | refine ImpX.up ?_ | refine ImpX.old ?_ | (apply pwp_condC; simp only [cond_true, cond_false]) | (refine pwp_cond rfl (fun h => ?_) (fun h => ?_) <;> (try simp at h) <;> (first | done | (exfalso; omega) | skip)) | (refine pwp_ret ?_; refine ⟨_, _, _, rfl, Wk.refl _, StSub.refl _, ?_, rfl⟩; (first | rfl | ((exfalso; first | omega | exact hbad (by assumption)); done) | skip)) | (apply idxS pk; exact rfl; exact rfl; exact rfl; exact rfl; exact rfl; exact rfl; rotate_left; exact rfl; (intro _; exact rfl); (intro _; apply get_map <;> omega); (intro _; exact rfl); exact rfl) | (apply idxS pk; exact rfl; exact rfl; exact rfl; exact rfl; exact rfl; exact rfl; rotate_left; exact rfl; (intro _; exact hix); (intro _; apply get_map <;> omega); (intro _; exact rfl); exact rfl) | (intros; omega) | (intros; simp only [List.length_map]; omega)))
    refine pwp_loop (X := { x : Nat // x ≤ o[i].rights.length ∧ CK s o i hlt x }) (fun y => ((((((St.nil 161 st).pv 1 (.seq (o.map Ow.cells))).var 2 24 ((scC s))).pv 5 ((PV.val (Value.int .i64 ((i : Nat)))))).var 6 49 ((o[i]).cells)).pv 7 ((PV.val (Value.int .i64 ((y.1 : Nat))))))) (fun y => o[i].rights.length - y.1) ⟨0, by omega, h0⟩ ?_ (fun y => ?_)
    · (first | exact Sub.nil _ _ _ (StSub.refl _) rfl | ((repeat (first | refine Sub.pv ?_ rfl | refine Sub.var ?_ rfl rfl)); (first | exact Sub.nil _ _ _ (StSub.refl _) rfl | exact Sub.nil _ _ _ (stsub_swap (by assumption)) rfl | exact Sub.nil _ _ _ (stsub_eq (by first | rfl | exact upd_eta (by assumption) | ((simp only [St.pv, St.put, St.sst, St.setv, St.nil, St.var, upd_upd]); first | done | rfl))) rfl | (refine Sub.nil _ _ _ (stsub_eq ?_) rfl; (simp only [St.pv, St.put, St.sst, St.setv, St.nil, St.var, upd_upd]); (rw [upd4 (by assumption)]); first | done | rfl))))
    obtain ⟨k, hk, hK⟩ := y
    dsimp only
    by_cases hend2 : o[i].rights.length ≤ k
    · (try (apply wO pk; exact rfl)); (repeat' (first | exact All.nil | refine All.cons ?_ ?_ | (apply wC pk; exact rfl; exact rfl) | (apply wE pk; exact rfl; exact rfl) | (apply wX pk; exact rfl) | (apply wN pk; exact rfl) | (apply wD pk [] []; kernel_rfl; exact rfl; exact rfl) | exact Imp.one | exact Imp.same | refine Imp.left ?_ | exact ImpX.one | exact ImpX.same | exact ImpX.mk | refine ImpX.up ?_ | refine ImpX.old ?_ | (apply pwp_condC; simp only [cond_true, cond_false]) | (refine pwp_cond rfl (fun h => ?_) (fun h => ?_) <;> (try simp at h) <;> (first | done | (exfalso; omega) | skip)) | (refine pwp_ret ?_; refine ⟨_, _, _, rfl, Wk.refl _, StSub.refl _, ?_, rfl⟩; (first | rfl | skip)) | (apply idxS pk; exact rfl; exact rfl; exact rfl; exact rfl; exact rfl; exact rfl; rotate_left; exact rfl; (intro _; exact rfl); (intro _; apply get_map <;> omega); (intro _; exact rfl); exact rfl) | (refine ⟨⟨i + 1, by omega, hI.step hK hend2 hdv hne h3⟩, ?_, by simp only; omega⟩; (first | exact Sub.nil _ _ _ (StSub.refl _) rfl | ((repeat (first | refine Sub.pv ?_ rfl | refine Sub.var ?_ rfl rfl)); (first | exact Sub.nil _ _ _ (StSub.refl _) rfl | exact Sub.nil _ _ _ (stsub_swap (by assumption)) rfl | exact Sub.nil _ _ _ (stsub_eq (by first | rfl | exact upd_eta (by assumption) | ((simp only [St.pv, St.put, St.sst, St.setv, St.nil, St.var, upd_upd]); first | done | rfl))) rfl | (refine Sub.nil _ _ _ (stsub_eq ?_) rfl; (simp only [St.pv, St.put, St.sst, St.setv, St.nil, St.var, upd_upd]); (rw [upd4 (by assumption)]); first | done | rfl))))) | (intros; omega) | (intros; simp only [List.length_map]; omega)))
    have hlk : k < o[i].rights.length := by omega
    have hm := mine_spec s hs o[i].dev o[i].rights[k]
    by_cases hok : ¬ (okR s o[i].dev o[i].rights[k] = true)
    · have e : cp = false := hno fun h => hok ((okR_iff _ _ _).2 ((h.own _ (List.getElem_mem hlt)).rts _ (List.getElem_mem hlk)))
      have hok2 : okR s o[i].dev o[i].rights[k] = false := by simpa using hok
      rw [hok2] at hm
      (try (apply wO pk; exact rfl)); (repeat' (first | exact All.nil | refine All.cons ?_ ?_ | (apply wC pk; exact rfl; exact rfl) | (apply wE pk; exact rfl; exact rfl) | (apply wX pk; exact rfl) | (apply wN pk; exact rfl) | (apply wD pk [] []; kernel_rfl; exact rfl; exact rfl) | exact Imp.one | exact Imp.same | refine Imp.left ?_ | exact ImpX.one | exact ImpX.same | exact ImpX.mk | refine ImpX.up ?_ | refine ImpX.old ?_ | (apply pwp_condC; simp only [cond_true, cond_false]) | (refine pwp_cond rfl (fun h => ?_) (fun h => ?_) <;> (try simp at h) <;> (first | done | (exfalso; omega) | skip)) | (refine pwp_ret ?_; refine ⟨_, _, _, rfl, Wk.refl _, StSub.refl _, ?_, rfl⟩; (first | rfl | ((rw [e]); done) | skip)) | (apply callS; exact rfl; exact rfl; exact rfl; (intro _; first | (apply hm <;> first | assumption | omega)); rotate_left; exact rfl; exact rfl) | (apply callV; exact rfl; exact rfl; exact rfl; (intro _; first | (apply hm <;> first | assumption | omega)); rotate_left; exact rfl; exact rfl) | (apply idxS pk; exact rfl; exact rfl; exact rfl; exact rfl; exact rfl; exact rfl; rotate_left; exact rfl; (intro _; exact rfl); (intro _; apply get_map <;> omega); (intro _; exact rfl); exact rfl) | (intros; omega) | (intros; simp only [List.length_map]; omega)))
    replace hok := Decidable.of_not_not hok
    rw [hok] at hm
    have hokR := (okR_iff _ _ _).1 hok
    (try (apply wO pk; exact rfl)); (repeat' (first | exact All.nil | refine All.cons ?_ ?_ | (apply wC pk; exact rfl; exact rfl) | (apply wE pk; exact rfl; exact rfl) | (apply wX pk; exact rfl) | (apply wN pk; exact rfl) | (apply wD pk [] []; kernel_rfl; exact rfl; exact rfl) | exact Imp.one | exact Imp.same | refine Imp.left ?_ | exact ImpX.one | exact ImpX.same | exact ImpX.mk | refine ImpX.up ?_ | refine ImpX.old ?_ | (apply pwp_condC; simp only [cond_true, cond_false]) | (refine pwp_cond rfl (fun h => ?_) (fun h => ?_) <;> (try simp at h) <;> (first | done | (exfalso; omega) | skip)) | (refine pwp_ret ?_; refine ⟨_, _, _, rfl, Wk.refl _, StSub.refl _, ?_, rfl⟩; (first | rfl | skip)) | (apply callS; exact rfl; exact rfl; exact rfl; (intro _; first | (apply hm <;> first | assumption | omega)); rotate_left; exact rfl; exact rfl) | (apply callV; exact rfl; exact rfl; exact rfl; (intro _; first | (apply hm <;> first | assumption | omega)); rotate_left; exact rfl; exact rfl) | (apply idxS pk; exact rfl; exact rfl; exact rfl; exact rfl; exact rfl; exact rfl; rotate_left; exact rfl; (intro _; exact rfl); (intro _; apply get_map <;> omega); (intro _; exact rfl); exact rfl) | (intros; omega) | (intros; simp only [List.length_map]; omega)))
    refine pwp_loop (X := { x : Nat // x ≤ k ∧ ∀ n (h : n < x) (h2 : n < o[i].rights.length), bh o[i].rights[n] o[i].rights[k] }) (fun z => (((((((St.nil 161 st).pv 1 (.seq (o.map Ow.cells))).var 2 24 ((scC s))).pv 5 ((PV.val (Value.int .i64 ((i : Nat)))))).var 6 49 ((o[i]).cells)).pv 7 ((PV.val (Value.int .i64 ((k : Nat)))))).pv 9 ((PV.val (Value.int .i64 ((z.1 : Nat))))))) (fun z => k - z.1) ⟨0, by omega, fun _ h => absurd h (Nat.not_lt_zero _)⟩ ?_ (fun z => ?_)
    · (first | exact Sub.nil _ _ _ (StSub.refl _) rfl | ((repeat (first | refine Sub.pv ?_ rfl | refine Sub.var ?_ rfl rfl)); (first | exact Sub.nil _ _ _ (StSub.refl _) rfl | exact Sub.nil _ _ _ (stsub_swap (by assumption)) rfl | exact Sub.nil _ _ _ (stsub_eq (by first | rfl | exact upd_eta (by assumption) | ((simp only [St.pv, St.put, St.sst, St.setv, St.nil, St.var, upd_upd]); first | done | rfl))) rfl | (refine Sub.nil _ _ _ (stsub_eq ?_) rfl; (simp only [St.pv, St.put, St.sst, St.setv, St.nil, St.var, upd_upd]); (rw [upd4 (by assumption)]); first | done | rfl))))
    obtain ⟨n, hn, hN⟩ := z
    dsimp only
    by_cases hend3 : ¬ (k ≤ n)
    · have hln : n < o[i].rights.length := by omega
      have ha := ahead_spec o[i].rights[n] o[i].rights[k]
      have hsm := same_spec o[i].rights[n] o[i].rights[k]
      have hbh := ahead_bh (b := o[i].rights[k]) (hK.ok n (by omega) hln)
      have hF : ¬ bh o[i].rights[n] o[i].rights[k] → cp = false := fun q => hno fun h => q ((List.pairwise_iff_getElem.1 (h.own _ (List.getElem_mem hlt)).srt) n k hln hlk (by omega))
      have hS : bh o[i].rights[n] o[i].rights[k] → ∀ m (h : m < n + 1) (h2 : m < o[i].rights.length), bh o[i].rights[m] o[i].rights[k] := fun q m hm h2 => by
        rcases Nat.lt_succ_iff_lt_or_eq.1 hm with q2 | q2
        · exact hN m q2 h2
        · subst q2; exact q
      rw [← hbh] at hF hS
      clear hbh
      generalize aheadB o[i].rights[n] o[i].rights[k] = ah at *
      generalize sameB o[i].rights[n] o[i].rights[k] = sm at *
      (try (apply wO pk; exact rfl)); (repeat' (first | exact All.nil | refine All.cons ?_ ?_ | (apply wC pk; exact rfl; exact rfl) | (apply wE pk; exact rfl; exact rfl) | (apply wX pk; exact rfl) | (apply wN pk; exact rfl) | (apply wD pk [] []; kernel_rfl; exact rfl; exact rfl) | exact Imp.one | exact Imp.same | refine Imp.left ?_ | exact ImpX.one | exact ImpX.same | exact ImpX.mk | refine ImpX.up ?_ | refine ImpX.old ?_ | (apply pwp_condC; simp only [cond_true, cond_false]) | (refine pwp_cond rfl (fun h => ?_) (fun h => ?_) <;> (try simp at h) <;> (first | done | (exfalso; omega) | skip)) | (refine pwp_ret ?_; refine ⟨_, _, _, rfl, Wk.refl _, StSub.refl _, ?_, rfl⟩; (first | rfl | ((rw [hF (by grind)]); done) | skip)) | (apply callS; exact rfl; exact rfl; exact rfl; (intro _; first | (apply ha <;> first | assumption | omega) | (apply hsm <;> first | assumption | omega)); rotate_left; exact rfl; exact rfl) | (apply callV; exact rfl; exact rfl; exact rfl; (intro _; first | (apply ha <;> first | assumption | omega) | (apply hsm <;> first | assumption | omega)); rotate_left; exact rfl; exact rfl) | (apply idxS pk; exact rfl; exact rfl; exact rfl; exact rfl; exact rfl; exact rfl; rotate_left; exact rfl; (intro _; exact rfl); (intro _; apply get_map <;> omega); (intro _; exact rfl); exact rfl) | (refine ⟨⟨n + 1, by omega, hS (by grind)⟩, ?_, by simp only; omega⟩; (first | exact Sub.nil _ _ _ (StSub.refl _) rfl | ((repeat (first | refine Sub.pv ?_ rfl | refine Sub.var ?_ rfl rfl)); (first | exact Sub.nil _ _ _ (StSub.refl _) rfl | exact Sub.nil _ _ _ (stsub_swap (by assumption)) rfl | exact Sub.nil _ _ _ (stsub_eq (by first | rfl | exact upd_eta (by assumption) | ((simp only [St.pv, St.put, St.sst, St.setv, St.nil, St.var, upd_upd]); first | done | rfl))) rfl | (refine Sub.nil _ _ _ (stsub_eq ?_) rfl; (simp only [St.pv, St.put, St.sst, St.setv, St.nil, St.var, upd_upd]); (rw [upd4 (by assumption)]); first | done | rfl))))) | (intros; omega) | (intros; simp only [List.length_map]; omega)))
    replace hend3 := Decidable.of_not_not hend3
    have hB2 : ∀ n (h : n < k), bh o[i].rights[n] o[i].rights[k] := fun m hm => hN m (by omega) (by omega)
    (try (apply wO pk; exact rfl)); (repeat' (first | exact All.nil | refine All.cons ?_ ?_ | (apply wC pk; exact rfl; exact rfl) | (apply wE pk; exact rfl; exact rfl) | (apply wX pk; exact rfl) | (apply wN pk; exact rfl) | (apply wD pk [] []; kernel_rfl; exact rfl; exact rfl) | exact Imp.one | exact Imp.same | refine Imp.left ?_ | exact ImpX.one | exact ImpX.same | exact ImpX.mk | refine ImpX.up ?_ | refine ImpX.old ?_ | (apply pwp_condC; simp only [cond_true, cond_false]) | (refine pwp_cond rfl (fun h => ?_) (fun h => ?_) <;> (try simp at h) <;> (first | done | (exfalso; omega) | skip)) | (refine pwp_ret ?_; refine ⟨_, _, _, rfl, Wk.refl _, StSub.refl _, ?_, rfl⟩; (first | rfl | skip)) | (intros; omega) | (intros; simp only [List.length_map]; omega)))
    refine pwp_loop (X := { x : Nat // x ≤ i ∧ ∀ j (h : j < x) (h2 : j < o.length), ∀ y ∈ o[j].rights, clashB y o[i].rights[k] = false }) (fun u => (((((((St.nil 161 st).pv 1 (.seq (o.map Ow.cells))).var 2 24 ((scC s))).pv 5 ((PV.val (Value.int .i64 ((i : Nat)))))).var 6 49 ((o[i]).cells)).pv 7 ((PV.val (Value.int .i64 ((k : Nat)))))).pv 14 ((PV.val (Value.int .i64 ((u.1 : Nat))))))) (fun u => i - u.1) ⟨0, by omega, fun _ h => absurd h (Nat.not_lt_zero _)⟩ ?_ (fun u => ?_)
    · (first | exact Sub.nil _ _ _ (StSub.refl _) rfl | ((repeat (first | refine Sub.pv ?_ rfl | refine Sub.var ?_ rfl rfl)); (first | exact Sub.nil _ _ _ (StSub.refl _) rfl | exact Sub.nil _ _ _ (stsub_swap (by assumption)) rfl | exact Sub.nil _ _ _ (stsub_eq (by first | rfl | exact upd_eta (by assumption) | ((simp only [St.pv, St.put, St.sst, St.setv, St.nil, St.var, upd_upd]); first | done | rfl))) rfl | (refine Sub.nil _ _ _ (stsub_eq ?_) rfl; (simp only [St.pv, St.put, St.sst, St.setv, St.nil, St.var, upd_upd]); (rw [upd4 (by assumption)]); first | done | rfl))))
    obtain ⟨j, hj, hJ⟩ := u
    dsimp only
    by_cases hend4 : i ≤ j
    · have hJ2 : ∀ j (h : j < i), ∀ x ∈ o[j].rights, clashB x o[i].rights[k] = false := fun m hm => hJ m (by omega) (by omega)
      (try (apply wO pk; exact rfl)); (repeat' (first | exact All.nil | refine All.cons ?_ ?_ | (apply wC pk; exact rfl; exact rfl) | (apply wE pk; exact rfl; exact rfl) | (apply wX pk; exact rfl) | (apply wN pk; exact rfl) | (apply wD pk [] []; kernel_rfl; exact rfl; exact rfl) | exact Imp.one | exact Imp.same | refine Imp.left ?_ | exact ImpX.one | exact ImpX.same | exact ImpX.mk | refine ImpX.up ?_ | refine ImpX.old ?_ | (apply pwp_condC; simp only [cond_true, cond_false]) | (refine pwp_cond rfl (fun h => ?_) (fun h => ?_) <;> (try simp at h) <;> (first | done | (exfalso; omega) | skip)) | (refine pwp_ret ?_; refine ⟨_, _, _, rfl, Wk.refl _, StSub.refl _, ?_, rfl⟩; (first | rfl | skip)) | (refine ⟨⟨k + 1, by omega, hK.step hlk hokR hB2 hJ2⟩, ?_, by simp only; omega⟩; (first | exact Sub.nil _ _ _ (StSub.refl _) rfl | ((repeat (first | refine Sub.pv ?_ rfl | refine Sub.var ?_ rfl rfl)); (first | exact Sub.nil _ _ _ (StSub.refl _) rfl | exact Sub.nil _ _ _ (stsub_swap (by assumption)) rfl | exact Sub.nil _ _ _ (stsub_eq (by first | rfl | exact upd_eta (by assumption) | ((simp only [St.pv, St.put, St.sst, St.setv, St.nil, St.var, upd_upd]); first | done | rfl))) rfl | (refine Sub.nil _ _ _ (stsub_eq ?_) rfl; (simp only [St.pv, St.put, St.sst, St.setv, St.nil, St.var, upd_upd]); (rw [upd4 (by assumption)]); first | done | rfl))))) | (intros; omega) | (intros; simp only [List.length_map]; omega)))
    have hlj : j < o.length := by omega
    have hjl := hl.rts o[j] (List.getElem_mem hlj)
    (try (apply wO pk; exact rfl)); (repeat' (first | exact All.nil | refine All.cons ?_ ?_ | (apply wC pk; exact rfl; exact rfl) | (apply wE pk; exact rfl; exact rfl) | (apply wX pk; exact rfl) | (apply wN pk; exact rfl) | (apply wD pk [] []; kernel_rfl; exact rfl; exact rfl) | exact Imp.one | exact Imp.same | refine Imp.left ?_ | exact ImpX.one | exact ImpX.same | exact ImpX.mk | refine ImpX.up ?_ | refine ImpX.old ?_ | (apply pwp_condC; simp only [cond_true, cond_false]) | (refine pwp_cond rfl (fun h => ?_) (fun h => ?_) <;> (try simp at h) <;> (first | done | (exfalso; omega) | skip)) | (refine pwp_ret ?_; refine ⟨_, _, _, rfl, Wk.refl _, StSub.refl _, ?_, rfl⟩; (first | rfl | skip)) | (intros; omega) | (intros; simp only [List.length_map]; omega)))
    refine pwp_loop (X := { x : Nat // x ≤ o[j].rights.length ∧ ∀ m (h : m < x) (h2 : m < o[j].rights.length), clashB o[j].rights[m] o[i].rights[k] = false }) (fun v => ((((((((St.nil 161 st).pv 1 (.seq (o.map Ow.cells))).var 2 24 ((scC s))).pv 5 ((PV.val (Value.int .i64 ((i : Nat)))))).var 6 49 ((o[i]).cells)).pv 7 ((PV.val (Value.int .i64 ((k : Nat)))))).pv 14 ((PV.val (Value.int .i64 ((j : Nat)))))).pv 15 ((PV.val (Value.int .i64 ((v.1 : Nat))))))) (fun v => o[j].rights.length - v.1) ⟨0, by omega, fun _ h => absurd h (Nat.not_lt_zero _)⟩ ?_ (fun v => ?_)
    · (first | exact Sub.nil _ _ _ (StSub.refl _) rfl | ((repeat (first | refine Sub.pv ?_ rfl | refine Sub.var ?_ rfl rfl)); (first | exact Sub.nil _ _ _ (StSub.refl _) rfl | exact Sub.nil _ _ _ (stsub_swap (by assumption)) rfl | exact Sub.nil _ _ _ (stsub_eq (by first | rfl | exact upd_eta (by assumption) | ((simp only [St.pv, St.put, St.sst, St.setv, St.nil, St.var, upd_upd]); first | done | rfl))) rfl | (refine Sub.nil _ _ _ (stsub_eq ?_) rfl; (simp only [St.pv, St.put, St.sst, St.setv, St.nil, St.var, upd_upd]); (rw [upd4 (by assumption)]); first | done | rfl))))
    obtain ⟨m, hm', hM⟩ := v
    dsimp only
    by_cases hend5 : o[j].rights.length ≤ m
    · have hJ3 : ∀ n (h : n < j + 1) (h2 : n < o.length), ∀ y ∈ o[n].rights, clashB y o[i].rights[k] = false := fun n hn h2 y hy => by
        rcases Nat.lt_succ_iff_lt_or_eq.1 hn with q | q
        · exact hJ n q h2 y hy
        · subst q
          obtain ⟨a, ha, rfl⟩ := List.getElem_of_mem hy
          exact hM a (by omega) ha
      (try (apply wO pk; exact rfl)); (repeat' (first | exact All.nil | refine All.cons ?_ ?_ | (apply wC pk; exact rfl; exact rfl) | (apply wE pk; exact rfl; exact rfl) | (apply wX pk; exact rfl) | (apply wN pk; exact rfl) | (apply wD pk [] []; kernel_rfl; exact rfl; exact rfl) | exact Imp.one | exact Imp.same | refine Imp.left ?_ | exact ImpX.one | exact ImpX.same | exact ImpX.mk | refine ImpX.up ?_ | refine ImpX.old ?_ | (apply pwp_condC; simp only [cond_true, cond_false]) | (refine pwp_cond rfl (fun h => ?_) (fun h => ?_) <;> (try simp at h) <;> (first | done | (exfalso; omega) | skip)) | (refine pwp_ret ?_; refine ⟨_, _, _, rfl, Wk.refl _, StSub.refl _, ?_, rfl⟩; (first | rfl | skip)) | (apply idxS pk; exact rfl; exact rfl; exact rfl; exact rfl; exact rfl; exact rfl; rotate_left; exact rfl; (intro _; exact rfl); (intro _; apply get_map <;> omega); (intro _; exact rfl); exact rfl) | (refine ⟨⟨j + 1, by omega, hJ3⟩, ?_, by simp only; omega⟩; (first | exact Sub.nil _ _ _ (StSub.refl _) rfl | ((repeat (first | refine Sub.pv ?_ rfl | refine Sub.var ?_ rfl rfl)); (first | exact Sub.nil _ _ _ (StSub.refl _) rfl | exact Sub.nil _ _ _ (stsub_swap (by assumption)) rfl | exact Sub.nil _ _ _ (stsub_eq (by first | rfl | exact upd_eta (by assumption) | ((simp only [St.pv, St.put, St.sst, St.setv, St.nil, St.var, upd_upd]); first | done | rfl))) rfl | (refine Sub.nil _ _ _ (stsub_eq ?_) rfl; (simp only [St.pv, St.put, St.sst, St.setv, St.nil, St.var, upd_upd]); (rw [upd4 (by assumption)]); first | done | rfl))))) | (intros; omega) | (intros; simp only [List.length_map]; omega)))
    have hlm : m < o[j].rights.length := by omega
    have hsm := same_spec o[j].rights[m] o[i].rights[k]
    have hcl := clash_same o[j].rights[m] o[i].rights[k]
    have hF : clashB o[j].rights[m] o[i].rights[k] = true → cp = false := fun q => hno fun h => by
      have := (List.pairwise_iff_getElem.1 h.apart) j i hlj hlt (by omega) _ (List.getElem_mem hlm) _ (List.getElem_mem hlk)
      rw [q] at this; cases this
    have hS : clashB o[j].rights[m] o[i].rights[k] = false → ∀ n (h : n < m + 1) (h2 : n < o[j].rights.length), clashB o[j].rights[n] o[i].rights[k] = false := fun q n hn h2 => by
      rcases Nat.lt_succ_iff_lt_or_eq.1 hn with q2 | q2
      · exact hM n q2 h2
      · subst q2; exact q
    rw [← Bool.not_eq_true, hcl] at hS
    rw [hcl] at hF
    clear hcl
    generalize sameB o[j].rights[m] o[i].rights[k] = sm at *
    (try (apply wO pk; exact rfl)); (repeat' (first | exact All.nil | refine All.cons ?_ ?_ | (apply wC pk; exact rfl; exact rfl) | (apply wE pk; exact rfl; exact rfl) | (apply wX pk; exact rfl) | (apply wN pk; exact rfl) | (apply wD pk [] []; kernel_rfl; exact rfl; exact rfl) | exact Imp.one | exact Imp.same | refine Imp.left ?_ | exact ImpX.one | exact ImpX.same | exact ImpX.mk | refine ImpX.up ?_ | refine ImpX.old ?_ | (apply pwp_condC; simp only [cond_true, cond_false]) | (refine pwp_cond rfl (fun h => ?_) (fun h => ?_) <;> (try simp at h) <;> (first | done | (exfalso; omega) | skip)) | (refine pwp_ret ?_; refine ⟨_, _, _, rfl, Wk.refl _, StSub.refl _, ?_, rfl⟩; (first | rfl | ((rw [hF (by grind)]); done) | skip)) | (apply callS; exact rfl; exact rfl; exact rfl; (intro _; first | (apply hsm <;> first | assumption | omega)); rotate_left; exact rfl; exact rfl) | (apply callV; exact rfl; exact rfl; exact rfl; (intro _; first | (apply hsm <;> first | assumption | omega)); rotate_left; exact rfl; exact rfl) | (apply idxS pk; exact rfl; exact rfl; exact rfl; exact rfl; exact rfl; exact rfl; rotate_left; exact rfl; (intro _; exact rfl); (intro _; apply get_map <;> omega); (intro _; exact rfl); exact rfl) | (refine ⟨⟨m + 1, by omega, hS (by grind)⟩, ?_, by simp only; omega⟩; (first | exact Sub.nil _ _ _ (StSub.refl _) rfl | ((repeat (first | refine Sub.pv ?_ rfl | refine Sub.var ?_ rfl rfl)); (first | exact Sub.nil _ _ _ (StSub.refl _) rfl | exact Sub.nil _ _ _ (stsub_swap (by assumption)) rfl | exact Sub.nil _ _ _ (stsub_eq (by first | rfl | exact upd_eta (by assumption) | ((simp only [St.pv, St.put, St.sst, St.setv, St.nil, St.var, upd_upd]); first | done | rfl))) rfl | (refine Sub.nil _ _ _ (stsub_eq ?_) rfl; (simp only [St.pv, St.put, St.sst, St.setv, St.nil, St.var, upd_upd]); (rw [upd4 (by assumption)]); first | done | rfl))))) | (intros; omega) | (intros; simp only [List.length_map]; omega)))
end Go.Proofs.YtbcdgocepnkpeaaGreat
