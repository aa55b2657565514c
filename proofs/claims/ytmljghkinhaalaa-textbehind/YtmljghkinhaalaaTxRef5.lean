import Derived.Test.YtmljghkinhaalaaTxRef4
set_option linter.unusedSimpArgs false
set_option linter.unusedVariables false
namespace Go.Proofs.Ytmljghkinhaalaa
open Go Go.Abs
attribute [local irreducible] Ev PWp
set_option maxRecDepth 10000
set_option maxHeartbeats 4000000
section
variable {P : Program} {tt : TT} {l : List Oper} {d : Md} {r : List Oper} {s : St} {K : St → Prop} {t : Nat} {ty : TypeId} {pos : String} {after : Array Edge}
/-- A new list of things that are all nought. -/
theorem mkSl {α : Type} {f : α → List PV} (pk : Pk P tt) (z0 : α) {T e : TypeId} {x y : Operand} {kx ky : IntKind} {n B sz : Nat} {z : List Value} {a b : Int} (hx : opd s x = some (.val (.int kx a))) (hy : opd s y = some (.val (.int ky b))) (hk : tiK tt T = some (.slice e)) (hs : tiSize tt e = some sz) (hz : tiZ tt e = some z) (hzl : z.length = sz) (hpos : Nat.blt 0 sz = true) (hf0 : z.map .val = f z0) (hf : flagsB s [x, y] = true) (hd : Nat.blt t s.n = true) (ht : tagZ d l r = true)
    (ha : a = n) (hb' : b = n) (hB : P.bytesOf e = B) (hb : n * B ≤ 140737488355328) (h62 : n < 4611686018427387904) (k : ∀ id, s.st id = none → Ev P l d r ((s.sst (upd s.st id (some (.arr e ((List.replicate n z0).map f))))).pv t (.vec id sz 0 n)) K) : Ev P l d (⟨some t, .makeSlice T x y, ty, pos, after, none⟩ :: r) s K := by
  subst ha hb'
  refine ev_opz (opz_makeSlice pk.htt hx hy hk hs hz hzl (by simpa [Nat.blt_eq] using hpos) hB hb h62) (fun z hz => opl_mem (fun _ _ _ e => by cases e) hz) hf hd ht fun zz hzz => ?_
  obtain ⟨id, h1, rfl⟩ := hzz
  have := k id h1
  rw [List.map_replicate, ← hf0] at this
  exact this
end
/-- Where a part stands. -/
def posP (D : List Pt) (p : Pt) : Int := atP D (nameOf p)
theorem count_pos {D : List Pt} (hn : (D.map nameOf).Nodup) : ∀ (m : Nat), m ≤ D.length → D.countP (fun p => decide (posP D p < m)) = m := by
  intro m hm
  have h1 : (D.take m).countP (fun p => decide (posP D p < m)) = m := by
    rw [List.countP_eq_length.2 fun p hp => ?_, List.length_take]; omega
    obtain ⟨j, hj, rfl⟩ := List.getElem_of_mem hp
    simp only [List.length_take] at hj
    rw [List.getElem_take, decide_eq_true_eq, posP, atP_self hn (by omega)]; omega
  have h2 : (D.drop m).countP (fun p => decide (posP D p < m)) = 0 := by
    rw [List.countP_eq_zero]
    intro p hp
    obtain ⟨j, hj, rfl⟩ := List.getElem_of_mem hp
    simp only [List.length_drop] at hj
    rw [List.getElem_drop, decide_eq_true_eq, posP, atP_self hn (by omega)]; omega
  calc D.countP (fun p => decide (posP D p < m)) = (D.take m ++ D.drop m).countP (fun p => decide (posP D p < m)) := by rw [List.take_append_drop]
    _ = m := by rw [List.countP_append, h1, h2]; rfl
theorem rorder_spec (l : List Pt) (hl : l.length < 1000000000000) : PF Try.prog 16 [.seq (l.map Pt.cells)] (.seq ((orderP l).map Pt.cells)) := by
  refine pf_list cellsP fun st => ?_
  by_cases hok : Whole l ∧ l.length ≤ 2000
  · obtain ⟨hW, h2000⟩ := hok
    obtain ⟨hp, hs⟩ := orderP_whole hW h2000
    obtain ⟨D, hD⟩ : ∃ D, orderP l = D := ⟨_, rfl⟩
    rw [hD] at hp hs ⊢
    have hDn : (D.map nameOf).Nodup := (hp.map nameOf).nodup_iff.2 hW.nodup
    have hDl : D.length = l.length := hp.length_eq
    have hpos : ∀ p ∈ l, ∃ (j : Nat) (hj : j < D.length), D[j] = p ∧ posP D p = j := fun p hpm => by
      obtain ⟨j, hj, e⟩ := List.getElem_of_mem (hp.symm.subset hpm)
      exact ⟨j, hj, e, by rw [← e, posP, atP_self hDn hj]⟩
    have hlt : ∀ p ∈ l, ∀ q ∈ l, (posP D p < posP D q ↔ ltP l p q) := fun p hpm q hqm => by
      obtain ⟨i, hi, e1, p1⟩ := hpos p hpm
      obtain ⟨j, hj, e2, p2⟩ := hpos q hqm
      have hPw := List.pairwise_iff_getElem.1 hs
      rw [p1, p2]
      constructor
      · intro h; rw [← e1, ← e2]; exact hPw i j hi hj (by omega)
      · intro h
        rcases Nat.lt_trichotomy i j with k | k | k
        · omega
        · subst k; rw [← e1, ← e2] at h; exact absurd h (ltP_irr hW.named _)
        · have := hPw j i hj hi k; rw [e1, e2] at this; exact (ltP_asym hW.named h this).elim
    have hwl : wholeP l = true := (wholeP_iff l).2 hW
    have hsp := rwhole_spec l hl
    rw [hwl] at hsp
    refine pc_of tt_ok Try.func16 (by kernel_rfl) rfl rfl rfl rfl ?_
    (try (apply wO pk; exact rfl)); (repeat' (first | exact All.nil | refine All.cons ?_ ?_ | (apply wC pk; exact rfl; exact rfl) | (apply wE pk; exact rfl; exact rfl) | (apply wX pk; exact rfl) | (apply wN pk; exact rfl) | (apply wD pk [] []; kernel_rfl; exact rfl; exact rfl) | exact Imp.one | exact Imp.same | refine Imp.left ?_ | exact ImpX.one | exact ImpX.same | exact ImpX.mk | refine ImpX.up ?_ | refine ImpX.old ?_ | (apply pwp_condC; simp only [cond_true, cond_false]) | (refine pwp_cond rfl (fun h => ?_) (fun h => ?_) <;> (try simp at h) <;> (first | done | (exfalso; omega) | skip)) | (refine pwp_ret ?_; refine ⟨_, _, _, rfl, Wk.refl _, StSub.refl _, ?_, rfl⟩; (first | rfl | skip)) | (apply callS; exact rfl; exact rfl; exact rfl; (intro _; first | (apply hsp <;> first | assumption | omega)); rotate_left; exact rfl; exact rfl) | (apply callV; exact rfl; exact rfl; exact rfl; (intro _; first | (apply hsp <;> first | assumption | omega)); rotate_left; exact rfl; exact rfl) | (apply mkSl pk Pt.zero (f := Pt.cells) (n := l.length) (B := 96); exact rfl; exact rfl; exact rfl; exact rfl; exact rfl; exact rfl; exact rfl; exact rfl; exact rfl; exact rfl; exact rfl; (focus (simp; done)); (focus (simp; done)); exact bytesP; omega; omega; intro id hid) | (intros; omega) | (intros; simp only [List.length_map]; omega)))
    have hid : st id = none := hid
    refine pwp_loop (X := { x : Nat × List Pt // x.1 ≤ l.length ∧ x.2.length = l.length ∧ ∀ j (h : j < x.1) (h2 : j < l.length) (m : Nat), posP D (l[j]'h2) = (m : Int) → x.2[m]? = some (l[j]'h2) }) (fun i => ((((St.nil 51 (upd st id (some (.arr 39 (i.1.2.map Pt.cells))))).pv 0 (.seq (l.map Pt.cells))).pv 4 (.vec id 11 0 l.length)).pv 5 ((PV.val (Value.int .i64 ((i.1.1 : Nat))))))) (fun i => l.length - i.1.1) ⟨(0, List.replicate l.length Pt.zero), by simp, by simp, by simp⟩ ?_ (fun i => ?_)
    · (first | exact Sub.nil _ _ _ (StSub.refl _) rfl | ((repeat (first | refine Sub.pv ?_ rfl | refine Sub.var ?_ rfl rfl)); (first | exact Sub.nil _ _ _ (StSub.refl _) rfl | exact Sub.nil _ _ _ (stsub_swap (by assumption)) rfl | exact Sub.nil _ _ _ (stsub_eq (by first | rfl | exact upd_eta (by assumption) | ((simp only [St.pv, St.put, St.sst, St.setv, St.nil, St.var, upd_upd]); first | done | rfl))) rfl | (refine Sub.nil _ _ _ (stsub_eq ?_) rfl; (simp only [St.pv, St.put, St.sst, St.setv, St.nil, St.var, upd_upd]); (rw [upd4 (by assumption)]); first | done | rfl))))
    obtain ⟨⟨i, O⟩, hi, hO, hinv⟩ := i
    simp only at hi hO hinv
    dsimp only
    by_cases him : i < l.length
    · obtain ⟨f, hf⟩ : ∃ f : Pt → Bool, f = fun p => decide (posP D p < posP D (l[i]'him)) := ⟨_, rfl⟩
      (try (apply wO pk; exact rfl)); (repeat' (first | exact All.nil | refine All.cons ?_ ?_ | (apply wC pk; exact rfl; exact rfl) | (apply wE pk; exact rfl; exact rfl) | (apply wX pk; exact rfl) | (apply wN pk; exact rfl) | (apply wD pk [] []; kernel_rfl; exact rfl; exact rfl) | exact Imp.one | exact Imp.same | refine Imp.left ?_ | exact ImpX.one | exact ImpX.same | exact ImpX.mk | refine ImpX.up ?_ | refine ImpX.old ?_ | (apply pwp_condC; simp only [cond_true, cond_false]) | (refine pwp_cond rfl (fun h => ?_) (fun h => ?_) <;> (try simp at h) <;> (first | done | (exfalso; omega) | skip)) | (refine pwp_ret ?_; refine ⟨_, _, _, rfl, Wk.refl _, StSub.refl _, ?_, rfl⟩; (first | rfl | skip)) | (apply idxS pk; exact rfl; exact rfl; exact rfl; exact rfl; exact rfl; exact rfl; rotate_left; exact rfl; (intro _; exact rfl); (intro _; apply get_map <;> omega); (intro _; exact rfl); exact rfl) | (intros; omega) | (intros; simp only [List.length_map]; omega)))
      refine pwp_loop (X := { k : Nat // k ≤ l.length }) (fun y => ((((((St.nil 51 (upd st id (some (.arr 39 (O.map Pt.cells))))).pv 0 (.seq (l.map Pt.cells))).pv 4 (.vec id 11 0 l.length)).pv 5 ((PV.val (Value.int .i64 ((i : Nat)))))).pv 6 ((PV.val (Value.int .i64 ((((l.take y.1).countP f : Nat) : Int)))))).pv 7 ((PV.val (Value.int .i64 ((y.1 : Nat))))))) (fun y => l.length - y.1) ⟨0, by omega⟩ ?_ (fun y => ?_)
      · (first | exact Sub.nil _ _ _ (StSub.refl _) rfl | ((repeat (first | refine Sub.pv ?_ rfl | refine Sub.var ?_ rfl rfl)); (first | exact Sub.nil _ _ _ (StSub.refl _) rfl | exact Sub.nil _ _ _ (stsub_swap (by assumption)) rfl | exact Sub.nil _ _ _ (stsub_eq (by first | rfl | exact upd_eta (by assumption) | ((simp only [St.pv, St.put, St.sst, St.setv, St.nil, St.var, upd_upd]); first | done | rfl))) rfl | (refine Sub.nil _ _ _ (stsub_eq ?_) rfl; (simp only [St.pv, St.put, St.sst, St.setv, St.nil, St.var, upd_upd]); (rw [upd4 (by assumption)]); first | done | rfl))))
      obtain ⟨k, hk⟩ := y
      dsimp only
      have hcl : (l.take k).countP f ≤ k := Nat.le_trans (List.countP_le_length) (by rw [List.length_take]; omega)
      by_cases hkl : k < l.length
      · have hstep : (l.take (k + 1)).countP f = (l.take k).countP f + if f (l[k]'hkl) = true then 1 else 0 := by
          rw [List.take_succ_eq_append_getElem hkl, List.countP_append]; simp [List.countP_singleton]
        obtain ⟨s, hs1⟩ := Anc.ex hW _ (l[k]'hkl) (List.getElem_mem hkl) (Nat.le_refl _)
        obtain ⟨t, ht1⟩ := Anc.ex hW _ (l[i]'him) (List.getElem_mem him) (Nat.le_refl _)
        have hb : f (l[k]'hkl) = true ↔ lexLt s t := by
          rw [hf, decide_eq_true_eq, hlt _ (List.getElem_mem hkl) _ (List.getElem_mem him)]
          constructor
          · rintro ⟨s', t', h1, h2, h3⟩; rw [hs1.fn hW.named h1, ht1.fn hW.named h2]; exact h3
          · exact fun h => ⟨s, t, hs1, ht1, h⟩
        have hself : k = i → f (l[k]'hkl) = false := fun e => by subst e; rw [hf]; simp
        (try (apply wO pk; exact rfl)); (repeat' (first | exact All.nil | refine All.cons ?_ ?_ | (apply wC pk; exact rfl; exact rfl) | (apply wE pk; exact rfl; exact rfl) | (apply wX pk; exact rfl) | (apply wN pk; exact rfl) | (apply wD pk [] []; kernel_rfl; exact rfl; exact rfl) | exact Imp.one | exact Imp.same | refine Imp.left ?_ | exact ImpX.one | exact ImpX.same | exact ImpX.mk | refine ImpX.up ?_ | refine ImpX.old ?_ | (apply pwp_condC; simp only [cond_true, cond_false]) | (refine pwp_cond rfl (fun h => ?_) (fun h => ?_) <;> (try simp at h) <;> (first | done | (exfalso; omega) | skip)) | (refine pwp_ret ?_; refine ⟨_, _, _, rfl, Wk.refl _, StSub.refl _, ?_, rfl⟩; (first | rfl | skip)) | (apply callS; exact rfl; exact rfl; exact rfl; (intro _; first | (apply (rstands_spec hW hl hkl him hs1 ht1 (f (l[k]'hkl)) hb) <;> first | assumption | omega)); rotate_left; exact rfl; exact rfl) | (apply callV; exact rfl; exact rfl; exact rfl; (intro _; first | (apply (rstands_spec hW hl hkl him hs1 ht1 (f (l[k]'hkl)) hb) <;> first | assumption | omega)); rotate_left; exact rfl; exact rfl) | (refine ⟨⟨k + 1, by omega⟩, ?_, by simp only; omega⟩; (first | exact Sub.nil _ _ _ (StSub.refl _) rfl | ((repeat (first | refine Sub.pv ?_ rfl | refine Sub.var ?_ rfl rfl | refine Sub.pv' ?_ rfl (by (first | (rw [hstep, if_pos (by assumption)]; simp; done) | (rw [hstep, if_neg (by rw [h]; simp)]; rfl) | (rw [hstep, if_neg (by rw [hself (by omega)]; simp)]; rfl))) | refine Sub.var' ?_ rfl rfl (by (first | (rw [hstep, if_pos (by assumption)]; simp; done) | (rw [hstep, if_neg (by rw [h]; simp)]; rfl) | (rw [hstep, if_neg (by rw [hself (by omega)]; simp)]; rfl))))); (first | exact Sub.nil _ _ _ (StSub.refl _) rfl | exact Sub.nil _ _ _ (stsub_swap (by assumption)) rfl | exact Sub.nil _ _ _ (stsub_eq (by first | rfl | exact upd_eta (by assumption) | ((simp only [St.pv, St.put, St.sst, St.setv, St.nil, St.var, upd_upd]); first | done | rfl))) rfl | (refine Sub.nil _ _ _ (stsub_eq ?_) rfl; (simp only [St.pv, St.put, St.sst, St.setv, St.nil, St.var, upd_upd]); (rw [upd4 (by assumption)]); first | done | rfl))))) | (intros; omega) | (intros; simp only [List.length_map]; omega)))
      · obtain ⟨m, hm, hme, hpm⟩ := hpos _ (List.getElem_mem him)
        have htk : l.take k = l := List.take_of_length_le (by omega)
        have hc : (l.take k).countP f = m := by
          rw [htk, ← (hp.countP_eq f), hf, hpm]
          exact count_pos hDn m (by omega)
        rw [hc]
        have hmO : m < O.length := by omega
        have hnext : ∀ j (h : j < i + 1) (h2 : j < l.length) (n : Nat), posP D (l[j]'h2) = (n : Int) → (O.set m (l[i]'him))[n]? = some (l[j]'h2) := fun j h1 h2 n hn => by
          by_cases hmn : m = n
          · subst hmn
            rw [List.getElem?_set_self hmO]
            obtain ⟨j', hj', e1, e2⟩ := hpos _ (List.getElem_mem h2)
            have : j' = m := by omega
            subst this
            rw [← e1, hme]
          · rw [List.getElem?_set_ne hmn]
            rcases Nat.lt_succ_iff_lt_or_eq.1 h1 with q | q
            · exact hinv j q h2 n hn
            · subst q; omega
        (try (apply wO pk; exact rfl)); (repeat' (first | (apply stF pk (f := Pt.cells) (O[m]'hmO) (l[i]'him); exact rfl; exact rfl; exact upd_same _ _ _; exact rfl; exact List.getElem?_eq_getElem hmO; exact rfl; exact rfl) | exact All.nil | refine All.cons ?_ ?_ | (apply wC pk; exact rfl; exact rfl) | (apply wE pk; exact rfl; exact rfl) | (apply wX pk; exact rfl) | (apply wN pk; exact rfl) | (apply wDx pk; exact rfl; kernel_rfl; exact rfl; exact rfl) | exact Imp.one | exact Imp.same | refine Imp.left ?_ | exact ImpX.one | exact ImpX.same | exact ImpX.mk | refine ImpX.up ?_ | refine ImpX.old ?_ | (apply pwp_condC; simp only [cond_true, cond_false]) | (refine pwp_cond rfl (fun h => ?_) (fun h => ?_) <;> (try simp at h) <;> (first | done | (exfalso; omega) | skip)) | (refine pwp_ret ?_; refine ⟨_, _, _, rfl, Wk.refl _, StSub.refl _, ?_, rfl⟩; (first | rfl | skip)) | (apply idxS pk; exact rfl; exact rfl; exact rfl; exact rfl; exact rfl; exact rfl; rotate_left; exact rfl; (intro _; exact rfl); (intro _; apply get_map <;> omega); (intro _; exact rfl); exact rfl) | (apply ncA; exact rfl; exact rfl; exact rfl; rotate_left; exact rfl; exact rfl) | (apply ldR pk; exact rfl; exact rfl; rotate_left; exact rfl; (first | exact upd_same _ _ _ | assumption | (focus ((repeat (first | exact upd_same _ _ _ | assumption | refine (upd_ne (by assumption)).trans ?_)); done))); exact rfl; exact rfl) | (apply stR pk; exact rfl; exact rfl; (first | exact upd_same _ _ _ | assumption | (focus ((repeat (first | exact upd_same _ _ _ | assumption | refine (upd_ne (by assumption)).trans ?_)); done))); exact rfl; exact rfl) | (apply ixA pk; exact rfl; exact rfl; exact rfl; exact rfl; exact rfl; rotate_left; exact rfl; (intro hw; (first | exact (show _ = ((m : Nat) : Int) from by omega) | (simp [gw] at hw; first | exact (show _ = ((m : Nat) : Int) from by omega) | (refine (show _ = ((0 : Nat) : Int) from ?_); omega)) | exact rfl)); (intro hw; (first | omega | (simp [gw] at hw; omega) | (simp only [Array.size_setIfInBounds]; omega))); exact rfl; exact Nat.zero_add _) | (apply ldA pk Pt.elem; exact rfl; exact rfl; rotate_left; exact rfl; (first | exact upd_same _ _ _ | assumption | (focus ((repeat (first | exact upd_same _ _ _ | assumption | refine (upd_ne (by assumption)).trans ?_)); done))); (intro hw; (first | omega | (simp [gw] at hw; omega) | (simp only [Array.size_setIfInBounds]; omega))); exact rfl) | (apply stA pk Pt.elem; exact rfl; exact rfl; exact rfl; (first | exact upd_same _ _ _ | assumption | (focus ((repeat (first | exact upd_same _ _ _ | assumption | refine (upd_ne (by assumption)).trans ?_)); done))); (first | omega | (simp only [Array.size_setIfInBounds]; omega)); exact rfl) | (refine ⟨⟨(i + 1, O.set m (l[i]'him)), by simp only; omega, by simp only [List.length_set]; exact hO, hnext⟩, ?_, by simp only; omega⟩; (first | exact Sub.nil _ _ _ (StSub.refl _) rfl | ((repeat (first | refine Sub.pv ?_ rfl | refine Sub.var ?_ rfl rfl)); (first | exact Sub.nil _ _ _ (StSub.refl _) rfl | exact Sub.nil _ _ _ (stsub_swap (by assumption)) rfl | exact Sub.nil _ _ _ (stsub_eq (by first | rfl | exact upd_eta (by assumption) | ((simp only [St.pv, St.put, St.sst, St.setv, St.nil, St.var, upd_upd]); first | done | rfl))) rfl | (refine Sub.nil _ _ _ (stsub_eq ?_) rfl; (simp only [St.pv, St.put, St.sst, St.setv, St.nil, St.var, upd_upd]); (rw [upd4 (by assumption)]); first | done | rfl))))) | (intros; omega) | (intros; simp only [List.length_map]; omega)))
    · have hOD : O = D := by
        apply List.ext_getElem? 
        intro m
        by_cases hm : m < D.length
        · obtain ⟨j, hj, e⟩ := List.getElem_of_mem (hp.subset (List.getElem_mem hm))
          have := hinv j (by omega) hj m (by rw [e, posP, atP_self hDn hm])
          rw [this, e, List.getElem?_eq_getElem hm]
        · rw [List.getElem?_eq_none (by omega), List.getElem?_eq_none (by omega)]
      subst hOD
      (try (apply wO pk; exact rfl)); (repeat' (first | exact All.nil | refine All.cons ?_ ?_ | (apply wC pk; exact rfl; exact rfl) | (apply wE pk; exact rfl; exact rfl) | (apply wX pk; exact rfl) | (apply wN pk; exact rfl) | (apply wDx pk; exact rfl; kernel_rfl; exact rfl; exact rfl) | exact Imp.one | exact Imp.same | refine Imp.left ?_ | exact ImpX.one | exact ImpX.same | exact ImpX.mk | refine ImpX.up ?_ | refine ImpX.old ?_ | (apply pwp_condC; simp only [cond_true, cond_false]) | (refine pwp_cond rfl (fun h => ?_) (fun h => ?_) <;> (try simp at h) <;> (first | done | (exfalso; omega) | skip)) | ((try refine pwp_ret ?_); (first | (refine ⟨_, _, _, rfl, Wk.refl _, StSub.refl _, ?_⟩; ((exact .inl ⟨id, by rw [List.length_map, hO], hid, upd_same _ _ _, stsub_new hid⟩)); done) | (refine ⟨_, _, ?zs, rfl, Wk.refl _, ?zh, ?zr⟩; (case zh => (refine stsub_over ?_ (by assumption); (repeat refine stsub_over ?_ (by assumption)); exact StSub.refl _)); (case zr => ((exact .inl ⟨id, by rw [List.length_map, hO], hid, upd_same _ _ _, stsub_new hid⟩)))) | refine ⟨_, _, _, rfl, Wk.refl _, StSub.refl _, ?_⟩)) | (apply ncA; exact rfl; exact rfl; exact rfl; rotate_left; exact rfl; exact rfl) | (apply ldR pk; exact rfl; exact rfl; rotate_left; exact rfl; (first | exact upd_same _ _ _ | assumption | (focus ((repeat (first | exact upd_same _ _ _ | assumption | refine (upd_ne (by assumption)).trans ?_)); done))); exact rfl; exact rfl) | (apply stR pk; exact rfl; exact rfl; (first | exact upd_same _ _ _ | assumption | (focus ((repeat (first | exact upd_same _ _ _ | assumption | refine (upd_ne (by assumption)).trans ?_)); done))); exact rfl; exact rfl) | (intros; omega) | (intros; simp only [List.length_map]; omega)))
  · have hno : orderP l = [] := orderP_not hok
    rw [hno]
    have hw : wholeP l = true → ¬ l.length ≤ 2000 := fun h h2 => hok ⟨(wholeP_iff l).1 h, h2⟩
    have hsp := rwhole_spec l hl
    cases hwv : wholeP l with
    | false =>
      rw [hwv] at hsp
      refine pc_of tt_ok Try.func16 (by kernel_rfl) rfl rfl rfl rfl ?_
      (try (apply wO pk; exact rfl)); (repeat' (first | exact All.nil | refine All.cons ?_ ?_ | (apply wC pk; exact rfl; exact rfl) | (apply wE pk; exact rfl; exact rfl) | (apply wX pk; exact rfl) | (apply wN pk; exact rfl) | (apply wDx pk; exact rfl; kernel_rfl; exact rfl; exact rfl) | exact Imp.one | exact Imp.same | refine Imp.left ?_ | exact ImpX.one | exact ImpX.same | exact ImpX.mk | refine ImpX.up ?_ | refine ImpX.old ?_ | (apply pwp_condC; simp only [cond_true, cond_false]) | (refine pwp_cond rfl (fun h => ?_) (fun h => ?_) <;> (try simp at h) <;> (first | done | (exfalso; omega) | skip)) | ((try refine pwp_ret ?_); (first | (refine ⟨_, _, _, rfl, Wk.refl _, StSub.refl _, ?_⟩; ((exact .inr ⟨rfl, rfl, StSub.refl _⟩)); done) | (refine ⟨_, _, ?zs, rfl, Wk.refl _, ?zh, ?zr⟩; (case zh => (refine stsub_over ?_ (by assumption); (repeat refine stsub_over ?_ (by assumption)); exact StSub.refl _)); (case zr => ((exact .inr ⟨rfl, rfl, StSub.refl _⟩)))) | refine ⟨_, _, _, rfl, Wk.refl _, StSub.refl _, ?_⟩)) | (apply callS; exact rfl; exact rfl; exact rfl; (intro _; first | (apply hsp <;> first | assumption | omega)); rotate_left; exact rfl; exact rfl) | (apply callV; exact rfl; exact rfl; exact rfl; (intro _; first | (apply hsp <;> first | assumption | omega)); rotate_left; exact rfl; exact rfl) | (apply ncA; exact rfl; exact rfl; exact rfl; rotate_left; exact rfl; exact rfl) | (apply ldR pk; exact rfl; exact rfl; rotate_left; exact rfl; (first | exact upd_same _ _ _ | assumption | (focus ((repeat (first | exact upd_same _ _ _ | assumption | refine (upd_ne (by assumption)).trans ?_)); done))); exact rfl; exact rfl) | (apply stR pk; exact rfl; exact rfl; (first | exact upd_same _ _ _ | assumption | (focus ((repeat (first | exact upd_same _ _ _ | assumption | refine (upd_ne (by assumption)).trans ?_)); done))); exact rfl; exact rfl) | (intros; omega) | (intros; simp only [List.length_map]; omega)))
    | true =>
      rw [hwv] at hsp
      have hl2 := hw hwv
      refine pc_of tt_ok Try.func16 (by kernel_rfl) rfl rfl rfl rfl ?_
      (try (apply wO pk; exact rfl)); (repeat' (first | exact All.nil | refine All.cons ?_ ?_ | (apply wC pk; exact rfl; exact rfl) | (apply wE pk; exact rfl; exact rfl) | (apply wX pk; exact rfl) | (apply wN pk; exact rfl) | (apply wDx pk; exact rfl; kernel_rfl; exact rfl; exact rfl) | exact Imp.one | exact Imp.same | refine Imp.left ?_ | exact ImpX.one | exact ImpX.same | exact ImpX.mk | refine ImpX.up ?_ | refine ImpX.old ?_ | (apply pwp_condC; simp only [cond_true, cond_false]) | (refine pwp_cond rfl (fun h => ?_) (fun h => ?_) <;> (try simp at h) <;> (first | done | (exfalso; omega) | skip)) | ((try refine pwp_ret ?_); (first | (refine ⟨_, _, _, rfl, Wk.refl _, StSub.refl _, ?_⟩; ((exact .inr ⟨rfl, rfl, StSub.refl _⟩)); done) | (refine ⟨_, _, ?zs, rfl, Wk.refl _, ?zh, ?zr⟩; (case zh => (refine stsub_over ?_ (by assumption); (repeat refine stsub_over ?_ (by assumption)); exact StSub.refl _)); (case zr => ((exact .inr ⟨rfl, rfl, StSub.refl _⟩)))) | refine ⟨_, _, _, rfl, Wk.refl _, StSub.refl _, ?_⟩)) | (apply callS; exact rfl; exact rfl; exact rfl; (intro _; first | (apply hsp <;> first | assumption | omega)); rotate_left; exact rfl; exact rfl) | (apply callV; exact rfl; exact rfl; exact rfl; (intro _; first | (apply hsp <;> first | assumption | omega)); rotate_left; exact rfl; exact rfl) | (apply ncA; exact rfl; exact rfl; exact rfl; rotate_left; exact rfl; exact rfl) | (apply ldR pk; exact rfl; exact rfl; rotate_left; exact rfl; (first | exact upd_same _ _ _ | assumption | (focus ((repeat (first | exact upd_same _ _ _ | assumption | refine (upd_ne (by assumption)).trans ?_)); done))); exact rfl; exact rfl) | (apply stR pk; exact rfl; exact rfl; (first | exact upd_same _ _ _ | assumption | (focus ((repeat (first | exact upd_same _ _ _ | assumption | refine (upd_ne (by assumption)).trans ?_)); done))); exact rfl; exact rfl) | (intros; omega) | (intros; simp only [List.length_map]; omega)))
end Go.Proofs.Ytmljghkinhaalaa
