import Derived.Test.YtmljghkinhaalaaTxRef3
set_option linter.unusedSimpArgs false
set_option linter.unusedVariables false
namespace Go.Proofs.Ytmljghkinhaalaa
open Go Go.Abs
attribute [local irreducible] Ev PWp
set_option maxRecDepth 10000
set_option maxHeartbeats 4000000
theorem rup_i {l : List Pt} (hW : Whole l) (hl : l.length < 1000000000000) {i : Nat} (hi : i < l.length) {s : List Pt} (hs : Anc l (l[i]'hi) s) (m : Nat) (hm : m < s.length) (j : Nat) (hj : j < l.length) (e : s[s.length - 1 - m]'(by omega) = l[j]) {x : Int} (hx : x = m) : PF Try.prog 47 [.seq (l.map Pt.cells), (PV.val (Value.int .i64 ((i : Nat)))), (PV.val (Value.int .i64 (x)))] (PV.val (Value.int .i64 ((j : Nat)))) := by
  subst hx; exact rup_spec hW hl hi hs m hm j hj e
theorem Anc.eqTake {l : List Pt} (hn : named l) {p q : Pt} {s t : List Pt} (hs : Anc l p s) (ht : Anc l q t) {c : Nat} (h1 : c < s.length) (h2 : c < t.length) (e : s[c] = t[c]) : s.take (c + 1) = t.take (c + 1) :=
  (hs.pre c h1).fn hn (e ▸ ht.pre c h2)
theorem stands_eq {l : List Pt} (hW : Whole l) {p q : Pt} {s t : List Pt} (hs : Anc l p s) (ht : Anc l q t) {c : Nat} (h1 : c < s.length) (h2 : c < t.length) (hne : s[c] ≠ t[c]) (hp : parentOf s[c] = parentOf t[c]) : lexLt s t ↔ kinLt s[c] t[c] := by
  refine lex_at c h1 h2 ?_ hne
  cases c with
  | zero => simp
  | succ c =>
    obtain ⟨a1, a2⟩ := (hs.par (c + 1) h1).2 (by omega)
    obtain ⟨b1, b2⟩ := (ht.par (c + 1) h2).2 (by omega)
    have : s[c] = t[c] := hW.named _ (hs.all _ (List.getElem_mem _)) _ (ht.all _ (List.getElem_mem _)) (by
      have h1 : parentOf s[c + 1] = nameOf s[c] := a1
      have h2 : parentOf t[c + 1] = nameOf t[c] := b1
      rw [← h1, ← h2, hp])
    exact hs.eqTake hW.named ht (by omega) (by omega) this
theorem stands_up {l : List Pt} {p q : Pt} {s t : List Pt} (hs : Anc l p s) (ht : Anc l q t) {c : Nat} (h1 : c < s.length) (h2 : c < t.length) (hp : parentOf s[c] ≠ parentOf t[c]) : 0 < c ∧ ∀ h : 0 < c, s[c - 1]'(by omega) ≠ t[c - 1]'(by omega) := by
  have h0 : 0 < c := by
    cases c with
    | zero => exact absurd ((hs.par 0 h1).1 rfl |>.trans ((ht.par 0 h2).1 rfl).symm) hp
    | succ c => omega
  refine ⟨h0, fun _ e => hp ?_⟩
  rw [((hs.par c h1).2 h0).1, ((ht.par c h2).2 h0).1, e]
theorem kin_dec (a b : Pt) : decide (kinLt a b) = if stampOf a = stampOf b then decide (a.at_ < b.at_) else lessS (stampOf b) (stampOf a) := by
  split
  · rename_i h; rw [decide_eq_decide]; unfold kinLt; rw [h, lessS_irr]; simp
  · rename_i h; rw [Bool.eq_iff_iff, decide_eq_true_eq]; unfold kinLt; simp [h]
theorem rstands_spec {l : List Pt} (hW : Whole l) (hl : l.length < 1000000000000) {i k : Nat} (hi : i < l.length) (hk : k < l.length) {s t : List Pt} (hs : Anc l (l[i]'hi) s) (ht : Anc l (l[k]'hk) t) (b : Bool) (hb : b = true ↔ lexLt s t) : PF Try.prog 32 [.seq (l.map Pt.cells), (PV.val (Value.int .i64 ((i : Nat)))), (PV.val (Value.int .i64 ((k : Nat))))] (PV.val (Value.bool (b))) := by
  have hsl := hs.le hW
  have htl := ht.le hW
  have hs0 : 0 < s.length := by obtain ⟨r, hr⟩ := hs.last; rw [hr]; simp
  have ht0 : 0 < t.length := by obtain ⟨r, hr⟩ := ht.last; rw [hr]; simp
  obtain ⟨c, hc⟩ : ∃ c, c = min (s.length - 1) (t.length - 1) := ⟨_, rfl⟩
  have hcs : c < s.length := by omega
  have hct : c < t.length := by omega
  obtain ⟨x, hx, hxe⟩ := List.getElem_of_mem (hs.all _ (List.getElem_mem hcs))
  obtain ⟨y, hy, hye⟩ := List.getElem_of_mem (ht.all _ (List.getElem_mem hct))
  have hu1 := fun {z : Int} (hz : z = ((s.length - 1 - c : Nat) : Int)) => rup_i hW hl hi hs (s.length - 1 - c) (by omega) x hx (by rw [hxe]; congr 1; omega) hz
  have hu2 := fun {z : Int} (hz : z = ((t.length - 1 - c : Nat) : Int)) => rup_i hW hl hk ht (t.length - 1 - c) (by omega) y hy (by rw [hye]; congr 1; omega) hz
  have hpre : x = y → (b = decide (((s.length : Int) - 1) < ((t.length : Int) - 1))) := fun e => by
    subst e
    have he : s[c] = t[c] := by rw [← hxe, ← hye]
    have := lex_pre (s := s) (t := t) ⟨c + 1, hs.eqTake hW.named ht hcs hct he, by omega⟩
    rw [Bool.eq_iff_iff, hb, this, decide_eq_true_eq]; omega
  refine pf_of tt_ok Try.func32 (by kernel_rfl) rfl rfl rfl rfl (fun st => ?_)
  (try (apply wO pk; exact rfl)); (repeat' (first | exact All.nil | refine All.cons ?_ ?_ | (apply wC pk; exact rfl; exact rfl) | (apply wE pk; exact rfl; exact rfl) | (apply wX pk; exact rfl) | (apply wN pk; exact rfl) | (apply wD pk [] []; kernel_rfl; exact rfl; exact rfl) | exact Imp.one | exact Imp.same | refine Imp.left ?_ | exact ImpX.one | exact ImpX.same | exact ImpX.mk | refine ImpX.up ?_ | refine ImpX.old ?_ | (apply pwp_condC; simp only [cond_true, cond_false]) | (refine pwp_cond rfl (fun h => ?_) (fun h => ?_) <;> (try simp at h) <;> (first | done | (exfalso; omega) | skip)) | (refine pwp_ret ?_; refine ⟨_, _, _, rfl, Wk.refl _, StSub.refl _, ?_, rfl⟩; (first | rfl | ((rw [hpre (by omega)]); done) | skip)) | (apply callS; exact rfl; exact rfl; exact rfl; (intro _; first | (apply (rdepth_spec hW hl hi hs) <;> first | assumption | omega) | (apply (rdepth_spec hW hl hk ht) <;> first | assumption | omega) | (apply hu1 <;> first | assumption | omega) | (apply hu2 <;> first | assumption | omega)); rotate_left; exact rfl; exact rfl) | (apply callV; exact rfl; exact rfl; exact rfl; (intro _; first | (apply (rdepth_spec hW hl hi hs) <;> first | assumption | omega) | (apply (rdepth_spec hW hl hk ht) <;> first | assumption | omega) | (apply hu1 <;> first | assumption | omega) | (apply hu2 <;> first | assumption | omega)); rotate_left; exact rfl; exact rfl) | (intros; omega) | (intros; simp only [List.length_map]; omega)))
  refine pwp_loop (X := { v : Nat × Nat × Nat // ∃ (h1 : v.1 < s.length) (h2 : v.1 < t.length) (hx : v.2.1 < l.length) (hy : v.2.2 < l.length), l[v.2.1] = s[v.1] ∧ l[v.2.2] = t[v.1] ∧ s[v.1] ≠ t[v.1] }) (fun v => ((((St.nil 98 st).pv 0 (.seq (l.map Pt.cells))).pv 10 ((PV.val (Value.int .i64 ((v.1.2.1 : Nat)))))).pv 11 ((PV.val (Value.int .i64 ((v.1.2.2 : Nat))))))) (fun v => v.1.1) ⟨(c, x, y), hcs, hct, hx, hy, hxe, hye, fun e => (by exact h (by have := idx_uniq hW.nodup hx hy (by rw [hxe, hye, e]); omega))⟩ ?_ (fun v => ?_)
  · (first | exact Sub.nil _ _ _ (StSub.refl _) rfl | ((repeat (first | refine Sub.pv ?_ rfl | refine Sub.var ?_ rfl rfl)); (first | exact Sub.nil _ _ _ (StSub.refl _) rfl | exact Sub.nil _ _ _ (stsub_swap (by assumption)) rfl | exact Sub.nil _ _ _ (stsub_eq (by first | rfl | exact upd_eta (by assumption) | ((simp only [St.pv, St.put, St.sst, St.setv, St.nil, St.var, upd_upd]); first | done | rfl))) rfl | (refine Sub.nil _ _ _ (stsub_eq ?_) rfl; (simp only [St.pv, St.put, St.sst, St.setv, St.nil, St.var, upd_upd]); (rw [upd4 (by assumption)]); first | done | rfl))))
  clear hu1 hu2 hpre hxe hye hx hy
  obtain ⟨⟨c, x, y⟩, hcs, hct, hx, hy, hxe, hye, hne⟩ := v
  simp only at hcs hct hx hy hxe hye hne
  dsimp only
  have hpe : parentOf (l[x]'hx) = parentOf (l[y]'hy) ↔ ((l[x]'hx).after.dev = (l[y]'hy).after.dev ∧ (l[x]'hx).after.seq = (l[y]'hy).after.seq) ∧ (l[x]'hx).afterAt = (l[y]'hy).afterAt := by
    rw [Nm.ext_iff, Dt.ext_iff]; rfl
  by_cases hp : parentOf (l[x]'hx) = parentOf (l[y]'hy)
  · obtain ⟨⟨p1, p2⟩, p3⟩ := hpe.1 hp
    have hS := Sp.ext_iff (stampOf (l[x]'hx)) (stampOf (l[y]'hy))
    have hb2 : b = if stampOf (l[x]'hx) = stampOf (l[y]'hy) then decide ((l[x]'hx).at_ < (l[y]'hy).at_) else lessS (stampOf (l[y]'hy)) (stampOf (l[x]'hx)) := by
      rw [← kin_dec, Bool.eq_iff_iff, hb, decide_eq_true_eq, stands_eq hW hs ht hcs hct hne (by rw [← hxe, ← hye]; exact hp), hxe, hye]
    (try (apply wO pk; exact rfl)); (repeat' (first | exact All.nil | refine All.cons ?_ ?_ | (apply wC pk; exact rfl; exact rfl) | (apply wE pk; exact rfl; exact rfl) | (apply wX pk; exact rfl) | (apply wN pk; exact rfl) | (apply wD pk [] []; kernel_rfl; exact rfl; exact rfl) | exact Imp.one | exact Imp.same | refine Imp.left ?_ | exact ImpX.one | exact ImpX.same | exact ImpX.mk | refine ImpX.up ?_ | refine ImpX.old ?_ | (apply pwp_condC; simp only [cond_true, cond_false]) | (refine pwp_cond rfl (fun h => ?_) (fun h => ?_) <;> (try simp at h) <;> (first | done | (exfalso; omega) | skip)) | (refine pwp_ret ?_; refine ⟨_, _, _, rfl, Wk.refl _, StSub.refl _, ?_, rfl⟩; (first | rfl | ((first | (rw [hb2, if_pos (by grind)]; done) | (rw [hb2, if_neg (by grind)])); done) | skip)) | (apply callS; exact rfl; exact rfl; exact rfl; (intro _; first | (apply (rstamp_spec (l[x]'hx)) <;> first | assumption | omega) | (apply (rstamp_spec (l[y]'hy)) <;> first | assumption | omega) | (apply (rless_spec (stampOf (l[y]'hy)) (stampOf (l[x]'hx))) <;> first | assumption | omega)); rotate_left; exact rfl; exact rfl) | (apply callV; exact rfl; exact rfl; exact rfl; (intro _; first | (apply (rstamp_spec (l[x]'hx)) <;> first | assumption | omega) | (apply (rstamp_spec (l[y]'hy)) <;> first | assumption | omega) | (apply (rless_spec (stampOf (l[y]'hy)) (stampOf (l[x]'hx))) <;> first | assumption | omega)); rotate_left; exact rfl; exact rfl) | (apply idxS pk; exact rfl; exact rfl; exact rfl; exact rfl; exact rfl; exact rfl; rotate_left; exact rfl; (intro _; exact rfl); (intro _; apply get_map <;> omega); (intro _; exact rfl); exact rfl) | (intros; omega) | (intros; simp only [List.length_map]; omega)))
  · have hn : ¬ (((l[x]'hx).after.dev = (l[y]'hy).after.dev ∧ (l[x]'hx).after.seq = (l[y]'hy).after.seq) ∧ (l[x]'hx).afterAt = (l[y]'hy).afterAt) := fun h => hp (hpe.2 h)
    obtain ⟨hc0, hne2⟩ := stands_up hs ht hcs hct (by rw [← hxe, ← hye]; exact hp)
    have hne2 := hne2 hc0
    obtain ⟨x2, hx2, hxe2⟩ := List.getElem_of_mem (hs.all _ (List.getElem_mem (show c - 1 < s.length by omega)))
    obtain ⟨y2, hy2, hye2⟩ := List.getElem_of_mem (ht.all _ (List.getElem_mem (show c - 1 < t.length by omega)))
    have ls : (s.take (c + 1)).length = c + 1 := by rw [List.length_take]; omega
    have lt : (t.take (c + 1)).length = c + 1 := by rw [List.length_take]; omega
    have hu1 := rup_i hW hl hx (s := s.take (c + 1)) (by rw [hxe]; exact hs.pre c hcs) 1 (by omega) x2 hx2 (by rw [hxe2, List.getElem_take]; congr 1; omega) (x := 1) rfl
    have hu2 := rup_i hW hl hy (s := t.take (c + 1)) (by rw [hye]; exact ht.pre c hct) 1 (by omega) y2 hy2 (by rw [hye2, List.getElem_take]; congr 1; omega) (x := 1) rfl
    (try (apply wO pk; exact rfl)); (repeat' (first | exact All.nil | refine All.cons ?_ ?_ | (apply wC pk; exact rfl; exact rfl) | (apply wE pk; exact rfl; exact rfl) | (apply wX pk; exact rfl) | (apply wN pk; exact rfl) | (apply wD pk [] []; kernel_rfl; exact rfl; exact rfl) | exact Imp.one | exact Imp.same | refine Imp.left ?_ | exact ImpX.one | exact ImpX.same | exact ImpX.mk | refine ImpX.up ?_ | refine ImpX.old ?_ | (apply pwp_condC; simp only [cond_true, cond_false]) | (refine pwp_cond rfl (fun h => ?_) (fun h => ?_) <;> (try simp at h) <;> (first | done | (exfalso; omega) | skip)) | (refine pwp_ret ?_; refine ⟨_, _, _, rfl, Wk.refl _, StSub.refl _, ?_, rfl⟩; (first | rfl | skip)) | (apply callS; exact rfl; exact rfl; exact rfl; (intro _; first | (apply hu1 <;> first | assumption | omega) | (apply hu2 <;> first | assumption | omega)); rotate_left; exact rfl; exact rfl) | (apply callV; exact rfl; exact rfl; exact rfl; (intro _; first | (apply hu1 <;> first | assumption | omega) | (apply hu2 <;> first | assumption | omega)); rotate_left; exact rfl; exact rfl) | (apply idxS pk; exact rfl; exact rfl; exact rfl; exact rfl; exact rfl; exact rfl; rotate_left; exact rfl; (intro _; exact rfl); (intro _; apply get_map <;> omega); (intro _; exact rfl); exact rfl) | (refine ⟨⟨(c - 1, x2, y2), by simp only; omega, by simp only; omega, hx2, hy2, hxe2, hye2, hne2⟩, ?_, by simp only; omega⟩; (first | exact Sub.nil _ _ _ (StSub.refl _) rfl | ((repeat (first | refine Sub.pv ?_ rfl | refine Sub.var ?_ rfl rfl)); (first | exact Sub.nil _ _ _ (StSub.refl _) rfl | exact Sub.nil _ _ _ (stsub_swap (by assumption)) rfl | exact Sub.nil _ _ _ (stsub_eq (by first | rfl | exact upd_eta (by assumption) | ((simp only [St.pv, St.put, St.sst, St.setv, St.nil, St.var, upd_upd]); first | done | rfl))) rfl | (refine Sub.nil _ _ _ (stsub_eq ?_) rfl; (simp only [St.pv, St.put, St.sst, St.setv, St.nil, St.var, upd_upd]); (rw [upd4 (by assumption)]); first | done | rfl))))) | (intros; omega) | (intros; simp only [List.length_map]; omega)))
end Go.Proofs.Ytmljghkinhaalaa
