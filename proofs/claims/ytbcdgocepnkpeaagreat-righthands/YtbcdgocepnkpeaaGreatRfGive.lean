import Derived.Test.YtbcdgocepnkpeaaGreatRfHand
import Derived.Test.YtbcdgocepnkpeaaGreatRtGiveL
set_option linter.unusedSimpArgs false
set_option linter.unusedVariables false
namespace Go.Proofs.YtbcdgocepnkpeaaGreat
open Go Go.Abs
attribute [local irreducible] Ev PWp
set_option maxRecDepth 10000
set_option maxHeartbeats 2000000
theorem amG_bd {l : List Rt} (h : AmB l) (r : Rt) : -4398046511104 ≤ amG l r ∧ amG l r ≤ 4398046511104 := by
  induction l with
  | nil => simp [amG]
  | cons x l ih =>
    rw [amG]
    split
    · exact h x (by simp)
    · exact ih fun y hy => h y (List.mem_cons_of_mem _ hy)
theorem amb_of {R : List Rt} (h : NF R) (hb : ∀ k, -1099511627776 ≤ amL R k ∧ amL R k ≤ 1099511627776) : AmB R := fun x hx => by
  by_cases h3 : x.kind = 3
  · have := hb (keyA x)
    rw [amL_of h hx h3] at this; omega
  · have := (h.span x hx h3).2; omega
structure GvI (o : List Ow) (b : Int) (i : Nat) (out : List Ow) : Prop where
  few : FewN (21 + i) out
  nfo : NFO out
  am : ∀ k, -1099511627776 ≤ amL (rtsOf out b) k ∧ amL (rtsOf out b) k ≤ 1099511627776
theorem GvI.step {o : List Ow} {b : Int} {i : Nat} {out : List Ow} (h : GvI o b i out) {r : Rt} (hr : Rg r) (ha : r.kind = 3 → 1 ≤ r.amt) (hno : r.kind = 3 → ¬ amL (rtsOf out b) (keyA r) + r.amt > 1099511627776) : GvI o b (i + 1) (withP out b (putP (rtsOf out b) r)) := by
  obtain ⟨g1, g2, g3, g4⟩ := put_step h.nfo b hr
  refine ⟨?_, g1, fun k => ?_⟩
  · have h1 := h.few.rts b
    have h2 := putP_len (rtsOf out b) r
    exact h.few.with b (by omega) (by omega)
  · rw [g4]
    have := h.am k
    unfold add0
    split
    · rename_i q
      have h1 := hno q.1
      have h2 := ha q.1
      rw [q.2] at h1; omega
    · omega
theorem rgive_spec (s : Sc) (hs : FewS s) (o : List Ow) (hf : FewN 20 o) (a b : Int) : PF Tryz.prog 25 [.agg (scC s), .seq (o.map Ow.cells), (PV.val (Value.int .i64 (a))), (PV.val (Value.int .i64 (b)))] (.tup [.seq ((giveP s o a b).1.map Ow.cells), (PV.val (Value.int .i64 ((giveP s o a b).2)))]) := by
  have ho := hf.o (by omega)
  have hc := rcanon_spec s hs o ho
  unfold giveP
  by_cases hg : ¬ ((((canonP s o = true ∧ 2 ≤ a) ∧ a ≤ 64) ∧ (1 ≤ b ∧ b ≤ 64)) ∧ a ≠ b)
  · rw [if_pos (fun q => hg ⟨⟨⟨⟨q.1.1.1.1, by have := q.1.1.1.2; have := q.1.2; simp [deviceB] at *; omega⟩, by have := q.1.1.1.2; simp [deviceB] at this; omega⟩, by have := q.1.1.2; simpa [deviceB] using this⟩, q.2⟩)]
    generalize canonP s o = c at *
    by_cases hc1 : c = true
    · subst hc1
      have hg2 : ¬ (((2 ≤ a ∧ a ≤ 64) ∧ (1 ≤ b ∧ b ≤ 64)) ∧ a ≠ b) := fun q => hg ⟨⟨⟨⟨rfl, q.1.1.1⟩, q.1.1.2⟩, q.1.2⟩, q.2⟩
      refine pf_of tt_ok Tryz.func25 (by kernel_rfl) rfl rfl rfl rfl (fun st => ?_)
      (try (apply wO pk; exact rfl)); (repeat' (first | ((refine pwp_ret ?_; exact ⟨_, _, st, rfl, Wk.soft _, StSub.refl _, rfl, rfl⟩)) | ((exfalso; omega)) | exact All.nil | refine All.cons ?_ ?_ | (apply wC pk; exact rfl; exact rfl) | (apply wE pk; exact rfl; exact rfl) | (apply wX pk; exact rfl) | (apply wN pk; exact rfl) | (apply wD pk [] []; kernel_rfl; exact rfl; exact rfl) | exact Imp.one | exact Imp.same | refine Imp.left ?_ | exact ImpX.one | exact ImpX.same | exact ImpX.mk | refine ImpX.up ?_ | refine ImpX.old ?_ | (apply pwp_condC; simp only [cond_true, cond_false]) | (refine pwp_cond rfl (fun h => ?_) (fun h => ?_) <;> (try simp at h) <;> (first | done | (exfalso; omega) | skip)) | (refine pwp_ret ?_; refine ⟨_, _, _, rfl, Wk.refl _, StSub.refl _, ?_, rfl⟩; (first | rfl | skip)) | (apply callS; exact rfl; exact rfl; exact rfl; (intro _; first | (apply hc <;> first | assumption | omega)); rotate_left; exact rfl; exact rfl) | (apply callV; exact rfl; exact rfl; exact rfl; (intro _; first | (apply hc <;> first | assumption | omega)); rotate_left; exact rfl; exact rfl) | (intros; omega) | (intros; simp only [List.length_map]; omega)))
    · have hc1 : c = false := by simpa using hc1
      subst hc1
      refine pf_of tt_ok Tryz.func25 (by kernel_rfl) rfl rfl rfl rfl (fun st => ?_)
      (try (apply wO pk; exact rfl)); (repeat' (first | ((refine pwp_ret ?_; exact ⟨_, _, st, rfl, Wk.soft _, StSub.refl _, rfl, rfl⟩)) | ((exfalso; omega)) | exact All.nil | refine All.cons ?_ ?_ | (apply wC pk; exact rfl; exact rfl) | (apply wE pk; exact rfl; exact rfl) | (apply wX pk; exact rfl) | (apply wN pk; exact rfl) | (apply wD pk [] []; kernel_rfl; exact rfl; exact rfl) | exact Imp.one | exact Imp.same | refine Imp.left ?_ | exact ImpX.one | exact ImpX.same | exact ImpX.mk | refine ImpX.up ?_ | refine ImpX.old ?_ | (apply pwp_condC; simp only [cond_true, cond_false]) | (refine pwp_cond rfl (fun h => ?_) (fun h => ?_) <;> (try simp at h) <;> (first | done | (exfalso; omega) | skip)) | (refine pwp_ret ?_; refine ⟨_, _, _, rfl, Wk.refl _, StSub.refl _, ?_, rfl⟩; (first | rfl | skip)) | (apply callS; exact rfl; exact rfl; exact rfl; (intro _; first | (apply hc <;> first | assumption | omega)); rotate_left; exact rfl; exact rfl) | (apply callV; exact rfl; exact rfl; exact rfl; (intro _; first | (apply hc <;> first | assumption | omega)); rotate_left; exact rfl; exact rfl) | (intros; omega) | (intros; simp only [List.length_map]; omega)))
  replace hg := Decidable.of_not_not hg
  obtain ⟨⟨⟨⟨g1, g2⟩, g3⟩, g4, g5⟩, g6⟩ := hg
  have hCO := (canon_iff s o).1 g1
  have hn := hCO.nfo
  rw [if_neg (fun q => q ⟨⟨⟨⟨g1, by simp [deviceB]; omega⟩, by simp [deviceB]; omega⟩, by omega⟩, g6⟩)]
  rw [g1] at hc
  have hl := list_spec o ho a
  have hll := hf.rts a
  have hla : AmB (rtsOf o a) := amb_canon hs hCO a
  have hlr : ∀ r ∈ rtsOf o a, Rg r ∧ (r.kind = 3 → 1 ≤ r.amt) := fun r hr => by
    refine ⟨(hn.get a).rg hr, fun h3 => ?_⟩
    have hne : rtsOf o a ≠ [] := fun e => by rw [e] at hr; cases hr
    obtain ⟨w, hw, e1, e⟩ := rtsOf_some hne
    rw [e] at hr
    exact (((hCO.own w hw).rts r hr).sum h3).2.2.2.2.2 (by omega)
  have hw0 := with_spec o a [] (by have := hf.1; omega) (by simp)
  have hwe := with_sem hn a NF.nil
  have hI0 : GvI o b 0 (withP o a []) := by
    refine ⟨(hf.with a (m := 21) (by simp) (by omega)), hwe.nfo, fun k => ?_⟩
    rw [hwe.rts, if_neg (fun q => g6 q.symm), ← amt_open hn]
    exact amtOf_ok hs hCO b k
  generalize withP o a [] = o0 at *
  generalize rtsOf o a = l at *
  refine pf_of tt_ok Tryz.func25 (by kernel_rfl) rfl rfl rfl rfl (fun st => ?_)
  (try (apply wO pk; exact rfl)); (repeat' (first | ((exfalso; omega)) | exact All.nil | refine All.cons ?_ ?_ | (apply wC pk; exact rfl; exact rfl) | (apply wE pk; exact rfl; exact rfl) | (apply wX pk; exact rfl) | (apply wN pk; exact rfl) | (apply wD pk [] []; kernel_rfl; exact rfl; exact rfl) | exact Imp.one | exact Imp.same | refine Imp.left ?_ | exact ImpX.one | exact ImpX.same | exact ImpX.mk | refine ImpX.up ?_ | refine ImpX.old ?_ | (apply pwp_condC; simp only [cond_true, cond_false]) | (refine pwp_cond rfl (fun h => ?_) (fun h => ?_) <;> (try simp at h) <;> (first | done | (exfalso; omega) | skip)) | (refine pwp_ret ?_; refine ⟨_, _, _, rfl, Wk.refl _, StSub.refl _, ?_, rfl⟩; (first | rfl | skip)) | (apply callS; exact rfl; exact rfl; exact rfl; (intro _; first | (apply hc <;> first | assumption | omega) | (apply hl <;> first | assumption | omega) | (apply hw0 <;> first | assumption | omega)); rotate_left; exact rfl; exact rfl) | (apply callV; exact rfl; exact rfl; exact rfl; (intro _; first | (apply hc <;> first | assumption | omega) | (apply hl <;> first | assumption | omega) | (apply hw0 <;> first | assumption | omega)); rotate_left; exact rfl; exact rfl) | (intros; omega) | (intros; simp only [List.length_map]; omega)))
  refine pwp_loop (X := { x : Nat × List Ow // x.1 ≤ l.length ∧ GvI o b x.1 x.2 ∧ giveA b (l.drop x.1) x.2 = giveA b l o0 }) (fun i => (((((St.nil 86 st).pv 3 ((PV.val (Value.int .i64 (b))))).pv 11 (.seq (l.map Rt.cells))).pv 12 (.seq (i.1.2.map Ow.cells))).pv 13 ((PV.val (Value.int .i64 ((i.1.1 : Nat))))))) (fun i => l.length - i.1.1) ⟨(0, o0), by simp, hI0, rfl⟩ ?_ (fun i => ?_)
  · (first | exact Sub.nil _ _ _ (StSub.refl _) rfl | ((repeat (first | refine Sub.pv ?_ rfl | refine Sub.var ?_ rfl rfl)); (first | exact Sub.nil _ _ _ (StSub.refl _) rfl | exact Sub.nil _ _ _ (stsub_swap (by assumption)) rfl | exact Sub.nil _ _ _ (stsub_eq (by first | rfl | exact upd_eta (by assumption) | ((simp only [St.pv, St.put, St.sst, St.setv, St.nil, St.var, upd_upd]); first | done | rfl))) rfl | (refine Sub.nil _ _ _ (stsub_eq ?_) rfl; (simp only [St.pv, St.put, St.sst, St.setv, St.nil, St.var, upd_upd]); (rw [upd4 (by assumption)]); first | done | rfl))))
  obtain ⟨⟨i, out⟩, hi, hI, hv⟩ := i
  simp only at hi hI hv
  dsimp only
  generalize giveA b l o0 = res at *
  by_cases hend : l.length ≤ i
  · rw [List.drop_eq_nil_of_le hend] at hv
    rw [← hv]
    (try (apply wO pk; exact rfl)); (repeat' (first | exact All.nil | refine All.cons ?_ ?_ | (apply wC pk; exact rfl; exact rfl) | (apply wE pk; exact rfl; exact rfl) | (apply wX pk; exact rfl) | (apply wN pk; exact rfl) | (apply wD pk [] []; kernel_rfl; exact rfl; exact rfl) | exact Imp.one | exact Imp.same | refine Imp.left ?_ | exact ImpX.one | exact ImpX.same | exact ImpX.mk | refine ImpX.up ?_ | refine ImpX.old ?_ | (apply pwp_condC; simp only [cond_true, cond_false]) | (refine pwp_cond rfl (fun h => ?_) (fun h => ?_) <;> (try simp at h) <;> (first | done | (exfalso; omega) | skip)) | (refine pwp_ret ?_; refine ⟨_, _, _, rfl, Wk.refl _, StSub.refl _, ?_, rfl⟩; (first | rfl | skip)) | (intros; omega) | (intros; simp only [List.length_map]; omega)))
  have hlt : i < l.length := by omega
  rw [List.drop_eq_getElem_cons hlt, giveA] at hv
  have hfo := hI.few.o (by omega)
  have hab := amb_of (hI.nfo.get b) hI.am
  have ha := amt_spec out hfo b l[i]
  have hag := amG_bd hab l[i]
  have hxb := hla _ (List.getElem_mem hlt)
  obtain ⟨hrg, hr1⟩ := hlr _ (List.getElem_mem hlt)
  have hlb := list_spec out hfo b
  have hlbl := hI.few.rts b
  have hp := put_spec (rtsOf out b) l[i] (by omega) hab hxb
  have hpl := putP_len (rtsOf out b) l[i]
  have hw := with_spec out b (putP (rtsOf out b) l[i]) (by have := hI.few.1; omega) (by omega)
  by_cases h3 : l[i].kind = 3
  · rw [amG_amL h3] at ha hag
    by_cases hov : amL (rtsOf out b) (keyA l[i]) + l[i].amt > 1099511627776
    · rw [if_pos ⟨h3, hov⟩] at hv
      rw [← hv]
      generalize amL (rtsOf out b) (keyA l[i]) = am at *
      (try (apply wO pk; exact rfl)); (repeat' (first | ((refine pwp_ret ?_; exact ⟨_, _, st, rfl, Wk.soft _, StSub.refl _, rfl, rfl⟩)) | ((exfalso; omega)) | exact All.nil | refine All.cons ?_ ?_ | (apply wC pk; exact rfl; exact rfl) | (apply wE pk; exact rfl; exact rfl) | (apply wX pk; exact rfl) | (apply wN pk; exact rfl) | (apply wD pk [] []; kernel_rfl; exact rfl; exact rfl) | exact Imp.one | exact Imp.same | refine Imp.left ?_ | exact ImpX.one | exact ImpX.same | exact ImpX.mk | refine ImpX.up ?_ | refine ImpX.old ?_ | (apply pwp_condC; simp only [cond_true, cond_false]) | (refine pwp_cond rfl (fun h => ?_) (fun h => ?_) <;> (try simp at h) <;> (first | done | (exfalso; omega) | skip)) | (refine pwp_ret ?_; refine ⟨_, _, _, rfl, Wk.refl _, StSub.refl _, ?_, rfl⟩; (first | rfl | skip)) | (apply callS; exact rfl; exact rfl; exact rfl; (intro _; first | (apply ha <;> first | assumption | omega)); rotate_left; exact rfl; exact rfl) | (apply callV; exact rfl; exact rfl; exact rfl; (intro _; first | (apply ha <;> first | assumption | omega)); rotate_left; exact rfl; exact rfl) | (apply idxS pk; exact rfl; exact rfl; exact rfl; exact rfl; exact rfl; exact rfl; rotate_left; exact rfl; (intro _; exact rfl); (intro _; apply get_map <;> omega); (intro _; exact rfl); exact rfl) | (intros; omega) | (intros; simp only [List.length_map]; omega)))
    rw [if_neg (fun q => hov q.2)] at hv
    have hI2 := hI.step hrg hr1 fun _ => hov
    generalize withP out b (putP (rtsOf out b) l[i]) = o2 at *
    generalize putP (rtsOf out b) l[i] = l2 at *
    generalize amL (rtsOf out b) (keyA l[i]) = am at *
    generalize rtsOf out b = l1 at *
    (try (apply wO pk; exact rfl)); (repeat' (first | ((exfalso; omega)) | exact All.nil | refine All.cons ?_ ?_ | (apply wC pk; exact rfl; exact rfl) | (apply wE pk; exact rfl; exact rfl) | (apply wX pk; exact rfl) | (apply wN pk; exact rfl) | (apply wD pk [] []; kernel_rfl; exact rfl; exact rfl) | exact Imp.one | exact Imp.same | refine Imp.left ?_ | exact ImpX.one | exact ImpX.same | exact ImpX.mk | refine ImpX.up ?_ | refine ImpX.old ?_ | (apply pwp_condC; simp only [cond_true, cond_false]) | (refine pwp_cond rfl (fun h => ?_) (fun h => ?_) <;> (try simp at h) <;> (first | done | (exfalso; omega) | skip)) | (refine pwp_ret ?_; refine ⟨_, _, _, rfl, Wk.refl _, StSub.refl _, ?_, rfl⟩; (first | rfl | skip)) | (apply callS; exact rfl; exact rfl; exact rfl; (intro _; first | (apply ha <;> first | assumption | omega) | (apply hlb <;> first | assumption | omega) | (apply hp <;> first | assumption | omega) | (apply hw <;> first | assumption | omega)); rotate_left; exact rfl; exact rfl) | (apply callV; exact rfl; exact rfl; exact rfl; (intro _; first | (apply ha <;> first | assumption | omega) | (apply hlb <;> first | assumption | omega) | (apply hp <;> first | assumption | omega) | (apply hw <;> first | assumption | omega)); rotate_left; exact rfl; exact rfl) | (apply idxS pk; exact rfl; exact rfl; exact rfl; exact rfl; exact rfl; exact rfl; rotate_left; exact rfl; (intro _; exact rfl); (intro _; apply get_map <;> omega); (intro _; exact rfl); exact rfl) | (refine ⟨⟨(i + 1, o2), by simp only; omega, hI2, hv⟩, ?_, by simp only; omega⟩; (first | exact Sub.nil _ _ _ (StSub.refl _) rfl | ((repeat (first | refine Sub.pv ?_ rfl | refine Sub.var ?_ rfl rfl)); (first | exact Sub.nil _ _ _ (StSub.refl _) rfl | exact Sub.nil _ _ _ (stsub_swap (by assumption)) rfl | exact Sub.nil _ _ _ (stsub_eq (by first | rfl | exact upd_eta (by assumption) | ((simp only [St.pv, St.put, St.sst, St.setv, St.nil, St.var, upd_upd]); first | done | rfl))) rfl | (refine Sub.nil _ _ _ (stsub_eq ?_) rfl; (simp only [St.pv, St.put, St.sst, St.setv, St.nil, St.var, upd_upd]); (rw [upd4 (by assumption)]); first | done | rfl))))) | (intros; omega) | (intros; simp only [List.length_map]; omega)))
  · rw [if_neg (fun q => h3 q.1)] at hv
    have hI2 := hI.step hrg hr1 fun q => absurd q h3
    generalize withP out b (putP (rtsOf out b) l[i]) = o2 at *
    generalize putP (rtsOf out b) l[i] = l2 at *
    generalize amG (rtsOf out b) l[i] = am at *
    generalize rtsOf out b = l1 at *
    (try (apply wO pk; exact rfl)); (repeat' (first | ((exfalso; omega)) | ((exfalso; exact h3 (by assumption))) | exact All.nil | refine All.cons ?_ ?_ | (apply wC pk; exact rfl; exact rfl) | (apply wE pk; exact rfl; exact rfl) | (apply wX pk; exact rfl) | (apply wN pk; exact rfl) | (apply wD pk [] []; kernel_rfl; exact rfl; exact rfl) | exact Imp.one | exact Imp.same | refine Imp.left ?_ | exact ImpX.one | exact ImpX.same | exact ImpX.mk | refine ImpX.up ?_ | refine ImpX.old ?_ | (apply pwp_condC; simp only [cond_true, cond_false]) | (refine pwp_cond rfl (fun h => ?_) (fun h => ?_) <;> (try simp at h) <;> (first | done | (exfalso; omega) | skip)) | (refine pwp_ret ?_; refine ⟨_, _, _, rfl, Wk.refl _, StSub.refl _, ?_, rfl⟩; (first | rfl | skip)) | (apply callS; exact rfl; exact rfl; exact rfl; (intro _; first | (apply ha <;> first | assumption | omega) | (apply hlb <;> first | assumption | omega) | (apply hp <;> first | assumption | omega) | (apply hw <;> first | assumption | omega)); rotate_left; exact rfl; exact rfl) | (apply callV; exact rfl; exact rfl; exact rfl; (intro _; first | (apply ha <;> first | assumption | omega) | (apply hlb <;> first | assumption | omega) | (apply hp <;> first | assumption | omega) | (apply hw <;> first | assumption | omega)); rotate_left; exact rfl; exact rfl) | (apply idxS pk; exact rfl; exact rfl; exact rfl; exact rfl; exact rfl; exact rfl; rotate_left; exact rfl; (intro _; exact rfl); (intro _; apply get_map <;> omega); (intro _; exact rfl); exact rfl) | (refine ⟨⟨(i + 1, o2), by simp only; omega, hI2, hv⟩, ?_, by simp only; omega⟩; (first | exact Sub.nil _ _ _ (StSub.refl _) rfl | ((repeat (first | refine Sub.pv ?_ rfl | refine Sub.var ?_ rfl rfl)); (first | exact Sub.nil _ _ _ (StSub.refl _) rfl | exact Sub.nil _ _ _ (stsub_swap (by assumption)) rfl | exact Sub.nil _ _ _ (stsub_eq (by first | rfl | exact upd_eta (by assumption) | ((simp only [St.pv, St.put, St.sst, St.setv, St.nil, St.var, upd_upd]); first | done | rfl))) rfl | (refine Sub.nil _ _ _ (stsub_eq ?_) rfl; (simp only [St.pv, St.put, St.sst, St.setv, St.nil, St.var, upd_upd]); (rw [upd4 (by assumption)]); first | done | rfl))))) | (intros; omega) | (intros; simp only [List.length_map]; omega)))
end Go.Proofs.YtbcdgocepnkpeaaGreat
