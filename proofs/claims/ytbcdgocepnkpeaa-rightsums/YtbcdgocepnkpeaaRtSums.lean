import Derived.Test.YtbcdgocepnkpeaaRtOne
set_option linter.unusedSimpArgs false
set_option linter.unusedVariables false
namespace Go.Proofs.Ytbcdgocepnkpeaa
open Go Go.Abs
attribute [local irreducible] Ev PWp
set_option maxRecDepth 10000
set_option maxHeartbeats 4000000
def sumF (f : Int → Int) : Nat → Int
  | 0 => 0
  | n + 1 => sumF f n + f ((n + 1 : Nat) : Int)
theorem sumF_congr {f g : Int → Int} : ∀ {n : Nat}, (∀ d : Int, 1 ≤ d → d ≤ n → f d = g d) → sumF f n = sumF g n
  | 0, _ => rfl
  | n + 1, h => by
    rw [sumF, sumF, sumF_congr fun d h1 h2 => h d h1 (by omega), h _ (by omega) (by omega)]
theorem sumF_add (f g : Int → Int) : ∀ n : Nat, sumF (fun d => f d + g d) n = sumF f n + sumF g n
  | 0 => rfl
  | n + 1 => by rw [sumF, sumF, sumF, sumF_add f g n]; omega
theorem sumF_zero : ∀ n : Nat, sumF (fun _ => 0) n = 0
  | 0 => rfl
  | n + 1 => by rw [sumF, sumF_zero n]; rfl
theorem sumF_if (a x : Int) : ∀ n : Nat, sumF (fun d => if d = a then x else 0) n = if 1 ≤ a ∧ a ≤ n then x else 0
  | 0 => by rw [if_neg (by omega)]; rfl
  | n + 1 => by
    rw [sumF, sumF_if a x n]
    by_cases e : ((n + 1 : Nat) : Int) = a
    · rw [if_pos e, if_neg (by omega), if_pos (by omega)]; omega
    · rw [if_neg e]
      by_cases q : 1 ≤ a ∧ a ≤ n
      · rw [if_pos q, if_pos (by omega)]; omega
      · rw [if_neg q, if_neg (by omega)]; rfl
theorem sumF_bd {f : Int → Int} {m : Int} (h : ∀ d, 0 ≤ f d ∧ f d ≤ m) : ∀ n : Nat, 0 ≤ sumF f n ∧ sumF f n ≤ m * n
  | 0 => by simp [sumF]
  | n + 1 => by
    have := sumF_bd h n
    have := h ((n + 1 : Nat) : Int)
    rw [sumF]
    have e : m * ((n + 1 : Nat) : Int) = m * n + m := by rw [Int.natCast_add, Int.mul_add]; simp
    omega
def kG (group : Int) : Of := ⟨3, 0, 0, group⟩
def TotI (group : Int) (o : List Ow) : Int := sumF (fun d => amL (rtsOf o d) (kG group)) 64
theorem tot0 (group : Int) : TotI group o0 = 0 := by
  unfold TotI
  refine (sumF_congr (g := fun _ => 0) fun d _ _ => ?_).trans (sumF_zero 64)
  refine amL_none fun r hr h3 => ?_
  exfalso
  have hne : rtsOf o0 d ≠ [] := fun e => by rw [e] at hr; cases hr
  obtain ⟨w, hw, _, e⟩ := rtsOf_some hne
  rw [e] at hr
  rw [List.mem_singleton.1 hw] at hr
  simp only [List.mem_cons, List.not_mem_nil, or_false] at hr
  rcases hr with rfl | rfl
  · exact absurd h3 (by decide)
  · exact absurd h3 (by decide)
theorem tot_hand {group : Int} {o : List Ow} {a b : Int} {r : Rt} {l : List Ow} (hl : HandS o a b r l) (ha : 1 ≤ a ∧ a ≤ 64) (hb : 1 ≤ b ∧ b ≤ 64) : TotI group l = TotI group o := by
  unfold TotI
  have e : ∀ d : Int, amL (rtsOf l d) (kG group) = amL (rtsOf o d) (kG group) + ((if d = a then 0 - add0 r (kG group) else 0) + if d = b then add0 r (kG group) else 0) := fun d => by
    rw [hl.am]
    split <;> split <;> omega
  rw [sumF_congr (g := fun d => amL (rtsOf o d) (kG group) + ((if d = a then 0 - add0 r (kG group) else 0) + if d = b then add0 r (kG group) else 0)) fun d _ _ => e d]
  rw [sumF_add (fun d => amL (rtsOf o d) (kG group)) (fun d => (if d = a then 0 - add0 r (kG group) else 0) + if d = b then add0 r (kG group) else 0), sumF_add (fun d => if d = a then 0 - add0 r (kG group) else 0) (fun d => if d = b then add0 r (kG group) else 0), sumF_if, sumF_if, if_pos (by omega), if_pos (by omega)]
  omega
theorem tot_use {group : Int} {o : List Ow} {dev t c g by_ : Int} {l : List Ow} (hl : UseS o dev (kS t c g) by_ l) (hd : 1 ≤ dev ∧ dev ≤ 64) : TotI group l = TotI group o - if (t = 0 ∧ c = 0) ∧ g = group then by_ else 0 := by
  unfold TotI
  have hk : kG group = kS t c g ↔ (t = 0 ∧ c = 0) ∧ g = group := by
    unfold kG kS
    simp only [Of.mk.injEq, true_and]
    omega
  have e : ∀ d : Int, amL (rtsOf l d) (kG group) = amL (rtsOf o d) (kG group) + if d = dev then (if (t = 0 ∧ c = 0) ∧ g = group then 0 - by_ else 0) else 0 := fun d => by
    rw [hl.am]
    by_cases q : (t = 0 ∧ c = 0) ∧ g = group
    · rw [if_pos q]
      by_cases e : d = dev
      · rw [if_pos ⟨e, hk.2 q⟩, if_pos e]; omega
      · rw [if_neg (fun z => e z.1), if_neg e]; omega
    · rw [if_neg q, if_neg (fun z => q (hk.1 z.2))]; split <;> omega
  rw [sumF_congr (g := fun d => amL (rtsOf o d) (kG group) + if d = dev then (if (t = 0 ∧ c = 0) ∧ g = group then 0 - by_ else 0) else 0) fun d _ _ => e d]
  rw [sumF_add (fun d => amL (rtsOf o d) (kG group)) (fun d => if d = dev then (if (t = 0 ∧ c = 0) ∧ g = group then 0 - by_ else 0) else 0), sumF_if, if_pos (by omega)]
  split <;> omega
theorem there0 : thereP plainS 3 0 0 = 0 := by kernel_rfl
theorem max0 : maxOf plainS 0 0 = 100 := by kernel_rfl
theorem sums_budget {group : Int} (hg : -1099511627776 ≤ group ∧ group ≤ 1099511627776) {o : List Ow} (h : CanonO plainS o) : sumF (fun d => budgetP plainS o d 0 0 group) 64 = TotI group o + 100 := by
  unfold TotI
  rw [sumF_congr (g := fun d => amL (rtsOf o d) (kG group) + if d = 1 then 100 else 0) fun d h1 h2 => by
    rw [budget_sem h ⟨h1, h2⟩ there0 hg, max0]; rfl]
  rw [sumF_add (fun d => amL (rtsOf o d) (kG group)) (fun d => if d = 1 then 100 else 0), sumF_if, if_pos (by omega)]
theorem budget_up {s : Sc} (hs : FewS s) {o : List Ow} (h : CanonO s o) (d t c g : Int) : budgetP s o d t c g ≤ 2199023255552 := by
  by_cases q : (1 ≤ d ∧ d ≤ 64) ∧ thereP s 3 t c = 0 ∧ -1099511627776 ≤ g ∧ g ≤ 1099511627776
  · rw [budget_sem h q.1 q.2.1 q.2.2]
    have hm := max_ok hs q.2.1
    have ha : amL (rtsOf o d) ⟨3, t, c, g⟩ ≤ 1099511627776 := by
      by_cases ha : amL (rtsOf o d) ⟨3, t, c, g⟩ = 0
      · omega
      · exact ((canon_sem.1 h).2.am d ⟨3, t, c, g⟩ ha).2.2.1
    split <;> omega
  · rw [budget_zero q]; omega
theorem made_used {s : Sc} {group : Int} (hs : FewS s) : ∀ (l : List Gs) (o : List Ow) (u : Int) (n : Nat), (-1099511627776 * (n : Int) ≤ u ∧ u ≤ 1099511627776 * (n : Int)) → -1099511627776 * ((n + l.length : Nat) : Int) ≤ (madeP s group l o u).2 ∧ (madeP s group l o u).2 ≤ 1099511627776 * ((n + l.length : Nat) : Int)
  | [], o, u, n, h => h
  | x :: l, o, u, n, h => by
    have e : n + (x :: l).length = n + 1 + l.length := by simp only [List.length_cons]; omega
    rw [madeP, e]
    split
    · split
      · rename_i q
        obtain ⟨_, hG, _⟩ := (useP_cases s o x.from_ x.right.table x.right.col x.right.lo x.by_).resolve_right fun z => z q
        have := hG.hb
        refine made_used hs l _ _ _ ?_
        split <;> omega
      · exact made_used hs l _ _ _ (by omega)
    · split
      · exact made_used hs l _ _ _ (by omega)
      · exact made_used hs l _ _ _ (by omega)
theorem sums_spec (l : List Gs) (group : Int) : PF Try.prog 4 [.seq (l.map Gs.cells), (PV.val (Value.int .i64 (group)))] (PV.val (Value.bool (true))) := by
  have haw := awake_spec
  by_cases hl : ¬ (l.length ≤ 12 ∧ (-1099511627776 ≤ group ∧ group ≤ 1099511627776))
  · refine pf_of tt_ok Try.func4 (by kernel_rfl) rfl rfl rfl rfl (fun st => ?_)
    (try (apply wO pk; exact rfl)); (repeat' (first | ((exfalso; omega)) | exact All.nil | refine All.cons ?_ ?_ | (apply wC pk; exact rfl; exact rfl) | (apply wE pk; exact rfl; exact rfl) | (apply wX pk; exact rfl) | (apply wN pk; exact rfl) | (apply wD pk [] []; kernel_rfl; exact rfl; exact rfl) | exact Imp.one | exact Imp.same | refine Imp.left ?_ | exact ImpX.one | exact ImpX.same | exact ImpX.mk | refine ImpX.up ?_ | refine ImpX.old ?_ | (apply pwp_condC; simp only [cond_true, cond_false]) | (refine pwp_cond rfl (fun h => ?_) (fun h => ?_) <;> (try simp at h) <;> (first | done | (exfalso; omega) | skip)) | (refine pwp_ret ?_; refine ⟨_, _, _, rfl, Wk.refl _, StSub.refl _, ?_, rfl⟩; (first | rfl | skip)) | (apply callS; exact rfl; exact rfl; exact rfl; (intro _; first | (apply haw <;> first | assumption | omega)); rotate_left; exact rfl; exact rfl) | (apply callV; exact rfl; exact rfl; exact rfl; (intro _; first | (apply haw <;> first | assumption | omega)); rotate_left; exact rfl; exact rfl) | (intros; omega) | (intros; simp only [List.length_map]; omega)))
  replace hl := Decidable.of_not_not hl
  obtain ⟨hl, hg⟩ := hl
  have hp := plain_spec
  have hm := made_spec l hl group
  have hQ : CanonO plainS (madeP plainS group l o0 0).1 ∧ TotI group (madeP plainS group l o0 0).1 = 0 - (madeP plainS group l o0 0).2 := made_ind plain_few (Q := fun o u => CanonO plainS o ∧ TotI group o = 0 - u) (fun o u x o' h hG hS hc => ⟨hc, by
    rw [tot_use hS hG.hd, h.2]; split <;> omega⟩) (fun o u a b r o' h hG hS hc => ⟨hc, by rw [tot_hand hS hG.ha hG.hb]; exact h.2⟩) l o0 0 ⟨mi0.canon, by rw [tot0]; rfl⟩
  have hfw : FewN 30 (madeP plainS group l o0 0).1 := (made_few l o0 0 2 mi0.few).mono (by omega)
  have hub := made_used (s := plainS) (group := group) plain_few l o0 0 0 (by simp)
  generalize madeP plainS group l o0 0 = z at *
  obtain ⟨o, u⟩ := z
  simp only at hm hQ hfw hub
  obtain ⟨hcan, htot⟩ := hQ
  have ho := hfw.o (by omega)
  have hsum := sums_budget hg hcan
  rw [htot] at hsum
  have hbb : ∀ d, 0 ≤ budgetP plainS o d 0 0 group ∧ budgetP plainS o d 0 0 group ≤ 2199023255552 := fun d => ⟨budget_nn plain_few hcan d 0 0 group, budget_up plain_few hcan d 0 0 group⟩
  have hbs := fun d => budget_spec plainS plain_few o ho d 0 0 group
  generalize hf : (fun d => budgetP plainS o d 0 0 group) = f at *
  have hbs : ∀ d, PF Try.prog 13 [.agg (scC plainS), .seq (o.map Ow.cells), (PV.val (Value.int .i64 (d))), (PV.val (Value.int .i64 (0))), (PV.val (Value.int .i64 (0))), (PV.val (Value.int .i64 (group)))] (PV.val (Value.int .i64 (f d))) := fun d => by rw [← hf]; exact hbs d
  have hbb : ∀ d, 0 ≤ f d ∧ f d ≤ 2199023255552 := fun d => by rw [← hf]; exact hbb d
  refine pf_of tt_ok Try.func4 (by kernel_rfl) rfl rfl rfl rfl (fun st => ?_)
  (try (apply wO pk; exact rfl)); (repeat' (first | ((exfalso; omega)) | exact All.nil | refine All.cons ?_ ?_ | (apply wC pk; exact rfl; exact rfl) | (apply wE pk; exact rfl; exact rfl) | (apply wX pk; exact rfl) | (apply wN pk; exact rfl) | (apply wD pk [] []; kernel_rfl; exact rfl; exact rfl) | exact Imp.one | exact Imp.same | refine Imp.left ?_ | exact ImpX.one | exact ImpX.same | exact ImpX.mk | refine ImpX.up ?_ | refine ImpX.old ?_ | (apply pwp_condC; simp only [cond_true, cond_false]) | (refine pwp_cond rfl (fun h => ?_) (fun h => ?_) <;> (try simp at h) <;> (first | done | (exfalso; omega) | skip)) | (refine pwp_ret ?_; refine ⟨_, _, _, rfl, Wk.refl _, StSub.refl _, ?_, rfl⟩; (first | rfl | skip)) | (apply callS; exact rfl; exact rfl; exact rfl; (intro _; first | (apply haw <;> first | assumption | omega) | (apply hp <;> first | assumption | omega) | (apply hm <;> first | assumption | omega)); rotate_left; exact rfl; exact rfl) | (apply callV; exact rfl; exact rfl; exact rfl; (intro _; first | (apply haw <;> first | assumption | omega) | (apply hp <;> first | assumption | omega) | (apply hm <;> first | assumption | omega)); rotate_left; exact rfl; exact rfl) | (intros; omega) | (intros; simp only [List.length_map]; omega)))
  refine pwp_loop (X := { x : Nat // x ≤ 64 }) (fun i => ((((((((St.nil 54 st).pv 1 ((PV.val (Value.int .i64 (group))))).pv 5 ((PV.val (Value.bool (true))))).var 6 27 (scC plainS)).pv 7 (.seq (o.map Ow.cells))).pv 8 ((PV.val (Value.int .i64 (u))))).pv 9 ((PV.val (Value.int .i64 (sumF f i.1))))).pv 10 ((PV.val (Value.int .i64 ((i.1 + 1 : Nat))))))) (fun i => 64 - i.1) ⟨0, by omega⟩ ?_ (fun i => ?_)
  · (first | exact Sub.nil _ _ _ (StSub.refl _) rfl | ((repeat (first | refine Sub.pv ?_ rfl | refine Sub.var ?_ rfl rfl)); (first | exact Sub.nil _ _ _ (StSub.refl _) rfl | exact Sub.nil _ _ _ (stsub_swap (by assumption)) rfl | exact Sub.nil _ _ _ (stsub_eq (by first | rfl | exact upd_eta (by assumption) | ((simp only [St.pv, St.put, St.sst, St.setv, St.nil, St.var, upd_upd]); first | done | rfl))) rfl | (refine Sub.nil _ _ _ (stsub_eq ?_) rfl; (simp only [St.pv, St.put, St.sst, St.setv, St.nil, St.var, upd_upd]); (rw [upd4 (by assumption)]); first | done | rfl))))
  obtain ⟨n, hn⟩ := i
  dsimp only
  by_cases hend : 64 ≤ n
  · have e : n = 64 := by omega
    subst e
    rw [hsum]
    (try (apply wO pk; exact rfl)); (repeat' (first | ((exfalso; omega)) | exact All.nil | refine All.cons ?_ ?_ | (apply wC pk; exact rfl; exact rfl) | (apply wE pk; exact rfl; exact rfl) | (apply wX pk; exact rfl) | (apply wN pk; exact rfl) | (apply wD pk [] []; kernel_rfl; exact rfl; exact rfl) | exact Imp.one | exact Imp.same | refine Imp.left ?_ | exact ImpX.one | exact ImpX.same | exact ImpX.mk | refine ImpX.up ?_ | refine ImpX.old ?_ | (apply pwp_condC; simp only [cond_true, cond_false]) | (refine pwp_cond rfl (fun h => ?_) (fun h => ?_) <;> (try simp at h) <;> (first | done | (exfalso; omega) | skip)) | (refine pwp_ret ?_; refine ⟨_, _, _, rfl, Wk.refl _, StSub.refl _, ?_, rfl⟩; (first | rfl | ((first | (simp; omega) | (congr 2; rw [decide_eq_true_eq]; omega)); done) | skip)) | (intros; omega) | (intros; simp only [List.length_map]; omega)))
  have hlt : n < 64 := by omega
  have hbs := hbs ((n + 1 : Nat) : Int)
  have hb1 := hbb ((n + 1 : Nat) : Int)
  have s1 : sumF f (n + 1) = sumF f n + f ((n + 1 : Nat) : Int) := rfl
  have hsb := sumF_bd hbb n
  generalize f ((n + 1 : Nat) : Int) = bf at *
  (try (apply wO pk; exact rfl)); (repeat' (first | ((exfalso; omega)) | exact All.nil | refine All.cons ?_ ?_ | (apply wC pk; exact rfl; exact rfl) | (apply wE pk; exact rfl; exact rfl) | (apply wX pk; exact rfl) | (apply wN pk; exact rfl) | (apply wD pk [] []; kernel_rfl; exact rfl; exact rfl) | exact Imp.one | exact Imp.same | refine Imp.left ?_ | exact ImpX.one | exact ImpX.same | exact ImpX.mk | refine ImpX.up ?_ | refine ImpX.old ?_ | (apply pwp_condC; simp only [cond_true, cond_false]) | (refine pwp_cond rfl (fun h => ?_) (fun h => ?_) <;> (try simp at h) <;> (first | done | (exfalso; omega) | skip)) | (refine pwp_ret ?_; refine ⟨_, _, _, rfl, Wk.refl _, StSub.refl _, ?_, rfl⟩; (first | rfl | skip)) | (apply callS; exact rfl; exact rfl; exact rfl; (intro _; first | (apply hbs <;> first | assumption | omega)); rotate_left; exact rfl; exact rfl) | (apply callV; exact rfl; exact rfl; exact rfl; (intro _; first | (apply hbs <;> first | assumption | omega)); rotate_left; exact rfl; exact rfl) | (refine ⟨⟨n + 1, by omega⟩, ?_, by simp only; omega⟩; (simp only [s1]); (first | exact Sub.nil _ _ _ (StSub.refl _) rfl | ((repeat (first | refine Sub.pv ?_ rfl | refine Sub.var ?_ rfl rfl)); (first | exact Sub.nil _ _ _ (StSub.refl _) rfl | exact Sub.nil _ _ _ (stsub_swap (by assumption)) rfl | exact Sub.nil _ _ _ (stsub_eq (by first | rfl | exact upd_eta (by assumption) | ((simp only [St.pv, St.put, St.sst, St.setv, St.nil, St.var, upd_upd]); first | done | rfl))) rfl | (refine Sub.nil _ _ _ (stsub_eq ?_) rfl; (simp only [St.pv, St.put, St.sst, St.setv, St.nil, St.var, upd_upd]); (rw [upd4 (by assumption)]); first | done | rfl))))) | (intros; omega) | (intros; simp only [List.length_map]; omega)))
end Go.Proofs.Ytbcdgocepnkpeaa
