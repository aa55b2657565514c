import Derived.Test.YtbcdgocepnkpeaaRtBackL
import Derived.Test.YtbcdgocepnkpeaaRtFew
import Derived.Test.YtbcdgocepnkpeaaRtAwake
set_option linter.unusedSimpArgs false
set_option linter.unusedVariables false
namespace Go.Proofs.Ytbcdgocepnkpeaa
open Go Go.Abs
attribute [local irreducible] Ev PWp
set_option maxRecDepth 10000
set_option maxHeartbeats 4000000
structure Gs where
  from_ : Int
  to_ : Int
  right : Rt
  by_ : Int
  deriving DecidableEq, Inhabited
def Gs.cells (a : Gs) : List PV := [.val (.int .i64 (a.from_)), .val (.int .i64 (a.to_)), .val (.int .i64 (a.right.kind)), .val (.int .i64 (a.right.table)), .val (.int .i64 (a.right.col)), .val (.int .i64 (a.right.lo)), .val (.int .i64 (a.right.hi)), .val (.int .i64 (a.right.amt)), .val (.int .i64 (a.by_))]
def Gs.zero : Gs := ⟨0, 0, Rt.zero, 0⟩
theorem Gs.ext_iff (a b : Gs) : a = b ↔ a.from_ = b.from_ ∧ a.to_ = b.to_ ∧ a.right = b.right ∧ a.by_ = b.by_ := by cases a; cases b; simp
theorem Gs.elem : Elem tt 65 Gs.cells (fun a => .agg a.cells) 9 := ⟨rfl, fun _ => rfl, fun _ => rfl, fun _ => rfl, fun _ => rfl⟩
theorem cutX_one {r x : Rt} (h : r.lo < r.hi) (hx : x.kind ≠ 3 → x.lo < x.hi) : (cutX r x).length ≤ 1 ∨ (x.kind = r.kind ∧ x.table = r.table ∧ x.col = r.col ∧ x.lo < r.lo ∧ r.hi < x.hi) := by
  unfold cutX
  split
  · left; simp
  · rename_i q
    simp only [Bool.or_eq_true, not_or, decide_eq_true_eq, Bool.not_eq_true', Bool.not_eq_false, same_iff] at q
    by_cases h1 : x.lo < r.lo
    · by_cases h2 : r.hi < x.hi
      · right; exact ⟨q.1.1.1.1, q.1.1.1.2.1, q.1.1.1.2.2, h1, h2⟩
      · left; rw [if_pos h1, if_neg h2]; simp
    · left; rw [if_neg h1]; split <;> simp
theorem cutP_len1 {r : Rt} (h : r.lo < r.hi) (r3 : r.kind ≠ 3) : ∀ l : List Rt, NF l → (cutP l r).length ≤ l.length + 1
  | [], _ => by simp [cutP]
  | x :: l, hl => by
    have e : cutP (x :: l) r = cutX r x ++ cutP l r := by unfold cutP; rw [List.flatMap_cons]
    have hb := (List.pairwise_cons.1 hl.srt).1
    rw [e, List.length_append, List.length_cons]
    rcases cutX_one (x := x) h (fun q => (hl.span x (by simp) q).1) with q | ⟨k1, k2, k3, q1, q2⟩
    · have := cutP_len1 h r3 l hl.tail; omega
    · have h2 : (cutX r x).length ≤ 2 := by
        unfold cutX
        split
        · simp
        · first
          | (simp; done)
          | (split <;> split <;> simp)
      have h3 : cutP l r = l := by
        have key : ∀ m : List Rt, (∀ y ∈ m, bh x y) → cutP m r = m := fun m => by
          induction m with
          | nil => intro _; rfl
          | cons y m ih =>
            intro hm
            have hy := hm y (by simp)
            have e2 : cutP (y :: m) r = cutX r y ++ cutP m r := by unfold cutP; rw [List.flatMap_cons]
            rw [e2, ih fun z hz => hm z (List.mem_cons_of_mem _ hz)]
            have : cutX r y = [y] := by
              unfold cutX
              rw [if_pos]
              simp only [Bool.or_eq_true, decide_eq_true_eq, Bool.not_eq_true']
              by_cases hs : sameB y r = true
              · rw [same_iff] at hs
                left; right
                unfold bh at hy
                omega
              · left; left; simpa using hs
            rw [this]; rfl
        exact key l hb
      rw [h3]; omega
theorem handP_fewn {s : Sc} {o : List Ow} {n : Nat} (hf : FewN n o) (a b : Int) (r : Rt) : FewN (n + 2) (handP s o a b r).1 := by
  have h0 : FewN (n + 2) ([] : List Ow) := ⟨by simp, fun _ h => by cases h⟩
  by_cases hG : HandG s o a b r
  · have hrg := rg_of hG.right
    have key : ∀ l : List Rt, l.length ≤ n + 1 → rtsOf (withP o a l) b = rtsOf o b → FewN (n + 2) (handO o a b r l) := fun l hl he => by
      unfold handO
      have h1 := hf.with a (m := n + 1) (l := l) (by omega) (by omega)
      have h2 := hf.rts b
      have h3 := putP_len (rtsOf (withP o a l) b) r
      rw [he] at h3
      exact h1.with b (by rw [he]; omega) (by omega)
    have hl := hf.rts a
    have hn := hG.canon.nfo
    unfold handP
    rw [if_neg (fun q => q ⟨⟨⟨(canon_iff s o).2 hG.canon, by have := hG.ha; simp [deviceB]; omega⟩, by have := hG.hb; simp [deviceB]; omega⟩, hG.ne⟩), if_neg (fun q => q hG.right), if_neg (by rw [hG.holds]; simp)]
    by_cases h3 : r.kind = 3
    · rw [if_pos h3, if_neg (hG.nov h3)]
      have hp := put_sem (hn.get a) (r := negA r) ⟨fun q => absurd h3 q, fun _ => hrg.sum h3⟩
      exact key _ (by have := putP_len (rtsOf o a) (negA r); omega) (by rw [(with_sem hn a hp.nf).rts, if_neg (fun q => hG.ne q.symm)])
    · rw [if_neg h3]
      have hp := cut_sem hrg h3 (hn.get a)
      exact key _ (by have := cutP_len1 (hrg.span h3).1 h3 (rtsOf o a) (hn.get a); omega) (by rw [(with_sem hn a hp.nf).rts, if_neg (fun q => hG.ne q.symm)])
  · rw [(handP_bad hG).2]; exact h0
structure UseG (s : Sc) (o : List Ow) (dev t c g by_ : Int) : Prop where
  canon : CanonO s o
  hd : 1 ≤ dev ∧ dev ≤ 64
  hg : -1099511627776 ≤ g ∧ g ≤ 1099511627776
  hb : -1099511627776 ≤ by_ ∧ by_ ≤ 1099511627776
  there : thereP s 3 t c = 0
  right : ¬ by_ > budgetP s o dev t c g
  nov : ¬ amL (rtsOf o dev) (kS t c g) - by_ > 1099511627776
theorem useP_cases (s : Sc) (o : List Ow) (dev t c g by_ : Int) : ((useP s o dev t c g by_).2 = 0 ∧ UseG s o dev t c g by_ ∧ UseS o dev (kS t c g) by_ (useP s o dev t c g by_).1) ∨ (useP s o dev t c g by_).2 ≠ 0 := by
  unfold useP
  split
  · right; simp
  rename_i c1
  have c1 := Decidable.of_not_not c1
  split
  · right; simp
  rename_i c2
  split
  · right; simp
  rename_i c3
  split
  · right; simp
  rename_i c4
  have hc := (canon_iff s o).1 c1.1.1.1
  exact .inl ⟨rfl, ⟨hc, by have := c1.1.1.2; simpa [deviceB] using this, (fits_iff g).1 c1.1.2, (fits_iff by_).1 c1.2, Decidable.of_not_not c2, c3, c4⟩, useO_sem hc.nfo dev t c g by_⟩
theorem useP_fewn {s : Sc} {o : List Ow} {n : Nat} (hf : FewN n o) (dev t c g by_ : Int) : FewN (n + 2) (useP s o dev t c g by_).1 := by
  have h0 : FewN (n + 2) ([] : List Ow) := ⟨by simp, fun _ h => by cases h⟩
  unfold useP
  split
  · exact h0
  split
  · exact h0
  split
  · exact h0
  split
  · exact h0
  · have := hf.rts dev
    have := putP_len (rtsOf o dev) (useR t c g by_)
    exact hf.with dev (by omega) (by omega)
theorem FewN.mono {n m : Nat} {o : List Ow} (h : FewN n o) (hm : n ≤ m) : FewN m o := ⟨by have := h.1; omega, fun w hw => by have := h.2 w hw; omega⟩
def madeP (s : Sc) (group : Int) : List Gs → List Ow → Int → List Ow × Int
  | [], o, u => (o, u)
  | x :: l, o, u =>
    if x.to_ = 0 then
      if (useP s o x.from_ x.right.table x.right.col x.right.lo x.by_).2 = 0 then
        madeP s group l (useP s o x.from_ x.right.table x.right.col x.right.lo x.by_).1 (if (x.right.table = 0 ∧ x.right.col = 0) ∧ x.right.lo = group then u + x.by_ else u)
      else madeP s group l o u
    else if (handP s o x.from_ x.to_ x.right).2 = 0 then madeP s group l (handP s o x.from_ x.to_ x.right).1 u
    else madeP s group l o u
structure MI (s : Sc) (i : Nat) (o : List Ow) (u : Int) : Prop where
  few : FewN (2 + 2 * i) o
  canon : CanonO s o
  used : -1099511627776 * (i : Int) ≤ u ∧ u ≤ 1099511627776 * (i : Int)
theorem made_gen (s : Sc) (hs : FewS s) (l : List Gs) (hl : l.length ≤ 12) (group : Int) (p0 : PF Try.prog 18 [.agg (scC s)] (.seq (o0.map Ow.cells))) (hM0 : MI s 0 o0 0) : PF Try.prog 9 [.agg (scC s), .seq (l.map Gs.cells), (PV.val (Value.int .i64 (group)))] (.tup [.seq ((madeP s group l o0 0).1.map Ow.cells), (PV.val (Value.int .i64 ((madeP s group l o0 0).2)))]) := by
  refine pf_of tt_ok Try.func9 (by kernel_rfl) rfl rfl rfl rfl (fun st => ?_)
  (try (apply wO pk; exact rfl)); (repeat' (first | exact All.nil | refine All.cons ?_ ?_ | (apply wC pk; exact rfl; exact rfl) | (apply wE pk; exact rfl; exact rfl) | (apply wX pk; exact rfl) | (apply wN pk; exact rfl) | (apply wD pk [] []; kernel_rfl; exact rfl; exact rfl) | exact Imp.one | exact Imp.same | refine Imp.left ?_ | exact ImpX.one | exact ImpX.same | exact ImpX.mk | refine ImpX.up ?_ | refine ImpX.old ?_ | (apply pwp_condC; simp only [cond_true, cond_false]) | (refine pwp_cond rfl (fun h => ?_) (fun h => ?_) <;> (try simp at h) <;> (first | done | (exfalso; omega) | skip)) | (refine pwp_ret ?_; refine ⟨_, _, _, rfl, Wk.refl _, StSub.refl _, ?_, rfl⟩; (first | rfl | skip)) | (apply callS; exact rfl; exact rfl; exact rfl; (intro _; first | (apply p0 <;> first | assumption | omega)); rotate_left; exact rfl; exact rfl) | (apply callV; exact rfl; exact rfl; exact rfl; (intro _; first | (apply p0 <;> first | assumption | omega)); rotate_left; exact rfl; exact rfl) | (intros; omega) | (intros; simp only [List.length_map]; omega)))
  generalize hres : madeP s group l o0 0 = res
  refine pwp_loop (X := { x : Nat × List Ow × Int // x.1 ≤ l.length ∧ MI s x.1 x.2.1 x.2.2 ∧ madeP s group (l.drop x.1) x.2.1 x.2.2 = res }) (fun i => (((((((St.nil 91 st).pv 1 (.seq (l.map Gs.cells))).pv 2 ((PV.val (Value.int .i64 (group))))).var 3 27 ((scC s))).pv 8 (.seq (i.1.2.1.map Ow.cells))).pv 9 ((PV.val (Value.int .i64 (i.1.2.2))))).pv 10 ((PV.val (Value.int .i64 ((i.1.1 : Nat))))))) (fun i => l.length - i.1.1) ⟨(0, o0, 0), by simp, hM0, hres⟩ ?_ (fun i => ?_)
  · (first | exact Sub.nil _ _ _ (StSub.refl _) rfl | ((repeat (first | refine Sub.pv ?_ rfl | refine Sub.var ?_ rfl rfl | refine Sub.pv' ?_ rfl (by first | rfl | simp) | refine Sub.var' ?_ rfl rfl (by first | rfl | simp))); (first | exact Sub.nil _ _ _ (StSub.refl _) rfl | exact Sub.nil _ _ _ (stsub_swap (by assumption)) rfl | exact Sub.nil _ _ _ (stsub_eq (by first | rfl | exact upd_eta (by assumption) | ((simp only [St.pv, St.put, St.sst, St.setv, St.nil, St.var, upd_upd]); first | done | rfl))) rfl | (refine Sub.nil _ _ _ (stsub_eq ?_) rfl; (simp only [St.pv, St.put, St.sst, St.setv, St.nil, St.var, upd_upd]); (rw [upd4 (by assumption)]); first | done | rfl))))
  obtain ⟨⟨i, o, u⟩, hi, hM, hv⟩ := i
  simp only at hi hM hv
  dsimp only
  by_cases hend : l.length ≤ i
  · rw [List.drop_eq_nil_of_le hend] at hv
    rw [← hv]
    (try (apply wO pk; exact rfl)); (repeat' (first | exact All.nil | refine All.cons ?_ ?_ | (apply wC pk; exact rfl; exact rfl) | (apply wE pk; exact rfl; exact rfl) | (apply wX pk; exact rfl) | (apply wN pk; exact rfl) | (apply wD pk [] []; kernel_rfl; exact rfl; exact rfl) | exact Imp.one | exact Imp.same | refine Imp.left ?_ | exact ImpX.one | exact ImpX.same | exact ImpX.mk | refine ImpX.up ?_ | refine ImpX.old ?_ | (apply pwp_condC; simp only [cond_true, cond_false]) | (refine pwp_cond rfl (fun h => ?_) (fun h => ?_) <;> (try simp at h) <;> (first | done | (exfalso; omega) | skip)) | (refine pwp_ret ?_; refine ⟨_, _, _, rfl, Wk.refl _, StSub.refl _, ?_, rfl⟩; (first | rfl | skip)) | (intros; omega) | (intros; simp only [List.length_map]; omega)))
  have hlt : i < l.length := by omega
  rw [List.drop_eq_getElem_cons hlt, madeP] at hv
  have ho := hM.few.o (by omega)
  have hus := hM.used
  have hM1 : MI s (i + 1) o u := ⟨hM.few.mono (by omega), hM.canon, by omega⟩
  generalize hx : l[i] = x at *
  have hrow : (l.map Gs.cells)[i]? = some x.cells := by rw [← hx]; simp [hlt]
  by_cases ht : x.to_ = 0
  · rw [if_pos ht] at hv
    have h1 := use_spec s hs o ho x.from_ x.right.table x.right.col x.right.lo x.by_
    have hf := useP_fewn (s := s) hM.few x.from_ x.right.table x.right.col x.right.lo x.by_
    have hcs := useP_cases s o x.from_ x.right.table x.right.col x.right.lo x.by_
    generalize useP s o x.from_ x.right.table x.right.col x.right.lo x.by_ = z at *
    obtain ⟨o2, e⟩ := z
    simp only at h1 hf hcs hv
    by_cases he : e = 0
    · rw [if_pos he] at hv
      have hcs := hcs.resolve_right fun q => q he
      obtain ⟨_, hG, hS⟩ := hcs
      have hb := hG.hb
      have hcan := use_canon hs hG.canon hG.hd hG.hg hG.there hG.right hG.nov hS
      by_cases hk : (x.right.table = 0 ∧ x.right.col = 0) ∧ x.right.lo = group
      · rw [if_pos hk] at hv
        have hM2 : MI s (i + 1) o2 (u + x.by_) := ⟨hf.mono (by omega), hcan, by omega⟩
        (try (apply wO pk; exact rfl)); (repeat' (first | ((exfalso; omega)) | exact All.nil | refine All.cons ?_ ?_ | (apply wC pk; exact rfl; exact rfl) | (apply wE pk; exact rfl; exact rfl) | (apply wX pk; exact rfl) | (apply wN pk; exact rfl) | (apply wD pk [] []; kernel_rfl; exact rfl; exact rfl) | exact Imp.one | exact Imp.same | refine Imp.left ?_ | exact ImpX.one | exact ImpX.same | exact ImpX.mk | refine ImpX.up ?_ | refine ImpX.old ?_ | (apply pwp_condC; simp only [cond_true, cond_false]) | (refine pwp_cond rfl (fun h => ?_) (fun h => ?_) <;> (try simp at h) <;> (first | done | (exfalso; omega) | skip)) | (refine pwp_ret ?_; refine ⟨_, _, _, rfl, Wk.refl _, StSub.refl _, ?_, rfl⟩; (first | rfl | skip)) | (apply callS; exact rfl; exact rfl; exact rfl; (intro _; first | (apply h1 <;> first | assumption | omega)); rotate_left; exact rfl; exact rfl) | (apply callV; exact rfl; exact rfl; exact rfl; (intro _; first | (apply h1 <;> first | assumption | omega)); rotate_left; exact rfl; exact rfl) | (apply idxS pk; exact rfl; exact rfl; exact rfl; exact rfl; exact rfl; exact rfl; rotate_left; exact rfl; (intro _; exact rfl); (intro _; apply hrow <;> omega); (intro _; exact rfl); exact rfl) | (refine ⟨⟨(i + 1, o2, u + x.by_), by simp only; omega, hM2, hv⟩, ?_, by simp only; omega⟩; (first | exact Sub.nil _ _ _ (StSub.refl _) rfl | ((repeat (first | refine Sub.pv ?_ rfl | refine Sub.var ?_ rfl rfl)); (first | exact Sub.nil _ _ _ (StSub.refl _) rfl | exact Sub.nil _ _ _ (stsub_swap (by assumption)) rfl | exact Sub.nil _ _ _ (stsub_eq (by first | rfl | exact upd_eta (by assumption) | ((simp only [St.pv, St.put, St.sst, St.setv, St.nil, St.var, upd_upd]); first | done | rfl))) rfl | (refine Sub.nil _ _ _ (stsub_eq ?_) rfl; (simp only [St.pv, St.put, St.sst, St.setv, St.nil, St.var, upd_upd]); (rw [upd4 (by assumption)]); first | done | rfl))))) | (intros; omega) | (intros; simp only [List.length_map]; omega)))
      · rw [if_neg hk] at hv
        have hM2 : MI s (i + 1) o2 u := ⟨hf.mono (by omega), hcan, by omega⟩
        (try (apply wO pk; exact rfl)); (repeat' (first | ((exfalso; omega)) | exact All.nil | refine All.cons ?_ ?_ | (apply wC pk; exact rfl; exact rfl) | (apply wE pk; exact rfl; exact rfl) | (apply wX pk; exact rfl) | (apply wN pk; exact rfl) | (apply wD pk [] []; kernel_rfl; exact rfl; exact rfl) | exact Imp.one | exact Imp.same | refine Imp.left ?_ | exact ImpX.one | exact ImpX.same | exact ImpX.mk | refine ImpX.up ?_ | refine ImpX.old ?_ | (apply pwp_condC; simp only [cond_true, cond_false]) | (refine pwp_cond rfl (fun h => ?_) (fun h => ?_) <;> (try simp at h) <;> (first | done | (exfalso; omega) | skip)) | (refine pwp_ret ?_; refine ⟨_, _, _, rfl, Wk.refl _, StSub.refl _, ?_, rfl⟩; (first | rfl | skip)) | (apply callS; exact rfl; exact rfl; exact rfl; (intro _; first | (apply h1 <;> first | assumption | omega)); rotate_left; exact rfl; exact rfl) | (apply callV; exact rfl; exact rfl; exact rfl; (intro _; first | (apply h1 <;> first | assumption | omega)); rotate_left; exact rfl; exact rfl) | (apply idxS pk; exact rfl; exact rfl; exact rfl; exact rfl; exact rfl; exact rfl; rotate_left; exact rfl; (intro _; exact rfl); (intro _; apply hrow <;> omega); (intro _; exact rfl); exact rfl) | (refine ⟨⟨(i + 1, o2, u), by simp only; omega, hM2, hv⟩, ?_, by simp only; omega⟩; (first | exact Sub.nil _ _ _ (StSub.refl _) rfl | ((repeat (first | refine Sub.pv ?_ rfl | refine Sub.var ?_ rfl rfl)); (first | exact Sub.nil _ _ _ (StSub.refl _) rfl | exact Sub.nil _ _ _ (stsub_swap (by assumption)) rfl | exact Sub.nil _ _ _ (stsub_eq (by first | rfl | exact upd_eta (by assumption) | ((simp only [St.pv, St.put, St.sst, St.setv, St.nil, St.var, upd_upd]); first | done | rfl))) rfl | (refine Sub.nil _ _ _ (stsub_eq ?_) rfl; (simp only [St.pv, St.put, St.sst, St.setv, St.nil, St.var, upd_upd]); (rw [upd4 (by assumption)]); first | done | rfl))))) | (intros; omega) | (intros; simp only [List.length_map]; omega)))
    · rw [if_neg he] at hv
      (try (apply wO pk; exact rfl)); (repeat' (first | ((exfalso; omega)) | exact All.nil | refine All.cons ?_ ?_ | (apply wC pk; exact rfl; exact rfl) | (apply wE pk; exact rfl; exact rfl) | (apply wX pk; exact rfl) | (apply wN pk; exact rfl) | (apply wD pk [] []; kernel_rfl; exact rfl; exact rfl) | exact Imp.one | exact Imp.same | refine Imp.left ?_ | exact ImpX.one | exact ImpX.same | exact ImpX.mk | refine ImpX.up ?_ | refine ImpX.old ?_ | (apply pwp_condC; simp only [cond_true, cond_false]) | (refine pwp_cond rfl (fun h => ?_) (fun h => ?_) <;> (try simp at h) <;> (first | done | (exfalso; omega) | skip)) | (refine pwp_ret ?_; refine ⟨_, _, _, rfl, Wk.refl _, StSub.refl _, ?_, rfl⟩; (first | rfl | skip)) | (apply callS; exact rfl; exact rfl; exact rfl; (intro _; first | (apply h1 <;> first | assumption | omega)); rotate_left; exact rfl; exact rfl) | (apply callV; exact rfl; exact rfl; exact rfl; (intro _; first | (apply h1 <;> first | assumption | omega)); rotate_left; exact rfl; exact rfl) | (apply idxS pk; exact rfl; exact rfl; exact rfl; exact rfl; exact rfl; exact rfl; rotate_left; exact rfl; (intro _; exact rfl); (intro _; apply hrow <;> omega); (intro _; exact rfl); exact rfl) | (refine ⟨⟨(i + 1, o, u), by simp only; omega, hM1, hv⟩, ?_, by simp only; omega⟩; (first | exact Sub.nil _ _ _ (StSub.refl _) rfl | ((repeat (first | refine Sub.pv ?_ rfl | refine Sub.var ?_ rfl rfl)); (first | exact Sub.nil _ _ _ (StSub.refl _) rfl | exact Sub.nil _ _ _ (stsub_swap (by assumption)) rfl | exact Sub.nil _ _ _ (stsub_eq (by first | rfl | exact upd_eta (by assumption) | ((simp only [St.pv, St.put, St.sst, St.setv, St.nil, St.var, upd_upd]); first | done | rfl))) rfl | (refine Sub.nil _ _ _ (stsub_eq ?_) rfl; (simp only [St.pv, St.put, St.sst, St.setv, St.nil, St.var, upd_upd]); (rw [upd4 (by assumption)]); first | done | rfl))))) | (intros; omega) | (intros; simp only [List.length_map]; omega)))
  · rw [if_neg ht] at hv
    have h1 := hand_spec s hs o ho x.from_ x.to_ x.right
    have hf := handP_fewn (s := s) hM.few x.from_ x.to_ x.right
    by_cases hG : HandG s o x.from_ x.to_ x.right
    · obtain ⟨e1, hS⟩ := handP_good hG
      have hcan := hG.next hs hS
      generalize handP s o x.from_ x.to_ x.right = z at *
      obtain ⟨o2, e⟩ := z
      simp only at h1 hf e1 hv hcan
      rw [if_pos e1] at hv
      subst e1
      have hM2 : MI s (i + 1) o2 u := ⟨hf.mono (by omega), hcan, by omega⟩
      (try (apply wO pk; exact rfl)); (repeat' (first | ((exfalso; omega)) | exact All.nil | refine All.cons ?_ ?_ | (apply wC pk; exact rfl; exact rfl) | (apply wE pk; exact rfl; exact rfl) | (apply wX pk; exact rfl) | (apply wN pk; exact rfl) | (apply wD pk [] []; kernel_rfl; exact rfl; exact rfl) | exact Imp.one | exact Imp.same | refine Imp.left ?_ | exact ImpX.one | exact ImpX.same | exact ImpX.mk | refine ImpX.up ?_ | refine ImpX.old ?_ | (apply pwp_condC; simp only [cond_true, cond_false]) | (refine pwp_cond rfl (fun h => ?_) (fun h => ?_) <;> (try simp at h) <;> (first | done | (exfalso; omega) | skip)) | (refine pwp_ret ?_; refine ⟨_, _, _, rfl, Wk.refl _, StSub.refl _, ?_, rfl⟩; (first | rfl | skip)) | (apply callS; exact rfl; exact rfl; exact rfl; (intro _; first | (apply h1 <;> first | assumption | omega)); rotate_left; exact rfl; exact rfl) | (apply callV; exact rfl; exact rfl; exact rfl; (intro _; first | (apply h1 <;> first | assumption | omega)); rotate_left; exact rfl; exact rfl) | (apply idxS pk; exact rfl; exact rfl; exact rfl; exact rfl; exact rfl; exact rfl; rotate_left; exact rfl; (intro _; exact rfl); (intro _; apply hrow <;> omega); (intro _; exact rfl); exact rfl) | (refine ⟨⟨(i + 1, o2, u), by simp only; omega, hM2, hv⟩, ?_, by simp only; omega⟩; (first | exact Sub.nil _ _ _ (StSub.refl _) rfl | ((repeat (first | refine Sub.pv ?_ rfl | refine Sub.var ?_ rfl rfl)); (first | exact Sub.nil _ _ _ (StSub.refl _) rfl | exact Sub.nil _ _ _ (stsub_swap (by assumption)) rfl | exact Sub.nil _ _ _ (stsub_eq (by first | rfl | exact upd_eta (by assumption) | ((simp only [St.pv, St.put, St.sst, St.setv, St.nil, St.var, upd_upd]); first | done | rfl))) rfl | (refine Sub.nil _ _ _ (stsub_eq ?_) rfl; (simp only [St.pv, St.put, St.sst, St.setv, St.nil, St.var, upd_upd]); (rw [upd4 (by assumption)]); first | done | rfl))))) | (intros; omega) | (intros; simp only [List.length_map]; omega)))
    · obtain ⟨e1, e2⟩ := handP_bad hG
      generalize handP s o x.from_ x.to_ x.right = z at *
      obtain ⟨o2, e⟩ := z
      simp only at h1 hf e1 hv
      rw [if_neg e1] at hv
      (try (apply wO pk; exact rfl)); (repeat' (first | ((exfalso; omega)) | exact All.nil | refine All.cons ?_ ?_ | (apply wC pk; exact rfl; exact rfl) | (apply wE pk; exact rfl; exact rfl) | (apply wX pk; exact rfl) | (apply wN pk; exact rfl) | (apply wD pk [] []; kernel_rfl; exact rfl; exact rfl) | exact Imp.one | exact Imp.same | refine Imp.left ?_ | exact ImpX.one | exact ImpX.same | exact ImpX.mk | refine ImpX.up ?_ | refine ImpX.old ?_ | (apply pwp_condC; simp only [cond_true, cond_false]) | (refine pwp_cond rfl (fun h => ?_) (fun h => ?_) <;> (try simp at h) <;> (first | done | (exfalso; omega) | skip)) | (refine pwp_ret ?_; refine ⟨_, _, _, rfl, Wk.refl _, StSub.refl _, ?_, rfl⟩; (first | rfl | skip)) | (apply callS; exact rfl; exact rfl; exact rfl; (intro _; first | (apply h1 <;> first | assumption | omega)); rotate_left; exact rfl; exact rfl) | (apply callV; exact rfl; exact rfl; exact rfl; (intro _; first | (apply h1 <;> first | assumption | omega)); rotate_left; exact rfl; exact rfl) | (apply idxS pk; exact rfl; exact rfl; exact rfl; exact rfl; exact rfl; exact rfl; rotate_left; exact rfl; (intro _; exact rfl); (intro _; apply hrow <;> omega); (intro _; exact rfl); exact rfl) | (refine ⟨⟨(i + 1, o, u), by simp only; omega, hM1, hv⟩, ?_, by simp only; omega⟩; (first | exact Sub.nil _ _ _ (StSub.refl _) rfl | ((repeat (first | refine Sub.pv ?_ rfl | refine Sub.var ?_ rfl rfl)); (first | exact Sub.nil _ _ _ (StSub.refl _) rfl | exact Sub.nil _ _ _ (stsub_swap (by assumption)) rfl | exact Sub.nil _ _ _ (stsub_eq (by first | rfl | exact upd_eta (by assumption) | ((simp only [St.pv, St.put, St.sst, St.setv, St.nil, St.var, upd_upd]); first | done | rfl))) rfl | (refine Sub.nil _ _ _ (stsub_eq ?_) rfl; (simp only [St.pv, St.put, St.sst, St.setv, St.nil, St.var, upd_upd]); (rw [upd4 (by assumption)]); first | done | rfl))))) | (intros; omega) | (intros; simp only [List.length_map]; omega)))
theorem mi0 : MI plainS 0 o0 0 := ⟨⟨by decide, fun w hw => by rw [List.mem_singleton.1 hw]; decide⟩, (canon_iff plainS o0).1 (by kernel_rfl), by simp⟩
theorem made_spec (l : List Gs) (hl : l.length ≤ 12) (group : Int) : PF Try.prog 9 [.agg (scC plainS), .seq (l.map Gs.cells), (PV.val (Value.int .i64 (group)))] (.tup [.seq ((madeP plainS group l o0 0).1.map Ow.cells), (PV.val (Value.int .i64 ((madeP plainS group l o0 0).2)))]) := by
  have p0 := start_spec plainS plain_few
  rw [aw0] at p0
  exact made_gen plainS plain_few l hl group p0 mi0
end Go.Proofs.Ytbcdgocepnkpeaa
