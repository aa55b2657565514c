import Derived.Test.YtbcdgocepnkpeaaRtMade
set_option linter.unusedSimpArgs false
set_option linter.unusedVariables false
namespace Go.Proofs.Ytbcdgocepnkpeaa
open Go Go.Abs
attribute [local irreducible] Ev PWp
set_option maxRecDepth 10000
set_option maxHeartbeats 4000000
theorem made_ind {s : Sc} (hs : FewS s) {group : Int} {Q : List Ow → Int → Prop}
    (hu : ∀ o u (x : Gs) o', Q o u → UseG s o x.from_ x.right.table x.right.col x.right.lo x.by_ → UseS o x.from_ (kS x.right.table x.right.col x.right.lo) x.by_ o' → CanonO s o' → Q o' (if (x.right.table = 0 ∧ x.right.col = 0) ∧ x.right.lo = group then u + x.by_ else u))
    (hh : ∀ o u a b r o', Q o u → HandG s o a b r → HandS o a b r o' → CanonO s o' → Q o' u) : ∀ (l : List Gs) (o : List Ow) (u : Int), Q o u → Q (madeP s group l o u).1 (madeP s group l o u).2
  | [], o, u, h => h
  | x :: l, o, u, h => by
    rw [madeP]
    split
    · split
      · rename_i e
        obtain ⟨_, hG, hS⟩ := (useP_cases s o x.from_ x.right.table x.right.col x.right.lo x.by_).resolve_right fun q => q e
        exact made_ind hs hu hh l _ _ (hu o u x _ h hG hS (use_canon hs hG.canon hG.hd hG.hg hG.there hG.right hG.nov hS))
      · exact made_ind hs hu hh l _ _ h
    · split
      · rename_i e
        by_cases hG : HandG s o x.from_ x.to_ x.right
        · obtain ⟨_, hS⟩ := handP_good hG
          exact made_ind hs hu hh l _ _ (hh o u _ _ _ _ h hG hS (hG.next hs hS))
        · exact absurd e (handP_bad hG).1
      · exact made_ind hs hu hh l _ _ h
theorem made_few {s : Sc} {group : Int} : ∀ (l : List Gs) (o : List Ow) (u : Int) (n : Nat), FewN n o → FewN (n + 2 * l.length) (madeP s group l o u).1
  | [], o, u, n, h => h
  | x :: l, o, u, n, h => by
    have e : n + 2 * (x :: l).length = n + 2 + 2 * l.length := by simp only [List.length_cons]; omega
    rw [madeP, e]
    split
    · split
      · exact made_few l _ _ _ (useP_fewn h _ _ _ _ _)
      · exact made_few l _ _ _ (h.mono (by omega))
    · split
      · exact made_few l _ _ _ (handP_fewn h _ _ _)
      · exact made_few l _ _ _ (h.mono (by omega))
def kK : Of := ⟨1, 0, 0, 0⟩
def kU : Of := ⟨2, 0, 1, 0⟩
def uniqR (lo hi : Int) : Rt := ⟨2, 0, 1, lo, hi, 0⟩
def Full (o : List Ow) : Prop := ∀ n, 0 ≤ n → n < 1073741824 → (∃ d, cvR (rtsOf o d) kK n) ∧ ∃ d, cvR (rtsOf o d) kU n
theorem full0 : Full o0 := fun n h1 h2 => ⟨⟨1, ⟨1, 0, 0, 0, 1073741824, 0⟩, by decide, by decide, by decide, h1, h2⟩, ⟨1, ⟨2, 0, 1, 0, 1073741824, 0⟩, by decide, by decide, by decide, h1, h2⟩⟩
theorem Full.hand {o : List Ow} (h : Full o) {a b : Int} {r : Rt} {l : List Ow} (hl : HandS o a b r l) : Full l := by
  have key : ∀ k n, (∃ d, cvR (rtsOf o d) k n) → ∃ d, cvR (rtsOf l d) k n := fun k n ⟨d, hd⟩ => by
    by_cases q : d = a ∧ inR r k n
    · exact ⟨b, (hl.cv b k n).2 (.inr ⟨rfl, q.2⟩)⟩
    · exact ⟨d, (hl.cv d k n).2 (.inl ⟨hd, q⟩)⟩
  exact fun n h1 h2 => ⟨key _ _ (h n h1 h2).1, key _ _ (h n h1 h2).2⟩
theorem Full.use {o : List Ow} (h : Full o) {d0 : Int} {k0 : Of} {m : Int} {l : List Ow} (hl : UseS o d0 k0 m l) : Full l := by
  have key : ∀ k n, (∃ d, cvR (rtsOf o d) k n) → ∃ d, cvR (rtsOf l d) k n := fun k n ⟨d, hd⟩ => ⟨d, (hl.cv d k n).2 hd⟩
  exact fun n h1 h2 => ⟨key _ _ (h n h1 h2).1, key _ _ (h n h1 h2).2⟩
def cntI (f : Int → Bool) : Nat → Int
  | 0 => 0
  | n + 1 => cntI f n + if f ((n + 1 : Nat) : Int) = true then 1 else 0
theorem cnt_zero {f : Int → Bool} : ∀ {n : Nat}, (∀ d : Int, 1 ≤ d → d ≤ n → f d = false) → cntI f n = 0
  | 0, _ => rfl
  | n + 1, h => by
    rw [cntI, cnt_zero fun d h1 h2 => h d h1 (by omega), h _ (by omega) (by omega)]; rfl
theorem cnt_one {f : Int → Bool} {d0 : Int} (h0 : f d0 = true) : ∀ {n : Nat}, 1 ≤ d0 → d0 ≤ n → (∀ d : Int, 1 ≤ d → d ≤ n → d ≠ d0 → f d = false) → cntI f n = 1
  | 0, h1, h2, _ => by omega
  | n + 1, h1, h2, h => by
    rw [cntI]
    by_cases e : d0 = ((n + 1 : Nat) : Int)
    · rw [← e, h0, cnt_zero fun d q1 q2 => h d q1 (by omega) (by omega)]; rfl
    · rw [cnt_one h0 h1 (by omega) fun d q1 q2 q3 => h d q1 (by omega) q3, h _ (by omega) (by omega) (fun q => e q.symm)]; rfl
theorem cnt_le (f : Int → Bool) : ∀ n : Nat, 0 ≤ cntI f n ∧ cntI f n ≤ n
  | 0 => ⟨Int.le_refl _, Int.le_refl _⟩
  | n + 1 => by
    have := cnt_le f n
    rw [cntI]; split <;> omega
theorem one_holder {o : List Ow} (h : CanonO plainS o) {r : Rt} (hr : rightE plainS r = 0) (h3 : r.kind ≠ 3) (hw : r.hi = r.lo + 1) (hf : ∃ d, cvR (rtsOf o d) (keyS r) r.lo) : cntI (fun d => holdsP plainS o d r) 64 = 1 := by
  obtain ⟨d0, hd0⟩ := hf
  have hso := (canon_sem.1 h).2
  have hdev := hso.dev d0 fun e => by rw [e] at hd0; exact cvR_nil _ _ hd0
  refine cnt_one (d0 := d0) ?_ hdev.1 hdev.2 fun d h1 h2 hne => ?_
  · refine (holds_sem h d0 r).2 ⟨⟨hr, hdev⟩, fun q => absurd q h3, fun _ n n1 n2 => ?_⟩
    rw [show n = r.lo by omega]; exact hd0
  · show holdsP plainS o d r = false
    rw [Bool.eq_false_iff]; intro q
    have := ((holds_sem h d r).1 q).2.2 h3 r.lo (Int.le_refl _) (by omega)
    exact hso.apart d d0 _ _ hne this hd0
theorem right_keys {k : Int} (h1 : 0 ≤ k) (h2 : k < 1073741824) : rightE plainS (keysR k (k + 1)) = 0 ∧ rightE plainS (uniqR k (k + 1)) = 0 :=
  ⟨rightE_ok.2 ⟨by kernel_rfl, (mayR_span (show (1 : Int) ≠ 3 by decide)).2 ⟨h1, by show k < k + 1; omega, by show k + 1 ≤ _; omega, rfl⟩⟩, rightE_ok.2 ⟨by kernel_rfl, (mayR_span (show (2 : Int) ≠ 3 by decide)).2 ⟨h1, by show k < k + 1; omega, by show k + 1 ≤ _; omega, rfl⟩⟩⟩
theorem one_spec (l : List Gs) (c : Int) (hc : 0 ≤ c ∧ c ≤ 4294967295) : PF Try.prog 3 [.seq (l.map Gs.cells), .val (.int .u32 c)] (PV.val (Value.bool (true))) := by
  have haw := awake_spec
  by_cases hl : ¬ (l.length ≤ 12)
  · refine pf_of tt_ok Try.func3 (by kernel_rfl) rfl rfl rfl rfl (fun st => ?_)
    (try (apply wO pk; exact rfl)); (repeat' (first | ((exfalso; omega)) | exact All.nil | refine All.cons ?_ ?_ | (apply wC pk; exact rfl; exact rfl) | (apply wE pk; exact rfl; exact rfl) | (apply wX pk; exact rfl) | (apply wN pk; exact rfl) | (apply wD pk [] []; kernel_rfl; exact rfl; exact rfl) | exact Imp.one | exact Imp.same | refine Imp.left ?_ | exact ImpX.one | exact ImpX.same | exact ImpX.mk | refine ImpX.up ?_ | refine ImpX.old ?_ | (apply pwp_condC; simp only [cond_true, cond_false]) | (refine pwp_cond rfl (fun h => ?_) (fun h => ?_) <;> (try simp at h) <;> (first | done | (exfalso; omega) | skip)) | (refine pwp_ret ?_; refine ⟨_, _, _, rfl, Wk.refl _, StSub.refl _, ?_, rfl⟩; (first | rfl | skip)) | (apply callS; exact rfl; exact rfl; exact rfl; (intro _; first | (apply haw <;> first | assumption | omega)); rotate_left; exact rfl; exact rfl) | (apply callV; exact rfl; exact rfl; exact rfl; (intro _; first | (apply haw <;> first | assumption | omega)); rotate_left; exact rfl; exact rfl) | (intros; omega) | (intros; simp only [List.length_map]; omega)))
  replace hl := Decidable.of_not_not hl
  have hp := plain_spec
  have hm := made_spec l hl 0
  have hQ : CanonO plainS (madeP plainS 0 l o0 0).1 ∧ Full (madeP plainS 0 l o0 0).1 := made_ind plain_few (Q := fun o _ => CanonO plainS o ∧ Full o) (fun o u x o' h _ hS hc => ⟨hc, h.2.use hS⟩) (fun o u a b r o' h _ hS hc => ⟨hc, h.2.hand hS⟩) l o0 0 ⟨mi0.canon, full0⟩
  have hfw : FewN 30 (madeP plainS 0 l o0 0).1 := (made_few l o0 0 2 mi0.few).mono (by omega)
  generalize madeP plainS 0 l o0 0 = z at *
  obtain ⟨o, u⟩ := z
  simp only at hm hQ hfw
  obtain ⟨hcan, hful⟩ := hQ
  have ho := hfw.o (by omega)
  have hk : 0 ≤ c % 1073741824 ∧ c % 1073741824 < 1073741824 := by omega
  have hcs := canon_spec plainS plain_few o ho
  rw [(canon_iff plainS o).2 hcan] at hcs
  obtain ⟨hr1, hr2⟩ := right_keys hk.1 hk.2
  have hone := one_holder hcan hr1 (show (1 : Int) ≠ 3 by decide) rfl (hful _ hk.1 hk.2).1
  have htwo := one_holder hcan hr2 (show (2 : Int) ≠ 3 by decide) rfl (hful _ hk.1 hk.2).2
  have hk1 := lkeys_spec (c % 1073741824) (c % 1073741824 + 1)
  have hh1 := fun d => holds_spec plainS plain_few o ho d (keysR (c % 1073741824) (c % 1073741824 + 1))
  have hh2 := fun d => holds_spec plainS plain_few o ho d (uniqR (c % 1073741824) (c % 1073741824 + 1))
  generalize hf1 : (fun d => holdsP plainS o d (keysR (c % 1073741824) (c % 1073741824 + 1))) = f at *
  generalize hf2 : (fun d => holdsP plainS o d (uniqR (c % 1073741824) (c % 1073741824 + 1))) = g at *
  have hh1 : ∀ d, PF Try.prog 10 [.agg (scC plainS), .seq (o.map Ow.cells), (PV.val (Value.int .i64 (d))), .agg (keysR (c % 1073741824) (c % 1073741824 + 1)).cells] (PV.val (Value.bool (f d))) := fun d => by rw [← hf1]; exact hh1 d
  have hh2 : ∀ d, PF Try.prog 10 [.agg (scC plainS), .seq (o.map Ow.cells), (PV.val (Value.int .i64 (d))), .agg (uniqR (c % 1073741824) (c % 1073741824 + 1)).cells] (PV.val (Value.bool (g d))) := fun d => by rw [← hf2]; exact hh2 d
  have htm : c.tmod 1073741824 = c % 1073741824 := Int.tmod_eq_emod_of_nonneg hc.1
  generalize c % 1073741824 = kk at *
  have hone : cntI f 64 = 1 := hone
  have htwo : cntI g 64 = 1 := htwo
  refine pf_of tt_ok Try.func3 (by kernel_rfl) rfl rfl rfl rfl (fun st => ?_)
  (try (apply wO pk; exact rfl)); (repeat' (first | ((exfalso; omega)) | exact All.nil | refine All.cons ?_ ?_ | (apply wC pk; exact rfl; exact rfl) | (apply wE pk; exact rfl; exact rfl) | (apply wX pk; exact rfl) | (apply wN pk; exact rfl) | (apply wD pk [] []; kernel_rfl; exact rfl; exact rfl) | exact Imp.one | exact Imp.same | refine Imp.left ?_ | exact ImpX.one | exact ImpX.same | exact ImpX.mk | refine ImpX.up ?_ | refine ImpX.old ?_ | (apply pwp_condC; simp only [cond_true, cond_false]) | (refine pwp_cond rfl (fun h => ?_) (fun h => ?_) <;> (try simp at h) <;> (first | done | (exfalso; omega) | skip)) | (refine pwp_ret ?_; refine ⟨_, _, _, rfl, Wk.refl _, StSub.refl _, ?_, rfl⟩; (first | rfl | skip)) | (apply callS; exact rfl; exact rfl; exact rfl; (intro _; first | (apply haw <;> first | assumption | omega) | (apply hp <;> first | assumption | omega) | (apply hm <;> first | assumption | omega)); rotate_left; exact rfl; exact rfl) | (apply callV; exact rfl; exact rfl; exact rfl; (intro _; first | (apply haw <;> first | assumption | omega) | (apply hp <;> first | assumption | omega) | (apply hm <;> first | assumption | omega)); rotate_left; exact rfl; exact rfl) | (apply ev_rem (a := c) (b := 1073741824) (c := kk); exact rfl; exact rfl; decide; exact htm; exact rfl; exact rfl; exact rfl) | (apply cvA pk.htt; exact rfl; exact rfl; exact rfl; exact rfl; exact rfl; (refine ⟨?_, ?_⟩ <;> omega); exact rfl) | (intros; omega) | (intros; simp only [List.length_map]; omega)))
  refine pwp_loop (X := { x : Nat // x ≤ 64 }) (fun i => ((((((((St.nil 66 st).pv 5 ((PV.val (Value.bool (true))))).var 6 27 (scC plainS)).pv 7 (.seq (o.map Ow.cells))).pv 9 ((PV.val (Value.int .i64 (kk))))).pv 10 ((PV.val (Value.int .i64 (cntI f i.1))))).pv 11 ((PV.val (Value.int .i64 (cntI g i.1))))).pv 12 ((PV.val (Value.int .i64 ((i.1 + 1 : Nat))))))) (fun i => 64 - i.1) ⟨0, by omega⟩ ?_ (fun i => ?_)
  · (first | exact Sub.nil _ _ _ (StSub.refl _) rfl | ((repeat (first | refine Sub.pv ?_ rfl | refine Sub.var ?_ rfl rfl)); (first | exact Sub.nil _ _ _ (StSub.refl _) rfl | exact Sub.nil _ _ _ (stsub_swap (by assumption)) rfl | exact Sub.nil _ _ _ (stsub_eq (by first | rfl | exact upd_eta (by assumption) | ((simp only [St.pv, St.put, St.sst, St.setv, St.nil, St.var, upd_upd]); first | done | rfl))) rfl | (refine Sub.nil _ _ _ (stsub_eq ?_) rfl; (simp only [St.pv, St.put, St.sst, St.setv, St.nil, St.var, upd_upd]); (rw [upd4 (by assumption)]); first | done | rfl))))
  obtain ⟨n, hn⟩ := i
  dsimp only
  by_cases hend : 64 ≤ n
  · have e : n = 64 := by omega
    subst e
    rw [hone, htwo]
    (try (apply wO pk; exact rfl)); (repeat' (first | ((exfalso; omega)) | exact All.nil | refine All.cons ?_ ?_ | (apply wC pk; exact rfl; exact rfl) | (apply wE pk; exact rfl; exact rfl) | (apply wX pk; exact rfl) | (apply wN pk; exact rfl) | (apply wD pk [] []; kernel_rfl; exact rfl; exact rfl) | exact Imp.one | exact Imp.same | refine Imp.left ?_ | exact ImpX.one | exact ImpX.same | exact ImpX.mk | refine ImpX.up ?_ | refine ImpX.old ?_ | (apply pwp_condC; simp only [cond_true, cond_false]) | (refine pwp_cond rfl (fun h => ?_) (fun h => ?_) <;> (try simp at h) <;> (first | done | (exfalso; omega) | skip)) | (refine pwp_ret ?_; refine ⟨_, _, _, rfl, Wk.refl _, StSub.refl _, ?_, rfl⟩; (first | rfl | skip)) | (apply callS; exact rfl; exact rfl; exact rfl; (intro _; first | (apply hcs <;> first | assumption | omega)); rotate_left; exact rfl; exact rfl) | (apply callV; exact rfl; exact rfl; exact rfl; (intro _; first | (apply hcs <;> first | assumption | omega)); rotate_left; exact rfl; exact rfl) | (intros; omega) | (intros; simp only [List.length_map]; omega)))
  have hlt : n < 64 := by omega
  have hh1 := hh1 ((n + 1 : Nat) : Int)
  have hh2 := hh2 ((n + 1 : Nat) : Int)
  have s1 : cntI f (n + 1) = cntI f n + if f ((n + 1 : Nat) : Int) = true then 1 else 0 := rfl
  have s2 : cntI g (n + 1) = cntI g n + if g ((n + 1 : Nat) : Int) = true then 1 else 0 := rfl
  have l1 := cnt_le f n
  have l2 := cnt_le g n
  generalize f ((n + 1 : Nat) : Int) = bf at *
  generalize g ((n + 1 : Nat) : Int) = bg at *
  (try (apply wO pk; exact rfl)); (repeat' (first | ((exfalso; omega)) | exact All.nil | refine All.cons ?_ ?_ | (apply wC pk; exact rfl; exact rfl) | (apply wE pk; exact rfl; exact rfl) | (apply wX pk; exact rfl) | (apply wN pk; exact rfl) | (apply wD pk [] []; kernel_rfl; exact rfl; exact rfl) | exact Imp.one | exact Imp.same | refine Imp.left ?_ | exact ImpX.one | exact ImpX.same | exact ImpX.mk | refine ImpX.up ?_ | refine ImpX.old ?_ | (apply pwp_condC; simp only [cond_true, cond_false]) | (refine pwp_cond rfl (fun h => ?_) (fun h => ?_) <;> (try simp at h) <;> (first | done | (exfalso; omega) | skip)) | (refine pwp_ret ?_; refine ⟨_, _, _, rfl, Wk.refl _, StSub.refl _, ?_, rfl⟩; (first | rfl | skip)) | (apply callS; exact rfl; exact rfl; exact rfl; (intro _; first | (apply hk1 <;> first | assumption | omega) | (apply hh1 <;> first | assumption | omega) | (apply hh2 <;> first | assumption | omega)); rotate_left; exact rfl; exact rfl) | (apply callV; exact rfl; exact rfl; exact rfl; (intro _; first | (apply hk1 <;> first | assumption | omega) | (apply hh1 <;> first | assumption | omega) | (apply hh2 <;> first | assumption | omega)); rotate_left; exact rfl; exact rfl) | (refine ⟨⟨n + 1, by omega⟩, ?_, by simp only; omega⟩; (simp only [s1, s2]); (first | exact Sub.nil _ _ _ (StSub.refl _) rfl | ((repeat (first | refine Sub.pv ?_ rfl | refine Sub.var ?_ rfl rfl | refine Sub.pv' ?_ rfl (by simp_all) | refine Sub.var' ?_ rfl rfl (by simp_all))); (first | exact Sub.nil _ _ _ (StSub.refl _) rfl | exact Sub.nil _ _ _ (stsub_swap (by assumption)) rfl | exact Sub.nil _ _ _ (stsub_eq (by first | rfl | exact upd_eta (by assumption) | ((simp only [St.pv, St.put, St.sst, St.setv, St.nil, St.var, upd_upd]); first | done | rfl))) rfl | (refine Sub.nil _ _ _ (stsub_eq ?_) rfl; (simp only [St.pv, St.put, St.sst, St.setv, St.nil, St.var, upd_upd]); (rw [upd4 (by assumption)]); first | done | rfl))))) | (intros; omega) | (intros; simp only [List.length_map]; omega)))
end Go.Proofs.Ytbcdgocepnkpeaa
