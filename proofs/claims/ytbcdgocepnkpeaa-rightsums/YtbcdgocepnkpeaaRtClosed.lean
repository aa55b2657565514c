import Derived.Test.YtbcdgocepnkpeaaRtSeq
set_option linter.unusedSimpArgs false
set_option linter.unusedVariables false
namespace Go.Proofs.Ytbcdgocepnkpeaa
open Go Go.Abs
attribute [local irreducible] Ev PWp
set_option maxRecDepth 10000
set_option maxHeartbeats 4000000
section
variable {P : Program} {tt : TT} {l : List Oper} {d : Md} {r : List Oper} {s : St} {Kt : St → Prop} {t : Nat} {op : Op} {ty : TypeId} {pos : String} {after : Array Edge} {gd : Option (Nat × Bool)} {K V : Type} [DecidableEq K] {kt : TypeId} {enc : K → Value} {rep : K → PV} {f : V → PV}
theorem lkFm (pk : Pk P tt) (hk : KeyOK P kt enc rep) {T e : TypeId} {x y : Operand} {ok w : Bool} {z : PV} {es : List (K × V)} {k : K} {v0 : Option V} (hw : wantA l ⟨some t, .lookup T x y ok, ty, pos, after, gd⟩ s = some w) (hx : opd s x = some (.fmap (ments enc f es))) (hy : opd s y = some (rep k)) (hT : tiK tt T = some (.map kt e)) (hz : pzv tt e = some z) (hf : All (flagsI s w [x, y] [])) (hd : Nat.blt t s.n = true)
    (ht : tagE d l r = true) (hv : mget k es = v0) (kk : Ev P l d r (s.put (some t) w (.pv (lookPV z f ok v0))) Kt) : Ev P l d (⟨some t, .lookup T x y ok, ty, pos, after, gd⟩ :: r) s Kt := by
  subst hv
  exact ev_opvg hw (fun hw' st' => opv_lookupF pk.htt hk rfl ((opd_sst x).trans hx) ((opd_sst y).trans hy) hT hz) (fun z hz => opl_mem (fun _ _ _ e => by cases e) hz) (flagsI.g hf).1 hd ht kk
end
theorem bytesO : Try.prog.bytesOf 52 = 32 := by kernel_rfl
def owsOf (ps : List (PD × List Rt)) : List Ow := (ps.filter fun p => decide (p.2.length > 0)).map fun p => ⟨p.1.dev, p.2⟩
structure ClosedOf (L : List PD) (l : List Ow) : Prop where
  ex : ∃ ps : List (PD × List Rt), (ps.map (·.1)).Perm L ∧ (ps.Pairwise fun a b => a.1.dev ≤ b.1.dev) ∧ (∀ p ∈ ps, RightsOf p.1 p.2) ∧ l = owsOf ps
structure DevB (d : CD) : Prop where
  sp : ∀ k id l, (k, some (id, l)) ∈ d.sp → ∀ x ∈ l, SnB x
  len : lens d.sp + d.am.length ≤ 100000
structure CL (st S : Store) (D : List CD) (ks : List Int) (i : Nat) (ps : List (CD × List Rt)) (idT : Nat) (X : Store) : Prop where
  dev : ∀ d ∈ D, d.dev ∈ ks.drop i → DevS st X d
  old : ∀ j, st j ≠ none → X j = st j
  tok : X idT = some (.tok 52)
  new : st idT = none ∧ ∀ d ∈ D, d.dev ∈ ks.drop i → idT ∉ d.ids
  dvs : ps.map (fun p => p.1.dev) = ks.take i
  mem : ∀ p ∈ ps, p.1 ∈ D ∧ RightsOf p.1.pd p.2
def owsC (ps : List (CD × List Rt)) : List Ow := owsOf (ps.map fun p => (p.1.pd, p.2))
theorem CL.step {st S : Store} {D : List CD} {ks : List Int} {i : Nat} {ps : List (CD × List Rt)} {idT : Nat} {X : Store} (hX : CL st S D ks i ps idT X) (h : HeldS st S D) (hnd : ks.Nodup) (hlt : i < ks.length) {d : CD} (hd : d ∈ D) (hdev : d.dev = ks[i]) {rs : List Rt} (hr : RightsOf d.pd rs) : CL st S D ks (i + 1) (ps ++ [(d, rs)]) idT (cutS X d.ids) := by
  have hdc := List.drop_eq_getElem_cons hlt
  have hin : ∀ {x}, x ∈ ks.drop (i + 1) → x ∈ ks.drop i ∧ x ≠ ks[i] := fun {x} hx => by
    have hn : (ks.drop i).Nodup := hnd.sublist (List.drop_sublist _ _)
    rw [hdc] at hn ⊢
    exact ⟨List.mem_cons_of_mem _ hx, fun e => (List.nodup_cons.1 hn).1 (e ▸ hx)⟩
  have hdi : d.dev ∈ ks.drop i := by rw [hdev, hdc]; exact List.mem_cons_self
  refine ⟨fun d' hd' hm => ?_, fun j hj => ?_, ?_, ⟨hX.new.1, fun d' hd' hm => hX.new.2 d' hd' (hin hm).1⟩, ?_, fun p hp => ?_⟩
  · obtain ⟨m1, m2⟩ := hin hm
    refine (hX.dev d' hd' m1).congr fun j hj => ?_
    unfold cutS
    rw [if_neg (h.ap hd' hd (fun e => m2 (e.trans hdev)) j hj)]
  · unfold cutS
    rw [if_neg (fun q => hj ((h.dev d hd).new j q))]
    exact hX.old j hj
  · unfold cutS
    rw [if_neg (hX.new.2 d hd hdi)]
    exact hX.tok
  · rw [List.map_append, hX.dvs, List.take_succ_eq_append_getElem hlt, ← hdev]; rfl
  · rcases List.mem_append.1 hp with hp | hp
    · exact hX.mem p hp
    · rw [List.mem_singleton.1 hp]; exact ⟨hd, hr⟩
theorem CL.own {st S : Store} {D : List CD} {ks : List Int} {i : Nat} {ps : List (CD × List Rt)} {idT : Nat} {X : Store} (hX : CL st S D ks i ps idT X) {id' : Nat} (hi : X id' = none) : CL st S D ks i ps id' (upd (upd X idT none) id' (some (.tok 52))) := by
  have key : ∀ d ∈ D, d.dev ∈ ks.drop i → ∀ j ∈ d.ids, j ≠ id' ∧ j ≠ idT := fun d hd hm j hj => ⟨fun e => (hX.dev d hd hm).live j hj (by rw [e]; exact hi), fun e => hX.new.2 d hd hm (e ▸ hj)⟩
  have hs : st id' = none := Decidable.byContradiction fun q => q (by rw [← hX.old _ q]; exact hi)
  refine ⟨fun d hd hm => (hX.dev d hd hm).congr fun j hj => by obtain ⟨k1, k2⟩ := key d hd hm j hj; rw [upd_ne k1, upd_ne k2], fun j hj => ?_, upd_same _ _ _, ⟨hs, fun d hd hm q => (key d hd hm _ q).1 rfl⟩, hX.dvs, hX.mem⟩
  rw [upd_ne fun e => hj (by rw [e]; exact hs), upd_ne fun e => hj (by rw [e]; exact hX.new.1)]
  exact hX.old j hj
theorem CL.fin {st S : Store} {D : List CD} {ks : List Int} {i : Nat} {ps : List (CD × List Rt)} {idT : Nat} {X : Store} (hX : CL st S D ks i ps idT X) (h : HeldS st S D) (hkd : ks.Perm (D.map (·.dev))) (hnd : ks.Nodup) (hpw : ks.Pairwise (· ≤ ·)) (hi : i = ks.length) : ClosedOf (D.map CD.pd) (owsC ps) := by
  have hdv := hX.dvs
  rw [hi, List.take_length] at hdv
  refine ⟨ps.map fun p => (p.1.pd, p.2), ?_, ?_, fun p hp => ?_, rfl⟩
  · rw [List.map_map]
    show (ps.map fun p => p.1.pd).Perm _
    have e : (ps.map fun p => p.1.pd) = (ps.map (·.1)).map CD.pd := by rw [List.map_map]; rfl
    rw [e]
    refine List.Perm.map _ ?_
    have e2 : (ps.map (·.1)).map (·.dev) = ks := by rw [List.map_map]; exact hdv
    have hn1 : ((ps.map (·.1)).map (·.dev)).Nodup := by rw [e2]; exact hnd
    have hmem : ∀ d, d ∈ ps.map (·.1) ↔ d ∈ D := fun d => by
      constructor
      · intro hd
        obtain ⟨p, hp, rfl⟩ := List.mem_map.1 hd
        exact (hX.mem p hp).1
      · intro hd
        have : d.dev ∈ (ps.map (·.1)).map (·.dev) := by rw [e2, hkd.mem_iff]; exact List.mem_map.2 ⟨d, hd, rfl⟩
        obtain ⟨d', hd', he⟩ := List.mem_map.1 this
        obtain ⟨p, hp, rfl⟩ := List.mem_map.1 hd'
        have := nodup_eq h.devs (hX.mem p hp).1 hd he
        exact List.mem_map.2 ⟨p, hp, this⟩
    have nd : ∀ {l : List CD}, (l.map (·.dev)).Nodup → l.Nodup := fun {l} hl => by
      rw [List.Nodup, List.pairwise_map] at hl
      exact hl.imp fun {a b} h e => h (by rw [e])
    exact (List.perm_ext_iff_of_nodup (nd hn1) (nd h.devs)).2 hmem
  · rw [List.pairwise_map]
    have : (ps.map fun p => p.1.dev).Pairwise (· ≤ ·) := by rw [hdv]; exact hpw
    rw [List.pairwise_map] at this
    exact this
  · obtain ⟨q, hq, rfl⟩ := List.mem_map.1 hp
    exact (hX.mem q hq).2
theorem closed_pc {st S : Store} {D : List CD} (h : HeldS st S D) (hB : ∀ d ∈ D, DevB d) (hD : D.length ≤ 100000) : PC Try.prog 33 [.fmap (ments Ie heldF (outE D))] S fun r S' => ∃ l : List Ow, r = .seq (l.map Ow.cells) ∧ ClosedOf (D.map CD.pd) l ∧ S' = st := by
  have hso := sorted_pc (outE D) (by unfold outE; simpa using hD)
  have hks := keys_spec (ments Ie heldF (outE D))
  unfold seqF at hso
  refine pc_of tt_ok Try.func33 (by kernel_rfl) rfl rfl rfl rfl ?_
  (try (apply wO pk; exact rfl)); (repeat' (first | exact All.nil | refine All.cons ?_ ?_ | (apply wC pk; exact rfl; exact rfl) | (apply wE pk; exact rfl; exact rfl) | (apply wX pk; exact rfl) | (apply wN pk; exact rfl) | (apply wDx pk; exact rfl; kernel_rfl; exact rfl; exact rfl) | exact Imp.one | exact Imp.same | refine Imp.left ?_ | exact ImpX.one | exact ImpX.same | exact ImpX.mk | refine ImpX.up ?_ | refine ImpX.old ?_ | (apply pwp_condC; simp only [cond_true, cond_false]) | (refine pwp_cond rfl (fun h => ?_) (fun h => ?_) <;> (try simp at h) <;> (first | done | (exfalso; omega) | skip)) | (refine pwp_ret ?_; refine ⟨_, _, _, rfl, Wk.refl _, StSub.refl _, ?_, rfl⟩; (first | rfl | skip)) | (apply callS; exact rfl; exact rfl; exact rfl; (intro _; first | (apply hks <;> first | assumption | omega)); rotate_left; exact rfl; exact rfl) | (apply callV; exact rfl; exact rfl; exact rfl; (intro _; first | (apply hks <;> first | assumption | omega)); rotate_left; exact rfl; exact rfl) | (apply ncA; exact rfl; exact rfl; exact rfl; rotate_left; exact rfl; exact rfl) | (apply ldR pk; exact rfl; exact rfl; rotate_left; exact rfl; (first | exact upd_same _ _ _ | assumption | (focus ((repeat (first | exact upd_same _ _ _ | assumption | refine (upd_ne (by assumption)).trans ?_)); done))); exact rfl; exact rfl) | (apply stR pk; exact rfl; exact rfl; (first | exact upd_same _ _ _ | assumption | (focus ((repeat (first | exact upd_same _ _ _ | assumption | refine (upd_ne (by assumption)).trans ?_)); done))); exact rfl; exact rfl) | (apply callP; exact rfl; exact rfl; (apply (hso _) <;> first | exact upd_same _ _ _ | assumption | omega | (first | exact upd_same _ _ _ | assumption | (focus ((repeat (first | exact upd_same _ _ _ | assumption | refine (upd_ne (by assumption)).trans ?_)); done)))); exact rfl; exact rfl; exact rfl; intro _ st' hR; obtain ⟨ks, rfl, hp, hpw, hSe⟩ := hR) | (apply callP; exact rfl; exact rfl; (first | (apply fail_no_spec <;> first | exact upd_same _ _ _ | assumption | omega | (simp only [Array.size_setIfInBounds]; omega) | (first | exact upd_same _ _ _ | assumption | (focus ((repeat (first | exact upd_same _ _ _ | assumption | refine (upd_ne (by assumption)).trans ?_)); done))))); exact rfl; exact rfl; exact rfl; intro _ st' hR; (first | subst hR | obtain ⟨rfl, rfl⟩ := hR)) | (intros; omega) | (intros; simp only [List.length_map]; omega)))
  subst st'
  have hkd : ks.Perm (D.map (·.dev)) := by have := hp; unfold outE at this; rwa [List.map_map] at this
  have hnd : ks.Nodup := hkd.nodup_iff.2 h.devs
  have hkl : ks.length ≤ 100000 := by rw [hkd.length_eq, List.length_map]; exact hD
  refine pwp_own 3 52 rfl rfl (fun idT hT => ?_)
  have hT : S idT = none := hT
  have hst0 : ∀ j, S j = none → st j = none := fun j hj => Decidable.byContradiction fun q => q (by rw [← h.old j q]; exact hj)
  have h0 : CL st S D ks 0 [] idT (upd S idT (some (.tok 52))) := by
    refine ⟨fun d hd _ => (h.dev d hd).congr fun j hj => upd_ne fun e => (h.dev d hd).live j hj (by rw [e]; exact hT), fun j hj => ?_, upd_same _ _ _, ⟨hst0 _ hT, fun d hd _ q => (h.dev d hd).live _ q hT⟩, rfl, fun _ h => by cases h⟩
    rw [upd_ne fun e => hj (by rw [e]; exact hst0 _ hT)]; exact h.old j hj
  refine pwp_loop (X := { x : Nat × List (CD × List Rt) × Nat × Store // x.1 ≤ ks.length ∧ CL st S D ks x.1 x.2.1 x.2.2.1 x.2.2.2 }) (fun i => ((((((St.nil 30 (i.1.2.2.2)).pv 0 (.fmap (ments Ie heldF (outE D)))).pv 3 (.own i.1.2.2.1 ((owsC i.1.2.1).map Ow.cells))).pv 9 (.seq (ks.map I1))).pv 10 ((PV.val (Value.int .i64 ((ks.length : Nat)))))).pv 11 ((PV.val (Value.int .i64 ((i.1.1 : Nat))))))) (fun i => ks.length - i.1.1) ⟨(0, [], idT, _), by simp, h0⟩ ?_ (fun i => ?_)
  · (first | exact Sub.nil _ _ _ (StSub.refl _) rfl | ((repeat (first | refine Sub.pv ?_ rfl | refine Sub.var ?_ rfl rfl | refine Sub.pv' ?_ rfl (by first | rfl | simp) | refine Sub.var' ?_ rfl rfl (by first | rfl | simp))); (first | exact Sub.nil _ _ _ (StSub.refl _) rfl | exact Sub.nil _ _ _ (stsub_swap (by assumption)) rfl | exact Sub.nil _ _ _ (stsub_eq (by first | rfl | exact upd_eta (by assumption) | ((simp only [St.pv, St.put, St.sst, St.setv, St.nil, St.var, upd_upd]); first | done | rfl))) rfl | (refine Sub.nil _ _ _ (stsub_eq ?_) rfl; (simp only [St.pv, St.put, St.sst, St.setv, St.nil, St.var, upd_upd]); (rw [upd4 (by assumption)]); first | done | rfl))))
  obtain ⟨⟨i, ps, idT, X⟩, hi, hX⟩ := i
  simp only at hi hX
  dsimp only
  by_cases hend : ks.length ≤ i
  · have hfin : ClosedOf (D.map CD.pd) (owsC ps) := hX.fin h hkd hnd hpw (by omega)
    (try (apply wO pk; exact rfl)); (repeat' (first | exact All.nil | refine All.cons ?_ ?_ | (apply wC pk; exact rfl; exact rfl) | (apply wE pk; exact rfl; exact rfl) | (apply wX pk; exact rfl) | (apply wN pk; exact rfl) | (apply wD pk [] []; kernel_rfl; exact rfl; exact rfl) | exact Imp.one | exact Imp.same | refine Imp.left ?_ | exact ImpX.one | exact ImpX.same | exact ImpX.mk | refine ImpX.up ?_ | refine ImpX.old ?_ | (apply pwp_condC; simp only [cond_true, cond_false]) | (refine pwp_cond rfl (fun h => ?_) (fun h => ?_) <;> (try simp at h) <;> (first | done | (exfalso; omega) | skip)) | (refine pwp_ret ?_; refine ⟨_, _, _, rfl, Wk.refl _, StSub.refl _, ?_, rfl⟩; (first | rfl | skip)) | (intros; omega) | (intros; simp only [List.length_map]; omega)))
    refine pwp_ret ?_
    exact ⟨_, .seq ((owsC ps).map Ow.cells), st, rfl, Wk.own _ _, fun j => by
      by_cases hj : st j = none
      · exact .inl hj
      · exact .inr (hX.old j hj).symm, _, rfl, hfin, rfl⟩
  have hlt : i < ks.length := by omega
  obtain ⟨d, hd, hdev⟩ := List.mem_map.1 (hkd.mem_iff.1 (List.getElem_mem hlt))
  have hdr : ks[i] ∈ ks.drop i := by rw [List.drop_eq_getElem_cons hlt]; exact List.mem_cons_self
  have hDX := hX.dev d hd (by rw [hdev]; exact hdr)
  have hrg := rights_pc X d hDX.m1 hDX.m2 hDX.arr hDX.ids (hB d hd).sp (hB d hd).len
  have hget := outE_get h hd
  have hnext : ∀ rs, RightsOf d.pd rs → CL st S D ks (i + 1) (ps ++ [(d, rs)]) idT (cutS X d.ids) := fun rs hr => hX.step h hnd hlt hd hdev hr
  have hcl1 : ∀ rs : List Rt, (rs.length : Int) > 0 → owsC (ps ++ [(d, rs)]) = owsC ps ++ [⟨ks[i], rs⟩] := fun rs hr => by
    have hr : rs.length > 0 := by omega
    unfold owsC owsOf
    rw [List.map_append, List.filter_append, List.map_append, ← hdev]
    simp [hr, CD.pd]
  have hcl2 : ∀ rs : List Rt, ¬ (rs.length : Int) > 0 → owsC (ps ++ [(d, rs)]) = owsC ps := fun rs hr => by
    have hr : ¬ rs.length > 0 := by omega
    unfold owsC owsOf
    rw [List.map_append, List.filter_append, List.map_append]
    simp [hr]
  have hol : (owsC ps).length ≤ 100000 := by
    have h1 : (owsC ps).length ≤ ps.length := by unfold owsC owsOf; rw [List.length_map]; refine Nat.le_trans (List.length_filter_le _ _) ?_; simp
    have h2 := congrArg List.length hX.dvs
    rw [List.length_map, List.length_take] at h2
    omega
  (try (apply wO pk; exact rfl)); (repeat' (first | exact All.nil | refine All.cons ?_ ?_ | (apply wC pk; exact rfl; exact rfl) | (apply wE pk; exact rfl; exact rfl) | (apply wX pk; exact rfl) | (apply wN pk; exact rfl) | (apply wDx pk; exact rfl; kernel_rfl; exact rfl; exact rfl) | exact Imp.one | exact Imp.same | refine Imp.left ?_ | exact ImpX.one | exact ImpX.same | exact ImpX.mk | refine ImpX.up ?_ | refine ImpX.old ?_ | (apply pwp_condC; simp only [cond_true, cond_false]) | (refine pwp_cond rfl (fun h => ?_) (fun h => ?_) <;> (try simp at h) <;> (first | done | (exfalso; omega) | skip)) | (refine pwp_ret ?_; refine ⟨_, _, _, rfl, Wk.refl _, StSub.refl _, ?_, rfl⟩; (first | rfl | skip)) | (apply idxS pk; exact rfl; exact rfl; exact rfl; exact rfl; exact rfl; exact rfl; rotate_left; exact rfl; (intro _; exact rfl); (intro _; apply get_map <;> omega); (intro _; exact rfl); exact rfl) | (apply ncA; exact rfl; exact rfl; exact rfl; rotate_left; exact rfl; exact rfl) | (apply ldR pk; exact rfl; exact rfl; rotate_left; exact rfl; (first | exact upd_same _ _ _ | assumption | (focus ((repeat (first | exact upd_same _ _ _ | assumption | refine (upd_ne (by assumption)).trans ?_)); done))); exact rfl; exact rfl) | (apply stR pk; exact rfl; exact rfl; (first | exact upd_same _ _ _ | assumption | (focus ((repeat (first | exact upd_same _ _ _ | assumption | refine (upd_ne (by assumption)).trans ?_)); done))); exact rfl; exact rfl) | (apply callP; exact rfl; exact rfl; (apply hrg <;> first | exact upd_same _ _ _ | assumption | omega | (first | exact upd_same _ _ _ | assumption | (focus ((repeat (first | exact upd_same _ _ _ | assumption | refine (upd_ne (by assumption)).trans ?_)); done)))); exact rfl; exact rfl; exact rfl; intro _ st' hR; obtain ⟨rs, rfl, hR, rfl⟩ := hR) | (apply callP; exact rfl; exact rfl; (first | (apply fail_no_spec <;> first | exact upd_same _ _ _ | assumption | omega | (simp only [Array.size_setIfInBounds]; omega) | (first | exact upd_same _ _ _ | assumption | (focus ((repeat (first | exact upd_same _ _ _ | assumption | refine (upd_ne (by assumption)).trans ?_)); done))))); exact rfl; exact rfl; exact rfl; intro _ st' hR; (first | subst hR | obtain ⟨rfl, rfl⟩ := hR)) | (apply lkFm pk intKey (f := heldF) (k := ks[i]'(by assumption)) (v0 := some (d.i1, d.i2)); exact rfl; exact rfl; exact rfl; exact rfl; exact rfl; rotate_left; exact rfl; exact rfl; (rw [← hdev]; exact hget)) | (apply apM pk (f := Ow.cells) [(⟨ks[i]'(by assumption), rs⟩ : Ow)] 32; exact rfl; exact rfl; exact rfl; exact rfl; exact rfl; exact rfl; exact rfl; exact rfl; exact rfl; exact (hnext rs hR).tok; exact fun _ => rfl; exact fun _ => rfl; exact bytesO; (simp only [List.length_cons, List.length_nil]; omega); (simp only [List.length_cons, List.length_nil]; omega); exact rfl; intro id' hid') | (refine ⟨⟨(i + 1, ps ++ [(d, rs)], id', _), by simp only; omega, (hnext rs hR).own hid'⟩, ?_, by simp only; omega⟩; (simp only [hcl1 rs (by simp at *; omega)]); (first | exact Sub.nil _ _ _ (StSub.refl _) rfl | ((repeat (first | refine Sub.pv ?_ rfl | refine Sub.var ?_ rfl rfl)); (first | exact Sub.nil _ _ _ (StSub.refl _) rfl | exact Sub.nil _ _ _ (stsub_swap (by assumption)) rfl | exact Sub.nil _ _ _ (stsub_eq (by first | rfl | exact upd_eta (by assumption) | ((simp only [St.pv, St.put, St.sst, St.setv, St.nil, St.var, upd_upd]); first | done | rfl))) rfl | (refine Sub.nil _ _ _ (stsub_eq ?_) rfl; (simp only [St.pv, St.put, St.sst, St.setv, St.nil, St.var, upd_upd]); (rw [upd4 (by assumption)]); first | done | rfl))))) | (refine ⟨⟨(i + 1, ps ++ [(d, rs)], idT, _), by simp only; omega, hnext rs hR⟩, ?_, by simp only; omega⟩; (simp only [hcl2 rs (by simp at *; omega)]); (first | exact Sub.nil _ _ _ (StSub.refl _) rfl | ((repeat (first | refine Sub.pv ?_ rfl | refine Sub.var ?_ rfl rfl)); (first | exact Sub.nil _ _ _ (StSub.refl _) rfl | exact Sub.nil _ _ _ (stsub_swap (by assumption)) rfl | exact Sub.nil _ _ _ (stsub_eq (by first | rfl | exact upd_eta (by assumption) | ((simp only [St.pv, St.put, St.sst, St.setv, St.nil, St.var, upd_upd]); first | done | rfl))) rfl | (refine Sub.nil _ _ _ (stsub_eq ?_) rfl; (simp only [St.pv, St.put, St.sst, St.setv, St.nil, St.var, upd_upd]); (rw [upd4 (by assumption)]); first | done | rfl))))) | (intros; omega) | (intros; simp only [List.length_map]; omega)))
end Go.Proofs.Ytbcdgocepnkpeaa
