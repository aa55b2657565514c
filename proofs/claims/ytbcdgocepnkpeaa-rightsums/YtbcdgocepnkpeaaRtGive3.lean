import Derived.Test.YtbcdgocepnkpeaaRtGive2
set_option linter.unusedSimpArgs false
set_option linter.unusedVariables false
namespace Go.Proofs.Ytbcdgocepnkpeaa
open Go Go.Abs
attribute [local irreducible] Ev PWp
set_option maxRecDepth 10000
set_option maxHeartbeats 4000000
theorem give1_pc (s : Sc) (hs : FewS s) (o : List Ow) (ho : FewO o) (a b : Int) (st : Store) (h1 : GiveArg s o a b) : PC Try.prog 17 [.agg (scC s), .seq (o.map Ow.cells), (PV.val (Value.int .i64 (a))), (PV.val (Value.int .i64 (b)))] st fun q S => S = st ∧ ∃ l e, q = .tup [.seq (l.map Ow.cells), (PV.val (Value.int .i64 (e)))] ∧ GiveR o a b l e := by
  have hc := canon_spec s hs o ho
  have hd1 := device_spec a
  have hd2 := device_spec b
  have hn4 := h1.ne
  have hn1 := h1.h1
  have hCO := (canon_iff s o).1 h1.hc
  have hop := open_pc st o ho hCO.nodup
  have hbd := openP_bd ho hCO
  have hlo := ho.len
  have hpl : (openP o).length = o.length := by unfold openP; simp
  have hB := bytesS
  have hama := fun k => amtOf_ok hs hCO a k
  have hamb := fun k => amtOf_ok hs hCO b k
  rw [h1.hc] at hc
  rw [h1.ha] at hd1
  rw [h1.hb] at hd2
  refine pc_of tt_ok Try.func17 (by kernel_rfl) rfl rfl rfl rfl ?_
  (try (apply wO pk; exact rfl)); (repeat' (first | exact All.nil | refine All.cons ?_ ?_ | (apply wC pk; exact rfl; exact rfl) | (apply wE pk; exact rfl; exact rfl) | (apply wX pk; exact rfl) | (apply wN pk; exact rfl) | (apply wDx pk; exact rfl; kernel_rfl; exact rfl; exact rfl) | exact Imp.one | exact Imp.same | refine Imp.left ?_ | exact ImpX.one | exact ImpX.same | exact ImpX.mk | refine ImpX.up ?_ | refine ImpX.old ?_ | (apply pwp_condC; simp only [cond_true, cond_false]) | (refine pwp_cond rfl (fun h => ?_) (fun h => ?_) <;> (try simp at h) <;> (first | done | (exfalso; omega) | skip)) | (refine pwp_ret ?_; refine ⟨_, _, _, rfl, Wk.refl _, StSub.refl _, ?_, rfl⟩; (first | rfl | skip)) | (apply callS; exact rfl; exact rfl; exact rfl; (intro _; first | (apply hc <;> first | assumption | omega) | (apply hd1 <;> first | assumption | omega) | (apply hd2 <;> first | assumption | omega)); rotate_left; exact rfl; exact rfl) | (apply callV; exact rfl; exact rfl; exact rfl; (intro _; first | (apply hc <;> first | assumption | omega) | (apply hd1 <;> first | assumption | omega) | (apply hd2 <;> first | assumption | omega)); rotate_left; exact rfl; exact rfl) | (apply ncA; exact rfl; exact rfl; exact rfl; rotate_left; exact rfl; exact rfl) | (apply ldR pk; exact rfl; exact rfl; rotate_left; exact rfl; (first | exact upd_same _ _ _ | assumption | (focus ((repeat (first | exact upd_same _ _ _ | assumption | refine (upd_ne (by assumption)).trans ?_)); done))); exact rfl; exact rfl) | (apply stR pk; exact rfl; exact rfl; (first | exact upd_same _ _ _ | assumption | (focus ((repeat (first | exact upd_same _ _ _ | assumption | refine (upd_ne (by assumption)).trans ?_)); done))); exact rfl; exact rfl) | (apply callP; exact rfl; exact rfl; (apply hop <;> first | exact upd_same _ _ _ | assumption | omega | (first | exact upd_same _ _ _ | assumption | (focus ((repeat (first | exact upd_same _ _ _ | assumption | refine (upd_ne (by assumption)).trans ?_)); done)))); exact rfl; exact rfl; exact rfl; intro _ st' hR; obtain ⟨idm, D, rfl, hO, hpd⟩ := hR) | (apply callP; exact rfl; exact rfl; (apply (at_pc hO a) <;> first | exact upd_same _ _ _ | assumption | omega | (first | exact upd_same _ _ _ | assumption | (focus ((repeat (first | exact upd_same _ _ _ | assumption | refine (upd_ne (by assumption)).trans ?_)); done)))); exact rfl; exact rfl; exact rfl; intro _ st' hR; obtain ⟨D1, da, hO1, hda1, hdeva, rfl, hat1, hsub1⟩ := hR) | (apply callP; exact rfl; exact rfl; (apply (at_pc hO1 b) <;> first | exact upd_same _ _ _ | assumption | omega | (first | exact upd_same _ _ _ | assumption | (focus ((repeat (first | exact upd_same _ _ _ | assumption | refine (upd_ne (by assumption)).trans ?_)); done)))); exact rfl; exact rfl; exact rfl; intro _ st' hR; obtain ⟨D2, db, hO2, hdb, hdevb, rfl, hat2, hsub2⟩ := hR) | (apply callP; exact rfl; exact rfl; (first | (apply fail_no_spec <;> first | exact upd_same _ _ _ | assumption | omega | (simp only [Array.size_setIfInBounds]; omega) | (first | exact upd_same _ _ _ | assumption | (focus ((repeat (first | exact upd_same _ _ _ | assumption | refine (upd_ne (by assumption)).trans ?_)); done))))); exact rfl; exact rfl; exact rfl; intro _ st' hR; (first | subst hR | obtain ⟨rfl, rfl⟩ := hR)) | (exfalso; (first | exact hn4 (by assumption) | exact hn1 (by assumption))) | (intros; omega) | (intros; simp only [List.length_map]; omega)))
  have hda2 := hsub2 _ hda1
  have hDa := hO2.held.dev _ hda2
  have hpd2 : D2.map CD.pd = atP b (atP a (openP o)) := by rw [hat2, hat1, hpd]
  have hne : db.dev ≠ da.dev := by rw [hdeva, hdevb]; exact fun e => hn4 e.symm
  have hak : ∀ k n, (k, n) ∈ da.am → amtOf (openP o) a k = n := fun k n h => by
    have := amt_of2 hO2 hda2 k
    rw [mget_of hDa.k2 h, hpd2, hdeva, amtOf_at, amtOf_at] at this
    exact this.symm
  have hbk : ∀ k, (mget k db.am).getD 0 = amtOf (openP o) b k := fun k => by
    rw [amt_of2 hO2 hdb k, hpd2, hdevb, amtOf_at, amtOf_at]
  apply ev_freezeMap 49
  · exact rfl
  · exact hDa.m2
  apply rangeA pk
  · exact rfl
  · exact rfl
  · exact rfl
  · exact rfl
  · exact rfl
  intro it hit
  have hit : upd st' da.i2 none it = none := hit
  have hG0 := GI.start hO2 hda2 hdb hne hit (.iter none (ments Of.enc intF da.am))
  rw [hdeva] at hG0
  have hE0 : (D2.filter fun x => decide (x.dev ≠ a)).map CD.pd = onDev b (setP db.pd) ((atP b (atP a (openP o))).filter fun p => decide (p.dev ≠ a)) := by
    rw [pd_filter, hpd2]
    unfold onDev
    refine ((List.map_congr_left fun p hp => ?_).trans (List.map_id _)).symm
    split
    · rename_i e
      obtain ⟨x, hx, rfl⟩ := List.mem_map.1 (hpd2 ▸ (List.mem_filter.1 hp).1)
      have : x = db := nodup_eq hO2.held.devs hx hdb (show x.dev = db.dev from e.trans hdevb.symm)
      rw [this]; rfl
    · rfl
  have hfin : ∀ va vs, onDev b (setP (giveF va vs db.pd)) ((atP b (atP a (openP o))).filter fun p => decide (p.dev ≠ a)) = onDev b (giveF va vs) ((atP b (atP a (openP o))).filter fun p => decide (p.dev ≠ a)) := fun va vs => by
    unfold onDev
    refine List.map_congr_left fun p hp => ?_
    by_cases e : p.dev = b
    · rw [if_pos e, if_pos e]
      obtain ⟨x, hx, rfl⟩ := List.mem_map.1 (hpd2 ▸ (List.mem_filter.1 hp).1)
      have : x = db := nodup_eq hO2.held.devs hx hdb (show x.dev = db.dev from e.trans hdevb.symm)
      rw [this]; rfl
    · rw [if_neg e, if_neg e]
  have hPEb : ∀ p ∈ (atP b (atP a (openP o))).filter (fun p => decide (p.dev ≠ a)), PdB p 1000 := fun p hp => atP_bd (atP_bd hbd) p (List.mem_filter.1 hp).1
  have hPEl : ((atP b (atP a (openP o))).filter (fun p => decide (p.dev ≠ a))).length ≤ 2000 := by
    have h6 := atP_len b (atP a (openP o))
    have h7 := atP_len a (openP o)
    have h8 := List.length_filter_le (fun p : PD => decide (p.dev ≠ a)) (atP b (atP a (openP o)))
    omega
  have hpam : da.pd ∈ atP b (atP a (openP o)) := by rw [← hpd2]; exact List.mem_map.2 ⟨da, hda2, rfl⟩
  have hpbm : db.pd ∈ atP b (atP a (openP o)) := by rw [← hpd2]; exact List.mem_map.2 ⟨db, hdb, rfl⟩
  have hpab : PdB da.pd 1000 := atP_bd (atP_bd hbd) _ hpam
  have hpbb : PdB db.pd 1000 := atP_bd (atP_bd hbd) _ hpbm
  have hsne : ∀ e ∈ da.sp, ∃ id x, e.2 = some (id, x) := fun e he => by
    have := atP_sp (atP_sp openP_sp) da.pd hpam (e.1, lst e.2) (List.mem_map.2 ⟨e, he, rfl⟩)
    cases h : e.2 with
    | none => rw [h] at this; exact absurd rfl this
    | some z => exact ⟨z.1, z.2, rfl⟩
  have hok : ∀ l va vs, va.Perm da.am → vs.Perm da.pd.sp → (∀ e ∈ va, ¬ amtOf (openP o) b e.1 > 1099511627776 - e.2) → ClosedOf (onDev b (giveF va vs) ((atP b (atP a (openP o))).filter fun p => decide (p.dev ≠ a))) l → GiveR o a b l 0 := fun l va vs q1 q2 q3 q4 => .inr ⟨rfl, da.pd, va, vs, hpam, hdeva, q1, q2, q3, q4⟩
  have hdel : mdel a (outE D2) = outE (D2.filter fun x => decide (x.dev ≠ a)) := outE_del hO2.held.devs a
  generalize hPE : (atP b (atP a (openP o))).filter (fun p => decide (p.dev ≠ a)) = PE at *
  generalize hE0' : D2.filter (fun x => decide (x.dev ≠ a)) = E0 at *
  (try (apply wO pk; exact rfl)); (repeat' (first | exact All.nil | refine All.cons ?_ ?_ | (apply wC pk; exact rfl; exact rfl) | (apply wE pk; exact rfl; exact rfl) | (apply wX pk; exact rfl) | (apply wN pk; exact rfl) | (apply wD pk [] []; kernel_rfl; exact rfl; exact rfl) | exact Imp.one | exact Imp.same | refine Imp.left ?_ | exact ImpX.one | exact ImpX.same | exact ImpX.mk | refine ImpX.up ?_ | refine ImpX.old ?_ | (apply pwp_condC; simp only [cond_true, cond_false]) | (refine pwp_cond rfl (fun h => ?_) (fun h => ?_) <;> (try simp at h) <;> (first | done | (exfalso; omega) | skip)) | (refine pwp_ret ?_; refine ⟨_, _, _, rfl, Wk.refl _, StSub.refl _, ?_, rfl⟩; (first | rfl | skip)) | (intros; omega) | (intros; simp only [List.length_map]; omega)))
  refine pwp_loop (X := { x : List (Of × Int) × List (Of × Int) × CD × List CD × Store // GI st (upd st' da.i2 none) x.2.2.2.2 idm D2 x.2.2.2.1 x.2.2.1 it (fun j => j = da.i1 ∨ j ∈ spI da.sp) ∧ (∃ cur, x.2.2.2.2 it = some (.iter cur (ments Of.enc intF x.1))) ∧ (x.2.1 ++ x.1).Perm da.am ∧ x.2.2.2.1.map CD.pd = onDev b (setP x.2.2.1.pd) PE ∧ (x.2.2.1.dev = b ∧ x.2.2.1.i1 = db.i1 ∧ x.2.2.1.i2 = db.i2) ∧ x.2.2.1.pd = giveF x.2.1 [] db.pd ∧ (∀ e ∈ x.2.1, ¬ amtOf (openP o) b e.1 > 1099511627776 - e.2) ∧ outE x.2.2.2.1 = outE E0 }) (fun i => ((((((St.nil 91 (i.1.2.2.2.2)).pv 2 ((PV.val (Value.int .i64 (a))))).pv 10 (.mref idm)).var 11 72 ([.mref da.i1, .mref da.i2])).var 12 72 ([.mref i.1.2.2.1.i1, .mref i.1.2.2.1.i2])).pv 50 (.ref it 0))) (fun i => i.1.1.length) ⟨(da.am, [], db, E0, _), hG0, ⟨none, upd_same _ _ _⟩, List.Perm.refl _, hE0, ⟨hdevb, rfl, rfl⟩, rfl, fun _ h => (by cases h), rfl⟩ ?_ (fun i => ?_)
  · (first | exact Sub.nil _ _ _ (StSub.refl _) rfl | ((repeat (first | refine Sub.pv ?_ rfl | refine Sub.var ?_ rfl rfl)); (first | exact Sub.nil _ _ _ (StSub.refl _) rfl | exact Sub.nil _ _ _ (stsub_swap (by assumption)) rfl | exact Sub.nil _ _ _ (stsub_eq (by first | rfl | exact upd_eta (by assumption) | ((simp only [St.pv, St.put, St.sst, St.setv, St.nil, St.var, upd_upd]); first | done | rfl))) rfl | (refine Sub.nil _ _ _ (stsub_eq ?_) rfl; (simp only [St.pv, St.put, St.sst, St.setv, St.nil, St.var, upd_upd]); (rw [upd4 (by assumption)]); first | done | rfl))))
  obtain ⟨⟨ra, va, d, E, S⟩, hG, ⟨cur, hcur⟩, hperm, hpdE, ⟨e1, e2, e3⟩, hdpd, hov, hout⟩ := i
  dsimp only at hG hcur hperm hpdE e1 e2 e3 hdpd hov hout
  dsimp only
  (try (apply wO pk; exact rfl)); (repeat' (first | exact All.nil | refine All.cons ?_ ?_ | (apply wC pk; exact rfl; exact rfl) | (apply wE pk; exact rfl; exact rfl) | (apply wX pk; exact rfl) | (apply wN pk; exact rfl) | (apply wD pk [] []; kernel_rfl; exact rfl; exact rfl) | exact Imp.one | exact Imp.same | refine Imp.left ?_ | exact ImpX.one | exact ImpX.same | exact ImpX.mk | refine ImpX.up ?_ | refine ImpX.old ?_ | (apply pwp_condC; simp only [cond_true, cond_false]) | (refine pwp_cond rfl (fun h => ?_) (fun h => ?_) <;> (try simp at h) <;> (first | done | (exfalso; omega) | skip)) | (refine pwp_ret ?_; refine ⟨_, _, _, rfl, Wk.refl _, StSub.refl _, ?_, rfl⟩; (first | rfl | skip)) | (apply nextA; exact rfl; exact hcur; exact rfl; exact rfl; exact rfl; intro hleft; rotate_left; intro i e he; rotate_left) | (intros; omega) | (intros; simp only [List.length_map]; omega)))
  · have hr0 : ra = [] := by
      cases ra with
      | nil => rfl
      | cons _ _ => cases hleft
    subst hr0
    rw [List.append_nil] at hperm
    have hnd := hDa.ids
    simp only [CD.ids, List.nodup_cons, List.mem_cons, not_or] at hnd
    have hm1 : S da.i1 = some (.map (ments Of.enc spF (spE da.sp))) := (hG.same _ (.inl rfl)).trans ((upd_ne hnd.1.1).trans hDa.m1)
    apply ev_freezeMap 72
    · exact rfl
    · exact hm1
    apply rangeA pk
    · exact rfl
    · exact rfl
    · exact rfl
    · exact rfl
    · exact rfl
    intro it2 hit2
    have hit2 : upd S da.i1 none it2 = none := hit2
    have hG1 := (hG.drop (ida := da.i1) (.inl rfl) (Lv' := fun j => j ∈ spI da.sp) fun j hj => ⟨.inr hj, fun e => hnd.1.2 (e ▸ hj)⟩).start2 hit2 (.iter none (ments Of.enc spF (spE da.sp)))
    have harr0 : ∀ k id l, (k, some (id, l)) ∈ da.sp → (upd st' da.i2 none) id = some (.arr 80 (l.map Sn.cells)) := fun k id l h => (upd_ne (fun (e : id = da.i2) => hnd.2.1 (by rw [← e]; exact spI_mem.2 ⟨k, l, h⟩))).trans (hDa.arr k id l h)
    (try (apply wO pk; exact rfl)); (repeat' (first | exact All.nil | refine All.cons ?_ ?_ | (apply wC pk; exact rfl; exact rfl) | (apply wE pk; exact rfl; exact rfl) | (apply wX pk; exact rfl) | (apply wN pk; exact rfl) | (apply wD pk [] []; kernel_rfl; exact rfl; exact rfl) | exact Imp.one | exact Imp.same | refine Imp.left ?_ | exact ImpX.one | exact ImpX.same | exact ImpX.mk | refine ImpX.up ?_ | refine ImpX.old ?_ | (apply pwp_condC; simp only [cond_true, cond_false]) | (refine pwp_cond rfl (fun h => ?_) (fun h => ?_) <;> (try simp at h) <;> (first | done | (exfalso; omega) | skip)) | (refine pwp_ret ?_; refine ⟨_, _, _, rfl, Wk.refl _, StSub.refl _, ?_, rfl⟩; (first | rfl | skip)) | (intros; omega) | (intros; simp only [List.length_map]; omega)))
    refine pwp_loop (X := { x : List (Of × Option (Nat × List Sn)) × List (Of × List Sn) × CD × List CD × Store // GI st (upd st' da.i2 none) x.2.2.2.2 idm D2 x.2.2.2.1 x.2.2.1 it2 (fun j => j ∈ spI x.1) ∧ (∃ cur, x.2.2.2.2 it2 = some (.iter cur (ments Of.enc spF (spE x.1)))) ∧ (x.2.1 ++ x.1.map fun e => (e.1, lst e.2)).Perm da.pd.sp ∧ (∀ e ∈ x.1, e ∈ da.sp) ∧ (spI x.1).Nodup ∧ x.2.2.2.1.map CD.pd = onDev b (setP x.2.2.1.pd) PE ∧ (x.2.2.1.dev = b ∧ x.2.2.1.i1 = db.i1 ∧ x.2.2.1.i2 = db.i2) ∧ x.2.2.1.pd = giveF va x.2.1 db.pd ∧ outE x.2.2.2.1 = outE E0 }) (fun y => (((((St.nil 91 (y.1.2.2.2.2)).pv 2 ((PV.val (Value.int .i64 (a))))).pv 10 (.mref idm)).var 12 72 ([.mref y.1.2.2.1.i1, .mref y.1.2.2.1.i2])).pv 73 (.ref it2 0))) (fun y => y.1.1.length) ⟨(da.sp, [], d, E, _), hG1, ⟨none, upd_same _ _ _⟩, List.Perm.refl _, fun _ h => h, hnd.2.2, hpdE, ⟨e1, e2, e3⟩, hdpd, hout⟩ ?_ (fun y => ?_)
    · (first | exact Sub.nil _ _ _ (StSub.refl _) rfl | ((repeat (first | refine Sub.pv ?_ rfl | refine Sub.var ?_ rfl rfl)); (first | exact Sub.nil _ _ _ (StSub.refl _) rfl | exact Sub.nil _ _ _ (stsub_swap (by assumption)) rfl | exact Sub.nil _ _ _ (stsub_eq (by first | rfl | exact upd_eta (by assumption) | ((simp only [St.pv, St.put, St.sst, St.setv, St.nil, St.var, upd_upd]); first | done | rfl))) rfl | (refine Sub.nil _ _ _ (stsub_eq ?_) rfl; (simp only [St.pv, St.put, St.sst, St.setv, St.nil, St.var, upd_upd]); (rw [upd4 (by assumption)]); first | done | rfl))))
    obtain ⟨⟨rest, vs, d3, E3, S3⟩, hG2, ⟨cur2, hcur2⟩, hperm2, hsub, hndr, hpdE2, ⟨f1, f2, f3⟩, hdpd2, hout2⟩ := y
    dsimp only at hG2 hcur2 hperm2 hsub hndr hpdE2 f1 f2 f3 hdpd2 hout2
    dsimp only
    (try (apply wO pk; exact rfl)); (repeat' (first | exact All.nil | refine All.cons ?_ ?_ | (apply wC pk; exact rfl; exact rfl) | (apply wE pk; exact rfl; exact rfl) | (apply wX pk; exact rfl) | (apply wN pk; exact rfl) | (apply wD pk [] []; kernel_rfl; exact rfl; exact rfl) | exact Imp.one | exact Imp.same | refine Imp.left ?_ | exact ImpX.one | exact ImpX.same | exact ImpX.mk | refine ImpX.up ?_ | refine ImpX.old ?_ | (apply pwp_condC; simp only [cond_true, cond_false]) | (refine pwp_cond rfl (fun h => ?_) (fun h => ?_) <;> (try simp at h) <;> (first | done | (exfalso; omega) | skip)) | (refine pwp_ret ?_; refine ⟨_, _, _, rfl, Wk.refl _, StSub.refl _, ?_, rfl⟩; (first | rfl | skip)) | (apply nextA; exact rfl; exact hcur2; exact rfl; exact rfl; exact rfl; intro hleft2; rotate_left; intro i e he; rotate_left) | (intros; omega) | (intros; simp only [List.length_map]; omega)))
    · have hr1 : rest = [] := by
        cases rest with
        | nil => rfl
        | cons _ _ => cases hleft2
      subst hr1
      rw [List.map_nil, List.append_nil] at hperm2
      have hPDE : E3.map CD.pd = onDev b (giveF va vs) PE := by rw [hpdE2, hdpd2, hfin]
      have hDB : ∀ x ∈ E3, DevB x := fun x hx => by
        have h8 := onDev_bd (dev := b) (f := giveF va vs) (m := 2000) hPEb (by omega) fun p _ _ h => h.give hpab hperm hperm2
        exact DevB.of (h8 x.pd (by rw [← hPDE]; exact List.mem_map.2 ⟨x, hx, rfl⟩)) (by omega)
      have hDl : E3.length ≤ 100000 := by
        have h8 := congrArg List.length hPDE
        unfold onDev at h8
        rw [List.length_map, List.length_map] at h8
        omega
      have hcl := closed_pc hG2.op.drop2 hDB hDl
      have hokl := fun l h => hok l va vs hperm hperm2 hov h
      rw [hPDE] at hcl
      have hmm := hG2.op.hm
      (try (apply wO pk; exact rfl)); (repeat' (first | exact All.nil | refine All.cons ?_ ?_ | (apply wC pk; exact rfl; exact rfl) | (apply wE pk; exact rfl; exact rfl) | (apply wX pk; exact rfl) | (apply wN pk; exact rfl) | (apply wD pk [] []; kernel_rfl; exact rfl; exact rfl) | exact Imp.one | exact Imp.same | refine Imp.left ?_ | exact ImpX.one | exact ImpX.same | exact ImpX.mk | refine ImpX.up ?_ | refine ImpX.old ?_ | (apply pwp_condC; simp only [cond_true, cond_false]) | (refine pwp_cond rfl (fun h => ?_) (fun h => ?_) <;> (try simp at h) <;> (first | done | (exfalso; omega) | skip)) | (refine pwp_ret ?_; refine ⟨_, _, _, rfl, Wk.refl _, StSub.refl _, ?_, rfl⟩; (first | rfl | skip)) | (intros; omega) | (intros; simp only [List.length_map]; omega)))
      apply ev_delete pk.htt 10 intKey (f := heldF) (k := a)
      · exact rfl
      · exact rfl
      · exact rfl
      · exact rfl
      · exact rfl
      · exact rfl
      · exact hmm
      rw [hdel, ← hout2]
      (try (apply wO pk; exact rfl)); (repeat' (first | exact All.nil | refine All.cons ?_ ?_ | (apply wC pk; exact rfl; exact rfl) | (apply wE pk; exact rfl; exact rfl) | (apply wX pk; exact rfl) | (apply wN pk; exact rfl) | (apply wDx pk; exact rfl; kernel_rfl; exact rfl; exact rfl) | exact Imp.one | exact Imp.same | refine Imp.left ?_ | exact ImpX.one | exact ImpX.same | exact ImpX.mk | refine ImpX.up ?_ | refine ImpX.old ?_ | (apply pwp_condC; simp only [cond_true, cond_false]) | (refine pwp_cond rfl (fun h => ?_) (fun h => ?_) <;> (try simp at h) <;> (first | done | (exfalso; omega) | skip)) | (refine pwp_ret ?_; refine ⟨_, _, _, rfl, Wk.refl _, StSub.refl _, ?_, rfl⟩; (first | rfl | skip)) | (apply ncA; exact rfl; exact rfl; exact rfl; rotate_left; exact rfl; exact rfl) | (apply ldR pk; exact rfl; exact rfl; rotate_left; exact rfl; (first | exact upd_same _ _ _ | assumption | (focus ((repeat (first | exact upd_same _ _ _ | assumption | refine (upd_ne (by assumption)).trans ?_)); done))); exact rfl; exact rfl) | (apply stR pk; exact rfl; exact rfl; (first | exact upd_same _ _ _ | assumption | (focus ((repeat (first | exact upd_same _ _ _ | assumption | refine (upd_ne (by assumption)).trans ?_)); done))); exact rfl; exact rfl) | (apply callP; exact rfl; exact rfl; (apply hcl <;> first | exact upd_same _ _ _ | assumption | omega | (first | exact upd_same _ _ _ | assumption | (focus ((repeat (first | exact upd_same _ _ _ | assumption | refine (upd_ne (by assumption)).trans ?_)); done)))); exact rfl; exact rfl; exact rfl; intro _ st' hR; obtain ⟨l, rfl, hcl2, hSe⟩ := hR) | (apply callP; exact rfl; exact rfl; (first | (apply fail_no_spec <;> first | exact upd_same _ _ _ | assumption | omega | (simp only [Array.size_setIfInBounds]; omega) | (first | exact upd_same _ _ _ | assumption | (focus ((repeat (first | exact upd_same _ _ _ | assumption | refine (upd_ne (by assumption)).trans ?_)); done))))); exact rfl; exact rfl; exact rfl; intro _ st' hR; (first | subst hR | obtain ⟨rfl, rfl⟩ := hR)) | (refine pwp_ret ?_; exact ⟨_, _, _, rfl, Wk.soft _, StSub.refl _, hSe, l, 0, rfl, hokl l hcl2⟩) | (intros; omega) | (intros; simp only [List.length_map]; omega)))
    have hi : i < rest.length := by
      have := (List.getElem?_eq_some_iff.1 he).1
      simpa [ments, spE] using this
    have he : e = (Of.enc rest[i].1, spF (shp rest[i].2)) := by
      have := (List.getElem?_eq_some_iff.1 he).2
      rw [← this]; simp [ments, spE]
    subst he
    have hel : (ments Of.enc spF (spE rest)).eraseIdx i = ments Of.enc spF (spE (rest.eraseIdx i)) := by
      rw [← ments_erase]
      congr 1
      unfold spE
      generalize (fun e : Of × Option (Nat × List Sn) => (e.1, shp e.2)) = f
      exact map_erase f rest i
    rw [hel]
    have hsp := hsub _ (List.getElem_mem hi)
    have hkey : ∀ g, Rep g (.agg (rest[i].1).cells) (Of.enc rest[i].1) := fun g => by simp only [Rep]; exact ⟨(rest[i].1).vals, rfl, RepL.vals (rest[i].1).vals⟩
    have hler := List.length_eraseIdx_of_lt hi
    obtain ⟨ida, x, hx⟩ := hsne _ hsp
    obtain ⟨hs1, hs2⟩ := spI_erase hi
    obtain ⟨hs3, hs4⟩ := hs2 hndr
    obtain ⟨hs5, hs6⟩ := hs4 _ hx
    have hs5 : ida ∈ spI rest := hs5
    have hs6 : ida ∉ spI (rest.eraseIdx i) := hs6
    have hG3 := (hG2.iter (.iter (some (Of.enc rest[i].1, spF (shp rest[i].2))) (ments Of.enc spF (spE (rest.eraseIdx i))))).drop (ida := ida) hs5 (Lv' := fun j => j ∈ spI (rest.eraseIdx i)) fun j hj => ⟨hs1 j hj, fun e => hs6 (e ▸ hj)⟩
    have hp3 : ((vs ++ [(rest[i].1, lst rest[i].2)]) ++ (rest.eraseIdx i).map fun e => (e.1, lst e.2)).Perm da.pd.sp := by
      have := perm_take hperm2 (i := i) (by simpa using hi)
      rw [List.getElem_map, map_erase] at this
      exact this
    have hsub2 : ∀ e ∈ rest.eraseIdx i, e ∈ da.sp := fun e he => hsub e (List.mem_of_mem_eraseIdx he)
    have hmem : (rest[i].1, rest[i].2) ∈ da.sp := hsp
    generalize rest[i].1 = k at *
    generalize rest[i].2 = v at *
    subst hx
    have harr := harr0 k ida x hmem
    have hni : ida ≠ it2 := (hG2.out ida hs5).2.2.1
    have harr3 : (upd S3 it2 (some (.iter (some (Of.enc k, spF (shp (some (ida, x))))) (ments Of.enc spF (spE (rest.eraseIdx i)))))) ida = some (.arr 80 (x.map Sn.cells)) := (upd_ne hni).trans ((hG2.same ida hs5).trans harr)
    have hxl : x.length ≤ 1000 := by
      have h8 := (hpab.get k).2
      have h9 : mget k da.pd.sp = some x := by
        have : mget k da.pd.sp = (mget k da.sp).map lst := pd_get k da.sp
        rw [this, mget_of hDa.k1 hmem]; rfl
      rw [h9] at h8; exact h8
    have hsl : sumL d3.pd.sp ≤ 2000 := by
      have h8 : d3.pd.sp = addSp db.pd.sp vs := by rw [hdpd2]; rfl
      rw [h8, sumL_add]
      have h9 := hpbb.len
      have h10 := hpab.len
      have h11 := sumL_perm hperm2
      unfold sumL at *
      rw [List.map_append, List.sum_append] at h11
      omega
    have hDd := hG3.op.held.dev _ hG3.mem
    have hm1 := hDd.m1
    have hit4 : (upd (upd S3 it2 (some (.iter (some (Of.enc k, spF (shp (some (ida, x))))) (ments Of.enc spF (spE (rest.eraseIdx i)))))) ida none) it2 = some (.iter (some (Of.enc k, spF (shp (some (ida, x))))) (ments Of.enc spF (spE (rest.eraseIdx i)))) := by
      rw [upd_ne (Ne.symm hni), upd_same]
    have hi1 : d3.i1 ≠ it2 := fun e => hG3.itn.2.2 d3 hG3.mem (by rw [← e]; simp [CD.ids])
    (try (apply wO pk; exact rfl)); (repeat' (first | exact All.nil | refine All.cons ?_ ?_ | (apply wC pk; exact rfl; exact rfl) | (apply wE pk; exact rfl; exact rfl) | (apply wX pk; exact rfl) | (apply wN pk; exact rfl) | (apply wD pk [] []; kernel_rfl; exact rfl; exact rfl) | exact Imp.one | exact Imp.same | refine Imp.left ?_ | exact ImpX.one | exact ImpX.same | exact ImpX.mk | refine ImpX.up ?_ | refine ImpX.old ?_ | (apply pwp_condC; simp only [cond_true, cond_false]) | (refine pwp_cond rfl (fun h => ?_) (fun h => ?_) <;> (try simp at h) <;> (first | done | (exfalso; omega) | skip)) | (refine pwp_ret ?_; refine ⟨_, _, _, rfl, Wk.refl _, StSub.refl _, ?_, rfl⟩; (first | rfl | skip)) | (apply entryA; exact rfl; exact rfl; exact upd_same _ _ _; exact hkey; rotate_left; exact rfl; exact rfl) | (intros; omega) | (intros; simp only [List.length_map]; omega)))
    apply ev_freezeV 83
    · exact rfl
    · exact harr3
    · kernel_rfl
    · rw [List.length_map]
    rcases spGet k d3.sp with ⟨idb, xb, p1, p2⟩ | ⟨p1, p2, p3⟩
    · have hxb : (mget k d3.pd.sp).getD [] = xb := by
        have : mget k d3.pd.sp = (mget k d3.sp).map lst := pd_get k d3.sp
        rw [this, p1]; rfl
      have hxbl : xb.length ≤ 2000 := by have := len_sumL k d3.pd.sp; rw [hxb] at this; omega
      have harb := hDd.arr _ _ _ (mget_mem p1)
      have nidb : idb ≠ d3.i1 := fun e => by rw [e, hm1] at harb; cases harb
      (try (apply wO pk; exact rfl)); (repeat' (first | exact All.nil | refine All.cons ?_ ?_ | (apply wC pk; exact rfl; exact rfl) | (apply wE pk; exact rfl; exact rfl) | (apply wX pk; exact rfl) | (apply wN pk; exact rfl) | (apply wD pk [] []; kernel_rfl; exact rfl; exact rfl) | exact Imp.one | exact Imp.same | refine Imp.left ?_ | exact ImpX.one | exact ImpX.same | exact ImpX.mk | refine ImpX.up ?_ | refine ImpX.old ?_ | (apply pwp_condC; simp only [cond_true, cond_false]) | (refine pwp_cond rfl (fun h => ?_) (fun h => ?_) <;> (try simp at h) <;> (first | done | (exfalso; omega) | skip)) | (refine pwp_ret ?_; refine ⟨_, _, _, rfl, Wk.refl _, StSub.refl _, ?_, rfl⟩; (first | rfl | skip)) | (apply meB pk Of.key (f := spF) (z := none) (k := k) (v0 := some (idb, xb.length)); exact rfl; exact rfl; exact rfl; exact rfl; exact rfl; exact rfl; exact hm1; exact rfl; (rw [p2]; rfl)) | (apply apV pk (f := Sn.cells) (xs := xb) x 16; exact rfl; exact rfl; exact rfl; exact rfl; exact rfl; exact rfl; exact rfl; exact rfl; exact rfl; exact (upd_ne nidb).trans harb; exact rfl; exact fun _ => rfl; exact fun _ => rfl; exact hB; omega; omega; exact rfl; intro id' hid') | (intros; omega) | (intros; simp only [List.length_map]; omega)))
      have hid2 : upd (upd (upd S3 it2 (some (.iter (some (Of.enc k, spF (shp (some (ida, x))))) (ments Of.enc spF (spE (rest.eraseIdx i)))))) ida none) d3.i1 (some (.map (ments Of.enc spF (mput0 k none (spE d3.sp))))) id' = none := hid'
      have nid' : id' ≠ d3.i1 := fun e => by rw [e, upd_same] at hid2; cases hid2
      rw [upd_ne nid'] at hid2
      have nit : it2 ≠ id' := fun e => by rw [← e, hit4] at hid2; cases hid2
      have hnG := hG3.app k (xb ++ x) (S1 := upd (upd (upd (upd S3 it2 (some (.iter (some (Of.enc k, spF (shp (some (ida, x))))) (ments Of.enc spF (spE (rest.eraseIdx i)))))) ida none) d3.i1 (some (.map (ments Of.enc spF (mput0 k none (spE d3.sp)))))) idb none) hid2 nit fun j hj hz => by rw [upd_ne (hz _ p1), upd_ne hj]
      rw [List.length_append] at hnG
      have nitb : it2 ≠ idb := fun e => hG3.itn.2.2 d3 hG3.mem (by rw [e]; simp only [CD.ids, List.mem_cons]; exact .inr (.inr (spI_mem.2 ⟨k, xb, mget_mem p1⟩)))
      have hcur4 : upd (upd (upd (upd (upd (upd S3 it2 (some (.iter (some (Of.enc k, spF (shp (some (ida, x))))) (ments Of.enc spF (spE (rest.eraseIdx i)))))) ida none) d3.i1 (some (.map (ments Of.enc spF (mput0 k none (spE d3.sp)))))) idb none) id' (some (.arr 80 ((xb ++ x).map Sn.cells)))) d3.i1 (some (.map (ments Of.enc spF (mset k (some (id', xb.length + x.length)) (spE d3.sp))))) it2 = some (.iter (some (Of.enc k, spF (shp (some (ida, x))))) (ments Of.enc spF (spE (rest.eraseIdx i)))) := by
        rw [upd_ne (Ne.symm hi1), upd_ne nit, upd_ne nitb, upd_ne (Ne.symm hi1)]; exact hit4
      have hnp := give_sp hdpd2 k x xb id' hxb.symm
      have hnpd := setP_step (d' := { d3 with sp := mset k (some (id', xb ++ x)) d3.sp }) hpdE2 f1
      have hnout := (outE_setD (d' := { d3 with sp := mset k (some (id', xb ++ x)) d3.sp }) hG2.op.held.devs hG2.mem rfl rfl rfl).trans hout2
      apply esA pk Of.key (f := spF) (k := k) (z0 := none) (v := some (id', xb.length + x.length)); exact rfl; exact rfl; exact rfl; exact rfl; exact (upd_ne (Ne.symm nid')).trans ((upd_ne (Ne.symm nidb)).trans (upd_same _ _ _)); exact rfl
      (try (apply wO pk; exact rfl)); (repeat' (first | exact All.nil | refine All.cons ?_ ?_ | (apply wC pk; exact rfl; exact rfl) | (apply wE pk; exact rfl; exact rfl) | (apply wX pk; exact rfl) | (apply wN pk; exact rfl) | (apply wD pk [] []; kernel_rfl; exact rfl; exact rfl) | exact Imp.one | exact Imp.same | refine Imp.left ?_ | exact ImpX.one | exact ImpX.same | exact ImpX.mk | refine ImpX.up ?_ | refine ImpX.old ?_ | (apply pwp_condC; simp only [cond_true, cond_false]) | (refine pwp_cond rfl (fun h => ?_) (fun h => ?_) <;> (try simp at h) <;> (first | done | (exfalso; omega) | skip)) | (refine pwp_ret ?_; refine ⟨_, _, _, rfl, Wk.refl _, StSub.refl _, ?_, rfl⟩; (first | rfl | skip)) | (refine ⟨⟨(rest.eraseIdx i, vs ++ [(k, x)], { d3 with sp := mset k (some (id', xb ++ x)) d3.sp }, setD { d3 with sp := mset k (some (id', xb ++ x)) d3.sp } E3, upd (upd (upd (upd (upd (upd S3 it2 (some (.iter (some (Of.enc k, spF (shp (some (ida, x))))) (ments Of.enc spF (spE (rest.eraseIdx i)))))) ida none) d3.i1 (some (.map (ments Of.enc spF (mput0 k none (spE d3.sp)))))) idb none) id' (some (.arr 80 ((xb ++ x).map Sn.cells)))) d3.i1 (some (.map (ments Of.enc spF (mset k (some (id', xb.length + x.length)) (spE d3.sp)))))), hnG, ⟨_, hcur4⟩, hp3, hsub2, hs3, hnpd, ⟨f1, f2, f3⟩, hnp, hnout⟩, ?_, by simp only; omega⟩; (first | exact Sub.nil _ _ _ (StSub.refl _) rfl | ((repeat (first | refine Sub.pv ?_ rfl | refine Sub.var ?_ rfl rfl)); (first | exact Sub.nil _ _ _ (StSub.refl _) rfl | exact Sub.nil _ _ _ (stsub_swap (by assumption)) rfl | exact Sub.nil _ _ _ (stsub_eq (by first | rfl | exact upd_eta (by assumption) | ((simp only [St.pv, St.put, St.sst, St.setv, St.nil, St.var, upd_upd]); first | done | rfl))) rfl | (refine Sub.nil _ _ _ (stsub_eq ?_) rfl; (simp only [St.pv, St.put, St.sst, St.setv, St.nil, St.var, upd_upd]); (rw [upd4 (by assumption)]); first | done | rfl))))) | (intros; omega) | (intros; simp only [List.length_map]; omega)))
    · (try (apply wO pk; exact rfl)); (repeat' (first | exact All.nil | refine All.cons ?_ ?_ | (apply wC pk; exact rfl; exact rfl) | (apply wE pk; exact rfl; exact rfl) | (apply wX pk; exact rfl) | (apply wN pk; exact rfl) | (apply wD pk [] []; kernel_rfl; exact rfl; exact rfl) | exact Imp.one | exact Imp.same | refine Imp.left ?_ | exact ImpX.one | exact ImpX.same | exact ImpX.mk | refine ImpX.up ?_ | refine ImpX.old ?_ | (apply pwp_condC; simp only [cond_true, cond_false]) | (refine pwp_cond rfl (fun h => ?_) (fun h => ?_) <;> (try simp at h) <;> (first | done | (exfalso; omega) | skip)) | (refine pwp_ret ?_; refine ⟨_, _, _, rfl, Wk.refl _, StSub.refl _, ?_, rfl⟩; (first | rfl | skip)) | (apply meB pk Of.key (f := spF) (z := none) (k := k) (v0 := none); exact rfl; exact rfl; exact rfl; exact rfl; exact rfl; exact rfl; exact hm1; exact rfl; (rcases p1 with p1 | p1 <;> rw [p1] <;> rfl)) | (apply ap0 pk (f := Sn.cells) x 16; exact rfl; exact rfl; exact rfl; exact rfl; exact rfl; exact rfl; exact rfl; exact rfl; exact rfl; exact rfl; exact fun _ => rfl; exact fun _ => rfl; exact hB; omega; omega; exact rfl; intro id' hid') | (intros; omega) | (intros; simp only [List.length_map]; omega)))
      have hxb : (mget k d3.pd.sp).getD [] = [] := p2
      have hid2 : upd (upd (upd S3 it2 (some (.iter (some (Of.enc k, spF (shp (some (ida, x))))) (ments Of.enc spF (spE (rest.eraseIdx i)))))) ida none) d3.i1 (some (.map (ments Of.enc spF (mput0 k none (spE d3.sp))))) id' = none := hid'
      have nid' : id' ≠ d3.i1 := fun e => by rw [e, upd_same] at hid2; cases hid2
      rw [upd_ne nid'] at hid2
      have nit : it2 ≠ id' := fun e => by rw [← e, hit4] at hid2; cases hid2
      have hnG := hG3.app k x (S1 := upd (upd (upd S3 it2 (some (.iter (some (Of.enc k, spF (shp (some (ida, x))))) (ments Of.enc spF (spE (rest.eraseIdx i)))))) ida none) d3.i1 (some (.map (ments Of.enc spF (mput0 k none (spE d3.sp)))))) hid2 nit fun j hj hz => by rw [upd_ne hj]
      have hcur4 : upd (upd (upd (upd (upd S3 it2 (some (.iter (some (Of.enc k, spF (shp (some (ida, x))))) (ments Of.enc spF (spE (rest.eraseIdx i)))))) ida none) d3.i1 (some (.map (ments Of.enc spF (mput0 k none (spE d3.sp)))))) id' (some (.arr 80 (x.map Sn.cells)))) d3.i1 (some (.map (ments Of.enc spF (mset k (some (id', x.length)) (spE d3.sp))))) it2 = some (.iter (some (Of.enc k, spF (shp (some (ida, x))))) (ments Of.enc spF (spE (rest.eraseIdx i)))) := by
        rw [upd_ne (Ne.symm hi1), upd_ne nit, upd_ne (Ne.symm hi1)]; exact hit4
      have hnp := give_sp hdpd2 k x [] id' hxb.symm
      have hnpd := setP_step (d' := { d3 with sp := mset k (some (id', [] ++ x)) d3.sp }) hpdE2 f1
      have hnout := (outE_setD (d' := { d3 with sp := mset k (some (id', x)) d3.sp }) hG2.op.held.devs hG2.mem rfl rfl rfl).trans hout2
      apply esA pk Of.key (f := spF) (k := k) (z0 := none) (v := some (id', x.length)); exact rfl; exact rfl; exact rfl; exact rfl; exact (upd_ne (Ne.symm nid')).trans (upd_same _ _ _); exact rfl
      (try (apply wO pk; exact rfl)); (repeat' (first | exact All.nil | refine All.cons ?_ ?_ | (apply wC pk; exact rfl; exact rfl) | (apply wE pk; exact rfl; exact rfl) | (apply wX pk; exact rfl) | (apply wN pk; exact rfl) | (apply wD pk [] []; kernel_rfl; exact rfl; exact rfl) | exact Imp.one | exact Imp.same | refine Imp.left ?_ | exact ImpX.one | exact ImpX.same | exact ImpX.mk | refine ImpX.up ?_ | refine ImpX.old ?_ | (apply pwp_condC; simp only [cond_true, cond_false]) | (refine pwp_cond rfl (fun h => ?_) (fun h => ?_) <;> (try simp at h) <;> (first | done | (exfalso; omega) | skip)) | (refine pwp_ret ?_; refine ⟨_, _, _, rfl, Wk.refl _, StSub.refl _, ?_, rfl⟩; (first | rfl | skip)) | (refine ⟨⟨(rest.eraseIdx i, vs ++ [(k, x)], { d3 with sp := mset k (some (id', x)) d3.sp }, setD { d3 with sp := mset k (some (id', x)) d3.sp } E3, upd (upd (upd (upd (upd S3 it2 (some (.iter (some (Of.enc k, spF (shp (some (ida, x))))) (ments Of.enc spF (spE (rest.eraseIdx i)))))) ida none) d3.i1 (some (.map (ments Of.enc spF (mput0 k none (spE d3.sp)))))) id' (some (.arr 80 (x.map Sn.cells)))) d3.i1 (some (.map (ments Of.enc spF (mset k (some (id', x.length)) (spE d3.sp)))))), hnG, ⟨_, hcur4⟩, hp3, hsub2, hs3, hnpd, ⟨f1, f2, f3⟩, hnp, hnout⟩, ?_, by simp only; omega⟩; (first | exact Sub.nil _ _ _ (StSub.refl _) rfl | ((repeat (first | refine Sub.pv ?_ rfl | refine Sub.var ?_ rfl rfl)); (first | exact Sub.nil _ _ _ (StSub.refl _) rfl | exact Sub.nil _ _ _ (stsub_swap (by assumption)) rfl | exact Sub.nil _ _ _ (stsub_eq (by first | rfl | exact upd_eta (by assumption) | ((simp only [St.pv, St.put, St.sst, St.setv, St.nil, St.var, upd_upd]); first | done | rfl))) rfl | (refine Sub.nil _ _ _ (stsub_eq ?_) rfl; (simp only [St.pv, St.put, St.sst, St.setv, St.nil, St.var, upd_upd]); (rw [upd4 (by assumption)]); first | done | rfl))))) | (intros; omega) | (intros; simp only [List.length_map]; omega)))
  have hi : i < ra.length := by
    have := (List.getElem?_eq_some_iff.1 he).1
    simpa [ments] using this
  have he : e = (Of.enc ra[i].1, intF ra[i].2) := by
    have := (List.getElem?_eq_some_iff.1 he).2
    rw [← this]; simp [ments]
  subst he
  have hel : (ments Of.enc intF ra).eraseIdx i = ments Of.enc intF (ra.eraseIdx i) := (ments_erase _ _ _ _).symm
  rw [hel]
  have hkey : ∀ g, Rep g (.agg (ra[i].1).cells) (Of.enc ra[i].1) := fun g => by simp only [Rep]; exact ⟨(ra[i].1).vals, rfl, RepL.vals (ra[i].1).vals⟩
  have hler := List.length_eraseIdx_of_lt hi
  have hG3 := hG.iter (.iter (some (Of.enc ra[i].1, intF ra[i].2)) (ments Of.enc intF (ra.eraseIdx i)))
  have hp3 := perm_take hperm hi
  have hmem : (ra[i].1, ra[i].2) ∈ da.am := hperm.mem_iff.1 (List.mem_append_right _ (List.getElem_mem hi))
  have hkn : ra[i].1 ∉ va.map (·.1) := fun q => by
    have hn := (hperm.map (·.1)).nodup_iff.2 hDa.k2
    rw [List.map_append, List.nodup_append] at hn
    exact hn.2.2 _ q _ (List.mem_map.2 ⟨ra[i], List.getElem_mem hi, rfl⟩) rfl
  have hp4 : (va ++ [(ra[i].1, ra[i].2)] ++ ra.eraseIdx i).Perm da.am := hp3
  generalize ra[i].1 = k at *
  generalize ra[i].2 = n at *
  have hnk := hak k n hmem
  have hbnd := hama k
  have hbnd2 := hamb k
  have hov2 : amtOf (openP o) b k > 1099511627776 - n → GiveR o a b [] 20 := fun h => .inl ⟨rfl, rfl, k, by omega⟩
  rw [hnk] at hbnd
  have ham : d.am = addAm db.am va := congrArg PD.am hdpd
  have hget : (mget k d.am).getD 0 = amtOf (openP o) b k := by rw [ham, addAm_other k va db.am hkn]; exact hbk k
  have hm2 := (hG3.op.held.dev d hG3.mem).m2
  have hov3 : ¬ amtOf (openP o) b k > 1099511627776 - n → ∀ e ∈ va ++ [(k, n)], ¬ amtOf (openP o) b e.1 > 1099511627776 - e.2 := fun h e he => by
    rcases List.mem_append.1 he with he | he
    · exact hov e he
    · rw [List.mem_singleton.1 he]; exact h
  have hnew := give_am hdpd k n (amtOf (openP o) b k + n) (by rw [hget])
  have hnpd := setP_step (d' := { d with am := mset k (amtOf (openP o) b k + n) d.am }) hpdE e1
  have hnout := (outE_setD (d' := { d with am := mset k (amtOf (openP o) b k + n) d.am }) hG.op.held.devs hG.mem rfl rfl rfl).trans hout
  have hnG := hG3.am k (amtOf (openP o) b k + n) (.map (ments Of.enc intF (mput0 k 0 d.am)))
  have hit3 : d.i2 ≠ it := fun e => hG.itn.2.2 d hG.mem (by rw [← e]; simp [CD.ids])
  have hcur3 : (upd (upd (upd S it (some (.iter (some (Of.enc k, intF n)) (ments Of.enc intF (ra.eraseIdx i))))) d.i2 (some (.map (ments Of.enc intF (mput0 k 0 d.am))))) d.i2 (some (.map (ments Of.enc intF (mset k (amtOf (openP o) b k + n) d.am))))) it = some (.iter (some (Of.enc k, intF n)) (ments Of.enc intF (ra.eraseIdx i))) := by
    rw [upd_ne (Ne.symm hit3), upd_ne (Ne.symm hit3), upd_same]
  generalize amtOf (openP o) b k = amb at *
  (try (apply wO pk; exact rfl)); (repeat' (first | (apply wFork pk [0, 1, 2, 4] 3 [5, 6, 7, 8] 6 [3, 5, 7, 8] [6, 8] [3] [6, 8] [4] [4, 8] [5]; exact rfl; exact rfl; exact rfl; exact rfl; kernel_rfl; exact rfl) | (apply Both.mk) | exact All.nil | refine All.cons ?_ ?_ | (apply wC pk; exact rfl; exact rfl) | (apply wE pk; exact rfl; exact rfl) | (apply wX pk; exact rfl) | (apply wN pk; exact rfl) | (apply wD pk [] []; kernel_rfl; exact rfl; exact rfl) | exact Imp.one | exact Imp.same | refine Imp.left ?_ | exact ImpX.one | exact ImpX.same | exact ImpX.mk | refine ImpX.up ?_ | refine ImpX.old ?_ | (apply pwp_condC; simp only [cond_true, cond_false]) | (refine pwp_cond rfl (fun h => ?_) (fun h => ?_) <;> (try simp at h) <;> (first | done | (exfalso; omega) | skip)) | (refine pwp_ret ?_; refine ⟨_, _, _, rfl, Wk.refl _, StSub.refl _, ?_, rfl⟩; (first | rfl | skip)) | (apply entryA; exact rfl; exact rfl; exact upd_same _ _ _; exact hkey; rotate_left; exact rfl; exact rfl) | (apply lkI pk Of.key (k := k) (n := amb); exact rfl; exact rfl; exact rfl; exact rfl; exact rfl; rotate_left; exact rfl; exact hm2; exact rfl; exact hget) | (apply meB pk Of.key (f := intF) (z := 0) (k := k) (v0 := amb); exact rfl; exact rfl; exact rfl; exact rfl; exact rfl; exact rfl; exact hm2; exact rfl; exact hget) | (apply esA pk Of.key (f := intF) (k := k) (z0 := 0) (v := amb + n); exact rfl; exact rfl; exact rfl; exact rfl; exact upd_same _ _ _; exact rfl) | (apply lkI pk Of.key (k := k) (n := amb); exact rfl; exact rfl; exact rfl; exact rfl; exact rfl; rotate_left; exact rfl; exact upd_same _ _ _; exact rfl; (rw [mget_mput0]; exact hget)) | (refine pwp_ret ?_; exact ⟨_, _, st, rfl, Wk.soft _, hG3.op.sub, rfl, [], 20, rfl, hov2 (by omega)⟩) | (refine ⟨⟨(ra.eraseIdx i, va ++ [(k, n)], { d with am := mset k (amb + n) d.am }, setD { d with am := mset k (amb + n) d.am } E, upd (upd (upd S it (some (.iter (some (Of.enc k, intF n)) (ments Of.enc intF (ra.eraseIdx i))))) d.i2 (some (.map (ments Of.enc intF (mput0 k 0 d.am))))) d.i2 (some (.map (ments Of.enc intF (mset k (amb + n) d.am))))), hnG, ⟨_, hcur3⟩, hp4, hnpd, ⟨e1, e2, e3⟩, hnew, hov3 (by omega), hnout⟩, ?_, by simp only; omega⟩; (first | exact Sub.nil _ _ _ (StSub.refl _) rfl | ((repeat (first | refine Sub.pv ?_ rfl | refine Sub.var ?_ rfl rfl)); (first | exact Sub.nil _ _ _ (StSub.refl _) rfl | exact Sub.nil _ _ _ (stsub_swap (by assumption)) rfl | exact Sub.nil _ _ _ (stsub_eq (by first | rfl | exact upd_eta (by assumption) | ((simp only [St.pv, St.put, St.sst, St.setv, St.nil, St.var, upd_upd]); first | done | rfl))) rfl | (refine Sub.nil _ _ _ (stsub_eq ?_) rfl; (simp only [St.pv, St.put, St.sst, St.setv, St.nil, St.var, upd_upd]); (rw [upd4 (by assumption)]); first | done | rfl))))) | (intros; omega) | (intros; simp only [List.length_map]; omega)))
end Go.Proofs.Ytbcdgocepnkpeaa
