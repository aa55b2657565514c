import Derived.Test.YtbcdgocepnkpeaaRtLess2
set_option linter.unusedSimpArgs false
set_option linter.unusedVariables false
namespace Go.Proofs.Ytbcdgocepnkpeaa
open Go Go.Abs
attribute [local irreducible] Ev PWp
set_option maxRecDepth 10000
set_option maxHeartbeats 4000000
theorem pd_setSp (d : CD) (k : Of) (v : Option (Nat × List Sn)) : ({ d with sp := mset k v d.sp } : CD).pd = setSp k (lst v) d.pd := by
  unfold CD.pd setSp
  simp only
  rw [mset_map lst k v d.sp]
theorem lessP_mem {x : Sn} : ∀ {l : List Sn} {z : Sn}, SnB x → (∀ y ∈ l, SnB y) → (x.hi ≤ 1073741824) → z ∈ lessP x l → SnB z
  | [], z, _, _, _, h => by cases h
  | y :: l, z, hx, hl, hh, h => by
    rw [lessP, List.mem_append] at h
    rcases h with h | h
    · have hy := hl y (by simp)
      unfold keepS two at h
      simp only [List.mem_filter, List.mem_cons, List.not_mem_nil, or_false, decide_eq_true_eq] at h
      unfold SnB at *
      obtain ⟨h, _⟩ := h
      rcases h with rfl | rfl
      · exact hy
      · simp only; omega
    · exact lessP_mem hx (fun y hy => hl y (List.mem_cons_of_mem _ hy)) hh h
theorem handS_pc (s : Sc) (hs : FewS s) (o : List Ow) (ho : FewO o) (a b : Int) (r : Rt) (st : Store) (h1 : HandArg s o a b) (h2 : rightE s r = 0) (h3 : holdsP s o a r = true) (hk : r.kind ≠ 3) : PC Try.prog 15 [.agg (scC s), .seq (o.map Ow.cells), (PV.val (Value.int .i64 (a))), (PV.val (Value.int .i64 (b))), .agg r.cells] st fun q S => S = st ∧ ∃ l e, q = .tup [.seq (l.map Ow.cells), (PV.val (Value.int .i64 (e)))] ∧ HandOf s o a b r l e := by
  have hc := canon_spec s hs o ho
  have hd1 := device_spec a
  have hd2 := device_spec b
  have hr := right_spec s hs r
  have hh := holds_spec s hs o ho a r
  have hn4 := h1.ne
  have hCO := (canon_iff s o).1 h1.hc
  have hop := open_pc st o ho hCO.nodup
  have hbd := openP_bd ho hCO
  have hlo := ho.len
  have hpl : (openP o).length = o.length := by unfold openP; simp
  have hB := bytesS
  have hsn := (mayR_span hk).1 (rightE_ok.1 h2).2
  have hne : (spOf (openP o) a (kR r)).any (inB r) = true := by
    unfold holdsP at h3
    simp only [Bool.and_eq_true, if_neg hk] at h3
    exact h3.2
  have hla := spOf_len ho a (kR r)
  have hlb := spOf_len ho b (kR r)
  have hok : ∀ l, ClosedOf (onDev b (setSp (kR r) (spOf (openP o) b (kR r) ++ [⟨r.lo, r.hi⟩])) (onDev a (setSp (kR r) (lessP ⟨r.lo, r.hi⟩ (spOf (openP o) a (kR r)))) (atP b (atP a (openP o))))) l → HandOf s o a b r l 0 := fun l hl => ⟨fun h => absurd h1 h, fun _ h => absurd h2 h, fun _ _ h => (by rw [h3] at h; cases h), fun _ _ _ h => absurd h hk, fun _ _ _ h => absurd h hk, fun _ _ _ _ => ⟨rfl, hl⟩⟩
  have hso : ∀ {S : Store} {idm : Nat} {D : List CD} {d : CD}, OpS st S idm D D → D.map CD.pd = atP b (atP a (openP o)) → d ∈ D → (mget (kR r) (d.sp.map fun e => (e.1, lst e.2))).getD [] = spOf (openP o) d.dev (kR r) := fun h h2 h4 => by
    rw [sp_of2 h h4, h2, spOf_at, spOf_at]
  have fin_pc : ∀ {S : Store} {idm : Nat} {D : List CD}, OpS st S idm D D → D.map CD.pd = onDev b (setSp (kR r) (spOf (openP o) b (kR r) ++ [⟨r.lo, r.hi⟩])) (onDev a (setSp (kR r) (lessP ⟨r.lo, r.hi⟩ (spOf (openP o) a (kR r)))) (atP b (atP a (openP o)))) → PC Try.prog 33 [.fmap (ments Ie heldF (outE D))] (upd S idm none) fun q S' => ∃ l : List Ow, q = .seq (l.map Ow.cells) ∧ ClosedOf (onDev b (setSp (kR r) (spOf (openP o) b (kR r) ++ [⟨r.lo, r.hi⟩])) (onDev a (setSp (kR r) (lessP ⟨r.lo, r.hi⟩ (spOf (openP o) a (kR r)))) (atP b (atP a (openP o))))) l ∧ S' = st := fun {S idm D} hO hD => by
    have hx : SnB (⟨r.lo, r.hi⟩ : Sn) := ⟨hsn.1, by show r.lo ≤ 1073741824; omega⟩
    have hpg : ∀ (c : Int), ∀ y ∈ spOf (openP o) c (kR r), SnB y := fun c y hy => by
      unfold spOf at hy
      cases hf : findD c (openP o) with
      | none => rw [hf] at hy; simp at hy
      | some d => rw [hf] at hy; exact ((hbd d (List.mem_of_find?_eq_some hf)).get (kR r)).1 y hy
    have hll := lessP_len (⟨r.lo, r.hi⟩ : Sn) (spOf (openP o) a (kR r))
    have hDB : ∀ x ∈ D, DevB x := fun x hx' => by
      have hb1 := onDev_bd (m := 4000) (atP_bd (dev := b) (atP_bd (dev := a) hbd)) (by omega) (dev := a) (f := setSp (kR r) (lessP ⟨r.lo, r.hi⟩ (spOf (openP o) a (kR r)))) fun p _ _ h => (h.setS (kR r) _ (m := 2000) (fun z hz => lessP_mem hx (hpg a) hsn.2.2.1 hz) (by omega)).mono (by omega)
      have hb2 := onDev_bd (m := 9000) hb1 (by omega) (dev := b) (f := setSp (kR r) (spOf (openP o) b (kR r) ++ [⟨r.lo, r.hi⟩])) fun p _ _ h => (h.setS (kR r) _ (m := 1001) (fun z hz => by
        rcases List.mem_append.1 hz with hz | hz
        · exact hpg b z hz
        · rw [List.mem_singleton.1 hz]; exact hx) (by rw [List.length_append, List.length_singleton]; omega)).mono (by omega)
      exact DevB.of (hb2 x.pd (by rw [← hD]; exact List.mem_map.2 ⟨x, hx', rfl⟩)) (by omega)
    have hDl : D.length ≤ 100000 := by
      have h8 := congrArg List.length hD
      have h6 := atP_len b (atP a (openP o))
      have h7 := atP_len a (openP o)
      unfold onDev at h8
      rw [List.length_map, List.length_map, List.length_map] at h8
      omega
    rw [← hD]
    exact closed_pc hO.drop hDB hDl
  rw [h1.hc] at hc
  rw [h1.ha] at hd1
  rw [h1.hb] at hd2
  rw [h2] at hr
  rw [h3] at hh
  refine pc_of tt_ok Try.func15 (by kernel_rfl) rfl rfl rfl rfl ?_
  (try (apply wO pk; exact rfl)); (repeat' (first | (apply wDO pk [0, 1, 2, 3, 4, 5, 6, 7, 8, 9] [8, 9] [6] [8, 9] [6]; exact rfl; exact rfl; kernel_rfl; exact rfl; exact rfl) | exact All.nil | refine All.cons ?_ ?_ | (apply wC pk; exact rfl; exact rfl) | (apply wE pk; exact rfl; exact rfl) | (apply wX pk; exact rfl) | (apply wN pk; exact rfl) | (apply wDx pk; exact rfl; kernel_rfl; exact rfl; exact rfl) | exact Imp.one | exact Imp.same | refine Imp.left ?_ | exact ImpX.one | exact ImpX.same | exact ImpX.mk | refine ImpX.up ?_ | refine ImpX.old ?_ | (apply pwp_condC; simp only [cond_true, cond_false]) | (refine pwp_cond rfl (fun h => ?_) (fun h => ?_) <;> (try simp at h) <;> (first | done | (exfalso; omega) | skip)) | (refine pwp_ret ?_; refine ⟨_, _, _, rfl, Wk.refl _, StSub.refl _, ?_, rfl⟩; (first | rfl | skip)) | (apply callS; exact rfl; exact rfl; exact rfl; (intro _; first | (apply hc <;> first | assumption | omega) | (apply hd1 <;> first | assumption | omega) | (apply hd2 <;> first | assumption | omega) | (apply hr <;> first | assumption | omega) | (apply hh <;> first | assumption | omega)); rotate_left; exact rfl; exact rfl) | (apply callV; exact rfl; exact rfl; exact rfl; (intro _; first | (apply hc <;> first | assumption | omega) | (apply hd1 <;> first | assumption | omega) | (apply hd2 <;> first | assumption | omega) | (apply hr <;> first | assumption | omega) | (apply hh <;> first | assumption | omega)); rotate_left; exact rfl; exact rfl) | (apply ncA; exact rfl; exact rfl; exact rfl; rotate_left; exact rfl; exact rfl) | (apply ldR pk; exact rfl; exact rfl; rotate_left; exact rfl; (first | exact upd_same _ _ _ | assumption | (focus ((repeat (first | exact upd_same _ _ _ | assumption | refine (upd_ne (by assumption)).trans ?_)); done))); exact rfl; exact rfl) | (apply stR pk; exact rfl; exact rfl; (first | exact upd_same _ _ _ | assumption | (focus ((repeat (first | exact upd_same _ _ _ | assumption | refine (upd_ne (by assumption)).trans ?_)); done))); exact rfl; exact rfl) | (apply callP; exact rfl; exact rfl; (apply hop <;> first | exact upd_same _ _ _ | assumption | omega | (first | exact upd_same _ _ _ | assumption | (focus ((repeat (first | exact upd_same _ _ _ | assumption | refine (upd_ne (by assumption)).trans ?_)); done)))); exact rfl; exact rfl; exact rfl; intro _ st' hR; obtain ⟨idm, D, rfl, hO, hpd⟩ := hR) | (apply callP; exact rfl; exact rfl; (apply (at_pc hO a) <;> first | exact upd_same _ _ _ | assumption | omega | (first | exact upd_same _ _ _ | assumption | (focus ((repeat (first | exact upd_same _ _ _ | assumption | refine (upd_ne (by assumption)).trans ?_)); done)))); exact rfl; exact rfl; exact rfl; intro _ st' hR; obtain ⟨D1, da, hO1, hda1, hdeva, rfl, hat1, hsub1⟩ := hR) | (apply callP; exact rfl; exact rfl; (apply (at_pc hO1 b) <;> first | exact upd_same _ _ _ | assumption | omega | (first | exact upd_same _ _ _ | assumption | (focus ((repeat (first | exact upd_same _ _ _ | assumption | refine (upd_ne (by assumption)).trans ?_)); done)))); exact rfl; exact rfl; exact rfl; intro _ st' hR; obtain ⟨D2, db, hO2, hdb, hdevb, rfl, hat2, hsub2⟩ := hR) | (apply callP; exact rfl; exact rfl; (first | (apply fail_no_spec <;> first | exact upd_same _ _ _ | assumption | omega | (simp only [Array.size_setIfInBounds]; omega) | (first | exact upd_same _ _ _ | assumption | (focus ((repeat (first | exact upd_same _ _ _ | assumption | refine (upd_ne (by assumption)).trans ?_)); done))))); exact rfl; exact rfl; exact rfl; intro _ st' hR; (first | subst hR | obtain ⟨rfl, rfl⟩ := hR)) | (apply lkB pk Of.key (f := spF) (k := kR r); exact rfl; exact rfl; exact rfl; exact rfl; exact rfl; rotate_left; exact rfl; exact (hO2.held.dev _ (hsub2 _ hda1)).m1; exact rfl; exact rfl) | (exfalso; (first | exact hn4 (by assumption) | exact hk (by assumption))) | (intros; omega) | (intros; simp only [List.length_map]; omega)))
  have hda2 := hsub2 _ hda1
  have hDa := hO2.held.dev _ hda2
  have hpd2 : D2.map CD.pd = atP b (atP a (openP o)) := by rw [hat2, hat1, hpd]
  have hLa := hso hO2 hpd2 hda2
  rw [hdeva] at hLa
  rcases spGet (kR r) da.sp with ⟨id, x, q1, q2⟩ | ⟨q1, q2, q3⟩
  case inr => rw [q2] at hLa; rw [← hLa] at hne; cases hne
  have harr := hDa.arr _ _ _ (mget_mem q1)
  rw [pd_get, q1] at hLa
  have hLa : x = spOf (openP o) a (kR r) := hLa
  have hlx : x.length ≤ 1000 := by rw [hLa]; exact hla
  have hls := lessV_pc x (⟨r.lo, r.hi⟩ : Sn) (by omega) st' harr rfl
  rw [q2]
  dsimp only [lookPV, Option.getD]
  (try (apply wO pk; exact rfl)); (repeat' (first | exact All.nil | refine All.cons ?_ ?_ | (apply wC pk; exact rfl; exact rfl) | (apply wE pk; exact rfl; exact rfl) | (apply wX pk; exact rfl) | (apply wN pk; exact rfl) | (apply wD pk [] []; kernel_rfl; exact rfl; exact rfl) | exact Imp.one | exact Imp.same | refine Imp.left ?_ | exact ImpX.one | exact ImpX.same | exact ImpX.mk | refine ImpX.up ?_ | refine ImpX.old ?_ | (apply pwp_condC; simp only [cond_true, cond_false]) | (refine pwp_cond rfl (fun h => ?_) (fun h => ?_) <;> (try simp at h) <;> (first | done | (exfalso; omega) | skip)) | (refine pwp_ret ?_; refine ⟨_, _, _, rfl, Wk.refl _, StSub.refl _, ?_, rfl⟩; (first | rfl | skip)) | (apply callN; exact rfl; exact rfl; exact hls; exact rfl; exact rfl; exact rfl; rintro _ S3 ⟨bl, rfl, hbl, hLS⟩) | (apply muA pk Of.key (f := spF) (k := kR r) (v := shp bl); (first | exact .inl rfl | exact .inr rfl); exact rfl; exact rfl; exact rfl; exact rfl; exact rfl; exact (hLS.old _ (by rw [hDa.m1]; simp)).trans hDa.m1; exact rfl) | (intros; omega) | (intros; simp only [List.length_map]; omega)))
  have hs1 := hO2.less hda2 (kR r) hLS
  have hnd : db.dev ≠ da.dev := by rw [hdeva, hdevb]; exact fun e => hn4 e.symm
  have hdb3 : db ∈ setD { da with sp := mset (kR r) bl da.sp } D2 := setD_other hdb hnd
  have hDb := hs1.held.dev _ hdb3
  have hLb := hso hO2 hpd2 hdb
  rw [hdevb] at hLb
  generalize hS4 : upd S3 da.i1 (some (.map (ments Of.enc spF (mset (kR r) (shp bl) (spE da.sp))))) = S4 at hs1 hDb
  have hm4 : (upd S3 da.i1 (some (.map (ments Of.enc spF (mset (kR r) (shp bl) (spE da.sp)))))) db.i1 = some (.map (ments Of.enc spF (spE db.sp))) := by rw [hS4]; exact hDb.m1
  rcases spGet (kR r) db.sp with ⟨idb, xb, p1, p2⟩ | ⟨p1, p2, p3⟩
  · rw [pd_get, p1] at hLb
    have hLb : xb = spOf (openP o) b (kR r) := hLb
    have hxl : xb.length ≤ 1000 := by rw [hLb]; exact hlb
    have harb : (upd S3 da.i1 (some (.map (ments Of.enc spF (mset (kR r) (shp bl) (spE da.sp)))))) idb = some (.arr 80 (xb.map Sn.cells)) := by rw [hS4]; exact hDb.arr _ _ _ (mget_mem p1)
    have nidb : idb ≠ db.i1 := fun e => by rw [e, hm4] at harb; cases harb
    (try (apply wO pk; exact rfl)); (repeat' (first | exact All.nil | refine All.cons ?_ ?_ | (apply wC pk; exact rfl; exact rfl) | (apply wE pk; exact rfl; exact rfl) | (apply wX pk; exact rfl) | (apply wN pk; exact rfl) | (apply wD pk [] []; kernel_rfl; exact rfl; exact rfl) | exact Imp.one | exact Imp.same | refine Imp.left ?_ | exact ImpX.one | exact ImpX.same | exact ImpX.mk | refine ImpX.up ?_ | refine ImpX.old ?_ | (apply pwp_condC; simp only [cond_true, cond_false]) | (refine pwp_cond rfl (fun h => ?_) (fun h => ?_) <;> (try simp at h) <;> (first | done | (exfalso; omega) | skip)) | (refine pwp_ret ?_; refine ⟨_, _, _, rfl, Wk.refl _, StSub.refl _, ?_, rfl⟩; (first | rfl | skip)) | (apply meB pk Of.key (f := spF) (z := none) (k := kR r) (v0 := some (idb, xb.length)); exact rfl; exact rfl; exact rfl; exact rfl; exact rfl; exact rfl; exact hm4; exact rfl; (rw [p2]; rfl)) | (apply apV pk (f := Sn.cells) (xs := xb) [(⟨r.lo, r.hi⟩ : Sn)] 16; exact rfl; exact rfl; exact rfl; exact rfl; exact rfl; exact rfl; exact rfl; exact rfl; exact rfl; exact (upd_ne nidb).trans harb; exact rfl; exact fun _ => rfl; exact fun _ => rfl; exact hB; (simp only [List.length_cons, List.length_nil]; omega); (simp only [List.length_cons, List.length_nil]; omega); exact rfl; intro id' hid') | (intros; omega) | (intros; simp only [List.length_map]; omega)))
    have hidS : (upd (upd S3 da.i1 (some (.map (ments Of.enc spF (mset (kR r) (shp bl) (spE da.sp)))))) db.i1 (some (.map (ments Of.enc spF (mput0 (kR r) none (spE db.sp)))))) id' = none := hid'
    have nid' : id' ≠ db.i1 := fun e => by rw [e, upd_same] at hidS; cases hidS
    rw [upd_ne nid', hS4] at hidS
    have hs2 := hs1.app hdb3 (kR r) (xb ++ [(⟨r.lo, r.hi⟩ : Sn)]) (S1 := upd (upd S4 db.i1 (some (.map (ments Of.enc spF (mput0 (kR r) none (spE db.sp)))))) idb none) hidS fun j hj hz => by rw [upd_ne (hz _ p1), upd_ne hj]
    rw [← hS4, show (xb ++ [(⟨r.lo, r.hi⟩ : Sn)]).length = xb.length + 1 from by simp] at hs2
    apply esA pk Of.key (f := spF) (k := kR r) (z0 := none) (v := some (id', xb.length + 1)); exact rfl; exact rfl; exact rfl; exact rfl; exact (upd_ne (Ne.symm nid')).trans ((upd_ne (Ne.symm nidb)).trans (upd_same _ _ _)); exact rfl
    (try (apply wO pk; exact rfl)); (repeat' (first | exact All.nil | refine All.cons ?_ ?_ | (apply wC pk; exact rfl; exact rfl) | (apply wE pk; exact rfl; exact rfl) | (apply wX pk; exact rfl) | (apply wN pk; exact rfl) | (apply wD pk [] []; kernel_rfl; exact rfl; exact rfl) | exact Imp.one | exact Imp.same | refine Imp.left ?_ | exact ImpX.one | exact ImpX.same | exact ImpX.mk | refine ImpX.up ?_ | refine ImpX.old ?_ | (apply pwp_condC; simp only [cond_true, cond_false]) | (refine pwp_cond rfl (fun h => ?_) (fun h => ?_) <;> (try simp at h) <;> (first | done | (exfalso; omega) | skip)) | (refine pwp_ret ?_; refine ⟨_, _, _, rfl, Wk.refl _, StSub.refl _, ?_, rfl⟩; (first | rfl | skip)) | (intros; omega) | (intros; simp only [List.length_map]; omega)))
    have hpdA : (setD { da with sp := mset (kR r) bl da.sp } D2).map CD.pd = onDev a (setSp (kR r) (lessP ⟨r.lo, r.hi⟩ (spOf (openP o) a (kR r)))) (atP b (atP a (openP o))) := by
      rw [setD_pd (d' := { da with sp := mset (kR r) bl da.sp }) (dev := a) (f := setSp (kR r) (lessP ⟨r.lo, r.hi⟩ (spOf (openP o) a (kR r)))) hdeva (fun y hy e => by rw [nodup_eq hO2.held.devs hy hda2 (e.trans hdeva.symm), pd_setSp, hbl, hLa]), hpd2]
    have hpdB : (setD { db with sp := mset (kR r) (some (id', xb ++ [(⟨r.lo, r.hi⟩ : Sn)])) db.sp } (setD { da with sp := mset (kR r) bl da.sp } D2)).map CD.pd = onDev b (setSp (kR r) (spOf (openP o) b (kR r) ++ [⟨r.lo, r.hi⟩])) (onDev a (setSp (kR r) (lessP ⟨r.lo, r.hi⟩ (spOf (openP o) a (kR r)))) (atP b (atP a (openP o)))) := by
      rw [setD_pd (d' := { db with sp := mset (kR r) (some (id', xb ++ [(⟨r.lo, r.hi⟩ : Sn)])) db.sp }) (dev := b) (f := setSp (kR r) (spOf (openP o) b (kR r) ++ [⟨r.lo, r.hi⟩])) hdevb (fun y hy e => by rw [nodup_eq hs1.held.devs hy hdb3 (e.trans hdevb.symm), pd_setSp, ← hLb]; rfl), hpdA]
    have hcl := fin_pc hs2 hpdB
    apply ev_freezeMap 128
    · exact rfl
    · exact hs2.hm
    (try (apply wO pk; exact rfl)); (repeat' (first | exact All.nil | refine All.cons ?_ ?_ | (apply wC pk; exact rfl; exact rfl) | (apply wE pk; exact rfl; exact rfl) | (apply wX pk; exact rfl) | (apply wN pk; exact rfl) | (apply wDx pk; exact rfl; kernel_rfl; exact rfl; exact rfl) | exact Imp.one | exact Imp.same | refine Imp.left ?_ | exact ImpX.one | exact ImpX.same | exact ImpX.mk | refine ImpX.up ?_ | refine ImpX.old ?_ | (apply pwp_condC; simp only [cond_true, cond_false]) | (refine pwp_cond rfl (fun h => ?_) (fun h => ?_) <;> (try simp at h) <;> (first | done | (exfalso; omega) | skip)) | (refine pwp_ret ?_; refine ⟨_, _, _, rfl, Wk.refl _, StSub.refl _, ?_, rfl⟩; (first | rfl | skip)) | (apply ncA; exact rfl; exact rfl; exact rfl; rotate_left; exact rfl; exact rfl) | (apply ldR pk; exact rfl; exact rfl; rotate_left; exact rfl; (first | exact upd_same _ _ _ | assumption | (focus ((repeat (first | exact upd_same _ _ _ | assumption | refine (upd_ne (by assumption)).trans ?_)); done))); exact rfl; exact rfl) | (apply stR pk; exact rfl; exact rfl; (first | exact upd_same _ _ _ | assumption | (focus ((repeat (first | exact upd_same _ _ _ | assumption | refine (upd_ne (by assumption)).trans ?_)); done))); exact rfl; exact rfl) | (apply callP; exact rfl; exact rfl; (apply hcl <;> first | exact upd_same _ _ _ | assumption | omega | (first | exact upd_same _ _ _ | assumption | (focus ((repeat (first | exact upd_same _ _ _ | assumption | refine (upd_ne (by assumption)).trans ?_)); done)))); exact rfl; exact rfl; exact rfl; intro _ st' hR; obtain ⟨l, rfl, hcl2, hSe⟩ := hR) | (apply callP; exact rfl; exact rfl; (first | (apply fail_no_spec <;> first | exact upd_same _ _ _ | assumption | omega | (simp only [Array.size_setIfInBounds]; omega) | (first | exact upd_same _ _ _ | assumption | (focus ((repeat (first | exact upd_same _ _ _ | assumption | refine (upd_ne (by assumption)).trans ?_)); done))))); exact rfl; exact rfl; exact rfl; intro _ st' hR; (first | subst hR | obtain ⟨rfl, rfl⟩ := hR)) | (refine pwp_ret ?_; exact ⟨_, _, _, rfl, Wk.soft _, StSub.refl _, hSe, l, 0, rfl, hok l hcl2⟩) | (intros; omega) | (intros; simp only [List.length_map]; omega)))
  · (try (apply wO pk; exact rfl)); (repeat' (first | exact All.nil | refine All.cons ?_ ?_ | (apply wC pk; exact rfl; exact rfl) | (apply wE pk; exact rfl; exact rfl) | (apply wX pk; exact rfl) | (apply wN pk; exact rfl) | (apply wD pk [] []; kernel_rfl; exact rfl; exact rfl) | exact Imp.one | exact Imp.same | refine Imp.left ?_ | exact ImpX.one | exact ImpX.same | exact ImpX.mk | refine ImpX.up ?_ | refine ImpX.old ?_ | (apply pwp_condC; simp only [cond_true, cond_false]) | (refine pwp_cond rfl (fun h => ?_) (fun h => ?_) <;> (try simp at h) <;> (first | done | (exfalso; omega) | skip)) | (refine pwp_ret ?_; refine ⟨_, _, _, rfl, Wk.refl _, StSub.refl _, ?_, rfl⟩; (first | rfl | skip)) | (apply apV pk (f := Sn.cells) [(⟨r.lo, r.hi⟩ : Sn)] 16; exact rfl; exact rfl; exact rfl; exact rfl; exact rfl; exact rfl; exact rfl; exact rfl; exact rfl; (first | exact upd_same _ _ _ | assumption | (focus ((repeat (first | exact upd_same _ _ _ | assumption | refine (upd_ne (by assumption)).trans ?_)); done))); (first | omega | assumption | (focus (simp; done)) | (focus (simp; omega)) | (focus (simp at *; omega))); exact fun _ => rfl; exact fun _ => rfl; exact hB; (first | omega | assumption | (focus (simp; done)) | (focus (simp; omega)) | (focus (simp at *; omega))); (first | omega | assumption | (focus (simp; done)) | (focus (simp; omega)) | (focus (simp at *; omega))); exact rfl; intro id' hid') | (apply ap0 pk (f := Sn.cells) [(⟨r.lo, r.hi⟩ : Sn)] 16; exact rfl; exact rfl; exact rfl; exact rfl; exact rfl; exact rfl; exact rfl; exact rfl; exact rfl; exact rfl; exact fun _ => rfl; exact fun _ => rfl; exact hB; (first | omega | assumption | (focus (simp; done)) | (focus (simp; omega)) | (focus (simp at *; omega))); (first | omega | assumption | (focus (simp; done)) | (focus (simp; omega)) | (focus (simp at *; omega))); exact rfl; intro id' hid') | (apply meB pk Of.key (f := spF) (z := none) (k := kR r) (v0 := none); exact rfl; exact rfl; exact rfl; exact rfl; exact rfl; exact rfl; exact hm4; exact rfl; (rcases p1 with p1 | p1 <;> rw [p1] <;> rfl)) | (intros; omega) | (intros; simp only [List.length_map]; omega)))
    rw [p2] at hLb
    have hidS : (upd (upd S3 da.i1 (some (.map (ments Of.enc spF (mset (kR r) (shp bl) (spE da.sp)))))) db.i1 (some (.map (ments Of.enc spF (mput0 (kR r) none (spE db.sp)))))) id' = none := hid'
    have nid' : id' ≠ db.i1 := fun e => by rw [e, upd_same] at hidS; cases hidS
    rw [upd_ne nid', hS4] at hidS
    have hs2 := hs1.app hdb3 (kR r) [(⟨r.lo, r.hi⟩ : Sn)] (S1 := upd S4 db.i1 (some (.map (ments Of.enc spF (mput0 (kR r) none (spE db.sp)))))) hidS fun j hj hz => upd_ne hj
    rw [← hS4] at hs2
    apply esA pk Of.key (f := spF) (k := kR r) (z0 := none) (v := some (id', 1)); exact rfl; exact rfl; exact rfl; exact rfl; exact (upd_ne (Ne.symm nid')).trans (upd_same _ _ _); exact rfl
    (try (apply wO pk; exact rfl)); (repeat' (first | exact All.nil | refine All.cons ?_ ?_ | (apply wC pk; exact rfl; exact rfl) | (apply wE pk; exact rfl; exact rfl) | (apply wX pk; exact rfl) | (apply wN pk; exact rfl) | (apply wD pk [] []; kernel_rfl; exact rfl; exact rfl) | exact Imp.one | exact Imp.same | refine Imp.left ?_ | exact ImpX.one | exact ImpX.same | exact ImpX.mk | refine ImpX.up ?_ | refine ImpX.old ?_ | (apply pwp_condC; simp only [cond_true, cond_false]) | (refine pwp_cond rfl (fun h => ?_) (fun h => ?_) <;> (try simp at h) <;> (first | done | (exfalso; omega) | skip)) | (refine pwp_ret ?_; refine ⟨_, _, _, rfl, Wk.refl _, StSub.refl _, ?_, rfl⟩; (first | rfl | skip)) | (intros; omega) | (intros; simp only [List.length_map]; omega)))
    have hpdA : (setD { da with sp := mset (kR r) bl da.sp } D2).map CD.pd = onDev a (setSp (kR r) (lessP ⟨r.lo, r.hi⟩ (spOf (openP o) a (kR r)))) (atP b (atP a (openP o))) := by
      rw [setD_pd (d' := { da with sp := mset (kR r) bl da.sp }) (dev := a) (f := setSp (kR r) (lessP ⟨r.lo, r.hi⟩ (spOf (openP o) a (kR r)))) hdeva (fun y hy e => by rw [nodup_eq hO2.held.devs hy hda2 (e.trans hdeva.symm), pd_setSp, hbl, hLa]), hpd2]
    have hpdB : (setD { db with sp := mset (kR r) (some (id', [(⟨r.lo, r.hi⟩ : Sn)])) db.sp } (setD { da with sp := mset (kR r) bl da.sp } D2)).map CD.pd = onDev b (setSp (kR r) (spOf (openP o) b (kR r) ++ [⟨r.lo, r.hi⟩])) (onDev a (setSp (kR r) (lessP ⟨r.lo, r.hi⟩ (spOf (openP o) a (kR r)))) (atP b (atP a (openP o)))) := by
      rw [setD_pd (d' := { db with sp := mset (kR r) (some (id', [(⟨r.lo, r.hi⟩ : Sn)])) db.sp }) (dev := b) (f := setSp (kR r) (spOf (openP o) b (kR r) ++ [⟨r.lo, r.hi⟩])) hdevb (fun y hy e => by rw [nodup_eq hs1.held.devs hy hdb3 (e.trans hdevb.symm), pd_setSp, ← hLb]; rfl), hpdA]
    have hcl := fin_pc hs2 hpdB
    apply ev_freezeMap 128
    · exact rfl
    · exact hs2.hm
    (try (apply wO pk; exact rfl)); (repeat' (first | exact All.nil | refine All.cons ?_ ?_ | (apply wC pk; exact rfl; exact rfl) | (apply wE pk; exact rfl; exact rfl) | (apply wX pk; exact rfl) | (apply wN pk; exact rfl) | (apply wDx pk; exact rfl; kernel_rfl; exact rfl; exact rfl) | exact Imp.one | exact Imp.same | refine Imp.left ?_ | exact ImpX.one | exact ImpX.same | exact ImpX.mk | refine ImpX.up ?_ | refine ImpX.old ?_ | (apply pwp_condC; simp only [cond_true, cond_false]) | (refine pwp_cond rfl (fun h => ?_) (fun h => ?_) <;> (try simp at h) <;> (first | done | (exfalso; omega) | skip)) | (refine pwp_ret ?_; refine ⟨_, _, _, rfl, Wk.refl _, StSub.refl _, ?_, rfl⟩; (first | rfl | skip)) | (apply ncA; exact rfl; exact rfl; exact rfl; rotate_left; exact rfl; exact rfl) | (apply ldR pk; exact rfl; exact rfl; rotate_left; exact rfl; (first | exact upd_same _ _ _ | assumption | (focus ((repeat (first | exact upd_same _ _ _ | assumption | refine (upd_ne (by assumption)).trans ?_)); done))); exact rfl; exact rfl) | (apply stR pk; exact rfl; exact rfl; (first | exact upd_same _ _ _ | assumption | (focus ((repeat (first | exact upd_same _ _ _ | assumption | refine (upd_ne (by assumption)).trans ?_)); done))); exact rfl; exact rfl) | (apply callP; exact rfl; exact rfl; (apply hcl <;> first | exact upd_same _ _ _ | assumption | omega | (first | exact upd_same _ _ _ | assumption | (focus ((repeat (first | exact upd_same _ _ _ | assumption | refine (upd_ne (by assumption)).trans ?_)); done)))); exact rfl; exact rfl; exact rfl; intro _ st' hR; obtain ⟨l, rfl, hcl2, hSe⟩ := hR) | (apply callP; exact rfl; exact rfl; (first | (apply fail_no_spec <;> first | exact upd_same _ _ _ | assumption | omega | (simp only [Array.size_setIfInBounds]; omega) | (first | exact upd_same _ _ _ | assumption | (focus ((repeat (first | exact upd_same _ _ _ | assumption | refine (upd_ne (by assumption)).trans ?_)); done))))); exact rfl; exact rfl; exact rfl; intro _ st' hR; (first | subst hR | obtain ⟨rfl, rfl⟩ := hR)) | (refine pwp_ret ?_; exact ⟨_, _, _, rfl, Wk.soft _, StSub.refl _, hSe, l, 0, rfl, hok l hcl2⟩) | (intros; omega) | (intros; simp only [List.length_map]; omega)))
end Go.Proofs.Ytbcdgocepnkpeaa
namespace Go.Proofs.Ytbcdgocepnkpeaa
open Go Go.Abs
theorem hand_pc (s : Sc) (hs : FewS s) (o : List Ow) (ho : FewO o) (a b : Int) (r : Rt) (st : Store) : PC Try.prog 15 [.agg (scC s), .seq (o.map Ow.cells), (PV.val (Value.int .i64 (a))), (PV.val (Value.int .i64 (b))), .agg r.cells] st fun q S => S = st ∧ ∃ l e, q = .tup [.seq (l.map Ow.cells), (PV.val (Value.int .i64 (e)))] ∧ HandOf s o a b r l e := by
  by_cases h : HandArg s o a b ∧ rightE s r = 0 ∧ holdsP s o a r = true
  · obtain ⟨h1, h2, h3⟩ := h
    by_cases hk : r.kind = 3
    · exact hand3_pc s hs o ho a b r st h1 h2 h3 hk
    · exact handS_pc s hs o ho a b r st h1 h2 h3 hk
  · exact hand0_pc s hs o ho a b r st h
end Go.Proofs.Ytbcdgocepnkpeaa
