import Derived.Test.YtbcdgocepnkpeaaRtOpen
set_option linter.unusedSimpArgs false
set_option linter.unusedVariables false
namespace Go.Proofs.Ytbcdgocepnkpeaa
open Go Go.Abs
attribute [local irreducible] Ev PWp
set_option maxRecDepth 10000
set_option maxHeartbeats 4000000
section
variable {P : Program} {tt : TT} {l : List Oper} {d : Md} {r : List Oper} {s : St} {Kt : St → Prop} {t : Nat} {op : Op} {ty : TypeId} {pos : String} {after : Array Edge} {gd : Option (Nat × Bool)} {K V : Type} [DecidableEq K] {kt : TypeId} {enc : K → Value} {rep : K → PV} {f : V → PV}
theorem lkB (pk : Pk P tt) (hk : KeyOK P kt enc rep) {T e : TypeId} {x y : Operand} {ok w : Bool} {id : Nat} {z : PV} {es : List (K × V)} {k : K} {v0 : Option V} (hw : wantA l ⟨some t, .lookup T x y ok, ty, pos, after, gd⟩ s = some w) (hx : opd s x = some (.mref id)) (hy : opd s y = some (rep k)) (hT : tiK tt T = some (.map kt e)) (hz : pzv tt e = some z) (hf : All (flagsI s w [x, y] [])) (hd : Nat.blt t s.n = true)
    (hst : s.st id = some (.map (ments enc f es))) (ht : tagR d l r = true) (hv : mget k es = v0) (kk : Ev P l d r (s.put (some t) w (.pv (lookPV z f ok v0))) Kt) : Ev P l d (⟨some t, .lookup T x y ok, ty, pos, after, gd⟩ :: r) s Kt :=
  lkM pk hk hw hx hy hT hz hf hd hst ht (by rw [hv]; exact kk)
end
def atP (dev : Int) (L : List PD) : List PD := if dev ∈ L.map (·.dev) then L else L ++ [⟨dev, [], []⟩]
theorem outE_get {st S : Store} {D : List CD} (h : HeldS st S D) {d : CD} (hd : d ∈ D) : mget d.dev (outE D) = some (d.i1, d.i2) := by
  refine mget_of ?_ (List.mem_map.2 ⟨d, hd, rfl⟩)
  unfold outE; rw [List.map_map]; exact h.devs
theorem outE_none {D : List CD} {dev : Int} (h : dev ∉ D.map (·.dev)) : mget dev (outE D) = none := by
  induction D with
  | nil => rfl
  | cons d D ih =>
    simp only [List.map_cons, List.mem_cons, not_or] at h
    show mget dev ((d.dev, (d.i1, d.i2)) :: outE D) = none
    rw [mget, if_neg h.1]; exact ih h.2
theorem pd_devs (D : List CD) : (D.map CD.pd).map (·.dev) = D.map (·.dev) := by rw [List.map_map]; rfl
theorem OpS.st0 {st S : Store} {idm : Nat} {D E : List CD} (h : OpS st S idm D E) {j : Nat} (hj : S j = none) : st j = none := by
  cases hs : st j with
  | none => rfl
  | some o => have := h.held.old j (by rw [hs]; simp); rw [hj, hs] at this; cases this
theorem at_pc {st S : Store} {idm : Nat} {D : List CD} (hO : OpS st S idm D D) (dev : Int) : PC Try.prog 23 [.mref idm, (PV.val (Value.int .i64 (dev)))] S fun r S' => ∃ D' d, OpS st S' idm D' D' ∧ d ∈ D' ∧ d.dev = dev ∧ r = .agg [.mref d.i1, .mref d.i2] ∧ D'.map CD.pd = atP dev (D.map CD.pd) ∧ (∀ x ∈ D, x ∈ D') := by
  have hm := hO.hm
  by_cases hd : dev ∈ D.map (·.dev)
  · obtain ⟨d, hdm, rfl⟩ := List.mem_map.1 hd
    have hg := outE_get hO.held hdm
    have hat : D.map CD.pd = atP d.dev (D.map CD.pd) := by rw [atP, if_pos (by rw [pd_devs]; exact hd)]
    refine pc_of tt_ok Try.func23 (by kernel_rfl) rfl rfl rfl rfl ?_
    (try (apply wO pk; exact rfl)); (repeat' (first | exact All.nil | refine All.cons ?_ ?_ | (apply wC pk; exact rfl; exact rfl) | (apply wE pk; exact rfl; exact rfl) | (apply wX pk; exact rfl) | (apply wN pk; exact rfl) | (apply wDx pk; exact rfl; kernel_rfl; exact rfl; exact rfl) | exact Imp.one | exact Imp.same | refine Imp.left ?_ | exact ImpX.one | exact ImpX.same | exact ImpX.mk | refine ImpX.up ?_ | refine ImpX.old ?_ | (apply pwp_condC; simp only [cond_true, cond_false]) | (refine pwp_cond rfl (fun h => ?_) (fun h => ?_) <;> (try simp at h) <;> (first | done | (exfalso; omega) | skip)) | ((try refine pwp_ret ?_); (first | (refine ⟨_, _, _, rfl, Wk.refl _, StSub.refl _, ?_⟩; (exact ⟨D, d, hO, hdm, rfl, rfl, hat, fun _ h => h⟩); done) | (refine ⟨_, _, ?zs, rfl, Wk.refl _, ?zh, ?zr⟩; (case zh => (refine stsub_over ?_ (by assumption); (repeat refine stsub_over ?_ (by assumption)); exact StSub.refl _)); (case zr => (exact ⟨D, d, hO, hdm, rfl, rfl, hat, fun _ h => h⟩))) | refine ⟨_, _, _, rfl, Wk.refl _, StSub.refl _, ?_⟩)) | (apply ncA; exact rfl; exact rfl; exact rfl; rotate_left; exact rfl; exact rfl) | (apply ldR pk; exact rfl; exact rfl; rotate_left; exact rfl; (first | exact upd_same _ _ _ | assumption | (focus ((repeat (first | exact upd_same _ _ _ | assumption | refine (upd_ne (by assumption)).trans ?_)); done))); exact rfl; exact rfl) | (apply stR pk; exact rfl; exact rfl; (first | exact upd_same _ _ _ | assumption | (focus ((repeat (first | exact upd_same _ _ _ | assumption | refine (upd_ne (by assumption)).trans ?_)); done))); exact rfl; exact rfl) | (apply lkB pk intKey (f := heldF) (k := d.dev) (v0 := some (d.i1, d.i2)); exact rfl; exact rfl; exact rfl; exact rfl; exact rfl; rotate_left; exact rfl; exact hm; exact rfl; exact hg) | (intros; omega) | (intros; simp only [List.length_map]; omega)))
  · have hg := outE_none hd
    have hat : D.map CD.pd ++ [⟨dev, [], []⟩] = atP dev (D.map CD.pd) := by rw [atP, if_neg (by rw [pd_devs]; exact hd)]
    refine pc_of tt_ok Try.func23 (by kernel_rfl) rfl rfl rfl rfl ?_
    (try (apply wO pk; exact rfl)); (repeat' (first | exact All.nil | refine All.cons ?_ ?_ | (apply wC pk; exact rfl; exact rfl) | (apply wE pk; exact rfl; exact rfl) | (apply wX pk; exact rfl) | (apply wN pk; exact rfl) | (apply wD pk [] []; kernel_rfl; exact rfl; exact rfl) | exact Imp.one | exact Imp.same | refine Imp.left ?_ | exact ImpX.one | exact ImpX.same | exact ImpX.mk | refine ImpX.up ?_ | refine ImpX.old ?_ | (apply pwp_condC; simp only [cond_true, cond_false]) | (refine pwp_cond rfl (fun h => ?_) (fun h => ?_) <;> (try simp at h) <;> (first | done | (exfalso; omega) | skip)) | (refine pwp_ret ?_; refine ⟨_, _, _, rfl, Wk.refl _, StSub.refl _, ?_, rfl⟩; (first | rfl | skip)) | (apply lkB pk intKey (f := heldF) (k := dev) (v0 := none); exact rfl; exact rfl; exact rfl; exact rfl; exact rfl; rotate_left; exact rfl; exact hm; exact rfl; exact hg) | (intros; omega) | (intros; simp only [List.length_map]; omega)))
    refine mkM (enc := Of.enc) (f := spF) rfl (fun i1 h1 => ?_)
    have h1 : S i1 = none := h1
    (try (apply wO pk; exact rfl)); (repeat' (first | exact All.nil | refine All.cons ?_ ?_ | (apply wC pk; exact rfl; exact rfl) | (apply wE pk; exact rfl; exact rfl) | (apply wX pk; exact rfl) | (apply wN pk; exact rfl) | (apply wD pk [] []; kernel_rfl; exact rfl; exact rfl) | exact Imp.one | exact Imp.same | refine Imp.left ?_ | exact ImpX.one | exact ImpX.same | exact ImpX.mk | refine ImpX.up ?_ | refine ImpX.old ?_ | (apply pwp_condC; simp only [cond_true, cond_false]) | (refine pwp_cond rfl (fun h => ?_) (fun h => ?_) <;> (try simp at h) <;> (first | done | (exfalso; omega) | skip)) | (refine pwp_ret ?_; refine ⟨_, _, _, rfl, Wk.refl _, StSub.refl _, ?_, rfl⟩; (first | rfl | skip)) | (intros; omega) | (intros; simp only [List.length_map]; omega)))
    refine mkM (enc := Of.enc) (f := intF) rfl (fun i2 h2 => ?_)
    have h2 : upd S i1 (some (.map (ments Of.enc spF []))) i2 = none := h2
    have n12 : i1 ≠ i2 := fun e => by rw [← e, upd_same] at h2; cases h2
    rw [upd_ne (Ne.symm n12)] at h2
    have m1 : idm ≠ i1 := fun e => by rw [e, h1] at hm; cases hm
    have m2 : idm ≠ i2 := fun e => by rw [e, h2] at hm; cases hm
    have hadd := hO.add (d := ⟨dev, i1, i2, [], []⟩) (DevS.empty (S := S) (dev := dev) (hO.st0 h1) (hO.st0 h2) n12) hd (fun j hj => by
      simp only [CD.ids, spI, List.filterMap_nil, List.mem_cons, List.not_mem_nil, or_false] at hj
      rcases hj with rfl | rfl
      · exact h1
      · exact h2) (fun j hj => by rw [upd_ne (fun e => hj (by rw [e]; exact h2)), upd_ne (fun e => hj (by rw [e]; exact h1))])
    have hm2 : upd (upd S i1 (some (.map (ments Of.enc spF [])))) i2 (some (.map (ments Of.enc intF []))) idm = some (.map (ments Ie heldF (outE D))) := by rw [upd_ne m2, upd_ne m1]; exact hm
    have hfin : OpS st (upd (upd (upd S i1 (some (.map (ments Of.enc spF [])))) i2 (some (.map (ments Of.enc intF [])))) idm (some (.map (ments Ie heldF (mset dev (i1, i2) (outE D)))))) idm (D ++ [⟨dev, i1, i2, [], []⟩]) (D ++ [⟨dev, i1, i2, [], []⟩]) := hadd.mono (by
      rw [upd_same, mset_new (by unfold outE; rw [List.map_map]; exact hd)]
      unfold outE
      rw [List.map_append, List.map_cons, List.map_nil]) fun j hj => upd_ne hj
    have hg2 : mget dev (mset dev (i1, i2) (outE D)) = some (i1, i2) := by rw [mget_mset, if_pos rfl]
    (try (apply wO pk; exact rfl)); (repeat' (first | exact All.nil | refine All.cons ?_ ?_ | (apply wC pk; exact rfl; exact rfl) | (apply wE pk; exact rfl; exact rfl) | (apply wX pk; exact rfl) | (apply wN pk; exact rfl) | (apply wDx pk; exact rfl; kernel_rfl; exact rfl; exact rfl) | exact Imp.one | exact Imp.same | refine Imp.left ?_ | exact ImpX.one | exact ImpX.same | exact ImpX.mk | refine ImpX.up ?_ | refine ImpX.old ?_ | (apply pwp_condC; simp only [cond_true, cond_false]) | (refine pwp_cond rfl (fun h => ?_) (fun h => ?_) <;> (try simp at h) <;> (first | done | (exfalso; omega) | skip)) | ((try refine pwp_ret ?_); (first | (refine ⟨_, _, _, rfl, Wk.refl _, StSub.refl _, ?_⟩; (exact ⟨_, ⟨dev, i1, i2, [], []⟩, hfin, by simp, rfl, rfl, by rw [← hat, List.map_append]; rfl, fun x hx => List.mem_append_left _ hx⟩); done) | (refine ⟨_, _, ?zs, rfl, Wk.refl _, ?zh, ?zr⟩; (case zh => (refine stsub_over ?_ (by assumption); (repeat refine stsub_over ?_ (by assumption)); exact StSub.refl _)); (case zr => (exact ⟨_, ⟨dev, i1, i2, [], []⟩, hfin, by simp, rfl, rfl, by rw [← hat, List.map_append]; rfl, fun x hx => List.mem_append_left _ hx⟩))) | refine ⟨_, _, _, rfl, Wk.refl _, StSub.refl _, ?_⟩)) | (apply ncA; exact rfl; exact rfl; exact rfl; rotate_left; exact rfl; exact rfl) | (apply ldR pk; exact rfl; exact rfl; rotate_left; exact rfl; (first | exact upd_same _ _ _ | assumption | (focus ((repeat (first | exact upd_same _ _ _ | assumption | refine (upd_ne (by assumption)).trans ?_)); done))); exact rfl; exact rfl) | (apply stR pk; exact rfl; exact rfl; (first | exact upd_same _ _ _ | assumption | (focus ((repeat (first | exact upd_same _ _ _ | assumption | refine (upd_ne (by assumption)).trans ?_)); done))); exact rfl; exact rfl) | (apply muA pk intKey (f := heldF) (k := dev) (v := (i1, i2)); (first | exact .inl rfl | exact .inr rfl); exact rfl; exact rfl; exact rfl; exact rfl; exact rfl; exact hm2; exact rfl) | (apply lkB pk intKey (f := heldF) (k := dev) (v0 := some (i1, i2)); exact rfl; exact rfl; exact rfl; exact rfl; exact rfl; rotate_left; exact rfl; exact upd_same _ _ _; exact rfl; exact hg2) | (intros; omega) | (intros; simp only [List.length_map]; omega)))
end Go.Proofs.Ytbcdgocepnkpeaa
