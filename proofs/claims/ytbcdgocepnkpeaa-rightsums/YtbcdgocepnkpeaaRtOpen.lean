import Derived.Test.YtbcdgocepnkpeaaRtHeld
set_option linter.unusedSimpArgs false
set_option linter.unusedVariables false
namespace Go.Proofs.Ytbcdgocepnkpeaa
open Go Go.Abs
attribute [local irreducible] Ev PWp
set_option maxRecDepth 10000
set_option maxHeartbeats 4000000
structure PD where
  dev : Int
  sp : List (Of × List Sn)
  am : List (Of × Int)
def lst (v : Option (Nat × List Sn)) : List Sn := match v with | none => [] | some x => x.2
def CD.pd (d : CD) : PD := ⟨d.dev, d.sp.map fun e => (e.1, lst e.2), d.am⟩
def keyA (r : Rt) : Of := ⟨r.kind, r.table, r.col, r.lo⟩
def keyS (r : Rt) : Of := ⟨r.kind, r.table, r.col, 0⟩
def addR (d : PD) (r : Rt) : PD := if r.kind = 3 then { d with am := mset (keyA r) r.amt d.am } else { d with sp := mset (keyS r) ((mget (keyS r) d.sp).getD [] ++ [⟨r.lo, r.hi⟩]) d.sp }
def ofOw (o : Ow) : PD := o.rights.foldl addR ⟨o.dev, [], []⟩
def openP (l : List Ow) : List PD := l.map ofOw
def outE (D : List CD) : List (Int × (Nat × Nat)) := D.map fun d => (d.dev, (d.i1, d.i2))
structure OpS (st S : Store) (idm : Nat) (D E : List CD) : Prop where
  held : HeldS st S D
  hm : S idm = some (.map (ments Ie heldF (outE E)))
  fm : st idm = none
  out : ∀ d ∈ D, idm ∉ d.ids
theorem OpS.set {st S S' : Store} {idm : Nat} {D E : List CD} (h : OpS st S idm D E) {d d' : CD} (hd : d ∈ D) (hdev : d'.dev = d.dev) (hd' : DevS st S' d') (hids : ∀ j ∈ d'.ids, j ∈ d.ids ∨ S j = none) (hS : ∀ j, S j ≠ none → j ∉ d.ids → S' j = S j) : OpS st S' idm (setD d' D) E := by
  refine ⟨h.held.set hd hdev hd' hids hS, (hS idm (by rw [h.hm]; simp) (h.out d hd)).trans h.hm, h.fm, fun x hx q => ?_⟩
  obtain ⟨y, hy, rfl⟩ := List.mem_map.1 hx
  by_cases e : y.dev = d'.dev
  · simp only [if_pos e] at q
    rcases hids _ q with q | q
    · exact h.out d hd q
    · rw [h.hm] at q; cases q
  · simp only [if_neg e] at q; exact h.out y hy q
theorem OpS.mono {st S S' : Store} {idm : Nat} {D E : List CD} (h : OpS st S idm D E) {E' : List CD} (hE : S' idm = some (.map (ments Ie heldF (outE E')))) (hS : ∀ j, j ≠ idm → S' j = S j) : OpS st S' idm D E' :=
  ⟨⟨fun j hj => by rw [hS j (fun e => hj (e ▸ h.fm))]; exact h.held.old j hj, fun d hd => (h.held.dev d hd).congr fun j hj => hS j fun e => h.out d hd (e ▸ hj), h.held.apart, h.held.devs⟩, hE, h.fm, h.out⟩
theorem OpS.add {st S S' : Store} {idm : Nat} {D E : List CD} (h : OpS st S idm D E) {d : CD} (hd : DevS st S' d) (hdev : d.dev ∉ D.map (·.dev)) (hids : ∀ j ∈ d.ids, S j = none) (hS : ∀ j, S j ≠ none → S' j = S j) : OpS st S' idm (D ++ [d]) E :=
  ⟨h.held.add hd hdev hids hS, (hS idm (by rw [h.hm]; simp)).trans h.hm, h.fm, fun x hx q => by
    rcases List.mem_append.1 hx with hx | hx
    · exact h.out x hx q
    · rw [List.mem_singleton.1 hx] at q
      have := hids _ q
      rw [h.hm] at this; cases this⟩
theorem setD_last {D : List CD} {d d' : CD} (hdev : d'.dev = d.dev) (hn : d.dev ∉ D.map (·.dev)) : setD d' (D ++ [d]) = D ++ [d'] := by
  unfold setD
  rw [List.map_append, List.map_cons, List.map_nil, if_pos hdev.symm]
  congr 1
  refine (List.map_congr_left fun x hx => ?_).trans (List.map_id _)
  rw [if_neg fun e => hn (List.mem_map.2 ⟨x, hx, e.trans hdev⟩)]; rfl
theorem DevS.empty {st S : Store} {dev : Int} {i1 i2 : Nat} (h1 : st i1 = none) (h2 : st i2 = none) (hne : i1 ≠ i2) : DevS st (upd (upd S i1 (some (.map (ments Of.enc spF [])))) i2 (some (.map (ments Of.enc intF [])))) ⟨dev, i1, i2, [], []⟩ :=
  ⟨(upd_ne hne).trans (upd_same _ _ _), upd_same _ _ _, fun _ _ _ h => (by cases h), List.nodup_nil, List.nodup_nil, by simp [CD.ids, spI, hne], fun j hj => by
    simp only [CD.ids, spI, List.filterMap_nil, List.mem_cons, List.not_mem_nil, or_false] at hj
    rcases hj with rfl | rfl
    · exact h1
    · exact h2⟩
theorem spE_get (k : Of) (l : List (Of × Option (Nat × List Sn))) : mget k (spE l) = (mget k l).map shp := mget_map shp k l
theorem pd_get (k : Of) (l : List (Of × Option (Nat × List Sn))) : mget k (l.map fun e => (e.1, lst e.2)) = (mget k l).map lst := mget_map lst k l
theorem bytesS : Try.prog.bytesOf 80 = 16 := by kernel_rfl
theorem mget_mset {K V : Type} [DecidableEq K] (k k' : K) (v : V) : ∀ (l : List (K × V)), mget k' (mset k v l) = if k' = k then some v else mget k' l
  | [] => by simp only [mset, mget]
  | e :: l => by
    have ih := mget_mset k k' v l
    simp only [mset]
    split
    · rename_i h; simp only [mget]; split <;> simp_all
    · rename_i h; simp only [mget, ih]; split
      · rename_i h2; rw [if_neg (fun e => h (by rw [← e, h2]))]
      · rfl
theorem mset_new {K V : Type} [DecidableEq K] {k : K} {v : V} : ∀ {l : List (K × V)}, k ∉ l.map (·.1) → mset k v l = l ++ [(k, v)]
  | [], _ => rfl
  | e :: l, h => by
    simp only [List.map_cons, List.mem_cons, not_or] at h
    simp only [mset, if_neg h.1, mset_new h.2, List.cons_append]
theorem spGet (k : Of) (l : List (Of × Option (Nat × List Sn))) : (∃ id x, mget k l = some (some (id, x)) ∧ mget k (spE l) = some (some (id, x.length))) ∨ (mget k (spE l) = none ∨ mget k (spE l) = some none) ∧ (mget k (l.map fun e => (e.1, lst e.2))).getD [] = [] ∧ ∀ x, mget k l ≠ some (some x) := by
  rw [spE_get, pd_get]
  cases h : mget k l with
  | none => exact .inr ⟨.inl rfl, rfl, fun x e => by cases e⟩
  | some v =>
    cases v with
    | none => exact .inr ⟨.inr rfl, rfl, fun x e => by cases e⟩
    | some x => exact .inl ⟨x.1, x.2, rfl, rfl⟩
section
variable {P : Program} {tt : TT} {l : List Oper} {d : Md} {r : List Oper} {s : St} {Kt : St → Prop} {t : Nat} {op : Op} {ty : TypeId} {pos : String} {after : Array Edge} {K V : Type} [DecidableEq K] {kt : TypeId} {enc : K → Value} {rep : K → PV} {f : V → PV}
theorem meB (pk : Pk P tt) (hk : KeyOK P kt enc rep) {T e : TypeId} {m y : Operand} {id : Nat} {es : List (K × V)} {k : K} {z v0 : V} (hm : opd s m = some (.mref id)) (hy : opd s y = some (rep k)) (hT : tiK tt T = some (.map kt e)) (hz : pzv tt e = some (f z)) (hf : flagsB s [m, y] = true) (hd : Nat.blt t s.n = true)
    (hst : s.st id = some (.map (ments enc f es))) (ht : tagZ d l r = true) (hv : (mget k es).getD z = v0) (kk : Ev P l d r ((s.sst (upd s.st id (some (.map (ments enc f (mput0 k z es)))))).pv t (.tup [f v0, .val (.int .i64 (mplace k es : Nat))])) Kt) : Ev P l d (⟨some t, .mapEntry T m y, ty, pos, after, none⟩ :: r) s Kt :=
  meA pk hk hm hy hT hz hf hd hst ht (by rw [hv]; exact kk)
end
theorem open_pc (st : Store) (l : List Ow) (hl : FewO l) (hn : (l.map (·.dev)).Nodup) : PC Try.prog 24 [.seq (l.map Ow.cells)] st fun r S => ∃ idm D, r = .mref idm ∧ OpS st S idm D D ∧ D.map CD.pd = openP l := by
  have hlen := hl.len
  have hB := bytesS
  refine pc_of tt_ok Try.func24 (by kernel_rfl) rfl rfl rfl rfl ?_
  (try (apply wO pk; exact rfl)); (repeat' (first | exact All.nil | refine All.cons ?_ ?_ | (apply wC pk; exact rfl; exact rfl) | (apply wE pk; exact rfl; exact rfl) | (apply wX pk; exact rfl) | (apply wN pk; exact rfl) | (apply wD pk [] []; kernel_rfl; exact rfl; exact rfl) | exact Imp.one | exact Imp.same | refine Imp.left ?_ | exact ImpX.one | exact ImpX.same | exact ImpX.mk | refine ImpX.up ?_ | refine ImpX.old ?_ | (apply pwp_condC; simp only [cond_true, cond_false]) | (refine pwp_cond rfl (fun h => ?_) (fun h => ?_) <;> (try simp at h) <;> (first | done | (exfalso; omega) | skip)) | (refine pwp_ret ?_; refine ⟨_, _, _, rfl, Wk.refl _, StSub.refl _, ?_, rfl⟩; (first | rfl | skip)) | (intros; omega) | (intros; simp only [List.length_map]; omega)))
  refine mkM (enc := Ie) (f := heldF) rfl (fun idm hidm => ?_)
  have hidm : st idm = none := hidm
  (try (apply wO pk; exact rfl)); (repeat' (first | exact All.nil | refine All.cons ?_ ?_ | (apply wC pk; exact rfl; exact rfl) | (apply wE pk; exact rfl; exact rfl) | (apply wX pk; exact rfl) | (apply wN pk; exact rfl) | (apply wD pk [] []; kernel_rfl; exact rfl; exact rfl) | exact Imp.one | exact Imp.same | refine Imp.left ?_ | exact ImpX.one | exact ImpX.same | exact ImpX.mk | refine ImpX.up ?_ | refine ImpX.old ?_ | (apply pwp_condC; simp only [cond_true, cond_false]) | (refine pwp_cond rfl (fun h => ?_) (fun h => ?_) <;> (try simp at h) <;> (first | done | (exfalso; omega) | skip)) | (refine pwp_ret ?_; refine ⟨_, _, _, rfl, Wk.refl _, StSub.refl _, ?_, rfl⟩; (first | rfl | skip)) | (intros; omega) | (intros; simp only [List.length_map]; omega)))
  refine pwp_loop (X := { x : Nat × Store × List CD // x.1 ≤ l.length ∧ OpS st x.2.1 idm x.2.2 x.2.2 ∧ x.2.2.map CD.pd = openP (l.take x.1) }) (fun i => (((((St.nil 70 (i.1.2.1)).pv 3 (.mref idm)).pv 11 (.seq (l.map Ow.cells))).pv 12 ((PV.val (Value.int .i64 ((l.length : Nat)))))).pv 13 ((PV.val (Value.int .i64 ((i.1.1 : Nat))))))) (fun i => l.length - i.1.1) ⟨(0, upd st idm (some (.map (ments Ie heldF []))), []), by simp, ⟨⟨fun j hj => upd_ne fun e => hj (e ▸ hidm), fun _ h => (by cases h), List.Pairwise.nil, List.nodup_nil⟩, upd_same _ _ _, hidm, fun _ h => by cases h⟩, rfl⟩ ?_ (fun i => ?_)
  · (first | exact Sub.nil _ _ _ (StSub.refl _) rfl | ((repeat (first | refine Sub.pv ?_ rfl | refine Sub.var ?_ rfl rfl | refine Sub.pv' ?_ rfl (by simp) | refine Sub.var' ?_ rfl rfl (by simp))); (first | exact Sub.nil _ _ _ (StSub.refl _) rfl | exact Sub.nil _ _ _ (stsub_swap (by assumption)) rfl | exact Sub.nil _ _ _ (stsub_eq (by first | rfl | exact upd_eta (by assumption) | ((simp only [St.pv, St.put, St.sst, St.setv, St.nil, St.var, upd_upd]); first | done | rfl))) rfl | (refine Sub.nil _ _ _ (stsub_eq ?_) rfl; (simp only [St.pv, St.put, St.sst, St.setv, St.nil, St.var, upd_upd]); (rw [upd4 (by assumption)]); first | done | rfl))))
  obtain ⟨⟨i, S, D⟩, hi, hO, hpd⟩ := i
  simp only at hi hO hpd
  dsimp only
  by_cases hend : l.length ≤ i
  · have e1 : l.take i = l := List.take_of_length_le hend
    rw [e1] at hpd
    (try (apply wO pk; exact rfl)); (repeat' (first | exact All.nil | refine All.cons ?_ ?_ | (apply wC pk; exact rfl; exact rfl) | (apply wE pk; exact rfl; exact rfl) | (apply wX pk; exact rfl) | (apply wN pk; exact rfl) | (apply wDx pk; exact rfl; kernel_rfl; exact rfl; exact rfl) | exact Imp.one | exact Imp.same | refine Imp.left ?_ | exact ImpX.one | exact ImpX.same | exact ImpX.mk | refine ImpX.up ?_ | refine ImpX.old ?_ | (apply pwp_condC; simp only [cond_true, cond_false]) | (refine pwp_cond rfl (fun h => ?_) (fun h => ?_) <;> (try simp at h) <;> (first | done | (exfalso; omega) | skip)) | ((try refine pwp_ret ?_); (first | (refine ⟨_, _, _, rfl, Wk.refl _, StSub.refl _, ?_⟩; (exact ⟨idm, D, rfl, hO, hpd⟩); done) | (refine ⟨_, _, ?zs, rfl, Wk.refl _, ?zh, ?zr⟩; (case zh => (refine stsub_over ?_ (by assumption); (repeat refine stsub_over ?_ (by assumption)); exact StSub.refl _)); (case zr => (exact ⟨idm, D, rfl, hO, hpd⟩))) | refine ⟨_, _, _, rfl, Wk.refl _, StSub.refl _, ?_⟩)) | (apply ncA; exact rfl; exact rfl; exact rfl; rotate_left; exact rfl; exact rfl) | (apply ldR pk; exact rfl; exact rfl; rotate_left; exact rfl; (first | exact upd_same _ _ _ | assumption | (focus ((repeat (first | exact upd_same _ _ _ | assumption | refine (upd_ne (by assumption)).trans ?_)); done))); exact rfl; exact rfl) | (apply stR pk; exact rfl; exact rfl; (first | exact upd_same _ _ _ | assumption | (focus ((repeat (first | exact upd_same _ _ _ | assumption | refine (upd_ne (by assumption)).trans ?_)); done))); exact rfl; exact rfl) | (intros; omega) | (intros; simp only [List.length_map]; omega)))
  have hlt : i < l.length := by omega
  have hol := hl.rts l[i] (List.getElem_mem hlt)
  have hdev : l[i].dev ∉ D.map (·.dev) := fun q => by
    have e : D.map (·.dev) = (l.take i).map (·.dev) := by
      have := congrArg (List.map PD.dev) hpd
      rw [List.map_map] at this
      refine this.trans ?_
      unfold openP
      rw [List.map_map]
      refine List.map_congr_left fun o _ => ?_
      have hf : ∀ (rs : List Rt) (d : PD), (rs.foldl addR d).dev = d.dev := fun rs => by
        induction rs with
        | nil => intro d; rfl
        | cons r rs ih => intro d; rw [List.foldl_cons, ih]; unfold addR; split <;> rfl
      exact hf o.rights _
    rw [e] at q
    obtain ⟨o, ho, he⟩ := List.mem_map.1 q
    obtain ⟨j, hj, rfl⟩ := List.getElem_of_mem ho
    have hj' : j < i := by rw [List.length_take] at hj; omega
    rw [List.getElem_take] at he
    have := (List.pairwise_iff_getElem.1 hn) j i (by simp; omega) (by simpa using hlt) hj'
    simp only [List.getElem_map] at this
    exact this he
  (try (apply wO pk; exact rfl)); (repeat' (first | exact All.nil | refine All.cons ?_ ?_ | (apply wC pk; exact rfl; exact rfl) | (apply wE pk; exact rfl; exact rfl) | (apply wX pk; exact rfl) | (apply wN pk; exact rfl) | (apply wD pk [] []; kernel_rfl; exact rfl; exact rfl) | exact Imp.one | exact Imp.same | refine Imp.left ?_ | exact ImpX.one | exact ImpX.same | exact ImpX.mk | refine ImpX.up ?_ | refine ImpX.old ?_ | (apply pwp_condC; simp only [cond_true, cond_false]) | (refine pwp_cond rfl (fun h => ?_) (fun h => ?_) <;> (try simp at h) <;> (first | done | (exfalso; omega) | skip)) | (refine pwp_ret ?_; refine ⟨_, _, _, rfl, Wk.refl _, StSub.refl _, ?_, rfl⟩; (first | rfl | skip)) | (apply idxS pk; exact rfl; exact rfl; exact rfl; exact rfl; exact rfl; exact rfl; rotate_left; exact rfl; (intro _; exact rfl); (intro _; apply get_map <;> omega); (intro _; exact rfl); exact rfl) | (intros; omega) | (intros; simp only [List.length_map]; omega)))
  refine mkM (enc := Of.enc) (f := spF) rfl (fun i1 h1 => ?_)
  have h1 : S i1 = none := h1
  (try (apply wO pk; exact rfl)); (repeat' (first | exact All.nil | refine All.cons ?_ ?_ | (apply wC pk; exact rfl; exact rfl) | (apply wE pk; exact rfl; exact rfl) | (apply wX pk; exact rfl) | (apply wN pk; exact rfl) | (apply wD pk [] []; kernel_rfl; exact rfl; exact rfl) | exact Imp.one | exact Imp.same | refine Imp.left ?_ | exact ImpX.one | exact ImpX.same | exact ImpX.mk | refine ImpX.up ?_ | refine ImpX.old ?_ | (apply pwp_condC; simp only [cond_true, cond_false]) | (refine pwp_cond rfl (fun h => ?_) (fun h => ?_) <;> (try simp at h) <;> (first | done | (exfalso; omega) | skip)) | (refine pwp_ret ?_; refine ⟨_, _, _, rfl, Wk.refl _, StSub.refl _, ?_, rfl⟩; (first | rfl | skip)) | (intros; omega) | (intros; simp only [List.length_map]; omega)))
  refine mkM (enc := Of.enc) (f := intF) rfl (fun i2 h2 => ?_)
  have h2 : upd S i1 (some (.map (ments Of.enc spF []))) i2 = none := h2
  have n12 : i1 ≠ i2 := fun e => by rw [← e, upd_same] at h2; cases h2
  rw [upd_ne (Ne.symm n12)] at h2
  have hst0 : ∀ j, S j = none → st j = none := fun j hj => by
    cases hs : st j with
    | none => rfl
    | some o => have := hO.held.old j (by rw [hs]; simp); rw [hj, hs] at this; cases this
  (try (apply wO pk; exact rfl)); (repeat' (first | exact All.nil | refine All.cons ?_ ?_ | (apply wC pk; exact rfl; exact rfl) | (apply wE pk; exact rfl; exact rfl) | (apply wX pk; exact rfl) | (apply wN pk; exact rfl) | (apply wD pk [] []; kernel_rfl; exact rfl; exact rfl) | exact Imp.one | exact Imp.same | refine Imp.left ?_ | exact ImpX.one | exact ImpX.same | exact ImpX.mk | refine ImpX.up ?_ | refine ImpX.old ?_ | (apply pwp_condC; simp only [cond_true, cond_false]) | (refine pwp_cond rfl (fun h => ?_) (fun h => ?_) <;> (try simp at h) <;> (first | done | (exfalso; omega) | skip)) | (refine pwp_ret ?_; refine ⟨_, _, _, rfl, Wk.refl _, StSub.refl _, ?_, rfl⟩; (first | rfl | skip)) | (apply idxS pk; exact rfl; exact rfl; exact rfl; exact rfl; exact rfl; exact rfl; rotate_left; exact rfl; (intro _; exact rfl); (intro _; apply get_map <;> omega); (intro _; exact rfl); exact rfl) | (intros; omega) | (intros; simp only [List.length_map]; omega)))
  refine pwp_loop (X := { x : Nat × Store × CD // x.1 ≤ l[i].rights.length ∧ OpS st x.2.1 idm (D ++ [x.2.2]) D ∧ x.2.2.dev = l[i].dev ∧ x.2.2.i1 = i1 ∧ x.2.2.i2 = i2 ∧ x.2.2.pd = (l[i].rights.take x.1).foldl addR ⟨l[i].dev, [], []⟩ ∧ ∀ k id z, (k, some (id, z)) ∈ x.2.2.sp → z.length ≤ x.1 }) (fun y => ((((((((((St.nil 70 (y.1.2.1)).pv 3 (.mref idm)).var 5 52 ((l[i]).cells)).var 6 72 ([.mref i1, .mref i2])).pv 11 (.seq (l.map Ow.cells))).pv 12 ((PV.val (Value.int .i64 ((l.length : Nat)))))).pv 13 ((PV.val (Value.int .i64 ((i : Nat)))))).pv 21 (.seq ((l[i]).rights.map Rt.cells))).pv 22 ((PV.val (Value.int .i64 (((l[i]).rights.length : Nat)))))).pv 23 ((PV.val (Value.int .i64 ((y.1.1 : Nat))))))) (fun y => l[i].rights.length - y.1.1) ⟨(0, upd (upd S i1 (some (.map (ments Of.enc spF [])))) i2 (some (.map (ments Of.enc intF []))), ⟨l[i].dev, i1, i2, [], []⟩), by simp, hO.add (DevS.empty (hst0 _ h1) (hst0 _ h2) n12) hdev (fun j hj => by
      simp only [CD.ids, spI, List.filterMap_nil, List.mem_cons, List.not_mem_nil, or_false] at hj
      rcases hj with rfl | rfl
      · exact h1
      · exact h2) (fun j hj => by
      show upd (upd S i1 _) i2 _ j = S j
      rw [upd_ne (fun e => hj (by rw [e]; exact h2)), upd_ne (fun e => hj (by rw [e]; exact h1))]), rfl, rfl, rfl, rfl, fun _ _ _ h => by cases h⟩ ?_ (fun y => ?_)
  · (first | exact Sub.nil _ _ _ (StSub.refl _) rfl | ((repeat (first | refine Sub.pv ?_ rfl | refine Sub.var ?_ rfl rfl | refine Sub.pv' ?_ rfl (by first | rfl | simp) | refine Sub.var' ?_ rfl rfl (by first | rfl | simp))); (first | exact Sub.nil _ _ _ (StSub.refl _) rfl | exact Sub.nil _ _ _ (stsub_swap (by assumption)) rfl | exact Sub.nil _ _ _ (stsub_eq (by first | rfl | exact upd_eta (by assumption) | ((simp only [St.pv, St.put, St.sst, St.setv, St.nil, St.var, upd_upd]); first | done | rfl))) rfl | (refine Sub.nil _ _ _ (stsub_eq ?_) rfl; (simp only [St.pv, St.put, St.sst, St.setv, St.nil, St.var, upd_upd]); (rw [upd4 (by assumption)]); first | done | rfl))))
  obtain ⟨⟨j, S2, d⟩, hj, hO2, hdv, e1, e2, hpd2, hbd⟩ := y
  simp only at hj hO2 hdv e1 e2 hpd2 hbd
  dsimp only
  have hD := hO2.held.dev d (by simp)
  have hm1 := hD.m1
  have hm2 := hD.m2
  rw [e1] at hm1
  rw [e2] at hm2
  have hdn : d.dev ∉ D.map (·.dev) := by rw [hdv]; exact hdev
  have hlive := hD.live
  have hids1 : i1 ∈ d.ids := by rw [← e1]; simp [CD.ids]
  have hids2 : i2 ∈ d.ids := by rw [← e2]; simp [CD.ids]
  have hmi := hO2.out d (by simp)
  have nm1 : idm ≠ i1 := fun e => hmi (e ▸ hids1)
  by_cases hend2 : l[i].rights.length ≤ j
  · have e3 : l[i].rights.take j = l[i].rights := List.take_of_length_le hend2
    rw [e3] at hpd2
    have hDd : D.map CD.pd ++ [d.pd] = openP (l.take (i + 1)) := by
      rw [hpd, hpd2, List.take_succ_eq_append_getElem hlt, openP, openP, List.map_append]; rfl
    have hfin : OpS st (upd S2 idm (some (.map (ments Ie heldF (mset l[i].dev (i1, i2) (outE D)))))) idm (D ++ [d]) (D ++ [d]) := hO2.mono (by
      rw [upd_same, mset_new (by unfold outE; rw [List.map_map]; exact hdev)]
      unfold outE
      rw [List.map_append, List.map_cons, List.map_nil, hdv, e1, e2]) fun j hj => upd_ne hj
    have hmm := hO2.hm
    (try (apply wO pk; exact rfl)); (repeat' (first | exact All.nil | refine All.cons ?_ ?_ | (apply wC pk; exact rfl; exact rfl) | (apply wE pk; exact rfl; exact rfl) | (apply wX pk; exact rfl) | (apply wN pk; exact rfl) | (apply wD pk [] []; kernel_rfl; exact rfl; exact rfl) | exact Imp.one | exact Imp.same | refine Imp.left ?_ | exact ImpX.one | exact ImpX.same | exact ImpX.mk | refine ImpX.up ?_ | refine ImpX.old ?_ | (apply pwp_condC; simp only [cond_true, cond_false]) | (refine pwp_cond rfl (fun h => ?_) (fun h => ?_) <;> (try simp at h) <;> (first | done | (exfalso; omega) | skip)) | (refine pwp_ret ?_; refine ⟨_, _, _, rfl, Wk.refl _, StSub.refl _, ?_, rfl⟩; (first | rfl | skip)) | (apply muA pk intKey (f := heldF) (k := (l[i]'(by assumption)).dev) (v := (i1, i2)); (first | exact .inl rfl | exact .inr rfl); exact rfl; exact rfl; exact rfl; exact rfl; exact rfl; exact hmm; exact rfl) | (refine ⟨⟨(i + 1, _, D ++ [d]), by simp only; omega, hfin, by simp only [List.map_append, List.map_cons, List.map_nil]; exact hDd⟩, ?_, by simp only; omega⟩; (first | exact Sub.nil _ _ _ (StSub.refl _) rfl | ((repeat (first | refine Sub.pv ?_ rfl | refine Sub.var ?_ rfl rfl)); (first | exact Sub.nil _ _ _ (StSub.refl _) rfl | exact Sub.nil _ _ _ (stsub_swap (by assumption)) rfl | exact Sub.nil _ _ _ (stsub_eq (by first | rfl | exact upd_eta (by assumption) | ((simp only [St.pv, St.put, St.sst, St.setv, St.nil, St.var, upd_upd]); first | done | rfl))) rfl | (refine Sub.nil _ _ _ (stsub_eq ?_) rfl; (simp only [St.pv, St.put, St.sst, St.setv, St.nil, St.var, upd_upd]); (rw [upd4 (by assumption)]); first | done | rfl))))) | (intros; omega) | (intros; simp only [List.length_map]; omega)))
  have hlj : j < l[i].rights.length := by omega
  have hstep : (l[i].rights.take (j + 1)).foldl addR ⟨l[i].dev, [], []⟩ = addR d.pd l[i].rights[j] := by
    rw [List.take_succ_eq_append_getElem hlj, List.foldl_append, ← hpd2]; rfl
  have hrow : (l[i].rights.map Rt.cells)[j]? = some (l[i].rights[j]).cells := by simp [hlj]
  generalize hr : l[i].rights[j] = r at *
  by_cases h3 : r.kind = 3
  · have hd' : DevS st (upd S2 i2 (some (.map (ments Of.enc intF (mset (keyA r) r.amt d.am))))) { d with am := mset (keyA r) r.amt d.am } := by rw [← e2]; exact hD.amts (keyA r) r.amt
    have hset := hO2.set (d := d) (d' := { d with am := mset (keyA r) r.amt d.am }) (by simp) rfl hd' (fun j hj => .inl hj) fun j _ hj => upd_ne fun e => hj (by rw [e]; exact hids2)
    rw [setD_last (d := d) (d' := { d with am := mset (keyA r) r.amt d.am }) rfl hdn] at hset
    have hnx : ∀ k id z, (k, some (id, z)) ∈ d.sp → z.length ≤ j + 1 := fun k id z h => Nat.le_succ_of_le (hbd k id z h)
    (try (apply wO pk; exact rfl)); (repeat' (first | exact All.nil | refine All.cons ?_ ?_ | (apply wC pk; exact rfl; exact rfl) | (apply wE pk; exact rfl; exact rfl) | (apply wX pk; exact rfl) | (apply wN pk; exact rfl) | (apply wD pk [] []; kernel_rfl; exact rfl; exact rfl) | exact Imp.one | exact Imp.same | refine Imp.left ?_ | exact ImpX.one | exact ImpX.same | exact ImpX.mk | refine ImpX.up ?_ | refine ImpX.old ?_ | (apply pwp_condC; simp only [cond_true, cond_false]) | (refine pwp_cond rfl (fun h => ?_) (fun h => ?_) <;> (try simp at h) <;> (first | done | (exfalso; omega) | skip)) | (refine pwp_ret ?_; refine ⟨_, _, _, rfl, Wk.refl _, StSub.refl _, ?_, rfl⟩; (first | rfl | skip)) | (apply idxS pk; exact rfl; exact rfl; exact rfl; exact rfl; exact rfl; exact rfl; rotate_left; exact rfl; (intro _; exact rfl); (intro _; apply hrow <;> omega); (intro _; exact rfl); exact rfl) | (apply muA pk Of.key (f := intF) (k := keyA r) (v := r.amt); (first | exact .inl rfl | exact .inr rfl); exact rfl; exact rfl; exact rfl; exact rfl; exact rfl; exact hm2; exact rfl) | (refine ⟨⟨(j + 1, _, { d with am := mset (keyA r) r.amt d.am }), by simp only; omega, hset, hdv, e1, e2, by simp only; rw [hstep, addR, if_pos h3]; rfl, hnx⟩, ?_, by simp only; omega⟩; (first | exact Sub.nil _ _ _ (StSub.refl _) rfl | ((repeat (first | refine Sub.pv ?_ rfl | refine Sub.var ?_ rfl rfl)); (first | exact Sub.nil _ _ _ (StSub.refl _) rfl | exact Sub.nil _ _ _ (stsub_swap (by assumption)) rfl | exact Sub.nil _ _ _ (stsub_eq (by first | rfl | exact upd_eta (by assumption) | ((simp only [St.pv, St.put, St.sst, St.setv, St.nil, St.var, upd_upd]); first | done | rfl))) rfl | (refine Sub.nil _ _ _ (stsub_eq ?_) rfl; (simp only [St.pv, St.put, St.sst, St.setv, St.nil, St.var, upd_upd]); (rw [upd4 (by assumption)]); first | done | rfl))))) | (intros; omega) | (intros; simp only [List.length_map]; omega)))
  have hkey : ∀ (id' : Nat) (x : List Sn) (S1 : Store), S2 id' = none → (mget (keyS r) (d.sp.map fun e => (e.1, lst e.2))).getD [] = x → (∀ j, j ≠ i1 → (∀ z, mget (keyS r) d.sp = some (some z) → j ≠ z.1) → S1 j = S2 j) →
      OpS st (upd (upd S1 id' (some (.arr 80 ((x ++ [(⟨r.lo, r.hi⟩ : Sn)]).map Sn.cells)))) i1 (some (.map (ments Of.enc spF (mset (keyS r) (some (id', x.length + 1)) (spE d.sp)))))) idm (D ++ [{ d with sp := mset (keyS r) (some (id', x ++ [⟨r.lo, r.hi⟩])) d.sp }]) D ∧ ({ d with sp := mset (keyS r) (some (id', x ++ [⟨r.lo, r.hi⟩])) d.sp } : CD).pd = addR d.pd r := fun id' x S1 hid hx hS1 => by
    rw [show x.length + 1 = (x ++ [(⟨r.lo, r.hi⟩ : Sn)]).length from by simp]
    have hd' : DevS st (upd (upd S1 id' (some (.arr 80 ((x ++ [(⟨r.lo, r.hi⟩ : Sn)]).map Sn.cells)))) i1 (some (.map (ments Of.enc spF (mset (keyS r) (some (id', (x ++ [(⟨r.lo, r.hi⟩ : Sn)]).length)) (spE d.sp)))))) { d with sp := mset (keyS r) (some (id', x ++ [⟨r.lo, r.hi⟩])) d.sp } := by
     rw [← e1]
     exact hD.spans (S1 := S1) (keyS r) (x ++ [⟨r.lo, r.hi⟩]) hid (by
      cases hs : st id' with
      | none => rfl
      | some o => have := hO2.held.old id' (by rw [hs]; simp); rw [hid, hs] at this; cases this) fun j _ hj1 hj => hS1 j (by rw [← e1]; exact hj1) hj
    have hset := hO2.set (d := d) (d' := { d with sp := mset (keyS r) (some (id', x ++ [⟨r.lo, r.hi⟩])) d.sp }) (by simp) rfl hd' (fun j hj => by
      simp only [CD.ids, List.mem_cons] at hj ⊢
      rcases hj with h | h | h
      · exact .inl (.inl h)
      · exact .inl (.inr (.inl h))
      · rcases (spI_mset (k := keyS r) (l' := x ++ [⟨r.lo, r.hi⟩]) ((List.nodup_cons.1 (List.nodup_cons.1 hD.ids).2).2) (fun q => hlive id' (by simp only [CD.ids, List.mem_cons]; exact .inr (.inr q)) hid)).2 j h with h | h
        · right; rw [h]; exact hid
        · exact .inl (.inr (.inr h))) fun j hj hj' => by
      rw [upd_ne (fun e => hj' (by rw [e]; exact hids1)), upd_ne (fun e => hj (by rw [e]; exact hid))]
      refine hS1 j (fun e => hj' (by rw [e]; exact hids1)) fun z hz e => hj' ?_
      simp only [CD.ids, List.mem_cons]
      exact .inr (.inr (e ▸ spI_mem.2 ⟨keyS r, z.2, mget_mem hz⟩))
    rw [setD_last (d := d) (d' := { d with sp := mset (keyS r) (some (id', x ++ [⟨r.lo, r.hi⟩])) d.sp }) rfl hdn] at hset
    refine ⟨hset, ?_⟩
    unfold addR
    rw [if_neg h3]
    simp only [CD.pd]
    rw [mset_map lst (keyS r) (some (id', x ++ [(⟨r.lo, r.hi⟩ : Sn)])) d.sp, hx]
    rfl
  have hnx : ∀ (id' : Nat) (x : List Sn), x.length ≤ j → ∀ k id z, (k, some (id, z)) ∈ mset (keyS r) (some (id', x ++ [(⟨r.lo, r.hi⟩ : Sn)])) d.sp → z.length ≤ j + 1 := fun id' x hx k id z h => by
    rcases mem_mset hD.k1 h with e | ⟨e, _⟩
    · simp only [Prod.mk.injEq, Option.some.injEq] at e
      rw [e.2.2]; simp; omega
    · exact Nat.le_succ_of_le (hbd k id z e)
  rcases spGet (keyS r) d.sp with ⟨id, x, q1, q2⟩ | ⟨q1, q2, q3⟩
  · have hxl := hbd _ _ _ (mget_mem q1)
    have harr := hD.arr _ _ _ (mget_mem q1)
    have hidd : id ∈ d.ids := by simp only [CD.ids, List.mem_cons]; exact .inr (.inr (spI_mem.2 ⟨_, x, mget_mem q1⟩))
    have nid1 : id ≠ i1 := fun e => by rw [e, hm1] at harr; cases harr
    (try (apply wO pk; exact rfl)); (repeat' (first | exact All.nil | refine All.cons ?_ ?_ | (apply wC pk; exact rfl; exact rfl) | (apply wE pk; exact rfl; exact rfl) | (apply wX pk; exact rfl) | (apply wN pk; exact rfl) | (apply wD pk [] []; kernel_rfl; exact rfl; exact rfl) | exact Imp.one | exact Imp.same | refine Imp.left ?_ | exact ImpX.one | exact ImpX.same | exact ImpX.mk | refine ImpX.up ?_ | refine ImpX.old ?_ | (apply pwp_condC; simp only [cond_true, cond_false]) | (refine pwp_cond rfl (fun h => ?_) (fun h => ?_) <;> (try simp at h) <;> (first | done | (exfalso; omega) | skip)) | (refine pwp_ret ?_; refine ⟨_, _, _, rfl, Wk.refl _, StSub.refl _, ?_, rfl⟩; (first | rfl | skip)) | (apply idxS pk; exact rfl; exact rfl; exact rfl; exact rfl; exact rfl; exact rfl; rotate_left; exact rfl; (intro _; exact rfl); (intro _; apply hrow <;> omega); (intro _; exact rfl); exact rfl) | (apply apV pk (f := Sn.cells) [(⟨r.lo, r.hi⟩ : Sn)] 16; exact rfl; exact rfl; exact rfl; exact rfl; exact rfl; exact rfl; exact rfl; exact rfl; exact rfl; (first | exact upd_same _ _ _ | assumption | (focus ((repeat (first | exact upd_same _ _ _ | assumption | refine (upd_ne (by assumption)).trans ?_)); done))); (first | omega | assumption | (focus (simp; done)) | (focus (simp; omega)) | (focus (simp at *; omega))); exact fun _ => rfl; exact fun _ => rfl; exact hB; (first | omega | assumption | (focus (simp; done)) | (focus (simp; omega)) | (focus (simp at *; omega))); (first | omega | assumption | (focus (simp; done)) | (focus (simp; omega)) | (focus (simp at *; omega))); exact rfl; intro id' hid') | (apply ap0 pk (f := Sn.cells) [(⟨r.lo, r.hi⟩ : Sn)] 16; exact rfl; exact rfl; exact rfl; exact rfl; exact rfl; exact rfl; exact rfl; exact rfl; exact rfl; exact rfl; exact fun _ => rfl; exact fun _ => rfl; exact hB; (first | omega | assumption | (focus (simp; done)) | (focus (simp; omega)) | (focus (simp at *; omega))); (first | omega | assumption | (focus (simp; done)) | (focus (simp; omega)) | (focus (simp at *; omega))); exact rfl; intro id' hid') | (apply meB pk Of.key (f := spF) (z := none) (k := keyS r) (v0 := some (id, x.length)); exact rfl; exact rfl; exact rfl; exact rfl; exact rfl; exact rfl; exact hm1; exact rfl; (rw [q2]; rfl)) | (intros; omega) | (intros; simp only [List.length_map]; omega)))
    have hidS : upd S2 i1 (some (.map (ments Of.enc spF (mput0 (keyS r) none (spE d.sp))))) id' = none := hid'
    have nid' : id' ≠ i1 := fun e => by rw [e, upd_same] at hidS; cases hidS
    rw [upd_ne nid'] at hidS
    obtain ⟨k1, k2⟩ := hkey id' x (upd (upd S2 i1 (some (.map (ments Of.enc spF (mput0 (keyS r) none (spE d.sp)))))) id none) hidS (by rw [pd_get, q1]; rfl) fun j hj hz => by
      rw [upd_ne (hz _ q1), upd_ne hj]
    apply esA pk Of.key (f := spF) (k := keyS r) (z0 := none) (v := some (id', x.length + 1)); exact rfl; exact rfl; exact rfl; exact rfl; exact (upd_ne (Ne.symm nid')).trans ((upd_ne (Ne.symm nid1)).trans (upd_same _ _ _)); exact rfl
    (try (apply wO pk; exact rfl)); (repeat' (first | exact All.nil | refine All.cons ?_ ?_ | (apply wC pk; exact rfl; exact rfl) | (apply wE pk; exact rfl; exact rfl) | (apply wX pk; exact rfl) | (apply wN pk; exact rfl) | (apply wD pk [] []; kernel_rfl; exact rfl; exact rfl) | exact Imp.one | exact Imp.same | refine Imp.left ?_ | exact ImpX.one | exact ImpX.same | exact ImpX.mk | refine ImpX.up ?_ | refine ImpX.old ?_ | (apply pwp_condC; simp only [cond_true, cond_false]) | (refine pwp_cond rfl (fun h => ?_) (fun h => ?_) <;> (try simp at h) <;> (first | done | (exfalso; omega) | skip)) | (refine pwp_ret ?_; refine ⟨_, _, _, rfl, Wk.refl _, StSub.refl _, ?_, rfl⟩; (first | rfl | skip)) | (refine ⟨⟨(j + 1, _, { d with sp := mset (keyS r) (some (id', x ++ [⟨r.lo, r.hi⟩])) d.sp }), by simp only; omega, k1, hdv, e1, e2, by simp only; rw [hstep]; exact k2, hnx id' x hxl⟩, ?_, by simp only; omega⟩; (first | exact Sub.nil _ _ _ (StSub.refl _) rfl | ((repeat (first | refine Sub.pv ?_ rfl | refine Sub.var ?_ rfl rfl)); (first | exact Sub.nil _ _ _ (StSub.refl _) rfl | exact Sub.nil _ _ _ (stsub_swap (by assumption)) rfl | exact Sub.nil _ _ _ (stsub_eq (by first | rfl | exact upd_eta (by assumption) | ((simp only [St.pv, St.put, St.sst, St.setv, St.nil, St.var, upd_upd]); first | done | rfl))) rfl | (refine Sub.nil _ _ _ (stsub_eq ?_) rfl; (simp only [St.pv, St.put, St.sst, St.setv, St.nil, St.var, upd_upd]); (rw [upd4 (by assumption)]); first | done | rfl))))) | (intros; omega) | (intros; simp only [List.length_map]; omega)))
  · have hz : ∀ v0, mget (keyS r) (spE d.sp) = v0 → (v0 = none ∨ v0 = some none) → v0.getD none = none := fun v0 _ h => by rcases h with rfl | rfl <;> rfl
    have hv0 := hz _ rfl q1
    (try (apply wO pk; exact rfl)); (repeat' (first | exact All.nil | refine All.cons ?_ ?_ | (apply wC pk; exact rfl; exact rfl) | (apply wE pk; exact rfl; exact rfl) | (apply wX pk; exact rfl) | (apply wN pk; exact rfl) | (apply wD pk [] []; kernel_rfl; exact rfl; exact rfl) | exact Imp.one | exact Imp.same | refine Imp.left ?_ | exact ImpX.one | exact ImpX.same | exact ImpX.mk | refine ImpX.up ?_ | refine ImpX.old ?_ | (apply pwp_condC; simp only [cond_true, cond_false]) | (refine pwp_cond rfl (fun h => ?_) (fun h => ?_) <;> (try simp at h) <;> (first | done | (exfalso; omega) | skip)) | (refine pwp_ret ?_; refine ⟨_, _, _, rfl, Wk.refl _, StSub.refl _, ?_, rfl⟩; (first | rfl | skip)) | (apply idxS pk; exact rfl; exact rfl; exact rfl; exact rfl; exact rfl; exact rfl; rotate_left; exact rfl; (intro _; exact rfl); (intro _; apply hrow <;> omega); (intro _; exact rfl); exact rfl) | (apply apV pk (f := Sn.cells) [(⟨r.lo, r.hi⟩ : Sn)] 16; exact rfl; exact rfl; exact rfl; exact rfl; exact rfl; exact rfl; exact rfl; exact rfl; exact rfl; (first | exact upd_same _ _ _ | assumption | (focus ((repeat (first | exact upd_same _ _ _ | assumption | refine (upd_ne (by assumption)).trans ?_)); done))); (first | omega | assumption | (focus (simp; done)) | (focus (simp; omega)) | (focus (simp at *; omega))); exact fun _ => rfl; exact fun _ => rfl; exact hB; (first | omega | assumption | (focus (simp; done)) | (focus (simp; omega)) | (focus (simp at *; omega))); (first | omega | assumption | (focus (simp; done)) | (focus (simp; omega)) | (focus (simp at *; omega))); exact rfl; intro id' hid') | (apply ap0 pk (f := Sn.cells) [(⟨r.lo, r.hi⟩ : Sn)] 16; exact rfl; exact rfl; exact rfl; exact rfl; exact rfl; exact rfl; exact rfl; exact rfl; exact rfl; exact rfl; exact fun _ => rfl; exact fun _ => rfl; exact hB; (first | omega | assumption | (focus (simp; done)) | (focus (simp; omega)) | (focus (simp at *; omega))); (first | omega | assumption | (focus (simp; done)) | (focus (simp; omega)) | (focus (simp at *; omega))); exact rfl; intro id' hid') | (apply meB pk Of.key (f := spF) (z := none) (k := keyS r) (v0 := none); exact rfl; exact rfl; exact rfl; exact rfl; exact rfl; exact rfl; exact hm1; exact rfl; exact hv0) | (intros; omega) | (intros; simp only [List.length_map]; omega)))
    have hidS : upd S2 i1 (some (.map (ments Of.enc spF (mput0 (keyS r) none (spE d.sp))))) id' = none := hid'
    have nid' : id' ≠ i1 := fun e => by rw [e, upd_same] at hidS; cases hidS
    rw [upd_ne nid'] at hidS
    obtain ⟨k1, k2⟩ := hkey id' [] (upd S2 i1 (some (.map (ments Of.enc spF (mput0 (keyS r) none (spE d.sp)))))) hidS q2 fun j hj hz => by
      rw [upd_ne hj]
    apply esA pk Of.key (f := spF) (k := keyS r) (z0 := none) (v := some (id', 1)); exact rfl; exact rfl; exact rfl; exact rfl; exact (upd_ne (Ne.symm nid')).trans (upd_same _ _ _); exact rfl
    (try (apply wO pk; exact rfl)); (repeat' (first | exact All.nil | refine All.cons ?_ ?_ | (apply wC pk; exact rfl; exact rfl) | (apply wE pk; exact rfl; exact rfl) | (apply wX pk; exact rfl) | (apply wN pk; exact rfl) | (apply wD pk [] []; kernel_rfl; exact rfl; exact rfl) | exact Imp.one | exact Imp.same | refine Imp.left ?_ | exact ImpX.one | exact ImpX.same | exact ImpX.mk | refine ImpX.up ?_ | refine ImpX.old ?_ | (apply pwp_condC; simp only [cond_true, cond_false]) | (refine pwp_cond rfl (fun h => ?_) (fun h => ?_) <;> (try simp at h) <;> (first | done | (exfalso; omega) | skip)) | (refine pwp_ret ?_; refine ⟨_, _, _, rfl, Wk.refl _, StSub.refl _, ?_, rfl⟩; (first | rfl | skip)) | (refine ⟨⟨(j + 1, _, { d with sp := mset (keyS r) (some (id', [⟨r.lo, r.hi⟩])) d.sp }), by simp only; omega, k1, hdv, e1, e2, by simp only; rw [hstep]; exact k2, hnx id' [] (by simp)⟩, ?_, by simp only; omega⟩; (first | exact Sub.nil _ _ _ (StSub.refl _) rfl | ((repeat (first | refine Sub.pv ?_ rfl | refine Sub.var ?_ rfl rfl)); (first | exact Sub.nil _ _ _ (StSub.refl _) rfl | exact Sub.nil _ _ _ (stsub_swap (by assumption)) rfl | exact Sub.nil _ _ _ (stsub_eq (by first | rfl | exact upd_eta (by assumption) | ((simp only [St.pv, St.put, St.sst, St.setv, St.nil, St.var, upd_upd]); first | done | rfl))) rfl | (refine Sub.nil _ _ _ (stsub_eq ?_) rfl; (simp only [St.pv, St.put, St.sst, St.setv, St.nil, St.var, upd_upd]); (rw [upd4 (by assumption)]); first | done | rfl))))) | (intros; omega) | (intros; simp only [List.length_map]; omega)))
end Go.Proofs.Ytbcdgocepnkpeaa
