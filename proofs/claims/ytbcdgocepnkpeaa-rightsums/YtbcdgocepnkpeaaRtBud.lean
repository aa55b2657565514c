import Derived.Test.YtbcdgocepnkpeaaRtLaw
set_option linter.unusedSimpArgs false
set_option linter.unusedVariables false
namespace Go.Proofs.Ytbcdgocepnkpeaa
open Go Go.Abs
attribute [local irreducible] Ev PWp
set_option maxRecDepth 10000
set_option maxHeartbeats 4000000
def findD (dev : Int) (L : List PD) : Option PD := L.find? fun d => decide (d.dev = dev)
def amtOf (L : List PD) (dev : Int) (k : Of) : Int := match findD dev L with | some d => (mget k d.am).getD 0 | none => 0
def spOf (L : List PD) (dev : Int) (k : Of) : List Sn := match findD dev L with | some d => (mget k d.sp).getD [] | none => []
theorem findD_mem {L : List PD} (hn : (L.map (·.dev)).Nodup) {d : PD} (h : d ∈ L) : findD d.dev L = some d := by
  unfold findD
  induction L with
  | nil => cases h
  | cons x L ih =>
    simp only [List.map_cons, List.nodup_cons] at hn
    rcases List.mem_cons.1 h with rfl | h
    · simp
    · have : x.dev ≠ d.dev := fun e => hn.1 (e ▸ List.mem_map.2 ⟨d, h, rfl⟩)
      rw [List.find?_cons_of_neg (by simpa using this)]; exact ih hn.2 h
theorem findD_none {L : List PD} {dev : Int} (h : dev ∉ L.map (·.dev)) : findD dev L = none := by
  unfold findD
  rw [List.find?_eq_none]
  intro x hx e
  exact h (by simp only [decide_eq_true_eq] at e; exact e ▸ List.mem_map.2 ⟨x, hx, rfl⟩)
theorem findD_at (dev d2 : Int) (L : List PD) : findD d2 (atP dev L) = if dev ∉ L.map (·.dev) ∧ d2 = dev then some ⟨dev, [], []⟩ else findD d2 L := by
  unfold atP
  by_cases h : dev ∈ L.map (·.dev)
  · rw [if_pos h, if_neg (fun q => q.1 h)]
  · rw [if_neg h]
    unfold findD
    rw [List.find?_append]
    by_cases e : d2 = dev
    · subst e
      have := findD_none h
      unfold findD at this
      rw [if_pos ⟨h, rfl⟩, this]; simp
    · rw [if_neg (fun q => e q.2)]
      cases hf : L.find? fun d => decide (d.dev = d2) with
      | some x => rfl
      | none => simp [show ¬ dev = d2 from fun q => e q.symm]
theorem amtOf_at (dev d2 : Int) (L : List PD) (k : Of) : amtOf (atP dev L) d2 k = amtOf L d2 k := by
  unfold amtOf
  rw [findD_at]
  by_cases h : dev ∉ L.map (·.dev) ∧ d2 = dev
  · rw [if_pos h]
    obtain ⟨h1, rfl⟩ := h
    rw [findD_none h1]; rfl
  · rw [if_neg h]
theorem spOf_at (dev d2 : Int) (L : List PD) (k : Of) : spOf (atP dev L) d2 k = spOf L d2 k := by
  unfold spOf
  rw [findD_at]
  by_cases h : dev ∉ L.map (·.dev) ∧ d2 = dev
  · rw [if_pos h]
    obtain ⟨h1, rfl⟩ := h
    rw [findD_none h1]; rfl
  · rw [if_neg h]
theorem am_fold (k : Of) (n : Int) : ∀ (rs : List Rt) (d : PD), mget k (rs.foldl addR d).am = some n → (∃ r ∈ rs, r.kind = 3 ∧ keyA r = k ∧ r.amt = n) ∨ mget k d.am = some n
  | [], _, h => .inr h
  | r :: rs, d, h => by
    rw [List.foldl_cons] at h
    rcases am_fold k n rs _ h with ⟨x, hx, h1⟩ | h
    · exact .inl ⟨x, List.mem_cons_of_mem _ hx, h1⟩
    · unfold addR at h
      split at h
      · rename_i h3
        simp only [mget_mset] at h
        split at h
        · rename_i e
          injection h with h
          exact .inl ⟨r, by simp, h3, e.symm, h⟩
        · exact .inr h
      · exact .inr h
theorem fold_dev : ∀ (rs : List Rt) (d : PD), (rs.foldl addR d).dev = d.dev
  | [], _ => rfl
  | r :: rs, d => by rw [List.foldl_cons, fold_dev rs]; unfold addR; split <;> rfl
theorem openP_devs (l : List Ow) : (openP l).map (·.dev) = l.map (·.dev) := by
  unfold openP
  rw [List.map_map]
  exact List.map_congr_left fun o _ => fold_dev o.rights _
theorem CanonO.nodup {s : Sc} {l : List Ow} (h : CanonO s l) : (l.map (·.dev)).Nodup := by
  rw [List.Nodup, List.pairwise_map]
  exact h.devs.imp fun {a b} hab e => by omega
theorem max_ok {s : Sc} (hs : FewS s) {t c : Int} (h : thereP s 3 t c = 0) : 0 ≤ maxOf s t c ∧ maxOf s t c ≤ 1099511627776 := by
  obtain ⟨_, ⟨a1, a2⟩, _, _, a3⟩ := there_ok h
  obtain ⟨b1, b2⟩ := a3 rfl
  obtain ⟨t, rfl⟩ : ∃ n : Nat, t = n := ⟨t.toNat, by omega⟩
  obtain ⟨c, rfl⟩ : ∃ n : Nat, c = n := ⟨c.toNat, by omega⟩
  have hlt : t < s.length := by omega
  have hT : s[((t : Nat) : Int).toNat]! = s[t] := by simp [hlt]
  rw [hT] at b2
  have hlc : c < (s[t].sums).length := by omega
  have hC : s[t].sums[((c : Nat) : Int).toNat]! = s[t].sums[c] := by simp [hlc]
  unfold maxOf
  rw [hT, hC]
  exact hs.max s[t] (List.getElem_mem hlt) _ (List.getElem_mem hlc)
theorem amtOf_ok {s : Sc} (hs : FewS s) {l : List Ow} (h : CanonO s l) (dev : Int) (k : Of) : -1099511627776 ≤ amtOf (openP l) dev k ∧ amtOf (openP l) dev k ≤ 1099511627776 := by
  unfold amtOf
  cases hf : findD dev (openP l) with
  | none => simp
  | some d =>
    have hd : d ∈ openP l := List.mem_of_find?_eq_some hf
    obtain ⟨o, ho, rfl⟩ := List.mem_map.1 hd
    simp only
    cases hg : mget k (ofOw o).am with
    | none => simp
    | some n =>
      rcases am_fold k n o.rights _ hg with ⟨r, hr, h3, _, rfl⟩ | h
      · have hok := (h.own o ho).rts r hr
        obtain ⟨a1, a2, a3, a4, a5, a6⟩ := hok.sum h3
        have ht := hok.there
        rw [h3] at ht
        have hm := max_ok hs ht
        simp only [Option.getD_some]
        by_cases h1 : o.dev = 1
        · have := a5 h1; omega
        · have := a6 h1; omega
      · cases h
theorem OpS.sub {st S : Store} {idm : Nat} {D E : List CD} (h : OpS st S idm D E) : StSub st S := fun j => by
  cases hs : st j with
  | none => exact .inl rfl
  | some o => exact .inr ((h.held.old j (by rw [hs]; simp)).trans hs).symm
def budgetP (s : Sc) (l : List Ow) (dev table sum group : Int) : Int :=
  if canonP s l = false ∨ deviceB dev = false ∨ thereP s 3 table sum ≠ 0 ∨ fitsB group = false then 0
  else amtOf (openP l) dev ⟨3, table, sum, group⟩ + (if dev = 1 then maxOf s table sum else 0)
theorem amt_of {st S : Store} {idm : Nat} {D D' : List CD} {l : List Ow} {dev : Int} (h : OpS st S idm D' D') (hpd : D'.map CD.pd = atP dev (openP l)) {d : CD} (hd : d ∈ D') (hdev : d.dev = dev) (k : Of) : (mget k d.am).getD 0 = amtOf (openP l) dev k := by
  rw [← amtOf_at dev dev, ← hpd]
  unfold amtOf
  have := findD_mem (L := D'.map CD.pd) (by rw [pd_devs]; exact h.held.devs) (List.mem_map.2 ⟨d, hd, rfl⟩)
  have e : d.pd.dev = dev := hdev
  rw [e] at this
  rw [this]; rfl
section
variable {P : Program} {tt : TT} {l : List Oper} {d : Md} {r : List Oper} {s : St} {Kt : St → Prop} {t : Nat} {op : Op} {ty : TypeId} {pos : String} {after : Array Edge} {gd : Option (Nat × Bool)} {K : Type} [DecidableEq K] {kt : TypeId} {enc : K → Value} {rep : K → PV}
theorem lkI (pk : Pk P tt) (hk : KeyOK P kt enc rep) {T e : TypeId} {x y : Operand} {w : Bool} {id : Nat} {es : List (K × Int)} {k : K} {n : Int} (hw : wantA l ⟨some t, .lookup T x y false, ty, pos, after, gd⟩ s = some w) (hx : opd s x = some (.mref id)) (hy : opd s y = some (rep k)) (hT : tiK tt T = some (.map kt e)) (hz : pzv tt e = some (intF 0)) (hf : All (flagsI s w [x, y] [])) (hd : Nat.blt t s.n = true)
    (hst : s.st id = some (.map (ments enc intF es))) (ht : tagR d l r = true) (hn : (mget k es).getD 0 = n) (kk : Ev P l d r (s.put (some t) w (.pv (.val (.int .i64 n)))) Kt) : Ev P l d (⟨some t, .lookup T x y false, ty, pos, after, gd⟩ :: r) s Kt := by
  refine lkM pk hk hw hx hy hT hz hf hd hst ht ?_
  subst hn
  cases h : mget k es with
  | none => rw [h] at kk; exact kk
  | some v => rw [h] at kk; exact kk
end
theorem budget_spec (s : Sc) (hs : FewS s) (l : List Ow) (hl : FewO l) (dev table sum group : Int) : PF Try.prog 13 [.agg (scC s), .seq (l.map Ow.cells), (PV.val (Value.int .i64 (dev))), (PV.val (Value.int .i64 (table))), (PV.val (Value.int .i64 (sum))), (PV.val (Value.int .i64 (group)))] (PV.val (Value.int .i64 (budgetP s l dev table sum group))) := by
  have hc := canon_spec s hs l hl
  have hd := device_spec dev
  have ht := there_spec s hs ⟨3, table, sum, group, 0, 0⟩
  have hf := fits_spec group
  simp only at ht
  by_cases hno : canonP s l = false ∨ deviceB dev = false ∨ thereP s 3 table sum ≠ 0 ∨ fitsB group = false
  · have e : budgetP s l dev table sum group = 0 := by unfold budgetP; rw [if_pos hno]
    rw [e]
    generalize canonP s l = c at *
    generalize deviceB dev = dv at *
    generalize thereP s 3 table sum = th at *
    generalize fitsB group = fb at *
    have hno2 : ((c = true ∧ dv = true) ∧ th = 0) ∧ fb = true → False := fun ⟨⟨⟨h1, h2⟩, h3⟩, h4⟩ => by rcases hno with h | h | h | h <;> simp_all
    refine pf_of tt_ok Try.func13 (by kernel_rfl) rfl rfl rfl rfl (fun st => ?_)
    (try (apply wO pk; exact rfl)); (repeat' (first | ((exfalso; exact hno2 (by assumption))) | exact All.nil | refine All.cons ?_ ?_ | (apply wC pk; exact rfl; exact rfl) | (apply wE pk; exact rfl; exact rfl) | (apply wX pk; exact rfl) | (apply wN pk; exact rfl) | (apply wD pk [] []; kernel_rfl; exact rfl; exact rfl) | exact Imp.one | exact Imp.same | refine Imp.left ?_ | exact ImpX.one | exact ImpX.same | exact ImpX.mk | refine ImpX.up ?_ | refine ImpX.old ?_ | (apply pwp_condC; simp only [cond_true, cond_false]) | (refine pwp_cond rfl (fun h => ?_) (fun h => ?_) <;> (try simp at h) <;> (first | done | (exfalso; omega) | skip)) | (refine pwp_ret ?_; refine ⟨_, _, _, rfl, Wk.refl _, StSub.refl _, ?_, rfl⟩; (first | rfl | skip)) | (apply callS; exact rfl; exact rfl; exact rfl; (intro _; first | (apply hc <;> first | assumption | omega) | (apply hd <;> first | assumption | omega) | (apply ht <;> first | assumption | omega) | (apply hf <;> first | assumption | omega)); rotate_left; exact rfl; exact rfl) | (apply callV; exact rfl; exact rfl; exact rfl; (intro _; first | (apply hc <;> first | assumption | omega) | (apply hd <;> first | assumption | omega) | (apply ht <;> first | assumption | omega) | (apply hf <;> first | assumption | omega)); rotate_left; exact rfl; exact rfl) | (intros; omega) | (intros; simp only [List.length_map]; omega)))
  have hcT : canonP s l = true := by cases h : canonP s l with | true => rfl | false => exact absurd (.inl h) hno
  have hdT : deviceB dev = true := by cases h : deviceB dev with | true => rfl | false => exact absurd (.inr (.inl h)) hno
  have htT : thereP s 3 table sum = 0 := Decidable.byContradiction fun h => hno (.inr (.inr (.inl h)))
  have hfT : fitsB group = true := by cases h : fitsB group with | true => rfl | false => exact absurd (.inr (.inr (.inr h))) hno
  have e : budgetP s l dev table sum group = amtOf (openP l) dev ⟨3, table, sum, group⟩ + (if dev = 1 then maxOf s table sum else 0) := by unfold budgetP; rw [if_neg hno]
  have hCO := (canon_iff s l).1 hcT
  have ham := amtOf_ok hs hCO dev ⟨3, table, sum, group⟩
  have hmx := max_ok hs htT
  obtain ⟨_, ⟨a1, a2⟩, _, _, a3⟩ := there_ok htT
  obtain ⟨b1, b2⟩ := a3 rfl
  obtain ⟨t, htt⟩ : ∃ n : Nat, table = n := ⟨table.toNat, by omega⟩
  obtain ⟨c, hcc⟩ : ∃ n : Nat, sum = n := ⟨sum.toNat, by omega⟩
  have hlt : t < s.length := by omega
  have hT : s[table.toNat]! = s[t] := by rw [htt]; simp [hlt]
  rw [hT] at b2
  have hlc : c < (s[t].sums).length := by omega
  have hC : s[t].sums[sum.toNat]! = s[t].sums[c] := by rw [hcc]; simp [hlc]
  have hmo : maxOf s table sum = s[t].sums[c].max := by unfold maxOf; rw [hT, hC]
  rw [e]
  rw [hmo] at hmx ⊢
  rw [hcT] at hc
  rw [hdT] at hd
  rw [htT] at ht
  rw [hfT] at hf
  have hop := fun st => open_pc st l hl hCO.nodup
  have hao : ∀ {st S : Store} {idm : Nat} {D D' : List CD}, OpS st S idm D' D' → D.map CD.pd = openP l → D'.map CD.pd = atP dev (D.map CD.pd) → ∀ {d : CD}, d ∈ D' → d.dev = dev → (mget (⟨3, table, sum, group⟩ : Of) d.am).getD 0 = amtOf (openP l) dev ⟨3, table, sum, group⟩ := fun h h2 h3 _ h4 h5 => amt_of h (D := []) (by rw [h3, h2]) h4 h5 _
  generalize amtOf (openP l) dev ⟨3, table, sum, group⟩ = am at *
  refine pf_of tt_ok Try.func13 (by kernel_rfl) rfl rfl rfl rfl (fun st => ?_)
  (try (apply wO pk; exact rfl)); (repeat' (first | exact All.nil | refine All.cons ?_ ?_ | (apply wC pk; exact rfl; exact rfl) | (apply wE pk; exact rfl; exact rfl) | (apply wX pk; exact rfl) | (apply wN pk; exact rfl) | (apply wDx pk; exact rfl; kernel_rfl; exact rfl; exact rfl) | exact Imp.one | exact Imp.same | refine Imp.left ?_ | exact ImpX.one | exact ImpX.same | exact ImpX.mk | refine ImpX.up ?_ | refine ImpX.old ?_ | (apply pwp_condC; simp only [cond_true, cond_false]) | (refine pwp_cond rfl (fun h => ?_) (fun h => ?_) <;> (try simp at h) <;> (first | done | (exfalso; omega) | skip)) | (refine pwp_ret ?_; refine ⟨_, _, _, rfl, Wk.refl _, StSub.refl _, ?_, rfl⟩; (first | rfl | skip)) | (apply callS; exact rfl; exact rfl; exact rfl; (intro _; first | (apply hc <;> first | assumption | omega) | (apply hd <;> first | assumption | omega) | (apply ht <;> first | assumption | omega) | (apply hf <;> first | assumption | omega)); rotate_left; exact rfl; exact rfl) | (apply callV; exact rfl; exact rfl; exact rfl; (intro _; first | (apply hc <;> first | assumption | omega) | (apply hd <;> first | assumption | omega) | (apply ht <;> first | assumption | omega) | (apply hf <;> first | assumption | omega)); rotate_left; exact rfl; exact rfl) | (apply idxS pk; exact rfl; exact rfl; exact rfl; exact rfl; exact rfl; exact rfl; rotate_left; exact rfl; (intro _; exact htt); (intro _; apply get_map <;> omega); (intro _; exact rfl); exact rfl) | (apply idxS pk; exact rfl; exact rfl; exact rfl; exact rfl; exact rfl; exact rfl; rotate_left; exact rfl; (intro _; exact hcc); (intro _; apply get_map <;> omega); (intro _; exact rfl); exact rfl) | (apply ncA; exact rfl; exact rfl; exact rfl; rotate_left; exact rfl; exact rfl) | (apply ldR pk; exact rfl; exact rfl; rotate_left; exact rfl; (first | exact upd_same _ _ _ | assumption | (focus ((repeat (first | exact upd_same _ _ _ | assumption | refine (upd_ne (by assumption)).trans ?_)); done))); exact rfl; exact rfl) | (apply stR pk; exact rfl; exact rfl; (first | exact upd_same _ _ _ | assumption | (focus ((repeat (first | exact upd_same _ _ _ | assumption | refine (upd_ne (by assumption)).trans ?_)); done))); exact rfl; exact rfl) | (apply callP; exact rfl; exact rfl; (apply (hop _) <;> first | exact upd_same _ _ _ | assumption | omega | (first | exact upd_same _ _ _ | assumption | (focus ((repeat (first | exact upd_same _ _ _ | assumption | refine (upd_ne (by assumption)).trans ?_)); done)))); exact rfl; exact rfl; exact rfl; intro _ st' hR; obtain ⟨idm, D, rfl, hO, hpd⟩ := hR) | (apply callP; exact rfl; exact rfl; (apply (at_pc hO dev) <;> first | exact upd_same _ _ _ | assumption | omega | (first | exact upd_same _ _ _ | assumption | (focus ((repeat (first | exact upd_same _ _ _ | assumption | refine (upd_ne (by assumption)).trans ?_)); done)))); exact rfl; exact rfl; exact rfl; intro _ st' hR; obtain ⟨D', d, hO', hd', hdev, rfl, hat, hsub⟩ := hR) | (apply callP; exact rfl; exact rfl; (first | (apply fail_no_spec <;> first | exact upd_same _ _ _ | assumption | omega | (simp only [Array.size_setIfInBounds]; omega) | (first | exact upd_same _ _ _ | assumption | (focus ((repeat (first | exact upd_same _ _ _ | assumption | refine (upd_ne (by assumption)).trans ?_)); done))))); exact rfl; exact rfl; exact rfl; intro _ st' hR; (first | subst hR | obtain ⟨rfl, rfl⟩ := hR)) | (apply lkI pk Of.key (k := ⟨3, table, sum, group⟩) (n := am); exact rfl; exact rfl; exact rfl; exact rfl; exact rfl; rotate_left; exact rfl; exact (hO'.held.dev _ hd').m2; exact rfl; exact hao hO' hpd hat hd' hdev) | (refine pwp_ret ?_; refine ⟨_, _, _, rfl, Wk.refl _, hO'.sub, ?_, rfl⟩; (first | (rw [if_pos (by assumption)]; done) | (rw [if_neg (by assumption), Int.add_zero]; done))) | (intros; omega) | (intros; simp only [List.length_map]; omega)))
end Go.Proofs.Ytbcdgocepnkpeaa
