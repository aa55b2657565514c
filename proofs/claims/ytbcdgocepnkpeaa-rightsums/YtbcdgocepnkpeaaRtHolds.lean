import Derived.Test.YtbcdgocepnkpeaaRtBud
import Derived.Test.YtbcdgocepnkpeaaAbsG
set_option linter.unusedSimpArgs false
set_option linter.unusedVariables false
namespace Go.Proofs.Ytbcdgocepnkpeaa
open Go Go.Abs
attribute [local irreducible] Ev PWp
set_option maxRecDepth 10000
set_option maxHeartbeats 4000000
theorem holds1_spec (x : Sn) (r : Rt) : PF Try.prog 26 [.agg x.cells, .rp r.cells] (PV.val (Value.bool (decide (x.lo ≤ r.lo) && decide (r.hi ≤ x.hi)))) := by
  refine pf_of tt_ok Try.func26 (by kernel_rfl) rfl rfl rfl rfl (fun st => ?_)
  (try (apply wO pk; exact rfl)); (repeat' (first | exact All.nil | refine All.cons ?_ ?_ | (apply wC pk; exact rfl; exact rfl) | (apply wE pk; exact rfl; exact rfl) | (apply wX pk; exact rfl) | (apply wN pk; exact rfl) | (apply wD pk [] []; kernel_rfl; exact rfl; exact rfl) | exact Imp.one | exact Imp.same | refine Imp.left ?_ | exact ImpX.one | exact ImpX.same | exact ImpX.mk | refine ImpX.up ?_ | refine ImpX.old ?_ | (apply pwp_condC; simp only [cond_true, cond_false]) | (refine pwp_cond rfl (fun h => ?_) (fun h => ?_) <;> (try simp at h) <;> (first | done | (exfalso; omega) | skip)) | (refine pwp_ret ?_; refine ⟨_, _, _, rfl, Wk.refl _, StSub.refl _, ?_, rfl⟩; (first | rfl | ((grind); done) | skip)) | (intros; omega) | (intros; simp only [List.length_map]; omega)))
theorem idxN_spec (fid : FuncId) (caps : List PV) (f : Sn → Bool) (l : List Sn) (hl : l.length < 4611686018427387904) (hf : ∀ p, PF Try.prog fid ([.agg p.cells] ++ caps) (PV.val (Value.bool (f p)))) : PF Try.prog 35 [.seq (l.map Sn.cells), .fn fid caps] (PV.val (Value.int .i64 (idxP f l))) := by
  refine pf_of tt_ok Try.func35 (by kernel_rfl) rfl rfl rfl rfl (fun st => ?_)
  (try (apply wO pk; exact rfl)); (repeat' (first | exact All.nil | refine All.cons ?_ ?_ | (apply wC pk; exact rfl; exact rfl) | (apply wE pk; exact rfl; exact rfl) | (apply wX pk; exact rfl) | (apply wN pk; exact rfl) | (apply wD pk [] []; kernel_rfl; exact rfl; exact rfl) | exact Imp.one | exact Imp.same | refine Imp.left ?_ | exact ImpX.one | exact ImpX.same | exact ImpX.mk | refine ImpX.up ?_ | refine ImpX.old ?_ | (apply pwp_condC; simp only [cond_true, cond_false]) | (refine pwp_cond rfl (fun h => ?_) (fun h => ?_) <;> (try simp at h) <;> (first | done | (exfalso; omega) | skip)) | (refine pwp_ret ?_; refine ⟨_, _, _, rfl, Wk.refl _, StSub.refl _, ?_, rfl⟩; (first | rfl | skip)) | (intros; omega) | (intros; simp only [List.length_map]; omega)))
  refine pwp_loop (X := { x : Nat // x ≤ l.length ∧ ∀ j (h : j < x) (h2 : j < l.length), f l[j] = false }) (fun i => (((((St.nil 19 st).pv 0 (.seq (l.map Sn.cells))).pv 1 (.fn fid caps)).pv 7 ((PV.val (Value.int .i64 ((((l.map Sn.cells)).length : Nat)))))).pv 8 ((PV.val (Value.int .i64 ((i.1 : Nat))))))) (fun i => l.length - i.1) ⟨0, by omega, by omega⟩ ?_ (fun i => ?_)
  · (first | exact Sub.nil _ _ _ (StSub.refl _) rfl | ((repeat (first | refine Sub.pv ?_ rfl | refine Sub.var ?_ rfl rfl)); (first | exact Sub.nil _ _ _ (StSub.refl _) rfl | exact Sub.nil _ _ _ (stsub_swap (by assumption)) rfl | exact Sub.nil _ _ _ (stsub_eq (by first | rfl | exact upd_eta (by assumption) | ((simp only [St.pv, St.put, St.sst, St.setv, St.nil, St.var, upd_upd]); first | done | rfl))) rfl | (refine Sub.nil _ _ _ (stsub_eq ?_) rfl; (simp only [St.pv, St.put, St.sst, St.setv, St.nil, St.var, upd_upd]); (rw [upd4 (by assumption)]); first | done | rfl))))
  obtain ⟨i, hi, hinv⟩ := i
  dsimp only
  (try (apply wO pk; exact rfl)); (repeat' (first | exact All.nil | refine All.cons ?_ ?_ | (apply wC pk; exact rfl; exact rfl) | (apply wE pk; exact rfl; exact rfl) | (apply wX pk; exact rfl) | (apply wN pk; exact rfl) | (apply wD pk [] []; kernel_rfl; exact rfl; exact rfl) | exact Imp.one | exact Imp.same | refine Imp.left ?_ | exact ImpX.one | exact ImpX.same | exact ImpX.mk | refine ImpX.up ?_ | refine ImpX.old ?_ | (apply pwp_condC; simp only [cond_true, cond_false]) | (refine pwp_cond rfl (fun h => ?_) (fun h => ?_) <;> (try simp at h) <;> (first | done | (exfalso; omega) | skip)) | (refine pwp_ret ?_; refine ⟨_, _, _, rfl, Wk.refl _, StSub.refl _, ?_, rfl⟩; (first | rfl | ((first | (unfold idxP; rw [idx_at (by assumption) (by assumption) hinv]; done) | (unfold idxP; rw [idx_no (by assumption) hinv])); done) | skip)) | (apply callS; exact rfl; exact rfl; exact rfl; (intro _; first | (apply hf <;> first | assumption | omega)); rotate_left; exact rfl; exact rfl) | (apply callV; exact rfl; exact rfl; exact rfl; (intro _; first | (apply hf <;> first | assumption | omega)); rotate_left; exact rfl; exact rfl) | (apply idxS pk; exact rfl; exact rfl; exact rfl; exact rfl; exact rfl; exact rfl; rotate_left; exact rfl; (intro _; exact rfl); (intro _; apply get_map <;> omega); (intro _; exact rfl); exact rfl) | (refine ⟨⟨i + 1, by omega, fun j h1 h2 => by rcases Nat.lt_succ_iff_lt_or_eq.1 h1 with q | q; exact hinv j q h2; subst q; assumption⟩, ?_, by simp only; omega⟩; (first | exact Sub.nil _ _ _ (StSub.refl _) rfl | ((repeat (first | refine Sub.pv ?_ rfl | refine Sub.var ?_ rfl rfl)); (first | exact Sub.nil _ _ _ (StSub.refl _) rfl | exact Sub.nil _ _ _ (stsub_swap (by assumption)) rfl | exact Sub.nil _ _ _ (stsub_eq (by first | rfl | exact upd_eta (by assumption) | ((simp only [St.pv, St.put, St.sst, St.setv, St.nil, St.var, upd_upd]); first | done | rfl))) rfl | (refine Sub.nil _ _ _ (stsub_eq ?_) rfl; (simp only [St.pv, St.put, St.sst, St.setv, St.nil, St.var, upd_upd]); (rw [upd4 (by assumption)]); first | done | rfl))))) | (intros; omega) | (intros; simp only [List.length_map]; omega)))
theorem conN_spec (fid : FuncId) (caps : List PV) (f : Sn → Bool) (l : List Sn) (hl : l.length < 4611686018427387904) (hf : ∀ p, PF Try.prog fid ([.agg p.cells] ++ caps) (PV.val (Value.bool (f p)))) : PF Try.prog 25 [.seq (l.map Sn.cells), .fn fid caps] (PV.val (Value.bool (l.any f))) := by
  refine pf_of tt_ok Try.func25 (by kernel_rfl) rfl rfl rfl rfl (fun st => ?_)
  (try (apply wO pk; exact rfl)); (repeat' (first | exact All.nil | refine All.cons ?_ ?_ | (apply wC pk; exact rfl; exact rfl) | (apply wE pk; exact rfl; exact rfl) | (apply wX pk; exact rfl) | (apply wN pk; exact rfl) | (apply wD pk [] []; kernel_rfl; exact rfl; exact rfl) | exact Imp.one | exact Imp.same | refine Imp.left ?_ | exact ImpX.one | exact ImpX.same | exact ImpX.mk | refine ImpX.up ?_ | refine ImpX.old ?_ | (apply pwp_condC; simp only [cond_true, cond_false]) | (refine pwp_cond rfl (fun h => ?_) (fun h => ?_) <;> (try simp at h) <;> (first | done | (exfalso; omega) | skip)) | (refine pwp_ret ?_; refine ⟨_, _, _, rfl, Wk.refl _, StSub.refl _, ?_, rfl⟩; (first | rfl | ((rw [← idxP_nonneg]); done) | skip)) | (apply callS; exact rfl; exact rfl; exact rfl; (intro _; first | (apply (idxN_spec fid caps f l hl hf) <;> first | assumption | omega)); rotate_left; exact rfl; exact rfl) | (apply callV; exact rfl; exact rfl; exact rfl; (intro _; first | (apply (idxN_spec fid caps f l hl hf) <;> first | assumption | omega)); rotate_left; exact rfl; exact rfl) | (intros; omega) | (intros; simp only [List.length_map]; omega)))
theorem sp_of {st S : Store} {idm : Nat} {D' : List CD} {l : List Ow} {dev : Int} (h : OpS st S idm D' D') (hpd : D'.map CD.pd = atP dev (openP l)) {d : CD} (hd : d ∈ D') (hdev : d.dev = dev) (k : Of) : (mget k (d.sp.map fun e => (e.1, lst e.2))).getD [] = spOf (openP l) dev k := by
  rw [← spOf_at dev dev, ← hpd]
  unfold spOf
  have := findD_mem (L := D'.map CD.pd) (by rw [pd_devs]; exact h.held.devs) (List.mem_map.2 ⟨d, hd, rfl⟩)
  have e : d.pd.dev = dev := hdev
  rw [e] at this
  rw [this]; rfl
def inB (r : Rt) (x : Sn) : Bool := decide (x.lo ≤ r.lo) && decide (r.hi ≤ x.hi)
def holdsP (s : Sc) (l : List Ow) (dev : Int) (r : Rt) : Bool :=
  canonP s l && decide (rightE s r = 0) && deviceB dev && if r.kind = 3 then decide (budgetP s l dev r.table r.col r.lo ≥ r.amt) else (spOf (openP l) dev ⟨r.kind, r.table, r.col, 0⟩).any (inB r)
theorem sp_len (k : Of) : ∀ (rs : List Rt) (d : PD), ((mget k (rs.foldl addR d).sp).getD []).length ≤ rs.length + ((mget k d.sp).getD []).length
  | [], _ => by simp
  | r :: rs, d => by
    rw [List.foldl_cons]
    refine Nat.le_trans (sp_len k rs _) ?_
    unfold addR
    split
    · simp only [List.length_cons]; omega
    · simp only [mget_mset]
      split
      · rename_i h; subst h; simp; omega
      · simp only [List.length_cons]; omega
theorem spOf_len {l : List Ow} (hl : FewO l) (dev : Int) (k : Of) : (spOf (openP l) dev k).length ≤ 1000 := by
  unfold spOf
  cases hf : findD dev (openP l) with
  | none => simp
  | some d =>
    have hd : d ∈ openP l := List.mem_of_find?_eq_some hf
    obtain ⟨o, ho, rfl⟩ := List.mem_map.1 hd
    have := sp_len k o.rights ⟨o.dev, [], []⟩
    have h2 := hl.rts o ho
    simp only
    refine Nat.le_trans this ?_
    simp only [mget, Option.getD_none, List.length_nil]; omega
theorem Sn.len (x : Sn) : x.cells.length = 2 := rfl
theorem holds_spec (s : Sc) (hs : FewS s) (l : List Ow) (hl : FewO l) (dev : Int) (r : Rt) : PF Try.prog 10 [.agg (scC s), .seq (l.map Ow.cells), (PV.val (Value.int .i64 (dev))), .agg r.cells] (PV.val (Value.bool (holdsP s l dev r))) := by
  have hc := canon_spec s hs l hl
  have hd := device_spec dev
  have hr := right_spec s hs r
  have hb := budget_spec s hs l hl dev r.table r.col r.lo
  by_cases hno : canonP s l = false ∨ deviceB dev = false ∨ rightE s r ≠ 0
  · have e : holdsP s l dev r = false := by unfold holdsP; rcases hno with h | h | h <;> simp [h]
    rw [e]
    generalize canonP s l = c at *
    generalize deviceB dev = dv at *
    generalize rightE s r = th at *
    have hno2 : (c = true ∧ th = 0) ∧ dv = true → False := fun ⟨⟨h1, h2⟩, h3⟩ => by rcases hno with h | h | h <;> simp_all
    refine pf_of tt_ok Try.func10 (by kernel_rfl) rfl rfl rfl rfl (fun st => ?_)
    (try (apply wO pk; exact rfl)); (repeat' (first | ((exfalso; exact hno2 (by assumption))) | exact All.nil | refine All.cons ?_ ?_ | (apply wC pk; exact rfl; exact rfl) | (apply wE pk; exact rfl; exact rfl) | (apply wX pk; exact rfl) | (apply wN pk; exact rfl) | (apply wD pk [] []; kernel_rfl; exact rfl; exact rfl) | exact Imp.one | exact Imp.same | refine Imp.left ?_ | exact ImpX.one | exact ImpX.same | exact ImpX.mk | refine ImpX.up ?_ | refine ImpX.old ?_ | (apply pwp_condC; simp only [cond_true, cond_false]) | (refine pwp_cond rfl (fun h => ?_) (fun h => ?_) <;> (try simp at h) <;> (first | done | (exfalso; omega) | skip)) | (refine pwp_ret ?_; refine ⟨_, _, _, rfl, Wk.refl _, StSub.refl _, ?_, rfl⟩; (first | rfl | skip)) | (apply callS; exact rfl; exact rfl; exact rfl; (intro _; first | (apply hc <;> first | assumption | omega) | (apply hd <;> first | assumption | omega) | (apply hr <;> first | assumption | omega)); rotate_left; exact rfl; exact rfl) | (apply callV; exact rfl; exact rfl; exact rfl; (intro _; first | (apply hc <;> first | assumption | omega) | (apply hd <;> first | assumption | omega) | (apply hr <;> first | assumption | omega)); rotate_left; exact rfl; exact rfl) | (intros; omega) | (intros; simp only [List.length_map]; omega)))
  have hcT : canonP s l = true := by cases h : canonP s l with | true => rfl | false => exact absurd (.inl h) hno
  have hdT : deviceB dev = true := by cases h : deviceB dev with | true => rfl | false => exact absurd (.inr (.inl h)) hno
  have hrT : rightE s r = 0 := Decidable.byContradiction fun h => hno (.inr (.inr h))
  have hCO := (canon_iff s l).1 hcT
  have hop := fun st => open_pc st l hl hCO.nodup
  rw [hcT] at hc
  rw [hdT] at hd
  rw [hrT] at hr
  by_cases h3 : r.kind = 3
  · have e : holdsP s l dev r = decide (budgetP s l dev r.table r.col r.lo ≥ r.amt) := by unfold holdsP; simp [hcT, hdT, hrT, h3]
    rw [e]
    generalize budgetP s l dev r.table r.col r.lo = bu at *
    refine pf_of tt_ok Try.func10 (by kernel_rfl) rfl rfl rfl rfl (fun st => ?_)
    (try (apply wO pk; exact rfl)); (repeat' (first | exact All.nil | refine All.cons ?_ ?_ | (apply wC pk; exact rfl; exact rfl) | (apply wE pk; exact rfl; exact rfl) | (apply wX pk; exact rfl) | (apply wN pk; exact rfl) | (apply wD pk [] []; kernel_rfl; exact rfl; exact rfl) | exact Imp.one | exact Imp.same | refine Imp.left ?_ | exact ImpX.one | exact ImpX.same | exact ImpX.mk | refine ImpX.up ?_ | refine ImpX.old ?_ | (apply pwp_condC; simp only [cond_true, cond_false]) | (refine pwp_cond rfl (fun h => ?_) (fun h => ?_) <;> (try simp at h) <;> (first | done | (exfalso; omega) | skip)) | (refine pwp_ret ?_; refine ⟨_, _, _, rfl, Wk.refl _, StSub.refl _, ?_, rfl⟩; (first | rfl | skip)) | (apply callS; exact rfl; exact rfl; exact rfl; (intro _; first | (apply hc <;> first | assumption | omega) | (apply hd <;> first | assumption | omega) | (apply hr <;> first | assumption | omega) | (apply hb <;> first | assumption | omega)); rotate_left; exact rfl; exact rfl) | (apply callV; exact rfl; exact rfl; exact rfl; (intro _; first | (apply hc <;> first | assumption | omega) | (apply hd <;> first | assumption | omega) | (apply hr <;> first | assumption | omega) | (apply hb <;> first | assumption | omega)); rotate_left; exact rfl; exact rfl) | (intros; omega) | (intros; simp only [List.length_map]; omega)))
  have e : holdsP s l dev r = (spOf (openP l) dev ⟨r.kind, r.table, r.col, 0⟩).any (inB r) := by unfold holdsP; simp [hcT, hdT, hrT, h3]
  rw [e]
  have hsl := spOf_len hl dev ⟨r.kind, r.table, r.col, 0⟩
  have hco : ∀ y : List Sn, y.length ≤ 1000 → PF Try.prog 25 [.seq (y.map Sn.cells), .fn 26 [.rp r.cells]] (PV.val (Value.bool (y.any (inB r)))) := fun y hy => conN_spec _ _ (inB r) y (by omega) fun x => holds1_spec x r
  have hco0 := hco [] (by simp)
  have hsp : ∀ {st S : Store} {idm : Nat} {D D' : List CD}, OpS st S idm D' D' → D.map CD.pd = openP l → D'.map CD.pd = atP dev (D.map CD.pd) → ∀ {d : CD}, d ∈ D' → d.dev = dev → (mget (⟨r.kind, r.table, r.col, 0⟩ : Of) (d.sp.map fun e => (e.1, lst e.2))).getD [] = spOf (openP l) dev ⟨r.kind, r.table, r.col, 0⟩ := fun h h2 h3 _ h4 h5 => sp_of h (by rw [h3, h2]) h4 h5 _
  generalize spOf (openP l) dev ⟨r.kind, r.table, r.col, 0⟩ = L at *
  refine pf_of tt_ok Try.func10 (by kernel_rfl) rfl rfl rfl rfl (fun st => ?_)
  (try (apply wO pk; exact rfl)); (repeat' (first | (apply wDO pk [0, 2, 5, 6, 7, 8, 9, 10, 11, 1, 3, 4, 12, 13] [1, 3] [12] [9, 10] [12]; exact rfl; exact rfl; kernel_rfl; exact rfl; exact rfl) | exact All.nil | refine All.cons ?_ ?_ | (apply wC pk; exact rfl; exact rfl) | (apply wE pk; exact rfl; exact rfl) | (apply wX pk; exact rfl) | (apply wN pk; exact rfl) | (apply wDx pk; exact rfl; kernel_rfl; exact rfl; exact rfl) | exact Imp.one | exact Imp.same | refine Imp.left ?_ | exact ImpX.one | exact ImpX.same | exact ImpX.mk | refine ImpX.up ?_ | refine ImpX.old ?_ | (apply pwp_condC; simp only [cond_true, cond_false]) | (refine pwp_cond rfl (fun h => ?_) (fun h => ?_) <;> (try simp at h) <;> (first | done | (exfalso; omega) | skip)) | (refine pwp_ret ?_; refine ⟨_, _, _, rfl, Wk.refl _, StSub.refl _, ?_, rfl⟩; (first | rfl | skip)) | (apply callS; exact rfl; exact rfl; exact rfl; (intro _; first | (apply hc <;> first | assumption | omega) | (apply hd <;> first | assumption | omega) | (apply hr <;> first | assumption | omega) | (apply hb <;> first | assumption | omega)); rotate_left; exact rfl; exact rfl) | (apply callV; exact rfl; exact rfl; exact rfl; (intro _; first | (apply hc <;> first | assumption | omega) | (apply hd <;> first | assumption | omega) | (apply hr <;> first | assumption | omega) | (apply hb <;> first | assumption | omega)); rotate_left; exact rfl; exact rfl) | (apply ncA; exact rfl; exact rfl; exact rfl; rotate_left; exact rfl; exact rfl) | (apply ldR pk; exact rfl; exact rfl; rotate_left; exact rfl; (first | exact upd_same _ _ _ | assumption | (focus ((repeat (first | exact upd_same _ _ _ | assumption | refine (upd_ne (by assumption)).trans ?_)); done))); exact rfl; exact rfl) | (apply stR pk; exact rfl; exact rfl; (first | exact upd_same _ _ _ | assumption | (focus ((repeat (first | exact upd_same _ _ _ | assumption | refine (upd_ne (by assumption)).trans ?_)); done))); exact rfl; exact rfl) | (apply callP; exact rfl; exact rfl; (apply (hop _) <;> first | exact upd_same _ _ _ | assumption | omega | (first | exact upd_same _ _ _ | assumption | (focus ((repeat (first | exact upd_same _ _ _ | assumption | refine (upd_ne (by assumption)).trans ?_)); done)))); exact rfl; exact rfl; exact rfl; intro _ st' hR; obtain ⟨idm, D, rfl, hO, hpd⟩ := hR) | (apply callP; exact rfl; exact rfl; (apply (at_pc hO dev) <;> first | exact upd_same _ _ _ | assumption | omega | (first | exact upd_same _ _ _ | assumption | (focus ((repeat (first | exact upd_same _ _ _ | assumption | refine (upd_ne (by assumption)).trans ?_)); done)))); exact rfl; exact rfl; exact rfl; intro _ st' hR; obtain ⟨D', d, hO', hd', hdev, rfl, hat, hsub⟩ := hR) | (apply callP; exact rfl; exact rfl; (first | (apply fail_no_spec <;> first | exact upd_same _ _ _ | assumption | omega | (simp only [Array.size_setIfInBounds]; omega) | (first | exact upd_same _ _ _ | assumption | (focus ((repeat (first | exact upd_same _ _ _ | assumption | refine (upd_ne (by assumption)).trans ?_)); done))))); exact rfl; exact rfl; exact rfl; intro _ st' hR; (first | subst hR | obtain ⟨rfl, rfl⟩ := hR)) | (apply lkB pk Of.key (f := spF) (k := ⟨r.kind, r.table, r.col, 0⟩); exact rfl; exact rfl; exact rfl; exact rfl; exact rfl; rotate_left; exact rfl; exact (hO'.held.dev _ hd').m1; exact rfl; exact rfl) | (intros; omega) | (intros; simp only [List.length_map]; omega)))
  have hD := hO'.held.dev _ hd'
  rcases spGet ⟨r.kind, r.table, r.col, 0⟩ d.sp with ⟨id, x, q1, q2⟩ | ⟨q1, q2, q3⟩
  · rw [q2]
    have harr := hD.arr _ _ _ (mget_mem q1)
    have hL := hsp hO' hpd hat hd' hdev
    rw [pd_get, q1] at hL
    have hL : x = L := hL
    subst hL
    have hco1 := hco x hsl
    dsimp only [lookPV, Option.getD]
    (try (apply wO pk; exact rfl)); (repeat' (first | exact All.nil | refine All.cons ?_ ?_ | (apply wC pk; exact rfl; exact rfl) | (apply wE pk; exact rfl; exact rfl) | (apply wX pk; exact rfl) | (apply wN pk; exact rfl) | (apply wD pk [] []; kernel_rfl; exact rfl; exact rfl) | exact Imp.one | exact Imp.same | refine Imp.left ?_ | exact ImpX.one | exact ImpX.same | exact ImpX.mk | refine ImpX.up ?_ | refine ImpX.old ?_ | (apply pwp_condC; simp only [cond_true, cond_false]) | (refine pwp_cond rfl (fun h => ?_) (fun h => ?_) <;> (try simp at h) <;> (first | done | (exfalso; omega) | skip)) | (refine pwp_ret ?_; refine ⟨_, _, _, rfl, Wk.refl _, StSub.refl _, ?_, rfl⟩; (first | rfl | skip)) | (apply callS; exact rfl; exact rfl; exact rfl; (intro _; first | (apply hco1 <;> first | assumption | omega)); rotate_left; exact rfl; exact rfl) | (apply callV; exact rfl; exact rfl; exact rfl; (intro _; first | (apply hco1 <;> first | assumption | omega)); rotate_left; exact rfl; exact rfl) | ((apply ev_freezeV 54; exact rfl; exact harr; kernel_rfl; (rw [List.length_map]))) | (apply ev_freeze 7; exact rfl; exact rfl) | (refine pwp_ret ?_; exact ⟨_, _, _, rfl, Wk.refl _, stsub_over hO'.sub (hD.new _ (by simp only [CD.ids, List.mem_cons]; exact .inr (.inr (spI_mem.2 ⟨_, x, mget_mem q1⟩)))), rfl, rfl⟩) | (intros; omega) | (intros; simp only [List.length_map]; omega)))
  · have hL := hsp hO' hpd hat hd' hdev
    rw [q2] at hL
    subst hL
    rcases q1 with q1 | q1
    all_goals
      rw [q1]
      dsimp only [lookPV, Option.getD]
      (try (apply wO pk; exact rfl)); (repeat' (first | exact All.nil | refine All.cons ?_ ?_ | (apply wC pk; exact rfl; exact rfl) | (apply wE pk; exact rfl; exact rfl) | (apply wX pk; exact rfl) | (apply wN pk; exact rfl) | (apply wD pk [] []; kernel_rfl; exact rfl; exact rfl) | exact Imp.one | exact Imp.same | refine Imp.left ?_ | exact ImpX.one | exact ImpX.same | exact ImpX.mk | refine ImpX.up ?_ | refine ImpX.old ?_ | (apply pwp_condC; simp only [cond_true, cond_false]) | (refine pwp_cond rfl (fun h => ?_) (fun h => ?_) <;> (try simp at h) <;> (first | done | (exfalso; omega) | skip)) | (refine pwp_ret ?_; refine ⟨_, _, _, rfl, Wk.refl _, StSub.refl _, ?_, rfl⟩; (first | rfl | skip)) | (apply callS; exact rfl; exact rfl; exact rfl; (intro _; first | (apply hco0 <;> first | assumption | omega)); rotate_left; exact rfl; exact rfl) | (apply callV; exact rfl; exact rfl; exact rfl; (intro _; first | (apply hco0 <;> first | assumption | omega)); rotate_left; exact rfl; exact rfl) | (apply ev_freeze 7; exact rfl; exact rfl) | (refine pwp_ret ?_; exact ⟨_, _, _, rfl, Wk.refl _, hO'.sub, rfl, rfl⟩) | (intros; omega) | (intros; simp only [List.length_map]; omega)))
end Go.Proofs.Ytbcdgocepnkpeaa
