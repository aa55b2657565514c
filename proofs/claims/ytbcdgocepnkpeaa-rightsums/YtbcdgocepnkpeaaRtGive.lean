import Derived.Test.YtbcdgocepnkpeaaRtHandS
set_option linter.unusedSimpArgs false
set_option linter.unusedVariables false
namespace Go.Proofs.Ytbcdgocepnkpeaa
open Go Go.Abs
attribute [local irreducible] Ev PWp
set_option maxRecDepth 10000
set_option maxHeartbeats 4000000
theorem HeldS.sub {st S : Store} {D : List CD} (h : HeldS st S D) (p : CD → Bool) : HeldS st S (D.filter p) :=
  ⟨h.old, fun d hd => h.dev d (List.mem_filter.1 hd).1, h.apart.filter _, by
    have := h.devs
    rw [List.Nodup, List.pairwise_map] at this ⊢
    exact this.filter _⟩
theorem HeldS.congr {st S S' : Store} {D : List CD} (h : HeldS st S D) (hS : ∀ j, st j ≠ none ∨ (∃ d ∈ D, j ∈ d.ids) → S' j = S j) : HeldS st S' D :=
  ⟨fun j hj => (hS j (.inl hj)).trans (h.old j hj), fun d hd => (h.dev d hd).congr fun j hj => hS j (.inr ⟨d, hd, hj⟩), h.apart, h.devs⟩
theorem OpS.congr {st S S' : Store} {idm : Nat} {D E : List CD} (h : OpS st S idm D E) (hm : S' idm = S idm) (hS : ∀ j, st j ≠ none ∨ (∃ d ∈ D, j ∈ d.ids) → S' j = S j) : OpS st S' idm D E :=
  ⟨h.held.congr hS, hm.trans h.hm, h.fm, h.out⟩
theorem OpS.sub2 {st S : Store} {idm : Nat} {D E : List CD} (h : OpS st S idm D E) (p : CD → Bool) : OpS st S idm (D.filter p) E :=
  ⟨h.held.sub p, h.hm, h.fm, fun d hd => h.out d (List.mem_filter.1 hd).1⟩
def addAm (am : List (Of × Int)) (va : List (Of × Int)) : List (Of × Int) := va.foldl (fun am e => mset e.1 ((mget e.1 am).getD 0 + e.2) am) am
theorem addAm_snoc (am va : List (Of × Int)) (e : Of × Int) : addAm am (va ++ [e]) = mset e.1 ((mget e.1 (addAm am va)).getD 0 + e.2) (addAm am va) := by
  unfold addAm; rw [List.foldl_append]; rfl
theorem addAm_other (k : Of) : ∀ (va am : List (Of × Int)), k ∉ va.map (·.1) → mget k (addAm am va) = mget k am
  | [], _, _ => rfl
  | e :: va, am, h => by
    simp only [List.map_cons, List.mem_cons, not_or] at h
    have := addAm_other k va (mset e.1 ((mget e.1 am).getD 0 + e.2) am) h.2
    unfold addAm at this ⊢
    rw [List.foldl_cons, this, mget_mset, if_neg h.1]
end Go.Proofs.Ytbcdgocepnkpeaa
namespace Go.Proofs.Ytbcdgocepnkpeaa
open Go Go.Abs
attribute [local irreducible] Ev PWp
set_option maxRecDepth 10000
set_option maxHeartbeats 4000000
structure GiveArg (s : Sc) (o : List Ow) (a b : Int) : Prop where
  hc : canonP s o = true
  ha : deviceB a = true
  hb : deviceB b = true
  h1 : a ≠ 1
  ne : a ≠ b
theorem give0_pc (s : Sc) (hs : FewS s) (o : List Ow) (ho : FewO o) (a b : Int) (st : Store) (hno : ¬ GiveArg s o a b) : PC Try.prog 17 [.agg (scC s), .seq (o.map Ow.cells), (PV.val (Value.int .i64 (a))), (PV.val (Value.int .i64 (b)))] st fun q S => S = st ∧ q = .tup [.seq [], (PV.val (Value.int .i64 (1)))] := by
  have hc := canon_spec s hs o ho
  have hd1 := device_spec a
  have hd2 := device_spec b
  have hn : (((canonP s o = true ∧ deviceB a = true) ∧ deviceB b = true) ∧ ¬ a = 1) ∧ ¬ a = b → False := fun ⟨⟨⟨⟨x, y⟩, z⟩, u⟩, w⟩ => hno ⟨x, y, z, u, w⟩
  generalize canonP s o = c at *
  generalize deviceB a = d1 at *
  generalize deviceB b = d2 at *
  refine pc_of tt_ok Try.func17 (by kernel_rfl) rfl rfl rfl rfl ?_
  (try (apply wO pk; exact rfl)); (repeat' (first | exact All.nil | refine All.cons ?_ ?_ | (apply wC pk; exact rfl; exact rfl) | (apply wE pk; exact rfl; exact rfl) | (apply wX pk; exact rfl) | (apply wN pk; exact rfl) | (apply wD pk [] []; kernel_rfl; exact rfl; exact rfl) | exact Imp.one | exact Imp.same | refine Imp.left ?_ | exact ImpX.one | exact ImpX.same | exact ImpX.mk | refine ImpX.up ?_ | refine ImpX.old ?_ | (apply pwp_condC; simp only [cond_true, cond_false]) | (refine pwp_cond rfl (fun h => ?_) (fun h => ?_) <;> (try simp at h) <;> (first | done | (exfalso; omega) | skip)) | (refine pwp_ret ?_; refine ⟨_, _, _, rfl, Wk.refl _, StSub.refl _, ?_, rfl⟩; (first | rfl | skip)) | (apply callS; exact rfl; exact rfl; exact rfl; (intro _; first | (apply hc <;> first | assumption | omega) | (apply hd1 <;> first | assumption | omega) | (apply hd2 <;> first | assumption | omega)); rotate_left; exact rfl; exact rfl) | (apply callV; exact rfl; exact rfl; exact rfl; (intro _; first | (apply hc <;> first | assumption | omega) | (apply hd1 <;> first | assumption | omega) | (apply hd2 <;> first | assumption | omega)); rotate_left; exact rfl; exact rfl) | (refine pwp_ret ?_; exact ⟨_, _, st, rfl, Wk.soft _, StSub.refl _, rfl, rfl⟩) | (exfalso; exact hn (by assumption)) | (intros; omega) | (intros; simp only [List.length_map]; omega)))
end Go.Proofs.Ytbcdgocepnkpeaa
namespace Go.Proofs.Ytbcdgocepnkpeaa
open Go Go.Abs
attribute [local irreducible] Ev PWp
set_option maxRecDepth 10000
set_option maxHeartbeats 4000000
structure GV (st S : Store) (idm : Nat) (D2 E : List CD) (da d : CD) (it : Nat) : Prop where
  op : OpS st S idm E D2
  mem : d ∈ E
  itN : st it = none ∧ it ≠ idm ∧ ∀ x ∈ E, it ∉ x.ids
structure GA (st S : Store) (idm : Nat) (E : List CD) (da : CD) (it : Nat) : Prop where
  a1 : S da.i1 = some (.map (ments Of.enc spF (spE da.sp)))
  aA : ∀ k id l, (k, some (id, l)) ∈ da.sp → S id = some (.arr 80 (l.map Sn.cells))
  ap : ∀ j, j = da.i1 ∨ j ∈ spI da.sp → (∀ x ∈ E, j ∉ x.ids) ∧ j ≠ idm ∧ j ≠ it ∧ st j = none
theorem GV.iter {st S : Store} {idm : Nat} {D2 E : List CD} {da d : CD} {it : Nat} (h : GV st S idm D2 E da d it) (o : AObj) : GV st (upd S it (some o)) idm D2 E da d it :=
  ⟨h.op.congr (upd_ne fun e => h.itN.2.1 e.symm) (fun j hj => upd_ne fun e => by
    rcases hj with hj | ⟨x, hx, hj⟩
    · exact hj (by rw [e]; exact h.itN.1)
    · exact h.itN.2.2 x hx (by rw [← e]; exact hj)), h.mem, h.itN⟩
theorem GA.iter {st S : Store} {idm : Nat} {E : List CD} {da : CD} {it : Nat} (h : GA st S idm E da it) (o : AObj) : GA st (upd S it (some o)) idm E da it :=
  ⟨(upd_ne (h.ap _ (.inl rfl)).2.2.1).trans h.a1, fun k id l hk => (upd_ne (h.ap id (.inr (spI_mem.2 ⟨k, l, hk⟩))).2.2.1).trans (h.aA k id l hk), h.ap⟩
end Go.Proofs.Ytbcdgocepnkpeaa
