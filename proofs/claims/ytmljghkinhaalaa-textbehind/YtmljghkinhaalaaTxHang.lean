import Derived.Test.YtmljghkinhaalaaTxOrder
set_option linter.unusedSimpArgs false
set_option linter.unusedVariables false
namespace Go.Proofs.Ytmljghkinhaalaa
open Go Go.Abs
attribute [local irreducible] Ev PWp
set_option maxRecDepth 10000
set_option maxHeartbeats 1000000
instance (a b : Pt) : Decidable (kinLt a b) := by unfold kinLt; infer_instance
def insK (p : Pt) : List Pt → List Pt
  | [] => [p]
  | q :: r => if kinLt q p then q :: insK p r else p :: q :: r
def skids (l : List Pt) (k : Nm) : List Pt := (kids l k).foldr insK []
def hangP (l : List Pt) : Nat → Nm → List Pt
  | 0, _ => []
  | n + 1, k => (skids l k).flatMap fun p => p :: hangP l n (nameOf p)
/-- So deep does it go. -/
def deep (l : List Pt) : Nat → Nm → Prop
  | 0, k => kids l k = []
  | n + 1, k => ∀ p ∈ kids l k, deep l n (nameOf p)
theorem uniq {α : Type} {r : α → α → Prop} : ∀ {l m : List α}, l.Perm m → l.Pairwise r → m.Pairwise r → (∀ a ∈ l, ∀ b ∈ l, r a b → r b a → a = b) → l = m
  | [], m, h, _, _, _ => (List.Perm.nil_eq h)
  | a :: l, [], h, _, _, _ => (by cases List.Perm.eq_nil h)
  | a :: l, b :: m, h, h1, h2, ha => by
    have hab : a = b := by
      rcases List.mem_cons.1 (h.symm.subset (List.mem_cons_self : b ∈ b :: m)) with e | e
      · exact e.symm
      · rcases List.mem_cons.1 (h.subset (List.mem_cons_self : a ∈ a :: l)) with e' | e'
        · exact e'
        · exact ha a List.mem_cons_self b (List.mem_cons_of_mem _ e) ((List.pairwise_cons.1 h1).1 b e) ((List.pairwise_cons.1 h2).1 a e')
    subst hab
    rw [uniq ((List.perm_cons a).1 h) (List.pairwise_cons.1 h1).2 (List.pairwise_cons.1 h2).2 fun x hx y hy => ha x (List.mem_cons_of_mem _ hx) y (List.mem_cons_of_mem _ hy)]
theorem insK_perm (p : Pt) : ∀ (l : List Pt), (insK p l).Perm (p :: l)
  | [] => .refl _
  | q :: r => by
    unfold insK
    split
    · exact ((insK_perm p r).cons q).trans (.swap p q r)
    · exact .refl _
theorem insK_sorted (p : Pt) : ∀ (l : List Pt), (l.Pairwise fun x y => ¬ kinLt y x) → (insK p l).Pairwise fun x y => ¬ kinLt y x
  | [], _ => by simp [insK]
  | q :: r, h => by
    obtain ⟨h1, h2⟩ := List.pairwise_cons.1 h
    unfold insK
    split
    · rename_i hk
      refine List.pairwise_cons.2 ⟨fun x hx => ?_, insK_sorted p r h2⟩
      rcases List.mem_cons.1 ((insK_perm p r).subset hx) with rfl | hx
      · rw [kinLt_iff] at hk ⊢; omega
      · exact h1 x hx
    · rename_i hk
      refine List.pairwise_cons.2 ⟨fun x hx => ?_, h⟩
      rcases List.mem_cons.1 hx with rfl | hx
      · exact hk
      · have := h1 x hx
        rw [kinLt_iff] at hk this ⊢; omega
theorem skids_perm (l : List Pt) (k : Nm) : (skids l k).Perm (kids l k) := by
  unfold skids
  generalize kids l k = m
  induction m with
  | nil => exact .refl _
  | cons p r ih => exact (insK_perm p _).trans (ih.cons p)
theorem skids_sorted (l : List Pt) (k : Nm) : (skids l k).Pairwise fun x y => ¬ kinLt y x := by
  unfold skids
  generalize kids l k = m
  induction m with
  | nil => exact List.Pairwise.nil
  | cons p r ih => exact insK_sorted p _ ih
/-- No two parts have one name. -/
def named (l : List Pt) : Prop := ∀ a ∈ l, ∀ b ∈ l, nameOf a = nameOf b → a = b
theorem kin_tot {l : List Pt} (hn : named l) {a b : Pt} (ha : a ∈ l) (hb : b ∈ l) (h1 : ¬ kinLt a b) (h2 : ¬ kinLt b a) : a = b := by
  refine hn a ha b hb ?_
  rw [kinLt_iff] at h1 h2
  rw [nameOf, nameOf, Nm.mk.injEq, Dt.ext_iff]
  omega
theorem skids_eq {l R : List Pt} {k : Nm} (hn : named l) (hp : R.Perm (kids l k)) (hs : R.Pairwise fun x y => ¬ kinLt y x) : R = skids l k := by
  refine uniq (hp.trans (skids_perm l k).symm) hs (skids_sorted l k) fun a ha b hb h1 h2 => ?_
  have hm : ∀ x ∈ R, x ∈ l := fun x hx => (List.mem_filter.1 (hp.subset hx)).1
  exact kin_tot hn (hm a ha) (hm b hb) h2 h1
theorem lift_formed : ∀ {l : List Pt}, (∀ p ∈ l, formedP p = true) → ∃ L : List Fp, L.map (·.1) = l
  | [], _ => ⟨[], rfl⟩
  | p :: l, h => by
    obtain ⟨L, hL⟩ := lift_formed (l := l) fun q hq => h q (List.mem_cons_of_mem _ hq)
    exact ⟨⟨p, h p List.mem_cons_self⟩ :: L, by simp [hL]⟩
theorem sortP_spec {S : Store} {l : List Pt} {id n : Nat} (hf : ∀ p ∈ l, formedP p = true) (hst : S id = some (.arr 39 (l.map Pt.cells))) (hn : l.length = n) (h62 : n < 4611686018427387904) :
    PC Try.prog 29 [.vec id 11 0 n, .fn 30 []] S fun _ S' => ∃ R : List Pt, S' = upd S id (some (.arr 39 (R.map Pt.cells))) ∧ R.Perm l ∧ R.Pairwise fun x y => ¬ kinLt y x := by
  obtain ⟨L, rfl⟩ := lift_formed hf
  have e : ∀ M : List Fp, (M.map (·.1)).map Pt.cells = M.map fpc := fun M => by rw [List.map_map]; rfl
  rw [e] at hst
  refine SortP.pcw (SortP.sort_spec first_ok first_swo hst (by rw [← hn, List.length_map]) h62) fun _ S' ⟨r, h1, h2, h3⟩ => ⟨r.map (·.1), by rw [e]; exact h1, h2.map _, ?_⟩
  rw [List.pairwise_map]
  refine h3.imp fun {x y} h => ?_
  rw [← firstP_lt]
  have : 0 ≤ firstP y.1 x.1 := h
  omega
/-- What the walk through the children has: who shares what, the lists of children, what has come out. -/
structure HS (st : Store) (l : List Pt) (id5 id8 id9 idm : Nat) (K : List (Nm × (Nat × Nat))) (S : Store) (A : Nm → List Pt) (out : List Pt) : Prop where
  old : ∀ j, st j ≠ none → S j = st j
  f5 : st id5 = none
  f8 : st id8 = none
  f9 : st id9 = none
  fm : st idm = none
  h5 : S id5 = some (.cells 56 [.mref idm])
  h9 : S id9 = some (.cells 60 [.fn 28 [.ref id5 0, .ref id8 0, .ref id9 0]])
  hm : S idm = some (.map (ments Nm.enc vecF K))
  arr : ∀ k id n, (k, (id, n)) ∈ K → S id = some (.arr 39 ((A k).map Pt.cells)) ∧ n = (kids l k).length ∧ st id = none
  ids : (K.map (·.2.1)).Nodup
  keys : (K.map (·.1)).Nodup
  non : ∀ k, mget k K = none → kids l k = []
  perm : ∀ k, (A k).Perm (kids l k)
  h8 : (S id8 = some (.cells 24 [.val (.slice none 0 0)]) ∧ out = []) ∨ ∃ ido, S id8 = some (.cells 24 [.vec ido 11 0 out.length]) ∧ S ido = some (.arr 39 (out.map Pt.cells)) ∧ st ido = none ∧ ∀ k n, (k, (ido, n)) ∉ K
section
variable {st S : Store} {l : List Pt} {id5 id8 id9 idm : Nat} {K : List (Nm × (Nat × Nat))} {A : Nm → List Pt} {out : List Pt}
theorem HS.sorted (h : HS st l id5 id8 id9 idm K S A out) {k : Nm} {id n : Nat} (hk : (k, (id, n)) ∈ K) {R : List Pt} (hR : R.Perm (A k)) :
    HS st l id5 id8 id9 idm K (upd S id (some (.arr 39 (R.map Pt.cells)))) (fun k' => if k' = k then R else A k') out := by
  obtain ⟨a1, a2, a3⟩ := h.arr k id n hk
  have n5 : id5 ≠ id := fun e => by rw [← e, h.h5] at a1; cases a1
  have n9 : id9 ≠ id := fun e => by rw [← e, h.h9] at a1; cases a1
  have nm : idm ≠ id := fun e => by rw [← e, h.hm] at a1; cases a1
  have n8 : id8 ≠ id := fun e => by rcases h.h8 with ⟨h8, _⟩ | ⟨ido, h8, _⟩ <;> rw [← e, h8] at a1 <;> cases a1
  refine ⟨fun j hj => ?_, h.f5, h.f8, h.f9, h.fm, (upd_ne n5).trans h.h5, (upd_ne n9).trans h.h9, (upd_ne nm).trans h.hm, fun k' j m hk' => ?_, h.ids, h.keys, h.non, fun k' => ?_, ?_⟩
  · rw [upd_ne (fun e => by subst e; exact hj a3)]; exact h.old j hj
  · obtain ⟨b1, b2, b3⟩ := h.arr k' j m hk'
    by_cases hj : j = id
    · subst hj
      have := nodup_inj h.ids hk hk' rfl
      simp only [Prod.mk.injEq] at this
      obtain ⟨rfl, _⟩ := this
      exact ⟨by rw [upd_same, if_pos rfl], b2, b3⟩
    · refine ⟨?_, b2, b3⟩
      rw [upd_ne hj, b1, if_neg]
      intro e
      subst e
      have hkk : ∀ {K : List (Nm × (Nat × Nat))}, (K.map (·.1)).Nodup → (k', (id, n)) ∈ K → (k', (j, m)) ∈ K → id = j := by
        intro K hn
        induction K with
        | nil => intro h; cases h
        | cons x K ih =>
          intro h1 h2
          simp only [List.map_cons, List.nodup_cons] at hn
          rcases List.mem_cons.1 h1 with e1 | e1 <;> rcases List.mem_cons.1 h2 with e2 | e2
          · rw [← e1] at e2; exact (Prod.mk.inj (Prod.mk.inj e2).2).1.symm
          · exact (hn.1 (List.mem_map.2 ⟨_, e2, by rw [← e1]⟩)).elim
          · exact (hn.1 (List.mem_map.2 ⟨_, e1, by rw [← e2]⟩)).elim
          · exact ih hn.2 e1 e2
      exact hj (hkk h.keys hk hk').symm
  · by_cases hk' : k' = k
    · subst hk'; simp only [if_true]; exact hR.trans (h.perm k')
    · simp only [if_neg hk']; exact h.perm k'
  · rcases h.h8 with ⟨h8, e⟩ | ⟨ido, h8, b1, b2, b3⟩
    · exact .inl ⟨(upd_ne n8).trans h8, e⟩
    · exact .inr ⟨ido, (upd_ne n8).trans h8, (upd_ne fun e => b3 k n (by rw [e]; exact hk)).trans b1, b2, b3⟩
theorem HS.push (h : HS st l id5 id8 id9 idm K S A out) {S1 : Store} {id' : Nat} (p : Pt) (hid : S id' = none) (hS : ∀ j, S1 j = S j ∨ st j = none ∧ j ≠ id5 ∧ j ≠ id9 ∧ j ≠ idm ∧ ∀ k n, (k, (j, n)) ∉ K) :
    HS st l id5 id8 id9 idm K (upd (upd S1 id' (some (.arr 39 ((out ++ [p]).map Pt.cells)))) id8 (some (.cells 24 [.vec id' 11 0 (out.length + 1)]))) A (out ++ [p]) := by
  have n5 : id5 ≠ id' := fun e => by rw [← e, h.h5] at hid; cases hid
  have n9 : id9 ≠ id' := fun e => by rw [← e, h.h9] at hid; cases hid
  have nm : idm ≠ id' := fun e => by rw [← e, h.hm] at hid; cases hid
  have n8 : id8 ≠ id' := fun e => by rcases h.h8 with ⟨h8, _⟩ | ⟨ido, h8, _⟩ <;> rw [← e, h8] at hid <;> cases hid
  have m5 : id5 ≠ id8 := fun e => by have := h.h5; rcases h.h8 with ⟨h8, _⟩ | ⟨ido, h8, _⟩ <;> rw [e, h8] at this <;> cases this
  have m9 : id9 ≠ id8 := fun e => by have := h.h9; rcases h.h8 with ⟨h8, _⟩ | ⟨ido, h8, _⟩ <;> rw [e, h8] at this <;> cases this
  have mm : idm ≠ id8 := fun e => by have := h.hm; rcases h.h8 with ⟨h8, _⟩ | ⟨ido, h8, _⟩ <;> rw [e, h8] at this <;> cases this
  have hi : st id' = none := by
    cases hs : st id' with
    | none => rfl
    | some o => have := h.old id' (by rw [hs]; simp); rw [hid, hs] at this; cases this
  have g : ∀ j, j ≠ id8 → j ≠ id' → (∀ h : st j = none ∧ j ≠ id5 ∧ j ≠ id9 ∧ j ≠ idm ∧ ∀ k n, (k, (j, n)) ∉ K, False) → upd (upd S1 id' (some (.arr 39 ((out ++ [p]).map Pt.cells)))) id8 (some (.cells 24 [.vec id' 11 0 (out.length + 1)])) j = S j := fun j h1 h2 h3 => by
    rw [upd_ne h1, upd_ne h2]
    rcases hS j with e | e
    · exact e
    · exact (h3 e).elim
  refine ⟨fun j hj => ?_, h.f5, h.f8, h.f9, h.fm, (g id5 m5 n5 fun e => e.2.1 rfl).trans h.h5, (g id9 m9 n9 fun e => e.2.2.1 rfl).trans h.h9, (g idm mm nm fun e => e.2.2.2.1 rfl).trans h.hm, fun k j n hk => ?_, h.ids, h.keys, h.non, h.perm, ?_⟩
  · rw [g j (fun e => by subst e; exact hj h.f8) (fun e => by subst e; exact hj hi) fun e => hj e.1]; exact h.old j hj
  · obtain ⟨b1, b2, b3⟩ := h.arr k j n hk
    have e8 : j ≠ id8 := fun e => by rcases h.h8 with ⟨h8, _⟩ | ⟨ido, h8, _⟩ <;> rw [e, h8] at b1 <;> cases b1
    have e' : j ≠ id' := fun e => by rw [e, hid] at b1; cases b1
    rw [g j e8 e' fun e => e.2.2.2.2 k n hk]
    exact ⟨b1, b2, b3⟩
  · refine .inr ⟨id', by rw [upd_same]; simp, by rw [upd_ne (Ne.symm n8), upd_same], hi, fun k n hk => ?_⟩
    have := (h.arr k id' n hk).1
    rw [hid] at this; cases this
theorem skids_mem {k : Nm} {p : Pt} (h : p ∈ skids l k) : p ∈ l ∧ p ∈ kids l k := by
  have := (skids_perm l k).subset h
  exact ⟨(List.mem_filter.1 this).1, this⟩
/-- The walk through the children. -/
theorem hang_spec (hn : named l) (hf : ∀ p ∈ l, formedP p = true) (h62 : l.length < 4611686018427387904) : ∀ (n : Nat) (up : Nm) (S : Store) (A : Nm → List Pt) (out : List Pt), deep l n up → out.length + (hangP l n up).length ≤ 1000000 → HS st l id5 id8 id9 idm K S A out →
    PC Try.prog 28 [.agg up.cells, .ref id5 0, .ref id8 0, .ref id9 0] S fun _ S' => ∃ A', HS st l id5 id8 id9 idm K S' A' (out ++ hangP l n up) ∧ ∀ k, A k = skids l k → A' k = skids l k := by
  intro n
  induction n using Nat.strongRecOn with
  | ind n ih => ?_
  intro up S A out hd hB h
  have hk : ∀ p ∈ kids l up, n ≠ 0 ∧ deep l (n - 1) (nameOf p) := fun p hp => by
    cases n with
    | zero => rw [show kids l up = [] from hd] at hp; cases hp
    | succ n => exact ⟨by omega, hd p hp⟩
  have hh : hangP l n up = (skids l up).flatMap fun p => p :: hangP l (n - 1) (nameOf p) := by
    cases n with
    | zero => rw [show skids l up = [] from List.Perm.eq_nil ((skids_perm l up).trans (by rw [show kids l up = [] from hd]))]; rfl
    | succ n => rfl
  rw [hh] at hB
  rw [hh]
  clear hh hd
  have hh5 := h.h5
  have hhm := h.hm
  refine pc_of tt_ok Try.func28 (by kernel_rfl) rfl rfl rfl rfl ?_
  (try (apply wO pk; exact rfl)); (repeat' (first | exact All.nil | refine All.cons ?_ ?_ | (apply wC pk; exact rfl; exact rfl) | (apply wE pk; exact rfl; exact rfl) | (apply wX pk; exact rfl) | (apply wN pk; exact rfl) | (apply wDm pk; exact rfl; kernel_rfl; exact rfl; exact rfl) | exact Imp.one | exact Imp.same | refine Imp.left ?_ | exact ImpX.one | exact ImpX.same | exact ImpX.mk | refine ImpX.up ?_ | refine ImpX.old ?_ | (apply pwp_condC; simp only [cond_true, cond_false]) | (refine pwp_cond rfl (fun h => ?_) (fun h => ?_) <;> (try simp at h) <;> (first | done | (exfalso; omega) | skip)) | (refine pwp_ret ?_; refine ⟨_, _, _, rfl, Wk.refl _, StSub.refl _, ?_, rfl⟩; (first | rfl | skip)) | (apply ncA; exact rfl; exact rfl; exact rfl; rotate_left; exact rfl; exact rfl) | (apply ldR pk; exact rfl; exact rfl; rotate_left; exact rfl; (first | exact upd_same _ _ _ | assumption | (focus ((repeat (first | exact upd_same _ _ _ | assumption | refine (upd_ne (by assumption)).trans ?_)); done))); exact rfl; exact rfl) | (apply stR pk; exact rfl; exact rfl; (first | exact upd_same _ _ _ | assumption | (focus ((repeat (first | exact upd_same _ _ _ | assumption | refine (upd_ne (by assumption)).trans ?_)); done))); exact rfl; exact rfl) | (apply lkM2 pk Nm.key (f := vecF); exact rfl; exact rfl; exact rfl; exact rfl; exact rfl; rotate_left; exact rfl; (first | exact upd_same _ _ _ | assumption | (focus ((repeat (first | exact upd_same _ _ _ | assumption | refine (upd_ne (by assumption)).trans ?_)); done))); exact rfl; intro v hv; rotate_left; intro hv; rotate_left) | (apply muA pk Nm.key (f := vecF); (first | exact .inl rfl | exact .inr rfl); exact rfl; exact rfl; exact rfl; exact rfl; exact rfl; (first | exact upd_same _ _ _ | assumption | (focus ((repeat (first | exact upd_same _ _ _ | assumption | refine (upd_ne (by assumption)).trans ?_)); done))); exact rfl) | (apply meA pk Nm.key (f := vecF) (z := (0, 0)); exact rfl; exact rfl; exact rfl; exact rfl; exact rfl; exact rfl; (first | exact upd_same _ _ _ | assumption | (focus ((repeat (first | exact upd_same _ _ _ | assumption | refine (upd_ne (by assumption)).trans ?_)); done))); exact rfl) | (apply lkM2 pk Nm.key (f := vecF) (k := up); exact rfl; exact rfl; exact rfl; exact rfl; exact rfl; rotate_left; exact rfl; (first | exact upd_same _ _ _ | assumption | (focus ((repeat (first | exact upd_same _ _ _ | assumption | refine (upd_ne (by assumption)).trans ?_)); done))); exact rfl; intro v hv; rotate_left; intro hv; rotate_left) | (apply muA pk Nm.key (f := vecF) (k := up); (first | exact .inl rfl | exact .inr rfl); exact rfl; exact rfl; exact rfl; exact rfl; exact rfl; (first | exact upd_same _ _ _ | assumption | (focus ((repeat (first | exact upd_same _ _ _ | assumption | refine (upd_ne (by assumption)).trans ?_)); done))); exact rfl) | (apply meA pk Nm.key (f := vecF) (z := (0, 0)) (k := up); exact rfl; exact rfl; exact rfl; exact rfl; exact rfl; exact rfl; (first | exact upd_same _ _ _ | assumption | (focus ((repeat (first | exact upd_same _ _ _ | assumption | refine (upd_ne (by assumption)).trans ?_)); done))); exact rfl) | (apply esA pk Nm.key (f := vecF); exact rfl; exact rfl; exact rfl; exact rfl; (first | exact upd_same _ _ _ | assumption | (focus ((repeat (first | exact upd_same _ _ _ | assumption | refine (upd_ne (by assumption)).trans ?_)); done))); exact rfl) | (apply ixA pk; exact rfl; exact rfl; exact rfl; exact rfl; exact rfl; rotate_left; exact rfl; (intro hw; (first | exact rfl | (simp [gw] at hw; first | fail | (refine (show _ = ((0 : Nat) : Int) from ?_); omega)) | exact rfl)); (intro hw; (first | omega | (simp [gw] at hw; omega) | (simp only [Array.size_setIfInBounds]; omega))); exact rfl; exact Nat.zero_add _) | (apply ldA pk Pt.elem; exact rfl; exact rfl; rotate_left; exact rfl; (first | exact upd_same _ _ _ | assumption | (focus ((repeat (first | exact upd_same _ _ _ | assumption | refine (upd_ne (by assumption)).trans ?_)); done))); (intro hw; (first | omega | (simp [gw] at hw; omega) | (simp only [Array.size_setIfInBounds]; omega))); exact rfl) | (apply stA pk Pt.elem; exact rfl; exact rfl; exact rfl; (first | exact upd_same _ _ _ | assumption | (focus ((repeat (first | exact upd_same _ _ _ | assumption | refine (upd_ne (by assumption)).trans ?_)); done))); (first | omega | (simp only [Array.size_setIfInBounds]; omega)); exact rfl) | (intros; omega) | (intros; simp only [List.length_map]; omega)))
  · obtain ⟨id, m⟩ := v
    have hmem := mget_mem hv
    obtain ⟨a1, a2, a3⟩ := h.arr _ _ _ hmem
    have hlen : (A up).length = m := by rw [(h.perm up).length_eq, a2]
    have hAf : ∀ p ∈ A up, formedP p = true := fun p hp => hf p (List.mem_filter.1 ((h.perm up).subset hp)).1
    have h62' : m < 4611686018427387904 := by have := kids_len l up; omega
    (try (apply wO pk; exact rfl)); (repeat' (first | exact All.nil | refine All.cons ?_ ?_ | (apply wC pk; exact rfl; exact rfl) | (apply wE pk; exact rfl; exact rfl) | (apply wX pk; exact rfl) | (apply wN pk; exact rfl) | (apply wDx pk; exact rfl; kernel_rfl; exact rfl; exact rfl) | exact Imp.one | exact Imp.same | refine Imp.left ?_ | exact ImpX.one | exact ImpX.same | exact ImpX.mk | refine ImpX.up ?_ | refine ImpX.old ?_ | (apply pwp_condC; simp only [cond_true, cond_false]) | (refine pwp_cond rfl (fun h => ?_) (fun h => ?_) <;> (try simp at h) <;> (first | done | (exfalso; omega) | skip)) | (refine pwp_ret ?_; refine ⟨_, _, _, rfl, Wk.refl _, StSub.refl _, ?_, rfl⟩; (first | rfl | skip)) | (apply ncA; exact rfl; exact rfl; exact rfl; rotate_left; exact rfl; exact rfl) | (apply ldR pk; exact rfl; exact rfl; rotate_left; exact rfl; (first | exact upd_same _ _ _ | assumption | (focus ((repeat (first | exact upd_same _ _ _ | assumption | refine (upd_ne (by assumption)).trans ?_)); done))); exact rfl; exact rfl) | (apply stR pk; exact rfl; exact rfl; (first | exact upd_same _ _ _ | assumption | (focus ((repeat (first | exact upd_same _ _ _ | assumption | refine (upd_ne (by assumption)).trans ?_)); done))); exact rfl; exact rfl) | (apply ixA pk; exact rfl; exact rfl; exact rfl; exact rfl; exact rfl; rotate_left; exact rfl; (intro hw; (first | exact rfl | (simp [gw] at hw; first | fail | (refine (show _ = ((0 : Nat) : Int) from ?_); omega)) | exact rfl)); (intro hw; (first | omega | (simp [gw] at hw; omega) | (simp only [Array.size_setIfInBounds]; omega))); exact rfl; exact Nat.zero_add _) | (apply ldA pk Pt.elem; exact rfl; exact rfl; rotate_left; exact rfl; (first | exact upd_same _ _ _ | assumption | (focus ((repeat (first | exact upd_same _ _ _ | assumption | refine (upd_ne (by assumption)).trans ?_)); done))); (intro hw; (first | omega | (simp [gw] at hw; omega) | (simp only [Array.size_setIfInBounds]; omega))); exact rfl) | (apply stA pk Pt.elem; exact rfl; exact rfl; exact rfl; (first | exact upd_same _ _ _ | assumption | (focus ((repeat (first | exact upd_same _ _ _ | assumption | refine (upd_ne (by assumption)).trans ?_)); done))); (first | omega | (simp only [Array.size_setIfInBounds]; omega)); exact rfl) | (apply callP; exact rfl; exact rfl; (apply (sortP_spec (l := A up) hAf) <;> first | exact upd_same _ _ _ | assumption | omega | (first | exact upd_same _ _ _ | assumption | (focus ((repeat (first | exact upd_same _ _ _ | assumption | refine (upd_ne (by assumption)).trans ?_)); done)))); exact rfl; exact rfl; exact rfl; intro _ st' hR; obtain ⟨R, rfl, hR1, hR2⟩ := hR) | (apply callP; exact rfl; exact rfl; (first | (apply fail_no_spec <;> first | exact upd_same _ _ _ | assumption | omega | (simp only [Array.size_setIfInBounds]; omega) | (first | exact upd_same _ _ _ | assumption | (focus ((repeat (first | exact upd_same _ _ _ | assumption | refine (upd_ne (by assumption)).trans ?_)); done))))); exact rfl; exact rfl; exact rfl; intro _ st' hR; (first | subst hR | obtain ⟨rfl, rfl⟩ := hR)) | (intros; omega) | (intros; simp only [List.length_map]; omega)))
    obtain rfl : R = skids l up := skids_eq hn (hR1.trans (h.perm up)) hR2
    have h := h.sorted hmem hR1
    have hm' : (skids l up).length = m := by rw [hR1.length_eq, hlen]
    have hA0 : ∀ k, A k = skids l k → (if k = up then skids l up else A k) = skids l k := fun k hk => by
      by_cases e : k = up
      · rw [if_pos e, e]
      · rw [if_neg e, hk]
    obtain ⟨A1, h, hA1, hA2⟩ : ∃ A1, HS st l id5 id8 id9 idm K (upd S id (some (.arr 39 ((skids l up).map Pt.cells)))) A1 out ∧ A1 up = skids l up ∧ ∀ k, A k = skids l k → A1 k = skids l k := ⟨_, h, by simp, hA0⟩
    clear hA0 hAf hR1 hR2 hlen a1 a3 hh5 hhm
    refine pwp_loop (X := { x : Nat × Store × (Nm → List Pt) // x.1 ≤ m ∧ HS st l id5 id8 id9 idm K x.2.1 x.2.2 (out ++ ((skids l up).take x.1).flatMap fun p => p :: hangP l (n - 1) (nameOf p)) ∧ x.2.2 up = skids l up ∧ ∀ k, A k = skids l k → x.2.2 k = skids l k }) (fun i => ((((((St.nil 28 (i.1.2.1)).pv 2 (.ref id8 0)).pv 3 (.ref id9 0)).pv 13 (.vec id 11 0 m)).pv 14 ((PV.val (Value.int .i64 ((m : Nat)))))).pv 15 ((PV.val (Value.int .i64 ((i.1.1 : Nat))))))) (fun i => m - i.1.1) ⟨(0, _, A1), by simp, by simpa using h, hA1, hA2⟩ ?_ (fun i => ?_)
    · (first | exact Sub.nil _ _ _ (StSub.refl _) rfl | ((repeat (first | refine Sub.pv ?_ rfl | refine Sub.var ?_ rfl rfl)); (first | exact Sub.nil _ _ _ (StSub.refl _) rfl | exact Sub.nil _ _ _ (stsub_swap (by assumption)) rfl | exact Sub.nil _ _ _ (stsub_eq (by first | rfl | exact upd_eta (by assumption) | ((simp only [St.pv, St.put, St.sst, St.setv, St.nil, St.var, upd_upd]); first | done | rfl))) rfl | (refine Sub.nil _ _ _ (stsub_eq ?_) rfl; (simp only [St.pv, St.put, St.sst, St.setv, St.nil, St.var, upd_upd]); (rw [upd4 (by assumption)]); first | done | rfl))))
    clear h hA1 hA2
    obtain ⟨⟨i, S1, A1⟩, hi, h, hA1, hA2⟩ := i
    simp only at hi h hA1 hA2
    dsimp only
    have b1 := (h.arr _ _ _ hmem).1
    rw [hA1] at b1
    generalize ho : (out ++ ((skids l up).take i).flatMap fun p => p :: hangP l (n - 1) (nameOf p)) = o1 at h
    have hg : i < m → ∃ p, (skids l up)[i]? = some p := fun hi => ⟨_, List.getElem?_eq_getElem (by omega)⟩
    have hh8 := h.h8
    have hH := h
    by_cases him : i < m
    · obtain ⟨p, hp⟩ := hg him
      have hp1 := skids_mem (List.mem_of_getElem? hp)
      obtain ⟨hn0, hdp⟩ := hk p hp1.2
      have hsplit : (skids l up).take (i + 1) = (skids l up).take i ++ [p] := by rw [List.take_add_one, hp]; rfl
      have ho2 : (o1 ++ [p]) ++ hangP l (n - 1) (nameOf p) = out ++ ((skids l up).take (i + 1)).flatMap fun p => p :: hangP l (n - 1) (nameOf p) := by
        rw [hsplit, ← ho]; simp
      have hlen : o1.length + 1 + (hangP l (n - 1) (nameOf p)).length ≤ 1000000 := by
        have e1 := congrArg List.length ho2
        have e2 : skids l up = (skids l up).take (i + 1) ++ (skids l up).drop (i + 1) := (List.take_append_drop _ _).symm
        rw [e2, List.flatMap_append, List.length_append] at hB
        simp only [List.length_append, List.length_singleton] at e1
        omega
      rcases hh8 with ⟨h8, e8⟩ | ⟨ido, h8, c1, c2, c3⟩
      · subst e8
        (try (apply wO pk; exact rfl)); (repeat' (first | exact All.nil | refine All.cons ?_ ?_ | (apply wC pk; exact rfl; exact rfl) | (apply wE pk; exact rfl; exact rfl) | (apply wX pk; exact rfl) | (apply wN pk; exact rfl) | (apply wDx pk; exact rfl; kernel_rfl; exact rfl; exact rfl) | exact Imp.one | exact Imp.same | refine Imp.left ?_ | exact ImpX.one | exact ImpX.same | exact ImpX.mk | refine ImpX.up ?_ | refine ImpX.old ?_ | (apply pwp_condC; simp only [cond_true, cond_false]) | (refine pwp_cond rfl (fun h => ?_) (fun h => ?_) <;> (try simp at h) <;> (first | done | (exfalso; omega) | skip)) | (refine pwp_ret ?_; refine ⟨_, _, _, rfl, Wk.refl _, StSub.refl _, ?_, rfl⟩; (first | rfl | skip)) | (apply ncA; exact rfl; exact rfl; exact rfl; rotate_left; exact rfl; exact rfl) | (apply ldR pk; exact rfl; exact rfl; rotate_left; exact rfl; (first | exact upd_same _ _ _ | assumption | (focus ((repeat (first | exact upd_same _ _ _ | assumption | refine (upd_ne (by assumption)).trans ?_)); done))); exact rfl; exact rfl) | (apply stR pk; exact rfl; exact rfl; (first | exact upd_same _ _ _ | assumption | (focus ((repeat (first | exact upd_same _ _ _ | assumption | refine (upd_ne (by assumption)).trans ?_)); done))); exact rfl; exact rfl) | (apply ldL pk Pt.elem (a := p); exact rfl; exact rfl; rotate_left; exact rfl; (first | exact upd_same _ _ _ | assumption | (focus ((repeat (first | exact upd_same _ _ _ | assumption | refine (upd_ne (by assumption)).trans ?_)); done))); (intro _; exact hp); exact rfl) | (apply apV pk (f := Pt.cells) [p] 96; exact rfl; exact rfl; exact rfl; exact rfl; exact rfl; exact rfl; exact rfl; exact rfl; exact rfl; (first | exact upd_same _ _ _ | assumption | (focus ((repeat (first | exact upd_same _ _ _ | assumption | refine (upd_ne (by assumption)).trans ?_)); done))); (first | omega | assumption | (focus (simp; done)) | (focus (simp; omega)) | (focus (simp at *; omega))); exact fun _ => rfl; exact fun _ => rfl; exact bytesP; (first | omega | assumption | (focus (simp; done)) | (focus (simp; omega)) | (focus (simp at *; omega))); (first | omega | assumption | (focus (simp; done)) | (focus (simp; omega)) | (focus (simp at *; omega))); exact rfl; intro id' hid') | (apply ap0 pk (f := Pt.cells) [p] 96; exact rfl; exact rfl; exact rfl; exact rfl; exact rfl; exact rfl; exact rfl; exact rfl; exact rfl; exact rfl; exact fun _ => rfl; exact fun _ => rfl; exact bytesP; (first | omega | assumption | (focus (simp; done)) | (focus (simp; omega)) | (focus (simp at *; omega))); (first | omega | assumption | (focus (simp; done)) | (focus (simp; omega)) | (focus (simp at *; omega))); exact rfl; intro id' hid') | (apply ixA pk; exact rfl; exact rfl; exact rfl; exact rfl; exact rfl; rotate_left; exact rfl; (intro hw; (first | exact (show _ = ((i : Nat) : Int) from by omega) | (simp [gw] at hw; first | exact (show _ = ((i : Nat) : Int) from by omega) | (refine (show _ = ((0 : Nat) : Int) from ?_); omega)) | exact rfl)); (intro hw; (first | omega | (simp [gw] at hw; omega) | (simp only [Array.size_setIfInBounds]; omega))); exact rfl; exact Nat.zero_add _) | (apply ldA pk Pt.elem; exact rfl; exact rfl; rotate_left; exact rfl; (first | exact upd_same _ _ _ | assumption | (focus ((repeat (first | exact upd_same _ _ _ | assumption | refine (upd_ne (by assumption)).trans ?_)); done))); (intro hw; (first | omega | (simp [gw] at hw; omega) | (simp only [Array.size_setIfInBounds]; omega))); exact rfl) | (apply stA pk Pt.elem; exact rfl; exact rfl; exact rfl; (first | exact upd_same _ _ _ | assumption | (focus ((repeat (first | exact upd_same _ _ _ | assumption | refine (upd_ne (by assumption)).trans ?_)); done))); (first | omega | (simp only [Array.size_setIfInBounds]; omega)); exact rfl) | (intros; omega) | (intros; simp only [List.length_map]; omega)))
        have hid'' : S1 id' = none := hid'
        have n8 : id8 ≠ id' := fun e => by rw [← e, h8] at hid''; cases hid''
        have q := hH.push p hid'' (S1 := S1) fun j => .inl rfl
        have q9 := q.h9
        apply stR pk; exact rfl; exact rfl; exact (upd_ne n8).trans h8; exact rfl; exact rfl
        (try (apply wO pk; exact rfl)); (repeat' (first | (apply wD pk [3] [0]; kernel_rfl; exact rfl; exact rfl) | exact All.nil | refine All.cons ?_ ?_ | (apply wC pk; exact rfl; exact rfl) | (apply wE pk; exact rfl; exact rfl) | (apply wX pk; exact rfl) | (apply wN pk; exact rfl) | (apply wDx pk; exact rfl; kernel_rfl; exact rfl; exact rfl) | exact Imp.one | exact Imp.same | refine Imp.left ?_ | exact ImpX.one | exact ImpX.same | exact ImpX.mk | refine ImpX.up ?_ | refine ImpX.old ?_ | (apply pwp_condC; simp only [cond_true, cond_false]) | (refine pwp_cond rfl (fun h => ?_) (fun h => ?_) <;> (try simp at h) <;> (first | done | (exfalso; omega) | skip)) | (refine pwp_ret ?_; refine ⟨_, _, _, rfl, Wk.refl _, StSub.refl _, ?_, rfl⟩; (first | rfl | skip)) | (apply callS; exact rfl; exact rfl; exact rfl; (intro _; first | (apply of_spec <;> first | assumption | omega)); rotate_left; exact rfl; exact rfl) | (apply callV; exact rfl; exact rfl; exact rfl; (intro _; first | (apply of_spec <;> first | assumption | omega)); rotate_left; exact rfl; exact rfl) | (apply ncA; exact rfl; exact rfl; exact rfl; rotate_left; exact rfl; exact rfl) | (apply ldR pk; exact rfl; exact rfl; rotate_left; exact rfl; (first | exact upd_same _ _ _ | assumption | (focus ((repeat (first | exact upd_same _ _ _ | assumption | refine (upd_ne (by assumption)).trans ?_)); done))); exact rfl; exact rfl) | (apply stR pk; exact rfl; exact rfl; (first | exact upd_same _ _ _ | assumption | (focus ((repeat (first | exact upd_same _ _ _ | assumption | refine (upd_ne (by assumption)).trans ?_)); done))); exact rfl; exact rfl) | (apply ixA pk; exact rfl; exact rfl; exact rfl; exact rfl; exact rfl; rotate_left; exact rfl; (intro hw; (first | exact rfl | (simp [gw] at hw; first | fail | (refine (show _ = ((0 : Nat) : Int) from ?_); omega)) | exact rfl)); (intro hw; (first | omega | (simp [gw] at hw; omega) | (simp only [Array.size_setIfInBounds]; omega))); exact rfl; exact Nat.zero_add _) | (apply ldA pk Pt.elem; exact rfl; exact rfl; rotate_left; exact rfl; (first | exact upd_same _ _ _ | assumption | (focus ((repeat (first | exact upd_same _ _ _ | assumption | refine (upd_ne (by assumption)).trans ?_)); done))); (intro hw; (first | omega | (simp [gw] at hw; omega) | (simp only [Array.size_setIfInBounds]; omega))); exact rfl) | (apply stA pk Pt.elem; exact rfl; exact rfl; exact rfl; (first | exact upd_same _ _ _ | assumption | (focus ((repeat (first | exact upd_same _ _ _ | assumption | refine (upd_ne (by assumption)).trans ?_)); done))); (first | omega | (simp only [Array.size_setIfInBounds]; omega)); exact rfl) | (apply callP; exact rfl; exact rfl; (apply (ih (n - 1) (by omega) (nameOf p) _ _ _ hdp (by simp only [List.length_append, List.length_singleton] at hlen ⊢; omega) q) <;> first | exact upd_same _ _ _ | assumption | omega | (first | exact upd_same _ _ _ | assumption | (focus ((repeat (first | exact upd_same _ _ _ | assumption | refine (upd_ne (by assumption)).trans ?_)); done)))); exact rfl; exact rfl; exact rfl; intro _ st' hR; obtain ⟨A2, hA3, hA4⟩ := hR) | (apply callP; exact rfl; exact rfl; (first | (apply fail_no_spec <;> first | exact upd_same _ _ _ | assumption | omega | (simp only [Array.size_setIfInBounds]; omega) | (first | exact upd_same _ _ _ | assumption | (focus ((repeat (first | exact upd_same _ _ _ | assumption | refine (upd_ne (by assumption)).trans ?_)); done))))); exact rfl; exact rfl; exact rfl; intro _ st' hR; (first | subst hR | obtain ⟨rfl, rfl⟩ := hR)) | (refine ⟨⟨(i + 1, st', A2), by simp only; omega, by simp only; rw [← ho2]; exact hA3, hA4 up hA1, fun k e => hA4 k (hA2 k e)⟩, ?_, by simp only; omega⟩; (first | exact Sub.nil _ _ _ (StSub.refl _) rfl | ((repeat (first | refine Sub.pv ?_ rfl | refine Sub.var ?_ rfl rfl)); (first | exact Sub.nil _ _ _ (StSub.refl _) rfl | exact Sub.nil _ _ _ (stsub_swap (by assumption)) rfl | exact Sub.nil _ _ _ (stsub_eq (by first | rfl | exact upd_eta (by assumption) | ((simp only [St.pv, St.put, St.sst, St.setv, St.nil, St.var, upd_upd]); first | done | rfl))) rfl | (refine Sub.nil _ _ _ (stsub_eq ?_) rfl; (simp only [St.pv, St.put, St.sst, St.setv, St.nil, St.var, upd_upd]); (rw [upd4 (by assumption)]); first | done | rfl))))) | (intros; omega) | (intros; simp only [List.length_map]; omega)))
      · (try (apply wO pk; exact rfl)); (repeat' (first | exact All.nil | refine All.cons ?_ ?_ | (apply wC pk; exact rfl; exact rfl) | (apply wE pk; exact rfl; exact rfl) | (apply wX pk; exact rfl) | (apply wN pk; exact rfl) | (apply wDx pk; exact rfl; kernel_rfl; exact rfl; exact rfl) | exact Imp.one | exact Imp.same | refine Imp.left ?_ | exact ImpX.one | exact ImpX.same | exact ImpX.mk | refine ImpX.up ?_ | refine ImpX.old ?_ | (apply pwp_condC; simp only [cond_true, cond_false]) | (refine pwp_cond rfl (fun h => ?_) (fun h => ?_) <;> (try simp at h) <;> (first | done | (exfalso; omega) | skip)) | (refine pwp_ret ?_; refine ⟨_, _, _, rfl, Wk.refl _, StSub.refl _, ?_, rfl⟩; (first | rfl | skip)) | (apply ncA; exact rfl; exact rfl; exact rfl; rotate_left; exact rfl; exact rfl) | (apply ldR pk; exact rfl; exact rfl; rotate_left; exact rfl; (first | exact upd_same _ _ _ | assumption | (focus ((repeat (first | exact upd_same _ _ _ | assumption | refine (upd_ne (by assumption)).trans ?_)); done))); exact rfl; exact rfl) | (apply stR pk; exact rfl; exact rfl; (first | exact upd_same _ _ _ | assumption | (focus ((repeat (first | exact upd_same _ _ _ | assumption | refine (upd_ne (by assumption)).trans ?_)); done))); exact rfl; exact rfl) | (apply ldL pk Pt.elem (a := p); exact rfl; exact rfl; rotate_left; exact rfl; (first | exact upd_same _ _ _ | assumption | (focus ((repeat (first | exact upd_same _ _ _ | assumption | refine (upd_ne (by assumption)).trans ?_)); done))); (intro _; exact hp); exact rfl) | (apply apV pk (f := Pt.cells) [p] 96; exact rfl; exact rfl; exact rfl; exact rfl; exact rfl; exact rfl; exact rfl; exact rfl; exact rfl; (first | exact upd_same _ _ _ | assumption | (focus ((repeat (first | exact upd_same _ _ _ | assumption | refine (upd_ne (by assumption)).trans ?_)); done))); (first | omega | assumption | (focus (simp; done)) | (focus (simp; omega)) | (focus (simp at *; omega))); exact fun _ => rfl; exact fun _ => rfl; exact bytesP; (first | omega | assumption | (focus (simp; done)) | (focus (simp; omega)) | (focus (simp at *; omega))); (first | omega | assumption | (focus (simp; done)) | (focus (simp; omega)) | (focus (simp at *; omega))); exact rfl; intro id' hid') | (apply ap0 pk (f := Pt.cells) [p] 96; exact rfl; exact rfl; exact rfl; exact rfl; exact rfl; exact rfl; exact rfl; exact rfl; exact rfl; exact rfl; exact fun _ => rfl; exact fun _ => rfl; exact bytesP; (first | omega | assumption | (focus (simp; done)) | (focus (simp; omega)) | (focus (simp at *; omega))); (first | omega | assumption | (focus (simp; done)) | (focus (simp; omega)) | (focus (simp at *; omega))); exact rfl; intro id' hid') | (apply ixA pk; exact rfl; exact rfl; exact rfl; exact rfl; exact rfl; rotate_left; exact rfl; (intro hw; (first | exact (show _ = ((i : Nat) : Int) from by omega) | (simp [gw] at hw; first | exact (show _ = ((i : Nat) : Int) from by omega) | (refine (show _ = ((0 : Nat) : Int) from ?_); omega)) | exact rfl)); (intro hw; (first | omega | (simp [gw] at hw; omega) | (simp only [Array.size_setIfInBounds]; omega))); exact rfl; exact Nat.zero_add _) | (apply ldA pk Pt.elem; exact rfl; exact rfl; rotate_left; exact rfl; (first | exact upd_same _ _ _ | assumption | (focus ((repeat (first | exact upd_same _ _ _ | assumption | refine (upd_ne (by assumption)).trans ?_)); done))); (intro hw; (first | omega | (simp [gw] at hw; omega) | (simp only [Array.size_setIfInBounds]; omega))); exact rfl) | (apply stA pk Pt.elem; exact rfl; exact rfl; exact rfl; (first | exact upd_same _ _ _ | assumption | (focus ((repeat (first | exact upd_same _ _ _ | assumption | refine (upd_ne (by assumption)).trans ?_)); done))); (first | omega | (simp only [Array.size_setIfInBounds]; omega)); exact rfl) | (intros; omega) | (intros; simp only [List.length_map]; omega)))
        have hid'' : S1 id' = none := hid'
        have n8 : id8 ≠ id' := fun e => by rw [← e, h8] at hid''; cases hid''
        have m8 : id8 ≠ ido := fun e => by rw [← e, h8] at c1; cases c1
        have q := hH.push p hid'' (S1 := upd S1 ido none) fun j => by
          by_cases e : j = ido
          · subst e
            exact .inr ⟨c2, (fun e => by rw [e, hH.h5] at c1; cases c1), (fun e => by rw [e, hH.h9] at c1; cases c1), (fun e => by rw [e, hH.hm] at c1; cases c1), c3⟩
          · exact .inl (upd_ne e)
        have q9 := q.h9
        apply stR pk; exact rfl; exact rfl; exact (upd_ne n8).trans ((upd_ne m8).trans h8); exact rfl; exact rfl
        (try (apply wO pk; exact rfl)); (repeat' (first | (apply wD pk [3] [0]; kernel_rfl; exact rfl; exact rfl) | exact All.nil | refine All.cons ?_ ?_ | (apply wC pk; exact rfl; exact rfl) | (apply wE pk; exact rfl; exact rfl) | (apply wX pk; exact rfl) | (apply wN pk; exact rfl) | (apply wDx pk; exact rfl; kernel_rfl; exact rfl; exact rfl) | exact Imp.one | exact Imp.same | refine Imp.left ?_ | exact ImpX.one | exact ImpX.same | exact ImpX.mk | refine ImpX.up ?_ | refine ImpX.old ?_ | (apply pwp_condC; simp only [cond_true, cond_false]) | (refine pwp_cond rfl (fun h => ?_) (fun h => ?_) <;> (try simp at h) <;> (first | done | (exfalso; omega) | skip)) | (refine pwp_ret ?_; refine ⟨_, _, _, rfl, Wk.refl _, StSub.refl _, ?_, rfl⟩; (first | rfl | skip)) | (apply callS; exact rfl; exact rfl; exact rfl; (intro _; first | (apply of_spec <;> first | assumption | omega)); rotate_left; exact rfl; exact rfl) | (apply callV; exact rfl; exact rfl; exact rfl; (intro _; first | (apply of_spec <;> first | assumption | omega)); rotate_left; exact rfl; exact rfl) | (apply ncA; exact rfl; exact rfl; exact rfl; rotate_left; exact rfl; exact rfl) | (apply ldR pk; exact rfl; exact rfl; rotate_left; exact rfl; (first | exact upd_same _ _ _ | assumption | (focus ((repeat (first | exact upd_same _ _ _ | assumption | refine (upd_ne (by assumption)).trans ?_)); done))); exact rfl; exact rfl) | (apply stR pk; exact rfl; exact rfl; (first | exact upd_same _ _ _ | assumption | (focus ((repeat (first | exact upd_same _ _ _ | assumption | refine (upd_ne (by assumption)).trans ?_)); done))); exact rfl; exact rfl) | (apply ixA pk; exact rfl; exact rfl; exact rfl; exact rfl; exact rfl; rotate_left; exact rfl; (intro hw; (first | exact rfl | (simp [gw] at hw; first | fail | (refine (show _ = ((0 : Nat) : Int) from ?_); omega)) | exact rfl)); (intro hw; (first | omega | (simp [gw] at hw; omega) | (simp only [Array.size_setIfInBounds]; omega))); exact rfl; exact Nat.zero_add _) | (apply ldA pk Pt.elem; exact rfl; exact rfl; rotate_left; exact rfl; (first | exact upd_same _ _ _ | assumption | (focus ((repeat (first | exact upd_same _ _ _ | assumption | refine (upd_ne (by assumption)).trans ?_)); done))); (intro hw; (first | omega | (simp [gw] at hw; omega) | (simp only [Array.size_setIfInBounds]; omega))); exact rfl) | (apply stA pk Pt.elem; exact rfl; exact rfl; exact rfl; (first | exact upd_same _ _ _ | assumption | (focus ((repeat (first | exact upd_same _ _ _ | assumption | refine (upd_ne (by assumption)).trans ?_)); done))); (first | omega | (simp only [Array.size_setIfInBounds]; omega)); exact rfl) | (apply callP; exact rfl; exact rfl; (apply (ih (n - 1) (by omega) (nameOf p) _ _ _ hdp (by simp only [List.length_append, List.length_singleton] at hlen ⊢; omega) q) <;> first | exact upd_same _ _ _ | assumption | omega | (first | exact upd_same _ _ _ | assumption | (focus ((repeat (first | exact upd_same _ _ _ | assumption | refine (upd_ne (by assumption)).trans ?_)); done)))); exact rfl; exact rfl; exact rfl; intro _ st' hR; obtain ⟨A2, hA3, hA4⟩ := hR) | (apply callP; exact rfl; exact rfl; (first | (apply fail_no_spec <;> first | exact upd_same _ _ _ | assumption | omega | (simp only [Array.size_setIfInBounds]; omega) | (first | exact upd_same _ _ _ | assumption | (focus ((repeat (first | exact upd_same _ _ _ | assumption | refine (upd_ne (by assumption)).trans ?_)); done))))); exact rfl; exact rfl; exact rfl; intro _ st' hR; (first | subst hR | obtain ⟨rfl, rfl⟩ := hR)) | (refine ⟨⟨(i + 1, st', A2), by simp only; omega, by simp only; rw [← ho2]; exact hA3, hA4 up hA1, fun k e => hA4 k (hA2 k e)⟩, ?_, by simp only; omega⟩; (first | exact Sub.nil _ _ _ (StSub.refl _) rfl | ((repeat (first | refine Sub.pv ?_ rfl | refine Sub.var ?_ rfl rfl)); (first | exact Sub.nil _ _ _ (StSub.refl _) rfl | exact Sub.nil _ _ _ (stsub_swap (by assumption)) rfl | exact Sub.nil _ _ _ (stsub_eq (by first | rfl | exact upd_eta (by assumption) | ((simp only [St.pv, St.put, St.sst, St.setv, St.nil, St.var, upd_upd]); first | done | rfl))) rfl | (refine Sub.nil _ _ _ (stsub_eq ?_) rfl; (simp only [St.pv, St.put, St.sst, St.setv, St.nil, St.var, upd_upd]); (rw [upd4 (by assumption)]); first | done | rfl))))) | (intros; omega) | (intros; simp only [List.length_map]; omega)))
    · have hfin : HS st l id5 id8 id9 idm K S1 A1 (out ++ (skids l up).flatMap fun p => p :: hangP l (n - 1) (nameOf p)) := by
        rw [List.take_of_length_le (by omega)] at ho; rw [ho]; exact h
      (try (apply wO pk; exact rfl)); (repeat' (first | exact All.nil | refine All.cons ?_ ?_ | (apply wC pk; exact rfl; exact rfl) | (apply wE pk; exact rfl; exact rfl) | (apply wX pk; exact rfl) | (apply wN pk; exact rfl) | (apply wDx pk; exact rfl; kernel_rfl; exact rfl; exact rfl) | exact Imp.one | exact Imp.same | refine Imp.left ?_ | exact ImpX.one | exact ImpX.same | exact ImpX.mk | refine ImpX.up ?_ | refine ImpX.old ?_ | (apply pwp_condC; simp only [cond_true, cond_false]) | (refine pwp_cond rfl (fun h => ?_) (fun h => ?_) <;> (try simp at h) <;> (first | done | (exfalso; omega) | skip)) | ((try refine pwp_ret ?_); (first | (refine ⟨_, _, _, rfl, Wk.refl _, StSub.refl _, ?_⟩; ((exact ⟨A1, hfin, hA2⟩)); done) | (refine ⟨_, _, ?zs, rfl, Wk.refl _, ?zh, ?zr⟩; (case zh => (refine stsub_over ?_ (by assumption); (repeat refine stsub_over ?_ (by assumption)); exact StSub.refl _)); (case zr => ((exact ⟨A1, hfin, hA2⟩)))) | refine ⟨_, _, _, rfl, Wk.refl _, StSub.refl _, ?_⟩)) | (apply ncA; exact rfl; exact rfl; exact rfl; rotate_left; exact rfl; exact rfl) | (apply ldR pk; exact rfl; exact rfl; rotate_left; exact rfl; (first | exact upd_same _ _ _ | assumption | (focus ((repeat (first | exact upd_same _ _ _ | assumption | refine (upd_ne (by assumption)).trans ?_)); done))); exact rfl; exact rfl) | (apply stR pk; exact rfl; exact rfl; (first | exact upd_same _ _ _ | assumption | (focus ((repeat (first | exact upd_same _ _ _ | assumption | refine (upd_ne (by assumption)).trans ?_)); done))); exact rfl; exact rfl) | (apply ixA pk; exact rfl; exact rfl; exact rfl; exact rfl; exact rfl; rotate_left; exact rfl; (intro hw; (first | exact (show _ = ((i : Nat) : Int) from by omega) | (simp [gw] at hw; first | exact (show _ = ((i : Nat) : Int) from by omega) | (refine (show _ = ((0 : Nat) : Int) from ?_); omega)) | exact rfl)); (intro hw; (first | omega | (simp [gw] at hw; omega) | (simp only [Array.size_setIfInBounds]; omega))); exact rfl; exact Nat.zero_add _) | (apply ldA pk Pt.elem; exact rfl; exact rfl; rotate_left; exact rfl; (first | exact upd_same _ _ _ | assumption | (focus ((repeat (first | exact upd_same _ _ _ | assumption | refine (upd_ne (by assumption)).trans ?_)); done))); (intro hw; (first | omega | (simp [gw] at hw; omega) | (simp only [Array.size_setIfInBounds]; omega))); exact rfl) | (apply stA pk Pt.elem; exact rfl; exact rfl; exact rfl; (first | exact upd_same _ _ _ | assumption | (focus ((repeat (first | exact upd_same _ _ _ | assumption | refine (upd_ne (by assumption)).trans ?_)); done))); (first | omega | (simp only [Array.size_setIfInBounds]; omega)); exact rfl) | (intros; omega) | (intros; simp only [List.length_map]; omega)))
  · have hk0 := h.non _ hv
    have hs0 : skids l up = [] := List.Perm.eq_nil ((skids_perm l up).trans (by rw [hk0]))
    have hfin : HS st l id5 id8 id9 idm K S A (out ++ (skids l up).flatMap fun p => p :: hangP l (n - 1) (nameOf p)) := by
      rw [hs0]; simpa using h
    (try (apply wO pk; exact rfl)); (repeat' (first | exact All.nil | refine All.cons ?_ ?_ | (apply wC pk; exact rfl; exact rfl) | (apply wE pk; exact rfl; exact rfl) | (apply wX pk; exact rfl) | (apply wN pk; exact rfl) | (apply wDx pk; exact rfl; kernel_rfl; exact rfl; exact rfl) | exact Imp.one | exact Imp.same | refine Imp.left ?_ | exact ImpX.one | exact ImpX.same | exact ImpX.mk | refine ImpX.up ?_ | refine ImpX.old ?_ | (apply pwp_condC; simp only [cond_true, cond_false]) | (refine pwp_cond rfl (fun h => ?_) (fun h => ?_) <;> (try simp at h) <;> (first | done | (exfalso; omega) | skip)) | (refine pwp_ret ?_; refine ⟨_, _, _, rfl, Wk.refl _, StSub.refl _, ?_, rfl⟩; (first | rfl | skip)) | (apply ncA; exact rfl; exact rfl; exact rfl; rotate_left; exact rfl; exact rfl) | (apply ldR pk; exact rfl; exact rfl; rotate_left; exact rfl; (first | exact upd_same _ _ _ | assumption | (focus ((repeat (first | exact upd_same _ _ _ | assumption | refine (upd_ne (by assumption)).trans ?_)); done))); exact rfl; exact rfl) | (apply stR pk; exact rfl; exact rfl; (first | exact upd_same _ _ _ | assumption | (focus ((repeat (first | exact upd_same _ _ _ | assumption | refine (upd_ne (by assumption)).trans ?_)); done))); exact rfl; exact rfl) | (apply ixA pk; exact rfl; exact rfl; exact rfl; exact rfl; exact rfl; rotate_left; exact rfl; (intro hw; (first | exact rfl | (simp [gw] at hw; first | fail | (refine (show _ = ((0 : Nat) : Int) from ?_); omega)) | exact rfl)); (intro hw; (first | omega | (simp [gw] at hw; omega) | (simp only [Array.size_setIfInBounds]; omega))); exact rfl; exact Nat.zero_add _) | (apply ldA pk Pt.elem; exact rfl; exact rfl; rotate_left; exact rfl; (first | exact upd_same _ _ _ | assumption | (focus ((repeat (first | exact upd_same _ _ _ | assumption | refine (upd_ne (by assumption)).trans ?_)); done))); (intro hw; (first | omega | (simp [gw] at hw; omega) | (simp only [Array.size_setIfInBounds]; omega))); exact rfl) | (apply stA pk Pt.elem; exact rfl; exact rfl; exact rfl; (first | exact upd_same _ _ _ | assumption | (focus ((repeat (first | exact upd_same _ _ _ | assumption | refine (upd_ne (by assumption)).trans ?_)); done))); (first | omega | (simp only [Array.size_setIfInBounds]; omega)); exact rfl) | (apply callP; exact rfl; exact rfl; (first | (apply SortP.sort_nil <;> first | exact upd_same _ _ _ | assumption | omega | (simp only [Array.size_setIfInBounds]; omega) | (first | exact upd_same _ _ _ | assumption | (focus ((repeat (first | exact upd_same _ _ _ | assumption | refine (upd_ne (by assumption)).trans ?_)); done))))); exact rfl; exact rfl; exact rfl; intro _ st' hR; (first | subst hR | obtain ⟨rfl, rfl⟩ := hR)) | (intros; omega) | (intros; simp only [List.length_map]; omega)))
    refine pwp_loop (X := Unit) (fun i => ((((((St.nil 28 (st')).pv 2 (.ref id8 0)).pv 3 (.ref id9 0)).pv 13 (.val (.slice none 0 0))).pv 14 ((PV.val (Value.int .i64 (((([] : List (List PV)).length : Nat) : Int)))))).pv 15 ((PV.val (Value.int .i64 (0)))))) (fun i => 0) () ?_ (fun i => ?_)
    · (first | exact Sub.nil _ _ _ (StSub.refl _) rfl | ((repeat (first | refine Sub.pv ?_ rfl | refine Sub.var ?_ rfl rfl)); (first | exact Sub.nil _ _ _ (StSub.refl _) rfl | exact Sub.nil _ _ _ (stsub_swap (by assumption)) rfl | exact Sub.nil _ _ _ (stsub_eq (by first | rfl | exact upd_eta (by assumption) | ((simp only [St.pv, St.put, St.sst, St.setv, St.nil, St.var, upd_upd]); first | done | rfl))) rfl | (refine Sub.nil _ _ _ (stsub_eq ?_) rfl; (simp only [St.pv, St.put, St.sst, St.setv, St.nil, St.var, upd_upd]); (rw [upd4 (by assumption)]); first | done | rfl))))
    have hfin' : HS st l id5 id8 id9 idm K st' A (out ++ (skids l up).flatMap fun p => p :: hangP l (n - 1) (nameOf p)) := hfin
    (try (apply wO pk; exact rfl)); (repeat' (first | exact All.nil | refine All.cons ?_ ?_ | (apply wC pk; exact rfl; exact rfl) | (apply wE pk; exact rfl; exact rfl) | (apply wX pk; exact rfl) | (apply wN pk; exact rfl) | (apply wDx pk; exact rfl; kernel_rfl; exact rfl; exact rfl) | exact Imp.one | exact Imp.same | refine Imp.left ?_ | exact ImpX.one | exact ImpX.same | exact ImpX.mk | refine ImpX.up ?_ | refine ImpX.old ?_ | (apply pwp_condC; simp only [cond_true, cond_false]) | (refine pwp_cond rfl (fun h => ?_) (fun h => ?_) <;> (try simp at h) <;> (first | done | (exfalso; omega) | skip)) | ((try refine pwp_ret ?_); (first | (refine ⟨_, _, _, rfl, Wk.refl _, StSub.refl _, ?_⟩; ((exact ⟨A, hfin', fun _ h => h⟩)); done) | (refine ⟨_, _, ?zs, rfl, Wk.refl _, ?zh, ?zr⟩; (case zh => (refine stsub_over ?_ (by assumption); (repeat refine stsub_over ?_ (by assumption)); exact StSub.refl _)); (case zr => ((exact ⟨A, hfin', fun _ h => h⟩)))) | refine ⟨_, _, _, rfl, Wk.refl _, StSub.refl _, ?_⟩)) | (apply ncA; exact rfl; exact rfl; exact rfl; rotate_left; exact rfl; exact rfl) | (apply ldR pk; exact rfl; exact rfl; rotate_left; exact rfl; (first | exact upd_same _ _ _ | assumption | (focus ((repeat (first | exact upd_same _ _ _ | assumption | refine (upd_ne (by assumption)).trans ?_)); done))); exact rfl; exact rfl) | (apply stR pk; exact rfl; exact rfl; (first | exact upd_same _ _ _ | assumption | (focus ((repeat (first | exact upd_same _ _ _ | assumption | refine (upd_ne (by assumption)).trans ?_)); done))); exact rfl; exact rfl) | (apply ixA pk; exact rfl; exact rfl; exact rfl; exact rfl; exact rfl; rotate_left; exact rfl; (intro hw; (first | exact rfl | (simp [gw] at hw; first | fail | (refine (show _ = ((0 : Nat) : Int) from ?_); omega)) | exact rfl)); (intro hw; (first | omega | (simp [gw] at hw; omega) | (simp only [Array.size_setIfInBounds]; omega))); exact rfl; exact Nat.zero_add _) | (apply ldA pk Pt.elem; exact rfl; exact rfl; rotate_left; exact rfl; (first | exact upd_same _ _ _ | assumption | (focus ((repeat (first | exact upd_same _ _ _ | assumption | refine (upd_ne (by assumption)).trans ?_)); done))); (intro hw; (first | omega | (simp [gw] at hw; omega) | (simp only [Array.size_setIfInBounds]; omega))); exact rfl) | (apply stA pk Pt.elem; exact rfl; exact rfl; exact rfl; (first | exact upd_same _ _ _ | assumption | (focus ((repeat (first | exact upd_same _ _ _ | assumption | refine (upd_ne (by assumption)).trans ?_)); done))); (first | omega | (simp only [Array.size_setIfInBounds]; omega)); exact rfl) | (intros; omega) | (intros; simp only [List.length_map]; omega)))
end
end Go.Proofs.Ytmljghkinhaalaa
