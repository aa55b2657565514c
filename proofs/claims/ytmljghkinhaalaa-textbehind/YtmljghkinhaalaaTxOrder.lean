import Derived.Test.YtmljghkinhaalaaTxNames
import Derived.Test.YtmljghkinhaalaaAbsE
import Derived.Test.YtmljghkinhaalaaSortJP
set_option linter.unusedSimpArgs false
set_option linter.unusedVariables false
namespace Go.Proofs.Ytmljghkinhaalaa
open Go Go.Abs
attribute [local irreducible] Ev PWp
set_option maxRecDepth 10000
set_option maxHeartbeats 1000000
def firstP (a b : Pt) : Int := if stampOf a = stampOf b then a.at_ - b.at_ else if lessS (stampOf b) (stampOf a) then -1 else 1
theorem formed_at {p : Pt} (h : formedP p = true) : 0 ≤ p.at_ ∧ p.at_ ≤ 1999 := by
  simp only [formedP, mayN, withinB, Bool.and_eq_true, decide_eq_true_eq] at h
  exact h.1.2.2
theorem first_spec (a b : Pt) (ha : formedP a = true) (hb : formedP b = true) : PF Try.prog 30 [.agg a.cells, .agg b.cells] (PV.val (Value.int .i64 (firstP a b))) := by
  have h1 := formed_at ha
  have h2 := formed_at hb
  refine pf_of tt_ok Try.func30 (by kernel_rfl) rfl rfl rfl rfl (fun st => ?_)
  (try (apply wO pk; exact rfl)); (repeat' (first | exact All.nil | refine All.cons ?_ ?_ | (apply wC pk; exact rfl; exact rfl) | (apply wE pk; exact rfl; exact rfl) | (apply wX pk; exact rfl) | (apply wN pk; exact rfl) | (apply wD pk [] []; kernel_rfl; exact rfl; exact rfl) | exact Imp.one | exact Imp.same | refine Imp.left ?_ | exact ImpX.one | exact ImpX.same | exact ImpX.mk | refine ImpX.up ?_ | refine ImpX.old ?_ | (apply pwp_condC; simp only [cond_true, cond_false]) | (refine pwp_cond rfl (fun h => ?_) (fun h => ?_) <;> (try simp at h) <;> (first | done | (exfalso; omega) | skip)) | (refine pwp_ret ?_; refine ⟨_, _, _, rfl, Wk.refl _, StSub.refl _, ?_, rfl⟩; (first | rfl | ((simp only [firstP, Sp.ext_iff]; simp_all); done) | skip)) | (apply callS; exact rfl; exact rfl; exact rfl; (intro _; first | (apply (stamp_spec a) <;> first | assumption | omega) | (apply (stamp_spec b) <;> first | assumption | omega) | (apply (less_spec (stampOf b) (stampOf a)) <;> first | assumption | omega)); rotate_left; exact rfl; exact rfl) | (apply callV; exact rfl; exact rfl; exact rfl; (intro _; first | (apply (stamp_spec a) <;> first | assumption | omega) | (apply (stamp_spec b) <;> first | assumption | omega) | (apply (less_spec (stampOf b) (stampOf a)) <;> first | assumption | omega)); rotate_left; exact rfl; exact rfl) | (intros; omega)))
theorem lessS_irr (a : Sp) : lessS a a = false := by simp [lessS]
theorem lessS_iff (a b : Sp) : lessS a b = true ↔ a.time < b.time ∨ a.time = b.time ∧ (a.dev < b.dev ∨ a.dev = b.dev ∧ a.seq < b.seq) := by
  unfold lessS
  split
  · rw [decide_eq_true_eq]; omega
  · split
    · rw [decide_eq_true_eq]; omega
    · rw [decide_eq_true_eq]; omega
/-- One part stands ahead of another one of its parent's. -/
def kinLt (a b : Pt) : Prop := lessS (stampOf b) (stampOf a) = true ∨ stampOf a = stampOf b ∧ a.at_ < b.at_
theorem firstP_lt (a b : Pt) : firstP a b < 0 ↔ kinLt a b := by
  unfold firstP kinLt
  by_cases h : stampOf a = stampOf b
  · rw [if_pos h, h, lessS_irr]; simp; omega
  · rw [if_neg h]
    split
    · rename_i h2; simp [h2]
    · rename_i h2; simp [h2, h]
/-- Parts that are formed. -/
abbrev Fp := { p : Pt // formedP p = true }
instance : Inhabited Fp := ⟨⟨⟨⟨1, 0, e0⟩, ⟨1, 1⟩, 0, 1, Dt.zero, 0, false⟩, by decide⟩⟩
def fpc (p : Fp) : List PV := p.1.cells
def fcmp (a b : Fp) : Int := firstP a.1 b.1
theorem first_ok : SortP.CmpOK fpc 30 [] fcmp := ⟨⟨rfl, fun _ => rfl, fun _ => rfl, fun _ => rfl, fun _ => rfl⟩, fun x y => first_spec x.1 y.1 x.2 y.2⟩
theorem kinLt_iff (a b : Pt) : kinLt a b ↔ b.time < a.time ∨ b.time = a.time ∧ (b.dot.dev < a.dot.dev ∨ b.dot.dev = a.dot.dev ∧ (b.dot.seq < a.dot.seq ∨ b.dot.seq = a.dot.seq ∧ a.at_ < b.at_)) := by
  unfold kinLt
  rw [lessS_iff, Sp.ext_iff]
  simp only [stampOf]
  omega
theorem first_swo : Go.Sort.SWO (SortP.ltC fcmp) := by
  have h : ∀ x y : Fp, SortP.ltC fcmp x y = true ↔ kinLt x.1 y.1 := fun x y => by rw [SortP.ltC, decide_eq_true_eq]; exact firstP_lt _ _
  have hf : ∀ x y : Fp, SortP.ltC fcmp x y = false ↔ ¬ kinLt x.1 y.1 := fun x y => by rw [← h, Bool.not_eq_true]
  refine ⟨fun x => (hf x x).2 ?_, fun x y z h1 h2 => ?_, fun x y z h1 h2 => ?_⟩
  · rw [kinLt_iff]; omega
  · rw [h, kinLt_iff] at h1 h2 ⊢; omega
  · rw [hf, kinLt_iff] at h1 h2 ⊢; omega
def kids (l : List Pt) (k : Nm) : List Pt := l.filter fun p => decide (parentOf p = k)
theorem kids_take {l : List Pt} {i : Nat} (h : i < l.length) (k : Nm) : kids (l.take (i + 1)) k = if parentOf l[i] = k then kids (l.take i) k ++ [l[i]] else kids (l.take i) k := by
  unfold kids
  rw [List.take_succ_eq_append_getElem h, List.filter_append]
  by_cases hk : parentOf l[i] = k <;> simp [hk]
def vecF (x : Nat × Nat) : PV := .vec x.1 11 0 x.2
/-- The lists of children, so far. -/
structure FamB (st : Store) (l : List Pt) (idm : Nat) (K : List (Nm × (Nat × Nat))) (S : Store) : Prop where
  old : ∀ j, st j ≠ none → S j = st j
  hm : S idm = some (.map (ments Nm.enc vecF K))
  mf : st idm = none
  arr : ∀ k id n, (k, (id, n)) ∈ K → S id = some (.arr 39 ((kids l k).map Pt.cells)) ∧ n = (kids l k).length ∧ st id = none
  keys : (K.map (·.1)).Nodup
  ids : (K.map (·.2.1)).Nodup
  non : ∀ k, mget k K = none → kids l k = []
theorem mget_mem {K V : Type} [DecidableEq K] {k : K} {v : V} : ∀ {l : List (K × V)}, mget k l = some v → (k, v) ∈ l
  | (k', v') :: l, h => by
    simp only [mget] at h
    split at h
    · rename_i e; injection h with h; subst h; subst e; simp
    · exact List.mem_cons_of_mem _ (mget_mem h)
theorem names_spec (l : List Pt) (hl : l.length < 4611686018427387904) : PF Try.prog 24 [.seq (l.map Pt.cells)] (.tup [.und, (PV.val (Value.bool (wholeP l)))]) := fun st =>
  pc_wk (names_pc l st hl) fun p st' ⟨⟨m, e⟩, h⟩ => ⟨_, e ▸ Wk.tup (.cons (Wk.und m) (.cons (Wk.refl _) .nil)), rfl, h⟩
theorem bytesP : Try.prog.bytesOf 39 = 96 := by kernel_rfl
theorem FamB.fresh {st S : Store} {l : List Pt} {idm : Nat} {K : List (Nm × (Nat × Nat))} (h : FamB st l idm K S) {id : Nat} (hid : S id = none) : st id = none ∧ id ≠ idm ∧ ∀ k i n, (k, (i, n)) ∈ K → id ≠ i := by
  refine ⟨?_, ?_, ?_⟩
  · cases hs : st id with
    | none => rfl
    | some o => have := h.old id (by rw [hs]; simp); rw [hid, hs] at this; cases this
  · intro e; subst e; rw [h.hm] at hid; cases hid
  · intro k i n hk e; subst e; rw [(h.arr k _ n hk).1] at hid; cases hid
theorem FamB.notm {st S : Store} {l : List Pt} {idm : Nat} {K : List (Nm × (Nat × Nat))} (h : FamB st l idm K S) {k : Nm} {i n : Nat} (hk : (k, (i, n)) ∈ K) : i ≠ idm := by
  intro e; subst e; have := (h.arr k _ n hk).1; rw [h.hm] at this; cases this
theorem mget_mset {K V : Type} [DecidableEq K] (k k' : K) (v : V) : ∀ (l : List (K × V)), mget k' (mset k v l) = if k' = k then some v else mget k' l
  | [] => by simp only [mset, mget]
  | e :: l => by
    have ih := mget_mset k k' v l
    simp only [mset]
    split
    · rename_i h; simp only [mget]; split <;> simp_all
    · rename_i h; simp only [mget, ih]; split
      · rename_i h2; rw [if_neg (fun e => h (by rw [← e, h2]))]
      · rfl
theorem mem_keys {K V : Type} [DecidableEq K] {k : K} : ∀ {l : List (K × V)} {v : V}, (k, v) ∈ l → mget k l ≠ none
  | e :: l, v, h => by
    simp only [mget]
    split
    · simp
    · rename_i hne
      rcases List.mem_cons.1 h with h | h
      · subst h; exact absurd rfl hne
      · exact mem_keys h
theorem mem_mset {K V : Type} [DecidableEq K] {k : K} {v : V} {x : K × V} : ∀ {l : List (K × V)}, (l.map (·.1)).Nodup → x ∈ mset k v l → x = (k, v) ∨ x ∈ l ∧ x.1 ≠ k
  | [], _, h => by simp only [mset, List.mem_singleton] at h; exact .inl h
  | e :: l, hn, h => by
    simp only [List.map_cons, List.nodup_cons] at hn
    simp only [mset] at h
    split at h
    · rename_i he
      rcases List.mem_cons.1 h with h | h
      · exact .inl h
      · refine .inr ⟨List.mem_cons_of_mem _ h, fun hh => hn.1 ?_⟩
        rw [← he, ← hh]; exact List.mem_map.2 ⟨x, h, rfl⟩
    · rename_i he
      rcases List.mem_cons.1 h with h | h
      · subst h; exact .inr ⟨List.mem_cons_self, fun hh => he hh.symm⟩
      · rcases mem_mset hn.2 h with h | ⟨h, h2⟩
        · exact .inl h
        · exact .inr ⟨List.mem_cons_of_mem _ h, h2⟩
theorem nodup_mset {K V : Type} [DecidableEq K] {k : K} {v : V} : ∀ {l : List (K × V)}, (l.map (·.1)).Nodup → ((mset k v l).map (·.1)).Nodup
  | [], _ => by simp [mset]
  | e :: l, hn => by
    simp only [List.map_cons, List.nodup_cons] at hn
    simp only [mset]
    split
    · rename_i he; simp only [List.map_cons, List.nodup_cons, he]; exact hn
    · rename_i he
      simp only [List.map_cons, List.nodup_cons]
      refine ⟨fun hm => ?_, nodup_mset hn.2⟩
      obtain ⟨x, hx, hxe⟩ := List.mem_map.1 hm
      rcases mem_mset hn.2 hx with rfl | ⟨h, _⟩
      · exact he hxe
      · exact hn.1 (List.mem_map.2 ⟨x, h, hxe⟩)
theorem nodup_ids {K V : Type} [DecidableEq K] {k : K} {v : V} {g : V → Nat} : ∀ {l : List (K × V)}, (l.map fun e => g e.2).Nodup → (l.map (·.1)).Nodup → (∀ e ∈ l, g e.2 ≠ g v) → ((mset k v l).map fun e => g e.2).Nodup
  | [], _, _, _ => by simp [mset]
  | e :: l, hn, hk, hv => by
    simp only [List.map_cons, List.nodup_cons] at hn hk
    simp only [mset]
    split
    · simp only [List.map_cons, List.nodup_cons]
      refine ⟨fun hm => ?_, hn.2⟩
      obtain ⟨x, hx, hxe⟩ := List.mem_map.1 hm
      exact hv x (List.mem_cons_of_mem _ hx) hxe
    · simp only [List.map_cons, List.nodup_cons]
      refine ⟨fun hm => ?_, nodup_ids hn.2 hk.2 fun x hx => hv x (List.mem_cons_of_mem _ hx)⟩
      obtain ⟨x, hx, hxe⟩ := List.mem_map.1 hm
      rcases mem_mset hk.2 hx with rfl | ⟨h, _⟩
      · exact hv e List.mem_cons_self hxe.symm
      · exact hn.1 (List.mem_map.2 ⟨x, h, hxe⟩)
theorem nodup_inj {α : Type} {g : α → Nat} : ∀ {l : List α}, (l.map g).Nodup → ∀ {a b}, a ∈ l → b ∈ l → g a = g b → a = b
  | [], _, _, _, h, _, _ => by cases h
  | x :: l, hn, a, b, ha, hb, e => by
    simp only [List.map_cons, List.nodup_cons] at hn
    rcases List.mem_cons.1 ha with ha | ha <;> rcases List.mem_cons.1 hb with hb | hb
    · rw [ha, hb]
    · exact (hn.1 (List.mem_map.2 ⟨b, hb, by rw [← e, ha]⟩)).elim
    · exact (hn.1 (List.mem_map.2 ⟨a, ha, by rw [e, hb]⟩)).elim
    · exact nodup_inj hn.2 ha hb e
/-- One child more. -/
theorem FamB.step {st S S1 : Store} {l : List Pt} {i : Nat} (hi : i < l.length) {idm id m : Nat} {K : List (Nm × (Nat × Nat))} (h : FamB st (l.take i) idm K S) (hid : S id = none) (hm : m = (kids (l.take i) (parentOf l[i])).length + 1) (hS : ∀ j, (∀ n, (parentOf l[i], (j, n)) ∉ K) → S1 j = S j) :
    FamB st (l.take (i + 1)) idm (mset (parentOf l[i]) (id, m) K) (upd (upd S1 id (some (.arr 39 ((kids (l.take i) (parentOf l[i]) ++ [l[i]]).map Pt.cells)))) idm (some (.map (ments Nm.enc vecF (mset (parentOf l[i]) (id, m) K))))) := by
  obtain ⟨f1, f2, f3⟩ := h.fresh hid
  refine ⟨fun j hj => ?_, upd_same _ _ _, h.mf, fun k j n hx => ?_, nodup_mset h.keys, nodup_ids (g := (·.1)) h.ids h.keys fun e he => ?_, fun k hk' => ?_⟩
  · rw [upd_ne (fun e => by subst e; exact hj h.mf), upd_ne (fun e => by subst e; exact hj f1), hS j fun n hn => hj (h.arr _ j n hn).2.2]; exact h.old j hj
  · rcases mem_mset h.keys hx with e | ⟨hx, hne⟩
    · simp only [Prod.mk.injEq] at e
      obtain ⟨rfl, rfl, rfl⟩ := e
      rw [kids_take hi, if_pos rfl, upd_ne f2, upd_same]
      exact ⟨rfl, by rw [hm]; simp, f1⟩
    · obtain ⟨a1, a2, a3⟩ := h.arr k j n hx
      rw [kids_take hi, if_neg (Ne.symm hne), upd_ne (h.notm hx), upd_ne (fun e => f3 k j n hx e.symm), hS j fun n' hn' => hne ?_]
      · exact ⟨a1, a2, a3⟩
      · exact congrArg Prod.fst (nodup_inj h.ids hx hn' rfl)
  · exact fun e' => f3 e.1 e.2.1 e.2.2 he e'.symm
  · rw [mget_mset] at hk'
    split at hk'
    · cases hk'
    · rename_i hne
      rw [kids_take hi, if_neg (Ne.symm hne)]
      exact h.non k hk'
theorem FamB.nil {st : Store} {idm : Nat} (h : st idm = none) : FamB st [] idm [] (upd st idm (some (.map (ments Nm.enc vecF [])))) :=
  ⟨fun j hj => upd_ne fun e => by subst e; exact hj h, upd_same _ _ _, h, fun _ _ _ h => (by cases h), by simp, by simp, fun _ _ => rfl⟩
theorem kids_len (l : List Pt) (k : Nm) : (kids l k).length ≤ l.length := List.length_filter_le _ _
end Go.Proofs.Ytmljghkinhaalaa
