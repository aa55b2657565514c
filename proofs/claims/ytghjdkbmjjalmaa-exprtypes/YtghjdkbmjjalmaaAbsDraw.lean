/-
  ABS, part 5: a region that draws its order: one walk in its own order serves every order.
-/
import Derived.Test.YtghjdkbmjjalmaaAbsSound
namespace Go.Abs
open Go

def isLoad (o : Oper) : Bool := match o.op with | .load .. => true | _ => false
def isStore (o : Oper) : Bool := match o.op with | .store .. => true | _ => false
def memClash (x y : Oper) : Bool := (isStore x && (isLoad y || isStore y)) || (isLoad x && isStore y)

structure AdOK (s : St) : Prop where
  ad : ∀ t w u off, s.env t = (w, .adr u off) → s.ad u = true
  adL : ∀ t, s.L t ≠ none → s.ad t = true

theorem SI.adOK {P : Program} {c : Ctx} {s : St} {a : Act} {w : World} {g : G} {lam : Nat → Nat} (hs : SI P c s a w g lam) : AdOK s := ⟨hs.ad, hs.adL⟩

section
variable {P : Program} {l : List Oper}

theorem opd_eq {s s' : St} {x : Operand} (h : ∀ t, x = .tmp t → s'.env t = s.env t) : opd s' x = opd s x ∧ (flagOK s' x ↔ flagOK s x) := by
  cases x with
  | tmp t => have := h t rfl; simp [opd, flagOK, this]
  | _ => exact ⟨rfl, Iff.rfl⟩

theorem tmp_looks {o : Oper} {t : Nat} (h : (.tmp t : Operand) ∈ o.op.operands) : t ∈ o.looksAt l.toArray := by
  unfold Oper.looksAt
  exact List.mem_append_left _ (List.mem_filterMap.2 ⟨.tmp t, by simpa using h, rfl⟩)

theorem wantA_eq {o : Oper} {s s' : St} (h : ∀ t ∈ o.looksAt l.toArray, s'.env t = s.env t) : wantA l o s' = wantA l o s := by
  unfold wantA
  cases hg : o.guard with
  | none => rfl
  | some jb =>
    obtain ⟨j, b⟩ := jb
    simp only
    cases ht : (l[j]?).bind (·.dst) with
    | none => rfl
    | some t =>
      have : t ∈ o.looksAt l.toArray := by
        unfold Oper.looksAt
        refine List.mem_append_right _ ?_
        rw [hg]
        simp only
        rw [show (l.toArray)[j]? = l[j]? from by simp, ht]
        simp
      simp only [h t this]

theorem AStep.stable {o : Oper} {s s' : St} {T : Tr} (h : AStep P l o s T) (henv : ∀ t ∈ o.looksAt l.toArray, s'.env t = s.env t) (hst : s'.st = s.st) (hn : s'.n = s.n)
    (hL : (isLoad o || isStore o) = true → ∀ x t w off, (.tmp x : Operand) ∈ o.op.operands → s.env x = (w, .adr t off) → s'.L t = s.L t) (had : ∀ d, o.dst = some d → s.ad d = false → s'.ad d = false) : AStep P l o s' T := by
  have hop : ∀ x ∈ o.op.operands, opd s' x = opd s x ∧ (flagOK s' x ↔ flagOK s x) := fun x hx => opd_eq fun t ht => henv t (tmp_looks (ht ▸ hx))
  have hen : ∀ t, (.tmp t : Operand) ∈ o.op.operands → s'.env t = s.env t := fun t ht => henv t (tmp_looks ht)
  have hd' : dstOK o s' = dstOK o s := by unfold dstOK; rw [hn]
  cases h with
  | val w p hw hd hf hv =>
    refine .val w p (by rw [wantA_eq henv]; exact hw) (by rw [hd']; exact hd) (fun hw' x hx => (hop x hx).2.2 (hf hw' x hx)) fun hw' w0 g ρ hm hρ => ?_
    rw [hst] at hm ⊢
    exact hv hw' w0 g ρ hm fun x hx => fun p hp => hρ x hx p (by rw [(hop x hx).1]; exact hp)
  | pick w t a b wt x p hw hd ho ht hwt ha hb =>
    have m1 : (.tmp t : Operand) ∈ o.op.operands := by rw [ho]; simp [Op.operands]
    have m2 : a ∈ o.op.operands := by rw [ho]; simp [Op.operands]
    have m3 : b ∈ o.op.operands := by rw [ho]; simp [Op.operands]
    exact .pick w t a b wt x p (by rw [wantA_eq henv]; exact hw) (by rw [hd']; exact hd) ho (by rw [hen t m1]; exact ht) hwt
      (fun h1 h2 => ⟨(hop a m2).2.2 (ha h1 h2).1, by rw [(hop a m2).1]; exact (ha h1 h2).2⟩) (fun h1 h2 => ⟨(hop b m3).2.2 (hb h1 h2).1, by rw [(hop b m3).1]; exact (hb h1 h2).2⟩)
  | adr w wx t off hw hd ho hf =>
    refine .adr w wx t off (by rw [wantA_eq henv]; exact hw) (by rw [hd']; exact hd) ?_ hf
    rw [← ho]
    cases hop' : o.op <;> simp only [addrOf]
    rename_i U x f
    cases x with
    | tmp x => simp only [hen x (by rw [hop']; simp [Op.operands])]
    | _ => rfl
  | adrI w wx t off U x y k i n e sz j hw hd ho hx hy hf hu hs hj =>
    have m1 : (.tmp x : Operand) ∈ o.op.operands := by rw [ho]; simp [Op.operands]
    have m2 : y ∈ o.op.operands := by rw [ho]; simp [Op.operands]
    exact .adrI w wx t off U x y k i n e sz j (by rw [wantA_eq henv]; exact hw) (by rw [hd']; exact hd) ho (by rw [hen x m1]; exact hx) (by rw [(hop y m2).1]; exact hy) (fun h => ⟨(hf h).1, (hop y m2).2.2 (hf h).2⟩) hu hs hj
  | load1 w wx U x t off T' cs p hw hd ho hx hf hL' hT hu hc =>
    have m1 : (.tmp x : Operand) ∈ o.op.operands := by rw [ho]; simp [Op.operands]
    exact .load1 w wx U x t off T' cs p (by rw [wantA_eq henv]; exact hw) (by rw [hd']; exact hd) ho (by rw [hen x m1]; exact hx) hf (by rw [hL (by simp [isLoad, ho]) x t wx off m1 hx]; exact hL') hT hu hc
  | loadA w wx U x t off T' cs k hw hd ho hx hf hL' hT hk hc =>
    have m1 : (.tmp x : Operand) ∈ o.op.operands := by rw [ho]; simp [Op.operands]
    exact .loadA w wx U x t off T' cs k (by rw [wantA_eq henv]; exact hw) (by rw [hd']; exact hd) ho (by rw [hen x m1]; exact hx) hf (by rw [hL (by simp [isLoad, ho]) x t wx off m1 hx]; exact hL') hT hk hc
  | alloc d U z hg hd hn' had' ho hz => exact .alloc d U z hg hd (by rw [hn]; exact hn') (had d hd had') ho hz
  | box d U x p hg hd hn' had' ho hf hx hp =>
    have m1 : x ∈ o.op.operands := by rw [ho]; simp [Op.operands]
    exact .box d U x p hg hd (by rw [hn]; exact hn') (had d hd had') ho ((hop x m1).2.2 hf) (by rw [(hop x m1).1]; exact hx) hp
  | store U x y t off T' cs p hg hd ho hx hL' hf hy hp hk hc =>
    have m1 : (.tmp x : Operand) ∈ o.op.operands := by rw [ho]; simp [Op.operands]
    have m2 : y ∈ o.op.operands := by rw [ho]; simp [Op.operands]
    exact .store U x y t off T' cs p hg hd ho (by rw [hen x m1]; exact hx) (by rw [hL (by simp [isStore, ho]) x t true off m1 hx]; exact hL') ((hop y m2).2.2 hf) (by rw [(hop y m2).1]; exact hy) hp hk hc

/-- How a step turns the state, by kinds. -/
theorem AStep.kind {o : Oper} {s : St} {T : Tr} (h : AStep P l o s T) (hA : AdOK s) :
    (∃ w e, T = .put o.dst w e ∧ ∀ u off, e = .adr u off → s.ad u = true) ∨ (∃ d U cs, o.dst = some d ∧ T = .box d U cs ∧ s.ad d = false) ∨
      (∃ t U cs, isStore o = true ∧ o.dst = none ∧ T = .sto t U cs ∧ s.L t ≠ none) := by
  cases h with
  | val w p _ _ _ _ => exact .inl ⟨w, _, rfl, fun _ _ e => by cases e⟩
  | pick w _ _ _ _ _ p _ _ _ _ _ _ _ => exact .inl ⟨w, _, rfl, fun _ _ e => by cases e⟩
  | adr w wx t off hw hd ho hf =>
    refine .inl ⟨w, _, rfl, fun u off' e => ?_⟩
    cases e
    unfold addrOf at ho
    split at ho
    · split at ho
      · rename_i hx
        split at ho
        · split at ho
          · split at ho
            · cases ho
            · injection ho with ho
              injection ho with h1 h2
              injection h2 with h2 h3
              subst h2
              exact hA.ad _ _ _ _ hx
          · cases ho
        · cases ho
      · cases ho
    · cases ho
  | adrI w wx t off U x y k i n e sz j hw hd ho hx hy hf hu hs hj => exact .inl ⟨w, _, rfl, fun u off' e => by cases e; exact hA.ad _ _ _ _ hx⟩
  | load1 w _ _ _ _ _ _ _ p _ _ _ _ _ _ _ _ _ => exact .inl ⟨w, _, rfl, fun _ _ e => by cases e⟩
  | loadA w _ _ _ _ _ _ _ k _ _ _ _ _ _ _ _ _ => exact .inl ⟨w, _, rfl, fun _ _ e => by cases e⟩
  | alloc d U z hg hd hn had ho hz => exact .inr (.inl ⟨d, U, _, hd, rfl, had⟩)
  | box d U x p hg hd hn had ho hf hx hp => exact .inr (.inl ⟨d, U, _, hd, rfl, had⟩)
  | store U x y t off T' cs p hg hd ho hx hL hf hy hp hk hc => exact .inr (.inr ⟨t, T', _, by simp [isStore, ho], hd, rfl, by rw [hL]; simp⟩)

theorem AdOK.put {s : St} (hA : AdOK s) {d : Option Nat} {w : Bool} {e : E} (h : ∀ u off, e = .adr u off → s.ad u = true) : AdOK (s.put d w e) := by
  cases d with
  | none => exact hA
  | some d =>
    refine ⟨fun t w' u off e' => ?_, hA.adL⟩
    have e'' : upd s.env d (w, e) t = (w', .adr u off) := e'
    by_cases ht : t = d
    · subst ht; rw [upd_same] at e''; exact h u off (by injection e'')
    · rw [upd_ne ht] at e''; exact hA.ad t w' u off e''

theorem AdOK.var {s : St} (hA : AdOK s) {d : Nat} {U : TypeId} {cs : List PV} : AdOK (s.var d U cs) := by
  refine ⟨fun t w u off e => ?_, fun t e => ?_⟩
  · have e' : upd s.env d (true, .adr d 0) t = (w, .adr u off) := e
    show upd s.ad d true u = true
    by_cases hu : u = d
    · rw [hu, upd_same]
    · rw [upd_ne hu]
      by_cases ht : t = d
      · subst ht; rw [upd_same] at e'; injection e' with h1 h2; injection h2 with h2 h3; exact absurd h2.symm hu
      · rw [upd_ne ht] at e'; exact hA.ad t w u off e'
  · have e' : upd s.L d (some (U, cs)) t ≠ none := e
    show upd s.ad d true t = true
    by_cases ht : t = d
    · rw [ht, upd_same]
    · rw [upd_ne ht] at e' ⊢; exact hA.adL t e'

theorem AStep.adOK {o : Oper} {s : St} {T : Tr} (h : AStep P l o s T) (hA : AdOK s) : AdOK (T.app s) := by
  rcases h.kind hA with ⟨w, e, rfl, he⟩ | ⟨d, U, cs, _, rfl, _⟩ | ⟨t, U, cs, _, _, rfl, hL⟩
  · exact hA.put he
  · exact hA.var
  · refine ⟨hA.ad, fun u e => ?_⟩
    have e' : upd s.L t (some (U, cs)) u ≠ none := e
    by_cases hu : u = t
    · rw [hu]; exact hA.adL t hL
    · rw [upd_ne hu] at e'; exact hA.adL u e'

theorem Tr.app_env {o : Oper} {s s0 : St} {T : Tr} (h : AStep P l o s0 T) (hA : AdOK s0) {t : Nat} (ht : o.dst ≠ some t) : (T.app s).env t = s.env t := by
  rcases h.kind hA with ⟨w, e, rfl, _⟩ | ⟨d, U, cs, hd, rfl, _⟩ | ⟨t', U, cs, _, _, rfl, _⟩
  · cases hd : o.dst with
    | none => rfl
    | some d => show upd s.env d (w, e) t = _; exact upd_ne fun h => ht (by rw [hd, h])
  · show upd s.env d _ t = _; exact upd_ne fun h => ht (by rw [hd, h])
  · rfl
theorem Tr.app_st (T : Tr) (s : St) : (T.app s).st = s.st ∧ (T.app s).n = s.n := by
  cases T with
  | put d w e => cases d <;> exact ⟨rfl, rfl⟩
  | _ => exact ⟨rfl, rfl⟩

theorem acomm {oi oj : Oper} {s : St} {Ti Tj : Tr} (hap : oi.apart l.toArray oj = true) (hmc : memClash oi oj = false) (hA : AdOK s) (hi : AStep P l oi s Ti) (hj : AStep P l oj (Ti.app s) Tj) :
    AStep P l oj s Tj ∧ AStep P l oi (Tj.app s) Ti ∧ Tj.app (Ti.app s) = Ti.app (Tj.app s) := by
  obtain ⟨h1, h2, h3⟩ := Oper.apart_spec hap
  have ei : ∀ t, oi.dst ≠ some t → (Ti.app s).env t = s.env t := fun t ht => Tr.app_env hi hA ht
  have p1 : AStep P l oj s Tj := by
    refine hj.stable (fun t ht => (ei t fun h => h1 t h ht).symm) (Ti.app_st s).1.symm (Ti.app_st s).2.symm (fun hk x t w off hx he => ?_) (fun d hd had => ?_)
    · rw [ei x fun h => h1 x h (tmp_looks hx)] at he
      have hat := hA.ad x w t off he
      rcases hi.kind hA with ⟨w', e, rfl, _⟩ | ⟨d, U, cs, hd, rfl, had⟩ | ⟨t', U, cs, hst, _, rfl, _⟩
      · cases oi.dst <;> rfl
      · show s.L t = upd s.L d _ t
        rw [upd_ne]; intro h; rw [h, had] at hat; cases hat
      · exfalso
        rw [Bool.or_eq_true] at hk
        rcases hk with hk | hk <;> simp [memClash, hst, hk] at hmc
    · rcases hi.kind hA with ⟨w', e, rfl, _⟩ | ⟨d', U, cs, hd', rfl, had'⟩ | ⟨t', U, cs, hst, _, rfl, _⟩
      · cases hdi : oi.dst <;> rw [hdi] at had <;> exact had
      · have : upd s.ad d' true d = false := had
        by_cases h : d = d'
        · rw [h, upd_same] at this; cases this
        · rwa [upd_ne h] at this
      · exact had
  have p2 : AStep P l oi (Tj.app s) Ti := by
    have ej : ∀ t, oj.dst ≠ some t → (Tj.app s).env t = s.env t := fun t ht => Tr.app_env p1 hA ht
    refine hi.stable (fun t ht => ej t fun h => h3 t h ht) (Tj.app_st s).1 (Tj.app_st s).2 (fun hk x t w off hx he => ?_) (fun d hd had => ?_)
    · have hat := hA.ad x w t off he
      rcases p1.kind hA with ⟨w', e, rfl, _⟩ | ⟨d, U, cs, hd, rfl, had⟩ | ⟨t', U, cs, hst, _, rfl, _⟩
      · cases oj.dst <;> rfl
      · show upd s.L d _ t = s.L t
        rw [upd_ne]; intro h; rw [h, had] at hat; cases hat
      · exfalso
        rw [Bool.or_eq_true] at hk
        rcases hk with hk | hk <;> simp [memClash, hst, hk] at hmc
    · rcases p1.kind hA with ⟨w', e, rfl, _⟩ | ⟨d', U, cs, hd', rfl, had'⟩ | ⟨t', U, cs, hst, _, rfl, _⟩
      · cases hdj : oj.dst <;> exact had
      · show upd s.ad d' true d = false
        rw [upd_ne]
        · exact had
        · intro h; subst h; exact h2 d hd hd'
      · exact had
  refine ⟨p1, p2, ?_⟩
  rcases hi.kind hA with ⟨w, e, rfl, _⟩ | ⟨d, U, cs, hd, rfl, had⟩ | ⟨t, U, cs, hst, hdi, rfl, hL⟩
  · rcases p1.kind hA with ⟨w', e', rfl, _⟩ | ⟨d', U', cs', hd', rfl, had'⟩ | ⟨t', U', cs', hst', hdj, rfl, hL'⟩
    · cases hdi : oi.dst with
      | none => rfl
      | some d =>
        cases hdj : oj.dst with
        | none => rfl
        | some d' =>
          have hne : d ≠ d' := fun h => h2 d hdi (by rw [hdj, h])
          simp only [Tr.app, St.put]
          rw [upd_comm hne]
    · cases hdi : oi.dst with
      | none => rfl
      | some d =>
        have hne : d ≠ d' := fun h => h2 d hdi (by rw [hd', h])
        simp only [Tr.app, St.put, St.var]
        rw [upd_comm hne]
    · cases hdi : oi.dst <;> rfl
  · rcases p1.kind hA with ⟨w', e', rfl, _⟩ | ⟨d', U', cs', hd', rfl, had'⟩ | ⟨t', U', cs', hst', hdj, rfl, hL'⟩
    · cases hdj : oj.dst with
      | none => rfl
      | some d' =>
        have hne : d ≠ d' := fun h => h2 d hd (by rw [hdj, h])
        simp only [Tr.app, St.put, St.var]
        rw [upd_comm hne]
    · have hne : d ≠ d' := fun h => h2 d hd (by rw [hd', h])
      simp only [Tr.app, St.var]
      rw [upd_comm hne, upd_comm hne, upd_comm hne]
    · have hne : d ≠ t' := fun h => by have := hA.adL t' hL'; rw [← h, had] at this; cases this
      simp only [Tr.app, St.var]
      rw [upd_comm hne]
  · rcases p1.kind hA with ⟨w', e', rfl, _⟩ | ⟨d', U', cs', hd', rfl, had'⟩ | ⟨t', U', cs', hst', hdj, rfl, hL'⟩
    · cases oj.dst <;> rfl
    · have hne : t ≠ d' := fun h => by have := hA.adL t hL; rw [h, had'] at this; cases this
      simp only [Tr.app, St.var]
      rw [upd_comm hne]
    · simp [memClash, hst, hst'] at hmc

/-- Operation number 'i' comes up. -/
def AOp (P : Program) (l : List Oper) (i : Nat) (K : St → Prop) (s : St) : Prop :=
  match l[i]? with
  | none => K s
  | some o => ∃ T, AStep P l o s T ∧ K (T.app s)

/-- Whatever order is picked from here on. -/
def AAny (P : Program) (l : List Oper) (K : St → Prop) : Nat → Array Bool → St → Prop
  | 0, listed, s => Region.ready .any l.toArray listed = [] ∧ K s
  | fuel + 1, listed, s => (Region.ready .any l.toArray listed = [] → K s) ∧ ∀ i ∈ Region.ready .any l.toArray listed, AOp P l i (AAny P l K fuel (listed.setIfInBounds i true)) s

theorem AAny.sound {K : St → Prop} {Q : Exit → Act → World → Prop} {c : Ctx} (hQ : ∀ s a w g lam, K s → SI P c s a w g lam → Q .normal a w) : ∀ (fuel : Nat) (listed : Array Bool) (s : St) (a : Act) (w : World) (g : G) (lam : Nat → Nat),
    SI P c s a w g lam → AAny P l K fuel listed s → wpAny P .any l.toArray Q fuel listed a w
  | 0, _, s, a, w, g, lam, hs, h => ⟨h.1, hQ s a w g lam h.2 hs⟩
  | fuel + 1, listed, s, a, w, g, lam, hs, h => by
    refine ⟨fun h0 => hQ s a w g lam (h.1 h0) hs, fun i hi => ?_⟩
    have h1 := h.2 i hi
    unfold AOp at h1
    unfold wpOp
    rw [show (l.toArray)[i]? = l[i]? from by simp]
    cases ho : l[i]? with
    | none => rw [ho] at h1; exact AAny.sound hQ fuel _ s a w g lam hs h1
    | some o =>
      rw [ho] at h1
      obtain ⟨T, hT, hK⟩ := h1
      have := hT.sound hs (K := wpAny P .any l.toArray Q fuel (listed.setIfInBounds i true)) (Q := Q) fun a' w' g' lam' hs' => AAny.sound hQ fuel _ _ a' w' g' lam' hs' hK
      unfold OneOp at this
      simp only
      split at this
      · rename_i hw; rw [if_pos hw]; exact .inl this
      · rename_i hw; rw [if_neg hw]; exact this

def freeA (l : List Oper) (listed : Array Bool) (i : Nat) : Bool :=
  match l[i]? with
  | none => false
  | some oi => (List.range l.length).all fun j => j == i || listed.getD j true || match l[j]? with
      | some oj => oj.after.any (fun e => Region.binds .any e && e.on == i) || (oi.apart l.toArray oj && !memClash oi oj)
      | none => true

theorem freeA_spec {i : Nat} {oi : Oper} {listed : Array Bool} (hi : l[i]? = some oi) (h : freeA l listed i = true) (j : Nat) (oj : Oper)
    (hj : l[j]? = some oj) (hne : j ≠ i) (hun : listed.getD j true = false) (hno : ∀ e ∈ oj.after, Region.binds .any e = true → e.on ≠ i) :
    oi.apart l.toArray oj = true ∧ memClash oi oj = false := by
  simp only [freeA, hi, List.all_eq_true, List.mem_range] at h
  have h1 := h j (List.getElem?_eq_some_iff.1 hj).1
  simp only [hj, Bool.or_eq_true, beq_iff_eq, hne, false_or, hun, Bool.false_eq_true] at h1
  rcases h1 with h1 | h1
  · obtain ⟨e, he, hb⟩ := Array.any_eq_true'.1 h1
    simp only [Bool.and_eq_true, beq_iff_eq] at hb
    exact absurd hb.2 (hno e he hb.1)
  · simpa using h1

theorem AOp.mono {i : Nat} {K K' : St → Prop} {s : St} (h : AOp P l i K s) (hk : ∀ s', K s' → K' s') : AOp P l i K' s := by
  unfold AOp at *
  split
  · rename_i ho; rw [ho] at h; exact hk _ h
  · rename_i o ho; rw [ho] at h; obtain ⟨T, h1, h2⟩ := h; exact ⟨T, h1, hk _ h2⟩

/-- An operation that may come up now may be taken first, if every other one that has not come up yet either waits for it or is apart from it. -/
theorem AAny.first {K : St → Prop} {i : Nat} {oi : Oper} {Ti : Tr} (hi : l[i]? = some oi) : ∀ (fuel : Nat) (listed : Array Bool) (s : St),
    (∀ j oj, l[j]? = some oj → j ≠ i → listed.getD j true = false → (∀ e ∈ oj.after, Region.binds .any e = true → e.on ≠ i) → oi.apart l.toArray oj = true ∧ memClash oi oj = false) →
    AdOK s → i ∈ Region.ready .any l.toArray listed → AStep P l oi s Ti → AAny P l K fuel (listed.setIfInBounds i true) (Ti.app s) → AAny P l K (fuel + 1) listed s := by
  intro fuel
  induction fuel with
  | zero =>
    intro listed s _ _ hr hy H
    refine ⟨fun h => (by rw [h] at hr; cases hr), fun j hj => ?_⟩
    by_cases hji : j = i
    · subst hji; unfold AOp; rw [hi]; exact ⟨Ti, hy, H⟩
    · have := ready_mono hj hji
      rw [H.1] at this
      cases this
  | succ fuel ih =>
    intro listed s hfree hA hr hy H
    refine ⟨fun h => (by rw [h] at hr; cases hr), fun j hj => ?_⟩
    by_cases hji : j = i
    · subst hji; unfold AOp; rw [hi]; exact ⟨Ti, hy, H⟩
    · have h1 := H.2 j (ready_mono hj hji)
      obtain ⟨hjun, oj, hoj, hall⟩ := mem_ready.1 hj
      have hoj' : l[j]? = some oj := by simpa using hoj
      have hnot : ∀ e ∈ oj.after, Region.binds .any e = true → e.on ≠ i := fun e he hb heq => by
        have h1 := hall e he hb
        have h0 := (mem_ready.1 hr).1
        rw [heq] at h1
        rcases Nat.lt_or_ge i listed.size with h' | h'
        · simp [h'] at h0 h1; rw [h0] at h1; cases h1
        · simp [Array.getElem?_eq_none h'] at h1
      obtain ⟨hap, hmc⟩ := hfree j oj hoj' hji hjun hnot
      unfold AOp at h1 ⊢
      rw [hoj'] at h1 ⊢
      obtain ⟨Tj, hTj, hK⟩ := h1
      obtain ⟨c1, c2, c3⟩ := acomm hap hmc hA hy hTj
      refine ⟨Tj, c1, ih (listed.setIfInBounds j true) (Tj.app s) (fun k ok hk hki hun hno => ?_) (c1.adOK hA) (ready_mono hr (Ne.symm hji)) c2 ?_⟩
      · refine hfree k ok hk hki ?_ hno
        by_cases hjk : j = k
        · subst hjk; exact hjun
        · rw [getD_set_ne true hjk] at hun; exact hun
      · rw [Array.setIfInBounds_comm _ _ hji, ← c3]
        exact hK

def lexFromA (l : List Oper) : Nat → Nat → Array Bool → Bool
  | 0, _, listed => (Region.ready .any l.toArray listed).isEmpty
  | fuel + 1, k, listed => (Region.ready .any l.toArray listed).contains k && freeA l listed k && lexFromA l fuel (k + 1) (listed.setIfInBounds k true)
def lexA (l : List Oper) : Bool := lexFromA l l.length 0 (Array.replicate l.length false)

/-- The operations one behind the other, each by a step. -/
def EvD (P : Program) (l : List Oper) : List Oper → St → (St → Prop) → Prop
  | [], s, K => K s
  | o :: r, s, K => ∃ T, AStep P l o s T ∧ EvD P l r (T.app s) K

theorem AAny.lex {K : St → Prop} : ∀ (r : List Oper) (k : Nat) (listed : Array Bool) (s : St), (∀ j, r[j]? = l[k + j]?) → AdOK s → lexFromA l r.length k listed = true → EvD P l r s K → AAny P l K r.length listed s
  | [], _, _, _, _, _, hB, h => ⟨by simpa [lexFromA] using hB, h⟩
  | o :: r, k, listed, s, hl, hA, hB, h => by
    have h0 : l[k]? = some o := by simpa using (hl 0).symm
    simp only [List.length_cons, lexFromA, Bool.and_eq_true] at hB
    obtain ⟨⟨hr, hf⟩, hB'⟩ := hB
    obtain ⟨T, hT, hK⟩ := h
    exact AAny.first h0 r.length listed s (freeA_spec h0 hf) hA (by simpa using hr) hT
      (AAny.lex r (k + 1) _ _ (fun j => by have := hl (j + 1); simpa [Nat.add_assoc, Nat.add_comm 1 j] using this) (hT.adOK hA) hB' hK)

/-- A region that draws its order. -/
theorem pwp_draw {id : Nat} {Q : Exit → St → Prop} {s : St} (hm : P.follows .mixedOrders = true) (hB : lexA l = true) (h : EvD P l l s (Q .normal)) : PWp P (.region id l.toArray true) Q s := by
  intro c a w g lam hs
  refine wp_region_any hm ?_
  obtain ⟨h1, h2⟩ := mem_drew hs.mem (w.drawn + 1)
  have hs' := hs.world h1 (Le.refl g) (h2.mono fun _ h => h.elim)
  have := AAny.lex l 0 (Array.replicate l.length false) s (by simp) hs.adOK hB h
  have := AAny.sound (Q := fun e a' w' => ∃ s' g' lam', Q e s' ∧ SI P c s' a' w' g' lam') (fun s a w g lam hk hs => ⟨s, g, lam, hk, hs⟩) _ _ _ _ _ _ _ hs' this
  simpa using this
end
end Go.Abs
