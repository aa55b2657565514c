import Derived.Test.YtmljghkinhaalaaTxMeetsL
set_option linter.unusedSimpArgs false
set_option linter.unusedVariables false
namespace Go.Proofs.Ytmljghkinhaalaa
open Go Go.Abs
set_option maxRecDepth 10000
set_option maxHeartbeats 4000000
theorem Anc.app {l m : List Pt} {p : Pt} {s : List Pt} (h : Anc l p s) : Anc (l ++ m) p s := by
  induction h with
  | root hp h0 => exact .root (List.mem_append_left _ hp) h0
  | step hp hu e h0 _ ih => exact .step (List.mem_append_left _ hp) (List.mem_append_left _ hu) e h0 ih
theorem lexLt_right : ∀ {s t : List Pt} (r : List Pt), lexLt s t → lexLt s (t ++ r)
  | [], [], _, h => False.elim h
  | _ :: _, [], _, h => False.elim h
  | [], _ :: _, _, _ => trivial
  | a :: s, b :: t, r, h => by
    rcases h with ⟨e, h⟩ | h
    · exact .inl ⟨e, lexLt_right r h⟩
    · exact .inr h
theorem lexLt_top {x : Pt} (r : List Pt) : ∀ {s t : List Pt}, lexLt s t → (∀ v ∈ t, kinLt x v) → lexLt (s ++ x :: r) t
  | [], [], h, _ => False.elim h
  | _ :: _, [], h, _ => False.elim h
  | [], b :: t, _, hk => .inr (hk b (by simp))
  | a :: s, b :: t, h, hk => by
    rcases h with ⟨e, h⟩ | h
    · exact .inl ⟨e, lexLt_top r h fun v hv => hk v (by simp [hv])⟩
    · exact .inr h
theorem lexLt_nil {t : List Pt} (h : t ≠ []) : lexLt [] t := by
  cases t with
  | nil => exact absurd rfl h
  | cons a t => trivial
theorem Anc.ne {l : List Pt} {p : Pt} {s : List Pt} (h : Anc l p s) : s ≠ [] := by
  cases h <;> simp
/-- What the typed ones stand behind. -/
theorem ty_anc {L : List Pt} {w : Sp} (hf : ∀ p ∈ L, formedP p = true) : ∀ (bs : List UInt8) {n : Int} {up : Nm} {su : List Pt}, ((up = Nm.zero ∧ su = []) ∨ (up ≠ Nm.zero ∧ ∃ u ∈ L, nameOf u = up ∧ Anc L u su)) →
    (∀ x ∈ tyF w bs n up, x ∈ L) → ∀ j (h : j < (tyF w bs n up).length), Anc L ((tyF w bs n up)[j]'h) (su ++ (tyF w bs n up).take (j + 1))
  | [], _, _, _, _, _, j, h => by simp [tyF] at h
  | b :: r, n, up, su, hu, hm, j, h => by
    obtain ⟨x, hx⟩ : ∃ x : Pt, (⟨⟨1, (b.toNat : Int), e0⟩, ⟨w.dev, w.seq⟩, n, w.time, up.dot, up.at_, false⟩ : Pt) = x := ⟨_, rfl⟩
    have hxp : parentOf x = up := by rw [← hx]; rfl
    have hxn : nameOf x = ⟨⟨w.dev, w.seq⟩, n⟩ := by rw [← hx]; rfl
    have ht : tyF w (b :: r) n up = x :: tyF w r (n + 1) ⟨⟨w.dev, w.seq⟩, n⟩ := by rw [tyF, hx]
    simp only [ht] at hm h ⊢
    have hxm : x ∈ L := hm x (by simp)
    have hax : Anc L x (su ++ [x]) := by
      rcases hu with ⟨h0, rfl⟩ | ⟨h0, u, hul, e, ha⟩
      · exact .root hxm (hxp.trans h0)
      · exact .step hxm hul (by rw [e, hxp]) (by rw [hxp]; exact h0) ha
    cases j with
    | zero => simpa using hax
    | succ j =>
      have := ty_anc hf r (n := n + 1) (up := ⟨⟨w.dev, w.seq⟩, n⟩) (su := su ++ [x]) (.inr ⟨by rw [← hxn]; exact name_nz (hf x hxm), x, hxm, hxn, hax⟩) (fun y hy => hm y (List.mem_cons_of_mem _ hy)) j (by simpa using h)
      simpa using this
/-- What is typed last behind a part stands just behind it. -/
theorem order_behind {l : List Pt} {w : Sp} {k : Nat} {up : Nm} {bs : List UInt8} (hW : Whole l) (ho : orderP l = l) (hl : l.length + bs.length ≤ 2000) (hk : k ≤ l.length)
    (hup : (k = 0 ∧ up = Nm.zero) ∨ ∃ h : k - 1 < l.length, 0 < k ∧ nameOf (l[k - 1]'h) = up) (hW2 : Whole (l ++ tyF w bs 0 up)) (ht : ∀ p ∈ l, p.time < w.time) :
    orderP (l ++ tyF w bs 0 up) = l.take k ++ tyF w bs 0 up ++ l.drop k := by
  have hs : l.Pairwise (ltP l) := by have := (orderP_whole hW (by omega)).2; rw [ho] at this; exact this
  have hsi := List.pairwise_iff_getElem.1 hs
  have hw : ∀ x ∈ tyF w bs 0 up, x.time = w.time := by
    have : ∀ (bs : List UInt8) (n : Int) (up : Nm), ∀ x ∈ tyF w bs n up, x.time = w.time := by
      intro bs
      induction bs with
      | nil => intro n up x h; cases h
      | cons b r ih =>
        intro n up x h
        rcases List.mem_cons.1 h with rfl | h
        · rfl
        · exact ih _ _ x h
    exact this bs 0 up
  have hlen := tyF_len w bs 0 up
  obtain ⟨su, hsu, hsx, hsy⟩ : ∃ su, ((up = Nm.zero ∧ su = []) ∨ (up ≠ Nm.zero ∧ ∃ u ∈ l ++ tyF w bs 0 up, nameOf u = up ∧ Anc (l ++ tyF w bs 0 up) u su)) ∧
      (∀ m (hm : m < l.length), m < k → ∃ s, Anc (l ++ tyF w bs 0 up) (l[m]'hm) s ∧ (s = su ∨ lexLt s su)) ∧
      (∀ m (hm : m < l.length), k ≤ m → ∃ s, Anc (l ++ tyF w bs 0 up) (l[m]'hm) s ∧ lexLt su s ∧ ∀ v ∈ s, v ∈ l) := by
    rcases hup with ⟨rfl, e⟩ | ⟨hk1, hk0, e⟩
    · refine ⟨[], .inl ⟨e, rfl⟩, fun m _ h => by omega, fun m hm _ => ?_⟩
      obtain ⟨s, h1⟩ := Anc.ex hW _ _ (List.getElem_mem hm) (Nat.le_refl _)
      exact ⟨s, h1.app, lexLt_nil h1.ne, h1.all⟩
    · obtain ⟨su, hu⟩ := Anc.ex hW _ _ (List.getElem_mem hk1) (Nat.le_refl _)
      refine ⟨su, .inr ⟨by rw [← e]; exact name_nz (hW.formed _ (List.getElem_mem hk1)), _, List.mem_append_left _ (List.getElem_mem hk1), e, hu.app⟩, fun m hm h => ?_, fun m hm h => ?_⟩
      · by_cases hmk : m = k - 1
        · subst hmk; exact ⟨su, hu.app, .inl rfl⟩
        · obtain ⟨s, s', h1, h2, h3⟩ := hsi m (k - 1) hm hk1 (by omega)
          rw [h2.fn hW.named hu] at h3
          exact ⟨s, h1.app, .inr h3⟩
      · obtain ⟨s', s, h1, h2, h3⟩ := hsi (k - 1) m hk1 hm (by omega)
        rw [h1.fn hW.named hu] at h3
        exact ⟨s, h2.app, h3, h2.all⟩
  have hanc := ty_anc (L := l ++ tyF w bs 0 up) hW2.formed bs (n := 0) (up := up) hsu fun x hx => List.mem_append_right _ hx
  obtain ⟨t, htt⟩ : ∃ t, tyF w bs 0 up = t := ⟨_, rfl⟩
  simp only [htt] at hanc hsx hsy hlen hw hW2 ⊢
  have hx : ∀ m (hm : m < l.length), m < k → ∀ j (hj : j < t.length), ltP (l ++ t) (l[m]'hm) t[j] := by
    intro m hm hmk j hj
    obtain ⟨s, h1, h2⟩ := hsx m hm hmk
    refine ⟨s, _, h1, hanc j hj, ?_⟩
    rcases h2 with rfl | h2
    · have : t.take (j + 1) ≠ [] := by rw [ne_eq, List.take_eq_nil_iff]; rintro (h | h); omega; rw [h] at hj; simp at hj
      have q := lexLt_app s (s := []) (t := t.take (j + 1)) (lexLt_nil this)
      simpa using q
    · exact lexLt_right _ h2
  have hy : ∀ m (hm : m < l.length), k ≤ m → ∀ j (hj : j < t.length), ltP (l ++ t) t[j] (l[m]'hm) := by
    intro m hm hmk j hj
    obtain ⟨s, h1, h2, h3⟩ := hsy m hm hmk
    refine ⟨_, s, hanc j hj, h1, ?_⟩
    have h0 : 0 < t.length := by omega
    have e : t.take (j + 1) = t[0] :: (t.drop 1).take j := by
      cases t with
      | nil => simp at h0
      | cons a r => simp
    rw [e]
    refine lexLt_top _ h2 fun v hv => ?_
    have a1 := ht v (h3 v hv)
    have a2 := hw t[0] (List.getElem_mem h0)
    rw [kinLt_iff]; left; omega
  have htp : t.Pairwise (ltP (l ++ t)) := by
    rw [List.pairwise_iff_getElem]
    intro i j hi hj hij
    refine ⟨_, _, hanc i hi, hanc j hj, ?_⟩
    have e : t.take (j + 1) = t.take (i + 1) ++ (t.drop (i + 1)).take (j - i) := by
      rw [show j + 1 = (i + 1) + (j - i) by omega, List.take_add]
    rw [e, ← List.append_assoc]
    have hne : (t.drop (i + 1)).take (j - i) ≠ [] := by
      intro h
      have := congrArg List.length h
      rw [List.length_take, List.length_drop] at this
      simp at this; omega
    have q := lexLt_app (su ++ t.take (i + 1)) (s := []) (t := (t.drop (i + 1)).take (j - i)) (lexLt_nil hne)
    simpa using q
  have hlp : l.Pairwise (ltP (l ++ t)) := hs.imp fun ⟨s, s', h1, h2, h3⟩ => ⟨s, s', h1.app, h2.app, h3⟩
  refine orderP_uniq hW2 (by rw [List.length_append]; omega) ?_ ?_
  · have e : l = l.take k ++ l.drop k := (List.take_append_drop k l).symm
    conv => rhs; rw [e]
    rw [List.append_assoc, List.append_assoc]
    exact List.Perm.append_left _ List.perm_append_comm
  · rw [List.append_assoc, List.pairwise_append, List.pairwise_append]
    have hlp2 := hlp
    rw [← List.take_append_drop k l, List.pairwise_append, List.take_append_drop k l] at hlp2
    refine ⟨hlp2.1, ⟨htp, hlp2.2.1, fun a ha b hb => ?_⟩, fun a ha b hb => ?_⟩
    · obtain ⟨j, hj, rfl⟩ := List.getElem_of_mem ha
      obtain ⟨m, hm, rfl⟩ := List.getElem_of_mem hb
      rw [List.length_drop] at hm
      rw [List.getElem_drop]
      exact hy (k + m) (by omega) (by omega) j hj
    · obtain ⟨m, hm, rfl⟩ := List.getElem_of_mem ha
      rw [List.length_take] at hm
      rw [List.getElem_take]
      rcases List.mem_append.1 hb with hb | hb
      · obtain ⟨j, hj, rfl⟩ := List.getElem_of_mem hb
        exact hx m (by omega) (by omega) j hj
      · have := hlp2.2.2 (l[m]'(by omega)) (by rw [List.mem_take_iff_getElem]; exact ⟨m, by omega, rfl⟩) b hb
        exact this
/-! ### What it shows -/
theorem bytesF_all : ∀ {l : List Pt} {acc : List Int}, (∀ p ∈ l, p.gone = false) → acc.length + l.length ≤ 200 → bytesF l acc = acc ++ l.map (·.val.n)
  | [], _, _, _ => by simp [bytesF]
  | p :: r, acc, hg, hl => by
    rw [List.length_cons] at hl
    rw [bytesF, if_pos ⟨hg p (by simp), by omega⟩, bytesF_all (fun q hq => hg q (by simp [hq])) (by rw [List.length_append]; simp; omega)]
    simp
theorem strOf_data (l : List Int) : (strOf l).data.toList = l.map fun n => UInt8.ofNat n.toNat := by
  induction l using snocInd with
  | h0 => rfl
  | h1 l n ih => rw [strOf_snoc, ByteArray.push]; simp [ih]
theorem tyF_bytes (w : Sp) : ∀ (bs : List UInt8) (n : Int) (up : Nm), (tyF w bs n up).map (fun p => UInt8.ofNat p.val.n.toNat) = bs
  | [], _, _ => rfl
  | b :: r, n, up => by
    rw [tyF, List.map_cons, tyF_bytes w r]
    simp
theorem tyF_gone {w : Sp} : ∀ {bs : List UInt8} {n : Int} {up : Nm}, ∀ x ∈ tyF w bs n up, x.gone = false
  | [], _, _, x, h => by cases h
  | b :: r, n, up, x, h => by
    rcases List.mem_cons.1 h with rfl | h
    · rfl
    · exact tyF_gone x h
theorem ba_ext {a b : ByteArray} (h : a.data.toList = b.data.toList) : a = b := by
  obtain ⟨⟨a⟩⟩ := a
  obtain ⟨⟨b⟩⟩ := b
  have : a = b := h
  rw [this]
theorem ba_app (a b : ByteArray) : (a ++ b).data.toList = a.data.toList ++ b.data.toList := by
  rw [ByteArray.data_append, Array.toList_append]
theorem ba_extract (a : ByteArray) (i j : Nat) : (a.extract i j).data.toList = (a.data.toList.take j).drop i := by
  rw [ByteArray.data_extract, Array.toList_extract]; simp [List.extract, List.drop_take]
theorem show_behind {l : List Pt} {w : Sp} {k : Nat} {up : Nm} (s : ByteArray) (hg : ∀ p ∈ l, p.gone = false) (hl : l.length ≤ 40) (hs : s.size ≤ 10) (hk : k ≤ l.length) :
    strOf (bytesF (l.take k ++ tyF w s.data.toList 0 up ++ l.drop k) []) = (strOf (bytesF l [])).extract 0 k ++ s ++ (strOf (bytesF l [])).extract k (strOf (bytesF l [])).size := by
  have hlen := tyF_len w s.data.toList 0 up
  rw [size_len] at hlen
  rw [bytesF_all (l := l) hg (by simp; omega), bytesF_all (fun p hp => by
    rcases List.mem_append.1 hp with hp | hp
    · rcases List.mem_append.1 hp with hp | hp
      · exact hg p (List.mem_of_mem_take hp)
      · exact tyF_gone p hp
    · exact hg p (List.mem_of_mem_drop hp)) (by simp [hlen]; omega)]
  refine ba_ext ?_
  rw [ba_app, ba_app, ba_extract, ba_extract, strOf_data, strOf_data, strOf_size]
  have e := tyF_bytes w s.data.toList 0 up
  simp only [List.nil_append, List.map_append, List.map_map, List.length_map, List.drop_zero, List.map_take, List.map_drop] at e ⊢
  have e2 : ((tyF w s.data.toList 0 up).map ((fun n : Int => UInt8.ofNat n.toNat) ∘ fun x : Pt => x.val.n)) = s.data.toList := e
  rw [e2, List.take_of_length_le (l := l.map _) (i := l.length) (by simp)]
theorem last_law {c : Cl} (hr : rightP c = 0) {T d : Int} {k : Nat} {up : Nm} (s : ByteArray) (hl : c.parts.length ≤ 40) (hs : s.size ≤ 10) (hT : 1 ≤ T ∧ T ≤ 1125899906842624) (hd : 1 ≤ d ∧ d ≤ 64) (hk : k ≤ c.parts.length)
    (hp : ∀ p ∈ c.parts, p.time < T ∧ p.gone = false) (hnd : ∀ p ∈ c.parts, ¬ (p.dot.dev = d ∧ p.dot.seq = 1048576)) (hup : (k = 0 ∧ up = Nm.zero) ∨ ∃ h : k - 1 < c.parts.length, 0 < k ∧ nameOf (c.parts[k - 1]'h) = up) :
    (typeP c s ⟨T, d, 1048576⟩ up).2 = 0 ∧ (showP (typeP c s ⟨T, d, 1048576⟩ up).1).s = (showP c).s.extract 0 k ++ s ++ (showP c).s.extract k (showP c).s.size ∧ (showP c).s.size = c.parts.length := by
  obtain ⟨_, _, hW, hl2, ho⟩ := rightP_whole hr
  have hI := Is.of hr
  have hw : wOK ⟨T, d, 1048576⟩ := by
    constructor
    · simp only [withinB, Bool.and_eq_true, decide_eq_true_eq]; omega
    · simp only [mayN, withinB, Bool.and_eq_true, decide_eq_true_eq]; omega
  have h0 : wrL c.parts ⟨T, d, 1048576⟩ = 0 := by
    unfold wrL
    rw [if_pos hw]
    exact wrF_none fun p hp e => hnd p hp ⟨congrArg Dt.dev e, congrArg Dt.seq e⟩
  have hb : behB c.parts ⟨T, d, 1048576⟩ up := by
    rcases hup with ⟨_, e⟩ | ⟨h, _, e⟩
    · exact .inl e
    · refine .inr ⟨_, List.getElem_mem h, e, .inr ?_⟩
      have := (hp _ (List.getElem_mem h)).1
      unfold lessS
      rw [if_pos (by simp only [stampOf]; omega)]
      exact decide_eq_true (by simpa [stampOf] using this)
  have hS : showP c = ⟨2, 0, strOf (bytesF c.parts [])⟩ := by unfold showP; rw [if_pos hr]
  have hsz : (showP c).s.size = c.parts.length := by
    rw [hS]
    show (strOf (bytesF c.parts [])).size = _
    rw [bytesF_all (fun p h => (hp p h).2) (by simp; omega), strOf_size]; simp
  rcases hI.type s ⟨T, d, 1048576⟩ up (by omega) with ⟨h1, _⟩ | ⟨_, h2, h3⟩
  · rw [h0] at h1
    rcases h1 with h | h | h | h
    · omega
    · exact absurd hb h
    · omega
    · omega
  · rw [h0] at h3
    refine ⟨h2, ?_, hsz⟩
    have hx : showP (typeP c s ⟨T, d, 1048576⟩ up).1 = ⟨2, 0, strOf (bytesF (typeP c s ⟨T, d, 1048576⟩ up).1.parts [])⟩ := by
      have hR := h3.right
      unfold showP; rw [if_pos hR]
    have hop := order_behind (w := ⟨T, d, 1048576⟩) (bs := s.data.toList) hW ho (by rw [size_len]; omega) hk hup h3.whole fun p h => (hp p h).1
    rw [hx, h3.parts, hop, hS]
    exact show_behind s (fun p h => (hp p h).2) hl hs hk
end Go.Proofs.Ytmljghkinhaalaa
