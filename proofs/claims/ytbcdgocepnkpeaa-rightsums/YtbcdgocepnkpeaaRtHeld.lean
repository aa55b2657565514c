import Derived.Test.YtbcdgocepnkpeaaRtStart
set_option linter.unusedSimpArgs false
set_option linter.unusedVariables false
namespace Go.Proofs.Ytbcdgocepnkpeaa
open Go Go.Abs
set_option maxRecDepth 10000
set_option maxHeartbeats 2000000
structure CD where
  dev : Int
  i1 : Nat
  i2 : Nat
  sp : List (Of × Option (Nat × List Sn))
  am : List (Of × Int)
def spF : Option (Nat × Nat) → PV
  | none => .val (.slice none 0 0)
  | some x => .vec x.1 2 0 x.2
def intF (n : Int) : PV := (PV.val (Value.int .i64 (n)))
def heldF (x : Nat × Nat) : PV := .agg [.mref x.1, .mref x.2]
def shp (v : Option (Nat × List Sn)) : Option (Nat × Nat) := v.map fun x => (x.1, x.2.length)
def spE (l : List (Of × Option (Nat × List Sn))) : List (Of × Option (Nat × Nat)) := l.map fun e => (e.1, shp e.2)
def spI (l : List (Of × Option (Nat × List Sn))) : List Nat := l.filterMap fun e => e.2.map (·.1)
def CD.ids (d : CD) : List Nat := d.i1 :: d.i2 :: spI d.sp
structure DevS (st S : Store) (d : CD) : Prop where
  m1 : S d.i1 = some (.map (ments Of.enc spF (spE d.sp)))
  m2 : S d.i2 = some (.map (ments Of.enc intF d.am))
  arr : ∀ k id l, (k, some (id, l)) ∈ d.sp → S id = some (.arr 80 (l.map Sn.cells))
  k1 : (d.sp.map (·.1)).Nodup
  k2 : (d.am.map (·.1)).Nodup
  ids : d.ids.Nodup
  new : ∀ j ∈ d.ids, st j = none
theorem spI_mem {l : List (Of × Option (Nat × List Sn))} {j : Nat} : j ∈ spI l ↔ ∃ k x, (k, some (j, x)) ∈ l := by
  unfold spI
  rw [List.mem_filterMap]
  constructor
  · rintro ⟨⟨k, v⟩, h, e⟩
    cases v with
    | none => cases e
    | some x => simp only [Option.map_some, Option.some.injEq] at e; subst e; exact ⟨k, x.2, h⟩
  · rintro ⟨k, x, h⟩
    exact ⟨_, h, rfl⟩
theorem DevS.live {st S : Store} {d : CD} (h : DevS st S d) : ∀ j ∈ d.ids, S j ≠ none := by
  intro j hj
  rcases List.mem_cons.1 hj with rfl | hj
  · rw [h.m1]; simp
  rcases List.mem_cons.1 hj with rfl | hj
  · rw [h.m2]; simp
  obtain ⟨k, x, hx⟩ := spI_mem.1 hj
  rw [h.arr k j x hx]; simp
theorem DevS.congr {st S S' : Store} {d : CD} (h : DevS st S d) (hS : ∀ j ∈ d.ids, S' j = S j) : DevS st S' d :=
  ⟨(hS _ (by simp [CD.ids])).trans h.m1, (hS _ (by simp [CD.ids])).trans h.m2, fun k id l hk => (hS id (by simp only [CD.ids, List.mem_cons]; exact .inr (.inr (spI_mem.2 ⟨k, l, hk⟩)))).trans (h.arr k id l hk), h.k1, h.k2, h.ids, h.new⟩
structure HeldS (st S : Store) (D : List CD) : Prop where
  old : ∀ j, st j ≠ none → S j = st j
  dev : ∀ d ∈ D, DevS st S d
  apart : D.Pairwise fun a b => ∀ j ∈ a.ids, j ∉ b.ids
  devs : (D.map (·.dev)).Nodup
def setD (d' : CD) (D : List CD) : List CD := D.map fun x => if x.dev = d'.dev then d' else x
theorem pair_of {α : Type} {r : α → α → Prop} (hs : ∀ a b, r a b → r b a) : ∀ {l : List α}, l.Pairwise r → ∀ {a b}, a ∈ l → b ∈ l → a ≠ b → r a b
  | [], _, _, _, h, _, _ => by cases h
  | x :: l, hp, a, b, ha, hb, hn => by
    obtain ⟨h1, h2⟩ := List.pairwise_cons.1 hp
    rcases List.mem_cons.1 ha with e | ha' <;> rcases List.mem_cons.1 hb with e' | hb'
    · exact absurd (e.trans e'.symm) hn
    · rw [e]; exact h1 b hb'
    · rw [e']; exact hs _ _ (h1 a ha')
    · exact pair_of hs h2 ha' hb' hn
theorem HeldS.ap {st S : Store} {D : List CD} (h : HeldS st S D) {a b : CD} (ha : a ∈ D) (hb : b ∈ D) (hn : a.dev ≠ b.dev) : ∀ j ∈ a.ids, j ∉ b.ids :=
  pair_of (r := fun a b : CD => ∀ j ∈ a.ids, j ∉ b.ids) (fun _ _ q j h1 h2 => q j h2 h1) h.apart ha hb fun e => hn (by rw [e])
theorem nodup_eq {α β : Type} {f : α → β} : ∀ {l : List α}, (l.map f).Nodup → ∀ {a b}, a ∈ l → b ∈ l → f a = f b → a = b
  | [], _, _, _, h, _, _ => by cases h
  | x :: l, hn, a, b, ha, hb, e => by
    simp only [List.map_cons, List.nodup_cons] at hn
    rcases List.mem_cons.1 ha with e1 | ha' <;> rcases List.mem_cons.1 hb with e2 | hb'
    · rw [e1, e2]
    · exact (hn.1 (List.mem_map.2 ⟨b, hb', by rw [← e, e1]⟩)).elim
    · exact (hn.1 (List.mem_map.2 ⟨a, ha', by rw [e, e2]⟩)).elim
    · exact nodup_eq hn.2 ha' hb' e
theorem HeldS.set {st S S' : Store} {D : List CD} (h : HeldS st S D) {d d' : CD} (hd : d ∈ D) (hdev : d'.dev = d.dev) (hd' : DevS st S' d') (hids : ∀ j ∈ d'.ids, j ∈ d.ids ∨ S j = none) (hS : ∀ j, S j ≠ none → j ∉ d.ids → S' j = S j) : HeldS st S' (setD d' D) := by
  have hmem : ∀ x ∈ setD d' D, x = d' ∨ x ∈ D ∧ x.dev ≠ d.dev := fun x hx => by
    obtain ⟨y, hy, rfl⟩ := List.mem_map.1 hx
    by_cases e : y.dev = d'.dev
    · left; simp [e]
    · right; simp only [if_neg e]; exact ⟨hy, fun q => e (q.trans hdev.symm)⟩
  have hdevs : (setD d' D).map (·.dev) = D.map (·.dev) := by
    unfold setD
    rw [List.map_map]
    refine List.map_congr_left fun x _ => ?_
    show (if x.dev = d'.dev then d' else x).dev = x.dev
    by_cases e : x.dev = d'.dev
    · rw [if_pos e, e]
    · rw [if_neg e]
  refine ⟨fun j hj => ?_, fun x hx => ?_, ?_, by rw [hdevs]; exact h.devs⟩
  · rw [hS j (by rw [h.old j hj]; exact hj) fun q => hj ((h.dev d hd).new j q)]; exact h.old j hj
  · rcases hmem x hx with rfl | ⟨hx, hn⟩
    · exact hd'
    · exact (h.dev x hx).congr fun j hj => hS j ((h.dev x hx).live j hj) (h.ap hx hd hn j hj)
  · have key : ∀ a ∈ D, a.dev ≠ d.dev → ∀ j ∈ a.ids, j ∉ d'.ids := fun a ha hn j hj q => by
      rcases hids j q with q | q
      · exact h.ap ha hd hn j hj q
      · exact (h.dev a ha).live j hj q
    unfold setD
    rw [List.pairwise_map]
    have hp : D.Pairwise fun a b => (∀ j ∈ a.ids, j ∉ b.ids) ∧ a.dev ≠ b.dev := List.Pairwise.and h.apart (List.pairwise_map.1 h.devs)
    refine List.Pairwise.imp_of_mem ?_ hp
    intro a b ha hb ⟨h1, h2⟩
    by_cases e1 : a.dev = d'.dev
    · have e2 : b.dev ≠ d'.dev := fun q => h2 (e1.trans q.symm)
      rw [if_pos e1, if_neg e2]
      exact fun j hj q => key b hb (fun q' => e2 (q'.trans hdev.symm)) j q hj
    · rw [if_neg e1]
      by_cases e2 : b.dev = d'.dev
      · rw [if_pos e2]; exact key a ha fun q' => e1 (q'.trans hdev.symm)
      · rw [if_neg e2]; exact h1
theorem HeldS.add {st S S' : Store} {D : List CD} (h : HeldS st S D) {d : CD} (hd : DevS st S' d) (hdev : d.dev ∉ D.map (·.dev)) (hids : ∀ j ∈ d.ids, S j = none) (hS : ∀ j, S j ≠ none → S' j = S j) : HeldS st S' (D ++ [d]) := by
  refine ⟨fun j hj => by rw [hS j (by rw [h.old j hj]; exact hj)]; exact h.old j hj, fun x hx => ?_, ?_, ?_⟩
  · rcases List.mem_append.1 hx with hx | hx
    · exact (h.dev x hx).congr fun j hj => hS j ((h.dev x hx).live j hj)
    · rw [List.mem_singleton.1 hx]; exact hd
  · rw [List.pairwise_append]
    exact ⟨h.apart, List.pairwise_singleton _ _, fun a ha b hb j hj q => by rw [List.mem_singleton.1 hb] at q; exact (h.dev a ha).live j hj (hids j q)⟩
  · rw [List.map_append, List.nodup_append]
    exact ⟨h.devs, by simp, fun a ha b hb e => hdev (by simp only [List.map_cons, List.map_nil, List.mem_singleton] at hb; rw [← hb, ← e]; exact ha)⟩
theorem mget_map {K V W : Type} [DecidableEq K] (g : V → W) (k : K) : ∀ (l : List (K × V)), mget k (l.map fun e => (e.1, g e.2)) = (mget k l).map g
  | [] => rfl
  | e :: l => by
    simp only [List.map_cons, mget]
    split
    · rfl
    · exact mget_map g k l
theorem mset_map {K V W : Type} [DecidableEq K] (g : V → W) (k : K) (v : V) : ∀ (l : List (K × V)), (mset k v l).map (fun e => (e.1, g e.2)) = mset k (g v) (l.map fun e => (e.1, g e.2))
  | [] => rfl
  | e :: l => by
    simp only [List.map_cons, mset]
    split
    · rfl
    · rw [List.map_cons, mset_map g k v l]
theorem mget_mem {K V : Type} [DecidableEq K] {k : K} {v : V} : ∀ {l : List (K × V)}, mget k l = some v → (k, v) ∈ l
  | (k', v') :: l, h => by
    simp only [mget] at h
    split at h
    · rename_i e; injection h with h; subst h; subst e; simp
    · exact List.mem_cons_of_mem _ (mget_mem h)
theorem mget_of {K V : Type} [DecidableEq K] {k : K} {v : V} : ∀ {l : List (K × V)}, (l.map (·.1)).Nodup → (k, v) ∈ l → mget k l = some v
  | e :: l, hn, h => by
    simp only [List.map_cons, List.nodup_cons] at hn
    simp only [mget]
    rcases List.mem_cons.1 h with rfl | h
    · rw [if_pos rfl]
    · rw [if_neg (fun q => hn.1 (List.mem_map.2 ⟨_, h, q⟩))]; exact mget_of hn.2 h
theorem mem_mset {K V : Type} [DecidableEq K] {k : K} {v : V} {x : K × V} : ∀ {l : List (K × V)}, (l.map (·.1)).Nodup → x ∈ mset k v l → x = (k, v) ∨ x ∈ l ∧ x.1 ≠ k
  | [], _, h => by simp only [mset, List.mem_singleton] at h; exact .inl h
  | e :: l, hn, h => by
    simp only [List.map_cons, List.nodup_cons] at hn
    simp only [mset] at h
    split at h
    · rename_i he
      rcases List.mem_cons.1 h with h | h
      · exact .inl h
      · refine .inr ⟨List.mem_cons_of_mem _ h, fun hh => hn.1 ?_⟩
        rw [← he, ← hh]; exact List.mem_map.2 ⟨x, h, rfl⟩
    · rename_i he
      rcases List.mem_cons.1 h with h | h
      · subst h; exact .inr ⟨List.mem_cons_self, fun hh => he hh.symm⟩
      · rcases mem_mset hn.2 h with h | ⟨h, h2⟩
        · exact .inl h
        · exact .inr ⟨List.mem_cons_of_mem _ h, h2⟩
theorem nodup_mset {K V : Type} [DecidableEq K] {k : K} {v : V} : ∀ {l : List (K × V)}, (l.map (·.1)).Nodup → ((mset k v l).map (·.1)).Nodup
  | [], _ => by simp [mset]
  | e :: l, hn => by
    simp only [List.map_cons, List.nodup_cons] at hn
    simp only [mset]
    split
    · rename_i he; simp only [List.map_cons, List.nodup_cons, he]; exact hn
    · rename_i he
      simp only [List.map_cons, List.nodup_cons]
      refine ⟨fun hm => ?_, nodup_mset hn.2⟩
      obtain ⟨x, hx, hxe⟩ := List.mem_map.1 hm
      rcases mem_mset hn.2 hx with rfl | ⟨h, _⟩
      · exact he hxe
      · exact hn.1 (List.mem_map.2 ⟨x, h, hxe⟩)
theorem DevS.amts {st S : Store} {d : CD} (h : DevS st S d) (k : Of) (n : Int) : DevS st (upd S d.i2 (some (.map (ments Of.enc intF (mset k n d.am))))) { d with am := mset k n d.am } := by
  have hn := h.ids
  simp only [CD.ids, List.nodup_cons, List.mem_cons, not_or] at hn
  refine ⟨(upd_ne hn.1.1).trans h.m1, upd_same _ _ _, fun k' id l hk => (upd_ne fun e => ?_).trans (h.arr k' id l hk), h.k1, nodup_mset h.k2, h.ids, h.new⟩
  exact hn.2.1 (e ▸ spI_mem.2 ⟨k', l, hk⟩)
theorem spI_mset {k : Of} {id' : Nat} {l' : List Sn} : ∀ {l : List (Of × Option (Nat × List Sn))}, (spI l).Nodup → id' ∉ spI l → (spI (mset k (some (id', l')) l)).Nodup ∧ ∀ j ∈ spI (mset k (some (id', l')) l), j = id' ∨ j ∈ spI l
  | [], _, _ => by simp [mset, spI]
  | (k0, v0) :: l, hn, hid => by
    have hsp : ∀ (k : Of) (v : Option (Nat × List Sn)) (l : List (Of × Option (Nat × List Sn))), spI ((k, v) :: l) = (match v with | none => spI l | some x => x.1 :: spI l) := fun k v l => by cases v <;> rfl
    have hn' : (spI l).Nodup ∧ ∀ x, v0 = some x → x.1 ∉ spI l := by
      rw [hsp] at hn
      cases v0 with
      | none => exact ⟨hn, fun _ h => by cases h⟩
      | some x => exact ⟨(List.nodup_cons.1 hn).2, fun y h => by injection h with h; subst h; exact (List.nodup_cons.1 hn).1⟩
    have hid' : id' ∉ spI l ∧ ∀ x, v0 = some x → id' ≠ x.1 := by
      rw [hsp] at hid
      cases v0 with
      | none => exact ⟨hid, fun _ h => by cases h⟩
      | some x => simp only [List.mem_cons, not_or] at hid; exact ⟨hid.2, fun y h => by injection h with h; subst h; exact hid.1⟩
    simp only [mset]
    split
    · rw [hsp, hsp]
      refine ⟨List.nodup_cons.2 ⟨hid'.1, hn'.1⟩, fun j hj => ?_⟩
      rcases List.mem_cons.1 hj with h | h
      · exact .inl h
      · right; cases v0 with
        | none => exact h
        | some x => exact List.mem_cons_of_mem _ h
    · obtain ⟨i1, i2⟩ := spI_mset (k := k) (l' := l') hn'.1 hid'.1
      rw [hsp, hsp]
      cases v0 with
      | none => exact ⟨i1, i2⟩
      | some x =>
        refine ⟨List.nodup_cons.2 ⟨fun q => ?_, i1⟩, fun j hj => ?_⟩
        · rcases i2 _ q with q | q
          · exact hid'.2 x rfl q.symm
          · exact hn'.2 x rfl q
        · rcases List.mem_cons.1 hj with h | h
          · right; rw [h]; exact List.mem_cons_self
          · rcases i2 j h with h | h
            · exact .inl h
            · exact .inr (List.mem_cons_of_mem _ h)
theorem DevS.spans {st S S1 : Store} {d : CD} (h : DevS st S d) (k : Of) (l' : List Sn) {id' : Nat} (hid : S id' = none) (hst : st id' = none) (hS1 : ∀ j ∈ d.ids, j ≠ d.i1 → (∀ x, mget k d.sp = some (some x) → j ≠ x.1) → S1 j = S j) :
    DevS st (upd (upd S1 id' (some (.arr 80 (l'.map Sn.cells)))) d.i1 (some (.map (ments Of.enc spF (mset k (some (id', l'.length)) (spE d.sp)))))) { d with sp := mset k (some (id', l')) d.sp } := by
  have hn := h.ids
  simp only [CD.ids, List.nodup_cons, List.mem_cons, not_or] at hn
  obtain ⟨⟨n1, n2⟩, n3, n4⟩ := hn
  have hfr : id' ∉ d.ids := fun q => h.live id' q hid
  simp only [CD.ids, List.mem_cons, not_or] at hfr
  obtain ⟨f1, f2, f3⟩ := hfr
  obtain ⟨s1, s2⟩ := spI_mset (k := k) (l' := l') n4 f3
  have hid2 : ∀ j, j = id' ∨ j ∈ spI d.sp → j ≠ d.i1 ∧ j ≠ d.i2 := fun j hj => by
    rcases hj with rfl | hj
    · exact ⟨f1, f2⟩
    · exact ⟨fun e => n2 (e ▸ hj), fun e => n3 (e ▸ hj)⟩
  refine ⟨?_, ?_, fun k' id l hk => ?_, nodup_mset h.k1, h.k2, ?_, fun j hj => ?_⟩
  · rw [upd_same]
    have : spE (mset k (some (id', l')) d.sp) = mset k (some (id', l'.length)) (spE d.sp) := mset_map shp k (some (id', l')) d.sp
    simp only [this]
  · rw [upd_ne (Ne.symm n1), upd_ne (Ne.symm f2), hS1 _ (by simp [CD.ids]) (Ne.symm n1) fun x hx e => ?_]
    · exact h.m2
    · exact n3 (e ▸ spI_mem.2 ⟨k, x.2, mget_mem hx⟩)
  · rcases mem_mset h.k1 hk with e | ⟨e, hne⟩
    · simp only [Prod.mk.injEq, Option.some.injEq] at e
      obtain ⟨rfl, rfl, rfl⟩ := e
      rw [upd_ne f1, upd_same]
    · have hj : id ∈ spI d.sp := spI_mem.2 ⟨k', l, e⟩
      have hni : id ≠ id' := fun q => f3 (q ▸ hj)
      rw [upd_ne (hid2 id (.inr hj)).1, upd_ne hni, hS1 id (by simp only [CD.ids, List.mem_cons]; exact .inr (.inr hj)) (hid2 id (.inr hj)).1 fun x hx q => ?_]
      · exact h.arr k' id l e
      · have e2 := mget_mem hx
        subst q
        have hinj : ∀ {m : List (Of × Option (Nat × List Sn))}, (spI m).Nodup → ∀ {k1 k2 : Of} {j : Nat} {x y : List Sn}, (k1, some (j, x)) ∈ m → (k2, some (j, y)) ∈ m → (m.map (·.1)).Nodup → k1 = k2 := by
          intro m
          induction m with
          | nil => intro _ _ _ _ _ _ h; cases h
          | cons z m ih =>
            intro hn k1 k2 j x y h1 h2 hk
            obtain ⟨kz, vz⟩ := z
            simp only [List.map_cons, List.nodup_cons] at hk
            have hn2 : (spI m).Nodup := by
              cases vz with
              | none => exact hn
              | some x => exact (List.nodup_cons.1 hn).2
            rcases List.mem_cons.1 h1 with e1 | h1' <;> rcases List.mem_cons.1 h2 with e2 | h2'
            · simp only [Prod.mk.injEq] at e1 e2; exact e1.1.trans e2.1.symm
            · simp only [Prod.mk.injEq] at e1; obtain ⟨_, rfl⟩ := e1
              exact absurd (show j ∈ spI m from spI_mem.2 ⟨k2, y, h2'⟩) (List.nodup_cons.1 hn).1
            · simp only [Prod.mk.injEq] at e2; obtain ⟨_, rfl⟩ := e2
              exact absurd (show j ∈ spI m from spI_mem.2 ⟨k1, x, h1'⟩) (List.nodup_cons.1 hn).1
            · exact ih hn2 h1' h2' hk.2
        exact hne (hinj n4 (y := x.2) e e2 h.k1)
  · simp only [CD.ids, List.nodup_cons, List.mem_cons, not_or]
    refine ⟨⟨n1, fun q => ?_⟩, fun q => ?_, s1⟩
    · exact (hid2 _ (s2 _ q)).1 rfl
    · exact (hid2 _ (s2 _ q)).2 rfl
  · simp only [CD.ids, List.mem_cons] at hj
    rcases hj with rfl | rfl | hj
    · exact h.new _ (by simp [CD.ids])
    · exact h.new _ (by simp [CD.ids])
    · rcases s2 j hj with rfl | hj
      · exact hst
      · exact h.new j (by simp only [CD.ids, List.mem_cons]; exact .inr (.inr hj))
end Go.Proofs.Ytbcdgocepnkpeaa
