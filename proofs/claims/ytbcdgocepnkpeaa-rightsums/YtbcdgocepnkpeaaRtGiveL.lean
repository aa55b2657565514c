import Derived.Test.YtbcdgocepnkpeaaRtGive3
import Derived.Test.YtbcdgocepnkpeaaRtEq
set_option linter.unusedSimpArgs false
set_option linter.unusedVariables false
namespace Go.Proofs.Ytbcdgocepnkpeaa
open Go Go.Abs
set_option maxRecDepth 10000
set_option maxHeartbeats 4000000
def giveA (b : Int) : List Rt → List Ow → List Ow × Int
  | [], out => (out, 0)
  | r :: l, out => if r.kind = 3 ∧ amL (rtsOf out b) (keyA r) + r.amt > 1099511627776 then ([], 20) else giveA b l (withP out b (putP (rtsOf out b) r))
def giveP (s : Sc) (o : List Ow) (a b : Int) : List Ow × Int :=
  if ¬ ((((canonP s o = true ∧ deviceB a = true) ∧ deviceB b = true) ∧ a ≠ 1) ∧ a ≠ b) then ([], 1)
  else giveA b (rtsOf o a) (withP o a [])
structure GiveS (o : List Ow) (a b : Int) (l : List Ow) : Prop where
  nfo : NFO l
  cv : ∀ d k n, cvR (rtsOf l d) k n ↔ (d ≠ a ∧ cvR (rtsOf o d) k n) ∨ (d = b ∧ cvR (rtsOf o a) k n)
  am : ∀ d k, amL (rtsOf l d) k = (if d = a then 0 else amL (rtsOf o d) k) + if d = b then amL (rtsOf o a) k else 0
theorem GiveS.uniq {o : List Ow} {a b : Int} {l l' : List Ow} (h : GiveS o a b l) (h' : GiveS o a b l') : l = l' :=
  h.nfo.ext2 h'.nfo (fun d k n => (h.cv d k n).trans (h'.cv d k n).symm) fun d k => (h.am d k).trans (h'.am d k).symm
theorem amL_split {r : Rt} {l : List Rt} (h : NF (r :: l)) (k : Of) : amL (r :: l) k = add0 r k + amL l k := by
  rw [amL_cons]
  unfold add0
  split
  · rename_i q
    rw [← q.2, amL_bh (List.pairwise_cons.1 h.srt).1 q.1]; omega
  · omega
theorem put_step {out : List Ow} (ho : NFO out) (b : Int) {r : Rt} (hr : Rg r) : NFO (withP out b (putP (rtsOf out b) r)) ∧ (∀ d, d ≠ b → rtsOf (withP out b (putP (rtsOf out b) r)) d = rtsOf out d) ∧ (∀ k n, cvR (rtsOf (withP out b (putP (rtsOf out b) r)) b) k n ↔ inR r k n ∨ cvR (rtsOf out b) k n) ∧ ∀ k, amL (rtsOf (withP out b (putP (rtsOf out b) r)) b) k = amL (rtsOf out b) k + add0 r k := by
  have p1 := put_sem (ho.get b) hr
  have w1 := with_sem ho b p1.nf
  have e : rtsOf (withP out b (putP (rtsOf out b) r)) b = putP (rtsOf out b) r := by rw [w1.rts, if_pos rfl]
  exact ⟨w1.nfo, fun d hd => by rw [w1.rts, if_neg hd], fun k n => by rw [e]; exact p1.cv k n, fun k => by rw [e]; exact p1.am k⟩
theorem giveA_ok (b : Int) : ∀ (l : List Rt) (out : List Ow), NF l → NFO out → (∀ r ∈ l, r.kind = 3 → ¬ amL (rtsOf out b) (keyA r) + r.amt > 1099511627776) →
    (giveA b l out).2 = 0 ∧ NFO (giveA b l out).1 ∧ (∀ d, d ≠ b → rtsOf (giveA b l out).1 d = rtsOf out d) ∧ (∀ k n, cvR (rtsOf (giveA b l out).1 b) k n ↔ cvR (rtsOf out b) k n ∨ cvR l k n) ∧ ∀ k, amL (rtsOf (giveA b l out).1 b) k = amL (rtsOf out b) k + amL l k
  | [], out, _, ho, _ => ⟨rfl, ho, fun _ _ => rfl, fun k n => ⟨.inl, fun h => h.elim id fun q => absurd q (cvR_nil k n)⟩, fun k => by show _ = _ + (0 : Int); rw [Int.add_zero]; rfl⟩
  | r :: l, out, hl, ho, hno => by
    have hr := hl.rg (r := r) (by simp)
    have hb := (List.pairwise_cons.1 hl.srt).1
    rw [giveA, if_neg (fun q => hno r (by simp) q.1 q.2)]
    obtain ⟨g1, g2, g3, g4⟩ := put_step ho b hr
    obtain ⟨i1, i2, i3, i4, i5⟩ := giveA_ok b l _ hl.tail g1 fun x hx x3 => by
      rw [g4]
      have : add0 r (keyA x) = 0 := by
        unfold add0
        rw [if_neg]
        rintro ⟨q1, q2⟩
        exact bh_keyA (hb x hx) q1 q2
      rw [this, Int.add_zero]
      exact hno x (List.mem_cons_of_mem _ hx) x3
    refine ⟨i1, i2, fun d hd => (i3 d hd).trans (g2 d hd), fun k n => ?_, fun k => ?_⟩
    · rw [i4, g3, cvR_cons]
      unfold inR
      constructor
      · rintro ((q | q) | q)
        · exact .inr (.inl q)
        · exact .inl q
        · exact .inr (.inr q)
      · rintro (q | q | q)
        · exact .inl (.inr q)
        · exact .inl (.inl q)
        · exact .inr q
    · rw [i5, g4, amL_split hl]; omega
theorem giveA_over (b : Int) : ∀ (l : List Rt) (out : List Ow), NF l → NFO out → (∃ r ∈ l, r.kind = 3 ∧ amL (rtsOf out b) (keyA r) + r.amt > 1099511627776) → giveA b l out = ([], 20)
  | [], _, _, _, ⟨_, h, _⟩ => by cases h
  | r :: l, out, hl, ho, ⟨x, hx, x3, xo⟩ => by
    have hr := hl.rg (r := r) (by simp)
    have hb := (List.pairwise_cons.1 hl.srt).1
    rw [giveA]
    by_cases q : r.kind = 3 ∧ amL (rtsOf out b) (keyA r) + r.amt > 1099511627776
    · rw [if_pos q]
    · rw [if_neg q]
      obtain ⟨g1, g2, g3, g4⟩ := put_step ho b hr
      have hx2 : x ∈ l := by
        rcases List.mem_cons.1 hx with e | e
        · exact absurd ⟨e ▸ x3, by rw [← e]; exact xo⟩ q
        · exact e
      refine giveA_over b l _ hl.tail g1 ⟨x, hx2, x3, ?_⟩
      have : add0 r (keyA x) = 0 := by
        unfold add0
        rw [if_neg]
        rintro ⟨q1, q2⟩
        exact bh_keyA (hb x hx2) q1 q2
      rw [g4, this, Int.add_zero]; exact xo
theorem addSp_cv (k : Of) (n : Int) : ∀ (vs sp : List (Of × List Sn)), (vs.map (·.1)).Nodup → (cvS ((mget k (addSp sp vs)).getD []) n ↔ cvS ((mget k sp).getD []) n ∨ cvS ((mget k vs).getD []) n)
  | [], sp, _ => ⟨.inl, fun h => h.elim id fun q => absurd q (cvS_nil n)⟩
  | e :: vs, sp, hn => by
    simp only [List.map_cons, List.nodup_cons] at hn
    have ih := addSp_cv k n vs (mset e.1 ((mget e.1 sp).getD [] ++ e.2) sp) hn.2
    have e1 : addSp sp (e :: vs) = addSp (mset e.1 ((mget e.1 sp).getD [] ++ e.2) sp) vs := rfl
    rw [e1, ih, mget_mset]
    show _ ↔ _ ∨ cvS ((if k = e.1 then some e.2 else mget k vs).getD []) n
    by_cases h : k = e.1
    · rw [if_pos h, if_pos h, Option.getD_some, Option.getD_some, cvS_append, h]
      have : mget e.1 vs = none := by
        cases hg : mget e.1 vs with
        | none => rfl
        | some v => exact absurd (List.mem_map.2 ⟨_, mget_mem hg, rfl⟩) hn.1
      rw [this]
      exact ⟨fun h => h.elim id fun q => absurd q (cvS_nil n), .inl⟩
    · rw [if_neg h, if_neg h]
theorem addAm_get (k : Of) : ∀ (va am : List (Of × Int)), (va.map (·.1)).Nodup → (mget k (addAm am va)).getD 0 = (mget k am).getD 0 + (mget k va).getD 0
  | [], am, _ => by show _ = _ + (0 : Int); rw [Int.add_zero]; rfl
  | e :: va, am, hn => by
    simp only [List.map_cons, List.nodup_cons] at hn
    have ih := addAm_get k va (mset e.1 ((mget e.1 am).getD 0 + e.2) am) hn.2
    have e1 : addAm am (e :: va) = addAm (mset e.1 ((mget e.1 am).getD 0 + e.2) am) va := rfl
    rw [e1, ih, mget_mset]
    show _ = _ + (if k = e.1 then some e.2 else mget k va).getD 0
    by_cases h : k = e.1
    · rw [if_pos h, if_pos h, Option.getD_some, Option.getD_some, h]
      have : mget e.1 va = none := by
        cases hg : mget e.1 va with
        | none => rfl
        | some v => exact absurd (List.mem_map.2 ⟨_, mget_mem hg, rfl⟩) hn.1
      rw [this]; simp
    · rw [if_neg h, if_neg h]
theorem PdK.addA : ∀ (va : List (Of × Int)) {p : PD}, PdK p → (∀ e ∈ va, e.1.kind = 3) → PdK ⟨p.dev, p.sp, addAm p.am va⟩
  | [], _, h, _ => h
  | e :: va, p, h, hk => PdK.addA va (p := { p with am := mset e.1 ((mget e.1 p.am).getD 0 + e.2) p.am }) (h.am (hk e (by simp)) _) fun x hx => hk x (List.mem_cons_of_mem _ hx)
theorem PdK.addS : ∀ (vs : List (Of × List Sn)) {p : PD}, PdK p → (∀ e ∈ vs, (e.1.kind ≠ 3 ∧ e.1.group = 0) ∧ ∀ x ∈ e.2, x.lo < x.hi) → PdK ⟨p.dev, addSp p.sp vs, p.am⟩
  | [], _, h, _ => h
  | e :: vs, p, h, hk => PdK.addS vs (p := { p with sp := mset e.1 ((mget e.1 p.sp).getD [] ++ e.2) p.sp }) (h.sp (hk e (by simp)).1 fun x hx => by
      rcases List.mem_append.1 hx with hx | hx
      · exact h.get _ x hx
      · exact (hk e (by simp)).2 x hx) fun x hx => hk x (List.mem_cons_of_mem _ hx)
theorem findD_filter (a d : Int) (L : List PD) : findD d (L.filter fun p => decide (p.dev ≠ a)) = if d = a then none else findD d L := by
  unfold findD
  induction L with
  | nil => simp
  | cons p L ih =>
    by_cases h : p.dev = a
    · rw [List.filter_cons_of_neg (by simpa using h), ih]
      by_cases e : d = a
      · rw [if_pos e, if_pos e]
      · rw [if_neg e, if_neg e, List.find?_cons_of_neg (by simp; omega)]
    · rw [List.filter_cons_of_pos (by simpa using h)]
      by_cases e : p.dev = d
      · rw [List.find?_cons_of_pos (by simpa using e), List.find?_cons_of_pos (by simpa using e), if_neg (by omega)]
      · rw [List.find?_cons_of_neg (by simpa using e), ih, List.find?_cons_of_neg (by simpa using e)]
theorem give_law {s : Sc} (hs : FewS s) {o : List Ow} {a b : Int} (h1 : GiveArg s o a b) {l : List Ow} {e : Int} (h : GiveR o a b l e) : (l, e) = giveP s o a b := by
  have hCO := (canon_iff s o).1 h1.hc
  have ho := hCO.nfo
  have w1 := with_sem ho a NF.nil
  have hab := h1.ne
  have e1 : rtsOf (withP o a []) b = rtsOf o b := by rw [w1.rts, if_neg (fun q => hab q.symm)]
  unfold giveP
  rw [if_neg (fun q => q ⟨⟨⟨⟨h1.hc, h1.ha⟩, h1.hb⟩, h1.h1⟩, h1.ne⟩)]
  rcases h with ⟨rfl, rfl, k, hk⟩ | ⟨rfl, pa, va, vs, hpm, hpd, hva, hvs, hno, hcl⟩
  · have hb2 := (amtOf_ok hs hCO b k).2
    rw [amt_open ho, amt_open ho] at hk
    rw [amt_open ho] at hb2
    obtain ⟨r, hr, r3, rk, ra⟩ := amL_some (R := rtsOf o a) (k := k) (by omega)
    exact (giveA_over b _ _ (ho.get a) w1.nfo ⟨r, hr, r3, by rw [e1, rk, ra]; exact hk⟩).symm
  · obtain ⟨lk1, m1, _⟩ := (open_lk ho).at a
    obtain ⟨lk2, m2, m3⟩ := lk1.at b
    have hfa : findD a (atP b (atP a (openP o))) = some pa := by have := findD_mem lk2.nd hpm; rwa [hpd] at this
    have hpk := lk2.pd pa hpm
    have hvan : (va.map (·.1)).Nodup := (hva.map (·.1)).nodup_iff.2 hpk.ann
    have hvsn : (vs.map (·.1)).Nodup := (hvs.map (·.1)).nodup_iff.2 hpk.snd
    have hav : ∀ k, (mget k va).getD 0 = amL (rtsOf o a) k := fun k => by
      rw [mget_perm hva hvan, ← amt_open ho, ← amtOf_at a, ← amtOf_at b]
      unfold amtOf; rw [hfa]
    have hsv : ∀ k n, cvS ((mget k vs).getD []) n ↔ cvR (rtsOf o a) k n := fun k n => by
      rw [mget_perm hvs hvsn, ← sp_open ho, ← spOf_at a, ← spOf_at b]
      unfold spOf; rw [hfa]
    have hng : ∀ r ∈ rtsOf o a, r.kind = 3 → ¬ amL (rtsOf (withP o a []) b) (keyA r) + r.amt > 1099511627776 := fun r hr r3 => by
      have h0 := amL_of (ho.get a) hr r3
      have h2 := ((ho.get a).sum r hr r3).2
      have h4 := hav (keyA r)
      cases hg : mget (keyA r) va with
      | none => rw [hg, h0] at h4; exact absurd h4.symm h2
      | some n =>
        rw [hg, h0, Option.getD_some] at h4
        have := hno _ (mget_mem hg)
        rw [amt_open ho] at this
        rw [e1]; simp only at this; omega
    obtain ⟨i1, i2, i3, i4, i5⟩ := giveA_ok b (rtsOf o a) (withP o a []) (ho.get a) w1.nfo hng
    have hS1 : GiveS o a b (giveA b (rtsOf o a) (withP o a [])).1 := by
      refine ⟨i2, fun d k n => ?_, fun d k => ?_⟩
      · by_cases q : d = b
        · subst q
          rw [i4, e1]
          exact ⟨fun h => h.elim (fun h => .inl ⟨fun q => hab q.symm, h⟩) fun h => .inr ⟨rfl, h⟩, fun h => h.elim (fun h => .inl h.2) fun h => .inr h.2⟩
        · rw [i3 d q, w1.rts]
          by_cases q2 : d = a
          · rw [if_pos q2]
            exact ⟨fun h => absurd h (cvR_nil k n), fun h => h.elim (fun h => absurd q2 h.1) fun h => absurd h.1 q⟩
          · rw [if_neg q2]
            exact ⟨fun h => .inl ⟨q2, h⟩, fun h => h.elim (fun h => h.2) fun h => absurd h.1 q⟩
      · by_cases q : d = b
        · subst q
          rw [i5, e1, if_neg (fun q => hab q.symm), if_pos rfl]
        · rw [i3 d q, w1.rts, if_neg q]
          by_cases q2 : d = a
          · rw [if_pos q2, if_pos q2]; rfl
          · rw [if_neg q2, if_neg q2]; omega
    have lk3 : LK ((atP b (atP a (openP o))).filter fun p => decide (p.dev ≠ a)) := ⟨fun p hp => lk2.pd p (List.mem_filter.1 hp).1, by
      have := lk2.nd
      rw [List.Nodup, List.pairwise_map] at this ⊢
      exact this.filter _⟩
    have lk4 := lk3.on (dev := b) (f := giveF va vs) (fun _ => rfl) fun p hp => (PdK.addS vs (PdK.addA va hp fun e he => hpk.ak e (hva.mem_iff.1 he)) fun e he => ⟨hpk.sk e (hvs.mem_iff.1 he), hpk.sn e (hvs.mem_iff.1 he)⟩)
    have hse := hcl.sem lk4.pd lk4.nd
    have hmb : b ∈ ((atP b (atP a (openP o))).filter fun p => decide (p.dev ≠ a)).map (·.dev) := by
      obtain ⟨p, hp, e⟩ := List.mem_map.1 m2
      exact List.mem_map.2 ⟨p, List.mem_filter.2 ⟨hp, by simp; omega⟩, e⟩
    have hS2 : GiveS o a b l := by
      refine ⟨hse.nfo, fun d k n => ?_, fun d k => ?_⟩
      · rw [hse.cv]
        have h5 : cvS (spOf (atP b (atP a (openP o))) d k) n ↔ cvR (rtsOf o d) k n := by rw [spOf_at, spOf_at, sp_open ho]
        unfold spOf at h5 ⊢
        rw [findD_onDev (giveF_dev va vs), findD_filter]
        by_cases q2 : d = a
        · rw [if_pos q2]
          exact ⟨fun h => absurd h (cvS_nil n), fun h => h.elim (fun h => absurd q2 h.1) fun h => absurd (q2.symm.trans h.1) hab⟩
        · rw [if_neg q2]
          by_cases q : d = b
          · subst q
            obtain ⟨p, hp⟩ := findD_ex m2
            rw [hp] at h5 ⊢
            simp only [Option.map_some, if_true]
            show cvS ((mget k (addSp p.sp vs)).getD []) n ↔ _
            rw [addSp_cv k n vs p.sp hvsn, hsv, h5]
            exact ⟨fun h => h.elim (fun h => .inl ⟨q2, h⟩) fun h => .inr ⟨trivial, h⟩, fun h => h.elim (fun h => .inl h.2) fun h => .inr h.2⟩
          · have e6 : (findD d (atP b (atP a (openP o)))).map (fun p => if d = b then giveF va vs p else p) = findD d (atP b (atP a (openP o))) := by
              simp only [if_neg q]; exact congrFun Option.map_id _
            rw [e6, h5]
            exact ⟨fun h => .inl ⟨q2, h⟩, fun h => h.elim (fun h => h.2) fun h => absurd h.1 q⟩
      · rw [hse.am]
        have h5 : amtOf (atP b (atP a (openP o))) d k = amL (rtsOf o d) k := by rw [amtOf_at, amtOf_at, amt_open ho]
        unfold amtOf at h5 ⊢
        rw [findD_onDev (giveF_dev va vs), findD_filter]
        by_cases q2 : d = a
        · rw [if_pos q2, if_pos q2, if_neg (fun h => hab (q2.symm.trans h))]; rfl
        · rw [if_neg q2, if_neg q2]
          by_cases q : d = b
          · subst q
            obtain ⟨p, hp⟩ := findD_ex m2
            rw [hp] at h5 ⊢
            simp only [Option.map_some, if_true]
            show (mget k (addAm p.am va)).getD 0 = _
            have h5 : (mget k p.am).getD 0 = amL (rtsOf o d) k := h5
            rw [addAm_get k va p.am hvan, hav, h5]
          · have e6 : (findD d (atP b (atP a (openP o)))).map (fun p => if d = b then giveF va vs p else p) = findD d (atP b (atP a (openP o))) := by
              simp only [if_neg q]; exact congrFun Option.map_id _
            rw [e6, h5, if_neg q]; omega
    rw [← i1, hS2.uniq hS1]
theorem give_spec (s : Sc) (hs : FewS s) (o : List Ow) (ho : FewO o) (a b : Int) : PF Try.prog 17 [.agg (scC s), .seq (o.map Ow.cells), (PV.val (Value.int .i64 (a))), (PV.val (Value.int .i64 (b)))] (.tup [.seq ((giveP s o a b).1.map Ow.cells), (PV.val (Value.int .i64 ((giveP s o a b).2)))]) := fun st => by
  by_cases h1 : GiveArg s o a b
  · refine pc_imp (give1_pc s hs o ho a b st h1) ?_
    rintro q S ⟨rfl, l, e, rfl, h⟩
    rw [← give_law hs h1 h]
    exact ⟨rfl, rfl⟩
  · refine pc_imp (give0_pc s hs o ho a b st h1) ?_
    rintro q S ⟨rfl, rfl⟩
    have e : giveP s o a b = ([], 1) := by
      unfold giveP
      rw [if_pos (fun q => h1 ⟨q.1.1.1.1, q.1.1.1.2, q.1.1.2, q.1.2, q.2⟩)]
    rw [e]
    exact ⟨rfl, rfl⟩
end Go.Proofs.Ytbcdgocepnkpeaa
