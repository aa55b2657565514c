import Derived.Test.YtbcdgocepnkpeaaRtPut
set_option linter.unusedSimpArgs false
set_option linter.unusedVariables false
namespace Go.Proofs.Ytbcdgocepnkpeaa
open Go Go.Abs
set_option maxRecDepth 10000
set_option maxHeartbeats 2000000
theorem onDev_devs {dev : Int} {f : PD → PD} (hf : ∀ p, (f p).dev = p.dev) (L : List PD) : (onDev dev f L).map (·.dev) = L.map (·.dev) := by
  unfold onDev
  rw [List.map_map]
  refine List.map_congr_left fun p _ => ?_
  show (if p.dev = dev then f p else p).dev = p.dev
  split
  · exact hf p
  · rfl
theorem findD_onDev {dev : Int} {f : PD → PD} (hf : ∀ p, (f p).dev = p.dev) (d : Int) (L : List PD) : findD d (onDev dev f L) = (findD d L).map fun p => if d = dev then f p else p := by
  unfold findD onDev
  induction L with
  | nil => rfl
  | cons p L ih =>
    rw [List.map_cons]
    have e : (if p.dev = dev then f p else p).dev = p.dev := by split; exact hf p; rfl
    by_cases h : p.dev = d
    · rw [List.find?_cons_of_pos (by simpa [e] using h), List.find?_cons_of_pos (by simpa using h), ← h]; rfl
    · rw [List.find?_cons_of_neg (by simpa [e] using h), List.find?_cons_of_neg (by simpa using h), ih]
theorem setAm_dev (k : Of) (n : Int) (p : PD) : (setAm k n p).dev = p.dev := rfl
theorem setSp_dev (k : Of) (v : List Sn) (p : PD) : (setSp k v p).dev = p.dev := rfl
theorem findD_ex {d : Int} {L : List PD} (h : d ∈ L.map (·.dev)) : ∃ p, findD d L = some p := by
  unfold findD
  cases hf : L.find? fun p => decide (p.dev = d) with
  | some p => exact ⟨p, rfl⟩
  | none =>
    obtain ⟨p, hp, e⟩ := List.mem_map.1 h
    have := List.find?_eq_none.1 hf p hp
    simp [e] at this
theorem spOf_setAm (dev : Int) (k : Of) (n : Int) (L : List PD) (d : Int) (k' : Of) : spOf (onDev dev (setAm k n) L) d k' = spOf L d k' := by
  unfold spOf
  rw [findD_onDev (setAm_dev k n)]
  cases findD d L with
  | none => rfl
  | some p => simp only [Option.map_some]; split <;> rfl
theorem amtOf_setSp (dev : Int) (k : Of) (v : List Sn) (L : List PD) (d : Int) (k' : Of) : amtOf (onDev dev (setSp k v) L) d k' = amtOf L d k' := by
  unfold amtOf
  rw [findD_onDev (setSp_dev k v)]
  cases findD d L with
  | none => rfl
  | some p => simp only [Option.map_some]; split <;> rfl
theorem amtOf_setAm {dev : Int} {k : Of} {n : Int} {L : List PD} (h : dev ∈ L.map (·.dev)) (d : Int) (k' : Of) : amtOf (onDev dev (setAm k n) L) d k' = if d = dev ∧ k' = k then n else amtOf L d k' := by
  unfold amtOf
  rw [findD_onDev (setAm_dev k n)]
  by_cases e : d = dev
  · subst e
    obtain ⟨p, hp⟩ := findD_ex h
    rw [hp]
    simp only [Option.map_some, if_true, true_and]
    unfold setAm
    simp only [mget_mset]
    split <;> rfl
  · rw [if_neg (fun q => e q.1)]
    cases findD d L with
    | none => rfl
    | some p => simp only [Option.map_some, if_neg e]
theorem spOf_setSp {dev : Int} {k : Of} {v : List Sn} {L : List PD} (h : dev ∈ L.map (·.dev)) (d : Int) (k' : Of) : spOf (onDev dev (setSp k v) L) d k' = if d = dev ∧ k' = k then v else spOf L d k' := by
  unfold spOf
  rw [findD_onDev (setSp_dev k v)]
  by_cases e : d = dev
  · subst e
    obtain ⟨p, hp⟩ := findD_ex h
    rw [hp]
    simp only [Option.map_some, if_true, true_and]
    unfold setSp
    simp only [mget_mset]
    split <;> rfl
  · rw [if_neg (fun q => e q.1)]
    cases findD d L with
    | none => rfl
    | some p => simp only [Option.map_some, if_neg e]
structure LK (L : List PD) : Prop where
  pd : ∀ p ∈ L, PdK p
  nd : (L.map (·.dev)).Nodup
theorem LK.at {L : List PD} (h : LK L) (dev : Int) : LK (atP dev L) ∧ dev ∈ (atP dev L).map (·.dev) ∧ ∀ d ∈ L.map (·.dev), d ∈ (atP dev L).map (·.dev) := by
  unfold atP
  split
  · rename_i q; exact ⟨h, q, fun _ h => h⟩
  · rename_i q
    refine ⟨⟨fun p hp => ?_, ?_⟩, by simp, fun d hd => by rw [List.map_append]; exact List.mem_append_left _ hd⟩
    · rcases List.mem_append.1 hp with hp | hp
      · exact h.pd p hp
      · rw [List.mem_singleton.1 hp]; exact PdK.zero dev
    · rw [List.map_append, List.map_cons, List.map_nil, List.nodup_append]
      exact ⟨h.nd, by simp, fun a ha b hb e => q (by have e2 : a = dev := e.trans (List.mem_singleton.1 hb); rw [← e2]; exact ha)⟩
theorem LK.on {L : List PD} (h : LK L) {dev : Int} {f : PD → PD} (hf : ∀ p, (f p).dev = p.dev) (hk : ∀ p, PdK p → PdK (f p)) : LK (onDev dev f L) := by
  refine ⟨fun p hp => ?_, by rw [onDev_devs hf]; exact h.nd⟩
  unfold onDev at hp
  obtain ⟨q, hq, rfl⟩ := List.mem_map.1 hp
  split
  · exact hk q (h.pd q hq)
  · exact h.pd q hq
theorem open_lk {o : List Ow} (h : NFO o) : LK (openP o) := ⟨(openP_sem h).1, (openP_sem h).2.1⟩
theorem amt_open {o : List Ow} (h : NFO o) (d : Int) (k : Of) : amtOf (openP o) d k = amL (rtsOf o d) k := ((openP_sem h).2.2.am d k).symm
theorem sp_open {o : List Ow} (h : NFO o) (d : Int) (k : Of) (n : Int) : cvS (spOf (openP o) d k) n ↔ cvR (rtsOf o d) k n := ((openP_sem h).2.2.cv d k n).symm
theorem lessP_cv (x : Sn) (n : Int) (hx : x.lo < x.hi) : ∀ l : List Sn, cvS (lessP x l) n ↔ cvS l n ∧ ¬ (x.lo ≤ n ∧ n < x.hi)
  | [] => ⟨fun h => absurd h (cvS_nil n), fun h => absurd h.1 (cvS_nil n)⟩
  | y :: l => by
    rw [lessP, cvS_append, lessP_cv x n hx l, cvS_cons]
    have e : cvS (keepS (two x y)) n ↔ (y.lo ≤ n ∧ n < y.hi) ∧ ¬ (x.lo ≤ n ∧ n < x.hi) := by
      unfold cvS keepS two
      constructor
      · rintro ⟨z, hz, h1, h2⟩
        obtain ⟨hz, _⟩ := List.mem_filter.1 hz
        simp only [List.mem_cons, List.not_mem_nil, or_false] at hz
        rcases hz with rfl | rfl
        · simp only at h1 h2; omega
        · simp only at h1 h2; omega
      · rintro ⟨h1, h2⟩
        by_cases q : n < x.lo
        · exact ⟨⟨y.lo, min y.hi x.lo⟩, List.mem_filter.2 ⟨by simp, by simp only [decide_eq_true_eq]; omega⟩, by simp only; omega, by simp only; omega⟩
        · exact ⟨⟨max y.lo x.hi, y.hi⟩, List.mem_filter.2 ⟨by simp, by simp only [decide_eq_true_eq]; omega⟩, by simp only; omega, by simp only; omega⟩
    rw [e]
    constructor
    · rintro (⟨a, b⟩ | ⟨a, b⟩)
      · exact ⟨.inl a, b⟩
      · exact ⟨.inr a, b⟩
    · rintro ⟨a | a, b⟩
      · exact .inl ⟨a, b⟩
      · exact .inr ⟨a, b⟩
theorem lessP_ne (x : Sn) : ∀ l : List Sn, ∀ z ∈ lessP x l, z.lo < z.hi
  | [], z, h => by cases h
  | y :: l, z, h => by
    rw [lessP] at h
    rcases List.mem_append.1 h with h | h
    · unfold keepS at h; simpa using (List.mem_filter.1 h).2
    · exact lessP_ne x l z h
def negA (r : Rt) : Rt := { r with amt := 0 - r.amt }
def handO (o : List Ow) (a b : Int) (r : Rt) (l : List Rt) : List Ow := withP (withP o a l) b (putP (rtsOf (withP o a l) b) r)
def handP (s : Sc) (o : List Ow) (a b : Int) (r : Rt) : List Ow × Int :=
  if ¬ (((canonP s o = true ∧ deviceB a = true) ∧ deviceB b = true) ∧ a ≠ b) then ([], 1)
  else if rightE s r ≠ 0 then ([], rightE s r)
  else if holdsP s o a r = false then ([], 15)
  else if r.kind = 3 then if amL (rtsOf o b) (keyA r) + r.amt > 1099511627776 then ([], 20) else (handO o a b r (putP (rtsOf o a) (negA r)), 0)
  else (handO o a b r (cutP (rtsOf o a) r), 0)
theorem rg_of {s : Sc} {r : Rt} (h : rightE s r = 0) : Rg r := by
  obtain ⟨_, h⟩ := rightE_ok.1 h
  exact ⟨fun h3 => by have := (mayR_span h3).1 h; omega, fun h3 => by have := (mayR_sum h3).1 h; omega⟩
structure HandS (o : List Ow) (a b : Int) (r : Rt) (l : List Ow) : Prop where
  nfo : NFO l
  cv : ∀ d k n, cvR (rtsOf l d) k n ↔ (cvR (rtsOf o d) k n ∧ ¬ (d = a ∧ inR r k n)) ∨ (d = b ∧ inR r k n)
  am : ∀ d k, amL (rtsOf l d) k = amL (rtsOf o d) k - (if d = a then add0 r k else 0) + if d = b then add0 r k else 0
theorem HandS.uniq {o : List Ow} {a b : Int} {r : Rt} {l l' : List Ow} (h : HandS o a b r l) (h' : HandS o a b r l') : l = l' :=
  h.nfo.ext2 h'.nfo (fun d k n => (h.cv d k n).trans (h'.cv d k n).symm) fun d k => (h.am d k).trans (h'.am d k).symm
theorem negA_add (r : Rt) (k : Of) : add0 (negA r) k = 0 - add0 r k := by
  unfold add0 negA
  show (if r.kind = 3 ∧ keyA r = k then 0 - r.amt else 0) = _
  split <;> omega
theorem inR3 {r : Rt} (h : r.kind = 3) (k : Of) (n : Int) : ¬ inR r k n := fun q => q.1 h
theorem add3 {r : Rt} (h : r.kind ≠ 3) (k : Of) : add0 r k = 0 := if_neg fun q => h q.1
theorem handO_sum {o : List Ow} (ho : NFO o) {a b : Int} (hab : a ≠ b) {r : Rt} (hr : Rg r) (h3 : r.kind = 3) : HandS o a b r (handO o a b r (putP (rtsOf o a) (negA r))) := by
  have hn : Rg (negA r) := ⟨fun q => absurd h3 q, fun _ => hr.sum h3⟩
  have p1 := put_sem (ho.get a) hn
  have w1 := with_sem ho a p1.nf
  have e1 : rtsOf (withP o a (putP (rtsOf o a) (negA r))) b = rtsOf o b := by rw [w1.rts, if_neg (fun q => hab q.symm)]
  have p2 := put_sem (w1.nfo.get b) hr
  have w2 := with_sem w1.nfo b p2.nf
  rw [e1] at p2
  unfold handO
  refine ⟨w2.nfo, fun d k n => ?_, fun d k => ?_⟩
  · rw [w2.rts]
    by_cases q : d = b
    · subst q
      rw [if_pos rfl, e1, p2.cv]
      exact ⟨fun h => .inl ⟨h.elim (fun q => absurd q (inR3 h3 k n)) id, fun q => absurd q.1.symm hab⟩, fun h => h.elim (fun q => .inr q.1) fun q => absurd q.2 (inR3 h3 k n)⟩
    · rw [if_neg q, w1.rts]
      by_cases q2 : d = a
      · subst q2
        rw [if_pos rfl, p1.cv]
        exact ⟨fun h => .inl ⟨h.elim (fun q => absurd h3 q.1) id, fun q => absurd q.2 (inR3 h3 k n)⟩, fun h => h.elim (fun q => .inr q.1) fun e => absurd e.1 q⟩
      · rw [if_neg q2]
        exact ⟨fun h => .inl ⟨h, fun e => q2 e.1⟩, fun h => h.elim (fun e => e.1) fun e => absurd e.1 q⟩
  · rw [w2.rts]
    by_cases q : d = b
    · subst q
      rw [if_pos rfl, e1, p2.am, if_neg (fun q => hab q.symm), if_pos rfl]; omega
    · rw [if_neg q, w1.rts, if_neg q]
      by_cases q2 : d = a
      · subst q2
        rw [if_pos rfl, p1.am, negA_add, if_pos rfl]; omega
      · rw [if_neg q2, if_neg q2]; omega
theorem handO_span {o : List Ow} (ho : NFO o) {a b : Int} (hab : a ≠ b) {r : Rt} (hr : Rg r) (h3 : r.kind ≠ 3) : HandS o a b r (handO o a b r (cutP (rtsOf o a) r)) := by
  have p1 := cut_sem hr h3 (ho.get a)
  have w1 := with_sem ho a p1.nf
  have e1 : rtsOf (withP o a (cutP (rtsOf o a) r)) b = rtsOf o b := by rw [w1.rts, if_neg (fun q => hab q.symm)]
  have p2 := put_sem (w1.nfo.get b) hr
  have w2 := with_sem w1.nfo b p2.nf
  rw [e1] at p2
  unfold handO
  refine ⟨w2.nfo, fun d k n => ?_, fun d k => ?_⟩
  · rw [w2.rts]
    by_cases q : d = b
    · subst q
      rw [if_pos rfl, e1, p2.cv]
      exact ⟨fun h => h.elim (fun q => .inr ⟨rfl, q⟩) fun q => .inl ⟨q, fun e => hab e.1.symm⟩, fun h => h.elim (fun q => .inr q.1) fun q => .inl q.2⟩
    · rw [if_neg q, w1.rts]
      by_cases q2 : d = a
      · subst q2
        rw [if_pos rfl, p1.cv]
        exact ⟨fun h => .inl ⟨h.1, fun e => h.2 e.2⟩, fun h => h.elim (fun e => ⟨e.1, fun i => e.2 ⟨rfl, i⟩⟩) fun e => absurd e.1 q⟩
      · rw [if_neg q2]
        exact ⟨fun h => .inl ⟨h, fun e => q2 e.1⟩, fun h => h.elim (fun e => e.1) fun e => absurd e.1 q⟩
  · rw [w2.rts]
    by_cases q : d = b
    · subst q
      rw [if_pos rfl, e1, p2.am, if_neg (fun q => hab q.symm), if_pos rfl]; omega
    · rw [if_neg q, w1.rts, if_neg q, add3 h3]
      by_cases q2 : d = a
      · subst q2
        rw [if_pos rfl, p1.am, if_pos rfl]; omega
      · rw [if_neg q2, if_neg q2]; omega
theorem kS_keyA (r : Rt) (h : r.kind = 3) : kS r.table r.col r.lo = keyA r := by unfold kS keyA; rw [h]
theorem keyA3 {r : Rt} (h : r.kind = 3) (k : Of) : add0 r k = if k = keyA r then r.amt else 0 := by
  unfold add0
  by_cases e : keyA r = k
  · rw [if_pos ⟨h, e⟩, if_pos e.symm]
  · rw [if_neg (fun q => e q.2), if_neg (fun q => e q.symm)]
theorem hand_law {s : Sc} {o : List Ow} {a b : Int} {r : Rt} {l : List Ow} {e : Int} (h : HandOf s o a b r l e) : (l, e) = handP s o a b r := by
  unfold handP
  by_cases c1 : HandArg s o a b
  · rw [if_neg (fun q => q ⟨⟨⟨c1.hc, c1.ha⟩, c1.hb⟩, c1.ne⟩)]
    by_cases c2 : rightE s r = 0
    · rw [if_neg (fun q => q c2)]
      cases c3 : holdsP s o a r with
      | false => rw [if_pos rfl]; obtain ⟨rfl, rfl⟩ := h.no c1 c2 c3; rfl
      | true =>
        rw [if_neg (by simp)]
        have ho := ((canon_iff s o).1 c1.hc).nfo
        have hr := rg_of c2
        have lk0 := open_lk ho
        obtain ⟨lk1, m1, _⟩ := lk0.at a
        obtain ⟨lk2, m2, m3⟩ := lk1.at b
        by_cases h3 : r.kind = 3
        · rw [if_pos h3, ← amt_open ho, ← kS_keyA r h3]
          by_cases c4 : amtOf (openP o) b (kS r.table r.col r.lo) > 1099511627776 - r.amt
          · rw [if_pos (by omega)]; obtain ⟨rfl, rfl⟩ := h.over c1 c2 c3 h3 c4; rfl
          · rw [if_neg (by omega)]
            obtain ⟨rfl, hc⟩ := h.sum c1 c2 c3 h3 c4
            have lk3 := lk2.on (dev := a) (f := setAm (kS r.table r.col r.lo) (amtOf (openP o) a (kS r.table r.col r.lo) - r.amt)) (fun _ => rfl) fun p hp => hp.am rfl _
            have lk4 := lk3.on (dev := b) (f := setAm (kS r.table r.col r.lo) (amtOf (openP o) b (kS r.table r.col r.lo) + r.amt)) (fun _ => rfl) fun p hp => hp.am rfl _
            have hs := hc.sem lk4.pd lk4.nd
            congr 1
            refine HandS.uniq ⟨hs.nfo, fun d k n => ?_, fun d k => ?_⟩ (handO_sum ho c1.ne hr h3)
            · rw [hs.cv, spOf_setAm, spOf_setAm, spOf_at, spOf_at, sp_open ho]
              exact ⟨fun h => .inl ⟨h, fun q => absurd q.2 (inR3 h3 k n)⟩, fun h => h.elim (fun q => q.1) fun q => absurd q.2 (inR3 h3 k n)⟩
            · rw [hs.am, amtOf_setAm (by rw [onDev_devs (setAm_dev _ _)]; exact m2), amtOf_setAm (m3 a m1), amtOf_at, amtOf_at, keyA3 h3, kS_keyA r h3, amt_open ho, amt_open ho, amt_open ho]
              have := c1.ne
              by_cases e1 : d = b
              · subst e1
                by_cases e2 : k = keyA r
                · subst e2
                  rw [if_pos ⟨rfl, rfl⟩, if_neg (fun q => this q.symm), if_pos rfl, if_pos rfl]; omega
                · rw [if_neg (fun q => e2 q.2), if_neg (fun q => e2 q.2), if_neg (fun q => this q.symm), if_pos rfl, if_neg e2]; omega
              · rw [if_neg (fun q => e1 q.1), if_neg e1]
                by_cases e2 : d = a
                · subst e2
                  by_cases e3 : k = keyA r
                  · subst e3; rw [if_pos ⟨rfl, rfl⟩, if_pos rfl, if_pos rfl]; omega
                  · rw [if_neg (fun q => e3 q.2), if_pos rfl, if_neg e3]; omega
                · rw [if_neg (fun q => e2 q.1), if_neg e2]; omega
        · rw [if_neg h3]
          obtain ⟨rfl, hc⟩ := h.span c1 c2 c3 h3
          have kk : kR r = keyS r := rfl
          have hr3 := hr.span h3
          have hkk : (kR r).kind ≠ 3 ∧ (kR r).group = 0 := ⟨h3, rfl⟩
          have lk3 := lk2.on (dev := a) (f := setSp (kR r) (lessP ⟨r.lo, r.hi⟩ (spOf (openP o) a (kR r)))) (fun _ => rfl) fun p hp => hp.sp hkk (lessP_ne _ _)
          have hsn : ∀ x ∈ spOf (openP o) b (kR r) ++ [⟨r.lo, r.hi⟩], x.lo < x.hi := fun x hx => by
            rcases List.mem_append.1 hx with hx | hx
            · unfold spOf at hx
              split at hx
              · rename_i p hp
                exact (lk0.pd p (List.mem_of_find?_eq_some hp)).get _ x hx
              · cases hx
            · rw [List.mem_singleton.1 hx]; exact hr3.1
          have lk4 := lk3.on (dev := b) (f := setSp (kR r) (spOf (openP o) b (kR r) ++ [⟨r.lo, r.hi⟩])) (fun _ => rfl) fun p hp => hp.sp hkk hsn
          have hs := hc.sem lk4.pd lk4.nd
          congr 1
          refine HandS.uniq ⟨hs.nfo, fun d k n => ?_, fun d k => ?_⟩ (handO_span ho c1.ne hr h3)
          · rw [hs.cv, spOf_setSp (by rw [onDev_devs (setSp_dev _ _)]; exact m2), spOf_setSp (m3 a m1), spOf_at, spOf_at, kk]
            have := c1.ne
            by_cases e1 : d = b
            · subst e1
              by_cases e2 : k = keyS r
              · subst e2
                rw [if_pos ⟨rfl, rfl⟩, cvS_append, sp_open ho, cvS_cons]
                constructor
                · rintro (q | q | q)
                  · exact .inl ⟨q, fun q => this q.1.symm⟩
                  · exact .inr ⟨rfl, h3, rfl, q⟩
                  · exact absurd q (cvS_nil n)
                · rintro (q | q)
                  · exact .inl q.1
                  · exact .inr (.inl q.2.2.2)
              · rw [if_neg (fun q => e2 q.2), if_neg (fun q => e2 q.2), sp_open ho]
                exact ⟨fun q => .inl ⟨q, fun q => this q.1.symm⟩, fun q => q.elim (fun q => q.1) fun q => absurd q.2.2.1.symm e2⟩
            · rw [if_neg (fun q => e1 q.1)]
              by_cases e2 : d = a
              · subst e2
                by_cases e3 : k = keyS r
                · subst e3
                  rw [if_pos ⟨rfl, rfl⟩, lessP_cv _ n hr3.1, sp_open ho]
                  exact ⟨fun q => .inl ⟨q.1, fun i => q.2 i.2.2.2⟩, fun q => q.elim (fun q => ⟨q.1, fun i => q.2 ⟨rfl, h3, rfl, i⟩⟩) fun q => absurd q.1 e1⟩
                · rw [if_neg (fun q => e3 q.2), sp_open ho]
                  exact ⟨fun q => .inl ⟨q, fun i => e3 i.2.2.1.symm⟩, fun q => q.elim (fun q => q.1) fun q => absurd q.1 e1⟩
              · rw [if_neg (fun q => e2 q.1), sp_open ho]
                exact ⟨fun q => .inl ⟨q, fun i => e2 i.1⟩, fun q => q.elim (fun q => q.1) fun q => absurd q.1 e1⟩
          · rw [hs.am, amtOf_setSp, amtOf_setSp, amtOf_at, amtOf_at, amt_open ho, add3 h3]; simp
    · rw [if_pos c2]; obtain ⟨rfl, rfl⟩ := h.bad c1 c2; rfl
  · rw [if_pos (fun q => c1 ⟨q.1.1.1, q.1.1.2, q.1.2, q.2⟩)]
    obtain ⟨rfl, rfl⟩ := h.arg c1; rfl
def useR (table sum group by_ : Int) : Rt := ⟨3, table, sum, group, 0, 0 - by_⟩
def useP (s : Sc) (o : List Ow) (dev table sum group by_ : Int) : List Ow × Int :=
  if ¬ (((canonP s o = true ∧ deviceB dev = true) ∧ fitsB group = true) ∧ fitsB by_ = true) then ([], 1)
  else if thereP s 3 table sum ≠ 0 then ([], 4)
  else if by_ > budgetP s o dev table sum group then ([], 15)
  else if amL (rtsOf o dev) (kS table sum group) - by_ > 1099511627776 then ([], 20)
  else (withP o dev (putP (rtsOf o dev) (useR table sum group by_)), 0)
structure UseS (o : List Ow) (dev : Int) (k : Of) (n : Int) (l : List Ow) : Prop where
  nfo : NFO l
  cv : ∀ d k n, cvR (rtsOf l d) k n ↔ cvR (rtsOf o d) k n
  am : ∀ d k', amL (rtsOf l d) k' = if d = dev ∧ k' = k then amL (rtsOf o d) k' - n else amL (rtsOf o d) k'
theorem UseS.uniq {o : List Ow} {dev : Int} {k : Of} {n : Int} {l l' : List Ow} (h : UseS o dev k n l) (h' : UseS o dev k n l') : l = l' :=
  h.nfo.ext2 h'.nfo (fun d k n => (h.cv d k n).trans (h'.cv d k n).symm) fun d k => (h.am d k).trans (h'.am d k).symm
theorem useO_sem {o : List Ow} (ho : NFO o) (dev table sum group by_ : Int) : UseS o dev (kS table sum group) by_ (withP o dev (putP (rtsOf o dev) (useR table sum group by_))) := by
  have hr : Rg (useR table sum group by_) := ⟨fun q => absurd rfl q, fun _ => rfl⟩
  have h3 : (useR table sum group by_).kind = 3 := rfl
  have p1 := put_sem (ho.get dev) hr
  have w1 := with_sem ho dev p1.nf
  refine ⟨w1.nfo, fun d k n => ?_, fun d k => ?_⟩
  · rw [w1.rts]
    by_cases q : d = dev
    · subst q
      rw [if_pos rfl, p1.cv]
      exact ⟨fun h => h.elim (fun q => absurd q (inR3 h3 k n)) id, .inr⟩
    · rw [if_neg q]
  · rw [w1.rts]
    by_cases q : d = dev
    · subst q
      rw [if_pos rfl, p1.am, keyA3 h3]
      by_cases e : k = kS table sum group
      · rw [if_pos (show k = keyA (useR table sum group by_) from e), if_pos ⟨rfl, e⟩]
        show _ + (0 - by_) = _; omega
      · rw [if_neg (show ¬ k = keyA (useR table sum group by_) from e), if_neg (fun q => e q.2)]; omega
    · rw [if_neg q, if_neg (fun e => q e.1)]
theorem use_law {s : Sc} {o : List Ow} {dev table sum group by_ : Int} {l : List Ow} {e : Int} (h : UseOf s o dev table sum group by_ l e) : (l, e) = useP s o dev table sum group by_ := by
  unfold useP
  by_cases c0 : ((canonP s o = true ∧ deviceB dev = true) ∧ fitsB group = true) ∧ fitsB by_ = true
  · rw [if_neg (fun q => q c0)]
    obtain ⟨⟨⟨c1, c2⟩, c3⟩, c4⟩ := c0
    have ho := ((canon_iff s o).1 c1).nfo
    by_cases c5 : thereP s 3 table sum ≠ 0
    · rw [if_pos c5]; obtain ⟨rfl, rfl⟩ := h.none c1 c2 c3 c4 c5; rfl
    rw [if_neg c5]
    have c5 : thereP s 3 table sum = 0 := Decidable.byContradiction c5
    by_cases c6 : by_ > budgetP s o dev table sum group
    · rw [if_pos c6]; obtain ⟨rfl, rfl⟩ := h.right c1 c2 c3 c4 c5 c6; rfl
    rw [if_neg c6, ← amt_open ho]
    by_cases c7 : amtOf (openP o) dev (kS table sum group) - by_ > 1099511627776
    · rw [if_pos c7]; obtain ⟨rfl, rfl⟩ := h.over c1 c2 c3 c4 c5 c6 c7; rfl
    rw [if_neg c7]
    obtain ⟨rfl, hc⟩ := h.ok c1 c2 c3 c4 c5 c6 c7
    obtain ⟨lk1, m1, _⟩ := (open_lk ho).at dev
    have lk2 := lk1.on (dev := dev) (f := setAm (kS table sum group) (amtOf (openP o) dev (kS table sum group) - by_)) (fun _ => rfl) fun p hp => hp.am rfl _
    have hs := hc.sem lk2.pd lk2.nd
    congr 1
    refine UseS.uniq ⟨hs.nfo, fun d k n => ?_, fun d k => ?_⟩ (useO_sem ho dev table sum group by_)
    · rw [hs.cv, spOf_setAm, spOf_at, sp_open ho]
    · rw [hs.am, amtOf_setAm m1, amtOf_at, amt_open ho, amt_open ho]
      by_cases q : d = dev ∧ k = kS table sum group
      · rw [if_pos q, if_pos q, q.1, q.2]
      · rw [if_neg q, if_neg q]
  · rw [if_pos c0]
    have : e = 1 ∧ l = [] := h.arg (by
      apply Decidable.byContradiction; intro q
      simp only [not_or, Bool.not_eq_false] at q
      exact c0 ⟨⟨⟨q.1, q.2.1⟩, q.2.2.1⟩, q.2.2.2⟩)
    obtain ⟨rfl, rfl⟩ := this; rfl
end Go.Proofs.Ytbcdgocepnkpeaa
namespace Go.Proofs.Ytbcdgocepnkpeaa
open Go Go.Abs
set_option maxRecDepth 10000
set_option maxHeartbeats 2000000
theorem pc_imp {P : Program} {f : FuncId} {args : List PV} {st : Store} {R R' : PV → Store → Prop} (h : PC P f args st R) (hR : ∀ r S, R r S → R' r S) : PC P f args st R' := by
  refine ⟨h.1, fun w g vs h1 h2 => (h.2 w g vs h1 h2).mono ?_⟩
  rintro e w' ⟨v, r, S, g', h3, h4, h5⟩
  exact ⟨v, r, S, g', h3, hR r S h4, h5⟩
theorem hand_spec (s : Sc) (hs : FewS s) (o : List Ow) (ho : FewO o) (a b : Int) (r : Rt) : PF Try.prog 15 [.agg (scC s), .seq (o.map Ow.cells), (PV.val (Value.int .i64 (a))), (PV.val (Value.int .i64 (b))), .agg r.cells] (.tup [.seq ((handP s o a b r).1.map Ow.cells), (PV.val (Value.int .i64 ((handP s o a b r).2)))]) := fun st => by
  refine pc_imp (hand_pc s hs o ho a b r st) ?_
  rintro q S ⟨rfl, l, e, rfl, h⟩
  rw [← hand_law h]
  exact ⟨rfl, rfl⟩
theorem use_spec (s : Sc) (hs : FewS s) (o : List Ow) (ho : FewO o) (dev table sum group by_ : Int) : PF Try.prog 19 [.agg (scC s), .seq (o.map Ow.cells), (PV.val (Value.int .i64 (dev))), (PV.val (Value.int .i64 (table))), (PV.val (Value.int .i64 (sum))), (PV.val (Value.int .i64 (group))), (PV.val (Value.int .i64 (by_)))] (.tup [.seq ((useP s o dev table sum group by_).1.map Ow.cells), (PV.val (Value.int .i64 ((useP s o dev table sum group by_).2)))]) := fun st => by
  refine pc_imp (use_pc s hs o ho dev table sum group by_ st) ?_
  rintro q S ⟨rfl, l, e, rfl, h⟩
  rw [← use_law h]
  exact ⟨rfl, rfl⟩
end Go.Proofs.Ytbcdgocepnkpeaa
