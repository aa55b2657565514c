import Derived.Test.YtbcdgocepnkpeaaRtLess
set_option linter.unusedSimpArgs false
set_option linter.unusedVariables false
namespace Go.Proofs.Ytbcdgocepnkpeaa
open Go Go.Abs
attribute [local irreducible] Ev PWp
set_option maxRecDepth 10000
set_option maxHeartbeats 4000000
def sumL (sp : List (Of × List Sn)) : Nat := (sp.map fun e => e.2.length).sum
structure PdB (p : PD) (n : Nat) : Prop where
  sp : ∀ e ∈ p.sp, ∀ x ∈ e.2, SnB x
  len : sumL p.sp + p.am.length ≤ n
theorem DevB.of {d : CD} {n : Nat} (h : PdB d.pd n) (hn : n ≤ 100000) : DevB d := by
  refine ⟨fun k id l hk x hx => ?_, ?_⟩
  · exact h.sp (k, l) (List.mem_map.2 ⟨_, hk, rfl⟩) x hx
  · have := h.len
    have e : lens d.sp = sumL d.pd.sp := by unfold lens sumL CD.pd; rw [List.map_map]; rfl
    have e2 : d.pd.am = d.am := rfl
    rw [e2] at this
    omega
theorem sumL_mset (k : Of) (v : List Sn) : ∀ sp : List (Of × List Sn), sumL (mset k v sp) + ((mget k sp).getD []).length = sumL sp + v.length
  | [] => by simp [mset, sumL, mget]
  | e :: sp => by
    have ih := sumL_mset k v sp
    unfold sumL at *
    simp only [mset, mget]
    by_cases h : k = e.1
    · simp only [if_pos h, List.map_cons, List.sum_cons, Option.getD_some]; omega
    · simp only [if_neg h, List.map_cons, List.sum_cons]; omega
theorem am_mset (k : Of) (n : Int) : ∀ am : List (Of × Int), (mset k n am).length ≤ am.length + 1
  | [] => by simp [mset]
  | e :: am => by
    have ih := am_mset k n am
    simp only [mset]
    split <;> simp only [List.length_cons] <;> omega
theorem mem_msetL {k : Of} {v : List Sn} : ∀ {sp : List (Of × List Sn)} {e}, e ∈ mset k v sp → e.2 = v ∨ e ∈ sp
  | [], e, h => by simp only [mset, List.mem_singleton] at h; exact .inl (by rw [h])
  | x :: sp, e, h => by
    simp only [mset] at h
    split at h
    · rcases List.mem_cons.1 h with h | h
      · exact .inl (by rw [h])
      · exact .inr (List.mem_cons_of_mem _ h)
    · rcases List.mem_cons.1 h with h | h
      · exact .inr (by rw [h]; simp)
      · rcases mem_msetL h with h | h
        · exact .inl h
        · exact .inr (List.mem_cons_of_mem _ h)
theorem PdB.am {p : PD} {n : Nat} (h : PdB p n) (k : Of) (v : Int) : PdB { p with am := mset k v p.am } (n + 1) :=
  ⟨h.sp, by have := h.len; have := am_mset k v p.am; show sumL p.sp + (mset k v p.am).length ≤ n + 1; omega⟩
theorem PdB.setS {p : PD} {n m : Nat} (h : PdB p n) (k : Of) (v : List Sn) (hv : ∀ x ∈ v, SnB x) (hm : v.length ≤ ((mget k p.sp).getD []).length + m) : PdB { p with sp := mset k v p.sp } (n + m) := by
  refine ⟨fun e he x hx => ?_, ?_⟩
  · rcases mem_msetL he with q | q
    · rw [q] at hx; exact hv x hx
    · exact h.sp e q x hx
  · have h1 := h.len
    have h2 := sumL_mset k v p.sp
    show sumL (mset k v p.sp) + p.am.length ≤ n + m
    omega
theorem mget_memL {k : Of} {v : List Sn} {sp : List (Of × List Sn)} (h : mget k sp = some v) : (k, v) ∈ sp := mget_mem h
theorem PdB.get {p : PD} {n : Nat} (h : PdB p n) (k : Of) : (∀ x ∈ (mget k p.sp).getD [], SnB x) ∧ ((mget k p.sp).getD []).length ≤ n := by
  cases hg : mget k p.sp with
  | none => exact ⟨fun _ h => by simp at h, by simp⟩
  | some v =>
    have hm := mget_memL hg
    refine ⟨h.sp _ hm, ?_⟩
    have h1 := h.len
    have h2 := sumL_mset k [] p.sp
    rw [hg] at h2
    simp only [Option.getD_some, List.length_nil] at h2 ⊢
    omega
theorem PdB.mono {p : PD} {n m : Nat} (h : PdB p n) (hm : n ≤ m) : PdB p m := ⟨h.sp, Nat.le_trans h.len hm⟩
theorem PdB.add {p : PD} {n : Nat} (h : PdB p n) (r : Rt) (hr : r.kind ≠ 3 → SnB ⟨r.lo, r.hi⟩) : PdB (addR p r) (n + 1) := by
  unfold addR
  split
  · exact h.am _ _
  · rename_i h3
    refine h.setS _ _ (fun x hx => ?_) (by simp)
    rcases List.mem_append.1 hx with hx | hx
    · exact (h.get _).1 x hx
    · rw [List.mem_singleton.1 hx]; exact hr h3
theorem PdB.fold : ∀ (rs : List Rt) {p : PD} {n : Nat}, PdB p n → (∀ r ∈ rs, r.kind ≠ 3 → SnB ⟨r.lo, r.hi⟩) → PdB (rs.foldl addR p) (n + rs.length)
  | [], _, _, h, _ => h
  | r :: rs, p, n, h, hr => by
    have := PdB.fold rs (h.add r (hr r (by simp))) fun x hx => hr x (List.mem_cons_of_mem _ hx)
    rw [List.foldl_cons]
    exact this.mono (by simp only [List.length_cons]; omega)
theorem openP_bd {s : Sc} {l : List Ow} (hl : FewO l) (hc : CanonO s l) : ∀ p ∈ openP l, PdB p 1000 := fun p hp => by
  obtain ⟨o, ho, rfl⟩ := List.mem_map.1 hp
  have := PdB.fold o.rights (p := ⟨o.dev, [], []⟩) (n := 0) ⟨fun _ h => (by cases h), by simp [sumL]⟩ fun r hr h3 => by
    have := (hc.own o ho).rts r hr
    obtain ⟨a1, a2, a3, a4⟩ := this.span h3
    exact ⟨a1, by show r.lo ≤ 1073741824; omega⟩
  exact this.mono (by have := hl.rts o ho; omega)
theorem atP_bd {dev : Int} {L : List PD} {n : Nat} (h : ∀ p ∈ L, PdB p n) : ∀ p ∈ atP dev L, PdB p n := fun p hp => by
  unfold atP at hp
  split at hp
  · exact h p hp
  · rcases List.mem_append.1 hp with hp | hp
    · exact h p hp
    · rw [List.mem_singleton.1 hp]; exact ⟨fun _ h => (by cases h), by simp [sumL]⟩
theorem outE_setD {D : List CD} (hn : (D.map (·.dev)).Nodup) {d d' : CD} (hd : d ∈ D) (h1 : d'.dev = d.dev) (h2 : d'.i1 = d.i1) (h3 : d'.i2 = d.i2) : outE (setD d' D) = outE D := by
  unfold outE setD
  rw [List.map_map]
  refine List.map_congr_left fun x hx => ?_
  show (fun d : CD => (d.dev, (d.i1, d.i2))) (if x.dev = d'.dev then d' else x) = _
  by_cases e : x.dev = d'.dev
  · rw [if_pos e]
    have : x = d := nodup_eq hn hx hd (e.trans h1)
    rw [this]
    show (d'.dev, (d'.i1, d'.i2)) = (d.dev, (d.i1, d.i2))
    rw [h1, h2, h3]
  · rw [if_neg e]
theorem OpS.self {st S : Store} {idm : Nat} {D : List CD} {d d' : CD} (h : OpS st S idm (setD d' D) D) (hn : (D.map (·.dev)).Nodup) (hd : d ∈ D) (h1 : d'.dev = d.dev) (h2 : d'.i1 = d.i1) (h3 : d'.i2 = d.i2) : OpS st S idm (setD d' D) (setD d' D) :=
  ⟨h.held, by rw [outE_setD hn hd h1 h2 h3]; exact h.hm, h.fm, h.out⟩
theorem OpS.drop {st S : Store} {idm : Nat} {D : List CD} (h : OpS st S idm D D) : HeldS st (upd S idm none) D :=
  ⟨fun j hj => by rw [upd_ne fun e => hj (by rw [e]; exact h.fm)]; exact h.held.old j hj, fun d hd => (h.held.dev d hd).congr fun j hj => upd_ne fun e => h.out d hd (e ▸ hj), h.held.apart, h.held.devs⟩
def onDev (dev : Int) (f : PD → PD) (L : List PD) : List PD := L.map fun d => if d.dev = dev then f d else d
theorem setD_pd {D : List CD} {d' : CD} {dev : Int} {f : PD → PD} (hd : d'.dev = dev) (hf : ∀ x ∈ D, x.dev = dev → f x.pd = d'.pd) : (setD d' D).map CD.pd = onDev dev f (D.map CD.pd) := by
  unfold setD onDev
  rw [List.map_map, List.map_map]
  refine List.map_congr_left fun x hx => ?_
  show CD.pd (if x.dev = d'.dev then d' else x) = if x.dev = dev then f x.pd else x.pd
  by_cases e : x.dev = dev
  · rw [if_pos (e.trans hd.symm), if_pos e, hf x hx e]
  · rw [if_neg (fun q => e (q.trans hd)), if_neg e]
theorem setD_mem {D : List CD} {d d' : CD} (hd : d ∈ D) (h1 : d'.dev = d.dev) : d' ∈ setD d' D := List.mem_map.2 ⟨d, hd, if_pos h1.symm⟩
theorem onDev_bd {dev : Int} {f : PD → PD} {L : List PD} {n m : Nat} (h : ∀ p ∈ L, PdB p n) (hnm : n ≤ m) (hf : ∀ p ∈ L, p.dev = dev → PdB p n → PdB (f p) m) : ∀ p ∈ onDev dev f L, PdB p m := fun p hp => by
  obtain ⟨q, hq, rfl⟩ := List.mem_map.1 hp
  by_cases e : q.dev = dev
  · simp only [if_pos e]; exact hf q hq e (h q hq)
  · simp only [if_neg e]; exact (h q hq).mono hnm
def setAm (k : Of) (n : Int) (d : PD) : PD := { d with am := mset k n d.am }
def setSp (k : Of) (v : List Sn) (d : PD) : PD := { d with sp := mset k v d.sp }
theorem mget_mput0 {K V : Type} [DecidableEq K] (k : K) (z : V) (es : List (K × V)) : mget k (mput0 k z es) = some ((mget k es).getD z) := by
  unfold mput0
  induction es with
  | nil => simp [mpos, mget]
  | cons e es ih =>
    by_cases h : k = e.1
    · simp [mpos, mget, h]
    · simp only [mpos, mget, if_neg h]
      cases hp : mpos k es with
      | none => rw [hp] at ih; simp only [Option.map_none]; simp only [List.cons_append, mget, if_neg h]; exact ih
      | some i => rw [hp] at ih; simp only [Option.map_some, mget, if_neg h]; exact ih
theorem atP_len (dev : Int) (L : List PD) : (atP dev L).length ≤ L.length + 1 := by
  unfold atP; split <;> simp
end Go.Proofs.Ytbcdgocepnkpeaa
