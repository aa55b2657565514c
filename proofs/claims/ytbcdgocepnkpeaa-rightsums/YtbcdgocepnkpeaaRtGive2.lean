import Derived.Test.YtbcdgocepnkpeaaRtGiveI
import Derived.Test.YtbcdgocepnkpeaaRtHandS
set_option linter.unusedSimpArgs false
set_option linter.unusedVariables false
namespace Go.Proofs.Ytbcdgocepnkpeaa
open Go Go.Abs
attribute [local irreducible] Ev PWp
set_option maxRecDepth 10000
set_option maxHeartbeats 4000000
section
variable {st S0 S : Store} {idm : Nat} {D2 E : List CD} {d : CD} {it : Nat} {Lv : Nat → Prop}
theorem GI.start {da db : CD} (h : OpS st S idm D2 D2) (hda : da ∈ D2) (hdb : db ∈ D2) (hne : db.dev ≠ da.dev) (hit : upd S da.i2 none it = none) (o : AObj) : GI st (upd S da.i2 none) (upd (upd S da.i2 none) it (some o)) idm D2 (D2.filter fun x => decide (x.dev ≠ da.dev)) db it fun j => j = da.i1 ∨ j ∈ spI da.sp := by
  have hDa := h.held.dev da hda
  have hnd := hDa.ids
  simp only [CD.ids, List.nodup_cons, List.mem_cons, not_or] at hnd
  have hi2 : da.i2 ∈ da.ids := by simp [CD.ids]
  have hE : ∀ x ∈ D2.filter (fun x => decide (x.dev ≠ da.dev)), x ∈ D2 ∧ x.dev ≠ da.dev := fun x hx => by
    obtain ⟨q1, q2⟩ := List.mem_filter.1 hx
    exact ⟨q1, by simpa using q2⟩
  have hlive : ∀ j, S j ≠ none → j ≠ da.i2 → j ≠ it := fun j hj hj2 e => hj (by rw [← upd_ne (f := S) (v := none) hj2, e]; exact hit)
  have hE2 : ∀ x ∈ D2.filter (fun x => decide (x.dev ≠ da.dev)), ∀ j ∈ x.ids, j ≠ da.i2 ∧ j ≠ it := fun x hx j hj => by
    obtain ⟨q1, q2⟩ := hE x hx
    have h1 : j ≠ da.i2 := fun e => h.held.ap q1 hda q2 j hj (by rw [e]; exact hi2)
    exact ⟨h1, hlive j ((h.held.dev x q1).live j hj) h1⟩
  have hm2 : idm ≠ da.i2 := fun e => h.out da hda (by rw [e]; exact hi2)
  have hmi : idm ≠ it := hlive idm (by rw [h.hm]; simp) hm2
  have hst : st it = none := by
    by_cases e : it = da.i2
    · rw [e]; exact hDa.new _ hi2
    · rw [upd_ne e] at hit; exact h.st0 hit
  have hlv : ∀ j, (j = da.i1 ∨ j ∈ spI da.sp) → j ∈ da.ids ∧ j ≠ da.i2 := fun j hj => by
    rcases hj with rfl | hj
    · exact ⟨by simp [CD.ids], hnd.1.1⟩
    · exact ⟨by simp only [CD.ids, List.mem_cons]; exact .inr (.inr hj), fun e => hnd.2.1 (e ▸ hj)⟩
  refine ⟨(h.sub2 _).congr ((upd_ne hmi).trans (upd_ne hm2)) fun j hj => ?_, List.mem_filter.2 ⟨hdb, by simpa using hne⟩, ⟨hst, Ne.symm hmi, fun x hx q => (hE2 x hx _ q).2 rfl⟩, fun j hj => ?_, fun j hj => ?_, fun j hj => ?_⟩
  · rcases hj with hj | ⟨x, hx, hj⟩
    · have h1 : j ≠ da.i2 := fun e => hj (by rw [e]; exact hDa.new _ hi2)
      have h2 : j ≠ it := fun e => hj (by rw [e]; exact hst)
      rw [upd_ne h2, upd_ne h1]
    · obtain ⟨h1, h2⟩ := hE2 x hx j hj
      rw [upd_ne h2, upd_ne h1]
  · obtain ⟨h1, h2⟩ := hlv j hj
    refine ⟨fun x hx q => ?_, fun e => h.out da hda (e ▸ h1), hlive j (hDa.live j h1) h2, hDa.new j h1⟩
    obtain ⟨q1, q2⟩ := hE x hx
    exact h.held.ap q1 hda q2 j q h1
  · obtain ⟨h1, h2⟩ := hlv j hj
    exact upd_ne (hlive j (hDa.live j h1) h2)
  · obtain ⟨h1, h2⟩ := hlv j hj
    rw [upd_ne h2]; exact hDa.live j h1
theorem GI.start2 (h : GI st S0 S idm D2 E d it Lv) {it2 : Nat} (hit : S it2 = none) (o : AObj) : GI st S0 (upd S it2 (some o)) idm D2 E d it2 Lv := by
  have hst := h.op.st0 hit
  have hE : ∀ x ∈ E, ∀ j ∈ x.ids, j ≠ it2 := fun x hx j hj e => (h.op.held.dev x hx).live j hj (by rw [e]; exact hit)
  have hmi : idm ≠ it2 := fun e => by have := h.op.hm; rw [e, hit] at this; cases this
  have hlv : ∀ j, Lv j → j ≠ it2 := fun j hj e => h.liv j hj (by rw [← h.same j hj, e]; exact hit)
  refine ⟨h.op.congr (upd_ne hmi) fun j hj => ?_, h.mem, ⟨hst, Ne.symm hmi, fun x hx q => hE x hx _ q rfl⟩, fun j hj => ?_, fun j hj => (upd_ne (hlv j hj)).trans (h.same j hj), h.liv⟩
  · rcases hj with hj | ⟨x, hx, hj⟩
    · exact upd_ne fun e => hj (by rw [e]; exact hst)
    · exact upd_ne (hE x hx j hj)
  · obtain ⟨a1, a2, _, a4⟩ := h.out j hj
    exact ⟨a1, a2, hlv j hj, a4⟩
end
theorem sp_ne : ∀ (rs : List Rt) (p : PD), (∀ e ∈ p.sp, e.2 ≠ []) → ∀ e ∈ (rs.foldl addR p).sp, e.2 ≠ []
  | [], _, h => h
  | r :: rs, p, h => by
    rw [List.foldl_cons]
    refine sp_ne rs _ ?_
    unfold addR
    split
    · exact h
    · intro e he
      rcases mem_msetL he with q | q
      · rw [q]; simp
      · exact h e q
theorem atP_sp {dev : Int} {L : List PD} (h : ∀ p ∈ L, ∀ e ∈ p.sp, e.2 ≠ []) : ∀ p ∈ atP dev L, ∀ e ∈ p.sp, e.2 ≠ [] := fun p hp => by
  unfold atP at hp
  split at hp
  · exact h p hp
  · rcases List.mem_append.1 hp with hp | hp
    · exact h p hp
    · rw [List.mem_singleton.1 hp]; exact fun _ h => by cases h
theorem openP_sp {o : List Ow} : ∀ p ∈ openP o, ∀ e ∈ p.sp, e.2 ≠ [] := fun p hp => by
  obtain ⟨w, hw, rfl⟩ := List.mem_map.1 hp
  exact sp_ne _ _ fun _ h => by cases h
theorem sumL_add : ∀ (vs sp : List (Of × List Sn)), sumL (addSp sp vs) = sumL sp + sumL vs
  | [], sp => by simp [addSp, sumL]
  | e :: vs, sp => by
    have ih := sumL_add vs (mset e.1 ((mget e.1 sp).getD [] ++ e.2) sp)
    have h2 := sumL_mset e.1 ((mget e.1 sp).getD [] ++ e.2) sp
    unfold addSp at ih ⊢
    rw [List.foldl_cons, ih]
    rw [List.length_append] at h2
    have e3 : sumL (e :: vs) = e.2.length + sumL vs := by unfold sumL; rw [List.map_cons, List.sum_cons]
    omega
theorem addAm_len : ∀ (va am : List (Of × Int)), (addAm am va).length ≤ am.length + va.length
  | [], am => by simp [addAm]
  | e :: va, am => by
    have ih := addAm_len va (mset e.1 ((mget e.1 am).getD 0 + e.2) am)
    have h2 := am_mset e.1 ((mget e.1 am).getD 0 + e.2) am
    unfold addAm at ih ⊢
    rw [List.foldl_cons, List.length_cons]; omega
theorem addSp_bd : ∀ (vs sp : List (Of × List Sn)), (∀ e ∈ sp, ∀ x ∈ e.2, SnB x) → (∀ e ∈ vs, ∀ x ∈ e.2, SnB x) → ∀ e ∈ addSp sp vs, ∀ x ∈ e.2, SnB x
  | [], _, h, _ => h
  | v :: vs, sp, h, h2 => by
    unfold addSp
    rw [List.foldl_cons]
    refine addSp_bd vs _ (fun e he x hx => ?_) fun e he => h2 e (List.mem_cons_of_mem _ he)
    rcases mem_msetL he with q | q
    · rw [q] at hx
      rcases List.mem_append.1 hx with hx | hx
      · cases hg : mget v.1 sp with
        | none => rw [hg] at hx; cases hx
        | some l => rw [hg] at hx; exact h _ (mget_mem hg) x hx
      · exact h2 v (by simp) x hx
    · exact h e q x hx
theorem sumL_perm {a b : List (Of × List Sn)} (h : a.Perm b) : sumL a = sumL b := by
  unfold sumL; exact (h.map _).sum_nat
theorem PdB.give {p : PD} {n m : Nat} (h : PdB p n) {va : List (Of × Int)} {vs : List (Of × List Sn)} {pa : PD} (ha : PdB pa m) (hv : va.Perm pa.am) (hs : vs.Perm pa.sp) : PdB (giveF va vs p) (n + m) := by
  refine ⟨addSp_bd vs p.sp h.sp fun e he => ha.sp e (hs.mem_iff.1 he), ?_⟩
  have h1 := h.len
  have h2 := ha.len
  have h3 := sumL_add vs p.sp
  have h4 := addAm_len va p.am
  have h5 := hv.length_eq
  have h6 := sumL_perm hs
  show sumL (addSp p.sp vs) + (addAm p.am va).length ≤ n + m
  omega
def GiveR (o : List Ow) (a b : Int) (l : List Ow) (e : Int) : Prop :=
  (e = 20 ∧ l = [] ∧ ∃ k, amtOf (openP o) b k + amtOf (openP o) a k > 1099511627776) ∨
  (e = 0 ∧ ∃ pa va vs, pa ∈ atP b (atP a (openP o)) ∧ pa.dev = a ∧ va.Perm pa.am ∧ vs.Perm pa.sp ∧ (∀ e ∈ va, ¬ amtOf (openP o) b e.1 > 1099511627776 - e.2) ∧
    ClosedOf (onDev b (giveF va vs) ((atP b (atP a (openP o))).filter fun p => decide (p.dev ≠ a))) l)
theorem pd_filter (D : List CD) (a : Int) : (D.filter fun x => decide (x.dev ≠ a)).map CD.pd = (D.map CD.pd).filter fun p => decide (p.dev ≠ a) := by
  induction D with
  | nil => rfl
  | cons d D ih =>
    have e : d.pd.dev = d.dev := rfl
    by_cases h : d.dev = a
    · rw [List.filter_cons_of_neg (by simpa using h), List.map_cons, List.filter_cons_of_neg (by simpa [e] using h), ih]
    · rw [List.filter_cons_of_pos (by simpa using h), List.map_cons, List.map_cons, List.filter_cons_of_pos (by simpa [e] using h), ih]
theorem perm_take {α : Type} {va ra am : List α} (h : (va ++ ra).Perm am) {i : Nat} (hi : i < ra.length) : ((va ++ [ra[i]]) ++ ra.eraseIdx i).Perm am := by
  refine List.Perm.trans ?_ h
  rw [List.append_assoc]
  exact (perm_erase hi).symm.append_left _
theorem mget_perm {K V : Type} [DecidableEq K] {l m : List (K × V)} (h : l.Perm m) (hn : (l.map (·.1)).Nodup) (k : K) : mget k l = mget k m := by
  have hm : (m.map (·.1)).Nodup := (h.map (·.1)).nodup_iff.1 hn
  cases hg : mget k l with
  | some v => exact (mget_of hm (h.mem_iff.1 (mget_mem hg))).symm
  | none =>
    cases hg2 : mget k m with
    | none => rfl
    | some v => rw [mget_of hn (h.mem_iff.2 (mget_mem hg2))] at hg; cases hg
theorem len_sumL (k : Of) (sp : List (Of × List Sn)) : ((mget k sp).getD []).length ≤ sumL sp := by
  have := sumL_mset k [] sp
  simp only [List.length_nil] at this
  omega
theorem OpS.drop2 {st S : Store} {idm : Nat} {D E : List CD} (h : OpS st S idm D E) : HeldS st (upd S idm none) D :=
  ⟨fun j hj => by rw [upd_ne fun e => hj (by rw [e]; exact h.fm)]; exact h.held.old j hj, fun d hd => (h.held.dev d hd).congr fun j hj => upd_ne fun e => h.out d hd (e ▸ hj), h.held.apart, h.held.devs⟩
def setP (q p : PD) : PD := ⟨p.dev, q.sp, q.am⟩
theorem setP_step {E : List CD} {PE : List PD} {d' : CD} {q : PD} {b : Int} (hE : E.map CD.pd = onDev b (setP q) PE) (hd : d'.dev = b) : (setD d' E).map CD.pd = onDev b (setP d'.pd) PE := by
  rw [setD_pd (dev := b) (f := setP d'.pd) hd (fun x hx e => ?_), hE, onDev_onDev (f := setP q) (fun _ => rfl)]
  · rfl
  · show (⟨x.dev, d'.pd.sp, d'.pd.am⟩ : PD) = d'.pd
    rw [e, ← hd]; rfl
theorem give_am {d db : CD} {va : List (Of × Int)} (h : d.pd = giveF va [] db.pd) (k : Of) (n v : Int) (hv : v = (mget k d.am).getD 0 + n) : ({ d with am := mset k v d.am } : CD).pd = giveF (va ++ [(k, n)]) [] db.pd := by
  have h1 : d.dev = db.dev := congrArg PD.dev h
  have h2 : d.pd.sp = addSp db.pd.sp [] := by rw [h]; rfl
  have h3 : d.am = addAm db.am va := congrArg PD.am h
  unfold giveF
  rw [addAm_snoc]
  show (⟨d.dev, d.pd.sp, mset k v d.am⟩ : PD) = ⟨db.dev, addSp db.pd.sp [], mset k ((mget k (addAm db.am va)).getD 0 + n) (addAm db.am va)⟩
  rw [h1, h2, ← h3, hv]
theorem give_sp {d db : CD} {va : List (Of × Int)} {vs : List (Of × List Sn)} (h : d.pd = giveF va vs db.pd) (k : Of) (x xb : List Sn) (id : Nat) (hx : xb = (mget k d.pd.sp).getD []) : ({ d with sp := mset k (some (id, xb ++ x)) d.sp } : CD).pd = giveF va (vs ++ [(k, x)]) db.pd := by
  have h1 : d.dev = db.dev := congrArg PD.dev h
  have h2 : d.pd.sp = addSp db.pd.sp vs := by rw [h]; rfl
  have h3 : d.am = addAm db.am va := congrArg PD.am h
  rw [pd_setSp]
  unfold giveF setSp
  rw [addSp_snoc]
  show (⟨d.dev, mset k (xb ++ x) d.pd.sp, d.am⟩ : PD) = ⟨db.dev, mset k ((mget k (addSp db.pd.sp vs)).getD [] ++ x) (addSp db.pd.sp vs), addAm db.am va⟩
  rw [h1, h3, hx, ← h2]
end Go.Proofs.Ytbcdgocepnkpeaa
