import Derived.Test.YtbcdgocepnkpeaaRtGive
import Derived.Test.YtbcdgocepnkpeaaRtLess2
set_option linter.unusedSimpArgs false
set_option linter.unusedVariables false
namespace Go.Proofs.Ytbcdgocepnkpeaa
open Go Go.Abs
attribute [local irreducible] Ev PWp
set_option maxRecDepth 10000
set_option maxHeartbeats 4000000
structure GI (st S0 S : Store) (idm : Nat) (D2 E : List CD) (d : CD) (it : Nat) (Lv : Nat → Prop) : Prop where
  op : OpS st S idm E D2
  mem : d ∈ E
  itn : st it = none ∧ it ≠ idm ∧ ∀ x ∈ E, it ∉ x.ids
  out : ∀ j, Lv j → (∀ x ∈ E, j ∉ x.ids) ∧ j ≠ idm ∧ j ≠ it ∧ st j = none
  same : ∀ j, Lv j → S j = S0 j
  liv : ∀ j, Lv j → S0 j ≠ none
section
variable {st S0 S : Store} {idm : Nat} {D2 E : List CD} {d : CD} {it : Nat} {Lv : Nat → Prop}
theorem GI.iter (h : GI st S0 S idm D2 E d it Lv) (o : AObj) : GI st S0 (upd S it (some o)) idm D2 E d it Lv :=
  ⟨h.op.congr (upd_ne fun e => h.itn.2.1 e.symm) (fun j hj => upd_ne fun e => by
    rcases hj with hj | ⟨x, hx, hj⟩
    · exact hj (by rw [e]; exact h.itn.1)
    · exact h.itn.2.2 x hx (by rw [← e]; exact hj)), h.mem, h.itn, h.out, fun j hj => (upd_ne (h.out j hj).2.2.1).trans (h.same j hj), h.liv⟩
theorem GI.drop (h : GI st S0 S idm D2 E d it Lv) {ida : Nat} (ha : Lv ida) {Lv' : Nat → Prop} (hL : ∀ j, Lv' j → Lv j ∧ j ≠ ida) : GI st S0 (upd S ida none) idm D2 E d it Lv' := by
  obtain ⟨a1, a2, a3, a4⟩ := h.out ida ha
  exact ⟨h.op.congr (upd_ne (Ne.symm a2)) (fun j hj => upd_ne fun e => by
    rcases hj with hj | ⟨x, hx, hj⟩
    · exact hj (by rw [e]; exact a4)
    · exact a1 x hx (by rw [← e]; exact hj)), h.mem, h.itn, fun j hj => h.out j (hL j hj).1, fun j hj => (upd_ne (hL j hj).2).trans (h.same j (hL j hj).1), fun j hj => h.liv j (hL j hj).1⟩
theorem setD_ids {E : List CD} {d d' : CD} (hd : d ∈ E) (hdev : d'.dev = d.dev) {x : CD} (hx : x ∈ setD d' E) : x = d' ∨ x ∈ E := by
  obtain ⟨y, hy, rfl⟩ := List.mem_map.1 hx
  by_cases e : y.dev = d'.dev
  · exact .inl (if_pos e)
  · right; show (if y.dev = d'.dev then d' else y) ∈ E; rw [if_neg e]; exact hy
theorem GI.am (h : GI st S0 S idm D2 E d it Lv) (k : Of) (n : Int) (X : AObj) : GI st S0 (upd (upd S d.i2 (some X)) d.i2 (some (.map (ments Of.enc intF (mset k n d.am))))) idm D2 (setD { d with am := mset k n d.am } E) { d with am := mset k n d.am } it Lv := by
  rw [upd_upd]
  have hids : ∀ x ∈ setD { d with am := mset k n d.am } E, ∃ y ∈ E, x.ids = y.ids := fun x hx => by
    rcases setD_ids h.mem (d' := { d with am := mset k n d.am }) rfl hx with rfl | q
    · exact ⟨d, h.mem, rfl⟩
    · exact ⟨x, q, rfl⟩
  have hi2 : d.i2 ∈ d.ids := by simp [CD.ids]
  refine ⟨h.op.set (d := d) (d' := { d with am := mset k n d.am }) h.mem rfl ((h.op.held.dev d h.mem).amts _ _) (fun j hj => .inl hj) fun j _ hj => upd_ne fun e => hj (by rw [e]; exact hi2), setD_mem h.mem rfl, ⟨h.itn.1, h.itn.2.1, fun x hx => ?_⟩, fun j hj => ?_, fun j hj => ?_, h.liv⟩
  · obtain ⟨y, hy, e⟩ := hids x hx
    rw [e]; exact h.itn.2.2 y hy
  · obtain ⟨a1, a2⟩ := h.out j hj
    refine ⟨fun x hx => ?_, a2⟩
    obtain ⟨y, hy, e⟩ := hids x hx
    rw [e]; exact a1 y hy
  · exact (upd_ne fun e => (h.out j hj).1 d h.mem (by rw [e]; exact hi2)).trans (h.same j hj)
theorem OpS.app2 (h : OpS st S idm E D2) (hd : d ∈ E) (k : Of) (l' : List Sn) {id' : Nat} {S1 : Store} (hid : S id' = none) (hS1 : ∀ j, j ≠ d.i1 → (∀ z, mget k d.sp = some (some z) → j ≠ z.1) → S1 j = S j) :
    OpS st (upd (upd S1 id' (some (.arr 80 (l'.map Sn.cells)))) d.i1 (some (.map (ments Of.enc spF (mset k (some (id', l'.length)) (spE d.sp)))))) idm (setD { d with sp := mset k (some (id', l')) d.sp } E) D2 ∧ ∀ j ∈ ({ d with sp := mset k (some (id', l')) d.sp } : CD).ids, j = id' ∨ j ∈ d.ids := by
  have hD := h.held.dev d hd
  have hlive := hD.live
  have hids : ∀ j ∈ ({ d with sp := mset k (some (id', l')) d.sp } : CD).ids, j = id' ∨ j ∈ d.ids := fun j hj => by
    simp only [CD.ids, List.mem_cons] at hj ⊢
    rcases hj with h | h | h
    · exact .inr (.inl h)
    · exact .inr (.inr (.inl h))
    · rcases (spI_mset (k := k) (l' := l') ((List.nodup_cons.1 (List.nodup_cons.1 hD.ids).2).2) (fun q => hlive id' (by simp only [CD.ids, List.mem_cons]; exact .inr (.inr q)) hid)).2 j h with h | h
      · exact .inl h
      · exact .inr (.inr (.inr h))
  refine ⟨h.set (d := d) (d' := { d with sp := mset k (some (id', l')) d.sp }) hd rfl (hD.spans (S1 := S1) k l' hid (h.st0 hid) fun j _ h1 h2 => hS1 j h1 h2) (fun j hj => (hids j hj).elim (fun q => .inr (by rw [q]; exact hid)) .inl) fun j hj hj' => ?_, hids⟩
  rw [upd_ne (fun e => hj' (by rw [e]; simp [CD.ids])), upd_ne (fun e => hj (by rw [e]; exact hid))]
  refine hS1 j (fun e => hj' (by rw [e]; simp [CD.ids])) fun z hz e => hj' ?_
  simp only [CD.ids, List.mem_cons]
  exact .inr (.inr (e ▸ spI_mem.2 ⟨k, z.2, mget_mem hz⟩))
theorem GI.app (h : GI st S0 S idm D2 E d it Lv) (k : Of) (l' : List Sn) {id' : Nat} {S1 : Store} (hid : S id' = none) (hit : it ≠ id') (hS1 : ∀ j, j ≠ d.i1 → (∀ z, mget k d.sp = some (some z) → j ≠ z.1) → S1 j = S j) :
    GI st S0 (upd (upd S1 id' (some (.arr 80 (l'.map Sn.cells)))) d.i1 (some (.map (ments Of.enc spF (mset k (some (id', l'.length)) (spE d.sp)))))) idm D2 (setD { d with sp := mset k (some (id', l')) d.sp } E) { d with sp := mset k (some (id', l')) d.sp } it Lv := by
  obtain ⟨h1, h2⟩ := h.op.app2 h.mem k l' hid hS1
  have hid2 : ∀ x ∈ setD { d with sp := mset k (some (id', l')) d.sp } E, ∀ j ∈ x.ids, j = id' ∨ ∃ y ∈ E, j ∈ y.ids := fun x hx j hj => by
    rcases setD_ids h.mem (d' := { d with sp := mset k (some (id', l')) d.sp }) rfl hx with rfl | q
    · exact (h2 j hj).imp id fun q => ⟨d, h.mem, q⟩
    · exact .inr ⟨x, q, hj⟩
  have hi1 : d.i1 ∈ d.ids := by simp [CD.ids]
  have hlv : ∀ j, Lv j → j ≠ id' := fun j hj e => h.liv j hj (by rw [← h.same j hj, e]; exact hid)
  refine ⟨h1, setD_mem h.mem rfl, ⟨h.itn.1, h.itn.2.1, fun x hx q => ?_⟩, fun j hj => ?_, fun j hj => ?_, h.liv⟩
  · rcases hid2 x hx it q with e | ⟨y, hy, q⟩
    · exact hit e
    · exact h.itn.2.2 y hy q
  · obtain ⟨a1, a2⟩ := h.out j hj
    refine ⟨fun x hx q => ?_, a2⟩
    rcases hid2 x hx j q with e | ⟨y, hy, q⟩
    · exact hlv j hj e
    · exact a1 y hy q
  · have a1 := (h.out j hj).1 d h.mem
    rw [upd_ne (fun e => a1 (by rw [e]; exact hi1)), upd_ne (hlv j hj)]
    rw [hS1 j (fun e => a1 (by rw [e]; exact hi1)) fun z hz e => a1 ?_]
    · exact h.same j hj
    · simp only [CD.ids, List.mem_cons]
      exact .inr (.inr (e ▸ spI_mem.2 ⟨k, z.2, mget_mem hz⟩))
end
def addSp (sp : List (Of × List Sn)) (vs : List (Of × List Sn)) : List (Of × List Sn) := vs.foldl (fun sp e => mset e.1 ((mget e.1 sp).getD [] ++ e.2) sp) sp
theorem addSp_snoc (sp vs : List (Of × List Sn)) (e : Of × List Sn) : addSp sp (vs ++ [e]) = mset e.1 ((mget e.1 (addSp sp vs)).getD [] ++ e.2) (addSp sp vs) := by
  unfold addSp; rw [List.foldl_append]; rfl
def giveF (va : List (Of × Int)) (vs : List (Of × List Sn)) (p : PD) : PD := ⟨p.dev, addSp p.sp vs, addAm p.am va⟩
theorem giveF_dev (va : List (Of × Int)) (vs : List (Of × List Sn)) (p : PD) : (giveF va vs p).dev = p.dev := rfl
theorem onDev_onDev {dev : Int} {f g : PD → PD} (hf : ∀ p, (f p).dev = p.dev) (L : List PD) : onDev dev g (onDev dev f L) = onDev dev (fun p => g (f p)) L := by
  unfold onDev
  rw [List.map_map]
  refine List.map_congr_left fun p _ => ?_
  show (if (if p.dev = dev then f p else p).dev = dev then g (if p.dev = dev then f p else p) else if p.dev = dev then f p else p) = _
  by_cases h : p.dev = dev
  · simp only [if_pos h, hf p]
  · simp only [if_neg h]
theorem outE_del {D : List CD} (hn : (D.map (·.dev)).Nodup) (a : Int) : mdel a (outE D) = outE (D.filter fun x => decide (x.dev ≠ a)) := by
  induction D with
  | nil => rfl
  | cons d D ih =>
    simp only [List.map_cons, List.nodup_cons] at hn
    unfold mdel at ih ⊢
    show (match (if a = d.dev then some 0 else (mpos a (outE D)).map (· + 1)) with | some j => (outE (d :: D)).eraseIdx j | none => outE (d :: D)) = _
    by_cases h : d.dev = a
    · rw [if_pos h.symm, List.filter_cons_of_neg (by simpa using h)]
      have : D.filter (fun x => decide (x.dev ≠ a)) = D := List.filter_eq_self.2 fun x hx => by
        have : x.dev ≠ a := fun e => hn.1 (by rw [h, ← e]; exact List.mem_map.2 ⟨x, hx, rfl⟩)
        simpa using this
      rw [this]; rfl
    · rw [if_neg (fun e => h e.symm), List.filter_cons_of_pos (by simpa using h)]
      have e : outE (d :: D.filter fun x => decide (x.dev ≠ a)) = (d.dev, (d.i1, d.i2)) :: outE (D.filter fun x => decide (x.dev ≠ a)) := rfl
      rw [e, ← ih hn.2]
      cases mpos a (outE D) with
      | none => rfl
      | some j => rfl
end Go.Proofs.Ytbcdgocepnkpeaa
