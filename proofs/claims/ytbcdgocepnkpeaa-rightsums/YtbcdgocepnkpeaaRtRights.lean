import Derived.Test.YtbcdgocepnkpeaaRtJoin
set_option linter.unusedSimpArgs false
set_option linter.unusedVariables false
namespace Go.Proofs.Ytbcdgocepnkpeaa
open Go Go.Abs
attribute [local irreducible] Ev PWp
set_option maxRecDepth 10000
set_option maxHeartbeats 4000000
def spanRt (k : Of) (x : Sn) : Rt := ⟨k.kind, k.table, k.col, x.lo, x.hi, 0⟩
def amtRt (k : Of) (n : Int) : Rt := ⟨k.kind, k.table, k.col, k.group, 0, n⟩
def accV : Option (Nat × List Rt) → PV
  | none => .val (.slice none 0 0)
  | some y => .vec y.1 6 0 y.2.length
def accL : Option (Nat × List Rt) → List Rt
  | none => []
  | some y => y.2
structure Acc (L : Nat → Prop) (S : Store) (id3 : Nat) (a : Option (Nat × List Rt)) : Prop where
  box : S id3 = some (.cells 50 [accV a])
  arr : ∀ y, a = some y → S y.1 = some (.arr 34 (y.2.map Rt.cells)) ∧ ¬ L y.1
  out : ¬ L id3
theorem Acc.grow {L : Nat → Prop} {S S1 : Store} {id3 : Nat} {a : Option (Nat × List Rt)} (h : Acc L S id3 a) {i' : Nat} {l' : List Rt} (hi : S i' = none) (hL : ∀ j, L j → S j ≠ none)
    (hS : S1 = upd (upd S i' (some (.arr 34 (l'.map Rt.cells)))) id3 (some (.cells 50 [accV (some (i', l'))])) ∨ ∃ y, a = some y ∧ S1 = upd (upd (upd S y.1 none) i' (some (.arr 34 (l'.map Rt.cells)))) id3 (some (.cells 50 [accV (some (i', l'))]))) :
    Acc L S1 id3 (some (i', l')) ∧ ∀ j, L j → S1 j = S j := by
  have n3 : i' ≠ id3 := fun e => by rw [e, h.box] at hi; cases hi
  have ni : ¬ L i' := fun q => hL i' q hi
  rcases hS with rfl | ⟨y, ha, rfl⟩
  · refine ⟨⟨upd_same _ _ _, fun y e => ?_, h.out⟩, fun j hj => ?_⟩
    · injection e with e; subst e
      exact ⟨by rw [upd_ne n3, upd_same], ni⟩
    · rw [upd_ne (fun e => h.out (by rw [← e]; exact hj)), upd_ne (fun e => ni (by rw [← e]; exact hj))]
  · refine ⟨⟨upd_same _ _ _, fun y e => ?_, h.out⟩, fun j hj => ?_⟩
    · injection e with e; subst e
      exact ⟨by rw [upd_ne n3, upd_same], ni⟩
    · rw [upd_ne (fun e => h.out (by rw [← e]; exact hj)), upd_ne (fun e => ni (by rw [← e]; exact hj)), upd_ne (fun e => (h.arr y ha).2 (by rw [← e]; exact hj))]
theorem Acc.move {L L' : Nat → Prop} {S S1 : Store} {id3 : Nat} {a : Option (Nat × List Rt)} (h : Acc L S id3 a) (h3 : S1 id3 = S id3) (ha : ∀ y, a = some y → S1 y.1 = S y.1 ∧ ¬ L' y.1) (hL : ¬ L' id3) : Acc L' S1 id3 a :=
  ⟨h3.trans h.box, fun y e => ⟨(ha y e).1.trans (h.arr y e).1, (ha y e).2⟩, hL⟩
theorem Acc.round {L : Nat → Prop} {S S1 : Store} {id3 idl : Nat} {a : Option (Nat × List Rt)} (h : Acc L S id3 a) (hl : L idl) (hL : ∀ j, L j → S j ≠ none) (busy ready : AObj) {i' : Nat} {l' : List Rt} (hi : upd S idl (some busy) i' = none)
    (hS : S1 = upd (upd (upd S idl (some busy)) i' (some (.arr 34 (l'.map Rt.cells)))) id3 (some (.cells 50 [accV (some (i', l'))])) ∨ ∃ y, a = some y ∧ S1 = upd (upd (upd (upd S idl (some busy)) y.1 none) i' (some (.arr 34 (l'.map Rt.cells)))) id3 (some (.cells 50 [accV (some (i', l'))]))) :
    Acc L (upd S1 idl (some ready)) id3 (some (i', l')) ∧ S1 idl = some busy ∧ ∀ j, L j → j ≠ idl → upd S1 idl (some ready) j = S j := by
  have n3 : id3 ≠ idl := fun e => h.out (by rw [e]; exact hl)
  have hb : Acc L (upd S idl (some busy)) id3 a := h.move (upd_ne n3) (fun y e => ⟨upd_ne fun q => (h.arr y e).2 (by rw [q]; exact hl), (h.arr y e).2⟩) h.out
  have hLb : ∀ j, L j → upd S idl (some busy) j ≠ none := fun j hj => by
    by_cases e : j = idl
    · rw [e, upd_same]; simp
    · rw [upd_ne e]; exact hL j hj
  obtain ⟨g1, g2⟩ := hb.grow hi hLb hS
  refine ⟨g1.move (upd_ne n3) (fun y e => ⟨upd_ne fun q => (g1.arr y e).2 (by rw [q]; exact hl), (g1.arr y e).2⟩) g1.out, by rw [g2 idl hl, upd_same], fun j hj hne => ?_⟩
  rw [upd_ne hne, g2 j hj, upd_ne hne]
theorem mergeA_len (l : List Sn) : ∀ x : Sn, (mergeA x l).length ≤ l.length + 1 := by
  induction l with
  | nil => intro x; simp [mergeA]
  | cons y l ih =>
    intro x
    rw [mergeA]
    split
    · exact Nat.le_trans (ih _) (by simp)
    · have := ih y
      simp only [List.length_cons]; omega
theorem mergeL_len (l : List Sn) : (mergeL l).length ≤ l.length := by
  cases l with
  | nil => simp [mergeL]
  | cons x l => exact mergeA_len l x
end Go.Proofs.Ytbcdgocepnkpeaa
