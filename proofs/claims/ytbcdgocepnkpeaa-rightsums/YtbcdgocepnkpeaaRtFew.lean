import Derived.Test.YtbcdgocepnkpeaaRtEq
import Derived.Test.YtbcdgocepnkpeaaRtGiveL
set_option linter.unusedSimpArgs false
set_option linter.unusedVariables false
namespace Go.Proofs.Ytbcdgocepnkpeaa
open Go Go.Abs
set_option maxRecDepth 10000
set_option maxHeartbeats 2000000
theorem putA_len1 : ∀ (l : List Rt) (r : Rt), (putA r true l).length ≤ l.length
  | [], r => by simp [putA]
  | x :: l, r => by
    rw [putA]
    split
    · have := putA_len1 l { r with amt := r.amt + x.amt }; simp only [List.length_cons]; omega
    split
    · have := putA_len1 l { r with lo := min r.lo x.lo, hi := max r.hi x.hi }; simp only [List.length_cons]; omega
    split
    · rename_i h; simp at h
    · have := putA_len1 l r; simp only [List.length_cons]; omega
theorem putA_len : ∀ (l : List Rt) (r : Rt) (done : Bool), (putA r done l).length ≤ l.length + 1
  | [], r, done => by rw [putA]; split <;> simp
  | x :: l, r, done => by
    rw [putA]
    split
    · have := putA_len l { r with amt := r.amt + x.amt } done; simp only [List.length_cons]; omega
    split
    · have := putA_len l { r with lo := min r.lo x.lo, hi := max r.hi x.hi } done; simp only [List.length_cons]; omega
    split
    · have := putA_len1 l r; simp only [List.length_cons]; omega
    · have := putA_len l r done; simp only [List.length_cons]; omega
theorem putP_len (l : List Rt) (r : Rt) : (putP l r).length ≤ l.length + 1 := putA_len l r false
theorem cutP_len (r : Rt) : ∀ l : List Rt, (cutP l r).length ≤ 2 * l.length
  | [] => by simp [cutP]
  | x :: l => by
    have ih := cutP_len r l
    have e : cutP (x :: l) r = cutX r x ++ cutP l r := by unfold cutP; rw [List.flatMap_cons]
    have : (cutX r x).length ≤ 2 := by
      unfold cutX
      split
      · simp
      · split <;> split <;> simp
    rw [e, List.length_append, List.length_cons]; omega
theorem withP_len (o : List Ow) (dev : Int) (l : List Rt) : (withP o dev l).length ≤ o.length + 1 := by
  have h1 : ∀ o : List Ow, (withA dev l true o).length ≤ o.length := fun o => by rw [withA_done]; exact List.length_filter_le _ _
  have h2 : ∀ (o : List Ow) (done : Bool), (withA dev l done o).length ≤ o.length + 1 := fun o => by
    induction o with
    | nil => intro done; rw [withA]; split <;> simp
    | cons w o ih =>
      intro done
      rw [withA, List.length_append, List.length_append, List.length_cons]
      have h3 : (if w.dev ≠ dev then [w] else []).length ≤ 1 := by split <;> simp
      by_cases c : w.dev ≥ dev ∧ done = false
      · rw [if_pos c, show (done || decide (w.dev ≥ dev)) = true from by simp [c.1]]
        have := h1 o
        simp only [List.length_singleton]; omega
      · rw [if_neg c]
        have := ih (done || decide (w.dev ≥ dev))
        simp only [List.length_nil]; omega
  exact h2 o _
def FewN (n : Nat) (o : List Ow) : Prop := o.length ≤ n ∧ ∀ w ∈ o, w.rights.length ≤ n
theorem FewN.o {n : Nat} {o : List Ow} (h : FewN n o) (hn : n ≤ 1000) : FewO o := ⟨by have := h.1; omega, fun w hw => by have := h.2 w hw; omega⟩
theorem FewN.rts {n : Nat} {o : List Ow} (h : FewN n o) (d : Int) : (rtsOf o d).length ≤ n := by
  by_cases hq : rtsOf o d = []
  · rw [hq]; simp
  · obtain ⟨w, hw, _, e⟩ := rtsOf_some hq
    rw [e]; exact h.2 w hw
theorem FewN.with {n m : Nat} {o : List Ow} (h : FewN n o) (dev : Int) {l : List Rt} (hl : l.length ≤ m) (hm : n + 1 ≤ m) : FewN m (withP o dev l) := by
  refine ⟨by have := withP_len o dev l; have := h.1; omega, fun w hw => ?_⟩
  unfold withP at hw
  rcases withA_mem dev l o _ w hw with rfl | ⟨q, _⟩
  · exact hl
  · have := h.2 w q; omega
theorem handP_few {s : Sc} {o : List Ow} (hf : FewN 20 o) (a b : Int) (r : Rt) : FewN 100 (handP s o a b r).1 := by
  have h0 : FewN 100 ([] : List Ow) := ⟨by simp, fun _ h => by cases h⟩
  have key : ∀ l : List Rt, l.length ≤ 40 → FewN 100 (handO o a b r l) := fun l hl => by
    unfold handO
    have h1 := hf.with a (m := 41) (l := l) (by omega) (by omega)
    have h2 := h1.rts b
    have h3 := putP_len (rtsOf (withP o a l) b) r
    exact h1.with b (by omega) (by omega)
  have hl := hf.rts a
  unfold handP
  split
  · exact h0
  split
  · exact h0
  split
  · exact h0
  split
  · split
    · exact h0
    · exact key _ (by have := putP_len (rtsOf o a) (negA r); omega)
  · exact key _ (by have := cutP_len r (rtsOf o a); omega)
theorem giveA_few (b : Int) : ∀ (l : List Rt) (out : List Ow) (n : Nat), FewN n out → FewN (n + l.length) (giveA b l out).1
  | [], out, n, h => h
  | r :: l, out, n, h => by
    rw [giveA]
    split
    · exact ⟨by simp, fun _ h => by cases h⟩
    · have h1 := h.rts b
      have h2 := putP_len (rtsOf out b) r
      have := giveA_few b l _ (n + 1) (h.with b (l := putP (rtsOf out b) r) (by omega) (Nat.le_refl _))
      rwa [show n + 1 + l.length = n + (r :: l).length from by simp only [List.length_cons]; omega] at this
theorem giveP_few {s : Sc} {o : List Ow} (hf : FewN 20 o) (a b : Int) : FewN 100 (giveP s o a b).1 := by
  unfold giveP
  split
  · exact ⟨by simp, fun _ h => by cases h⟩
  · have h1 := hf.with a (m := 21) (l := []) (by simp) (by omega)
    have h2 := giveA_few b (rtsOf o a) _ 21 h1
    have h3 := hf.rts a
    exact ⟨by have := h2.1; omega, fun w hw => by have := h2.2 w hw; omega⟩
end Go.Proofs.Ytbcdgocepnkpeaa
