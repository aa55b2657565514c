import Derived.Test.YtghjdkbmjjalmaaExAwake
namespace Go.Proofs.Ytghjdkbmjjalmaa
open Go Go.Abs
attribute [local irreducible] Ev PWp
set_option maxRecDepth 10000
set_option maxHeartbeats 4000000
def opI : Nat → Int → Int → Int
  | 0, a, b => a + b
  | 1, a, b => a - b
  | _, a, b => a * b
def numV (n : Int) : Vl := ⟨1, n, e0⟩
def inM (n : Int) : Prop := -1099511627776 ≤ n ∧ n ≤ 1099511627776
theorem right_num {n : Int} (h : inM n) : rightV (numV n) = true := by simp [rightV, numV, h.1, h.2]
theorem may_bin {k : Int} {a b : Ex} (ha : a = xNil ∨ ∃ n, inM n ∧ a = xNum n) (hb : b = xNil ∨ ∃ n, inM n ∧ b = xNum n) (h1 : 2 ≤ k) (h2 : k ≤ 8) : mayR (xOf k a b) = 0 := by
  have hk0 : ¬ k = 0 := by omega
  have hk1 : ¬ k = 1 := by omega
  have hk : 2 ≤ k ∧ k ≤ 10 := by omega
  have hm : manyK k = 2 := by unfold manyK; rw [if_neg (by omega)]
  have fa : ∀ a : Ex, (a = xNil ∨ ∃ n, inM n ∧ a = xNum n) → formedR a = true ∧ a.of = [] := by
    rintro a (rfl | ⟨n, hn, rfl⟩)
    · exact ⟨rfl, rfl⟩
    · have := right_num hn
      simp only [numV] at this
      simp [xNum, formedR, headF, this, Ex.of]
  have hf : formedR (xOf k a b) = true := by
    simp [xOf, formedR, headF, hk0, hk1, hk, hm, formedRs, (fa a ha).1, (fa b hb).1, vz, v0]
  have hd : deepR 20 (xOf k a b) = false := by
    simp [xOf, deepR, Ex.of, (fa a ha).2, (fa b hb).2]
    have e1 := (fa a ha).2
    have e2 := (fa b hb).2
    simp [Ex.of] at e1 e2
    simp [e1, e2]
  simp [mayR, hf, hd]
theorem eval_num {n : Int} : evalR [] (xNum n) = (numV n, 0) := by simp [xNum, evalR, numV]
theorem eval_nil : evalR [] xNil = (v0, 0) := by simp [xNil, evalR]
theorem eval_bin {k x y : Int} (hx : inM x) (hy : inM y) (h1 : 2 ≤ k) (h2 : k ≤ 8) : EvalR (xOf k (xNum x) (xNum y)) [] = saysK k (numV x) (numV y) := by
  have hk0 : ¬ k = 0 := by omega
  have hk1 : ¬ k = 1 := by omega
  have hm : manyK k = 2 := by unfold manyK; rw [if_neg (by omega)]
  unfold EvalR
  rw [may_bin (.inr ⟨x, hx, rfl⟩) (.inr ⟨y, hy, rfl⟩) h1 h2]
  simp [xOf, evalR, evalRs, hk0, hk1, hm, eval_num, togR, numV]
theorem eval_binN {k x : Int} (hx : inM x) (h1 : 2 ≤ k) (h2 : k ≤ 8) : EvalR (xOf k (xNum x) xNil) [] = saysK k (numV x) v0 := by
  have hk0 : ¬ k = 0 := by omega
  have hk1 : ¬ k = 1 := by omega
  have hm : manyK k = 2 := by unfold manyK; rw [if_neg (by omega)]
  unfold EvalR
  rw [may_bin (.inr ⟨x, hx, rfl⟩) (.inl rfl) h1 h2]
  simp [xOf, evalR, evalRs, hk0, hk1, hm, eval_num, eval_nil, togR, numV, v0]
theorem says_op {i : Nat} (hi : i < 3) {x y : Int} : saysK (2 + i) (numV x) (numV y) = if reckR (opI i) x y then (v0, 20) else (numV (IntKind.wrap .i64 (opI i x y)), 0) := by
  match i, hi with
  | 0, _ => simp [saysK, knownV, numV, reckV, vN]; rfl
  | 1, _ => simp [saysK, knownV, numV, reckV, vN]; rfl
  | 2, _ => simp [saysK, knownV, numV, reckV, vN]; rfl
theorem says_opN {i : Nat} (hi : i < 3) {x : Int} : saysK (2 + i) (numV x) v0 = (v0, 0) := by
  match i, hi with
  | 0, _ => simp [saysK, knownV, v0]
  | 1, _ => simp [saysK, knownV, v0]
  | 2, _ => simp [saysK, knownV, v0]
end Go.Proofs.Ytghjdkbmjjalmaa
