import Derived.Test.YtghjdkbmjjalmaaExTop
namespace Go.Proofs.Ytghjdkbmjjalmaa
open Go Go.Abs
attribute [local irreducible] Ev PWp
set_option maxRecDepth 10000
set_option maxHeartbeats 4000000
def xCol : Ex := .mk 0 0 v0 []
def xNum (n : Int) : Ex := .mk 1 0 ⟨1, n, e0⟩ []
def xNil : Ex := .mk 1 0 v0 []
def xOf (k : Int) (a b : Ex) : Ex := .mk k 0 v0 [a, b]
theorem wk_nil {c1 c2 c3 c4 c5 : PV} : Wk (.agg [c1, c2, c3, c4, c5, .val (.slice none 0 0)]) (.agg [c1, c2, c3, c4, c5, .seq []]) :=
  Wk.agg (.cons (Wk.refl _) (.cons (Wk.refl _) (.cons (Wk.refl _) (.cons (Wk.refl _) (.cons (Wk.refl _) (.cons Wk.nil .nil))))))
theorem ok_xof {k : Int} {a b : Ex} (ha : a.ok) (hb : b.ok) : (xOf k a b).ok := by simp [xOf, Ex.ok, Ex.oks, ha, hb]
theorem ok_xcol : xCol.ok := by simp [xCol, Ex.ok, Ex.oks]
theorem ok_xnil : xNil.ok := by simp [xNil, Ex.ok, Ex.oks]
theorem ok_xnum (n : Int) : (xNum n).ok := by simp [xNum, Ex.ok, Ex.oks]
theorem row_one {v : Vl} (h : lim v.n) : rowOK [v] := ⟨by simp, by simpa using h⟩
theorem row_nil : rowOK [] := ⟨by simp, by simp⟩
def xLess : Ex := xOf 6 xCol (xNum 5)
theorem t1 : EvalR xLess [⟨1, 3, e0⟩] = (⟨1, 1, e0⟩, 0) := by rfl
theorem t2 : EvalR xLess [⟨0, 0, e0⟩] = (⟨0, 0, e0⟩, 0) := by rfl
theorem t3 : EvalR (xOf 7 xNil (xNum 0)) [] = (⟨1, 0, e0⟩, 0) := by rfl
theorem t4 : EvalR (xOf 2 (xNum 1099511627776) (xNum 1)) [] = (⟨0, 0, e0⟩, 20) := by rfl
theorem t5 : TypeR xLess [1] = (1, 0) := by rfl
theorem t6 : HoldsR xLess [⟨1, 4, e0⟩] = (true, 0) := by rfl
theorem t7 : fitsR [⟨0, 0, e0⟩] [2] = true := by rfl
theorem awake_spec : PF Try.prog 6 [] (PV.val (Value.bool (true))) := by
  have hl : xLess.ok := ok_xof ok_xcol (ok_xnum 5)
  have s1 := Eval_spec hl (row_one (v := ⟨1, 3, e0⟩) (by simp [lim]))
  have s2 := Eval_spec hl (row_one (v := ⟨0, 0, e0⟩) (by simp [lim]))
  have s3 := Eval_spec (ok_xof (k := 7) ok_xnil (ok_xnum 0)) row_nil
  have s4 := Eval_spec (ok_xof (k := 2) (ok_xnum 1099511627776) (ok_xnum 1)) row_nil
  have s5 := Type_spec hl (l := [1]) (by simp)
  have s6 := Holds_spec hl (row_one (v := ⟨1, 4, e0⟩) (by simp [lim]))
  have s7 := Fits_spec (row := [⟨0, 0, e0⟩]) (l := [2]) (by simp) (by simp)
  rw [t1] at s1
  rw [t2] at s2
  rw [t3] at s3
  rw [t4] at s4
  rw [t5] at s5
  rw [t6] at s6
  rw [t7] at s7
  refine pf_of tt_ok Try.func6 (by kernel_rfl) rfl rfl rfl rfl (fun st => ?_)
  (try ((first | apply goE pk | apply go pk | apply goX pk | apply goN pk | apply go0 pk); exact rfl; (focus repeat' constructor); (focus repeat' (first | exact All.nil | refine All.cons ?_ ?_ | (intros; omega))))); (repeat (first | (apply goD pk; kernel_rfl; exact rfl; (focus repeat' constructor); (focus repeat' (first | exact All.nil | refine All.cons ?_ ?_ | (intros; omega)))) | (apply goX pk; exact rfl; (focus repeat' constructor); (focus repeat' (first | exact All.nil | refine All.cons ?_ ?_ | (intros; omega)))) | (apply callS; exact rfl; exact rfl; exact rfl; (intro _; first | (apply num_spec <;> first | assumption | omega)); (focus repeat' constructor); exact rfl; ((first | apply goE pk | apply go pk | apply goX pk | apply goN pk | apply go0 pk); exact rfl; (focus repeat' constructor); (focus repeat' (first | exact All.nil | refine All.cons ?_ ?_ | (intros; omega)))))))
  (apply callW [(PV.val (Value.int .i64 (6))), .agg xCol.cells, .agg (xNum 5).cells]; exact rfl; exact rfl; exact rfl; exact .cons (Wk.refl _) (.cons wk_nil (.cons (Wk.refl _) .nil)); (intro _; exact of_spec); (focus repeat' constructor); exact rfl)
  (try ((first | apply goE pk | apply go pk | apply goX pk | apply goN pk | apply go0 pk); exact rfl; (focus repeat' constructor); (focus repeat' (first | exact All.nil | refine All.cons ?_ ?_ | (intros; omega))))); (repeat (first | (apply goD pk; kernel_rfl; exact rfl; (focus repeat' constructor); (focus repeat' (first | exact All.nil | refine All.cons ?_ ?_ | (intros; omega)))) | (apply goX pk; exact rfl; (focus repeat' constructor); (focus repeat' (first | exact All.nil | refine All.cons ?_ ?_ | (intros; omega)))) | (apply callS; exact rfl; exact rfl; exact rfl; (intro _; first | (apply s1 <;> first | assumption | omega) | (apply s2 <;> first | assumption | omega) | (apply num_spec <;> first | assumption | omega)); (focus repeat' constructor); exact rfl; ((first | apply goE pk | apply go pk | apply goX pk | apply goN pk | apply go0 pk); exact rfl; (focus repeat' constructor); (focus repeat' (first | exact All.nil | refine All.cons ?_ ?_ | (intros; omega)))))))
  (apply callW [(PV.val (Value.int .i64 (7))), .agg xNil.cells, .agg (xNum 0).cells]; exact rfl; exact rfl; exact rfl; exact .cons (Wk.refl _) (.cons wk_nil (.cons (Wk.refl _) .nil)); (intro _; exact of_spec); (focus repeat' constructor); exact rfl)
  (try ((first | apply goE pk | apply go pk | apply goX pk | apply goN pk | apply go0 pk); exact rfl; (focus repeat' constructor); (focus repeat' (first | exact All.nil | refine All.cons ?_ ?_ | (intros; omega))))); (repeat (first | (apply goD pk; kernel_rfl; exact rfl; (focus repeat' constructor); (focus repeat' (first | exact All.nil | refine All.cons ?_ ?_ | (intros; omega)))) | (apply goX pk; exact rfl; (focus repeat' constructor); (focus repeat' (first | exact All.nil | refine All.cons ?_ ?_ | (intros; omega))))))
  (apply callW [.agg (xOf 7 xNil (xNum 0)).cells, .seq (vrows [])]; exact rfl; exact rfl; exact rfl; exact .cons (Wk.refl _) (.cons Wk.nil .nil); (intro _; exact s3); (focus repeat' constructor); exact rfl)
  (try ((first | apply goE pk | apply go pk | apply goX pk | apply goN pk | apply go0 pk); exact rfl; (focus repeat' constructor); (focus repeat' (first | exact All.nil | refine All.cons ?_ ?_ | (intros; omega))))); (repeat (first | (apply goD pk; kernel_rfl; exact rfl; (focus repeat' constructor); (focus repeat' (first | exact All.nil | refine All.cons ?_ ?_ | (intros; omega)))) | (apply goX pk; exact rfl; (focus repeat' constructor); (focus repeat' (first | exact All.nil | refine All.cons ?_ ?_ | (intros; omega)))) | (apply callS; exact rfl; exact rfl; exact rfl; (intro _; first | (apply num_spec <;> first | assumption | omega) | (apply of_spec <;> first | assumption | omega)); (focus repeat' constructor); exact rfl; ((first | apply goE pk | apply go pk | apply goX pk | apply goN pk | apply go0 pk); exact rfl; (focus repeat' constructor); (focus repeat' (first | exact All.nil | refine All.cons ?_ ?_ | (intros; omega)))))))
  (apply callW [.agg (xOf 2 (xNum 1099511627776) (xNum 1)).cells, .seq (vrows [])]; exact rfl; exact rfl; exact rfl; exact .cons (Wk.refl _) (.cons Wk.nil .nil); (intro _; exact s4); (focus repeat' constructor); exact rfl)
  (try ((first | apply goE pk | apply go pk | apply goX pk | apply goN pk | apply go0 pk); exact rfl; (focus repeat' constructor); (focus repeat' (first | exact All.nil | refine All.cons ?_ ?_ | (intros; omega))))); (repeat (first | (apply goD pk; kernel_rfl; exact rfl; (focus repeat' constructor); (focus repeat' (first | exact All.nil | refine All.cons ?_ ?_ | (intros; omega)))) | (apply goX pk; exact rfl; (focus repeat' constructor); (focus repeat' (first | exact All.nil | refine All.cons ?_ ?_ | (intros; omega)))) | (apply callS; exact rfl; exact rfl; exact rfl; (intro _; first | (apply s5 <;> first | assumption | omega) | (apply s6 <;> first | assumption | omega) | (apply s7 <;> first | assumption | omega)); (focus repeat' constructor); exact rfl; ((first | apply goE pk | apply go pk | apply goX pk | apply goN pk | apply go0 pk); exact rfl; (focus repeat' constructor); (focus repeat' (first | exact All.nil | refine All.cons ?_ ?_ | (intros; omega)))))))
  (refine pwp_ret ?_; exact ⟨_, _, _, rfl, Wk.refl _, StSub.refl _, rfl, rfl⟩)
end Go.Proofs.Ytghjdkbmjjalmaa
