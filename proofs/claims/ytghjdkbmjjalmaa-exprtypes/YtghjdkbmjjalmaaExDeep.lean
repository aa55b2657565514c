import Derived.Test.YtghjdkbmjjalmaaExKinds
namespace Go.Proofs.Ytghjdkbmjjalmaa
open Go Go.Abs
attribute [local irreducible] Ev PWp
set_option maxRecDepth 10000
theorem any_succ {α : Type} {l : List α} {i : Nat} {x : α} {p : α → Bool} (h : l[i]? = some x) : (l.take (i + 1)).any p = ((l.take i).any p || p x) := by
  obtain ⟨hl, rfl⟩ := List.getElem?_eq_some_iff.1 h
  rw [List.take_succ_eq_append_getElem hl, List.any_append]
  simp
theorem all_succ {α : Type} {l : List α} {i : Nat} {x : α} {p : α → Bool} (h : l[i]? = some x) : (l.take (i + 1)).all p = ((l.take i).all p && p x) := by
  obtain ⟨hl, rfl⟩ := List.getElem?_eq_some_iff.1 h
  rw [List.take_succ_eq_append_getElem hl, List.all_append]
  simp
theorem any_of {α : Type} {l : List α} {i : Nat} {x : α} {p : α → Bool} (h : l[i]? = some x) (hp : p x = true) : l.any p = true :=
  List.any_eq_true.2 ⟨x, List.mem_of_getElem? h, hp⟩
theorem all_not {α : Type} {l : List α} {i : Nat} {x : α} {p : α → Bool} (h : l[i]? = some x) (hp : p x = false) : l.all p = false := by
  cases ha : l.all p with
  | false => rfl
  | true => rw [List.all_eq_true] at ha; have := ha x (List.mem_of_getElem? h); rw [hp] at this; cases this
theorem take_ge {α : Type} {l : List α} {i : Nat} (h : ¬ i < l.length) : l.take i = l := List.take_of_length_le (by omega)
def deepR : Nat → Ex → Bool
  | 0, _ => true
  | l + 1, e => e.of.any (deepR l)
theorem deep_spec : ∀ (left : Nat) (e : Ex) (z : Int), z = (left : Nat) → left ≤ 1000 → e.ok → PF Try.prog 32 [.agg e.cells, (PV.val (Value.int .i64 (z)))] (PV.val (Value.bool (deepR left e))) := by
  intro left
  induction left with
  | zero =>
    intro e z hz _ _
    subst hz
    obtain ⟨k, n, v, of⟩ := e
    refine pf_of tt_ok Try.func32 (by kernel_rfl) rfl rfl rfl rfl (fun st => ?_)
    (try ((first | apply goE pk | apply go pk | apply goX pk | apply goN pk | apply go0 pk); exact rfl; (focus repeat' constructor); (focus repeat' (first | exact All.nil | refine All.cons ?_ ?_ | (intros; omega))))); (repeat (first | (apply goD pk; kernel_rfl; exact rfl; (focus repeat' constructor); (focus repeat' (first | exact All.nil | refine All.cons ?_ ?_ | (intros; omega)))) | (apply goX pk; exact rfl; (focus repeat' constructor); (focus repeat' (first | exact All.nil | refine All.cons ?_ ?_ | (intros; omega))))))
    refine pwp_cond rfl (fun h => ?_) (fun h => by simp at h)
    (try ((first | apply goE pk | apply go pk | apply goX pk | apply goN pk | apply go0 pk); exact rfl; (focus repeat' constructor); (focus repeat' (first | exact All.nil | refine All.cons ?_ ?_ | (intros; omega))))); (repeat (first | (apply goD pk; kernel_rfl; exact rfl; (focus repeat' constructor); (focus repeat' (first | exact All.nil | refine All.cons ?_ ?_ | (intros; omega)))) | (apply goX pk; exact rfl; (focus repeat' constructor); (focus repeat' (first | exact All.nil | refine All.cons ?_ ?_ | (intros; omega))))))
    (refine pwp_ret ?_; exact ⟨_, _, _, rfl, Wk.refl _, StSub.refl _, rfl, rfl⟩)
  | succ left ih =>
    intro e z hz hl hok
    subst hz
    obtain ⟨k, n, v, of⟩ := e
    simp only [Ex.ok] at hok
    refine pf_of tt_ok Try.func32 (by kernel_rfl) rfl rfl rfl rfl (fun st => ?_)
    (try ((first | apply goE pk | apply go pk | apply goX pk | apply goN pk | apply go0 pk); exact rfl; (focus repeat' constructor); (focus repeat' (first | exact All.nil | refine All.cons ?_ ?_ | (intros; omega))))); (repeat (first | (apply goD pk; kernel_rfl; exact rfl; (focus repeat' constructor); (focus repeat' (first | exact All.nil | refine All.cons ?_ ?_ | (intros; omega)))) | (apply goX pk; exact rfl; (focus repeat' constructor); (focus repeat' (first | exact All.nil | refine All.cons ?_ ?_ | (intros; omega))))))
    refine pwp_cond rfl (fun h => by simp at h; omega) (fun _ => ?_)
    (try ((first | apply goE pk | apply go pk | apply goX pk | apply goN pk | apply go0 pk); exact rfl; (focus repeat' constructor); (focus repeat' (first | exact All.nil | refine All.cons ?_ ?_ | (intros; omega))))); (repeat (first | (apply goD pk; kernel_rfl; exact rfl; (focus repeat' constructor); (focus repeat' (first | exact All.nil | refine All.cons ?_ ?_ | (intros; omega)))) | (apply goX pk; exact rfl; (focus repeat' constructor); (focus repeat' (first | exact All.nil | refine All.cons ?_ ?_ | (intros; omega))))))
    refine pwp_loop (X := { i : Nat // i ≤ of.length ∧ (of.take i).any (deepR left) = false }) (fun i => ((((((St.nil 21 st).pv 1 ((PV.val (Value.int .i64 ((left + 1 : Nat)))))).var 2 26 ((Ex.mk k n v of).cells)).pv 10 (.seq (Ex.rows of))).pv 11 ((PV.val (Value.int .i64 (((Ex.rows of).length : Nat)))))).pv 12 ((PV.val (Value.int .i64 ((i.1 : Nat))))))) (fun i => of.length - i.1) ⟨0, by omega, by simp⟩ ?_ (fun i => ?_)
    · (first | exact Sub.nil _ _ _ (StSub.refl _) rfl | ((repeat (first | refine Sub.pv ?_ rfl | refine Sub.var ?_ rfl rfl)); exact Sub.nil _ _ _ (StSub.refl _) rfl))
    obtain ⟨i, hi, hany⟩ := i
    dsimp only
    (try ((first | apply goE pk | apply go pk | apply goX pk | apply goN pk | apply go0 pk); exact rfl; (focus repeat' constructor); (focus repeat' (first | exact All.nil | refine All.cons ?_ ?_ | (intros; omega))))); (repeat (first | (apply goD pk; kernel_rfl; exact rfl; (focus repeat' constructor); (focus repeat' (first | exact All.nil | refine All.cons ?_ ?_ | (intros; omega)))) | (apply goX pk; exact rfl; (focus repeat' constructor); (focus repeat' (first | exact All.nil | refine All.cons ?_ ?_ | (intros; omega))))))
    refine pwp_cond rfl (fun h => ?_) (fun h => ?_) <;> simp [Ex.rows_len] at h
    · obtain ⟨x, hx⟩ := get_of_lt h
      (try ((first | apply goE pk | apply go pk | apply goX pk | apply goN pk | apply go0 pk); exact rfl; (focus repeat' constructor); (focus repeat' (first | exact All.nil | refine All.cons ?_ ?_ | (intros; omega))))); (repeat (first | (apply goD pk; kernel_rfl; exact rfl; (focus repeat' constructor); (focus repeat' (first | exact All.nil | refine All.cons ?_ ?_ | (intros; omega)))) | (apply goX pk; exact rfl; (focus repeat' constructor); (focus repeat' (first | exact All.nil | refine All.cons ?_ ?_ | (intros; omega))))))
      (apply idxS pk; exact rfl; exact rfl; exact rfl; exact rfl; exact rfl; exact rfl; (focus repeat' constructor); exact rfl; (intro _; exact rfl); (intro _; exact (Ex.rows_get hx)); (intro _; exact (Ex.cells_len x)))
      have hxo := Ex.oks_mem hok.2 (List.mem_of_getElem? hx)
      obtain ⟨k', n', v', of'⟩ := x
      (try ((first | apply goE pk | apply go pk | apply goX pk | apply goN pk | apply go0 pk); exact rfl; (focus repeat' constructor); (focus repeat' (first | exact All.nil | refine All.cons ?_ ?_ | (intros; omega))))); (repeat (first | (apply goD pk; kernel_rfl; exact rfl; (focus repeat' constructor); (focus repeat' (first | exact All.nil | refine All.cons ?_ ?_ | (intros; omega)))) | (apply goX pk; exact rfl; (focus repeat' constructor); (focus repeat' (first | exact All.nil | refine All.cons ?_ ?_ | (intros; omega)))) | (apply callS; exact rfl; exact rfl; exact rfl; (intro _; first | (apply (fun z hz => ih _ z hz (by omega) hxo) <;> first | assumption | omega)); (focus repeat' constructor); exact rfl; ((first | apply goE pk | apply go pk | apply goX pk | apply goN pk | apply go0 pk); exact rfl; (focus repeat' constructor); (focus repeat' (first | exact All.nil | refine All.cons ?_ ?_ | (intros; omega)))))))
      refine pwp_cond rfl (fun h2 => ?_) (fun h2 => ?_)
      · (try ((first | apply goE pk | apply go pk | apply goX pk | apply goN pk | apply go0 pk); exact rfl; (focus repeat' constructor); (focus repeat' (first | exact All.nil | refine All.cons ?_ ?_ | (intros; omega))))); (repeat (first | (apply goD pk; kernel_rfl; exact rfl; (focus repeat' constructor); (focus repeat' (first | exact All.nil | refine All.cons ?_ ?_ | (intros; omega)))) | (apply goX pk; exact rfl; (focus repeat' constructor); (focus repeat' (first | exact All.nil | refine All.cons ?_ ?_ | (intros; omega))))))
        (refine pwp_ret ?_; exact ⟨_, _, _, rfl, Wk.refl _, StSub.refl _, by simp only [deepR, Ex.of]; rw [any_of hx h2], rfl⟩)
      · (try ((first | apply goE pk | apply go pk | apply goX pk | apply goN pk | apply go0 pk); exact rfl; (focus repeat' constructor); (focus repeat' (first | exact All.nil | refine All.cons ?_ ?_ | (intros; omega))))); (repeat (first | (apply goD pk; kernel_rfl; exact rfl; (focus repeat' constructor); (focus repeat' (first | exact All.nil | refine All.cons ?_ ?_ | (intros; omega)))) | (apply goX pk; exact rfl; (focus repeat' constructor); (focus repeat' (first | exact All.nil | refine All.cons ?_ ?_ | (intros; omega))))))
        refine ⟨⟨i + 1, by omega, by rw [any_succ hx, hany, h2]; rfl⟩, ?_, by simp only; omega⟩
        (first | exact Sub.nil _ _ _ (StSub.refl _) rfl | ((repeat (first | refine Sub.pv ?_ rfl | refine Sub.var ?_ rfl rfl)); exact Sub.nil _ _ _ (StSub.refl _) rfl))
    · (try ((first | apply goE pk | apply go pk | apply goX pk | apply goN pk | apply go0 pk); exact rfl; (focus repeat' constructor); (focus repeat' (first | exact All.nil | refine All.cons ?_ ?_ | (intros; omega))))); (repeat (first | (apply goD pk; kernel_rfl; exact rfl; (focus repeat' constructor); (focus repeat' (first | exact All.nil | refine All.cons ?_ ?_ | (intros; omega)))) | (apply goX pk; exact rfl; (focus repeat' constructor); (focus repeat' (first | exact All.nil | refine All.cons ?_ ?_ | (intros; omega))))))
      (refine pwp_ret ?_; exact ⟨_, _, _, rfl, Wk.refl _, StSub.refl _, by rw [take_ge (by omega)] at hany; simp only [deepR, Ex.of, hany], rfl⟩)
end Go.Proofs.Ytghjdkbmjjalmaa
