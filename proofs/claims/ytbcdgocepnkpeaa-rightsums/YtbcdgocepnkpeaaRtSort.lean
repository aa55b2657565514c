import Derived.Test.YtbcdgocepnkpeaaRtHolds
import Derived.Test.YtbcdgocepnkpeaaRtLay
import Derived.Test.YtbcdgocepnkpeaaAbsSort
import Derived.Test.YtbcdgocepnkpeaaAbsG
set_option linter.unusedSimpArgs false
set_option linter.unusedVariables false
namespace Go.Proofs.Ytbcdgocepnkpeaa
open Go Go.Abs
attribute [local irreducible] Ev PWp
set_option maxRecDepth 10000
set_option maxHeartbeats 4000000
def SnB (x : Sn) : Prop := 0 ≤ x.lo ∧ x.lo ≤ 1073741824
instance : Inhabited { x : Sn // SnB x } := ⟨⟨⟨0, 0⟩, by decide, by decide⟩⟩
theorem spanCmp_spec (x y : Sn) (hx : SnB x) (hy : SnB y) : PF Try.prog 57 [.agg x.cells, .agg y.cells] (PV.val (Value.int .i64 (x.lo - y.lo))) := by
  obtain ⟨a1, a2⟩ := hx
  obtain ⟨b1, b2⟩ := hy
  refine pf_of tt_ok Try.func57 (by kernel_rfl) rfl rfl rfl rfl (fun st => ?_)
  (try (apply wO pk; exact rfl)); (repeat' (first | exact All.nil | refine All.cons ?_ ?_ | (apply wC pk; exact rfl; exact rfl) | (apply wE pk; exact rfl; exact rfl) | (apply wX pk; exact rfl) | (apply wN pk; exact rfl) | (apply wD pk [] []; kernel_rfl; exact rfl; exact rfl) | exact Imp.one | exact Imp.same | refine Imp.left ?_ | exact ImpX.one | exact ImpX.same | exact ImpX.mk | refine ImpX.up ?_ | refine ImpX.old ?_ | (apply pwp_condC; simp only [cond_true, cond_false]) | (refine pwp_cond rfl (fun h => ?_) (fun h => ?_) <;> (try simp at h) <;> (first | done | (exfalso; omega) | skip)) | (refine pwp_ret ?_; refine ⟨_, _, _, rfl, Wk.refl _, StSub.refl _, ?_, rfl⟩; (first | rfl | skip)) | (intros; omega) | (intros; simp only [List.length_map]; omega)))
theorem sortS_pc (l : List Sn) (hl : ∀ x ∈ l, SnB x) {st : Store} {id n : Nat} (hst : st id = some (.arr 80 (l.map Sn.cells))) (hn : l.length = n) (h62 : n < 4611686018427387904) :
    PC Try.prog 56 [.vec id 2 0 n, .fn 57 []] st fun _ S => ∃ srt : List Sn, S = upd st id (some (.arr 80 (srt.map Sn.cells))) ∧ srt.Perm l ∧ srt.Pairwise fun x y => x.lo ≤ y.lo := by
  have e : (l.attach.map fun x => (⟨x.1, hl x.1 x.2⟩ : { x : Sn // SnB x })).map (fun x => ([.int .i64 x.1.lo, .int .i64 x.1.hi] : List Value).map PV.val) = l.map Sn.cells := by
    rw [List.map_map]
    show l.attach.map (fun x => Sn.cells x.1) = _
    rw [List.attach_map_val]
  have := sortF_pc (P := Try.prog) layS (by kernel_rfl) (k := 2) Try.isAgg80 Try.sizeOf80 (enc := fun x : { x : Sn // SnB x } => [.int .i64 x.1.lo, .int .i64 x.1.hi]) (fun _ => rfl) (fun x v hv => by simp only [List.mem_cons, List.not_mem_nil, or_false] at hv; rcases hv with rfl | rfl <;> rfl) (cmp := fun x y => x.1.lo - y.1.lo)
    ⟨fun x => by simp [ltOf], fun x y z h1 h2 => by simp only [ltOf, decide_eq_true_eq] at *; omega, fun x y z h1 h2 => by simp only [ltOf, decide_eq_false_iff_not] at *; omega⟩ (gf := 57) (by kernel_rfl) (fun x y => spanCmp_spec x.1 y.1 x.2 y.2) (st := st) (id := id) (n := n) (d := l.attach.map fun x => ⟨x.1, hl x.1 x.2⟩) (e := 80) (by kernel_rfl) (by rw [e]; exact hst) (by simpa using hn) h62
  refine ⟨this.1, fun w g vs h1 h2 => (this.2 w g vs h1 h2).mono ?_⟩
  rintro e w' ⟨v, q, S, g', h3, ⟨r, hS, hp, hw⟩, h4⟩
  refine ⟨v, q, S, g', h3, ?_, h4⟩
  refine ⟨r.map (·.1), ?_, ?_, ?_⟩
  · rw [hS, List.map_map]; rfl
  · have := hp.map (·.1)
    rwa [List.map_map, show ((fun x : { x : Sn // SnB x } => x.1) ∘ fun x : { x // x ∈ l } => (⟨x.1, hl x.1 x.2⟩ : { x : Sn // SnB x })) = Subtype.val from rfl, List.attach_map_subtype_val] at this
  · rw [List.pairwise_map]
    exact hw.imp fun {a b} h => by omega
def cmpR (a b : Rt) : Int := cmpL [a.kind, a.table, a.col, a.lo] [b.kind, b.table, b.col, b.lo]
theorem rightsCmp_spec (a b : Rt) : PF Try.prog 50 [.agg a.cells, .agg b.cells] (PV.val (Value.int .i64 (cmpR a b))) := by
  have hc := compare_spec [a.kind, a.table, a.col, a.lo] [b.kind, b.table, b.col, b.lo] (by simp)
  refine pf_of tt_ok Try.func50 (by kernel_rfl) rfl rfl rfl rfl (fun st => ?_)
  (try (apply wO pk; exact rfl)); (repeat' (first | exact All.nil | refine All.cons ?_ ?_ | (apply wC pk; exact rfl; exact rfl) | (apply wE pk; exact rfl; exact rfl) | (apply wX pk; exact rfl) | (apply wN pk; exact rfl) | (apply wD pk [] []; kernel_rfl; exact rfl; exact rfl) | exact Imp.one | exact Imp.same | refine Imp.left ?_ | exact ImpX.one | exact ImpX.same | exact ImpX.mk | refine ImpX.up ?_ | refine ImpX.old ?_ | (apply pwp_condC; simp only [cond_true, cond_false]) | (refine pwp_cond rfl (fun h => ?_) (fun h => ?_) <;> (try simp at h) <;> (first | done | (exfalso; omega) | skip)) | (refine pwp_ret ?_; refine ⟨_, _, _, rfl, Wk.refl _, StSub.refl _, ?_, rfl⟩; (first | rfl | skip)) | (apply callS; exact rfl; exact rfl; exact rfl; (intro _; first | (apply hc <;> first | assumption | omega)); rotate_left; exact rfl; exact rfl) | (apply callV; exact rfl; exact rfl; exact rfl; (intro _; first | (apply hc <;> first | assumption | omega)); rotate_left; exact rfl; exact rfl) | (intros; omega) | (intros; simp only [List.length_map]; omega)))
def RtLt (a b : Rt) : Prop := a.kind < b.kind ∨ a.kind = b.kind ∧ (a.table < b.table ∨ a.table = b.table ∧ (a.col < b.col ∨ a.col = b.col ∧ a.lo < b.lo))
theorem cmpR_neg (a b : Rt) : cmpR a b < 0 ↔ RtLt a b := by
  unfold cmpR RtLt
  simp only [cmpL, cmpI]
  repeat' split
  all_goals omega
theorem sortR_pc (l : List Rt) {st : Store} {id n : Nat} (hst : st id = some (.arr 34 (l.map Rt.cells))) (hn : l.length = n) (h62 : n < 4611686018427387904) :
    PC Try.prog 49 [.vec id 6 0 n, .fn 50 []] st fun _ S => ∃ r : List Rt, S = upd st id (some (.arr 34 (r.map Rt.cells))) ∧ r.Perm l ∧ r.Pairwise fun x y => ¬ RtLt y x := by
  have := sortF_pc (P := Try.prog) layR (by kernel_rfl) (k := 6) Try.isAgg34 Try.sizeOf34 (enc := fun x : Rt => [.int .i64 x.kind, .int .i64 x.table, .int .i64 x.col, .int .i64 x.lo, .int .i64 x.hi, .int .i64 x.amt]) (fun _ => rfl) (fun x v hv => by simp only [List.mem_cons, List.not_mem_nil, or_false] at hv; rcases hv with rfl | rfl | rfl | rfl | rfl | rfl <;> rfl) (cmp := cmpR)
    ⟨fun x => by simp only [ltOf, decide_eq_false_iff_not, cmpR_neg]; unfold RtLt; omega, fun x y z h1 h2 => by simp only [ltOf, decide_eq_true_eq, cmpR_neg] at *; unfold RtLt at *; omega, fun x y z h1 h2 => by simp only [ltOf, decide_eq_false_iff_not, cmpR_neg] at *; unfold RtLt at *; omega⟩ (gf := 50) (by kernel_rfl) (fun x y => rightsCmp_spec x y) (st := st) (id := id) (n := n) (d := l) (e := 34) (by kernel_rfl) hst hn h62
  refine ⟨this.1, fun w g vs h1 h2 => (this.2 w g vs h1 h2).mono ?_⟩
  rintro e w' ⟨v, q, S, g', h3, ⟨r, hS, hp, hw⟩, h4⟩
  exact ⟨v, q, S, g', h3, ⟨r, hS, hp, hw.imp fun {a b} h => by rwa [cmpR_neg] at h⟩, h4⟩
end Go.Proofs.Ytbcdgocepnkpeaa
