import Derived.Test.YtghjdkbmjjalmaaProg
import Derived.Test.YtghjdkbmjjalmaaAbsMapW
import Derived.KernelRfl
namespace Go.Proofs.Ytghjdkbmjjalmaa
open Go Go.Abs
def tt : TT := [
  none,
  some ⟨1, false, [.nilFunc], .other, false⟩,
  some ⟨1, false, [.int .i64 0], .int .i64, true⟩,
  some ⟨1, false, [.int .i64 0], .int .i64, true⟩,
  some ⟨1, false, [.bool false], .bool, true⟩,
  some ⟨1, false, [.int .u8 0], .int .u8, true⟩,
  some ⟨1, false, [.int .u8 0], .int .u8, true⟩,
  some ⟨4, true, [.int .i64 0, .int .i64 0, .bool false, .int .u8 0], .struct [(2, 0), (3, 1), (4, 2), (6, 3)], true⟩,
  some ⟨4, true, [.int .i64 0, .int .i64 0, .bool false, .int .u8 0], .struct [(2, 0), (3, 1), (4, 2), (6, 3)], true⟩,
  some ⟨1, false, [.string ⟨#[]⟩], .str, true⟩,
  some ⟨1, false, [.string ⟨#[]⟩], .str, true⟩,
  some ⟨1, false, [.string ⟨#[]⟩], .str, true⟩,
  some ⟨1, false, [.int .u64 0], .int .u64, true⟩,
  some ⟨2, true, [.string ⟨#[]⟩, .int .u64 0], .struct [(9, 0), (12, 1)], false⟩,
  some ⟨2, true, [.string ⟨#[]⟩, .int .u64 0], .struct [(9, 0), (12, 1)], false⟩,
  some ⟨1, false, [.pointer none], .other, false⟩,
  some ⟨1, false, [.pointer none], .other, false⟩,
  some ⟨1, false, [.pointer none], .other, false⟩,
  some ⟨1, true, [.pointer none], .struct [(17, 0)], false⟩,
  some ⟨1, true, [.pointer none], .struct [(17, 0)], false⟩,
  some ⟨1, false, [.nilIface], .other, false⟩,
  some ⟨1, false, [.int .i32 0], .int .i32, true⟩,
  some ⟨3, true, [.int .i64 0, .int .i64 0, .string ⟨#[]⟩], .struct [(3, 0), (3, 1), (9, 2)], true⟩,
  some ⟨3, true, [.int .i64 0, .int .i64 0, .string ⟨#[]⟩], .struct [(3, 0), (3, 1), (9, 2)], true⟩,
  some ⟨1, false, [.slice none 0 0], .slice 26, false⟩,
  some ⟨6, true, [.int .i64 0, .int .i64 0, .int .i64 0, .int .i64 0, .string ⟨#[]⟩, .slice none 0 0], .struct [(3, 0), (3, 1), (23, 2), (24, 5)], false⟩,
  some ⟨6, true, [.int .i64 0, .int .i64 0, .int .i64 0, .int .i64 0, .string ⟨#[]⟩, .slice none 0 0], .struct [(3, 0), (3, 1), (23, 2), (24, 5)], false⟩,
  some ⟨1, false, [.slice none 0 0], .slice 3, false⟩,
  some ⟨1, false, [.slice none 0 0], .slice 23, false⟩,
  some ⟨1, false, [.slice none 0 0], .slice 23, false⟩,
  some ⟨1, false, [.nilFunc], .other, false⟩,
  some ⟨1, false, [.nilFunc], .other, false⟩,
  some ⟨1, false, [.int .i64 0], .int .i64, true⟩,
  none,
  some ⟨1, false, [.nilFunc], .other, false⟩,
  some ⟨1, false, [.nilFunc], .other, false⟩,
  none,
  some ⟨1, false, [.nilFunc], .other, false⟩,
  some ⟨1, false, [.nilFunc], .other, false⟩,
  some ⟨1, false, [.nilFunc], .other, false⟩,
  some ⟨1, false, [.nilFunc], .other, false⟩,
  none,
  some ⟨1, false, [.nilFunc], .other, false⟩,
  some ⟨1, false, [.nilFunc], .other, false⟩,
  some ⟨1, false, [.slice none 0 0], .slice 46, false⟩,
  some ⟨4, true, [.string ⟨#[]⟩, .int .i64 0, .int .i64 0, .bool false], .struct [(9, 0), (3, 1), (3, 2), (4, 3)], true⟩,
  some ⟨4, true, [.string ⟨#[]⟩, .int .i64 0, .int .i64 0, .bool false], .struct [(9, 0), (3, 1), (3, 2), (4, 3)], true⟩,
  some ⟨1, false, [.nilFunc], .other, false⟩,
  some ⟨1, false, [.nilFunc], .other, false⟩,
  some ⟨1, false, [.nilFunc], .other, false⟩,
  some ⟨1, false, [.nilFunc], .other, false⟩,
  some ⟨1, false, [.nilFunc], .other, false⟩,
  some ⟨1, false, [.nilFunc], .other, false⟩,
  some ⟨1, false, [.nilFunc], .other, false⟩,
  some ⟨1, false, [.nilFunc], .other, false⟩,
  some ⟨1, false, [.nilFunc], .other, false⟩,
  some ⟨1, false, [.nilFunc], .other, false⟩,
  some ⟨1, false, [.nilFunc], .other, false⟩,
  some ⟨3, true, [.int .i64 0, .bool false, .nilFunc], .struct [(3, 0), (4, 1), (57, 2)], false⟩,
  some ⟨3, true, [.int .i64 0, .bool false, .nilFunc], .struct [(3, 0), (4, 1), (57, 2)], false⟩,
  some ⟨1, false, [.map none], .map 3 59, false⟩,
  some ⟨1, false, [.nilFunc], .other, false⟩,
  some ⟨6, true, [.int .i64 0, .int .i64 0, .string ⟨#[]⟩, .int .i64 0, .int .i64 0, .string ⟨#[]⟩], .arr 2 23, true⟩,
  some ⟨1, false, [.nilFunc], .other, false⟩,
  some ⟨1, false, [.nilFunc], .other, false⟩,
  none,
  some ⟨1, false, [.nilFunc], .other, false⟩,
  some ⟨1, false, [.nilFunc], .other, false⟩,
  some ⟨1, false, [.nilFunc], .other, false⟩,
  some ⟨1, false, [.nilFunc], .other, false⟩,
  some ⟨1, false, [.nilFunc], .other, false⟩,
  some ⟨1, false, [.nilFunc], .other, false⟩,
  some ⟨1, false, [.nilFunc], .other, false⟩,
  some ⟨1, false, [.nilFunc], .other, false⟩,
  some ⟨1, false, [.nilFunc], .other, false⟩,
  some ⟨4, true, [.pointer none, .pointer none, .pointer none, .string ⟨#[]⟩], .struct [(17, 0), (17, 1), (17, 2), (9, 3)], false⟩,
  some ⟨4, true, [.pointer none, .pointer none, .pointer none, .string ⟨#[]⟩], .struct [(17, 0), (17, 1), (17, 2), (9, 3)], false⟩,
  some ⟨0, true, [], .arr 0 16, false⟩,
  some ⟨0, true, [], .struct [(77, 0)], false⟩,
  some ⟨0, true, [], .struct [(77, 0)], false⟩,
  some ⟨1, false, [.nilFunc], .other, false⟩,
  some ⟨1, false, [.int .u32 0], .int .u32, true⟩,
  some ⟨1, false, [.int .u8 0], .int .u8, true⟩,
  some ⟨1, false, [.int .u8 0], .int .u8, true⟩,
  some ⟨1, false, [.nilFunc], .other, false⟩,
  some ⟨1, false, [.pointer none], .other, false⟩,
  some ⟨1, false, [.int .i32 0], .int .i32, true⟩,
  some ⟨1, false, [.int .i32 0], .int .i32, true⟩,
  some ⟨11, true, [.int .u64 0, .int .u64 0, .int .u32 0, .int .u8 0, .int .u8 0, .int .u8 0, .int .u8 0, .nilFunc, .pointer none, .int .i32 0, .int .i32 0], .struct [(12, 0), (12, 1), (81, 2), (82, 3), (5, 4), (5, 5), (83, 6), (84, 7), (85, 8), (86, 9), (87, 10)], false⟩,
  some ⟨11, true, [.int .u64 0, .int .u64 0, .int .u32 0, .int .u8 0, .int .u8 0, .int .u8 0, .int .u8 0, .nilFunc, .pointer none, .int .i32 0, .int .i32 0], .struct [(12, 0), (12, 1), (81, 2), (82, 3), (5, 4), (5, 5), (83, 6), (84, 7), (85, 8), (86, 9), (87, 10)], false⟩,
  some ⟨1, false, [.pointer none], .other, false⟩]

theorem tt_ok : TTOK Try.prog tt := ttok_of (by kernel_rfl)

/-- A value. -/
structure Vl where
  k : Int
  n : Int
  s : ByteArray
abbrev e0 : ByteArray := ⟨#[]⟩
def Vl.cells (v : Vl) : List PV := [(PV.val (Value.int .i64 (v.k))), (PV.val (Value.int .i64 (v.n))), (PV.val (Value.string (v.s)))]
/-- An expression. -/
inductive Ex where
  | mk (k n : Int) (v : Vl) (of : List Ex)
def Ex.k : Ex → Int | .mk k _ _ _ => k
def Ex.n : Ex → Int | .mk _ n _ _ => n
def Ex.v : Ex → Vl | .mk _ _ v _ => v
def Ex.of : Ex → List Ex | .mk _ _ _ o => o
mutual
def Ex.cells : Ex → List PV
  | .mk k n v o => [(PV.val (Value.int .i64 (k))), (PV.val (Value.int .i64 (n))), (PV.val (Value.int .i64 (v.k))), (PV.val (Value.int .i64 (v.n))), (PV.val (Value.string (v.s))), .seq (Ex.rows o)]
def Ex.rows : List Ex → List (List PV)
  | [] => []
  | e :: es => e.cells :: Ex.rows es
end
def Ex.pv (e : Ex) : PV := .agg e.cells
theorem Ex.rows_len : ∀ (l : List Ex), (Ex.rows l).length = l.length
  | [] => rfl
  | e :: es => by simp [Ex.rows, Ex.rows_len es]
theorem Ex.rows_get : ∀ {l : List Ex} {i : Nat} {x : Ex}, l[i]? = some x → (Ex.rows l)[i]? = some x.cells
  | [], _, _, h => by simp at h
  | e :: es, 0, x, h => by simp at h; simp [Ex.rows, h]
  | e :: es, i + 1, x, h => by simp at h; simpa [Ex.rows] using Ex.rows_get h
theorem Ex.cells_len : ∀ (x : Ex), x.cells.length = 6
  | .mk _ _ _ _ => by simp [Ex.cells]
mutual
def Ex.ok : Ex → Prop
  | .mk _ _ _ o => o.length < 2 ^ 62 ∧ Ex.oks o
def Ex.oks : List Ex → Prop
  | [] => True
  | e :: es => e.ok ∧ Ex.oks es
end
mutual
theorem Ex.ok_of : ∀ (e : Ex), lensL e.cells → e.ok
  | .mk k n v o, h => by
    simp only [Ex.cells, lensL, lens, Ex.rows_len] at h
    simp only [Ex.ok]
    exact ⟨h.2.2.2.2.2.1.1, Ex.oks_of o h.2.2.2.2.2.1.2⟩
theorem Ex.oks_of : ∀ (l : List Ex), lensR (Ex.rows l) → Ex.oks l
  | [], _ => by simp [Ex.oks]
  | e :: es, h => by
    simp only [Ex.rows, lensR] at h
    simp only [Ex.oks]
    exact ⟨Ex.ok_of e h.1, Ex.oks_of es h.2⟩
end
theorem Ex.oks_mem : ∀ {l : List Ex} {x : Ex}, Ex.oks l → x ∈ l → x.ok
  | [], _, _, hx => by cases hx
  | e :: es, x, h, hx => by
    simp only [Ex.oks] at h
    rcases List.mem_cons.1 hx with rfl | hx
    · exact h.1
    · exact Ex.oks_mem h.2 hx
/-- Slices of numbers, and of values. -/
def irows (l : List Int) : List (List PV) := l.map fun n => [(PV.val (Value.int .i64 (n)))]
def vrows (l : List Vl) : List (List PV) := l.map Vl.cells
theorem irows_get {l : List Int} {i : Nat} {x : Int} (h : l[i]? = some x) : (irows l)[i]? = some [(PV.val (Value.int .i64 (x)))] := by simp [irows, h]
theorem vrows_get {l : List Vl} {i : Nat} {x : Vl} (h : l[i]? = some x) : (vrows l)[i]? = some [(PV.val (Value.int .i64 (x.k))), (PV.val (Value.int .i64 (x.n))), (PV.val (Value.string (x.s)))] := by simp [vrows, h, Vl.cells]
theorem irows_len (l : List Int) : (irows l).length = l.length := by simp [irows]
theorem vrows_len (l : List Vl) : (vrows l).length = l.length := by simp [vrows]
theorem irows_one (l : List Int) : ∀ r ∈ irows l, r.length = 1 := by
  intro r hr
  obtain ⟨x, _, rfl⟩ := List.mem_map.1 hr
  rfl
theorem irows_flat (l : List Int) : ∀ r ∈ irows l, r.all PV.one = true := by
  intro r hr
  obtain ⟨x, _, rfl⟩ := List.mem_map.1 hr
  rfl
theorem get_of_lt {α : Type} {l : List α} {i : Nat} (h : i < l.length) : ∃ x, l[i]? = some x := ⟨l[i], by simp [h]⟩
end Go.Proofs.Ytghjdkbmjjalmaa
