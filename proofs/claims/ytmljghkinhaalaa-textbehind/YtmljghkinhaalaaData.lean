import Derived.Test.YtmljghkinhaalaaProg
import Derived.Test.YtmljghkinhaalaaAbsE
set_option linter.unusedSimpArgs false
set_option linter.unusedVariables false
namespace Go.Proofs.Ytmljghkinhaalaa
open Go Go.Abs
def tt : TT := [
  none,
  some ⟨1, false, [.nilFunc], .other, false⟩,
  some ⟨1, false, [.int .i64 0], .int .i64, true⟩,
  some ⟨1, false, [.int .i64 0], .int .i64, true⟩,
  some ⟨1, false, [.bool false], .bool, true⟩,
  some ⟨1, false, [.int .u8 0], .int .u8, true⟩,
  some ⟨1, false, [.int .u8 0], .int .u8, true⟩,
  some ⟨4, true, [.int .i64 0, .int .i64 0, .bool false, .int .u8 0], .struct [(2, 0), (3, 1), (4, 2), (6, 3)], true⟩,
  some ⟨4, true, [.int .i64 0, .int .i64 0, .bool false, .int .u8 0], .struct [(2, 0), (3, 1), (4, 2), (6, 3)], true⟩,
  some ⟨1, false, [.string ⟨#[]⟩], .str, true⟩,
  some ⟨1, false, [.string ⟨#[]⟩], .str, true⟩,
  some ⟨1, false, [.string ⟨#[]⟩], .str, true⟩,
  some ⟨1, false, [.int .u64 0], .int .u64, true⟩,
  some ⟨2, true, [.string ⟨#[]⟩, .int .u64 0], .struct [(9, 0), (12, 1)], false⟩,
  some ⟨2, true, [.string ⟨#[]⟩, .int .u64 0], .struct [(9, 0), (12, 1)], false⟩,
  some ⟨1, false, [.pointer none], .other, false⟩,
  some ⟨1, false, [.pointer none], .other, false⟩,
  some ⟨1, false, [.pointer none], .other, false⟩,
  some ⟨1, true, [.pointer none], .struct [(17, 0)], false⟩,
  some ⟨1, true, [.pointer none], .struct [(17, 0)], false⟩,
  some ⟨1, false, [.nilIface], .other, false⟩,
  some ⟨1, false, [.int .i32 0], .int .i32, true⟩,
  some ⟨3, true, [.int .i64 0, .int .i64 0, .string ⟨#[]⟩], .struct [(3, 0), (3, 1), (9, 2)], true⟩,
  some ⟨3, true, [.int .i64 0, .int .i64 0, .string ⟨#[]⟩], .struct [(3, 0), (3, 1), (9, 2)], true⟩,
  some ⟨1, false, [.slice none 0 0], .slice 39, false⟩,
  some ⟨5, true, [.int .i64 0, .int .i64 0, .int .i64 0, .string ⟨#[]⟩, .slice none 0 0], .struct [(3, 0), (23, 1), (24, 4)], false⟩,
  some ⟨5, true, [.int .i64 0, .int .i64 0, .int .i64 0, .string ⟨#[]⟩, .slice none 0 0], .struct [(3, 0), (23, 1), (24, 4)], false⟩,
  some ⟨1, false, [.nilFunc], .other, false⟩,
  some ⟨1, false, [.nilFunc], .other, false⟩,
  some ⟨1, false, [.int .i64 0], .int .i64, true⟩,
  some ⟨1, false, [.nilFunc], .other, false⟩,
  some ⟨1, false, [.nilFunc], .other, false⟩,
  some ⟨1, false, [.nilFunc], .other, false⟩,
  some ⟨1, false, [.nilFunc], .other, false⟩,
  some ⟨1, false, [.nilFunc], .other, false⟩,
  some ⟨1, false, [.nilFunc], .other, false⟩,
  some ⟨2, true, [.int .i64 0, .int .i64 0], .struct [(3, 0), (3, 1)], true⟩,
  some ⟨2, true, [.int .i64 0, .int .i64 0], .struct [(3, 0), (3, 1)], true⟩,
  some ⟨11, true, [.int .i64 0, .int .i64 0, .string ⟨#[]⟩, .int .i64 0, .int .i64 0, .int .i64 0, .int .i64 0, .int .i64 0, .int .i64 0, .int .i64 0, .bool false], .struct [(23, 0), (37, 3), (3, 5), (3, 6), (37, 7), (3, 9), (4, 10)], true⟩,
  some ⟨11, true, [.int .i64 0, .int .i64 0, .string ⟨#[]⟩, .int .i64 0, .int .i64 0, .int .i64 0, .int .i64 0, .int .i64 0, .int .i64 0, .int .i64 0, .bool false], .struct [(23, 0), (37, 3), (3, 5), (3, 6), (37, 7), (3, 9), (4, 10)], true⟩,
  some ⟨1, false, [.nilFunc], .other, false⟩,
  some ⟨3, true, [.int .i64 0, .int .i64 0, .int .i64 0], .struct [(3, 0), (3, 1), (3, 2)], true⟩,
  some ⟨3, true, [.int .i64 0, .int .i64 0, .int .i64 0], .struct [(3, 0), (3, 1), (3, 2)], true⟩,
  some ⟨1, false, [.slice none 0 0], .slice 9, false⟩,
  some ⟨1, false, [.nilFunc], .other, false⟩,
  some ⟨1, false, [.nilFunc], .other, false⟩,
  some ⟨1, false, [.nilFunc], .other, false⟩,
  none,
  some ⟨1, false, [.nilFunc], .other, false⟩,
  some ⟨1, false, [.nilFunc], .other, false⟩,
  some ⟨1, false, [.nilFunc], .other, false⟩,
  some ⟨1, false, [.nilFunc], .other, false⟩,
  some ⟨1, false, [.map none], .map 58 39, false⟩,
  none,
  some ⟨1, false, [.nilFunc], .other, false⟩,
  some ⟨1, false, [.slice none 0 0], .slice 5, false⟩,
  some ⟨1, false, [.map none], .map 58 24, false⟩,
  some ⟨3, true, [.int .i64 0, .int .i64 0, .int .i64 0], .struct [(37, 0), (3, 2)], true⟩,
  some ⟨3, true, [.int .i64 0, .int .i64 0, .int .i64 0], .struct [(37, 0), (3, 2)], true⟩,
  some ⟨1, false, [.nilFunc], .other, false⟩,
  some ⟨1, false, [.nilFunc], .other, false⟩,
  some ⟨1, false, [.nilFunc], .other, false⟩,
  some ⟨1, false, [.nilFunc], .other, false⟩,
  some ⟨1, false, [.nilFunc], .other, false⟩,
  some ⟨1, false, [.nilFunc], .other, false⟩,
  some ⟨1, false, [.nilFunc], .other, false⟩,
  some ⟨1, false, [.map none], .map 37 3, false⟩,
  none,
  none,
  some ⟨1, false, [.nilFunc], .other, false⟩,
  some ⟨1, false, [.nilFunc], .other, false⟩,
  some ⟨1, false, [.nilFunc], .other, false⟩,
  some ⟨1, false, [.nilFunc], .other, false⟩,
  some ⟨1, false, [.nilFunc], .other, false⟩,
  some ⟨1, false, [.nilFunc], .other, false⟩,
  some ⟨1, false, [.nilFunc], .other, false⟩,
  some ⟨1, false, [.int .u64 0], .int .u64, true⟩,
  some ⟨1, false, [.nilFunc], .other, false⟩,
  some ⟨1, false, [.nilFunc], .other, false⟩,
  some ⟨1, false, [.nilFunc], .other, false⟩,
  some ⟨1, false, [.nilFunc], .other, false⟩,
  some ⟨1, false, [.nilFunc], .other, false⟩,
  some ⟨1, false, [.nilFunc], .other, false⟩,
  some ⟨1, false, [.nilFunc], .other, false⟩,
  some ⟨1, false, [.int .i64 0], .int .i64, true⟩,
  none,
  some ⟨1, false, [.nilFunc], .other, false⟩,
  some ⟨1, false, [.nilFunc], .other, false⟩,
  some ⟨1, false, [.nilFunc], .other, false⟩,
  some ⟨1, false, [.nilFunc], .other, false⟩,
  some ⟨1, false, [.nilFunc], .other, false⟩,
  some ⟨1, false, [.int .u32 0], .int .u32, true⟩,
  some ⟨1, false, [.nilFunc], .other, false⟩,
  some ⟨1, false, [.int .u64 0], .int .u64, true⟩,
  some ⟨1, false, [.nilFunc], .other, false⟩,
  some ⟨1, false, [.int .u64 0], .int .u64, true⟩,
  some ⟨1, false, [.nilFunc], .other, false⟩,
  some ⟨1, false, [.nilFunc], .other, false⟩,
  some ⟨1, false, [.nilFunc], .other, false⟩,
  some ⟨1, false, [.pointer none], .other, false⟩,
  some ⟨1, false, [.nilFunc], .other, false⟩,
  some ⟨3, true, [.int .i64 0, .int .i64 0, .int .i64 0], .arr 3 3, true⟩,
  some ⟨1, false, [.nilFunc], .other, false⟩,
  some ⟨1, false, [.nilFunc], .other, false⟩,
  some ⟨1, false, [.slice none 0 0], .slice 3, false⟩,
  some ⟨1, false, [.pointer none], .other, false⟩,
  none,
  some ⟨1, false, [.nilFunc], .other, false⟩,
  some ⟨1, false, [.nilFunc], .other, false⟩,
  some ⟨1, false, [.nilFunc], .other, false⟩,
  some ⟨1, false, [.nilFunc], .other, false⟩,
  some ⟨4, true, [.pointer none, .pointer none, .pointer none, .string ⟨#[]⟩], .struct [(17, 0), (17, 1), (17, 2), (9, 3)], false⟩,
  some ⟨4, true, [.pointer none, .pointer none, .pointer none, .string ⟨#[]⟩], .struct [(17, 0), (17, 1), (17, 2), (9, 3)], false⟩,
  some ⟨0, true, [], .arr 0 16, false⟩,
  some ⟨0, true, [], .struct [(113, 0)], false⟩,
  some ⟨0, true, [], .struct [(113, 0)], false⟩,
  some ⟨1, false, [.nilFunc], .other, false⟩,
  some ⟨1, false, [.int .u8 0], .int .u8, true⟩,
  some ⟨1, false, [.int .u8 0], .int .u8, true⟩,
  some ⟨1, false, [.nilFunc], .other, false⟩,
  some ⟨1, false, [.pointer none], .other, false⟩,
  some ⟨1, false, [.int .i32 0], .int .i32, true⟩,
  some ⟨1, false, [.int .i32 0], .int .i32, true⟩,
  some ⟨11, true, [.int .u64 0, .int .u64 0, .int .u32 0, .int .u8 0, .int .u8 0, .int .u8 0, .int .u8 0, .nilFunc, .pointer none, .int .i32 0, .int .i32 0], .struct [(12, 0), (12, 1), (91, 2), (117, 3), (5, 4), (5, 5), (118, 6), (119, 7), (120, 8), (121, 9), (122, 10)], false⟩,
  some ⟨11, true, [.int .u64 0, .int .u64 0, .int .u32 0, .int .u8 0, .int .u8 0, .int .u8 0, .int .u8 0, .nilFunc, .pointer none, .int .i32 0, .int .i32 0], .struct [(12, 0), (12, 1), (91, 2), (117, 3), (5, 4), (5, 5), (118, 6), (119, 7), (120, 8), (121, 9), (122, 10)], false⟩,
  some ⟨1, false, [.pointer none], .other, false⟩]

theorem tt_ok : TTOK Try.prog tt := ttok_of (by kernel_rfl)
theorem pk : Pk Try.prog tt := ⟨rfl, tt_ok⟩
abbrev e0 : ByteArray := ⟨#[]⟩
def I1 (n : Int) : List PV := [.val (.int .i64 n)]
def S1 (s : ByteArray) : List PV := [.val (.string s)]
theorem I1.elem : Elem tt 3 I1 (fun a => .val (.int .i64 a)) 1 := ⟨rfl, fun _ => rfl, fun _ => rfl, fun _ => rfl, fun _ => rfl⟩
end Go.Proofs.Ytmljghkinhaalaa
namespace Go.Proofs.Ytmljghkinhaalaa
open Go Go.Abs
structure Dt where
  dev : Int
  seq : Int
  deriving DecidableEq, Inhabited
def Dt.cells (a : Dt) : List PV := [.val (.int .i64 (a.dev)), .val (.int .i64 (a.seq))]
def Dt.zero : Dt := ⟨0, 0⟩
theorem Dt.ext_iff (a b : Dt) : a = b ↔ a.dev = b.dev ∧ a.seq = b.seq := by cases a; cases b; simp
theorem Dt.eta (a : Dt) : Dt.mk a.dev a.seq = a := rfl
theorem Dt.eqb (a b : Dt) : (decide (a.dev = b.dev) && (decide (a.seq = b.seq))) = decide (a = b) := by rw [Bool.eq_iff_iff]; simp [Dt.ext_iff]
theorem Dt.eqp (a b : Dt) : (a.dev = b.dev ∧ a.seq = b.seq) ↔ a = b := (Dt.ext_iff a b).symm
theorem Dt.eqz (a : Dt) : (decide (a.dev = 0) && (decide (a.seq = 0))) = decide (a = Dt.zero) := by rw [Bool.eq_iff_iff]; simp [Dt.ext_iff, Dt.zero]
theorem Dt.elem : Elem tt 37 Dt.cells (fun a => .agg a.cells) 2 := ⟨rfl, fun _ => rfl, fun _ => rfl, fun _ => rfl, fun _ => rfl⟩
structure Vl where
  kind : Int
  n : Int
  s : ByteArray
  deriving DecidableEq, Inhabited
def Vl.cells (a : Vl) : List PV := [.val (.int .i64 (a.kind)), .val (.int .i64 (a.n)), .val (.string (a.s))]
def Vl.zero : Vl := ⟨0, 0, e0⟩
theorem Vl.ext_iff (a b : Vl) : a = b ↔ a.kind = b.kind ∧ a.n = b.n ∧ a.s = b.s := by cases a; cases b; simp
theorem Vl.eta (a : Vl) : Vl.mk a.kind a.n a.s = a := rfl
theorem Vl.eqb (a b : Vl) : (decide (a.kind = b.kind) && (decide (a.n = b.n) && (decide (a.s = b.s)))) = decide (a = b) := by rw [Bool.eq_iff_iff]; simp [Vl.ext_iff]
theorem Vl.eqp (a b : Vl) : (a.kind = b.kind ∧ a.n = b.n ∧ a.s = b.s) ↔ a = b := (Vl.ext_iff a b).symm
theorem Vl.eqz (a : Vl) : (decide (a.kind = 0) && (decide (a.n = 0) && (decide (a.s = e0)))) = decide (a = Vl.zero) := by rw [Bool.eq_iff_iff]; simp [Vl.ext_iff, Vl.zero]
theorem Vl.elem : Elem tt 23 Vl.cells (fun a => .agg a.cells) 3 := ⟨rfl, fun _ => rfl, fun _ => rfl, fun _ => rfl, fun _ => rfl⟩
structure Sp where
  time : Int
  dev : Int
  seq : Int
  deriving DecidableEq, Inhabited
def Sp.cells (a : Sp) : List PV := [.val (.int .i64 (a.time)), .val (.int .i64 (a.dev)), .val (.int .i64 (a.seq))]
def Sp.zero : Sp := ⟨0, 0, 0⟩
theorem Sp.ext_iff (a b : Sp) : a = b ↔ a.time = b.time ∧ a.dev = b.dev ∧ a.seq = b.seq := by cases a; cases b; simp
theorem Sp.eta (a : Sp) : Sp.mk a.time a.dev a.seq = a := rfl
theorem Sp.eqb (a b : Sp) : (decide (a.time = b.time) && (decide (a.dev = b.dev) && (decide (a.seq = b.seq)))) = decide (a = b) := by rw [Bool.eq_iff_iff]; simp [Sp.ext_iff]
theorem Sp.eqp (a b : Sp) : (a.time = b.time ∧ a.dev = b.dev ∧ a.seq = b.seq) ↔ a = b := (Sp.ext_iff a b).symm
theorem Sp.eqz (a : Sp) : (decide (a.time = 0) && (decide (a.dev = 0) && (decide (a.seq = 0)))) = decide (a = Sp.zero) := by rw [Bool.eq_iff_iff]; simp [Sp.ext_iff, Sp.zero]
theorem Sp.elem : Elem tt 42 Sp.cells (fun a => .agg a.cells) 3 := ⟨rfl, fun _ => rfl, fun _ => rfl, fun _ => rfl, fun _ => rfl⟩
structure Pt where
  val : Vl
  dot : Dt
  at_ : Int
  time : Int
  after : Dt
  afterAt : Int
  gone : Bool
  deriving DecidableEq, Inhabited
def Pt.cells (a : Pt) : List PV := [.val (.int .i64 (a.val.kind)), .val (.int .i64 (a.val.n)), .val (.string (a.val.s)), .val (.int .i64 (a.dot.dev)), .val (.int .i64 (a.dot.seq)), .val (.int .i64 (a.at_)), .val (.int .i64 (a.time)), .val (.int .i64 (a.after.dev)), .val (.int .i64 (a.after.seq)), .val (.int .i64 (a.afterAt)), .val (.bool (a.gone))]
def Pt.zero : Pt := ⟨Vl.zero, Dt.zero, 0, 0, Dt.zero, 0, false⟩
theorem Pt.ext_iff (a b : Pt) : a = b ↔ a.val = b.val ∧ a.dot = b.dot ∧ a.at_ = b.at_ ∧ a.time = b.time ∧ a.after = b.after ∧ a.afterAt = b.afterAt ∧ a.gone = b.gone := by cases a; cases b; simp
theorem Pt.eta (a : Pt) : Pt.mk a.val a.dot a.at_ a.time a.after a.afterAt a.gone = a := rfl
theorem Pt.eqb (a b : Pt) : (decide (a.val = b.val) && (decide (a.dot = b.dot) && (decide (a.at_ = b.at_) && (decide (a.time = b.time) && (decide (a.after = b.after) && (decide (a.afterAt = b.afterAt) && ((a.gone == b.gone)))))))) = decide (a = b) := by rw [Bool.eq_iff_iff]; simp [Pt.ext_iff]
theorem Pt.eqp (a b : Pt) : (a.val = b.val ∧ a.dot = b.dot ∧ a.at_ = b.at_ ∧ a.time = b.time ∧ a.after = b.after ∧ a.afterAt = b.afterAt ∧ a.gone = b.gone) ↔ a = b := (Pt.ext_iff a b).symm
theorem Pt.elem : Elem tt 39 Pt.cells (fun a => .agg a.cells) 11 := ⟨rfl, fun _ => rfl, fun _ => rfl, fun _ => rfl, fun _ => rfl⟩
structure Cl where
  kind : Int
  val : Vl
  parts : List Pt
  deriving DecidableEq, Inhabited
def Cl.cells (a : Cl) : List PV := [.val (.int .i64 (a.kind)), .val (.int .i64 (a.val.kind)), .val (.int .i64 (a.val.n)), .val (.string (a.val.s)), .seq ((a.parts).map Pt.cells)]
def Cl.zero : Cl := ⟨0, Vl.zero, []⟩
theorem Cl.ext_iff (a b : Cl) : a = b ↔ a.kind = b.kind ∧ a.val = b.val ∧ a.parts = b.parts := by cases a; cases b; simp
theorem Cl.eta (a : Cl) : Cl.mk a.kind a.val a.parts = a := rfl
theorem Cl.elem : Elem tt 26 Cl.cells (fun a => .agg a.cells) 5 := ⟨rfl, fun _ => rfl, fun _ => rfl, fun _ => rfl, fun _ => rfl⟩
structure Nm where
  dot : Dt
  at_ : Int
  deriving DecidableEq, Inhabited
def Nm.cells (a : Nm) : List PV := [.val (.int .i64 (a.dot.dev)), .val (.int .i64 (a.dot.seq)), .val (.int .i64 (a.at_))]
def Nm.zero : Nm := ⟨Dt.zero, 0⟩
theorem Nm.ext_iff (a b : Nm) : a = b ↔ a.dot = b.dot ∧ a.at_ = b.at_ := by cases a; cases b; simp
theorem Nm.eta (a : Nm) : Nm.mk a.dot a.at_ = a := rfl
theorem Nm.eqb (a b : Nm) : (decide (a.dot = b.dot) && (decide (a.at_ = b.at_))) = decide (a = b) := by rw [Bool.eq_iff_iff]; simp [Nm.ext_iff]
theorem Nm.eqp (a b : Nm) : (a.dot = b.dot ∧ a.at_ = b.at_) ↔ a = b := (Nm.ext_iff a b).symm
theorem Nm.eqz (a : Nm) : (decide (a.dot = Dt.zero) && (decide (a.at_ = 0))) = decide (a = Nm.zero) := by rw [Bool.eq_iff_iff]; simp [Nm.ext_iff, Nm.zero]
theorem Nm.elem : Elem tt 58 Nm.cells (fun a => .agg a.cells) 3 := ⟨rfl, fun _ => rfl, fun _ => rfl, fun _ => rfl, fun _ => rfl⟩

end Go.Proofs.Ytmljghkinhaalaa
