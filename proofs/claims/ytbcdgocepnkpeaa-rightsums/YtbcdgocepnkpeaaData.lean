import Derived.Test.YtbcdgocepnkpeaaProg
import Derived.Test.YtbcdgocepnkpeaaAbsE
set_option linter.unusedSimpArgs false
set_option linter.unusedVariables false
namespace Go.Proofs.Ytbcdgocepnkpeaa
open Go Go.Abs
def tt : TT := [
  none,
  some ⟨1, false, [.nilFunc], .other, false⟩,
  some ⟨1, false, [.int .i64 0], .int .i64, true⟩,
  some ⟨1, false, [.int .i64 0], .int .i64, true⟩,
  some ⟨1, false, [.bool false], .bool, true⟩,
  some ⟨1, false, [.int .u8 0], .int .u8, true⟩,
  some ⟨1, false, [.int .u8 0], .int .u8, true⟩,
  some ⟨4, true, [.int .i64 0, .int .i64 0, .bool false, .int .u8 0], .struct [(2, 0), (3, 1), (4, 2), (6, 3)], true⟩,
  some ⟨4, true, [.int .i64 0, .int .i64 0, .bool false, .int .u8 0], .struct [(2, 0), (3, 1), (4, 2), (6, 3)], true⟩,
  some ⟨1, false, [.string ⟨#[]⟩], .str, true⟩,
  some ⟨1, false, [.string ⟨#[]⟩], .str, true⟩,
  some ⟨1, false, [.string ⟨#[]⟩], .str, true⟩,
  some ⟨1, false, [.int .u64 0], .int .u64, true⟩,
  some ⟨2, true, [.string ⟨#[]⟩, .int .u64 0], .struct [(9, 0), (12, 1)], false⟩,
  some ⟨2, true, [.string ⟨#[]⟩, .int .u64 0], .struct [(9, 0), (12, 1)], false⟩,
  some ⟨1, false, [.pointer none], .other, false⟩,
  some ⟨1, false, [.pointer none], .other, false⟩,
  some ⟨1, false, [.pointer none], .other, false⟩,
  some ⟨1, true, [.pointer none], .struct [(17, 0)], false⟩,
  some ⟨1, true, [.pointer none], .struct [(17, 0)], false⟩,
  some ⟨1, false, [.nilIface], .other, false⟩,
  some ⟨1, false, [.int .i32 0], .int .i32, true⟩,
  some ⟨1, false, [.slice none 0 0], .slice 65, false⟩,
  some ⟨1, false, [.int .u32 0], .int .u32, true⟩,
  some ⟨1, false, [.nilFunc], .other, false⟩,
  some ⟨1, false, [.slice none 0 0], .slice 63, false⟩,
  some ⟨1, true, [.slice none 0 0], .struct [(25, 0)], false⟩,
  some ⟨1, true, [.slice none 0 0], .struct [(25, 0)], false⟩,
  some ⟨1, false, [.nilFunc], .other, false⟩,
  some ⟨1, false, [.slice none 0 0], .slice 52, false⟩,
  none,
  some ⟨1, false, [.nilFunc], .other, false⟩,
  some ⟨1, false, [.nilFunc], .other, false⟩,
  some ⟨6, true, [.int .i64 0, .int .i64 0, .int .i64 0, .int .i64 0, .int .i64 0, .int .i64 0], .struct [(3, 0), (3, 1), (3, 2), (3, 3), (3, 4), (3, 5)], true⟩,
  some ⟨6, true, [.int .i64 0, .int .i64 0, .int .i64 0, .int .i64 0, .int .i64 0, .int .i64 0], .struct [(3, 0), (3, 1), (3, 2), (3, 3), (3, 4), (3, 5)], true⟩,
  some ⟨1, false, [.nilFunc], .other, false⟩,
  some ⟨1, false, [.nilFunc], .other, false⟩,
  some ⟨1, false, [.nilFunc], .other, false⟩,
  some ⟨1, false, [.nilFunc], .other, false⟩,
  some ⟨1, false, [.nilFunc], .other, false⟩,
  some ⟨1, false, [.int .i64 0], .int .i64, true⟩,
  none,
  some ⟨1, false, [.nilFunc], .other, false⟩,
  some ⟨1, false, [.nilFunc], .other, false⟩,
  some ⟨1, false, [.nilFunc], .other, false⟩,
  some ⟨1, false, [.nilFunc], .other, false⟩,
  some ⟨1, false, [.nilFunc], .other, false⟩,
  some ⟨1, false, [.nilFunc], .other, false⟩,
  some ⟨1, false, [.nilFunc], .other, false⟩,
  some ⟨1, false, [.nilFunc], .other, false⟩,
  some ⟨1, false, [.slice none 0 0], .slice 34, false⟩,
  some ⟨2, true, [.int .i64 0, .slice none 0 0], .struct [(3, 0), (50, 1)], false⟩,
  some ⟨2, true, [.int .i64 0, .slice none 0 0], .struct [(3, 0), (50, 1)], false⟩,
  some ⟨4, true, [.string ⟨#[]⟩, .int .i64 0, .int .i64 0, .bool false], .struct [(9, 0), (3, 1), (3, 2), (4, 3)], true⟩,
  some ⟨4, true, [.string ⟨#[]⟩, .int .i64 0, .int .i64 0, .bool false], .struct [(9, 0), (3, 1), (3, 2), (4, 3)], true⟩,
  some ⟨1, false, [.slice none 0 0], .slice 54, false⟩,
  some ⟨1, false, [.slice none 0 0], .slice 3, false⟩,
  some ⟨3, true, [.int .i64 0, .int .i64 0, .int .i64 0], .struct [(3, 0), (3, 1), (3, 2)], true⟩,
  some ⟨3, true, [.int .i64 0, .int .i64 0, .int .i64 0], .struct [(3, 0), (3, 1), (3, 2)], true⟩,
  some ⟨1, false, [.slice none 0 0], .slice 58, false⟩,
  some ⟨1, false, [.slice none 0 0], .slice 170, false⟩,
  some ⟨1, false, [.slice none 0 0], .slice 172, false⟩,
  some ⟨6, true, [.string ⟨#[]⟩, .slice none 0 0, .slice none 0 0, .slice none 0 0, .slice none 0 0, .slice none 0 0], .struct [(9, 0), (55, 1), (56, 2), (60, 3), (61, 4), (59, 5)], false⟩,
  some ⟨6, true, [.string ⟨#[]⟩, .slice none 0 0, .slice none 0 0, .slice none 0 0, .slice none 0 0, .slice none 0 0], .struct [(9, 0), (55, 1), (56, 2), (60, 3), (61, 4), (59, 5)], false⟩,
  some ⟨9, true, [.int .i64 0, .int .i64 0, .int .i64 0, .int .i64 0, .int .i64 0, .int .i64 0, .int .i64 0, .int .i64 0, .int .i64 0], .struct [(3, 0), (3, 1), (34, 2), (3, 8)], true⟩,
  some ⟨9, true, [.int .i64 0, .int .i64 0, .int .i64 0, .int .i64 0, .int .i64 0, .int .i64 0, .int .i64 0, .int .i64 0, .int .i64 0], .struct [(3, 0), (3, 1), (34, 2), (3, 8)], true⟩,
  some ⟨1, false, [.nilFunc], .other, false⟩,
  some ⟨1, false, [.nilFunc], .other, false⟩,
  some ⟨1, false, [.slice none 0 0], .slice 80, false⟩,
  some ⟨1, false, [.map none], .map 77 68, false⟩,
  some ⟨1, false, [.map none], .map 77 3, false⟩,
  some ⟨2, true, [.map none, .map none], .struct [(69, 0), (70, 1)], false⟩,
  some ⟨2, true, [.map none, .map none], .struct [(69, 0), (70, 1)], false⟩,
  some ⟨1, false, [.nilFunc], .other, false⟩,
  some ⟨1, false, [.map none], .map 3 72, false⟩,
  some ⟨1, false, [.nilFunc], .other, false⟩,
  some ⟨4, true, [.int .i64 0, .int .i64 0, .int .i64 0, .int .i64 0], .struct [(3, 0), (3, 1), (3, 2), (3, 3)], true⟩,
  some ⟨4, true, [.int .i64 0, .int .i64 0, .int .i64 0, .int .i64 0], .struct [(3, 0), (3, 1), (3, 2), (3, 3)], true⟩,
  some ⟨1, false, [.nilFunc], .other, false⟩,
  some ⟨2, true, [.int .i64 0, .int .i64 0], .struct [(3, 0), (3, 1)], true⟩,
  some ⟨2, true, [.int .i64 0, .int .i64 0], .struct [(3, 0), (3, 1)], true⟩,
  some ⟨1, false, [.nilFunc], .other, false⟩,
  some ⟨1, false, [.nilFunc], .other, false⟩,
  some ⟨1, false, [.nilFunc], .other, false⟩,
  some ⟨1, false, [.nilFunc], .other, false⟩,
  some ⟨1, false, [.nilFunc], .other, false⟩,
  some ⟨1, false, [.nilFunc], .other, false⟩,
  some ⟨1, false, [.nilFunc], .other, false⟩,
  none,
  some ⟨1, false, [.nilFunc], .other, false⟩,
  some ⟨1, false, [.nilFunc], .other, false⟩,
  some ⟨1, false, [.nilFunc], .other, false⟩,
  some ⟨1, false, [.nilFunc], .other, false⟩,
  some ⟨1, false, [.nilFunc], .other, false⟩,
  some ⟨1, false, [.nilFunc], .other, false⟩,
  some ⟨1, false, [.nilFunc], .other, false⟩,
  some ⟨1, false, [.nilFunc], .other, false⟩,
  some ⟨1, false, [.nilFunc], .other, false⟩,
  some ⟨1, false, [.nilFunc], .other, false⟩,
  some ⟨1, false, [.nilFunc], .other, false⟩,
  some ⟨1, false, [.nilFunc], .other, false⟩,
  some ⟨1, false, [.nilFunc], .other, false⟩,
  some ⟨1, false, [.nilFunc], .other, false⟩,
  some ⟨1, false, [.nilFunc], .other, false⟩,
  some ⟨1, false, [.nilFunc], .other, false⟩,
  some ⟨1, false, [.nilFunc], .other, false⟩,
  some ⟨1, false, [.nilFunc], .other, false⟩,
  some ⟨1, false, [.nilFunc], .other, false⟩,
  some ⟨1, false, [.nilFunc], .other, false⟩,
  some ⟨1, false, [.nilFunc], .other, false⟩,
  some ⟨1, false, [.int .u64 0], .int .u64, true⟩,
  some ⟨1, false, [.nilFunc], .other, false⟩,
  some ⟨1, false, [.nilFunc], .other, false⟩,
  some ⟨1, false, [.nilFunc], .other, false⟩,
  some ⟨1, false, [.nilFunc], .other, false⟩,
  some ⟨1, false, [.int .i64 0], .int .i64, true⟩,
  none,
  some ⟨1, false, [.nilFunc], .other, false⟩,
  some ⟨1, false, [.nilFunc], .other, false⟩,
  some ⟨1, false, [.nilFunc], .other, false⟩,
  some ⟨1, false, [.nilFunc], .other, false⟩,
  none,
  some ⟨1, false, [.nilFunc], .other, false⟩,
  some ⟨1, false, [.nilFunc], .other, false⟩,
  some ⟨1, false, [.nilFunc], .other, false⟩,
  some ⟨1, false, [.int .u64 0], .int .u64, true⟩,
  some ⟨1, false, [.nilFunc], .other, false⟩,
  some ⟨1, false, [.nilFunc], .other, false⟩,
  some ⟨1, false, [.nilFunc], .other, false⟩,
  some ⟨1, false, [.nilFunc], .other, false⟩,
  some ⟨1, false, [.nilFunc], .other, false⟩,
  some ⟨1, false, [.nilFunc], .other, false⟩,
  some ⟨1, false, [.int .u64 0], .int .u64, true⟩,
  some ⟨1, false, [.nilFunc], .other, false⟩,
  some ⟨1, false, [.nilFunc], .other, false⟩,
  some ⟨1, false, [.nilFunc], .other, false⟩,
  some ⟨1, false, [.pointer none], .other, false⟩,
  some ⟨1, false, [.nilFunc], .other, false⟩,
  some ⟨1, false, [.nilFunc], .other, false⟩,
  some ⟨1, false, [.nilFunc], .other, false⟩,
  some ⟨1, false, [.nilFunc], .other, false⟩,
  some ⟨1, false, [.nilFunc], .other, false⟩,
  some ⟨1, false, [.nilFunc], .other, false⟩,
  some ⟨1, false, [.nilFunc], .other, false⟩,
  some ⟨1, false, [.nilFunc], .other, false⟩,
  some ⟨1, false, [.pointer none], .other, false⟩,
  none,
  some ⟨1, false, [.nilFunc], .other, false⟩,
  some ⟨1, false, [.nilFunc], .other, false⟩,
  some ⟨1, false, [.nilFunc], .other, false⟩,
  some ⟨1, false, [.nilFunc], .other, false⟩,
  some ⟨1, false, [.nilFunc], .other, false⟩,
  some ⟨1, false, [.nilFunc], .other, false⟩,
  some ⟨4, true, [.pointer none, .pointer none, .pointer none, .string ⟨#[]⟩], .struct [(17, 0), (17, 1), (17, 2), (9, 3)], false⟩,
  some ⟨4, true, [.pointer none, .pointer none, .pointer none, .string ⟨#[]⟩], .struct [(17, 0), (17, 1), (17, 2), (9, 3)], false⟩,
  some ⟨0, true, [], .arr 0 16, false⟩,
  some ⟨0, true, [], .struct [(155, 0)], false⟩,
  some ⟨0, true, [], .struct [(155, 0)], false⟩,
  some ⟨1, false, [.nilFunc], .other, false⟩,
  some ⟨1, false, [.int .u8 0], .int .u8, true⟩,
  some ⟨1, false, [.int .u8 0], .int .u8, true⟩,
  some ⟨1, false, [.nilFunc], .other, false⟩,
  some ⟨1, false, [.pointer none], .other, false⟩,
  some ⟨1, false, [.int .i32 0], .int .i32, true⟩,
  some ⟨1, false, [.int .i32 0], .int .i32, true⟩,
  some ⟨11, true, [.int .u64 0, .int .u64 0, .int .u32 0, .int .u8 0, .int .u8 0, .int .u8 0, .int .u8 0, .nilFunc, .pointer none, .int .i32 0, .int .i32 0], .struct [(12, 0), (12, 1), (23, 2), (159, 3), (5, 4), (5, 5), (160, 6), (161, 7), (162, 8), (163, 9), (164, 10)], false⟩,
  some ⟨11, true, [.int .u64 0, .int .u64 0, .int .u32 0, .int .u8 0, .int .u8 0, .int .u8 0, .int .u8 0, .nilFunc, .pointer none, .int .i32 0, .int .i32 0], .struct [(12, 0), (12, 1), (23, 2), (159, 3), (5, 4), (5, 5), (160, 6), (161, 7), (162, 8), (163, 9), (164, 10)], false⟩,
  some ⟨3, true, [.int .i64 0, .int .i64 0, .string ⟨#[]⟩], .struct [(3, 0), (3, 1), (9, 2)], true⟩,
  some ⟨3, true, [.int .i64 0, .int .i64 0, .string ⟨#[]⟩], .struct [(3, 0), (3, 1), (9, 2)], true⟩,
  some ⟨6, true, [.int .i64 0, .int .i64 0, .int .i64 0, .int .i64 0, .string ⟨#[]⟩, .slice none 0 0], .struct [(3, 0), (3, 1), (168, 2), (60, 5)], false⟩,
  some ⟨6, true, [.int .i64 0, .int .i64 0, .int .i64 0, .int .i64 0, .string ⟨#[]⟩, .slice none 0 0], .struct [(3, 0), (3, 1), (168, 2), (60, 5)], false⟩,
  some ⟨3, true, [.int .i64 0, .int .i64 0, .int .i64 0], .struct [(3, 0), (3, 1), (3, 2)], true⟩,
  some ⟨3, true, [.int .i64 0, .int .i64 0, .int .i64 0], .struct [(3, 0), (3, 1), (3, 2)], true⟩,
  some ⟨1, false, [.pointer none], .other, false⟩]
theorem tt_ok : TTOK Try.prog tt := ttok_of (by kernel_rfl)
theorem pk : Pk Try.prog tt := ⟨rfl, tt_ok⟩
abbrev e0 : ByteArray := ⟨#[]⟩
def I1 (n : Int) : List PV := [.val (.int .i64 n)]
def S1 (s : ByteArray) : List PV := [.val (.string s)]
theorem I1.elem : Elem tt 3 I1 (fun a => .val (.int .i64 a)) 1 := ⟨rfl, fun _ => rfl, fun _ => rfl, fun _ => rfl, fun _ => rfl⟩
end Go.Proofs.Ytbcdgocepnkpeaa
namespace Go.Proofs.Ytbcdgocepnkpeaa
open Go Go.Abs
set_option maxRecDepth 10000
set_option maxHeartbeats 1000000
structure Sn where
  lo : Int
  hi : Int
  deriving DecidableEq, Inhabited
def Sn.cells (a : Sn) : List PV := [.val (.int .i64 (a.lo)), .val (.int .i64 (a.hi))]
def Sn.zero : Sn := ⟨0, 0⟩
theorem Sn.ext_iff (a b : Sn) : a = b ↔ a.lo = b.lo ∧ a.hi = b.hi := by cases a; cases b; simp
theorem Sn.eqb (a b : Sn) : (decide (a.lo = b.lo) && (decide (a.hi = b.hi))) = decide (a = b) := by rw [Bool.eq_iff_iff]; simp [Sn.ext_iff]
theorem Sn.elem : Elem tt 80 Sn.cells (fun a => .agg a.cells) 2 := ⟨rfl, fun _ => rfl, fun _ => rfl, fun _ => rfl, fun _ => rfl⟩
structure Of where
  kind : Int
  table : Int
  col : Int
  group : Int
  deriving DecidableEq, Inhabited
def Of.cells (a : Of) : List PV := [.val (.int .i64 (a.kind)), .val (.int .i64 (a.table)), .val (.int .i64 (a.col)), .val (.int .i64 (a.group))]
def Of.zero : Of := ⟨0, 0, 0, 0⟩
theorem Of.ext_iff (a b : Of) : a = b ↔ a.kind = b.kind ∧ a.table = b.table ∧ a.col = b.col ∧ a.group = b.group := by cases a; cases b; simp
theorem Of.eqb (a b : Of) : (decide (a.kind = b.kind) && (decide (a.table = b.table) && (decide (a.col = b.col) && (decide (a.group = b.group))))) = decide (a = b) := by rw [Bool.eq_iff_iff]; simp [Of.ext_iff]
theorem Of.elem : Elem tt 77 Of.cells (fun a => .agg a.cells) 4 := ⟨rfl, fun _ => rfl, fun _ => rfl, fun _ => rfl, fun _ => rfl⟩
structure Rt where
  kind : Int
  table : Int
  col : Int
  lo : Int
  hi : Int
  amt : Int
  deriving DecidableEq, Inhabited
def Rt.cells (a : Rt) : List PV := [.val (.int .i64 (a.kind)), .val (.int .i64 (a.table)), .val (.int .i64 (a.col)), .val (.int .i64 (a.lo)), .val (.int .i64 (a.hi)), .val (.int .i64 (a.amt))]
def Rt.zero : Rt := ⟨0, 0, 0, 0, 0, 0⟩
theorem Rt.ext_iff (a b : Rt) : a = b ↔ a.kind = b.kind ∧ a.table = b.table ∧ a.col = b.col ∧ a.lo = b.lo ∧ a.hi = b.hi ∧ a.amt = b.amt := by cases a; cases b; simp
theorem Rt.eqb (a b : Rt) : (decide (a.kind = b.kind) && (decide (a.table = b.table) && (decide (a.col = b.col) && (decide (a.lo = b.lo) && (decide (a.hi = b.hi) && (decide (a.amt = b.amt))))))) = decide (a = b) := by rw [Bool.eq_iff_iff]; simp [Rt.ext_iff]
theorem Rt.elem : Elem tt 34 Rt.cells (fun a => .agg a.cells) 6 := ⟨rfl, fun _ => rfl, fun _ => rfl, fun _ => rfl, fun _ => rfl⟩
structure Ow where
  dev : Int
  rights : List Rt
  deriving DecidableEq, Inhabited
def Ow.cells (a : Ow) : List PV := [.val (.int .i64 (a.dev)), .seq ((a.rights).map Rt.cells)]
def Ow.zero : Ow := ⟨0, []⟩
theorem Ow.ext_iff (a b : Ow) : a = b ↔ a.dev = b.dev ∧ a.rights = b.rights := by cases a; cases b; simp
theorem Ow.elem : Elem tt 52 Ow.cells (fun a => .agg a.cells) 2 := ⟨rfl, fun _ => rfl, fun _ => rfl, fun _ => rfl, fun _ => rfl⟩
structure Sm where
  col : Int
  by_ : Int
  max : Int
  deriving DecidableEq, Inhabited
def Sm.cells (a : Sm) : List PV := [.val (.int .i64 (a.col)), .val (.int .i64 (a.by_)), .val (.int .i64 (a.max))]
def Sm.zero : Sm := ⟨0, 0, 0⟩
theorem Sm.ext_iff (a b : Sm) : a = b ↔ a.col = b.col ∧ a.by_ = b.by_ ∧ a.max = b.max := by cases a; cases b; simp
theorem Sm.eqb (a b : Sm) : (decide (a.col = b.col) && (decide (a.by_ = b.by_) && (decide (a.max = b.max)))) = decide (a = b) := by rw [Bool.eq_iff_iff]; simp [Sm.ext_iff]
theorem Sm.elem : Elem tt 58 Sm.cells (fun a => .agg a.cells) 3 := ⟨rfl, fun _ => rfl, fun _ => rfl, fun _ => rfl, fun _ => rfl⟩
structure Tb where
  name : ByteArray
  cols : List (List PV)
  unique : List Int
  chk : List (List PV)
  frn : List (List PV)
  sums : List Sm
instance : Inhabited Tb := ⟨⟨e0, [], [], [], [], []⟩⟩
def Tb.cells (t : Tb) : List PV := [.val (.string t.name), .seq t.cols, .seq (t.unique.map I1), .seq t.chk, .seq t.frn, .seq (t.sums.map Sm.cells)]
theorem Tb.elem : Elem tt 63 Tb.cells (fun a => .agg a.cells) 6 := ⟨rfl, fun _ => rfl, fun _ => rfl, fun _ => rfl, fun _ => rfl⟩
abbrev Sc := List Tb
def scC (s : Sc) : List PV := [.seq (s.map Tb.cells)]
def Of.vals (k : Of) : List Value := [.int .i64 k.kind, .int .i64 k.table, .int .i64 k.col, .int .i64 k.group]
def Of.enc (k : Of) : Value := .agg k.vals.toArray
theorem Of.key : KeyOK Try.prog 77 Of.enc (fun k => .agg k.cells) :=
  keyOK_struct tt_ok Of.vals rfl rfl (fun _ => rfl) (fun a b => by show some (decide (a.kind = b.kind) && (decide (a.table = b.table) && (decide (a.col = b.col) && decide (a.group = b.group)))) = _; rw [Of.eqb]) (fun _ => rfl) (by kernel_rfl)
def Ie (k : Int) : Value := .int .i64 k
theorem vr_int {g : G} (a : Int) : VR Try.prog g 3 [.val (Ie a)] (Ie a) := ⟨fun h => absurd (h.symm.trans (show isAggT Try.prog 3 = false from by kernel_rfl)) (by simp), fun _ => by simp only [RepL]; exact ⟨_, [], rfl, by simp [Rep], rfl⟩⟩
theorem intKey : KeyOK Try.prog 3 Ie (fun k => .val (Ie k)) where
  und := rfl
  chk k b w := run_checkKey (k := .int .i64) (by kernel_rfl) rfl rfl b w
  now kd h a b := by
    have : kd = .int .i64 := by have : Try.prog.underlying 3 = some (.int .i64) := by kernel_rfl
                                rw [this] at h; injection h with h; exact h.symm
    subst this
    right
    simp only [Ie, Instr.sameNow, if_true]
    congr 1
  eq a b w := by
    have g : G := ⟨#[], fun _ => none, fun _ => 0, fun _ => False⟩
    exact peq_sound tt_ok (g := g) 8 Op.maxDepth (by decide) 3 _ _ _ _ _ (show peq tt 8 3 [.val (Ie a)] [.val (Ie b)] = some (decide (a = b)) from rfl) (by kernel_rfl) (vr_int a) (vr_int b)
  rp k g v h := rep_val h
  bits k := bits_plain rfl
end Go.Proofs.Ytbcdgocepnkpeaa
