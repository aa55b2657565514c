import Derived.Test.YtloecjjehapblaaGreatDoorProg
import Derived.Test.YtloecjjehapblaaGreatDoorAcE
import Derived.Test.YtloecjjehapblaaGreatDoorAcI
import Derived.Test.YtloecjjehapblaaGreatDoorAcG
import Derived.Shelf.Strings.SlTrimAscii
import Derived.Shelf.Sort.Plain
import Derived.Shelf.SlSortCmp.NoneTotal
import Derived.Shelf.Slices.In.SortNone
set_option linter.unusedSimpArgs false
set_option linter.unusedVariables false
namespace Go.Proofs.YtloecjjehapblaaGreatDoor
open Go Go.Abs
section
set_option maxRecDepth 10000
set_option maxHeartbeats 4000000
abbrev z0:Option TI:=some ⟨1,false,[.nilFunc], .other,false⟩
abbrev z1:Option TI:=some ⟨1,false,[.pointer none], .other,false⟩
abbrev z2:Option TI:=some ⟨3,true,[.int .i64 0, .int .i64 0, .int .i64 0], .struct [(3,0),(3,1),(3,2)],true⟩
abbrev z3:Option TI:=some ⟨1,false,[.int .i64 0], .int .i64,true⟩
abbrev z4:Option TI:=some ⟨1,false,[.int .u8 0], .int .u8,true⟩
abbrev z5:Option TI:=some ⟨1,false,[.int .u64 0], .int .u64,true⟩
abbrev z6:Option TI:=some ⟨1,false,[.string ⟨#[]⟩], .str,true⟩
abbrev z7:Option TI:=some ⟨1,false,[.int .i32 0], .int .i32,true⟩
abbrev z8:Option TI:=some ⟨4,true,[.int .i64 0, .int .i64 0, .bool false, .int .u8 0], .struct [(2,0),(3,1),(4,2),(6,3)],true⟩
abbrev z9:Option TI:=some ⟨2,true,[.string ⟨#[]⟩, .int .u64 0], .struct [(9,0),(12,1)],false⟩
abbrev z10:Option TI:=some ⟨1,true,[.pointer none], .struct [(17,0)],false⟩
abbrev z11:Option TI:=some ⟨1,true,[.slice none 0 0], .struct [(22,0)],false⟩
abbrev z12:Option TI:=some ⟨1,true,[.slice none 0 0], .struct [(25,0)],false⟩
abbrev z13:Option TI:=some ⟨1,false,[.slice none 0 0], .slice 3,false⟩
abbrev z14:Option TI:=some ⟨7,true,[.int .i64 0, .slice none 0 0, .slice none 0 0, .slice none 0 0, .slice none 0 0, .slice none 0 0, .int .i64 0], .struct [(3,0),(28,1),(29,2),(29,3),(30,4),(31,5),(3,6)],false⟩
abbrev z15:Option TI:=some ⟨1,false,[.slice none 0 0], .slice 57,false⟩
abbrev z16:Option TI:=some ⟨3,true,[.int .i64 0, .int .i64 0, .string ⟨#[]⟩], .struct [(3,0),(3,1),(9,2)],true⟩
abbrev z17:Option TI:=some ⟨2,true,[.int .i64 0, .int .i64 0], .struct [(3,0),(3,1)],true⟩
abbrev z18:Option TI:=some ⟨11,true,[.int .i64 0, .int .i64 0, .int .i64 0, .int .i64 0, .slice none 0 0, .int .i64 0, .int .i64 0, .string ⟨#[]⟩, .int .i64 0, .int .i64 0, .int .i64 0], .struct [(3,0),(3,1),(3,2),(3,3),(35,4),(57,5),(59,8),(3,10)],false⟩
abbrev z19:Option TI:=some ⟨3,true,[.int .i64 0, .slice none 0 0, .slice none 0 0], .struct [(3,0),(65,1),(37,2)],false⟩
abbrev z20:Option TI:=some ⟨5,true,[.int .i64 0, .int .i64 0, .int .i64 0, .string ⟨#[]⟩, .slice none 0 0], .struct [(3,0),(57,1),(78,4)],false⟩
abbrev z21:Option TI:=some ⟨1,false,[.slice none 0 0], .slice 67,false⟩
abbrev z22:Option TI:=some ⟨1,true,[.slice none 0 0], .struct [(84,0)],false⟩
abbrev z23:Option TI:=some ⟨6,true,[.int .i64 0, .int .i64 0, .int .i64 0, .int .i64 0, .string ⟨#[]⟩, .slice none 0 0], .struct [(3,0),(3,1),(57,2),(29,5)],false⟩
abbrev z24:Option TI:=some ⟨7,true,[.int .i64 0, .int .i64 0, .int .i64 0, .int .i64 0, .int .i64 0, .string ⟨#[]⟩, .slice none 0 0], .struct [(3,0),(88,1)],false⟩
abbrev z25:Option TI:=some ⟨3,true,[.slice none 0 0, .int .i64 0, .slice none 0 0], .struct [(35,0),(3,1),(37,2)],false⟩
abbrev z26:Option TI:=some ⟨4,true,[.int .i64 0, .int .i64 0, .int .i64 0, .slice none 0 0], .struct [(47,0),(48,3)],false⟩
abbrev z27:Option TI:=some ⟨6,true,[.string ⟨#[]⟩, .slice none 0 0, .slice none 0 0, .slice none 0 0, .slice none 0 0, .slice none 0 0], .struct [(9,0),(117,1),(31,2),(29,3),(118,4),(119,5)],false⟩
abbrev z28:Option TI:=some ⟨8,true,[.string ⟨#[]⟩, .slice none 0 0, .slice none 0 0, .slice none 0 0, .slice none 0 0, .slice none 0 0, .slice none 0 0, .slice none 0 0], .struct [(121,0),(98,6),(27,7)],false⟩
abbrev z29:Option TI:=some ⟨3,true,[.slice none 0 0, .slice none 0 0, .int .i64 0], .struct [(127,0),(27,1),(3,2)],false⟩
abbrev z30:Option TI:=some ⟨4,true,[.string ⟨#[]⟩, .int .i64 0, .int .i64 0, .bool false], .struct [(9,0),(3,1),(3,2),(4,3)],true⟩
abbrev z31:Option TI:=some ⟨2,true,[.slice none 0 0, .slice none 0 0], .struct [(35,0),(37,1)],false⟩
abbrev z32:Option TI:=some ⟨1,true,[.nilFunc], .struct [(173,0)],false⟩
abbrev z33:Option TI:=some ⟨11,true,[.int .i64 0, .int .i64 0, .string ⟨#[]⟩, .int .i64 0, .int .i64 0, .int .i64 0, .int .i64 0, .int .i64 0, .int .i64 0, .int .i64 0, .bool false], .struct [(57,0),(59,3),(3,5),(3,6),(59,7),(3,9),(4,10)],true⟩
abbrev z34:Option TI:=some ⟨2,true,[.slice none 0 0, .slice none 0 0], .struct [(98,0),(100,1)],false⟩
abbrev z35:Option TI:=some ⟨2,true,[.slice none 0 0, .slice none 0 0], .struct [(98,0),(228,1)],false⟩
abbrev z36:Option TI:=some ⟨3,true,[.int .i64 0, .int .i64 0, .int .i64 0], .struct [(3,0),(59,1)],true⟩
abbrev z37:Option TI:=some ⟨3,true,[.int .i64 0, .bool false, .nilFunc], .struct [(3,0),(4,1),(339,2)],false⟩
abbrev z38:Option TI:=some ⟨3,true,[.int .i64 0, .int .i64 0, .int .i64 0], .struct [(59,0),(3,2)],true⟩
abbrev z39:Option TI:=some ⟨2,true,[.int .u8 0, .int .u8 0], .struct [(5,0),(5,1)],true⟩
abbrev z40:Option TI:=some ⟨4,true,[.pointer none, .pointer none, .pointer none, .string ⟨#[]⟩], .struct [(17,0),(17,1),(17,2),(9,3)],false⟩
abbrev z41:Option TI:=some ⟨0,true,[], .struct [(461,0)],false⟩
abbrev z42:Option TI:=some ⟨11,true,[.int .u64 0, .int .u64 0, .int .u32 0, .int .u8 0, .int .u8 0, .int .u8 0, .int .u8 0, .nilFunc, .pointer none, .int .i32 0, .int .i32 0], .struct [(12,0),(12,1),(275,2),(465,3),(5,4),(5,5),(466,6),(467,7),(468,8),(469,9),(470,10)],false⟩
def tt :TT:=[none,z0,z3,z3,some ⟨1,false,[.bool false], .bool,true⟩,z4,z4,z8,z8,z6,z6,z6,z5,z9,z9,z1,z1,z1,z10,z10,some ⟨1,false,[.nilIface], .other,false⟩,z7,some ⟨1,false,[.slice none 0 0], .slice 121,false⟩,z11,z11,some ⟨1,false,[.slice none 0 0], .slice 86,false⟩,z12,z12,some ⟨1,false,[.slice none 0 0], .slice 206,false⟩,some ⟨1,false,[.slice none 0 0], .slice 88,false⟩,some ⟨1,false,[.slice none 0 0], .slice 90,false⟩,z13,z14,z14,z15,z15,some ⟨1,false,[.slice none 0 0], .slice 96,false⟩,some ⟨1,false,[.slice none 0 0], .slice 59,false⟩,z0,z0,z0,z0,z0,z0,z0,some ⟨1,false,[.slice none 0 0], .slice 61,false⟩,z2,z2,z13,z0,z0,z3,none,z0,z0,z0,z16,z16,z17,z17,z18,z18,z0,z0,z0,some ⟨1,false,[.slice none 0 0], .slice 80,false⟩,z19,z19,none,z0,z0,z0,z0,some ⟨1,false,[.int .u16 0], .int .u16,true⟩,z0,z0,z0,z0,some ⟨1,false,[.slice none 0 0], .slice 190,false⟩,z20,z20,z0,z0,z0,z21,z22,z22,z23,z23,z24,z24,none,z0,none,z0,z0,some ⟨2,true,[.int .i64 0, .int .i64 0], .arr 2 3,true⟩,z0,some ⟨1,false,[.slice none 0 0], .slice 35,false⟩,z0,some ⟨1,false,[.slice none 0 0], .slice 105,false⟩,none,z0,z0,z25,z25,z0,z0,z0,z0,z0,z0,z26,z26,z0,z0,z0,some ⟨1,false,[.slice none 0 0], .slice 136,false⟩,some ⟨1,false,[.slice none 0 0], .slice 182,false⟩,some ⟨1,false,[.slice none 0 0], .slice 184,false⟩,z27,z27,z28,z28,z0,z0,some ⟨5,true,[.nilFunc, .nilFunc, .nilFunc, .nilFunc, .nilFunc], .arr 5 124,false⟩,z21,z29,z29,none,z0,none,z0,z0,z30,z30,none,z0,some ⟨1,false,[.map none], .map 59 96,false⟩,none,z0,z0,z0,z0,z0,z0,z0,z0,z0,z0,z0,some ⟨1,false,[.slice none 0 0], .slice 156,false⟩,none,z0,z31,z31,z0,z0,z0,z0,z0,z0,z0,z0,z0,z0,z0,z0,z0,z0,some ⟨1,false,[.slice none 0 0], .slice 175,false⟩,z0,z0,z32,z32,z0,z0,some ⟨1,false,[.map none], .map 3 4,false⟩,none,z0,z2,z2,z2,z2,some ⟨1,false,[.map none], .map 3 3,false⟩,none,z0,z0,z33,z33,z0,z0,z0,z0,some ⟨1,false,[.slice none 0 0], .slice 5,false⟩,z0,z0,z0,z0,z5,z0,z0,z0,z0,z2,z2,none,z0,none,z0,z0,z0,z0,z0,z0,z0,z0,none,z0,z34,z34,z0,z1,z0,z0,z0,z0,some ⟨1,false,[.slice none 0 0], .slice 152,false⟩,z35,z35,z1,z0,z0,z0,z0,z0,z0,z0,z0,z0,z0,none,z0,z0,z0,z0,z0,z0,z1,z0,z0,z0,z0,z0,z0,z0,z0,z0,z0,z0,z0,some ⟨1,false,[.map none], .map 351 190,false⟩,none,z0,z0,z0,z0,z3,none,z0,z0,z0,z0,z0,some ⟨1,false,[.int .u32 0], .int .u32,true⟩,z0,z5,z0,z0,z0,none,z0,z0,z0,z0,z0,z0,z1,z0,z0,z0,z0,z0,z1,z0,z0,z0,z0,z0,z0,z0,some ⟨1,false,[.map none], .map 3 31,false⟩,z0,z0,none,z0,z0,z0,z0,some ⟨1,false,[.map none], .map 96 4,false⟩,z0,z0,z0,z0,z0,z0,z0,z0,z0,z0,z0,some ⟨1,false,[.map none], .map 3 314,false⟩,z0,z0,z0,z0,z0,z0,z0,z0,z0,z0,z0,z36,z36,z0,z0,some ⟨6,true,[.int .i64 0, .int .i64 0, .string ⟨#[]⟩, .int .i64 0, .int .i64 0, .string ⟨#[]⟩], .arr 2 57,true⟩,z0,z37,z37,some ⟨1,false,[.map none], .map 3 341,false⟩,z0,z0,z0,z0,z0,some ⟨1,false,[.map none], .map 59 3,false⟩,none,z38,z38,z0,z0,z0,some ⟨1,false,[.map none], .map 351 78,false⟩,z0,z0,z0,z5,z0,z0,z0,z1,z0,z0,z0,z0,some ⟨1,false,[.slice none 0 0], .slice 37,false⟩,z0,z0,z0,z0,z0,z0,z0,z0,z0,z0,z0,z0,z0,z0,z0,z0,z0,z0,z0,z0,z0,z0,z0,z0,none,none,none,z0,z0,z1,z0,z0,z0,none,z0,z0,z0,z0,z0,z0,z0,z0,z0,z0,z0,z0,z0,z0,z0,z1,none,z0,z0,z0,z0,z0,z0,none,z0,z0,z0,z0,z0,z0,z0,z0,z0,z0,z0,z0,z0,z0,z0,z0,z0,some ⟨3,true,[.int .i64 0, .int .i64 0, .int .i64 0], .arr 3 3,true⟩,z0,z0,z0,z0,z0,none,z39,z39,some ⟨32,true,[.int .u8 0, .int .u8 0, .int .u8 0, .int .u8 0, .int .u8 0, .int .u8 0, .int .u8 0, .int .u8 0, .int .u8 0, .int .u8 0, .int .u8 0, .int .u8 0, .int .u8 0, .int .u8 0, .int .u8 0, .int .u8 0, .int .u8 0, .int .u8 0, .int .u8 0, .int .u8 0, .int .u8 0, .int .u8 0, .int .u8 0, .int .u8 0, .int .u8 0, .int .u8 0, .int .u8 0, .int .u8 0, .int .u8 0, .int .u8 0, .int .u8 0, .int .u8 0], .arr 16 452,true⟩,z0,none,z0,z0,z0,z40,z40,some ⟨0,true,[], .arr 0 16,false⟩,z41,z41,z0,z4,z4,z0,z1,z7,z7,z42,z42,z1]
theorem aF :bM Tryz.prog tt:=aDj (by kernel_rfl)
theorem pk :Pk Tryz.prog tt:=⟨rfl,aF⟩
abbrev e0 :ByteArray:=⟨#[]⟩
def I1 (n:Int):List PV:=[.val (.int .i64 n)]
def S1 (s:ByteArray):List PV:=[.val (.string s)]
theorem I1.elem :Elem tt 3 I1 (λa=> .val (.int .i64 a)) 1:=⟨rfl,λ_=>rfl,λ_=>rfl,λ_=>rfl,λ_=>rfl⟩
structure Vl where
 kind:Int
 n:Int
 s:ByteArray
 deriving DecidableEq,Inhabited
def Vl.cells (a:Vl):List PV:=[.val (.int .i64 (a.kind)), .val (.int .i64 (a.n)), .val (.string (a.s))]
def Vl.zero :Vl:=⟨0,0,e0⟩
theorem Vl.ext_iff (a b:Vl):a=b↔a.kind=b.kind/\a.n=b.n/\a.s=b.s:=by cases a;cases b;simp
theorem Vl.eqb (a b:Vl):(decide (a.kind=b.kind)&&(decide (a.n=b.n)&&(decide (a.s=b.s))))=decide (a=b):=by rw [Bool.eq_iff_iff];simp [Vl.ext_iff]
theorem Vl.eqz (a:Vl):(decide (a.kind=0)&&(decide (a.n=0)&&(decide (a.s=e0))))=decide (a=Vl.zero):=by rw [Bool.eq_iff_iff];simp [Vl.ext_iff,Vl.zero]
theorem Vl.elem :Elem tt 57 Vl.cells (λa=> .agg a.cells) 3:=⟨rfl,λ_=>rfl,λ_=>rfl,λ_=>rfl,λ_=>rfl⟩
structure Dt where
 dev:Int
 seq:Int
 deriving DecidableEq,Inhabited
def Dt.cells (a:Dt):List PV:=[.val (.int .i64 (a.dev)), .val (.int .i64 (a.seq))]
def Dt.zero :Dt:=⟨0,0⟩
theorem Dt.ext_iff (a b:Dt):a=b↔a.dev=b.dev/\a.seq=b.seq:=by cases a;cases b;simp
theorem Dt.eqb (a b:Dt):(decide (a.dev=b.dev)&&(decide (a.seq=b.seq)))=decide (a=b):=by rw [Bool.eq_iff_iff];simp [Dt.ext_iff]
theorem Dt.eqz (a:Dt):(decide (a.dev=0)&&(decide (a.seq=0)))=decide (a=Dt.zero):=by rw [Bool.eq_iff_iff];simp [Dt.ext_iff,Dt.zero]
theorem Dt.elem :Elem tt 59 Dt.cells (λa=> .agg a.cells) 2:=⟨rfl,λ_=>rfl,λ_=>rfl,λ_=>rfl,λ_=>rfl⟩
structure Pt where
 val:Vl
 dot:Dt
 at_:Int
 time:Int
 after:Dt
 afterAt:Int
 gone:Bool
 deriving DecidableEq,Inhabited
def Pt.cells (a:Pt):List PV:=[.val (.int .i64 (a.val.kind)), .val (.int .i64 (a.val.n)), .val (.string (a.val.s)), .val (.int .i64 (a.dot.dev)), .val (.int .i64 (a.dot.seq)), .val (.int .i64 (a.at_)), .val (.int .i64 (a.time)), .val (.int .i64 (a.after.dev)), .val (.int .i64 (a.after.seq)), .val (.int .i64 (a.afterAt)), .val (.bool (a.gone))]
def Pt.zero :Pt:=⟨Vl.zero,Dt.zero,0,0,Dt.zero,0,false⟩
theorem Pt.ext_iff (a b:Pt):a=b↔a.val=b.val/\a.dot=b.dot/\a.at_=b.at_/\a.time=b.time/\a.after=b.after/\a.afterAt=b.afterAt/\a.gone=b.gone:=by cases a;cases b;simp
theorem Pt.eqb (a b:Pt):(decide (a.val=b.val)&&(decide (a.dot=b.dot)&&(decide (a.at_=b.at_)&&(decide (a.time=b.time)&&(decide (a.after=b.after)&&(decide (a.afterAt=b.afterAt)&&((a.gone==b.gone))))))))=decide (a=b):=by rw [Bool.eq_iff_iff];simp [Pt.ext_iff]
theorem Pt.elem :Elem tt 190 Pt.cells (λa=> .agg a.cells) 11:=⟨rfl,λ_=>rfl,λ_=>rfl,λ_=>rfl,λ_=>rfl⟩
structure Cl where
 kind:Int
 val:Vl
 parts:List Pt
 deriving DecidableEq,Inhabited
def Cl.cells (a:Cl):List PV:=[.val (.int .i64 (a.kind)), .val (.int .i64 (a.val.kind)), .val (.int .i64 (a.val.n)), .val (.string (a.val.s)), .seq ((a.parts).map Pt.cells)]
def Cl.zero :Cl:=⟨0,Vl.zero,[]⟩
theorem Cl.ext_iff (a b:Cl):a=b↔a.kind=b.kind/\a.val=b.val/\a.parts=b.parts:=by cases a;cases b;simp
theorem Cl.elem :Elem tt 80 Cl.cells (λa=> .agg a.cells) 5:=⟨rfl,λ_=>rfl,λ_=>rfl,λ_=>rfl,λ_=>rfl⟩
structure Ln where
 key:Int
 cells_:List Cl
 by_:List Dt
 deriving DecidableEq,Inhabited
def Ln.cells (a:Ln):List PV:=[.val (.int .i64 (a.key)), .seq ((a.cells_).map Cl.cells), .seq ((a.by_).map Dt.cells)]
def Ln.zero :Ln:=⟨0,[],[]⟩
theorem Ln.ext_iff (a b:Ln):a=b↔a.key=b.key/\a.cells_=b.cells_/\a.by_=b.by_:=by cases a;cases b;simp
theorem Ln.elem :Elem tt 67 Ln.cells (λa=> .agg a.cells) 3:=⟨rfl,λ_=>rfl,λ_=>rfl,λ_=>rfl,λ_=>rfl⟩
structure Da where
 lines:List Ln
 deriving DecidableEq,Inhabited
def Da.cells (a:Da):List PV:=[.seq ((a.lines).map Ln.cells)]
def Da.zero :Da:=⟨[]⟩
theorem Da.ext_iff (a b:Da):a=b↔a.lines=b.lines:=by cases a;cases b;simp
theorem Da.elem :Elem tt 86 Da.cells (λa=> .agg a.cells) 1:=⟨rfl,λ_=>rfl,λ_=>rfl,λ_=>rfl,λ_=>rfl⟩
structure Co where
 name:ByteArray
 kind:Int
 type_:Int
 null:Bool
 deriving DecidableEq,Inhabited
def Co.cells (a:Co):List PV:=[.val (.string (a.name)), .val (.int .i64 (a.kind)), .val (.int .i64 (a.type_)), .val (.bool (a.null))]
def Co.zero :Co:=⟨e0,0,0,false⟩
theorem Co.ext_iff (a b:Co):a=b↔a.name=b.name/\a.kind=b.kind/\a.type_=b.type_/\a.null=b.null:=by cases a;cases b;simp
theorem Co.eqb (a b:Co):(decide (a.name=b.name)&&(decide (a.kind=b.kind)&&(decide (a.type_=b.type_)&&((a.null==b.null)))))=decide (a=b):=by rw [Bool.eq_iff_iff];simp [Co.ext_iff]
theorem Co.elem :Elem tt 136 Co.cells (λa=> .agg a.cells) 4:=⟨rfl,λ_=>rfl,λ_=>rfl,λ_=>rfl,λ_=>rfl⟩
structure Fr where
 col:Int
 table:Int
 act:Int
 deriving DecidableEq,Inhabited
def Fr.cells (a:Fr):List PV:=[.val (.int .i64 (a.col)), .val (.int .i64 (a.table)), .val (.int .i64 (a.act))]
def Fr.zero :Fr:=⟨0,0,0⟩
theorem Fr.ext_iff (a b:Fr):a=b↔a.col=b.col/\a.table=b.table/\a.act=b.act:=by cases a;cases b;simp
theorem Fr.eqb (a b:Fr):(decide (a.col=b.col)&&(decide (a.table=b.table)&&(decide (a.act=b.act))))=decide (a=b):=by rw [Bool.eq_iff_iff];simp [Fr.ext_iff]
theorem Fr.eqz (a:Fr):(decide (a.col=0)&&(decide (a.table=0)&&(decide (a.act=0))))=decide (a=Fr.zero):=by rw [Bool.eq_iff_iff];simp [Fr.ext_iff,Fr.zero]
theorem Fr.elem :Elem tt 182 Fr.cells (λa=> .agg a.cells) 3:=⟨rfl,λ_=>rfl,λ_=>rfl,λ_=>rfl,λ_=>rfl⟩
structure Su where
 col:Int
 by_:Int
 max:Int
 deriving DecidableEq,Inhabited
def Su.cells (a:Su):List PV:=[.val (.int .i64 (a.col)), .val (.int .i64 (a.by_)), .val (.int .i64 (a.max))]
def Su.zero :Su:=⟨0,0,0⟩
theorem Su.ext_iff (a b:Su):a=b↔a.col=b.col/\a.by_=b.by_/\a.max=b.max:=by cases a;cases b;simp
theorem Su.eqb (a b:Su):(decide (a.col=b.col)&&(decide (a.by_=b.by_)&&(decide (a.max=b.max))))=decide (a=b):=by rw [Bool.eq_iff_iff];simp [Su.ext_iff]
theorem Su.eqz (a:Su):(decide (a.col=0)&&(decide (a.by_=0)&&(decide (a.max=0))))=decide (a=Su.zero):=by rw [Bool.eq_iff_iff];simp [Su.ext_iff,Su.zero]
theorem Su.elem :Elem tt 184 Su.cells (λa=> .agg a.cells) 3:=⟨rfl,λ_=>rfl,λ_=>rfl,λ_=>rfl,λ_=>rfl⟩
theorem cY {st:aI} {id:Nat} {o:Option AObj} (h:st id=none):StSub st (upd (upd st id o) id none):=λj=>by
 by_cases hj:j=id
 ·subst hj;left;exact h
 ·right;rw [aD hj,aD hj]
theorem aeZ :Tryz.prog.bytesOf 67=56:=by kernel_rfl
theorem arS :Tryz.prog.bytesOf 59=16:=by kernel_rfl
theorem asP :Tryz.prog.bytesOf 57=32:=by kernel_rfl
theorem aeW :Tryz.prog.bytesOf 86=24:=by kernel_rfl
theorem aqJ :Tryz.prog.bytesOf 80=64:=by kernel_rfl
theorem uF :Tryz.prog.bytesOf 190=96:=by kernel_rfl
theorem qY :Tryz.prog.cellsOf 190=11:=by kernel_rfl
theorem yI :Tryz.prog.cellsOf 80=5:=by kernel_rfl
theorem qP :Tryz.prog.cellsOf 67=3:=by kernel_rfl
theorem uH :Tryz.prog.cellsOf 59=2:=by kernel_rfl
theorem tX :Tryz.prog.cellsOf 57=3:=by kernel_rfl
theorem afE :Tryz.prog.cellsOf 86=1:=by kernel_rfl
end
section
attribute [local irreducible] Ev PWp
set_option maxRecDepth 10000
set_option maxHeartbeats 4000000
theorem azA (a:Int):PF Tryz.prog 119 [(.val (.int .i64 a))] (.val (.bool false)):=by
 refine aG aF Tryz.func119 (by kernel_rfl) rfl rfl rfl rfl (λst=> ?_)
 (try apply wO pk;rfl);(repeat' first|show Cn _;constructor|(refine aC ?_;refine ⟨_,_,_,rfl,zwr _,zsr _, ?_,rfl⟩;try first|rfl|simp;done))
def iA (a b:Int):Int:=if a<b then-1 else if a>b then 1 else 0
theorem jE (a b:Int):PF Tryz.prog 75 [(.val (.int .i64 a)),(.val (.int .i64 b))] (.val (.int .i64 (iA a b))):=by
 refine aG aF Tryz.func75 (by kernel_rfl) rfl rfl rfl rfl (λst=> ?_)
 (try apply wO pk;rfl);(repeat' first|show Cn _;constructor|apply wC pk;rfl;rfl|apply wE pk;rfl;rfl|refine aB rfl ?_ ?_<;>intro h<;>(try simp at h)<;>try omega|(refine aC ?_;refine ⟨_,_,_,rfl,zwr _,zsr _, ?_,rfl⟩;try first|rfl|(first|simp_all [iA];done|obtain rfl:a=b:=(by omega);simp [iA]);done)|(apply aH;rfl;rfl;rfl;(intro _;apply azA<;>first|assumption|omega);rotate_left;rfl;rfl))
def orI :List Int->Int
 |[]=>0
 |x::l=>if x=0 then orI l else x
theorem akO {l:List Int} {i:Nat} (h:i<l.length):orI (l.drop i)=if l[i]=0 then orI (l.drop (i+1)) else l[i]:=by
 rw [List.drop_eq_getElem_cons h,orI]
theorem afL (l:List Int) (hl:l.length<4611686018427387904):PF Tryz.prog 74 [.seq (l.map I1)] (.val (.int .i64 (orI l))):=by
 refine aG aF Tryz.func74 (by kernel_rfl) rfl rfl rfl rfl (λst=> ?_)
 (try apply wO pk;rfl);(repeat' ((show Cn _;constructor)))
 refine aK (X:={x:Nat//x<=l.length/\orI (l.drop x)=orI l}) (λi=>(((((St.nil 18 st).pv 3 ((PV.val (Value.int .i64 (0))))).pv 6 (.seq (l.map I1))).pv 7 ((PV.val (Value.int .i64 ((((l.map I1)).length:Nat)))))).pv 8 ((PV.val (Value.int .i64 ((i.1:Nat))))))) (λi=>l.length-i.1) ⟨0,by omega,by simp⟩ ?_ (λi=> ?_)
 ·((repeat refine Sub.pv ?_ rfl);exact Sub.nil _ _ _ (zsr _) rfl)
 obtain ⟨i,h1,hinv⟩:=i
 dsimp only
 (try apply wO pk;rfl);(repeat' first|show Cn _;constructor|apply wC pk;rfl;rfl|apply wE pk;rfl;rfl|refine aB rfl ?_ ?_<;>intro h<;>(try simp at h)<;>try omega|(refine aC ?_;refine ⟨_,_,_,rfl,zwr _,zsr _, ?_,rfl⟩;try first|rfl|(rw [<-hinv];(first|rw [akO (by omega),zn ‹_›];done|rw [List.drop_eq_nil_of_le (show l.length<=i by omega)];rfl));done)|apply aP pk;(iterate 6 rfl);rotate_left;rfl;(intro hw;rfl);(intro hw;apply aJ<;>omega);(intro _;rfl);rfl|refine ⟨⟨i+1,by omega,by rw [<-hinv,akO (i:=i) (by omega),zp ‹_›]⟩, ?_,by simp only;omega⟩;((repeat refine Sub.pv ?_ rfl);exact Sub.nil _ _ _ (zsr _) rfl)|intros;(try simp only [zql]);omega)
def byD (a b:Dt):Int:=orI [iA a.dev b.dev,iA a.seq b.seq]
theorem aiV (a b:Dt):PF Tryz.prog 104 [.agg a.cells, .agg b.cells] (.val (.int .i64 (byD a b))):=by
 have ho:=afL [iA a.dev b.dev,iA a.seq b.seq] (by simp)
 refine aG aF Tryz.func104 (by kernel_rfl) rfl rfl rfl rfl (λst=> ?_)
 (try apply wO pk;rfl);(repeat' first|show Cn _;constructor|apply wE pk;rfl;rfl|apply wD pk [] [];kernel_rfl;rfl;rfl|(refine aC ?_;refine ⟨_,_,_,rfl,zwr _,zsr _, ?_,rfl⟩;try rfl)|(apply aH;rfl;rfl;rfl;(intro _;(first|apply (jE a.dev b.dev)|apply (jE a.seq b.seq)|apply ho)<;>first|assumption|omega);rotate_left;rfl;rfl))
def bH (a b:Dt):Bool:=decide (a.dev>b.dev)||(decide (a.dev=b.dev)&&decide (a.seq>b.seq))
theorem aqG (a b:Dt):decide (byD a b>0)=bH a b:=by
 unfold byD bH iA
 simp only [orI]
 rw [Bool.eq_iff_iff]
 simp only [zde,Bool.or_eq_true,zba]
 grind
theorem nO {α:Type} {f:α->Bool} {l:List α} {i:Nat} (h:i<l.length) (hf:f l[i]=true) (hn:∀j (h:j<i) (h2:j<l.length),f l[j]=false):l.findIdx? f=some i:=
 List.findIdx?_eq_some_iff_getElem.2 ⟨h,hf,λj hj=>by rw [hn j hj (by omega)];simp⟩
theorem nA {α:Type} {f:α->Bool} {l:List α} {i:Nat} (h:l.length<=i) (hn:∀j (h:j<i) (h2:j<l.length),f l[j]=false):l.findIdx? f=none:=
 List.findIdx?_eq_none_iff.2 λx hx=>by
  obtain ⟨j,hj,rfl⟩:=zgo hx
  exact hn j (by omega) hj
def cS {α:Type} (f:α->Bool) (l:List α):Int:=match l.findIdx? f with|some k=>((k:Nat):Int)|none=> -1
theorem pP {α:Type} (f:α->Bool) (l:List α):decide (cS f l>=0)=l.any f:=by
 unfold cS
 cases h:l.findIdx? f with
 |none=>
  rw [List.findIdx?_eq_none_iff] at h
  have:l.any f=false:=by rw [<-Bool.not_eq_true,List.any_eq_true];rintro ⟨x,hx,hf⟩;rw [h x hx] at hf;cases hf
  rw [this];rfl
 |some k=>
  obtain ⟨hk,hf,_⟩:=List.findIdx?_eq_some_iff_getElem.1 h
  have:l.any f=true:=List.any_eq_true.2 ⟨_,zgm hk,hf⟩
  rw [this]
  show decide (((k:Nat):Int)>=0)=true
  rw [zde];omega
theorem auE (fid:FuncId) (caps:List PV) (f:Dt->Bool) (l:List Dt) (hl:l.length<4611686018427387904) (hf:∀p,PF Tryz.prog fid ([.agg p.cells]++caps) (.val (.bool (f p)))):PF Tryz.prog 94 [.seq (l.map Dt.cells), .fn fid caps] (.val (.int .i64 (cS f l))):=by
 refine aG aF Tryz.func94 (by kernel_rfl) rfl rfl rfl rfl (λst=> ?_)
 (try apply wO pk;rfl);(repeat' first|show Cn _;constructor|apply wC pk;rfl;rfl|apply wE pk;rfl;rfl|apply wX pk;rfl|apply wN pk;rfl|apply wD pk [] [];kernel_rfl;rfl;rfl|apply gD;simp only [zqt,zqf]|refine aB rfl ?_ ?_<;>intro h<;>(try simp at h)<;>try omega|(refine aC ?_;refine ⟨_,_,_,rfl,zwr _,zsr _, ?_,rfl⟩;try rfl)|intros;(try simp only [zql]);omega)
 refine aK (X:={x:Nat//x<=l.length/\∀j (h:j<x) (h2:j<l.length),f l[j]=false}) (λi=>(((((St.nil 19 st).pv 0 (.seq (l.map Dt.cells))).pv 1 (.fn fid caps)).pv 7 ((PV.val (Value.int .i64 ((((l.map Dt.cells)).length:Nat)))))).pv 8 ((PV.val (Value.int .i64 ((i.1:Nat))))))) (λi=>l.length-i.1) ⟨0,by omega,by omega⟩ ?_ (λi=> ?_)
 ·((repeat (first|refine Sub.pv ?_ rfl|refine Sub.var ?_ rfl rfl));exact Sub.nil _ _ _ (zsr _) rfl)
 obtain ⟨i,hi,hinv⟩:=i
 dsimp only
 (try apply wO pk;rfl);(repeat' first|show Cn _;constructor|apply wC pk;rfl;rfl|apply wE pk;rfl;rfl|apply wX pk;rfl|apply wN pk;rfl|apply wD pk [] [];kernel_rfl;rfl;rfl|apply gD;simp only [zqt,zqf]|refine aB rfl ?_ ?_<;>intro h<;>(try simp at h)<;>try omega|(refine aC ?_;refine ⟨_,_,_,rfl,zwr _,zsr _, ?_,rfl⟩;try first|rfl|(first|unfold cS;rw [nO ‹_› ‹_› hinv];done|unfold cS;rw [nA ‹_› hinv]);done)|(apply aH;rfl;rfl;rfl;(intro _;apply hf<;>first|assumption|omega);rotate_left;rfl;rfl)|apply aP pk;(iterate 6 rfl);rotate_left;rfl;(intro hw;rfl);(intro hw;apply aJ<;>omega);(intro _;rfl);rfl|(refine ⟨⟨i+1,by omega,λj h1 h2=>by rcases zls.1 h1 with q|q;exact hinv j q h2;subst q;assumption⟩, ?_,by simp only;omega⟩;((repeat (first|refine Sub.pv ?_ rfl|refine Sub.var ?_ rfl rfl));exact Sub.nil _ _ _ (zsr _) rfl))|intros;(try simp only [zql]);omega)
theorem adG (fid:FuncId) (caps:List PV) (f:Ln->Bool) (l:List Ln) (hl:l.length<4611686018427387904) (hf:∀p,PF Tryz.prog fid ([.agg p.cells]++caps) (.val (.bool (f p)))):PF Tryz.prog 108 [.seq (l.map Ln.cells), .fn fid caps] (.val (.int .i64 (cS f l))):=by
 refine aG aF Tryz.func108 (by kernel_rfl) rfl rfl rfl rfl (λst=> ?_)
 (try apply wO pk;rfl);(repeat' ((show Cn _;constructor)))
 refine aK (X:={x:Nat//x<=l.length/\∀j (h:j<x) (h2:j<l.length),f l[j]=false}) (λi=>(((((St.nil 19 st).pv 0 (.seq (l.map Ln.cells))).pv 1 (.fn fid caps)).pv 7 ((PV.val (Value.int .i64 ((((l.map Ln.cells)).length:Nat)))))).pv 8 ((PV.val (Value.int .i64 ((i.1:Nat))))))) (λi=>l.length-i.1) ⟨0,by omega,by omega⟩ ?_ (λi=> ?_)
 ·((repeat refine Sub.pv ?_ rfl);exact Sub.nil _ _ _ (zsr _) rfl)
 obtain ⟨i,hi,hinv⟩:=i
 dsimp only
 (try apply wO pk;rfl);(repeat' first|show Cn _;constructor|apply wC pk;rfl;rfl|apply wE pk;rfl;rfl|refine aB rfl ?_ ?_<;>intro h<;>(try simp at h)<;>try omega|(refine aC ?_;refine ⟨_,_,_,rfl,zwr _,zsr _, ?_,rfl⟩;try first|rfl|(first|unfold cS;rw [nO ‹_› ‹_› hinv];done|unfold cS;rw [nA ‹_› hinv]);done)|(apply aH;rfl;rfl;rfl;(intro _;apply hf<;>first|assumption|omega);rotate_left;rfl;rfl)|apply aP pk;(iterate 6 rfl);rotate_left;rfl;(intro hw;rfl);(intro hw;apply aJ<;>omega);(intro _;rfl);rfl|refine ⟨⟨i+1,by omega,λj h1 h2=>by rcases zls.1 h1 with q|q;exact hinv j q h2;subst q;assumption⟩, ?_,by simp only;omega⟩;((repeat refine Sub.pv ?_ rfl);exact Sub.nil _ _ _ (zsr _) rfl)|intros;(try simp only [zql]);omega)
theorem apP (l:List Dt) (x:Dt) (hl:l.length<4611686018427387904):PF Tryz.prog 95 [.seq (l.map Dt.cells), .agg x.cells] (.val (.int .i64 (cS (λy=>decide (x=y)) l))):=by
 refine aG aF Tryz.func95 (by kernel_rfl) rfl rfl rfl rfl (λst=> ?_)
 (try apply wO pk;rfl);(repeat' first|show Cn _;constructor|apply wC pk;rfl;rfl|apply wE pk;rfl;rfl|apply wX pk;rfl|apply wN pk;rfl|apply wD pk [] [];kernel_rfl;rfl;rfl|apply gD;simp only [zqt,zqf]|refine aB rfl ?_ ?_<;>intro h<;>(try simp at h)<;>try omega|(refine aC ?_;refine ⟨_,_,_,rfl,zwr _,zsr _, ?_,rfl⟩;try rfl)|intros;(try simp only [zql]);omega)
 refine aK (X:={y:Nat//y<=l.length/\∀j (h:j<y) (h2:j<l.length),decide (x=l[j])=false}) (λi=>(((((St.nil 19 st).pv 0 (.seq (l.map Dt.cells))).var 3 59 (x.cells)).pv 7 ((PV.val (Value.int .i64 ((((l.map Dt.cells)).length:Nat)))))).pv 8 ((PV.val (Value.int .i64 ((i.1:Nat))))))) (λi=>l.length-i.1) ⟨0,by omega,by omega⟩ ?_ (λi=> ?_)
 ·((repeat (first|refine Sub.pv ?_ rfl|refine Sub.var ?_ rfl rfl));exact Sub.nil _ _ _ (zsr _) rfl)
 obtain ⟨i,h1,hinv⟩:=i
 dsimp only
 (try apply wO pk;rfl);(repeat' first|show Cn _;constructor|apply wC pk;rfl;rfl|apply wE pk;rfl;rfl|apply wX pk;rfl|apply wN pk;rfl|apply wD pk [] [];kernel_rfl;rfl;rfl|apply gD;simp only [zqt,zqf]|refine aB rfl ?_ ?_<;>intro h<;>(try simp at h)<;>try omega|(refine aC ?_;refine ⟨_,_,_,rfl,zwr _,zsr _, ?_,rfl⟩;try first|rfl|(first|unfold cS;rw [nO (f:=λy=>decide (x=y)) ‹_› (by simp_all [Dt.ext_iff]) hinv];done|(unfold cS;rw [nA (f:=λy=>decide (x=y)) ‹_› hinv]));done)|apply aP pk;(iterate 6 rfl);rotate_left;rfl;(intro hw;rfl);(intro hw;apply aJ<;>omega);(intro _;rfl);rfl|(refine ⟨⟨i+1,by omega,λj h1 h2=>by rcases zls.1 h1 with q|q;exact hinv j q h2;subst q;exact decide_eq_false (by rw [Dt.ext_iff];simp_all)⟩, ?_,by simp only;omega⟩;((repeat (first|refine Sub.pv ?_ rfl|refine Sub.var ?_ rfl rfl));exact Sub.nil _ _ _ (zsr _) rfl))|intros;(try simp only [zql]);omega)
theorem abR (l:List Dt) (x:Dt) (hl:l.length<4611686018427387904):PF Tryz.prog 49 [.seq (l.map Dt.cells), .agg x.cells] (.val (.bool (l.any λy=>decide (x=y)))):=by
 refine aG aF Tryz.func49 (by kernel_rfl) rfl rfl rfl rfl (λst=> ?_)
 (try apply wO pk;rfl);(repeat' first|show Cn _;constructor|apply wC pk;rfl;rfl|apply wE pk;rfl;rfl|apply wX pk;rfl|apply wN pk;rfl|apply wD pk [] [];kernel_rfl;rfl;rfl|apply gD;simp only [zqt,zqf]|refine aB rfl ?_ ?_<;>intro h<;>(try simp at h)<;>try omega|(refine aC ?_;refine ⟨_,_,_,rfl,zwr _,zsr _, ?_,rfl⟩;try first|rfl|(rw [pP]);done)|(apply aH;rfl;rfl;rfl;(intro _;apply (apP l x hl)<;>first|assumption|omega);rotate_left;rfl;rfl)|intros;(try simp only [zql]);omega)
end
end Go.Proofs.YtloecjjehapblaaGreatDoor
namespace Go.Proofs.YtloecjjehapblaaGreatDoor
open Go Go.Proofs Go.Shelf
def aGY :Ren:=⟨λx=>match x with
 |189=>183
 |125=>118
 |257=>281
 |128=>196
 |129=>197
 |294=>351
 |295=>352
 |296=>353
 |297=>354
 |298=>355
 |299=>356
 |216=>357
 |300=>358
 |301=>359
 |328=>386
 |329=>290
 |330=>291
 |331=>387
 |332=>388
 |215=>119
 |343=>408
 |n=>n,λx=>match x with
 |28=>31
 |3=>3
 |46=>200
 |0=>0
 |51=>275
 |53=>277
 |4=>4
 |183=>269
 |182=>268
 |131=>132
 |5=>5
 |9=>9
 |218=>359
 |222=>363
 |228=>418
 |229=>419
 |n=>n,λx=>x⟩
theorem aG8 :Lays.n189 Tryz.prog aGY where
 mixed:=rfl
 f125:=Tryz.func118.trans (by kernel_rfl)
 f128:=Tryz.func196.trans (by kernel_rfl)
 f129:=Tryz.func197.trans (by kernel_rfl)
 f189:=Tryz.func183.trans (by kernel_rfl)
 f215:=Tryz.func119.trans (by kernel_rfl)
 f216:=Tryz.func357.trans (by kernel_rfl)
 f257:=Tryz.func281.trans (by kernel_rfl)
 f294:=Tryz.func351.trans (by kernel_rfl)
 f295:=Tryz.func352.trans (by kernel_rfl)
 f296:=Tryz.func353.trans (by kernel_rfl)
 f297:=Tryz.func354.trans (by kernel_rfl)
 f298:=Tryz.func355.trans (by kernel_rfl)
 f299:=Tryz.func356.trans (by kernel_rfl)
 f300:=Tryz.func358.trans (by kernel_rfl)
 f301:=Tryz.func359.trans (by kernel_rfl)
 f328:=Tryz.func386.trans (by kernel_rfl)
 f329:=Tryz.func290.trans (by kernel_rfl)
 f330:=Tryz.func291.trans (by kernel_rfl)
 f331:=Tryz.func387.trans (by kernel_rfl)
 f332:=Tryz.func388.trans (by kernel_rfl)
 f343:=Tryz.func408.trans (by kernel_rfl)
 t0:=Tryz.underlying0
 a0:=Tryz.isAgg0
 z0:=Tryz.sizeOf0
 v0:=Tryz.zeroValue0
 t3:=Tryz.underlying3
 a3:=Tryz.isAgg3
 z3:=Tryz.sizeOf3
 v3:=Tryz.zeroValue3
 t4:=Tryz.underlying4
 a4:=Tryz.isAgg4
 z4:=Tryz.sizeOf4
 v4:=Tryz.zeroValue4
 t5:=Tryz.underlying5
 a5:=Tryz.isAgg5
 z5:=Tryz.sizeOf5
 v5:=Tryz.zeroValue5
 t9:=Tryz.underlying9
 a9:=Tryz.isAgg9
 z9:=Tryz.sizeOf9
 v9:=Tryz.zeroValue9
 t28:=Tryz.underlying31
 a28:=Tryz.isAgg31
 z28:=Tryz.sizeOf31
 v28:=Tryz.zeroValue31
 t46:=Tryz.underlying200
 a46:=Tryz.isAgg200
 z46:=Tryz.sizeOf200
 v46:=Tryz.zeroValue200
 t51:=Tryz.underlying275
 a51:=Tryz.isAgg275
 z51:=Tryz.sizeOf275
 v51:=Tryz.zeroValue275
 t53:=Tryz.underlying277
 a53:=Tryz.isAgg277
 z53:=Tryz.sizeOf277
 v53:=Tryz.zeroValue277
 t131:=Tryz.underlying132
 a131:=Tryz.isAgg132
 z131:=Tryz.sizeOf132
 v131:=Tryz.zeroValue132
 t182:=Tryz.underlying268
 a182:=Tryz.isAgg268
 z182:=Tryz.sizeOf268
 v182:=Tryz.zeroValue268
 t183:=Tryz.underlying269
 a183:=Tryz.isAgg269
 z183:=Tryz.sizeOf269
 v183:=Tryz.zeroValue269
 t218:=Tryz.underlying359
 a218:=Tryz.isAgg359
 z218:=Tryz.sizeOf359
 v218:=Tryz.zeroValue359
 t222:=Tryz.underlying363
 a222:=Tryz.isAgg363
 z222:=Tryz.sizeOf363
 v222:=Tryz.zeroValue363
 t228:=Tryz.underlying418
 a228:=Tryz.isAgg418
 z228:=Tryz.sizeOf418
 v228:=Tryz.zeroValue418
 t229:=Tryz.underlying419
 a229:=Tryz.isAgg419
 z229:=Tryz.sizeOf419
 v229:=Tryz.zeroValue419
def renT :Ren:=⟨λx=>match x with
 |160=>256
 |232=>326
 |231=>325
 |227=>327
 |234=>329
 |233=>328
 |236=>331
 |235=>330
 |228=>375
 |271=>378
 |151=>377
 |197=>376
 |120=>403
 |152=>402
 |260=>401
 |137=>415
 |119=>416
 |224=>406
 |225=>405
 |217=>404
 |266=>417
 |n=>n,λx=>match x with
 |9=>9
 |4=>4
 |3=>3
 |5=>5
 |117=>395
 |116=>394
 |0=>0
 |124=>398
 |21=>21
 |105=>426
 |46=>200
 |119=>450
 |139=>453
 |138=>452
 |n=>n,λx=>match x with
 |3=>1
 |4=>2
 |n=>n⟩
theorem aGT :Lays.n160 Tryz.prog renT where
 mixed:=rfl
 f119:=Tryz.func416.trans (by kernel_rfl)
 f120:=Tryz.func403.trans (by kernel_rfl)
 f137:=Tryz.func415.trans (by kernel_rfl)
 f151:=Tryz.func377.trans (by kernel_rfl)
 f152:=Tryz.func402.trans (by kernel_rfl)
 f160:=Tryz.func256.trans (by kernel_rfl)
 f197:=Tryz.func376.trans (by kernel_rfl)
 f217:=Tryz.func404.trans (by kernel_rfl)
 f224:=Tryz.func406.trans (by kernel_rfl)
 f225:=Tryz.func405.trans (by kernel_rfl)
 f227:=Tryz.func327.trans (by kernel_rfl)
 f228:=Tryz.func375.trans (by kernel_rfl)
 f231:=Tryz.func325.trans (by kernel_rfl)
 f232:=Tryz.func326.trans (by kernel_rfl)
 f233:=Tryz.func328.trans (by kernel_rfl)
 f234:=Tryz.func329.trans (by kernel_rfl)
 f235:=Tryz.func330.trans (by kernel_rfl)
 f236:=Tryz.func331.trans (by kernel_rfl)
 f260:=Tryz.func401.trans (by kernel_rfl)
 f266:=Tryz.func417.trans (by kernel_rfl)
 f271:=Tryz.func378.trans (by kernel_rfl)
 t0:=Tryz.underlying0
 a0:=Tryz.isAgg0
 z0:=Tryz.sizeOf0
 v0:=Tryz.zeroValue0
 t3:=Tryz.underlying3
 a3:=Tryz.isAgg3
 z3:=Tryz.sizeOf3
 v3:=Tryz.zeroValue3
 t4:=Tryz.underlying4
 a4:=Tryz.isAgg4
 z4:=Tryz.sizeOf4
 v4:=Tryz.zeroValue4
 t5:=Tryz.underlying5
 a5:=Tryz.isAgg5
 z5:=Tryz.sizeOf5
 v5:=Tryz.zeroValue5
 t9:=Tryz.underlying9
 a9:=Tryz.isAgg9
 z9:=Tryz.sizeOf9
 v9:=Tryz.zeroValue9
 t21:=Tryz.underlying21
 a21:=Tryz.isAgg21
 z21:=Tryz.sizeOf21
 v21:=Tryz.zeroValue21
 t46:=Tryz.underlying200
 a46:=Tryz.isAgg200
 z46:=Tryz.sizeOf200
 v46:=Tryz.zeroValue200
 t105:=Tryz.underlying426
 a105:=Tryz.isAgg426
 z105:=Tryz.sizeOf426
 v105:=Tryz.zeroValue426
 t116:=Tryz.underlying394
 a116:=Tryz.isAgg394
 z116:=Tryz.sizeOf394
 t117:=Tryz.underlying395
 a117:=Tryz.isAgg395
 z117:=Tryz.sizeOf395
 v117:=Tryz.zeroValue395
 t119:=Tryz.underlying450
 a119:=Tryz.isAgg450
 z119:=Tryz.sizeOf450
 t124:=Tryz.underlying398
 a124:=Tryz.isAgg398
 z124:=Tryz.sizeOf398
 v124:=Tryz.zeroValue398
 t138:=Tryz.underlying452
 a138:=Tryz.isAgg452
 z138:=Tryz.sizeOf452
 v138:=Tryz.zeroValue452
 t139:=Tryz.underlying453
 a139:=Tryz.isAgg453
 z139:=Tryz.sizeOf453
 v139:=Tryz.zeroValue453
 g3:=by kernel_rfl
 g4:=by kernel_rfl
def aGS :Ren:=⟨λx=>match x with
 |6=>287
 |15=>118
 |14=>364
 |28=>196
 |29=>197
 |20=>390
 |21=>391
 |22=>392
 |23=>393
 |24=>394
 |25=>395
 |26=>396
 |27=>397
 |46=>411
 |47=>290
 |48=>291
 |49=>412
 |50=>413
 |57=>419
 |n=>n,λx=>match x with
 |22=>78
 |24=>190
 |25=>358
 |3=>3
 |39=>200
 |0=>0
 |53=>275
 |55=>277
 |4=>4
 |46=>269
 |45=>268
 |50=>132
 |5=>5
 |9=>9
 |66=>359
 |70=>363
 |76=>418
 |77=>419
 |n=>n,λx=>x⟩
theorem aG9 :SlLaysF0.n6 Tryz.prog aGS where
  mixed:=rfl
  f6 := ⟨ "slices.SortFunc[[]homestead/api.Part,homestead/api.Part]", by decide, Tryz.func287.trans (by kernel_rfl)⟩
  f14 := ⟨ "slices.pdqsortCmpFunc[homestead/api.Part]", by decide, Tryz.func364.trans (by kernel_rfl)⟩
  f15:=Tryz.func118.trans (by kernel_rfl)
  f20 := ⟨ "slices.insertionSortCmpFunc[homestead/api.Part]", by decide, Tryz.func390.trans (by kernel_rfl)⟩
  f21 := ⟨ "slices.heapSortCmpFunc[homestead/api.Part]", by decide, Tryz.func391.trans (by kernel_rfl)⟩
  f22 := ⟨ "slices.breakPatternsCmpFunc[homestead/api.Part]", by decide, Tryz.func392.trans (by kernel_rfl)⟩
  f23 := ⟨ "slices.choosePivotCmpFunc[homestead/api.Part]", by decide, Tryz.func393.trans (by kernel_rfl)⟩
  f24 := ⟨ "slices.reverseRangeCmpFunc[homestead/api.Part]", by decide, Tryz.func394.trans (by kernel_rfl)⟩
  f25 := ⟨ "slices.partialInsertionSortCmpFunc[homestead/api.Part]", by decide, Tryz.func395.trans (by kernel_rfl)⟩
  f26 := ⟨ "slices.partitionEqualCmpFunc[homestead/api.Part]", by decide, Tryz.func396.trans (by kernel_rfl)⟩
  f27 := ⟨ "slices.partitionCmpFunc[homestead/api.Part]", by decide, Tryz.func397.trans (by kernel_rfl)⟩
  f28:=Tryz.func196.trans (by kernel_rfl)
  f29:=Tryz.func197.trans (by kernel_rfl)
  f46 := ⟨ "slices.siftDownCmpFunc[homestead/api.Part]", by decide, Tryz.func411.trans (by kernel_rfl)⟩
  f47:=Tryz.func290.trans (by kernel_rfl)
  f48:=Tryz.func291.trans (by kernel_rfl)
  f49 := ⟨ "slices.medianAdjacentCmpFunc[homestead/api.Part]", by decide, Tryz.func412.trans (by kernel_rfl)⟩
  f50 := ⟨ "slices.medianCmpFunc[homestead/api.Part]", by decide, Tryz.func413.trans (by kernel_rfl)⟩
  f57 := ⟨ "slices.order2CmpFunc[homestead/api.Part]", by decide, Tryz.func419.trans (by kernel_rfl)⟩
  t0:=Tryz.underlying0
  a0:=Tryz.isAgg0
  z0:=Tryz.sizeOf0
  v0:=Tryz.zeroValue0
  t3:=Tryz.underlying3
  a3:=Tryz.isAgg3
  z3:=Tryz.sizeOf3
  v3:=Tryz.zeroValue3
  t4:=Tryz.underlying4
  a4:=Tryz.isAgg4
  z4:=Tryz.sizeOf4
  v4:=Tryz.zeroValue4
  t5:=Tryz.underlying5
  a5:=Tryz.isAgg5
  z5:=Tryz.sizeOf5
  v5:=Tryz.zeroValue5
  t9:=Tryz.underlying9
  a9:=Tryz.isAgg9
  z9:=Tryz.sizeOf9
  v9:=Tryz.zeroValue9
  t22:=Tryz.underlying78
  a22:=Tryz.isAgg78
  z22:=Tryz.sizeOf78
  v22:=Tryz.zeroValue78
  t25:=Tryz.underlying358
  a25:=Tryz.isAgg358
  z25:=Tryz.sizeOf358
  v25:=Tryz.zeroValue358
  t39:=Tryz.underlying200
  a39:=Tryz.isAgg200
  z39:=Tryz.sizeOf200
  v39:=Tryz.zeroValue200
  t45:=Tryz.underlying268
  a45:=Tryz.isAgg268
  z45:=Tryz.sizeOf268
  v45:=Tryz.zeroValue268
  t46:=Tryz.underlying269
  a46:=Tryz.isAgg269
  z46:=Tryz.sizeOf269
  v46:=Tryz.zeroValue269
  t50:=Tryz.underlying132
  a50:=Tryz.isAgg132
  z50:=Tryz.sizeOf132
  v50:=Tryz.zeroValue132
  t53:=Tryz.underlying275
  a53:=Tryz.isAgg275
  z53:=Tryz.sizeOf275
  v53:=Tryz.zeroValue275
  t55:=Tryz.underlying277
  a55:=Tryz.isAgg277
  z55:=Tryz.sizeOf277
  v55:=Tryz.zeroValue277
  t66:=Tryz.underlying359
  a66:=Tryz.isAgg359
  z66:=Tryz.sizeOf359
  v66:=Tryz.zeroValue359
  t70:=Tryz.underlying363
  a70:=Tryz.isAgg363
  z70:=Tryz.sizeOf363
  v70:=Tryz.zeroValue363
  t76:=Tryz.underlying418
  a76:=Tryz.isAgg418
  z76:=Tryz.sizeOf418
  v76:=Tryz.zeroValue418
  t77:=Tryz.underlying419
  a77:=Tryz.isAgg419
  z77:=Tryz.sizeOf419
  v77:=Tryz.zeroValue419
end Go.Proofs.YtloecjjehapblaaGreatDoor
