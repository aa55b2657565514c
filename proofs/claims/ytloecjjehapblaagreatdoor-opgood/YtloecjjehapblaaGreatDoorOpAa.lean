import Derived.Test.YtloecjjehapblaaGreatDoorProg
import Derived.Test.YtloecjjehapblaaGreatDoorAbsE
import Derived.Test.YtloecjjehapblaaGreatDoorAbsI
set_option linter.unusedSimpArgs false
set_option linter.unusedVariables false
namespace Go.Proofs.YtloecjjehapblaaGreatDoor
open Go Go.Abs
set_option maxRecDepth 10000
set_option maxHeartbeats 4000000
abbrev z0:Option TI:=some ⟨1,false,[.nilFunc], .other,false⟩
abbrev z1:Option TI:=some ⟨1,false,[.pointer none], .other,false⟩
abbrev z2:Option TI:=some ⟨3,true,[.int .i64 0, .int .i64 0, .int .i64 0], .struct [(3,0),(3,1),(3,2)],true⟩
abbrev z3:Option TI:=some ⟨1,false,[.int .i64 0], .int .i64,true⟩
abbrev z4:Option TI:=some ⟨1,false,[.int .u8 0], .int .u8,true⟩
abbrev z5:Option TI:=some ⟨1,false,[.int .u64 0], .int .u64,true⟩
abbrev z6:Option TI:=some ⟨1,false,[.string ⟨#[]⟩], .str,true⟩
abbrev z7:Option TI:=some ⟨1,false,[.int .i32 0], .int .i32,true⟩
abbrev z8:Option TI:=some ⟨4,true,[.int .i64 0, .int .i64 0, .bool false, .int .u8 0], .struct [(2,0),(3,1),(4,2),(6,3)],true⟩
abbrev z9:Option TI:=some ⟨2,true,[.string ⟨#[]⟩, .int .u64 0], .struct [(9,0),(12,1)],false⟩
abbrev z10:Option TI:=some ⟨1,true,[.pointer none], .struct [(17,0)],false⟩
abbrev z11:Option TI:=some ⟨1,true,[.slice none 0 0], .struct [(22,0)],false⟩
abbrev z12:Option TI:=some ⟨1,true,[.slice none 0 0], .struct [(25,0)],false⟩
abbrev z13:Option TI:=some ⟨1,false,[.slice none 0 0], .slice 3,false⟩
abbrev z14:Option TI:=some ⟨7,true,[.int .i64 0, .slice none 0 0, .slice none 0 0, .slice none 0 0, .slice none 0 0, .slice none 0 0, .int .i64 0], .struct [(3,0),(28,1),(29,2),(29,3),(30,4),(31,5),(3,6)],false⟩
abbrev z15:Option TI:=some ⟨1,false,[.slice none 0 0], .slice 57,false⟩
abbrev z16:Option TI:=some ⟨3,true,[.int .i64 0, .int .i64 0, .string ⟨#[]⟩], .struct [(3,0),(3,1),(9,2)],true⟩
abbrev z17:Option TI:=some ⟨2,true,[.int .i64 0, .int .i64 0], .struct [(3,0),(3,1)],true⟩
abbrev z18:Option TI:=some ⟨11,true,[.int .i64 0, .int .i64 0, .int .i64 0, .int .i64 0, .slice none 0 0, .int .i64 0, .int .i64 0, .string ⟨#[]⟩, .int .i64 0, .int .i64 0, .int .i64 0], .struct [(3,0),(3,1),(3,2),(3,3),(35,4),(57,5),(59,8),(3,10)],false⟩
abbrev z19:Option TI:=some ⟨3,true,[.int .i64 0, .slice none 0 0, .slice none 0 0], .struct [(3,0),(65,1),(37,2)],false⟩
abbrev z20:Option TI:=some ⟨5,true,[.int .i64 0, .int .i64 0, .int .i64 0, .string ⟨#[]⟩, .slice none 0 0], .struct [(3,0),(57,1),(78,4)],false⟩
abbrev z21:Option TI:=some ⟨1,false,[.slice none 0 0], .slice 67,false⟩
abbrev z22:Option TI:=some ⟨1,true,[.slice none 0 0], .struct [(84,0)],false⟩
abbrev z23:Option TI:=some ⟨6,true,[.int .i64 0, .int .i64 0, .int .i64 0, .int .i64 0, .string ⟨#[]⟩, .slice none 0 0], .struct [(3,0),(3,1),(57,2),(29,5)],false⟩
abbrev z24:Option TI:=some ⟨7,true,[.int .i64 0, .int .i64 0, .int .i64 0, .int .i64 0, .int .i64 0, .string ⟨#[]⟩, .slice none 0 0], .struct [(3,0),(88,1)],false⟩
abbrev z25:Option TI:=some ⟨3,true,[.slice none 0 0, .int .i64 0, .slice none 0 0], .struct [(35,0),(3,1),(37,2)],false⟩
abbrev z26:Option TI:=some ⟨4,true,[.int .i64 0, .int .i64 0, .int .i64 0, .slice none 0 0], .struct [(47,0),(48,3)],false⟩
abbrev z27:Option TI:=some ⟨6,true,[.string ⟨#[]⟩, .slice none 0 0, .slice none 0 0, .slice none 0 0, .slice none 0 0, .slice none 0 0], .struct [(9,0),(117,1),(31,2),(29,3),(118,4),(119,5)],false⟩
abbrev z28:Option TI:=some ⟨8,true,[.string ⟨#[]⟩, .slice none 0 0, .slice none 0 0, .slice none 0 0, .slice none 0 0, .slice none 0 0, .slice none 0 0, .slice none 0 0], .struct [(121,0),(98,6),(27,7)],false⟩
abbrev z29:Option TI:=some ⟨3,true,[.slice none 0 0, .slice none 0 0, .int .i64 0], .struct [(127,0),(27,1),(3,2)],false⟩
abbrev z30:Option TI:=some ⟨4,true,[.string ⟨#[]⟩, .int .i64 0, .int .i64 0, .bool false], .struct [(9,0),(3,1),(3,2),(4,3)],true⟩
abbrev z31:Option TI:=some ⟨2,true,[.slice none 0 0, .slice none 0 0], .struct [(35,0),(37,1)],false⟩
abbrev z32:Option TI:=some ⟨1,true,[.nilFunc], .struct [(173,0)],false⟩
abbrev z33:Option TI:=some ⟨11,true,[.int .i64 0, .int .i64 0, .string ⟨#[]⟩, .int .i64 0, .int .i64 0, .int .i64 0, .int .i64 0, .int .i64 0, .int .i64 0, .int .i64 0, .bool false], .struct [(57,0),(59,3),(3,5),(3,6),(59,7),(3,9),(4,10)],true⟩
abbrev z34:Option TI:=some ⟨2,true,[.slice none 0 0, .slice none 0 0], .struct [(98,0),(100,1)],false⟩
abbrev z35:Option TI:=some ⟨2,true,[.slice none 0 0, .slice none 0 0], .struct [(98,0),(228,1)],false⟩
abbrev z36:Option TI:=some ⟨3,true,[.int .i64 0, .int .i64 0, .int .i64 0], .struct [(3,0),(59,1)],true⟩
abbrev z37:Option TI:=some ⟨3,true,[.int .i64 0, .bool false, .nilFunc], .struct [(3,0),(4,1),(339,2)],false⟩
abbrev z38:Option TI:=some ⟨3,true,[.int .i64 0, .int .i64 0, .int .i64 0], .struct [(59,0),(3,2)],true⟩
abbrev z39:Option TI:=some ⟨2,true,[.int .u8 0, .int .u8 0], .struct [(5,0),(5,1)],true⟩
abbrev z40:Option TI:=some ⟨4,true,[.pointer none, .pointer none, .pointer none, .string ⟨#[]⟩], .struct [(17,0),(17,1),(17,2),(9,3)],false⟩
abbrev z41:Option TI:=some ⟨0,true,[], .struct [(461,0)],false⟩
abbrev z42:Option TI:=some ⟨11,true,[.int .u64 0, .int .u64 0, .int .u32 0, .int .u8 0, .int .u8 0, .int .u8 0, .int .u8 0, .nilFunc, .pointer none, .int .i32 0, .int .i32 0], .struct [(12,0),(12,1),(275,2),(465,3),(5,4),(5,5),(466,6),(467,7),(468,8),(469,9),(470,10)],false⟩
def tt :TT:=[none,z0,z3,z3,some ⟨1,false,[.bool false], .bool,true⟩,z4,z4,z8,z8,z6,z6,z6,z5,z9,z9,z1,z1,z1,z10,z10,some ⟨1,false,[.nilIface], .other,false⟩,z7,some ⟨1,false,[.slice none 0 0], .slice 121,false⟩,z11,z11,some ⟨1,false,[.slice none 0 0], .slice 86,false⟩,z12,z12,some ⟨1,false,[.slice none 0 0], .slice 206,false⟩,some ⟨1,false,[.slice none 0 0], .slice 88,false⟩,some ⟨1,false,[.slice none 0 0], .slice 90,false⟩,z13,z14,z14,z15,z15,some ⟨1,false,[.slice none 0 0], .slice 96,false⟩,some ⟨1,false,[.slice none 0 0], .slice 59,false⟩,z0,z0,z0,z0,z0,z0,z0,some ⟨1,false,[.slice none 0 0], .slice 61,false⟩,z2,z2,z13,z0,z0,z3,none,z0,z0,z0,z16,z16,z17,z17,z18,z18,z0,z0,z0,some ⟨1,false,[.slice none 0 0], .slice 80,false⟩,z19,z19,none,z0,z0,z0,z0,some ⟨1,false,[.int .u16 0], .int .u16,true⟩,z0,z0,z0,z0,some ⟨1,false,[.slice none 0 0], .slice 190,false⟩,z20,z20,z0,z0,z0,z21,z22,z22,z23,z23,z24,z24,none,z0,none,z0,z0,some ⟨2,true,[.int .i64 0, .int .i64 0], .arr 2 3,true⟩,z0,some ⟨1,false,[.slice none 0 0], .slice 35,false⟩,z0,some ⟨1,false,[.slice none 0 0], .slice 105,false⟩,none,z0,z0,z25,z25,z0,z0,z0,z0,z0,z0,z26,z26,z0,z0,z0,some ⟨1,false,[.slice none 0 0], .slice 136,false⟩,some ⟨1,false,[.slice none 0 0], .slice 182,false⟩,some ⟨1,false,[.slice none 0 0], .slice 184,false⟩,z27,z27,z28,z28,z0,z0,some ⟨5,true,[.nilFunc, .nilFunc, .nilFunc, .nilFunc, .nilFunc], .arr 5 124,false⟩,z21,z29,z29,none,z0,none,z0,z0,z30,z30,none,z0,some ⟨1,false,[.map none], .map 59 96,false⟩,none,z0,z0,z0,z0,z0,z0,z0,z0,z0,z0,z0,some ⟨1,false,[.slice none 0 0], .slice 156,false⟩,none,z0,z31,z31,z0,z0,z0,z0,z0,z0,z0,z0,z0,z0,z0,z0,z0,z0,some ⟨1,false,[.slice none 0 0], .slice 175,false⟩,z0,z0,z32,z32,z0,z0,some ⟨1,false,[.map none], .map 3 4,false⟩,none,z0,z2,z2,z2,z2,some ⟨1,false,[.map none], .map 3 3,false⟩,none,z0,z0,z33,z33,z0,z0,z0,z0,some ⟨1,false,[.slice none 0 0], .slice 5,false⟩,z0,z0,z0,z0,z5,z0,z0,z0,z0,z2,z2,none,z0,none,z0,z0,z0,z0,z0,z0,z0,z0,none,z0,z34,z34,z0,z1,z0,z0,z0,z0,some ⟨1,false,[.slice none 0 0], .slice 152,false⟩,z35,z35,z1,z0,z0,z0,z0,z0,z0,z0,z0,z0,z0,none,z0,z0,z0,z0,z0,z0,z1,z0,z0,z0,z0,z0,z0,z0,z0,z0,z0,z0,z0,some ⟨1,false,[.map none], .map 351 190,false⟩,none,z0,z0,z0,z0,z3,none,z0,z0,z0,z0,z0,some ⟨1,false,[.int .u32 0], .int .u32,true⟩,z0,z5,z0,z0,z0,none,z0,z0,z0,z0,z0,z0,z1,z0,z0,z0,z0,z0,z1,z0,z0,z0,z0,z0,z0,z0,some ⟨1,false,[.map none], .map 3 31,false⟩,z0,z0,none,z0,z0,z0,z0,some ⟨1,false,[.map none], .map 96 4,false⟩,z0,z0,z0,z0,z0,z0,z0,z0,z0,z0,z0,some ⟨1,false,[.map none], .map 3 314,false⟩,z0,z0,z0,z0,z0,z0,z0,z0,z0,z0,z0,z36,z36,z0,z0,some ⟨6,true,[.int .i64 0, .int .i64 0, .string ⟨#[]⟩, .int .i64 0, .int .i64 0, .string ⟨#[]⟩], .arr 2 57,true⟩,z0,z37,z37,some ⟨1,false,[.map none], .map 3 341,false⟩,z0,z0,z0,z0,z0,some ⟨1,false,[.map none], .map 59 3,false⟩,none,z38,z38,z0,z0,z0,some ⟨1,false,[.map none], .map 351 78,false⟩,z0,z0,z0,z5,z0,z0,z0,z1,z0,z0,z0,z0,some ⟨1,false,[.slice none 0 0], .slice 37,false⟩,z0,z0,z0,z0,z0,z0,z0,z0,z0,z0,z0,z0,z0,z0,z0,z0,z0,z0,z0,z0,z0,z0,z0,z0,none,none,none,z0,z0,z1,z0,z0,z0,none,z0,z0,z0,z0,z0,z0,z0,z0,z0,z0,z0,z0,z0,z0,z0,z1,none,z0,z0,z0,z0,z0,z0,none,z0,z0,z0,z0,z0,z0,z0,z0,z0,z0,z0,z0,z0,z0,z0,z0,z0,some ⟨3,true,[.int .i64 0, .int .i64 0, .int .i64 0], .arr 3 3,true⟩,z0,z0,z0,z0,z0,none,z39,z39,some ⟨32,true,[.int .u8 0, .int .u8 0, .int .u8 0, .int .u8 0, .int .u8 0, .int .u8 0, .int .u8 0, .int .u8 0, .int .u8 0, .int .u8 0, .int .u8 0, .int .u8 0, .int .u8 0, .int .u8 0, .int .u8 0, .int .u8 0, .int .u8 0, .int .u8 0, .int .u8 0, .int .u8 0, .int .u8 0, .int .u8 0, .int .u8 0, .int .u8 0, .int .u8 0, .int .u8 0, .int .u8 0, .int .u8 0, .int .u8 0, .int .u8 0, .int .u8 0, .int .u8 0], .arr 16 452,true⟩,z0,none,z0,z0,z0,z40,z40,some ⟨0,true,[], .arr 0 16,false⟩,z41,z41,z0,z4,z4,z0,z1,z7,z7,z42,z42,z1]
theorem aF :bM Tryz.prog tt:=aDo (by kernel_rfl)
theorem pk :Pk Tryz.prog tt:=⟨rfl,aF⟩
abbrev e0 :ByteArray:=⟨#[]⟩
def I1 (n:Int):List PV:=[.val (.int .i64 n)]
def S1 (s:ByteArray):List PV:=[.val (.string s)]
theorem I1.elem :Elem tt 3 I1 (λa=> .val (.int .i64 a)) 1:=⟨rfl,λ_=>rfl,λ_=>rfl,λ_=>rfl,λ_=>rfl⟩
structure Vl where
 kind:Int
 n:Int
 s:ByteArray
 deriving DecidableEq,Inhabited
def Vl.cells (a:Vl):List PV:=[.val (.int .i64 (a.kind)), .val (.int .i64 (a.n)), .val (.string (a.s))]
def Vl.zero :Vl:=⟨0,0,e0⟩
theorem Vl.ext_iff (a b:Vl):a=b↔a.kind=b.kind/\a.n=b.n/\a.s=b.s:=by cases a;cases b;simp
theorem Vl.elem :Elem tt 57 Vl.cells (λa=> .agg a.cells) 3:=⟨rfl,λ_=>rfl,λ_=>rfl,λ_=>rfl,λ_=>rfl⟩
structure Dt where
 dev:Int
 seq:Int
 deriving DecidableEq,Inhabited
def Dt.cells (a:Dt):List PV:=[.val (.int .i64 (a.dev)), .val (.int .i64 (a.seq))]
def Dt.zero :Dt:=⟨0,0⟩
theorem Dt.ext_iff (a b:Dt):a=b↔a.dev=b.dev/\a.seq=b.seq:=by cases a;cases b;simp
theorem Dt.eqb (a b:Dt):(decide (a.dev=b.dev)&&(decide (a.seq=b.seq)))=decide (a=b):=by rw [Bool.eq_iff_iff];simp [Dt.ext_iff]
theorem Dt.eqz (a:Dt):(decide (a.dev=0)&&(decide (a.seq=0)))=decide (a=Dt.zero):=by rw [Bool.eq_iff_iff];simp [Dt.ext_iff,Dt.zero]
structure Pt where
 val:Vl
 dot:Dt
 at_:Int
 time:Int
 after:Dt
 afterAt:Int
 gone:Bool
 deriving DecidableEq,Inhabited
def Pt.cells (a:Pt):List PV:=[.val (.int .i64 (a.val.kind)), .val (.int .i64 (a.val.n)), .val (.string (a.val.s)), .val (.int .i64 (a.dot.dev)), .val (.int .i64 (a.dot.seq)), .val (.int .i64 (a.at_)), .val (.int .i64 (a.time)), .val (.int .i64 (a.after.dev)), .val (.int .i64 (a.after.seq)), .val (.int .i64 (a.afterAt)), .val (.bool (a.gone))]
def Pt.zero :Pt:=⟨Vl.zero,Dt.zero,0,0,Dt.zero,0,false⟩
theorem Pt.ext_iff (a b:Pt):a=b↔a.val=b.val/\a.dot=b.dot/\a.at_=b.at_/\a.time=b.time/\a.after=b.after/\a.afterAt=b.afterAt/\a.gone=b.gone:=by cases a;cases b;simp
theorem Pt.elem :Elem tt 190 Pt.cells (λa=> .agg a.cells) 11:=⟨rfl,λ_=>rfl,λ_=>rfl,λ_=>rfl,λ_=>rfl⟩
structure Cl where
 kind:Int
 val:Vl
 parts:List Pt
 deriving DecidableEq,Inhabited
def Cl.cells (a:Cl):List PV:=[.val (.int .i64 (a.kind)), .val (.int .i64 (a.val.kind)), .val (.int .i64 (a.val.n)), .val (.string (a.val.s)), .seq ((a.parts).map Pt.cells)]
def Cl.zero :Cl:=⟨0,Vl.zero,[]⟩
theorem Cl.elem :Elem tt 80 Cl.cells (λa=> .agg a.cells) 5:=⟨rfl,λ_=>rfl,λ_=>rfl,λ_=>rfl,λ_=>rfl⟩
structure Ln where
 key:Int
 cells_:List Cl
 by_:List Dt
 deriving DecidableEq,Inhabited
def Ln.cells (a:Ln):List PV:=[.val (.int .i64 (a.key)), .seq ((a.cells_).map Cl.cells), .seq ((a.by_).map Dt.cells)]
def Ln.zero :Ln:=⟨0,[],[]⟩
theorem Ln.elem :Elem tt 67 Ln.cells (λa=> .agg a.cells) 3:=⟨rfl,λ_=>rfl,λ_=>rfl,λ_=>rfl,λ_=>rfl⟩
structure Da where
 lines:List Ln
 deriving DecidableEq,Inhabited
def Da.cells (a:Da):List PV:=[.seq ((a.lines).map Ln.cells)]
def Da.zero :Da:=⟨[]⟩
theorem Da.elem :Elem tt 86 Da.cells (λa=> .agg a.cells) 1:=⟨rfl,λ_=>rfl,λ_=>rfl,λ_=>rfl,λ_=>rfl⟩
structure Co where
 name:ByteArray
 kind:Int
 type_:Int
 null:Bool
 deriving DecidableEq,Inhabited
def Co.cells (a:Co):List PV:=[.val (.string (a.name)), .val (.int .i64 (a.kind)), .val (.int .i64 (a.type_)), .val (.bool (a.null))]
def Co.zero :Co:=⟨e0,0,0,false⟩
structure Fr where
 col:Int
 table:Int
 act:Int
 deriving DecidableEq,Inhabited
def Fr.cells (a:Fr):List PV:=[.val (.int .i64 (a.col)), .val (.int .i64 (a.table)), .val (.int .i64 (a.act))]
def Fr.zero :Fr:=⟨0,0,0⟩
structure Su where
 col:Int
 by_:Int
 max:Int
 deriving DecidableEq,Inhabited
def Su.cells (a:Su):List PV:=[.val (.int .i64 (a.col)), .val (.int .i64 (a.by_)), .val (.int .i64 (a.max))]
def Su.zero :Su:=⟨0,0,0⟩
theorem cX {st:aJ} {id:Nat} {o:Option AObj} (h:st id=none):StSub st (upd (upd st id o) id none):=λj=>by
 by_cases hj:j=id
 ·subst hj;left;exact h
 ·right;rw [aD hj,aD hj]
theorem afG :Tryz.prog.bytesOf 67=56:=by kernel_rfl
theorem arR :Tryz.prog.bytesOf 59=16:=by kernel_rfl
theorem asO :Tryz.prog.bytesOf 57=32:=by kernel_rfl
theorem afD :Tryz.prog.bytesOf 86=24:=by kernel_rfl
theorem aqJ :Tryz.prog.bytesOf 80=64:=by kernel_rfl
theorem tV :Tryz.prog.bytesOf 190=96:=by kernel_rfl
theorem qM :Tryz.prog.cellsOf 190=11:=by kernel_rfl
theorem yK :Tryz.prog.cellsOf 80=5:=by kernel_rfl
theorem qE :Tryz.prog.cellsOf 67=3:=by kernel_rfl
theorem tW :Tryz.prog.cellsOf 59=2:=by kernel_rfl
theorem tL :Tryz.prog.cellsOf 57=3:=by kernel_rfl
theorem afL :Tryz.prog.cellsOf 86=1:=by kernel_rfl
end Go.Proofs.YtloecjjehapblaaGreatDoor
