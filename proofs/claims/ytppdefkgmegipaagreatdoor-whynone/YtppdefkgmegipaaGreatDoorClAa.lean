import Derived.Test.YtppdefkgmegipaaGreatDoorProg
import Derived.Test.YtppdefkgmegipaaGreatDoorAbsG
import Derived.Test.YtppdefkgmegipaaGreatDoorAbsI
set_option linter.unusedSimpArgs false
set_option linter.unusedVariables false
namespace Go.Proofs.YtppdefkgmegipaaGreatDoor
open Go Go.Abs
section
set_option maxRecDepth 10000
set_option maxHeartbeats 4000000
abbrev z0:Option TI:=some ⟨1,false,[.nilFunc], .other,false⟩
abbrev z1:Option TI:=some ⟨1,false,[.pointer none], .other,false⟩
abbrev z2:Option TI:=some ⟨3,true,[.int .i64 0, .int .i64 0, .int .i64 0], .struct [(3,0),(3,1),(3,2)],true⟩
abbrev z3:Option TI:=some ⟨1,false,[.int .i64 0], .int .i64,true⟩
abbrev z4:Option TI:=some ⟨1,false,[.int .u8 0], .int .u8,true⟩
abbrev z5:Option TI:=some ⟨1,false,[.int .u64 0], .int .u64,true⟩
abbrev z6:Option TI:=some ⟨1,false,[.string ⟨#[]⟩], .str,true⟩
abbrev z7:Option TI:=some ⟨1,false,[.int .i32 0], .int .i32,true⟩
abbrev z8:Option TI:=some ⟨4,true,[.int .i64 0, .int .i64 0, .bool false, .int .u8 0], .struct [(2,0),(3,1),(4,2),(6,3)],true⟩
abbrev z9:Option TI:=some ⟨2,true,[.string ⟨#[]⟩, .int .u64 0], .struct [(9,0),(12,1)],false⟩
abbrev z10:Option TI:=some ⟨1,true,[.pointer none], .struct [(17,0)],false⟩
abbrev z11:Option TI:=some ⟨1,true,[.slice none 0 0], .struct [(22,0)],false⟩
abbrev z12:Option TI:=some ⟨1,true,[.slice none 0 0], .struct [(25,0)],false⟩
abbrev z13:Option TI:=some ⟨7,true,[.int .i64 0, .slice none 0 0, .slice none 0 0, .slice none 0 0, .slice none 0 0, .slice none 0 0, .int .i64 0], .struct [(3,0),(28,1),(29,2),(29,3),(30,4),(31,5),(3,6)],false⟩
abbrev z14:Option TI:=some ⟨1,false,[.slice none 0 0], .slice 54,false⟩
abbrev z15:Option TI:=some ⟨3,true,[.int .i64 0, .slice none 0 0, .slice none 0 0], .struct [(3,0),(46,1),(37,2)],false⟩
abbrev z16:Option TI:=some ⟨1,false,[.slice none 0 0], .slice 48,false⟩
abbrev z17:Option TI:=some ⟨1,true,[.slice none 0 0], .struct [(50,0)],false⟩
abbrev z18:Option TI:=some ⟨3,true,[.int .i64 0, .int .i64 0, .string ⟨#[]⟩], .struct [(3,0),(3,1),(9,2)],true⟩
abbrev z19:Option TI:=some ⟨6,true,[.int .i64 0, .int .i64 0, .int .i64 0, .int .i64 0, .string ⟨#[]⟩, .slice none 0 0], .struct [(3,0),(3,1),(54,2),(29,5)],false⟩
abbrev z20:Option TI:=some ⟨7,true,[.int .i64 0, .int .i64 0, .int .i64 0, .int .i64 0, .int .i64 0, .string ⟨#[]⟩, .slice none 0 0], .struct [(3,0),(56,1)],false⟩
abbrev z21:Option TI:=some ⟨2,true,[.int .i64 0, .int .i64 0], .struct [(3,0),(3,1)],true⟩
abbrev z22:Option TI:=some ⟨3,true,[.slice none 0 0, .int .i64 0, .slice none 0 0], .struct [(35,0),(3,1),(37,2)],false⟩
abbrev z23:Option TI:=some ⟨4,true,[.string ⟨#[]⟩, .int .i64 0, .int .i64 0, .bool false], .struct [(9,0),(3,1),(3,2),(4,3)],true⟩
abbrev z24:Option TI:=some ⟨6,true,[.string ⟨#[]⟩, .slice none 0 0, .slice none 0 0, .slice none 0 0, .slice none 0 0, .slice none 0 0], .struct [(9,0),(86,1),(31,2),(29,3),(87,4),(88,5)],false⟩
abbrev z25:Option TI:=some ⟨5,true,[.int .i64 0, .int .i64 0, .int .i64 0, .string ⟨#[]⟩, .slice none 0 0], .struct [(3,0),(54,1),(91,4)],false⟩
abbrev z26:Option TI:=some ⟨3,true,[.slice none 0 0, .slice none 0 0, .int .i64 0], .struct [(106,0),(27,1),(3,2)],false⟩
abbrev z27:Option TI:=some ⟨2,true,[.slice none 0 0, .slice none 0 0], .struct [(35,0),(37,1)],false⟩
abbrev z28:Option TI:=some ⟨2,true,[.slice none 0 0, .slice none 0 0], .struct [(70,0),(72,1)],false⟩
abbrev z29:Option TI:=some ⟨2,true,[.slice none 0 0, .slice none 0 0], .struct [(70,0),(171,1)],false⟩
abbrev z30:Option TI:=some ⟨1,true,[.nilFunc], .struct [(195,0)],false⟩
abbrev z31:Option TI:=some ⟨11,true,[.int .i64 0, .int .i64 0, .string ⟨#[]⟩, .int .i64 0, .int .i64 0, .int .i64 0, .int .i64 0, .int .i64 0, .int .i64 0, .int .i64 0, .bool false], .struct [(54,0),(69,3),(3,5),(3,6),(69,7),(3,9),(4,10)],true⟩
abbrev z32:Option TI:=some ⟨3,true,[.int .i64 0, .bool false, .nilFunc], .struct [(3,0),(4,1),(244,2)],false⟩
abbrev z33:Option TI:=some ⟨3,true,[.int .i64 0, .int .i64 0, .int .i64 0], .struct [(3,0),(69,1)],true⟩
abbrev z34:Option TI:=some ⟨3,true,[.int .i64 0, .int .i64 0, .int .i64 0], .struct [(69,0),(3,2)],true⟩
abbrev z35:Option TI:=some ⟨2,true,[.int .u8 0, .int .u8 0], .struct [(5,0),(5,1)],true⟩
abbrev z36:Option TI:=some ⟨4,true,[.pointer none, .pointer none, .pointer none, .string ⟨#[]⟩], .struct [(17,0),(17,1),(17,2),(9,3)],false⟩
abbrev z37:Option TI:=some ⟨0,true,[], .struct [(364,0)],false⟩
abbrev z38:Option TI:=some ⟨11,true,[.int .u64 0, .int .u64 0, .int .u32 0, .int .u8 0, .int .u8 0, .int .u8 0, .int .u8 0, .nilFunc, .pointer none, .int .i32 0, .int .i32 0], .struct [(12,0),(12,1),(189,2),(368,3),(5,4),(5,5),(369,6),(370,7),(371,8),(372,9),(373,10)],false⟩
def tt :TT:=[none,z0,z3,z3,some ⟨1,false,[.bool false], .bool,true⟩,z4,z4,z8,z8,z6,z6,z6,z5,z9,z9,z1,z1,z1,z10,z10,some ⟨1,false,[.nilIface], .other,false⟩,z7,some ⟨1,false,[.slice none 0 0], .slice 90,false⟩,z11,z11,some ⟨1,false,[.slice none 0 0], .slice 52,false⟩,z12,z12,some ⟨1,false,[.slice none 0 0], .slice 147,false⟩,some ⟨1,false,[.slice none 0 0], .slice 56,false⟩,some ⟨1,false,[.slice none 0 0], .slice 58,false⟩,some ⟨1,false,[.slice none 0 0], .slice 3,false⟩,z13,z13,z14,z14,some ⟨1,false,[.slice none 0 0], .slice 66,false⟩,some ⟨1,false,[.slice none 0 0], .slice 69,false⟩,z0,z0,z0,z0,z0,z0,z0,z0,some ⟨1,false,[.slice none 0 0], .slice 93,false⟩,z15,z15,z0,z16,z17,z17,z18,z18,z19,z19,z20,z20,z3,none,z0,z0,none,z0,z0,some ⟨2,true,[.int .i64 0, .int .i64 0], .arr 2 3,true⟩,z0,z21,z21,some ⟨1,false,[.slice none 0 0], .slice 35,false⟩,z0,some ⟨1,false,[.slice none 0 0], .slice 77,false⟩,none,z0,z0,z22,z22,z0,z0,z0,z0,z0,z0,z23,z23,some ⟨1,false,[.slice none 0 0], .slice 85,false⟩,some ⟨1,false,[.slice none 0 0], .slice 277,false⟩,some ⟨1,false,[.slice none 0 0], .slice 279,false⟩,z24,z24,some ⟨1,false,[.slice none 0 0], .slice 237,false⟩,z25,z25,none,z0,some ⟨1,false,[.map none], .map 69 66,false⟩,none,z0,none,z0,z0,z0,z0,z0,z0,z16,z26,z26,none,z0,z0,z0,z0,z0,z0,z0,some ⟨1,false,[.slice none 0 0], .slice 121,false⟩,none,z0,z27,z27,z0,z0,z0,z0,z0,z0,z0,z0,z0,z0,z0,z0,z0,z0,none,z0,z0,z0,z5,z0,z0,z0,z0,z0,z2,z2,z0,z0,none,z0,none,z0,z0,z0,z0,z0,z0,z0,z0,none,z0,z28,z28,z0,z1,z0,z0,z0,z0,some ⟨1,false,[.slice none 0 0], .slice 117,false⟩,z29,z29,z1,z0,z0,z0,z0,z0,z0,z0,z3,none,z0,z0,z0,z0,z0,some ⟨1,false,[.int .u32 0], .int .u32,true⟩,z0,z5,z0,some ⟨1,false,[.slice none 0 0], .slice 197,false⟩,z0,z0,z30,z30,z0,z0,z0,none,z0,z0,z0,z0,z0,z0,z0,z0,none,z0,z0,z1,z0,z0,z0,z0,z0,z1,z0,z0,z0,z0,z0,z5,z0,z0,z0,z1,z0,z0,z0,z0,z0,some ⟨1,false,[.slice none 0 0], .slice 5,false⟩,z31,z31,z0,z0,z0,z0,z0,z0,z0,z32,z32,some ⟨1,false,[.map none], .map 3 246,false⟩,z0,z0,z0,z0,some ⟨1,false,[.slice none 0 0], .slice 37,false⟩,z0,z0,z0,z0,z1,none,z0,z0,z0,z0,some ⟨1,false,[.map none], .map 300 237,false⟩,none,z0,z0,z0,z0,z0,z0,z0,z0,z0,z0,z0,z2,z2,z2,z2,z0,z0,z33,z33,z0,z0,none,z0,z0,z0,z0,z0,some ⟨6,true,[.int .i64 0, .int .i64 0, .string ⟨#[]⟩, .int .i64 0, .int .i64 0, .string ⟨#[]⟩], .arr 2 54,true⟩,z0,z0,z0,z0,some ⟨1,false,[.map none], .map 69 3,false⟩,none,z34,z34,z0,z0,z0,some ⟨1,false,[.map none], .map 300 91,false⟩,z0,z0,z0,z0,none,none,none,z0,z0,z1,z0,z0,z0,z0,z0,z0,z0,z0,z0,z0,z0,z2,z2,z0,z0,z0,z0,none,z0,z0,z0,z0,z0,z0,z0,z0,z0,z0,z0,z0,z0,z0,z0,some ⟨3,true,[.int .i64 0, .int .i64 0, .int .i64 0], .arr 3 3,true⟩,z0,z0,z0,z0,none,z35,z35,some ⟨32,true,[.int .u8 0, .int .u8 0, .int .u8 0, .int .u8 0, .int .u8 0, .int .u8 0, .int .u8 0, .int .u8 0, .int .u8 0, .int .u8 0, .int .u8 0, .int .u8 0, .int .u8 0, .int .u8 0, .int .u8 0, .int .u8 0, .int .u8 0, .int .u8 0, .int .u8 0, .int .u8 0, .int .u8 0, .int .u8 0, .int .u8 0, .int .u8 0, .int .u8 0, .int .u8 0, .int .u8 0, .int .u8 0, .int .u8 0, .int .u8 0, .int .u8 0, .int .u8 0], .arr 16 355,true⟩,z0,none,z0,z0,z0,z36,z36,some ⟨0,true,[], .arr 0 16,false⟩,z37,z37,z0,z4,z4,z0,z1,z7,z7,z38,z38,z1]
theorem aT :bC Tryz.prog tt:=azQ (by kernel_rfl)
instance pk :Pk Tryz.prog tt:=⟨rfl,aT,by kernel_rfl⟩
abbrev e0 :ByteArray:=⟨#[]⟩
def I1 (n:Int):List PV:=[.val (.int .i64 n)]
def S1 (s:ByteArray):List PV:=[.val (.string s)]
theorem I1.elem :Elem tt 3 I1 (λa=> .val (.int .i64 a)) 1:=⟨rfl,λ_=>rfl,λ_=>rfl,λ_=>rfl,λ_=>rfl⟩
structure Vl where
 kind:Int
 n:Int
 s:ByteArray
 deriving DecidableEq,Inhabited
def Vl.cells (a:Vl):List PV:=[.val (.int .i64 (a.kind)), .val (.int .i64 (a.n)), .val (.string (a.s))]
def Vl.zero :Vl:=⟨0,0,e0⟩
theorem Vl.ext_iff (a b:Vl):a=b↔a.kind=b.kind/\a.n=b.n/\a.s=b.s:=by cases a;cases b;simp
theorem Vl.eqb (a b:Vl):(decide (a.kind=b.kind)&&(decide (a.n=b.n)&&(decide (a.s=b.s))))=decide (a=b):=by rw [Bool.eq_iff_iff];simp [Vl.ext_iff]
theorem Vl.eqz (a:Vl):(decide (a.kind=0)&&(decide (a.n=0)&&(decide (a.s=e0))))=decide (a=Vl.zero):=by rw [Bool.eq_iff_iff];simp [Vl.ext_iff,Vl.zero]
theorem Vl.elem :Elem tt 54 Vl.cells (λa=> .agg a.cells) 3:=⟨rfl,λ_=>rfl,λ_=>rfl,λ_=>rfl,λ_=>rfl⟩
structure Dt where
 dev:Int
 seq:Int
 deriving DecidableEq,Inhabited
def Dt.cells (a:Dt):List PV:=[.val (.int .i64 (a.dev)), .val (.int .i64 (a.seq))]
def Dt.zero :Dt:=⟨0,0⟩
theorem Dt.ext_iff (a b:Dt):a=b↔a.dev=b.dev/\a.seq=b.seq:=by cases a;cases b;simp
theorem Dt.eqb (a b:Dt):(decide (a.dev=b.dev)&&(decide (a.seq=b.seq)))=decide (a=b):=by rw [Bool.eq_iff_iff];simp [Dt.ext_iff]
theorem Dt.eqz (a:Dt):(decide (a.dev=0)&&(decide (a.seq=0)))=decide (a=Dt.zero):=by rw [Bool.eq_iff_iff];simp [Dt.ext_iff,Dt.zero]
theorem Dt.elem :Elem tt 69 Dt.cells (λa=> .agg a.cells) 2:=⟨rfl,λ_=>rfl,λ_=>rfl,λ_=>rfl,λ_=>rfl⟩
structure Pt where
 val:Vl
 dot:Dt
 at_:Int
 time:Int
 after:Dt
 afterAt:Int
 gone:Bool
 deriving DecidableEq,Inhabited
def Pt.cells (a:Pt):List PV:=[.val (.int .i64 (a.val.kind)), .val (.int .i64 (a.val.n)), .val (.string (a.val.s)), .val (.int .i64 (a.dot.dev)), .val (.int .i64 (a.dot.seq)), .val (.int .i64 (a.at_)), .val (.int .i64 (a.time)), .val (.int .i64 (a.after.dev)), .val (.int .i64 (a.after.seq)), .val (.int .i64 (a.afterAt)), .val (.bool (a.gone))]
def Pt.zero :Pt:=⟨Vl.zero,Dt.zero,0,0,Dt.zero,0,false⟩
theorem Pt.ext_iff (a b:Pt):a=b↔a.val=b.val/\a.dot=b.dot/\a.at_=b.at_/\a.time=b.time/\a.after=b.after/\a.afterAt=b.afterAt/\a.gone=b.gone:=by cases a;cases b;simp
theorem Pt.eqb (a b:Pt):(decide (a.val=b.val)&&(decide (a.dot=b.dot)&&(decide (a.at_=b.at_)&&(decide (a.time=b.time)&&(decide (a.after=b.after)&&(decide (a.afterAt=b.afterAt)&&((a.gone==b.gone))))))))=decide (a=b):=by rw [Bool.eq_iff_iff];simp [Pt.ext_iff]
theorem Pt.elem :Elem tt 237 Pt.cells (λa=> .agg a.cells) 11:=⟨rfl,λ_=>rfl,λ_=>rfl,λ_=>rfl,λ_=>rfl⟩
structure Cl where
 kind:Int
 val:Vl
 parts:List Pt
 deriving DecidableEq,Inhabited
def Cl.cells (a:Cl):List PV:=[.val (.int .i64 (a.kind)), .val (.int .i64 (a.val.kind)), .val (.int .i64 (a.val.n)), .val (.string (a.val.s)), .seq ((a.parts).map Pt.cells)]
def Cl.zero :Cl:=⟨0,Vl.zero,[]⟩
theorem Cl.ext_iff (a b:Cl):a=b↔a.kind=b.kind/\a.val=b.val/\a.parts=b.parts:=by cases a;cases b;simp
theorem Cl.elem :Elem tt 93 Cl.cells (λa=> .agg a.cells) 5:=⟨rfl,λ_=>rfl,λ_=>rfl,λ_=>rfl,λ_=>rfl⟩
structure Ln where
 key:Int
 cells_:List Cl
 by_:List Dt
 deriving DecidableEq,Inhabited
def Ln.cells (a:Ln):List PV:=[.val (.int .i64 (a.key)), .seq ((a.cells_).map Cl.cells), .seq ((a.by_).map Dt.cells)]
def Ln.zero :Ln:=⟨0,[],[]⟩
theorem Ln.ext_iff (a b:Ln):a=b↔a.key=b.key/\a.cells_=b.cells_/\a.by_=b.by_:=by cases a;cases b;simp
theorem Ln.elem :Elem tt 48 Ln.cells (λa=> .agg a.cells) 3:=⟨rfl,λ_=>rfl,λ_=>rfl,λ_=>rfl,λ_=>rfl⟩
structure Da where
 lines:List Ln
 deriving DecidableEq,Inhabited
def Da.cells (a:Da):List PV:=[.seq ((a.lines).map Ln.cells)]
def Da.zero :Da:=⟨[]⟩
theorem Da.ext_iff (a b:Da):a=b↔a.lines=b.lines:=by cases a;cases b;simp
theorem Da.elem :Elem tt 52 Da.cells (λa=> .agg a.cells) 1:=⟨rfl,λ_=>rfl,λ_=>rfl,λ_=>rfl,λ_=>rfl⟩
structure Co where
 name:ByteArray
 kind:Int
 type_:Int
 null:Bool
 deriving DecidableEq,Inhabited
def Co.cells (a:Co):List PV:=[.val (.string (a.name)), .val (.int .i64 (a.kind)), .val (.int .i64 (a.type_)), .val (.bool (a.null))]
def Co.zero :Co:=⟨e0,0,0,false⟩
theorem Co.ext_iff (a b:Co):a=b↔a.name=b.name/\a.kind=b.kind/\a.type_=b.type_/\a.null=b.null:=by cases a;cases b;simp
theorem Co.eqb (a b:Co):(decide (a.name=b.name)&&(decide (a.kind=b.kind)&&(decide (a.type_=b.type_)&&((a.null==b.null)))))=decide (a=b):=by rw [Bool.eq_iff_iff];simp [Co.ext_iff]
theorem Co.elem :Elem tt 85 Co.cells (λa=> .agg a.cells) 4:=⟨rfl,λ_=>rfl,λ_=>rfl,λ_=>rfl,λ_=>rfl⟩
structure Fr where
 col:Int
 table:Int
 act:Int
 deriving DecidableEq,Inhabited
def Fr.cells (a:Fr):List PV:=[.val (.int .i64 (a.col)), .val (.int .i64 (a.table)), .val (.int .i64 (a.act))]
def Fr.zero :Fr:=⟨0,0,0⟩
theorem Fr.ext_iff (a b:Fr):a=b↔a.col=b.col/\a.table=b.table/\a.act=b.act:=by cases a;cases b;simp
theorem Fr.eqb (a b:Fr):(decide (a.col=b.col)&&(decide (a.table=b.table)&&(decide (a.act=b.act))))=decide (a=b):=by rw [Bool.eq_iff_iff];simp [Fr.ext_iff]
theorem Fr.eqz (a:Fr):(decide (a.col=0)&&(decide (a.table=0)&&(decide (a.act=0))))=decide (a=Fr.zero):=by rw [Bool.eq_iff_iff];simp [Fr.ext_iff,Fr.zero]
theorem Fr.elem :Elem tt 277 Fr.cells (λa=> .agg a.cells) 3:=⟨rfl,λ_=>rfl,λ_=>rfl,λ_=>rfl,λ_=>rfl⟩
structure Su where
 col:Int
 by_:Int
 max:Int
 deriving DecidableEq,Inhabited
def Su.cells (a:Su):List PV:=[.val (.int .i64 (a.col)), .val (.int .i64 (a.by_)), .val (.int .i64 (a.max))]
def Su.zero :Su:=⟨0,0,0⟩
theorem Su.ext_iff (a b:Su):a=b↔a.col=b.col/\a.by_=b.by_/\a.max=b.max:=by cases a;cases b;simp
theorem Su.eqb (a b:Su):(decide (a.col=b.col)&&(decide (a.by_=b.by_)&&(decide (a.max=b.max))))=decide (a=b):=by rw [Bool.eq_iff_iff];simp [Su.ext_iff]
theorem Su.eqz (a:Su):(decide (a.col=0)&&(decide (a.by_=0)&&(decide (a.max=0))))=decide (a=Su.zero):=by rw [Bool.eq_iff_iff];simp [Su.ext_iff,Su.zero]
theorem Su.elem :Elem tt 279 Su.cells (λa=> .agg a.cells) 3:=⟨rfl,λ_=>rfl,λ_=>rfl,λ_=>rfl,λ_=>rfl⟩
theorem cY {st:aD} {id:Nat} {o:Option AObj} (h:st id=none):StSub st (upd (upd st id o) id none):=λj=>by
 by_cases hj:j=id
 ·subst hj;left;exact h
 ·right;rw [aC hj,aC hj]
theorem akF :Tryz.prog.bytesOf 48=56:=by kernel_rfl
theorem lA :Tryz.prog.bytesOf 69=16:=by kernel_rfl
theorem iA :Tryz.prog.bytesOf 54=32:=by kernel_rfl
theorem tY :Tryz.prog.bytesOf 52=24:=by kernel_rfl
theorem abB :Tryz.prog.cellsOf 48=3:=by kernel_rfl
theorem acF :Tryz.prog.cellsOf 69=2:=by kernel_rfl
theorem jH :Tryz.prog.cellsOf 54=3:=by kernel_rfl
theorem akL :Tryz.prog.cellsOf 52=1:=by kernel_rfl
end
section
attribute [local irreducible] Ev PWp
set_option maxRecDepth 10000
set_option maxHeartbeats 4000000
theorem asB (a:Int):PF Tryz.prog 64 [(vi (a))] (vb (false)):=by
 refine pF Tryz.func64 rfl (λst=> ?_)
 (repeat' first|apply wZ;rfl|show Cn _;constructor|exact rfl|show (_:PV)=_;simp;done)
def eG (a b:Int):Int:=if a<b then-1 else if a>b then 1 else 0
theorem dT (a b:Int):PF Tryz.prog 35 [(vi (a)),(vi (b))] (vi (eG a b)):=by
 refine pF Tryz.func35 rfl (λst=> ?_)
 (repeat' first|apply wZ;rfl|show Cn _;constructor|exact rfl|(apply asB)|show (_:PV)=_;(first|simp_all [eG];done|obtain rfl:a=b:=(by omega);simp [eG]);done|apply wY;rfl|(intro h;simp at h)|intro h)
def orI :List Int->Int
 |[]=>0
 |x::l=>if x=0 then orI l else x
theorem afV {l:List Int} {i:Nat} (h:i<l.length):orI (l.drop i)=if l[i]=0 then orI (l.drop (i+1)) else l[i]:=by
 rw [List.drop_eq_getElem_cons h,orI]
theorem qB (l:List Int) (hl:l.length<4611686018427387904):PF Tryz.prog 34 [.seq (l.map I1)] (vi (orI l)):=by
 refine pF Tryz.func34 rfl (λst=> ?_)
 (repeat' first|apply wZ;rfl|show Cn _;constructor)
 refine aG (X:={x:Nat//x<=l.length/\orI (l.drop x)=orI l}) (λi=>(((((St.nil 18 st).pv 3 ((vi (0)))).pv 6 (.seq (l.map I1))).pv 7 ((vi ((((l.map I1)).length:Nat))))).pv 8 ((vi ((i.1:Nat)))))) (λi=>l.length-i.1) ⟨0,by omega,by simp⟩ ?_ (λi=> ?_)
 ·(repeat' first|show Cn _;constructor|exact rfl)
 obtain ⟨i,h1,hinv⟩:=i
 dsimp only
 (repeat' first|(refine ⟨⟨i+1,by omega,by rw [<-hinv,afV (i:=i) (by omega),zp ‹_›]⟩, ?_, ?_⟩)|apply wZ;rfl|show Cn _;constructor|exact rfl|show (_:PV)=_;(rw [<-hinv];(first|rw [afV (by omega),zn ‹_›];done|rw [List.drop_eq_nil_of_le (show l.length<=i by omega)];rfl));done|apply wI;rfl|apply gE;omega|omega|simp only [zql];omega|(intro h;simp at h)|intro h)
def byD (a b:Dt):Int:=orI [eG a.dev b.dev,eG a.seq b.seq]
theorem asZ (a b:Dt):PF Tryz.prog 114 [.agg a.cells, .agg b.cells] (vi (byD a b)):=by
 have ho:=qB [eG a.dev b.dev,eG a.seq b.seq] (by simp)
 refine pF Tryz.func114 rfl (λst=> ?_)
 (repeat' first|apply wZ;rfl|show Cn _;constructor|exact rfl|apply KR.mk;kernel_rfl|((first|apply (dT a.dev b.dev)|apply (dT a.seq b.seq)|apply ho))|apply wY;rfl)
def eY (a b:Dt):Bool:=decide (a.dev>b.dev)||(decide (a.dev=b.dev)&&decide (a.seq>b.seq))
theorem gQ {α:Type} {f:α->Bool} {l:List α} {i:Nat} (h:i<l.length) (hf:f l[i]=true) (hn:∀j (h:j<i) (h2:j<l.length),f l[j]=false):l.findIdx? f=some i:=
 List.findIdx?_eq_some_iff_getElem.2 ⟨h,hf,λj hj=>by rw [hn j hj (by omega)];simp⟩
theorem eP {α:Type} {f:α->Bool} {l:List α} {i:Nat} (h:l.length<=i) (hn:∀j (h:j<i) (h2:j<l.length),f l[j]=false):l.findIdx? f=none:=
 List.findIdx?_eq_none_iff.2 λx hx=>by
  obtain ⟨j,hj,rfl⟩:=zgo hx
  exact hn j (by omega) hj
def bT {α:Type} (f:α->Bool) (l:List α):Int:=match l.findIdx? f with|some k=>((k:Nat):Int)|none=> -1
theorem cZ {α:Type} (f:α->Bool) (l:List α):decide (bT f l>=0)=l.any f:=by
 unfold bT
 cases h:l.findIdx? f with
 |none=>
  rw [List.findIdx?_eq_none_iff] at h
  have:l.any f=false:=by rw [<-Bool.not_eq_true,List.any_eq_true];rintro ⟨x,hx,hf⟩;rw [h x hx] at hf;cases hf
  rw [this];rfl
 |some k=>
  obtain ⟨hk,hf,_⟩:=List.findIdx?_eq_some_iff_getElem.1 h
  have:l.any f=true:=List.any_eq_true.2 ⟨_,zgm hk,hf⟩
  rw [this]
  show decide (((k:Nat):Int)>=0)=true
  rw [zde];omega
theorem anF (fid:FuncId) (caps:List PV) (f:Dt->Bool) (l:List Dt) (hl:l.length<4611686018427387904) (hf:∀p,PF Tryz.prog fid ([.agg p.cells]++caps) (vb (f p))):PF Tryz.prog 57 [.seq (l.map Dt.cells), .fn fid caps] (vi (bT f l)):=by
 refine pF Tryz.func57 rfl (λst=> ?_)
 (repeat' first|apply wZ;rfl|show Cn _;constructor)
 refine aG (X:={x:Nat//x<=l.length/\∀j (h:j<x) (h2:j<l.length),f l[j]=false}) (λi=>(((((St.nil 19 st).pv 0 (.seq (l.map Dt.cells))).pv 1 (.fn fid caps)).pv 7 ((vi ((((l.map Dt.cells)).length:Nat))))).pv 8 ((vi ((i.1:Nat)))))) (λi=>l.length-i.1) ⟨0,by omega,by omega⟩ ?_ (λi=> ?_)
 ·(repeat' first|show Cn _;constructor|exact rfl)
 obtain ⟨i,hi,hinv⟩:=i
 dsimp only
 (repeat' first|(refine ⟨⟨i+1,by omega,λj h1 h2=>by rcases zls.1 h1 with q|q;exact hinv j q h2;subst q;assumption⟩, ?_, ?_⟩)|apply wZ;rfl|show Cn _;constructor|exact rfl|(apply hf)|show (_:PV)=_;(first|unfold bT;rw [gQ ‹_› ‹_› hinv];done|unfold bT;rw [eP ‹_› hinv]);done|apply wY;rfl|apply wI;rfl|apply gE;omega|omega|simp only [zql];omega|(intro h;simp at h)|intro h)
theorem zC (fid:FuncId) (caps:List PV) (f:Ln->Bool) (l:List Ln) (hl:l.length<4611686018427387904) (hf:∀p,PF Tryz.prog fid ([.agg p.cells]++caps) (vb (f p))):PF Tryz.prog 94 [.seq (l.map Ln.cells), .fn fid caps] (vi (bT f l)):=by
 refine pF Tryz.func94 rfl (λst=> ?_)
 (repeat' first|apply wZ;rfl|show Cn _;constructor)
 refine aG (X:={x:Nat//x<=l.length/\∀j (h:j<x) (h2:j<l.length),f l[j]=false}) (λi=>(((((St.nil 19 st).pv 0 (.seq (l.map Ln.cells))).pv 1 (.fn fid caps)).pv 7 ((vi ((((l.map Ln.cells)).length:Nat))))).pv 8 ((vi ((i.1:Nat)))))) (λi=>l.length-i.1) ⟨0,by omega,by omega⟩ ?_ (λi=> ?_)
 ·(repeat' first|show Cn _;constructor|exact rfl)
 obtain ⟨i,hi,hinv⟩:=i
 dsimp only
 (repeat' first|(refine ⟨⟨i+1,by omega,λj h1 h2=>by rcases zls.1 h1 with q|q;exact hinv j q h2;subst q;assumption⟩, ?_, ?_⟩)|apply wZ;rfl|show Cn _;constructor|exact rfl|(apply hf)|show (_:PV)=_;(first|unfold bT;rw [gQ ‹_› ‹_› hinv];done|unfold bT;rw [eP ‹_› hinv]);done|apply wY;rfl|apply wI;rfl|apply gE;omega|omega|simp only [zql];omega|(intro h;simp at h)|intro h)
theorem ajR (l:List Dt) (x:Dt) (hl:l.length<4611686018427387904):PF Tryz.prog 58 [.seq (l.map Dt.cells), .agg x.cells] (vi (bT (λy=>decide (x=y)) l)):=by
 refine pF Tryz.func58 rfl (λst=> ?_)
 (repeat' first|apply wZ;rfl|show Cn _;constructor)
 refine aG (X:={y:Nat//y<=l.length/\∀j (h:j<y) (h2:j<l.length),decide (x=l[j])=false}) (λi=>(((((St.nil 19 st).pv 0 (.seq (l.map Dt.cells))).var 3 69 (x.cells)).pv 7 ((vi ((((l.map Dt.cells)).length:Nat))))).pv 8 ((vi ((i.1:Nat)))))) (λi=>l.length-i.1) ⟨0,by omega,by omega⟩ ?_ (λi=> ?_)
 ·(repeat' first|show Cn _;constructor|exact rfl)
 obtain ⟨i,h1,hinv⟩:=i
 dsimp only
 (repeat' first|(refine ⟨⟨i+1,by omega,λj h1 h2=>by rcases zls.1 h1 with q|q;exact hinv j q h2;subst q;exact decide_eq_false (by rw [Dt.ext_iff];simp_all)⟩, ?_, ?_⟩)|apply wZ;rfl|show Cn _;constructor|exact rfl|apply KR.mk;kernel_rfl|show (_:PV)=_;(first|unfold bT;rw [gQ (f:=λy=>decide (x=y)) ‹_› (by simp_all [Dt.ext_iff]) hinv];done|(unfold bT;rw [eP (f:=λy=>decide (x=y)) ‹_› hinv]));done|apply wI;rfl|apply gE;omega|omega|simp only [zql];omega|(intro h;simp at h))
theorem xU (l:List Dt) (x:Dt) (hl:l.length<4611686018427387904):PF Tryz.prog 28 [.seq (l.map Dt.cells), .agg x.cells] (vb (l.any λy=>decide (x=y))):=by
 refine pF Tryz.func28 rfl (λst=> ?_)
 (repeat' first|apply wZ;rfl|show Cn _;constructor|exact rfl|(apply (ajR l x hl))|show (_:PV)=_;(rw [cZ]);done|apply wY;rfl)
end
end Go.Proofs.YtppdefkgmegipaaGreatDoor
