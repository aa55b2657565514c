import Derived.Test.YtnogfoojjaainaaGreatDoorProg
import Derived.Test.YtnogfoojjaainaaGreatDoorAbsG
import Derived.Test.YtnogfoojjaainaaGreatDoorAbsI
import Derived.Shelf.Strings.SlTrimAscii
import Derived.Shelf.Sort.Plain
import Derived.Shelf.SlSortCmp.NoneTotal
import Derived.Shelf.Slices.In.SortNone
set_option linter.unusedSimpArgs false
set_option linter.unusedVariables false
namespace Go.Proofs.YtnogfoojjaainaaGreatDoor
open Go Go.Abs
section
set_option maxRecDepth 10000
set_option maxHeartbeats 4000000
abbrev z0:Option TI:=some ⟨1,false,[.nilFunc], .other,false⟩
abbrev z1:Option TI:=some ⟨1,false,[.pointer none], .other,false⟩
abbrev z2:Option TI:=some ⟨3,true,[.int .i64 0, .int .i64 0, .int .i64 0], .struct [(3,0),(3,1),(3,2)],true⟩
abbrev z3:Option TI:=some ⟨1,false,[.int .i64 0], .int .i64,true⟩
abbrev z4:Option TI:=some ⟨1,false,[.int .u8 0], .int .u8,true⟩
abbrev z5:Option TI:=some ⟨1,false,[.int .u64 0], .int .u64,true⟩
abbrev z6:Option TI:=some ⟨1,false,[.string ⟨#[]⟩], .str,true⟩
abbrev z7:Option TI:=some ⟨1,false,[.int .i32 0], .int .i32,true⟩
abbrev z8:Option TI:=some ⟨4,true,[.int .i64 0, .int .i64 0, .bool false, .int .u8 0], .struct [(2,0),(3,1),(4,2),(6,3)],true⟩
abbrev z9:Option TI:=some ⟨2,true,[.string ⟨#[]⟩, .int .u64 0], .struct [(9,0),(12,1)],false⟩
abbrev z10:Option TI:=some ⟨1,true,[.pointer none], .struct [(17,0)],false⟩
abbrev z11:Option TI:=some ⟨1,true,[.slice none 0 0], .struct [(22,0)],false⟩
abbrev z12:Option TI:=some ⟨1,true,[.slice none 0 0], .struct [(25,0)],false⟩
abbrev z13:Option TI:=some ⟨4,true,[.int .i64 0, .int .i64 0, .int .i64 0, .int .i64 0], .arr 4 3,true⟩
abbrev z14:Option TI:=some ⟨1,false,[.slice none 0 0], .slice 3,false⟩
abbrev z15:Option TI:=some ⟨6,true,[.int .i64 0, .int .i64 0, .int .i64 0, .int .i64 0, .int .i64 0, .int .i64 0], .struct [(3,0),(3,1),(3,2),(3,3),(3,4),(3,5)],true⟩
abbrev z16:Option TI:=some ⟨6,true,[.string ⟨#[]⟩, .slice none 0 0, .slice none 0 0, .slice none 0 0, .slice none 0 0, .slice none 0 0], .struct [(9,0),(52,1),(37,2),(53,3),(54,4),(55,5)],false⟩
abbrev z17:Option TI:=some ⟨3,true,[.int .i64 0, .int .i64 0, .string ⟨#[]⟩], .struct [(3,0),(3,1),(9,2)],true⟩
abbrev z18:Option TI:=some ⟨6,true,[.int .i64 0, .int .i64 0, .int .i64 0, .int .i64 0, .string ⟨#[]⟩, .slice none 0 0], .struct [(3,0),(3,1),(60,2),(53,5)],false⟩
abbrev z19:Option TI:=some ⟨1,false,[.slice none 0 0], .slice 60,false⟩
abbrev z20:Option TI:=some ⟨2,true,[.int .i64 0, .int .i64 0], .struct [(3,0),(3,1)],true⟩
abbrev z21:Option TI:=some ⟨11,true,[.int .i64 0, .int .i64 0, .int .i64 0, .int .i64 0, .slice none 0 0, .int .i64 0, .int .i64 0, .string ⟨#[]⟩, .int .i64 0, .int .i64 0, .int .i64 0], .struct [(3,0),(3,1),(3,2),(3,3),(67,4),(60,5),(69,8),(3,10)],false⟩
abbrev z22:Option TI:=some ⟨1,false,[.map none], .map 87 4,false⟩
abbrev z23:Option TI:=some ⟨4,true,[.int .i64 0, .int .i64 0, .int .i64 0, .slice none 0 0], .struct [(36,0),(38,3)],false⟩
abbrev z24:Option TI:=some ⟨1,false,[.slice none 0 0], .slice 106,false⟩
abbrev z25:Option TI:=some ⟨1,true,[.slice none 0 0], .struct [(99,0)],false⟩
abbrev z26:Option TI:=some ⟨3,true,[.int .i64 0, .slice none 0 0, .slice none 0 0], .struct [(3,0),(103,1),(104,2)],false⟩
abbrev z27:Option TI:=some ⟨4,true,[.string ⟨#[]⟩, .int .i64 0, .int .i64 0, .bool false], .struct [(9,0),(3,1),(3,2),(4,3)],true⟩
abbrev z28:Option TI:=some ⟨5,true,[.int .i64 0, .int .i64 0, .int .i64 0, .string ⟨#[]⟩, .slice none 0 0], .struct [(3,0),(60,1),(114,4)],false⟩
abbrev z29:Option TI:=some ⟨8,true,[.string ⟨#[]⟩, .slice none 0 0, .slice none 0 0, .slice none 0 0, .slice none 0 0, .slice none 0 0, .slice none 0 0, .slice none 0 0], .struct [(57,0),(97,6),(27,7)],false⟩
abbrev z30:Option TI:=some ⟨3,true,[.slice none 0 0, .slice none 0 0, .int .i64 0], .struct [(140,0),(27,1),(3,2)],false⟩
abbrev z31:Option TI:=some ⟨1,true,[.nilFunc], .struct [(152,0)],false⟩
abbrev z32:Option TI:=some ⟨11,true,[.int .i64 0, .int .i64 0, .string ⟨#[]⟩, .int .i64 0, .int .i64 0, .int .i64 0, .int .i64 0, .int .i64 0, .int .i64 0, .int .i64 0, .bool false], .struct [(60,0),(69,3),(3,5),(3,6),(69,7),(3,9),(4,10)],true⟩
abbrev z33:Option TI:=some ⟨3,true,[.int .i64 0, .int .i64 0, .int .i64 0], .struct [(3,0),(69,1)],true⟩
abbrev z34:Option TI:=some ⟨3,true,[.int .i64 0, .int .i64 0, .int .i64 0], .struct [(69,0),(3,2)],true⟩
abbrev z35:Option TI:=some ⟨3,true,[.int .i64 0, .bool false, .nilFunc], .struct [(3,0),(4,1),(309,2)],false⟩
abbrev z36:Option TI:=some ⟨2,true,[.int .u8 0, .int .u8 0], .struct [(5,0),(5,1)],true⟩
abbrev z37:Option TI:=some ⟨4,true,[.pointer none, .pointer none, .pointer none, .string ⟨#[]⟩], .struct [(17,0),(17,1),(17,2),(9,3)],false⟩
abbrev z38:Option TI:=some ⟨0,true,[], .struct [(388,0)],false⟩
abbrev z39:Option TI:=some ⟨11,true,[.int .u64 0, .int .u64 0, .int .u32 0, .int .u8 0, .int .u8 0, .int .u8 0, .int .u8 0, .nilFunc, .pointer none, .int .i32 0, .int .i32 0], .struct [(12,0),(12,1),(167,2),(392,3),(5,4),(5,5),(393,6),(394,7),(395,8),(396,9),(397,10)],false⟩
def tt :TT:=[none,z0,z3,z3,some ⟨1,false,[.bool false], .bool,true⟩,z4,z4,z8,z8,z6,z6,z6,z5,z9,z9,z1,z1,z1,z10,z10,some ⟨1,false,[.nilIface], .other,false⟩,z7,some ⟨1,false,[.slice none 0 0], .slice 57,false⟩,z11,z11,some ⟨1,false,[.slice none 0 0], .slice 101,false⟩,z12,z12,z0,z0,some ⟨1,false,[.slice none 0 0], .slice 32,false⟩,z0,z13,z0,some ⟨1,false,[.slice none 0 0], .slice 71,false⟩,z2,z2,z14,z14,z0,some ⟨1,false,[.slice none 0 0], .slice 47,false⟩,z3,none,z0,none,z0,z15,z15,z0,z0,z0,z0,some ⟨1,false,[.slice none 0 0], .slice 109,false⟩,some ⟨1,false,[.slice none 0 0], .slice 62,false⟩,some ⟨1,false,[.slice none 0 0], .slice 111,false⟩,some ⟨1,false,[.slice none 0 0], .slice 74,false⟩,z16,z16,z0,z17,z17,z18,z18,none,z0,z0,z19,z19,z20,z20,z21,z21,z0,z2,z2,z0,z0,z0,z0,none,z0,z0,z22,z22,z0,z0,some ⟨1,false,[.slice none 0 0], .slice 87,false⟩,z13,z0,z0,z23,z23,z0,z0,some ⟨1,false,[.map none], .map 3 3,false⟩,none,z0,some ⟨1,false,[.slice none 0 0], .slice 67,false⟩,z0,z24,z25,z25,z0,some ⟨1,false,[.slice none 0 0], .slice 116,false⟩,some ⟨1,false,[.slice none 0 0], .slice 69,false⟩,z26,z26,z0,z27,z27,z2,z2,z0,z0,some ⟨1,false,[.slice none 0 0], .slice 177,false⟩,z28,z28,z0,z0,some ⟨1,false,[.slice none 0 0], .slice 37,false⟩,z0,z0,z0,z0,z5,z0,z0,z0,none,z0,z0,z0,z0,z0,z0,z29,z29,z0,z0,some ⟨5,true,[.nilFunc, .nilFunc, .nilFunc, .nilFunc, .nilFunc], .arr 5 137,false⟩,z24,z30,z30,none,z0,z0,z0,z0,z0,z0,some ⟨1,false,[.slice none 0 0], .slice 154,false⟩,z0,z0,z31,z31,z0,z0,z0,z0,z3,none,z0,z0,z0,z0,z0,z0,some ⟨1,false,[.int .u32 0], .int .u32,true⟩,z0,z5,z0,z0,z0,z0,z0,z0,z32,z32,z0,z0,z0,z0,z0,z0,z0,z0,z0,z0,z0,z0,none,z0,z0,z0,z0,z0,z1,z0,z0,some ⟨1,false,[.map none], .map 3 4,false⟩,none,z0,z0,z0,z0,z0,z0,z0,z0,z0,z0,z0,z0,z0,z5,z0,z0,z0,z1,z0,z0,z0,none,z0,z0,z0,z0,z0,some ⟨1,false,[.map none], .map 3 37,false⟩,z0,z0,none,z0,some ⟨1,false,[.map none], .map 235 4,false⟩,z0,some ⟨2,true,[.int .i64 0, .int .i64 0], .arr 2 3,true⟩,z0,z0,z0,z0,z0,z0,z0,z0,z0,z0,some ⟨1,false,[.map none], .map 3 238,false⟩,z0,z0,z0,z0,z0,z0,z0,z0,z0,z0,z0,z0,z0,z0,z0,z0,z0,z33,z33,z0,z0,some ⟨1,false,[.map none], .map 303 177,false⟩,none,z0,z0,z0,z0,z0,some ⟨1,false,[.slice none 0 0], .slice 5,false⟩,z1,none,z0,z0,z0,z0,z0,z0,z0,z0,z0,z0,z0,z0,some ⟨1,false,[.slice none 0 0], .slice 235,false⟩,z0,z0,z0,z0,z0,z0,z0,z0,z0,z0,z0,z34,z34,z0,z0,z0,z0,some ⟨6,true,[.int .i64 0, .int .i64 0, .string ⟨#[]⟩, .int .i64 0, .int .i64 0, .string ⟨#[]⟩], .arr 2 60,true⟩,z0,z35,z35,some ⟨1,false,[.map none], .map 3 311,false⟩,z0,z0,z0,z0,none,none,none,z0,z0,z1,z0,z0,z0,some ⟨1,false,[.map none], .map 69 3,false⟩,none,some ⟨1,false,[.map none], .map 303 114,false⟩,z0,z0,z0,z0,z0,none,z0,z0,z0,z0,z0,z0,z0,z0,z0,z0,none,z0,z0,z0,z0,z0,z0,none,z0,z0,z0,z0,z0,z0,z0,z0,z0,z0,z0,z0,z0,z0,z0,z0,z0,z0,z0,some ⟨3,true,[.int .i64 0, .int .i64 0, .int .i64 0], .arr 3 3,true⟩,z0,none,z36,z36,some ⟨32,true,[.int .u8 0, .int .u8 0, .int .u8 0, .int .u8 0, .int .u8 0, .int .u8 0, .int .u8 0, .int .u8 0, .int .u8 0, .int .u8 0, .int .u8 0, .int .u8 0, .int .u8 0, .int .u8 0, .int .u8 0, .int .u8 0, .int .u8 0, .int .u8 0, .int .u8 0, .int .u8 0, .int .u8 0, .int .u8 0, .int .u8 0, .int .u8 0, .int .u8 0, .int .u8 0, .int .u8 0, .int .u8 0, .int .u8 0, .int .u8 0, .int .u8 0, .int .u8 0], .arr 16 376,true⟩,z0,none,z0,z0,z0,z0,z0,z0,z37,z37,some ⟨0,true,[], .arr 0 16,false⟩,z38,z38,z0,z4,z4,z0,z1,z7,z7,z39,z39,z1]
theorem aS :bJ Tryz.prog tt:=aHm (by kernel_rfl)
instance pk :Pk Tryz.prog tt:=⟨rfl,aS,by kernel_rfl⟩
abbrev e0 :ByteArray:=⟨#[]⟩
def I1(n:Int):List PV:=[.val (.int .i64 n)]
def S1(s:ByteArray):List PV:=[.val (.string s)]
theorem I1.elem :Elem tt 3 I1 (λa=> .val (.int .i64 a)) 1:=⟨rfl,λ_=>rfl,λ_=>rfl,λ_=>rfl,λ_=>rfl⟩
structure Vl where
 kind:Int
 n:Int
 s:ByteArray
 deriving DecidableEq,Inhabited
def Vl.cells(a:Vl):List PV:=[.val (.int .i64 (a.kind)), .val (.int .i64 (a.n)), .val (.string (a.s))]
def Vl.zero :Vl:=⟨0,0,e0⟩
theorem Vl.ext_iff(a b:Vl):a=b↔a.kind=b.kind/\a.n=b.n/\a.s=b.s:=by cases a;cases b;simp
theorem Vl.eta(a:Vl):Vl.mk a.kind a.n a.s=a:=rfl
theorem Vl.eqb(a b:Vl):(decide (a.kind=b.kind)&&(decide (a.n=b.n)&&(decide (a.s=b.s))))=decide (a=b):=by rw[Bool.eq_iff_iff];simp[Vl.ext_iff]
theorem Vl.elem :Elem tt 60 Vl.cells (λa=> .agg a.cells) 3:=⟨rfl,λ_=>rfl,λ_=>rfl,λ_=>rfl,λ_=>rfl⟩
structure Dt where
 dev:Int
 seq:Int
 deriving DecidableEq,Inhabited
def Dt.cells(a:Dt):List PV:=[.val (.int .i64 (a.dev)), .val (.int .i64 (a.seq))]
def Dt.zero :Dt:=⟨0,0⟩
theorem Dt.ext_iff(a b:Dt):a=b↔a.dev=b.dev/\a.seq=b.seq:=by cases a;cases b;simp
theorem Dt.eta(a:Dt):Dt.mk a.dev a.seq=a:=rfl
theorem Dt.eqb(a b:Dt):(decide (a.dev=b.dev)&&(decide (a.seq=b.seq)))=decide (a=b):=by rw[Bool.eq_iff_iff];simp[Dt.ext_iff]
theorem Dt.eqz(a:Dt):(decide (a.dev=0)&&(decide (a.seq=0)))=decide (a=Dt.zero):=by rw[Bool.eq_iff_iff];simp[Dt.ext_iff,Dt.zero]
structure Pt where
 val:Vl
 dot:Dt
 at_:Int
 time:Int
 after:Dt
 afterAt:Int
 gone:Bool
 deriving DecidableEq,Inhabited
def Pt.cells(a:Pt):List PV:=[.val (.int .i64 (a.val.kind)), .val (.int .i64 (a.val.n)), .val (.string (a.val.s)), .val (.int .i64 (a.dot.dev)), .val (.int .i64 (a.dot.seq)), .val (.int .i64 (a.at_)), .val (.int .i64 (a.time)), .val (.int .i64 (a.after.dev)), .val (.int .i64 (a.after.seq)), .val (.int .i64 (a.afterAt)), .val (.bool (a.gone))]
def Pt.zero :Pt:=⟨Vl.zero,Dt.zero,0,0,Dt.zero,0,false⟩
theorem Pt.ext_iff(a b:Pt):a=b↔a.val=b.val/\a.dot=b.dot/\a.at_=b.at_/\a.time=b.time/\a.after=b.after/\a.afterAt=b.afterAt/\a.gone=b.gone:=by cases a;cases b;simp
theorem Pt.eta(a:Pt):Pt.mk a.val a.dot a.at_ a.time a.after a.afterAt a.gone=a:=rfl
theorem Pt.elem :Elem tt 177 Pt.cells (λa=> .agg a.cells) 11:=⟨rfl,λ_=>rfl,λ_=>rfl,λ_=>rfl,λ_=>rfl⟩
structure Cl where
 kind:Int
 val:Vl
 parts:List Pt
 deriving DecidableEq,Inhabited
def Cl.cells(a:Cl):List PV:=[.val (.int .i64 (a.kind)), .val (.int .i64 (a.val.kind)), .val (.int .i64 (a.val.n)), .val (.string (a.val.s)), .seq ((a.parts).map Pt.cells)]
def Cl.zero :Cl:=⟨0,Vl.zero,[]⟩
theorem Cl.ext_iff(a b:Cl):a=b↔a.kind=b.kind/\a.val=b.val/\a.parts=b.parts:=by cases a;cases b;simp
theorem Cl.eta(a:Cl):Cl.mk a.kind a.val a.parts=a:=rfl
theorem Cl.elem :Elem tt 116 Cl.cells (λa=> .agg a.cells) 5:=⟨rfl,λ_=>rfl,λ_=>rfl,λ_=>rfl,λ_=>rfl⟩
structure Ln where
 key:Int
 cells_:List Cl
 by_:List Dt
 deriving DecidableEq,Inhabited
def Ln.cells(a:Ln):List PV:=[.val (.int .i64 (a.key)), .seq ((a.cells_).map Cl.cells), .seq ((a.by_).map Dt.cells)]
def Ln.zero :Ln:=⟨0,[],[]⟩
theorem Ln.ext_iff(a b:Ln):a=b↔a.key=b.key/\a.cells_=b.cells_/\a.by_=b.by_:=by cases a;cases b;simp
theorem Ln.eta(a:Ln):Ln.mk a.key a.cells_ a.by_=a:=rfl
theorem Ln.elem :Elem tt 106 Ln.cells (λa=> .agg a.cells) 3:=⟨rfl,λ_=>rfl,λ_=>rfl,λ_=>rfl,λ_=>rfl⟩
structure Da where
 lines:List Ln
 deriving DecidableEq,Inhabited
def Da.cells(a:Da):List PV:=[.seq ((a.lines).map Ln.cells)]
def Da.zero :Da:=⟨[]⟩
theorem Da.eta(a:Da):Da.mk a.lines=a:=rfl
theorem Da.elem :Elem tt 101 Da.cells (λa=> .agg a.cells) 1:=⟨rfl,λ_=>rfl,λ_=>rfl,λ_=>rfl,λ_=>rfl⟩
structure Co where
 name:ByteArray
 kind:Int
 type_:Int
 null:Bool
 deriving DecidableEq,Inhabited
def Co.cells(a:Co):List PV:=[.val (.string (a.name)), .val (.int .i64 (a.kind)), .val (.int .i64 (a.type_)), .val (.bool (a.null))]
def Co.zero :Co:=⟨e0,0,0,false⟩
theorem Co.eta(a:Co):Co.mk a.name a.kind a.type_ a.null=a:=rfl
structure Fr where
 col:Int
 table:Int
 act:Int
 deriving DecidableEq,Inhabited
def Fr.cells(a:Fr):List PV:=[.val (.int .i64 (a.col)), .val (.int .i64 (a.table)), .val (.int .i64 (a.act))]
def Fr.zero :Fr:=⟨0,0,0⟩
theorem Fr.eta(a:Fr):Fr.mk a.col a.table a.act=a:=rfl
structure Su where
 col:Int
 by_:Int
 max:Int
 deriving DecidableEq,Inhabited
def Su.cells(a:Su):List PV:=[.val (.int .i64 (a.col)), .val (.int .i64 (a.by_)), .val (.int .i64 (a.max))]
def Su.zero :Su:=⟨0,0,0⟩
theorem Su.eta(a:Su):Su.mk a.col a.by_ a.max=a:=rfl
theorem bU{st:aD}{id:Nat}{o:Option AObj}(h:st id=none):StSub st (upd (upd st id o) id none):=λj=>by
 by_cases hj:j=id
 ·subst hj;left;exact h
 ·right;rw[aB hj,aB hj]
theorem ajW :Tryz.prog.bytesOf 106=56:=by kernel_rfl
theorem ayR :Tryz.prog.bytesOf 69=16:=by kernel_rfl
theorem amD :Tryz.prog.bytesOf 60=32:=by kernel_rfl
theorem ajV :Tryz.prog.bytesOf 101=24:=by kernel_rfl
theorem axH :Tryz.prog.bytesOf 116=64:=by kernel_rfl
theorem xE :Tryz.prog.bytesOf 177=96:=by kernel_rfl
theorem sU :Tryz.prog.cellsOf 177=11:=by kernel_rfl
theorem abW :Tryz.prog.cellsOf 116=5:=by kernel_rfl
theorem sC :Tryz.prog.cellsOf 106=3:=by kernel_rfl
theorem xG :Tryz.prog.cellsOf 69=2:=by kernel_rfl
theorem sK :Tryz.prog.cellsOf 60=3:=by kernel_rfl
theorem akB :Tryz.prog.cellsOf 101=1:=by kernel_rfl
end
section
attribute [local irreducible] Ev PWp
set_option maxRecDepth 10000
set_option maxHeartbeats 4000000
theorem aDf(a:Int):PF Tryz.prog 161 [vi a] (vb false):=by
 refine pF Tryz.func161 rfl λst=>?_
 repeat' first|apply wZ;rfl|show Cn _;constructor|exact rfl|show(_:PV)=_;simp;done
def jE(a b:Int):Int:=if a<b then-1 else if a>b then 1 else 0
theorem kK(a b:Int):PF Tryz.prog 110 [vi a,vi b] (vi (jE a b)):=by
 refine pF Tryz.func110 rfl λst=>?_
 repeat' first|apply wZ;rfl|show Cn _;constructor|exact rfl|apply aDf|show(_:PV)=_;(first|simp_all[jE];done|obtain rfl:a=b:=(by omega);simp[jE]);done|apply wY;rfl|intro h;simp at h|intro h
def orI :List Int->Int
 |[]=>0
 |x::l=>if x=0 then orI l else x
theorem aqR{l:List Int}{i:Nat}(h:i<l.length):orI (l.drop i)=if l[i]=0 then orI (l.drop (i+1))else l[i]:=by
 rw[List.drop_eq_getElem_cons h,orI]
theorem akQ(l:List Int)(hl:l.length<4611686018427387904):PF Tryz.prog 151 [.seq (l.map I1)] (vi (orI l)):=by
 refine pF Tryz.func151 rfl λst=>?_
 repeat' first|apply wZ;rfl|show Cn _;constructor
 refine aC (X:={x:Nat//x<=l.length/\orI (l.drop x)=orI l}) (λi=>(((((St.nil 18 st).pv 3 (vi 0)).pv 6 (.seq (l.map I1))).pv 7 (vi ((l.map I1).length:Nat))).pv 8 (vi (i.1:Nat)))) (λi=>l.length-i.1) ⟨0,by omega,by simp⟩ ?_ λi=>?_
 ·repeat' first|show Cn _;constructor|exact rfl
 obtain⟨i,b,a⟩:=i;dsimp only
 repeat' first|refine⟨⟨i+1,by omega,by rw[<-a,aqR (i:=i) (by omega),zp ‹_›]⟩,?_,?_⟩|apply wZ;rfl|show Cn _;constructor|exact rfl|show(_:PV)=_;(rw[<-a];(first|rw[aqR (by omega),zn ‹_›];done|rw[List.drop_eq_nil_of_le (show l.length<=i by omega)];rfl));done|apply wI;rfl|apply gE;omega|omega|simp only[zql];omega|intro h;simp at h|intro h
def byD(a b:Dt):Int:=orI [jE a.dev b.dev,jE a.seq b.seq]
theorem aoI(a b:Dt):PF Tryz.prog 77 [.agg a.cells, .agg b.cells] (vi (byD a b)):=by
 have ho:=akQ [jE a.dev b.dev,jE a.seq b.seq] (by simp);refine pF Tryz.func77 rfl λst=>?_
 repeat' first|apply wZ;rfl|show Cn _;constructor|exact rfl|apply KR.mk;kernel_rfl|(first|apply kK a.dev b.dev|apply kK a.seq b.seq|apply ho)|apply wY;rfl
def aW(a b:Dt):Bool:=decide (a.dev>b.dev)||(decide (a.dev=b.dev)&&decide (a.seq>b.seq))
theorem oE(a b:Dt):PF Tryz.prog 169 [.agg a.cells, .agg b.cells] (vb (aW a b)):=by
 refine pF Tryz.func169 rfl λst=>?_
 repeat' first|show Cn (.r _ _ _);refine .any ⟨_,_,_,rfl,zwr _,zsr _,?_,rfl⟩;try rfl|apply wZ;rfl|show Cn _;constructor|exact rfl|apply KR.mk;kernel_rfl|omega|intros;omega|simp only[zql];omega|intros;simp only[zql];omega|intros;simp only;omega|intro h;omega|intro h;simp at h;done|intro h;simp at h;omega|intro h;simp at h|intro h
theorem awZ(a b:Dt):decide (byD a b>0)=aW a b:=by
 unfold byD aW jE;simp only[orI];rw[Bool.eq_iff_iff];simp only[zde,Bool.or_eq_true,zba]
 grind
theorem lN{α:Type}{f:α->Bool}{l:List α}{i:Nat}(h:i<l.length)(hf:f l[i]=true)(hn:∀j (h:j<i) (h2:j<l.length),f l[j]=false):l.findIdx? f=some i:=
 List.findIdx?_eq_some_iff_getElem.2 ⟨h,hf,λj hj=>by rw[hn j hj (by omega)];simp⟩
theorem mS{α:Type}{f:α->Bool}{l:List α}{i:Nat}(h:l.length<=i)(hn:∀j (h:j<i) (h2:j<l.length),f l[j]=false):l.findIdx? f=none:=
 List.findIdx?_eq_none_iff.2 λx hx=>by
  obtain⟨j,hj,rfl⟩:=zgo hx
  exact hn j (by omega) hj
def cY{α:Type}(f:α->Bool)(l:List α):Int:=match l.findIdx? f with|some k=>((k:Nat):Int)|none=> -1
theorem rF{α:Type}(f:α->Bool)(l:List α):decide (cY f l>=0)=l.any f:=by
 unfold cY;cases h:l.findIdx? f with
 |none=>
  rw[List.findIdx?_eq_none_iff]at h;have:l.any f=false:=by rw[<-Bool.not_eq_true,List.any_eq_true];rintro⟨x,hx,hf⟩;rw[h x hx]at hf;cases hf
  rw[this];rfl
 |some k=>
  obtain⟨hk,hf,_⟩:=List.findIdx?_eq_some_iff_getElem.1 h;have:l.any f=true:=List.any_eq_true.2 ⟨_,zgm hk,hf⟩;rw[this];show decide (((k:Nat):Int)>=0)=true;rw[zde];omega
theorem aAV(b:FuncId)(caps:List PV)(f:Dt->Bool)(l:List Dt)(hl:l.length<4611686018427387904)(hf:∀p,PF Tryz.prog b ([.agg p.cells]++caps) (vb (f p))):PF Tryz.prog 202 [.seq (l.map Dt.cells), .fn b caps] (vi (cY f l)):=by
 refine pF Tryz.func202 rfl λst=>?_
 repeat' first|apply wZ;rfl|show Cn _;constructor
 refine aC (X:={x:Nat//x<=l.length/\∀j (h:j<x) (c:j<l.length),f l[j]=false}) (λi=>(((((St.nil 19 st).pv 0 (.seq (l.map Dt.cells))).pv 1 (.fn b caps)).pv 7 (vi ((l.map Dt.cells).length:Nat))).pv 8 (vi (i.1:Nat)))) (λi=>l.length-i.1) ⟨0,by omega,by omega⟩ ?_ λi=>?_
 ·repeat' first|show Cn _;constructor|exact rfl
 obtain⟨i,hi,a⟩:=i;dsimp only
 repeat' first|refine⟨⟨i+1,by omega,λj d c=>by rcases zls.1 d with q|q;exact a j q c;subst q;assumption⟩,?_,?_⟩|apply wZ;rfl|show Cn _;constructor|exact rfl|apply hf|show(_:PV)=_;(first|unfold cY;rw[lN ‹_› ‹_› a];done|unfold cY;rw[mS ‹_› a]);done|apply wY;rfl|apply wI;rfl|apply gE;omega|omega|simp only[zql];omega|intro h;simp at h|intro h
theorem ahW(b:FuncId)(caps:List PV)(f:Ln->Bool)(l:List Ln)(hl:l.length<4611686018427387904)(hf:∀p,PF Tryz.prog b ([.agg p.cells]++caps) (vb (f p))):PF Tryz.prog 126 [.seq (l.map Ln.cells), .fn b caps] (vi (cY f l)):=by
 refine pF Tryz.func126 rfl λst=>?_
 repeat' first|apply wZ;rfl|show Cn _;constructor
 refine aC (X:={x:Nat//x<=l.length/\∀j (h:j<x) (c:j<l.length),f l[j]=false}) (λi=>(((((St.nil 19 st).pv 0 (.seq (l.map Ln.cells))).pv 1 (.fn b caps)).pv 7 (vi ((l.map Ln.cells).length:Nat))).pv 8 (vi (i.1:Nat)))) (λi=>l.length-i.1) ⟨0,by omega,by omega⟩ ?_ λi=>?_
 ·repeat' first|show Cn _;constructor|exact rfl
 obtain⟨i,hi,a⟩:=i;dsimp only
 repeat' first|refine⟨⟨i+1,by omega,λj d c=>by rcases zls.1 d with q|q;exact a j q c;subst q;assumption⟩,?_,?_⟩|apply wZ;rfl|show Cn _;constructor|exact rfl|apply hf|show(_:PV)=_;(first|unfold cY;rw[lN ‹_› ‹_› a];done|unfold cY;rw[mS ‹_› a]);done|apply wY;rfl|apply wI;rfl|apply gE;omega|omega|simp only[zql];omega|intro h;simp at h|intro h
theorem awE(l:List Dt)(x:Dt)(hl:l.length<4611686018427387904):PF Tryz.prog 270 [.seq (l.map Dt.cells), .agg x.cells] (vi (cY (λy=>decide (x=y)) l)):=by
 refine pF Tryz.func270 rfl λst=>?_
 repeat' first|apply wZ;rfl|show Cn _;constructor
 refine aC (X:={y:Nat//y<=l.length/\∀j (h:j<y) (c:j<l.length),decide (x=l[j])=false}) (λi=>(((((St.nil 19 st).pv 0 (.seq (l.map Dt.cells))).var 3 69 (x.cells)).pv 7 (vi ((l.map Dt.cells).length:Nat))).pv 8 (vi (i.1:Nat)))) (λi=>l.length-i.1) ⟨0,by omega,by omega⟩ ?_ λi=>?_
 ·repeat' first|show Cn _;constructor|exact rfl
 obtain⟨i,b,a⟩:=i;dsimp only
 repeat' first|refine⟨⟨i+1,by omega,λj b c=>by rcases zls.1 b with q|q;exact a j q c;subst q;exact decide_eq_false (by rw[Dt.ext_iff];simp_all)⟩,?_,?_⟩|apply wZ;rfl|show Cn _;constructor|exact rfl|apply KR.mk;kernel_rfl|show(_:PV)=_;(first|unfold cY;rw[lN (f:=λy=>decide (x=y)) ‹_› (by simp_all[Dt.ext_iff]) a];done|unfold cY;rw[mS (f:=λy=>decide (x=y)) ‹_› a]);done|apply wI;rfl|apply gE;omega|omega|simp only[zql];omega|intro h;simp at h
theorem agG(l:List Dt)(x:Dt)(hl:l.length<4611686018427387904):PF Tryz.prog 201 [.seq (l.map Dt.cells), .agg x.cells] (vb (l.any λy=>decide (x=y))):=by
 refine pF Tryz.func201 rfl λst=>?_
 repeat' first|apply wZ;rfl|show Cn _;constructor|exact rfl|apply awE l x hl|show(_:PV)=_;(rw[rF]);done|apply wY;rfl
end
end Go.Proofs.YtnogfoojjaainaaGreatDoor
namespace Go.Proofs.YtnogfoojjaainaaGreatDoor
open Go Go.Proofs Go.Shelf
def aLj :Ren:=⟨λx=>match x with
 |189=>22
 |125=>47
 |257=>46
 |128=>88
 |129=>89
 |294=>79
 |295=>80
 |296=>81
 |297=>82
 |298=>83
 |299=>84
 |216=>85
 |300=>86
 |301=>87
 |328=>156
 |329=>157
 |330=>158
 |331=>159
 |332=>160
 |215=>161
 |343=>233
 |n=>n,λx=>match x with
 |28=>37
 |3=>3
 |46=>124
 |0=>0
 |51=>167
 |53=>169
 |4=>4
 |183=>160
 |182=>159
 |131=>79
 |5=>5
 |9=>9
 |218=>214
 |222=>218
 |228=>276
 |229=>277
 |n=>n,λx=>x⟩
theorem aLq :Lays.n189 Tryz.prog aLj where
 mixed:=rfl
 f125:=Tryz.func47.trans (by kernel_rfl)
 f128:=Tryz.func88.trans (by kernel_rfl)
 f129:=Tryz.func89.trans (by kernel_rfl)
 f189:=Tryz.func22.trans (by kernel_rfl)
 f215:=Tryz.func161.trans (by kernel_rfl)
 f216:=Tryz.func85.trans (by kernel_rfl)
 f257:=Tryz.func46.trans (by kernel_rfl)
 f294:=Tryz.func79.trans (by kernel_rfl)
 f295:=Tryz.func80.trans (by kernel_rfl)
 f296:=Tryz.func81.trans (by kernel_rfl)
 f297:=Tryz.func82.trans (by kernel_rfl)
 f298:=Tryz.func83.trans (by kernel_rfl)
 f299:=Tryz.func84.trans (by kernel_rfl)
 f300:=Tryz.func86.trans (by kernel_rfl)
 f301:=Tryz.func87.trans (by kernel_rfl)
 f328:=Tryz.func156.trans (by kernel_rfl)
 f329:=Tryz.func157.trans (by kernel_rfl)
 f330:=Tryz.func158.trans (by kernel_rfl)
 f331:=Tryz.func159.trans (by kernel_rfl)
 f332:=Tryz.func160.trans (by kernel_rfl)
 f343:=Tryz.func233.trans (by kernel_rfl)
 t0:=Tryz.underlying0
 a0:=Tryz.isAgg0
 z0:=Tryz.sizeOf0
 v0:=Tryz.zeroValue0
 t3:=Tryz.underlying3
 a3:=Tryz.isAgg3
 z3:=Tryz.sizeOf3
 v3:=Tryz.zeroValue3
 t4:=Tryz.underlying4
 a4:=Tryz.isAgg4
 z4:=Tryz.sizeOf4
 v4:=Tryz.zeroValue4
 t5:=Tryz.underlying5
 a5:=Tryz.isAgg5
 z5:=Tryz.sizeOf5
 v5:=Tryz.zeroValue5
 t9:=Tryz.underlying9
 a9:=Tryz.isAgg9
 z9:=Tryz.sizeOf9
 v9:=Tryz.zeroValue9
 t28:=Tryz.underlying37
 a28:=Tryz.isAgg37
 z28:=Tryz.sizeOf37
 v28:=Tryz.zeroValue37
 t46:=Tryz.underlying124
 a46:=Tryz.isAgg124
 z46:=Tryz.sizeOf124
 v46:=Tryz.zeroValue124
 t51:=Tryz.underlying167
 a51:=Tryz.isAgg167
 z51:=Tryz.sizeOf167
 v51:=Tryz.zeroValue167
 t53:=Tryz.underlying169
 a53:=Tryz.isAgg169
 z53:=Tryz.sizeOf169
 v53:=Tryz.zeroValue169
 t131:=Tryz.underlying79
 a131:=Tryz.isAgg79
 z131:=Tryz.sizeOf79
 v131:=Tryz.zeroValue79
 t182:=Tryz.underlying159
 a182:=Tryz.isAgg159
 z182:=Tryz.sizeOf159
 v182:=Tryz.zeroValue159
 t183:=Tryz.underlying160
 a183:=Tryz.isAgg160
 z183:=Tryz.sizeOf160
 v183:=Tryz.zeroValue160
 t218:=Tryz.underlying214
 a218:=Tryz.isAgg214
 z218:=Tryz.sizeOf214
 v218:=Tryz.zeroValue214
 t222:=Tryz.underlying218
 a222:=Tryz.isAgg218
 z222:=Tryz.sizeOf218
 v222:=Tryz.zeroValue218
 t228:=Tryz.underlying276
 a228:=Tryz.isAgg276
 z228:=Tryz.sizeOf276
 v228:=Tryz.zeroValue276
 t229:=Tryz.underlying277
 a229:=Tryz.isAgg277
 z229:=Tryz.sizeOf277
 v229:=Tryz.zeroValue277
def renT :Ren:=⟨λx=>match x with
 |160=>210
 |232=>280
 |231=>279
 |227=>281
 |234=>283
 |233=>282
 |236=>285
 |235=>284
 |228=>336
 |271=>339
 |151=>338
 |197=>337
 |120=>358
 |152=>357
 |260=>356
 |137=>374
 |119=>375
 |224=>361
 |225=>360
 |217=>359
 |266=>376
 |n=>n,λx=>match x with
 |9=>9
 |4=>4
 |3=>3
 |5=>5
 |117=>319
 |116=>318
 |0=>0
 |124=>322
 |21=>21
 |105=>352
 |46=>124
 |119=>374
 |139=>377
 |138=>376
 |n=>n,λx=>match x with
 |3=>1
 |4=>2
 |n=>n⟩
theorem aLe :Lays.n160 Tryz.prog renT where
 mixed:=rfl
 f119:=Tryz.func375.trans (by kernel_rfl)
 f120:=Tryz.func358.trans (by kernel_rfl)
 f137:=Tryz.func374.trans (by kernel_rfl)
 f151:=Tryz.func338.trans (by kernel_rfl)
 f152:=Tryz.func357.trans (by kernel_rfl)
 f160:=Tryz.func210.trans (by kernel_rfl)
 f197:=Tryz.func337.trans (by kernel_rfl)
 f217:=Tryz.func359.trans (by kernel_rfl)
 f224:=Tryz.func361.trans (by kernel_rfl)
 f225:=Tryz.func360.trans (by kernel_rfl)
 f227:=Tryz.func281.trans (by kernel_rfl)
 f228:=Tryz.func336.trans (by kernel_rfl)
 f231:=Tryz.func279.trans (by kernel_rfl)
 f232:=Tryz.func280.trans (by kernel_rfl)
 f233:=Tryz.func282.trans (by kernel_rfl)
 f234:=Tryz.func283.trans (by kernel_rfl)
 f235:=Tryz.func284.trans (by kernel_rfl)
 f236:=Tryz.func285.trans (by kernel_rfl)
 f260:=Tryz.func356.trans (by kernel_rfl)
 f266:=Tryz.func376.trans (by kernel_rfl)
 f271:=Tryz.func339.trans (by kernel_rfl)
 t0:=Tryz.underlying0
 a0:=Tryz.isAgg0
 z0:=Tryz.sizeOf0
 v0:=Tryz.zeroValue0
 t3:=Tryz.underlying3
 a3:=Tryz.isAgg3
 z3:=Tryz.sizeOf3
 v3:=Tryz.zeroValue3
 t4:=Tryz.underlying4
 a4:=Tryz.isAgg4
 z4:=Tryz.sizeOf4
 v4:=Tryz.zeroValue4
 t5:=Tryz.underlying5
 a5:=Tryz.isAgg5
 z5:=Tryz.sizeOf5
 v5:=Tryz.zeroValue5
 t9:=Tryz.underlying9
 a9:=Tryz.isAgg9
 z9:=Tryz.sizeOf9
 v9:=Tryz.zeroValue9
 t21:=Tryz.underlying21
 a21:=Tryz.isAgg21
 z21:=Tryz.sizeOf21
 v21:=Tryz.zeroValue21
 t46:=Tryz.underlying124
 a46:=Tryz.isAgg124
 z46:=Tryz.sizeOf124
 v46:=Tryz.zeroValue124
 t105:=Tryz.underlying352
 a105:=Tryz.isAgg352
 z105:=Tryz.sizeOf352
 v105:=Tryz.zeroValue352
 t116:=Tryz.underlying318
 a116:=Tryz.isAgg318
 z116:=Tryz.sizeOf318
 t117:=Tryz.underlying319
 a117:=Tryz.isAgg319
 z117:=Tryz.sizeOf319
 v117:=Tryz.zeroValue319
 t119:=Tryz.underlying374
 a119:=Tryz.isAgg374
 z119:=Tryz.sizeOf374
 t124:=Tryz.underlying322
 a124:=Tryz.isAgg322
 z124:=Tryz.sizeOf322
 v124:=Tryz.zeroValue322
 t138:=Tryz.underlying376
 a138:=Tryz.isAgg376
 z138:=Tryz.sizeOf376
 v138:=Tryz.zeroValue376
 t139:=Tryz.underlying377
 a139:=Tryz.isAgg377
 z139:=Tryz.sizeOf377
 v139:=Tryz.zeroValue377
 g3:=by kernel_rfl
 g4:=by kernel_rfl
def aLd :Ren:=⟨λx=>match x with
 |6=>293
 |15=>47
 |14=>341
 |28=>88
 |29=>89
 |20=>363
 |21=>364
 |22=>365
 |23=>366
 |24=>367
 |25=>368
 |26=>369
 |27=>370
 |46=>378
 |47=>157
 |48=>158
 |49=>379
 |50=>380
 |57=>382
 |n=>n,λx=>match x with
 |22=>114
 |24=>177
 |25=>331
 |3=>3
 |39=>124
 |0=>0
 |53=>167
 |55=>169
 |4=>4
 |46=>160
 |45=>159
 |50=>79
 |5=>5
 |9=>9
 |66=>214
 |70=>218
 |76=>276
 |77=>277
 |n=>n,λx=>x⟩
theorem aLt :SlLaysF0.n6 Tryz.prog aLd where
  mixed:=rfl
  f6 :=⟨ "slices.SortFunc[[]homestead/api.Part,homestead/api.Part]",by decide,Tryz.func293.trans (by kernel_rfl)⟩
  f14 :=⟨ "slices.pdqsortCmpFunc[homestead/api.Part]",by decide,Tryz.func341.trans (by kernel_rfl)⟩
  f15:=Tryz.func47.trans (by kernel_rfl)
  f20 :=⟨ "slices.insertionSortCmpFunc[homestead/api.Part]",by decide,Tryz.func363.trans (by kernel_rfl)⟩
  f21 :=⟨ "slices.heapSortCmpFunc[homestead/api.Part]",by decide,Tryz.func364.trans (by kernel_rfl)⟩
  f22 :=⟨ "slices.breakPatternsCmpFunc[homestead/api.Part]",by decide,Tryz.func365.trans (by kernel_rfl)⟩
  f23 :=⟨ "slices.choosePivotCmpFunc[homestead/api.Part]",by decide,Tryz.func366.trans (by kernel_rfl)⟩
  f24 :=⟨ "slices.reverseRangeCmpFunc[homestead/api.Part]",by decide,Tryz.func367.trans (by kernel_rfl)⟩
  f25 :=⟨ "slices.partialInsertionSortCmpFunc[homestead/api.Part]",by decide,Tryz.func368.trans (by kernel_rfl)⟩
  f26 :=⟨ "slices.partitionEqualCmpFunc[homestead/api.Part]",by decide,Tryz.func369.trans (by kernel_rfl)⟩
  f27 :=⟨ "slices.partitionCmpFunc[homestead/api.Part]",by decide,Tryz.func370.trans (by kernel_rfl)⟩
  f28:=Tryz.func88.trans (by kernel_rfl)
  f29:=Tryz.func89.trans (by kernel_rfl)
  f46 :=⟨ "slices.siftDownCmpFunc[homestead/api.Part]",by decide,Tryz.func378.trans (by kernel_rfl)⟩
  f47:=Tryz.func157.trans (by kernel_rfl)
  f48:=Tryz.func158.trans (by kernel_rfl)
  f49 :=⟨ "slices.medianAdjacentCmpFunc[homestead/api.Part]",by decide,Tryz.func379.trans (by kernel_rfl)⟩
  f50 :=⟨ "slices.medianCmpFunc[homestead/api.Part]",by decide,Tryz.func380.trans (by kernel_rfl)⟩
  f57 :=⟨ "slices.order2CmpFunc[homestead/api.Part]",by decide,Tryz.func382.trans (by kernel_rfl)⟩
  t0:=Tryz.underlying0
  a0:=Tryz.isAgg0
  z0:=Tryz.sizeOf0
  v0:=Tryz.zeroValue0
  t3:=Tryz.underlying3
  a3:=Tryz.isAgg3
  z3:=Tryz.sizeOf3
  v3:=Tryz.zeroValue3
  t4:=Tryz.underlying4
  a4:=Tryz.isAgg4
  z4:=Tryz.sizeOf4
  v4:=Tryz.zeroValue4
  t5:=Tryz.underlying5
  a5:=Tryz.isAgg5
  z5:=Tryz.sizeOf5
  v5:=Tryz.zeroValue5
  t9:=Tryz.underlying9
  a9:=Tryz.isAgg9
  z9:=Tryz.sizeOf9
  v9:=Tryz.zeroValue9
  t22:=Tryz.underlying114
  a22:=Tryz.isAgg114
  z22:=Tryz.sizeOf114
  v22:=Tryz.zeroValue114
  t25:=Tryz.underlying331
  a25:=Tryz.isAgg331
  z25:=Tryz.sizeOf331
  v25:=Tryz.zeroValue331
  t39:=Tryz.underlying124
  a39:=Tryz.isAgg124
  z39:=Tryz.sizeOf124
  v39:=Tryz.zeroValue124
  t45:=Tryz.underlying159
  a45:=Tryz.isAgg159
  z45:=Tryz.sizeOf159
  v45:=Tryz.zeroValue159
  t46:=Tryz.underlying160
  a46:=Tryz.isAgg160
  z46:=Tryz.sizeOf160
  v46:=Tryz.zeroValue160
  t50:=Tryz.underlying79
  a50:=Tryz.isAgg79
  z50:=Tryz.sizeOf79
  v50:=Tryz.zeroValue79
  t53:=Tryz.underlying167
  a53:=Tryz.isAgg167
  z53:=Tryz.sizeOf167
  v53:=Tryz.zeroValue167
  t55:=Tryz.underlying169
  a55:=Tryz.isAgg169
  z55:=Tryz.sizeOf169
  v55:=Tryz.zeroValue169
  t66:=Tryz.underlying214
  a66:=Tryz.isAgg214
  z66:=Tryz.sizeOf214
  v66:=Tryz.zeroValue214
  t70:=Tryz.underlying218
  a70:=Tryz.isAgg218
  z70:=Tryz.sizeOf218
  v70:=Tryz.zeroValue218
  t76:=Tryz.underlying276
  a76:=Tryz.isAgg276
  z76:=Tryz.sizeOf276
  v76:=Tryz.zeroValue276
  t77:=Tryz.underlying277
  a77:=Tryz.isAgg277
  z77:=Tryz.sizeOf277
  v77:=Tryz.zeroValue277
def aLs :Ren:=⟨λx=>match x with
 |6=>30
 |15=>47
 |14=>58
 |28=>88
 |29=>89
 |20=>102
 |21=>103
 |22=>104
 |23=>105
 |24=>106
 |25=>107
 |26=>108
 |27=>109
 |46=>173
 |47=>157
 |48=>158
 |49=>174
 |50=>175
 |57=>249
 |n=>n,λx=>match x with
 |22=>86
 |24=>87
 |25=>89
 |3=>3
 |39=>124
 |0=>0
 |53=>167
 |55=>169
 |4=>4
 |46=>160
 |45=>159
 |50=>79
 |5=>5
 |9=>9
 |66=>214
 |70=>218
 |76=>276
 |77=>277
 |n=>n,λx=>x⟩
theorem aLu :SlLaysF0.n6 Tryz.prog aLs where
  mixed:=rfl
  f6 :=⟨ "slices.SortFunc[[]homestead/claim.place,homestead/claim.place]",by decide,Tryz.func30.trans (by kernel_rfl)⟩
  f14 :=⟨ "slices.pdqsortCmpFunc[homestead/claim.place]",by decide,Tryz.func58.trans (by kernel_rfl)⟩
  f15:=Tryz.func47.trans (by kernel_rfl)
  f20 :=⟨ "slices.insertionSortCmpFunc[homestead/claim.place]",by decide,Tryz.func102.trans (by kernel_rfl)⟩
  f21 :=⟨ "slices.heapSortCmpFunc[homestead/claim.place]",by decide,Tryz.func103.trans (by kernel_rfl)⟩
  f22 :=⟨ "slices.breakPatternsCmpFunc[homestead/claim.place]",by decide,Tryz.func104.trans (by kernel_rfl)⟩
  f23 :=⟨ "slices.choosePivotCmpFunc[homestead/claim.place]",by decide,Tryz.func105.trans (by kernel_rfl)⟩
  f24 :=⟨ "slices.reverseRangeCmpFunc[homestead/claim.place]",by decide,Tryz.func106.trans (by kernel_rfl)⟩
  f25 :=⟨ "slices.partialInsertionSortCmpFunc[homestead/claim.place]",by decide,Tryz.func107.trans (by kernel_rfl)⟩
  f26 :=⟨ "slices.partitionEqualCmpFunc[homestead/claim.place]",by decide,Tryz.func108.trans (by kernel_rfl)⟩
  f27 :=⟨ "slices.partitionCmpFunc[homestead/claim.place]",by decide,Tryz.func109.trans (by kernel_rfl)⟩
  f28:=Tryz.func88.trans (by kernel_rfl)
  f29:=Tryz.func89.trans (by kernel_rfl)
  f46 :=⟨ "slices.siftDownCmpFunc[homestead/claim.place]",by decide,Tryz.func173.trans (by kernel_rfl)⟩
  f47:=Tryz.func157.trans (by kernel_rfl)
  f48:=Tryz.func158.trans (by kernel_rfl)
  f49 :=⟨ "slices.medianAdjacentCmpFunc[homestead/claim.place]",by decide,Tryz.func174.trans (by kernel_rfl)⟩
  f50 :=⟨ "slices.medianCmpFunc[homestead/claim.place]",by decide,Tryz.func175.trans (by kernel_rfl)⟩
  f57 :=⟨ "slices.order2CmpFunc[homestead/claim.place]",by decide,Tryz.func249.trans (by kernel_rfl)⟩
  t0:=Tryz.underlying0
  a0:=Tryz.isAgg0
  z0:=Tryz.sizeOf0
  v0:=Tryz.zeroValue0
  t3:=Tryz.underlying3
  a3:=Tryz.isAgg3
  z3:=Tryz.sizeOf3
  v3:=Tryz.zeroValue3
  t4:=Tryz.underlying4
  a4:=Tryz.isAgg4
  z4:=Tryz.sizeOf4
  v4:=Tryz.zeroValue4
  t5:=Tryz.underlying5
  a5:=Tryz.isAgg5
  z5:=Tryz.sizeOf5
  v5:=Tryz.zeroValue5
  t9:=Tryz.underlying9
  a9:=Tryz.isAgg9
  z9:=Tryz.sizeOf9
  v9:=Tryz.zeroValue9
  t22:=Tryz.underlying86
  a22:=Tryz.isAgg86
  z22:=Tryz.sizeOf86
  v22:=Tryz.zeroValue86
  t25:=Tryz.underlying89
  a25:=Tryz.isAgg89
  z25:=Tryz.sizeOf89
  v25:=Tryz.zeroValue89
  t39:=Tryz.underlying124
  a39:=Tryz.isAgg124
  z39:=Tryz.sizeOf124
  v39:=Tryz.zeroValue124
  t45:=Tryz.underlying159
  a45:=Tryz.isAgg159
  z45:=Tryz.sizeOf159
  v45:=Tryz.zeroValue159
  t46:=Tryz.underlying160
  a46:=Tryz.isAgg160
  z46:=Tryz.sizeOf160
  v46:=Tryz.zeroValue160
  t50:=Tryz.underlying79
  a50:=Tryz.isAgg79
  z50:=Tryz.sizeOf79
  v50:=Tryz.zeroValue79
  t53:=Tryz.underlying167
  a53:=Tryz.isAgg167
  z53:=Tryz.sizeOf167
  v53:=Tryz.zeroValue167
  t55:=Tryz.underlying169
  a55:=Tryz.isAgg169
  z55:=Tryz.sizeOf169
  v55:=Tryz.zeroValue169
  t66:=Tryz.underlying214
  a66:=Tryz.isAgg214
  z66:=Tryz.sizeOf214
  v66:=Tryz.zeroValue214
  t70:=Tryz.underlying218
  a70:=Tryz.isAgg218
  z70:=Tryz.sizeOf218
  v70:=Tryz.zeroValue218
  t76:=Tryz.underlying276
  a76:=Tryz.isAgg276
  z76:=Tryz.sizeOf276
  v76:=Tryz.zeroValue276
  t77:=Tryz.underlying277
  a77:=Tryz.isAgg277
  z77:=Tryz.sizeOf277
  v77:=Tryz.zeroValue277
end Go.Proofs.YtnogfoojjaainaaGreatDoor
namespace Go.Proofs.YtnogfoojjaainaaGreatDoor
open Go Go.Abs
attribute [local irreducible] Ev PWp
set_option maxRecDepth 10000
set_option maxHeartbeats 4000000
def abc :ByteArray:=⟨#[97,98,99,100,101,102,103,104,105,106,107,108,109,110,111,112,113,114,115,116,117,118,119,120,121,122]⟩
def abc9 :ByteArray:=⟨#[97,98,99,100,101,102,103,104,105,106,107,108,109,110,111,112,113,114,115,116,117,118,119,120,121,122,48,49,50,51,52,53,54,55,56,57,95]⟩
def agJ(b:UInt8):Bool:=decide (97<=b.toNat)&&decide (b.toNat<=122)
def alB(b:UInt8):Bool:=(agJ b||decide (48<=b.toNat)&&decide (b.toNat<=57))||decide (b.toNat=95)
theorem aEQ{p:UInt8->Bool}(h:((List.range 256).all λn=>p (UInt8.ofNat n))=true)(b:UInt8):p b=true:=by
 have:=zal.1 h b.toNat (List.mem_range.2 b.toNat_lt)
 simpa using this
theorem azG(b:UInt8):abc9.data.toList.contains b=alB b:=by
 have:=aEQ (p:=λb=>abc9.data.toList.contains b==alB b) (by decide+kernel) b
 simpa using this
theorem aFK(b:UInt8):decide (firstIdx abc b>=0)=agJ b:=by
 have:=aEQ (p:=λb=>decide (firstIdx abc b>=0)==agJ b) (by decide+kernel) b
 simpa using this
theorem acS{α:Type}{p:α->Bool}:∀{l:List α},l.dropWhile p=[]↔∀x∈l,p x=true
 |[]=>by simp
 |a::l=>by
  rw[List.dropWhile_cons]
  cases h:p a with
  |true=>simp[h,acS (l:=l)]
  |false=>simp[h]
theorem ajB{l cs:List UInt8}:Lib.trimS l cs=[]↔∀x∈l,cs.contains x=true:=by
 have b:∀{m:List UInt8}{p:UInt8->Bool},(∀x∈m,p x=true)↔∀x∈m.dropWhile p,p x=true:=by
  intro m p;constructor
  ·exactλh x hx=>h x (List.dropWhile_sublist p|>.subset hx)
  ·intro h
   cases e:m.dropWhile p with
   |nil=>exact acS.1 e
   |cons a rs=>
    have d:=h a (by rw[e];simp);have c:=List.head_dropWhile_not p (l:=m) (by rw[e];simp);simp only[e,List.head_cons]at c;rw[d]at c;cases c
 unfold Lib.trimS Lib.trimLeftS Lib.trimRightS;rw[acS];have:=b (m:=l.reverse) (p:=λx=>cs.contains x);simp only[List.mem_reverse]at this⊢;exact this.symm
theorem aoU :(Tryz.prog.info? (renT.t 116)).map (λi=>(i.zero,i.size))=some (some (.agg (Array.replicate 256 (.bool false))),256):=by kernel_rfl
theorem aCi(s:ByteArray)(h0:0<s.size)(hs:s.size<=9223372036854775807):PF Tryz.prog 210 [vs s,vs abc9] (vs (⟨(Lib.trimS s.data.toList abc9.data.toList).toArray⟩)):=
 aIX (by kernel_rfl) λw=>(Any.strings_Trim_set aLe (zero_of_info aoU).1 (zero_of_info aoU).2 s abc9 w (by decide) h0 hs (by decide) (ascii_of_all (by decide))).mono λe w' ⟨a,q,b⟩=>⟨a, .inr ⟨_,_,q,b⟩⟩
theorem avR(s:ByteArray)(h:s.data.toList.all alB=true):(⟨(Lib.trimS s.data.toList abc9.data.toList).toArray⟩:ByteArray)=e0:=by
 rw[ajB.2 λx hx=>by rw[azG];exact zal.1 h x hx]
theorem aE0(s:ByteArray)(h:s.data.toList.all alB=false):(⟨(Lib.trimS s.data.toList abc9.data.toList).toArray⟩:ByteArray)≠e0:=λe=>by
 have:Lib.trimS s.data.toList abc9.data.toList=[]:=by
  have:=congrArg (λb:ByteArray=>b.data.toList) e
  simpa using this
 rw[ajB]at this
 rw[<-Bool.not_eq_true,zal]at h
 exact h λx hx=>by rw[<-azG];exact this x hx
theorem alK(b:ByteArray)(c:UInt8):PF Tryz.prog 359 [vs b, .val (.int .u8 (c.toNat:Int))] (vi (firstIdx b c)):=by
 have e:(((c.toNat:Nat):Int).toNat).toUInt8=c:=by simp
 refine pF Tryz.func359 rfl λst=>?_
 repeat' first|apply wZ;rfl|show Cn _;constructor|exact rfl|show(_:PV)=_;(rw[e]);done|apply aJx pk;rfl;rfl;exact Tryz.func376;kernel_rfl;kernel_rfl;kernel_rfl;kernel_rfl;rfl;rfl;rotate_left;rfl;rfl
def one(c:UInt8):ByteArray:=⟨#[c]⟩
theorem aCh(c:UInt8):PF Tryz.prog 340 [vs abc,vs (one c)] (vi (firstIdx abc c)):=by
 have hb:=alK abc c;have hz:(one c).size=1:=rfl;have hg:(one c)[0]?=some c:=rfl;have a:¬(one c=abc):=λe=>by have:=congrArg ByteArray.size e;rw[hz]at this;cases this
 have b:¬(one c=ByteArray.empty\/one c=abc):=λq=>q.elim (λe=>by have:=congrArg ByteArray.size e;rw[hz]at this;cases this) a;refine pF Tryz.func340 rfl λst=>?_
 repeat' first|apply wZ;rfl|show Cn _;constructor|exact rfl|apply hb|apply sxA pk.htt 0 c;(iterate 6 rfl);exact hg;rfl|apply wY;rfl
theorem auW(c:UInt8):PF Tryz.prog 211 [vs abc,vs (one c)] (vb (agJ c)):=by
 have a:=aCh c;have b:PF Tryz.prog 286 [vs abc,vs (one c)] (vi (firstIdx abc c)):=by
  refine pF Tryz.func286 rfl λst=>?_
  repeat' first|apply wZ;rfl|show Cn _;constructor|exact rfl|apply a|apply wY;rfl
 refine pF Tryz.func211 rfl λst=>?_
 repeat' first|apply wZ;rfl|show Cn _;constructor|exact rfl|apply b|show(_:PV)=_;(rw[<-aFK]);done|apply wY;rfl
def pY(s:ByteArray):Bool:=match s.data.toList with
 |[]=>false
 |c::l=>agJ c&&(decide (s.size<=12)&&(c::l).all alB)
theorem sT(s:ByteArray):s.size=s.data.toList.length:=(Array.length_toList (xs:=s.data)).symm
theorem aiL(s:ByteArray):PF Tryz.prog 133 [vs s] (vb (pY s)):=by
 unfold pY;cases hl:s.data.toList with
 |nil=>
  obtain rfl:s=e0:=by
   apply ByteArray.ext;apply Array.toList_inj.1;rw[hl]
  refine pF Tryz.func133 rfl λst=>?_
  (repeat' first|apply cW;focus(intro _;(apply(show PF Tryz.prog 210 [_,_] (vs e0)from by rename_i hh;exact absurd (show false=true from hh) (by simp)));done)|apply cW;focus(intro _;(apply(show PF Tryz.prog 211 [_,_] (vb false)from by rename_i hh;exact absurd (show false=true from hh) (by simp)));done)|apply wZ;rfl|show Cn _;constructor|exact rfl|apply slT pk 0 1;rfl;rfl;rfl;rotate_left;rfl;(intro _;exact aX);(intro _;exact aL rfl rfl);(intro _;omega);(intro hh;exact absurd (show false=true from hh) (by simp));rfl|apply wY;rfl)
 |cons c l=>
  have hz:=sT s;rw[hl]at hz;have h0:0<s.size:=by rw[hz];simp
  have a:¬(s=e0):=λe=>by rw[e]at h0;exact absurd h0 (by decide)
  have d:¬(s=(⟨#[]⟩:ByteArray)):=a;have g:s.extract 0 1=one c:=by
   apply ByteArray.ext;apply Array.toList_inj.1;show _=[c];rw[ByteArray.data_extract,Array.toList_extract,hl];rfl
  dsimp only;by_cases f:s.size<=12
  ·have ht:=aCi s h0 (by omega)
   have b:(s.size:Int)<=12:=by omega
   have hc:=auW c;rw[<-g]at hc;cases ha:s.data.toList.all alB with
   |true=>
    rw[avR s ha]at ht;rw[hl]at ha;rw[ha];refine pF Tryz.func133 rfl λst=>?_
    (repeat' first|apply wZ;rfl|show Cn _;constructor|exact rfl|(first|apply ht|apply hc)|show(_:PV)=_;(simp[a,d,f,b,e0];done);done|apply slT pk 0 1;rfl;rfl;rfl;rotate_left;rfl;(intro _;exact aX);(intro _;exact aL rfl rfl);(intro _;omega);(intro _;omega);rfl|apply wY;rfl)
   |false=>
    have h:=aE0 s ha;rw[hl]at ha;rw[ha];have i:¬((⟨(Lib.trimS s.data.toList abc9.data.toList).toArray⟩:ByteArray)=(⟨#[]⟩:ByteArray)):=h;generalize(⟨(Lib.trimS s.data.toList abc9.data.toList).toArray⟩:ByteArray)=T at*;refine pF Tryz.func133 rfl λst=>?_
    repeat' first|apply wZ;rfl|show Cn _;constructor|exact rfl|(first|apply ht|apply hc)|show(_:PV)=_;(simp[a,d,f,b,h,i];done);done|apply slT pk 0 1;rfl;rfl;rfl;rotate_left;rfl;(intro _;exact aX);(intro _;exact aL rfl rfl);(intro _;omega);(intro _;omega);rfl|apply wY;rfl
  ·have b:¬(s.size:Int)<=12:=by omega
   have e:decide (s.size<=12)=false:=decide_eq_false f;have j:decide ((s.size:Int)<=12)=false:=decide_eq_false (by omega);have k:decide (s=e0)=false:=decide_eq_false a;have hT:∀p,(gw true (!decide (s=e0)) true&&p)=true->True:=λ_ _=>trivial;rw[e,Bool.false_and,Bool.and_false];refine pF Tryz.func133 rfl λst=>?_
   repeat' first|apply cW;focus(intro _;(apply(show PF Tryz.prog 210 [_,_] (vs e0)from by rename_i hh;simp[gw,a]at hh;omega));done)|apply cW;focus(intro _;(apply(show PF Tryz.prog 211 [_,_] (vb false)from by rename_i hh;simp[gw,a]at hh;omega));done)|apply wZ;rfl|show Cn _;constructor|exact rfl|show(_:PV)=_;(simp[a,d,f,b,e0];done);done|apply slT pk 0 1;rfl;rfl;rfl;rotate_left;rfl;(intro _;exact aX);(intro _;exact aL rfl rfl);(intro _;omega);(intro hh;omega);rfl|apply wY;rfl
theorem ayX(s:ByteArray){l:List UInt8}(hl:s.data.toList=l){i:Nat}(h:i<l.length):s[i]?=some l[i]:=by
 subst hl;have a:i<s.size:=by rw[sT];exact h
 rw[getElem?_pos s i a];rfl
theorem afK(s:ByteArray):PF Tryz.prog 162 [vs s] (vb (pY s)):=by
 unfold pY;cases hl:s.data.toList with
 |nil=>
  have hz:=sT s;rw[hl]at hz;have n:(s.size:Int)<1:=by rw[hz];decide
  refine pF Tryz.func162 rfl λst=>?_
  (repeat' first|(show Cn (.r _ _ _);refine .any ⟨_,_,_,rfl,zwr _,zsr _,?_,rfl⟩;try first|rfl|(exfalso;simp at*;omega);done)|apply wZ;rfl|show Cn _;constructor|exact rfl|apply KR.mk;kernel_rfl|show(_:PV)=_;(exfalso;simp at*;omega);done|apply sxG pk 0 0;(iterate 4 rfl);rotate_left;rfl;(intro _;rfl);(intro hh;rw[decide_eq_true n]at hh;exact absurd (show false=true from hh) (by simp));rfl|omega|intros;omega|simp only[zql];omega|intros;simp only[zql];omega|intros;simp only;omega|intro h;omega|intro h;simp at h;done|intro h;simp at h;omega|intro h;simp at h|intro h)
 |cons c l=>
  have hz:=sT s;rw[hl]at hz;have h0:0<s.size:=by rw[hz];simp
  have f:s[0]?=some c:=ayX s hl (i:=0) (by simp);have y:=c.toNat_lt;dsimp only;by_cases a:¬(s.size<=12/\agJ c=true)
  ·have e:(agJ c&&(decide (s.size<=12)&&(c::l).all alB))=false:=by
    cases d:agJ c
    ·rfl
    ·rw[d]at a;simp at a;simp;intro h;omega
   rw[e];unfold agJ at a;simp at a;refine pF Tryz.func162 rfl λst=>?_
   repeat' first|exfalso;simp at*;omega|(show Cn (.r _ _ _);refine .any ⟨_,_,_,rfl,zwr _,zsr _,?_,rfl⟩;try first|rfl|(exfalso;simp at*;omega);done)|apply wZ;rfl|show Cn _;constructor|exact rfl|apply KR.mk;kernel_rfl|show(_:PV)=_;(exfalso;simp at*;omega);done|apply sxG pk 0 c;(iterate 4 rfl);rotate_left;rfl;(intro _;rfl);(intro _;exact f);rfl|omega|intros;omega|simp only[zql];omega|intros;simp only[zql];omega|intros;simp only;omega|intro h;omega|intro h;simp at h;done|intro h;simp at h;omega|intro h;simp at h|intro h
  replace a:=zdn a
  obtain⟨d,o⟩:=a;rw[o,decide_eq_true d,Bool.true_and,Bool.true_and];simp only[agJ,zba,zde]at o;generalize hL:c::l=L at*;refine pF Tryz.func162 rfl λst=>?_
  repeat' first|(show Cn (.r _ _ _);refine .any ⟨_,_,_,rfl,zwr _,zsr _,?_,rfl⟩;try first|rfl|(exfalso;simp at*;omega);done)|apply wZ;rfl|show Cn _;constructor|exact rfl|apply KR.mk;kernel_rfl|show(_:PV)=_;(exfalso;simp at*;omega);done|apply sxG pk 0 c;(iterate 4 rfl);rotate_left;rfl;(intro _;rfl);(intro _;exact f);rfl|omega|intros;omega|simp only[zql];omega|intros;simp only[zql];omega|intros;simp only;omega|intro h;omega|intro h;simp at h;done|intro h;simp at h;omega|intro h;simp at h|intro h
  refine aC (X:={x:Nat//x<=L.length/\∀j (h:j<x) (d:j<L.length),alB L[j]=true}) (λi=>(((St.nil 62 st).pv 0 (vs s)).pv 3 (vi (i.1:Nat)))) (λi=>L.length-i.1) ⟨0,by omega,λ_ h=>absurd h (Nat.not_lt_zero _)⟩ ?_ λi=>?_
  ·repeat' first|show Cn _;constructor|exact rfl
  obtain⟨i,hi,t⟩:=i;dsimp only;by_cases u:L.length<=i
  ·have e:L.all alB=true:=zal.2 λc hc=>by
    obtain⟨j,hj,rfl⟩:=zgo hc;exact t j (by omega) hj
   rw[e]
   repeat' first|(show Cn (.r _ _ _);refine .any ⟨_,_,_,rfl,zwr _,zsr _,?_,rfl⟩;try first|rfl|(exfalso;omega);done)|apply wZ;rfl|show Cn _;constructor|exact rfl|apply KR.mk;kernel_rfl|show(_:PV)=_;(exfalso;omega);done|omega|intros;omega|simp only[zql];omega|intros;simp only[zql];omega|intros;simp only;omega|intro h;omega|intro h;simp at h;done|intro h;simp at h;omega|intro h;simp at h|intro h
  have g:i<L.length:=by omega
  have m:=ayX s hl g;have p:alB L[i]=false->L.all alB=false:=λh=>by
   rw[<-Bool.not_eq_true,zal]
   intro q;rw[q _ (zgm g)]at h;cases h
  have v:alB L[i]=true->∀j (h:j<i+1) (d:j<L.length),alB L[j]=true:=λh j hj d=>by
   rcases zls.1 hj with q|q
   ·exact t j q d
   ·subst q;exact h
  generalize L[i]=b at*;have w:=b.toNat_lt;have k:alB b=((decide (97<=b.toNat)&&decide (b.toNat<=122))||decide (48<=b.toNat)&&decide (b.toNat<=57)||decide (b.toNat=95)):=rfl
  repeat' first|(show Cn (.r _ _ _);refine .any ⟨_,_,_,rfl,zwr _,zsr _,?_,rfl⟩;try first|rfl|(rw[p (by rw[k];simp at*;omega)]);done)|refine⟨⟨i+1,by omega,v (by rw[k];simp at*;omega)⟩,?_,?_⟩|apply wZ;rfl|show Cn _;constructor|exact rfl|apply KR.mk;kernel_rfl|show(_:PV)=_;(rw[p (by rw[k];simp at*;omega)]);done|apply sxG pk i b;(iterate 4 rfl);rotate_left;rfl;(intro _;rfl);(intro _;exact m);rfl|omega|intros;omega|simp only[zql];omega|intros;simp only[zql];omega|intros;simp only;omega|intro h;omega|intro h;simp at h;done|intro h;simp at h;omega|intro h;simp at h|intro h
def cE(v:Vl):Bool:=if v.kind=0 then decide (v.n=0)&&decide (v.s=e0)else if v.kind=1 then(decide (v.s=e0)&&decide (v.n>= -1099511627776))&&decide (v.n<=1099511627776)else if v.kind=2 then decide (v.n=0)&&decide ((v.s.size:Int)<=200)else false
theorem kE(v:Vl):PF Tryz.prog 146 [.agg v.cells] (vb (cE v)):=by
 unfold cE;by_cases h0:v.kind=0
 ·rw[zp h0]
  refine pF Tryz.func146 rfl λst=>?_
  repeat' first|apply wZ;rfl|show Cn _;constructor|exact rfl|show(_:PV)=_;(simp[h0];done);done|omega|intro h
 by_cases a:v.kind=1
 ·rw[zn h0,zp a]
  refine pF Tryz.func146 rfl λst=>?_
  repeat' first|apply wZ;rfl|show Cn _;constructor|exact rfl|omega|intro h
 rw[zn h0,zn a];by_cases b:v.kind=2
 ·rw[zp b]
  refine pF Tryz.func146 rfl λst=>?_
  repeat' first|apply wZ;rfl|show Cn _;constructor|exact rfl|omega|intro h
 rw[zn b];refine pF Tryz.func146 rfl λst=>?_
 repeat' first|apply wZ;rfl|show Cn _;constructor|exact rfl|omega|intro h
theorem oW(v:Vl):PF Tryz.prog 164 [.agg v.cells] (vb (cE v)):=by
 unfold cE;by_cases h0:v.kind=0
 ·rw[zp h0]
  refine pF Tryz.func164 rfl λst=>?_
  repeat' first|(show Cn (.r _ _ _);refine .any ⟨_,_,_,rfl,zwr _,zsr _,?_,rfl⟩;try first|rfl|(first|simp[h0];done|exfalso;omega);done)|apply wZ;rfl|show Cn _;constructor|exact rfl|apply KR.mk;kernel_rfl|show(_:PV)=_;(first|simp[h0];done|exfalso;omega);done|omega|intros;omega|simp only[zql];omega|intros;simp only[zql];omega|intros;simp only;omega|intro h;omega|intro h;simp at h;done|intro h;simp at h;omega|intro h;simp at h|intro h
 by_cases b:v.kind=1
 ·rw[zn h0,zp b]
  refine pF Tryz.func164 rfl λst=>?_
  repeat' first|(show Cn (.r _ _ _);refine .any ⟨_,_,_,rfl,zwr _,zsr _,?_,rfl⟩;try first|rfl|(first|simp;done|exfalso;omega);done)|apply wZ;rfl|show Cn _;constructor|exact rfl|apply KR.mk;kernel_rfl|show(_:PV)=_;(first|simp;done|exfalso;omega);done|omega|intros;omega|simp only[zql];omega|intros;simp only[zql];omega|intros;simp only;omega|intro h;omega|intro h;simp at h;done|intro h;simp at h;omega|intro h;simp at h|intro h
 rw[zn h0,zn b];refine pF Tryz.func164 rfl λst=>?_
 repeat' first|(show Cn (.r _ _ _);refine .any ⟨_,_,_,rfl,zwr _,zsr _,?_,rfl⟩;try first|rfl|(first|by_cases a:v.kind=2<;>simp[a];done|exfalso;omega);done)|apply wZ;rfl|show Cn _;constructor|exact rfl|apply KR.mk;kernel_rfl|show(_:PV)=_;(first|by_cases a:v.kind=2<;>simp[a];done|exfalso;omega);done|omega|intros;omega|simp only[zql];omega|intros;simp only[zql];omega|intros;simp only;omega|intro h;omega|intro h;simp at h;done|intro h;simp at h;omega|intro h;simp at h|intro h
def bV(c:Cl):Int:=if c.kind≠2\/c.val.kind≠1 then 6 else if c.val.s≠e0\/0<c.parts.length then 1 else if c.val.n< -1099511627776\/c.val.n>1099511627776 then 20 else 0
theorem aAj(n:Int):PF Tryz.prog 225 [vi n] (vb (decide (n>= -1099511627776)&&decide (n<=1099511627776))):=by
 refine pF Tryz.func225 rfl λst=>?_
 repeat' first|apply wZ;rfl|show Cn _;constructor|exact rfl
theorem mO(c:Cl):PF Tryz.prog 148 [.agg c.cells] (vi (bV c)):=by
 have hf:=aAj c.val.n;unfold bV;by_cases a:c.kind≠2\/c.val.kind≠1
 ·rw[zp a]
  refine pF Tryz.func148 rfl λst=>?_
  repeat' first|apply wZ;rfl|show Cn _;constructor|exact rfl|intro h;simp at h;omega|intro h;simp at h
 rw[zn a];by_cases b:c.val.s≠e0\/0<c.parts.length
 ·rw[zp b]
  refine pF Tryz.func148 rfl λst=>?_
  repeat' first|apply wZ;rfl|show Cn _;constructor|exact rfl|apply hf|show(_:PV)=_;(exfalso;simp at*;grind);done|apply wY;rfl|intro h;simp at h;omega|intro h;simp at h
 rw[zn b];by_cases d:c.val.n< -1099511627776\/c.val.n>1099511627776
 ·rw[zp d]
  refine pF Tryz.func148 rfl λst=>?_
  repeat' first|apply wZ;rfl|show Cn _;constructor|exact rfl|apply hf|show(_:PV)=_;(exfalso;simp at*;grind);done|apply wY;rfl|intro h;simp at h;omega|intro h;simp at h
 rw[zn d];refine pF Tryz.func148 rfl λst=>?_
 repeat' first|apply wZ;rfl|show Cn _;constructor|exact rfl|apply hf|show(_:PV)=_;(exfalso;simp at*;grind);done|apply wY;rfl|intro h;simp at h;omega|intro h;simp at h
theorem wU(c:Cl):PF Tryz.prog 166 [.agg c.cells] (vi (bV c)):=by
 unfold bV;by_cases a:c.kind≠2\/c.val.kind≠1
 ·rw[zp a]
  refine pF Tryz.func166 rfl λst=>?_
  repeat' first|apply wZ;rfl|show Cn _;constructor|exact rfl|intro h;simp at h;omega|intro h;simp at h
 rw[zn a];by_cases b:c.val.s≠e0\/0<c.parts.length
 ·rw[zp b]
  refine pF Tryz.func166 rfl λst=>?_
  repeat' first|apply wZ;rfl|show Cn _;constructor|exact rfl|show(_:PV)=_;(exfalso;simp at*;grind);done|intro h;simp at h;omega|intro h;simp at h
 rw[zn b];by_cases d:c.val.n< -1099511627776\/c.val.n>1099511627776
 ·rw[zp d]
  refine pF Tryz.func166 rfl λst=>?_
  repeat' first|apply wZ;rfl|show Cn _;constructor|exact rfl|show(_:PV)=_;(exfalso;simp at*;grind);done|intro h;simp at h;omega|intro h;simp at h
 rw[zn d];refine pF Tryz.func166 rfl λst=>?_
 repeat' first|apply wZ;rfl|show Cn _;constructor|exact rfl|show(_:PV)=_;(exfalso;simp at*;grind);done|intro h;simp at h;omega|intro h;simp at h
theorem wG(c:Cl):PF Tryz.prog 231 [.seq [c.cells]] (vi (bV c)):=by
 have hc:=mO c;generalize bV c=R at*;refine pF Tryz.func231 rfl λst=>?_
 repeat' first|apply wZ;rfl|show Cn _;constructor
 refine aC (X:={x:Nat//x<=1/\(x=1->R=0)}) (λi=>((((St.nil 18 st).pv 6 (.seq [c.cells])).pv 7 (vi (([c.cells]).length:Nat))).pv 8 (vi (i.1:Nat)))) (λi=>1-i.1) ⟨0,by omega,by omega⟩ ?_ λi=>?_
 ·repeat' first|show Cn _;constructor|exact rfl
 obtain⟨i,b,a⟩:=i;dsimp only;rcases(show i=0\/i=1 by omega)with rfl|rfl
 ·repeat' first|refine⟨⟨1,by omega,λ_=>by assumption⟩,?_,?_⟩|apply wZ;rfl|show Cn _;constructor|exact rfl|apply cL pk;(iterate 6 rfl);rotate_left;rfl;(intro hw;rfl);(intro hw;apply(rfl:([c.cells]:List (List PV))[0]?=some c.cells)<;>omega);(intro _;rfl);rfl|apply hc|apply wY;rfl|omega|simp only[zql];omega|intro h
 ·have h0:=a rfl
  repeat' first|apply wZ;rfl|show Cn _;constructor|exact rfl|show(_:PV)=_;(rw[h0]);done
def aeI(c:Cl):Vl:=if bV c=0 then c.val else Vl.zero
theorem auJ(c:Cl):PF Tryz.prog 153 [.agg c.cells] (.agg (aeI c).cells):=by
 have hc:=wG c;unfold aeI;by_cases h:bV c=0
 ·rw[zp h]
  rw[h]at hc;refine pF Tryz.func153 rfl λst=>?_
  repeat' first|apply wZ;rfl|show Cn _;constructor|exact rfl|apply hc|apply wY;rfl
 rw[zn h];refine pF Tryz.func153 rfl λst=>?_
 repeat' first|apply wZ;rfl|show Cn _;constructor|exact rfl|apply hc|apply wY;rfl|omega|intro h
theorem aiP(a b:Dt):PF Tryz.prog 224 [.agg a.cells, .agg b.cells] (vi (byD a b)):=by
 have ho:=akQ [jE a.dev b.dev,jE a.seq b.seq] (by simp);refine pF Tryz.func224 rfl λst=>?_
 repeat' first|apply wZ;rfl|show Cn _;constructor|exact rfl|apply KR.mk;kernel_rfl|(first|apply kK a.dev b.dev|apply kK a.seq b.seq|apply ho)|apply wY;rfl
theorem axR(a b:Dt):decide (byD a b>=0)= !aW b a:=by
 unfold byD aW jE;simp only[orI];rw[Bool.eq_iff_iff];simp only[zde,Bool.not_eq_true',Bool.or_eq_false_iff,Bool.and_eq_false_iff,decide_eq_false_iff_not]
 grind
def gD(p:Pt):Prop:=p.at_=0/\p.time=0/\p.after=Dt.zero/\p.afterAt=0/\p.gone=false
instance(p :Pt):Decidable (gD p):=by unfold gD;infer_instance
def dU(d:Dt):Bool:=((decide (1<=d.dev)&&decide (d.dev<=64))&&decide (1<=d.seq))&&decide (d.seq<=1048576)
def eF(p:Pt):Bool:=(decide (gD p)&&cE p.val)&&dU p.dot
def eG(p:Pt):Bool:=(decide (gD p)&&(decide (p.val.kind=1)&&cE p.val))&&dU p.dot
def tC(ok:Pt->Bool)(bh:Pt->Pt->Bool)(l:List Pt):Bool:=(List.range l.length).all λj=>ok l[j]! &&(decide (j=0)||bh l[j]! l[j-1]!)
theorem akL{ok:Pt->Bool}{bh:Pt->Pt->Bool}{l:List Pt}{j:Nat}(h:j<l.length)(hf:(ok l[j]&&(decide (j=0)||bh l[j] (l[j-1]'(by omega))))=false):tC ok bh l=false:=by
 unfold tC;rw[<-Bool.not_eq_true,zal];intro q;have:=q j (List.mem_range.2 h);rw[getElem!_pos l j h,getElem!_pos l (j-1) (by omega),hf]at this;cases this
theorem wP{ok:Pt->Bool}{bh:Pt->Pt->Bool}{l:List Pt}(hf:∀j (h:j<l.length),(ok l[j]&&(decide (j=0)||bh l[j] (l[j-1]'(by omega))))=true):tC ok bh l=true:=by
 unfold tC;rw[zal];intro j hj;have h:=List.mem_range.1 hj;rw[getElem!_pos l j h,getElem!_pos l (j-1) (by omega)];exact hf j h
def jA(c:Cl):Bool:=decide (c.kind=1/\c.val=Vl.zero)&&tC eF (λp q=>aW p.dot q.dot) c.parts
def awH(p:Pt):List PV:=[vi p.val.n,vi p.dot.dev,vi p.dot.seq]
theorem xO(p:Pt):PF Tryz.prog 226 [.agg p.cells] (.agg (awH p)):=by
 refine pF Tryz.func226 rfl λst=>?_
 repeat' first|apply wZ;rfl|show Cn _;constructor|exact rfl
def ahI(p q:Pt):Int:=orI [jE p.val.n q.val.n,jE p.dot.dev q.dot.dev,jE p.dot.seq q.dot.seq]
theorem axF(p q:Pt):PF Tryz.prog 227 [.agg (awH p), .agg (awH q)] (vi (ahI p q)):=by
 have ho:=akQ [jE p.val.n q.val.n,jE p.dot.dev q.dot.dev,jE p.dot.seq q.dot.seq] (by simp);refine pF Tryz.func227 rfl λst=>?_
 repeat' first|apply wZ;rfl|show Cn _;constructor|exact rfl|apply KR.mk;kernel_rfl|(first|apply kK p.val.n q.val.n|apply kK p.dot.dev q.dot.dev|apply kK p.dot.seq q.dot.seq|apply ho)|apply wY;rfl
def dP(p q:Pt):Bool:=decide (p.val.n>q.val.n)||(decide (p.val.n=q.val.n)&&aW p.dot q.dot)
theorem aFi(p q:Pt):decide (ahI p q>=0)= !dP q p:=by
 unfold ahI dP aW jE;simp only[orI];rw[Bool.eq_iff_iff];simp only[zde,Bool.not_eq_true',Bool.or_eq_false_iff,Bool.and_eq_false_iff,decide_eq_false_iff_not]
 grind
theorem aE3(p q:Pt):PF Tryz.prog 238 [.agg p.cells, .agg q.cells] (vb (dP p q)):=by
 have h:=oE p.dot q.dot;refine pF Tryz.func238 rfl λst=>?_
 repeat' first|show Cn (.r _ _ _);refine .any ⟨_,_,_,rfl,zwr _,zsr _,?_,rfl⟩;try rfl|apply wZ;rfl|show Cn _;constructor|exact rfl|apply KR.mk;kernel_rfl|apply h<;>(first|assumption|omega)|apply wY;rfl|omega|intros;omega|simp only[zql];omega|intros;simp only[zql];omega|intros;simp only;omega|intro h;omega|intro h;simp at h;done|intro h;simp at h;omega|intro h;simp at h|intro h
def gQ(c:Cl):Bool:=decide (c.kind=3/\c.val=Vl.zero)&&tC eG dP c.parts
theorem kJ{x:Bool}(h:gw x (decide (((0:Nat):Int)>0)) true=true):False:=by
 cases x<;>simp[gw]at h
theorem anU(c:Cl)(hl:c.parts.length<4611686018427387904):PF Tryz.prog 147 [.agg c.cells] (vb (jA c)):=by
 unfold jA;by_cases hk:¬(c.kind=1/\c.val=Vl.zero)
 ·rw[decide_eq_false hk,Bool.false_and]
  rw[Vl.ext_iff]at hk;simp only[Vl.zero]at hk;refine pF Tryz.func147 rfl λst=>?_
  repeat' first|exfalso;grind|apply wZ;rfl|show Cn _;constructor|exact rfl|intro h;simp at h
 replace hk:=zdn hk
 rw[decide_eq_true hk,Bool.true_and];obtain⟨k1,k2⟩:=hk;rw[Vl.ext_iff]at k2;obtain⟨k2,m,n⟩:=k2;simp only[Vl.zero]at k2 m n;refine pF Tryz.func147 rfl λst=>?_
 repeat' first|apply wZ;rfl|show Cn _;constructor|exact rfl|show(_:PV)=_;(exfalso;grind);done|intro h;simp at h
 refine aC (X:={x:Nat//x<=c.parts.length/\∀j (h:j<x) (b:j<c.parts.length),(eF c.parts[j]&&(decide (j=0)||aW c.parts[j].dot (c.parts[j-1]'(by omega)).dot))=true}) (λi=>(((((St.nil 79 st).var 1 116 (c.cells)).pv 16 (.seq (c.parts.map Pt.cells))).pv 17 (vi ((c.parts.map Pt.cells).length:Nat))).pv 18 (vi (i.1:Nat)))) (λi=>c.parts.length-i.1) ⟨0,by omega,λ_ h=>absurd h (Nat.not_lt_zero _)⟩ ?_ λi=>?_
 ·repeat' first|show Cn _;constructor|exact rfl
 obtain⟨i,hi,f⟩:=i;dsimp only;by_cases l:c.parts.length<=i
 ·have e:=wP (ok:=eF) (bh:=λp q=>aW p.dot q.dot) λj h=>f j (by omega) h
  repeat' first|apply wZ;rfl|show Cn _;constructor|exact rfl|show(_:PV)=_;(rw[e]);done|simp only[zql];omega|intro h;simp at h
 have b:i<c.parts.length:=by omega
 have d:=akL (ok:=eF) (bh:=λp q=>aW p.dot q.dot) b;have g:(eF c.parts[i]&&(decide (i=0)||aW c.parts[i].dot (c.parts[i-1]'(by omega)).dot))=true->∀j (h:j<i+1) (b:j<c.parts.length),(eF c.parts[j]&&(decide (j=0)||aW c.parts[j].dot (c.parts[j-1]'(by omega)).dot))=true:=λh j hj b=>by
  rcases zls.1 hj with q|q
  ·exact f j q b
  ·subst q;exact h
 have hv:=kE c.parts[i].val;by_cases h0:i=0
 ·subst h0
  have a:¬(eF c.parts[0]=true)->tC eF (λp q=>aW p.dot q.dot) c.parts=false:=λh=>d (by rw[<-Bool.not_eq_true];intro q;rw[zba]at q;exact h q.1);simp only[eF,gD,dU,Dt.ext_iff,Dt.zero,zba,zde]at a
  repeat' first|apply iX;(intro hw;exact(show _=((0:Nat):Int)from by exact(kJ hw).elim));(apply gE;omega);rfl|apply cW;focus(intro _;(apply(show PF Tryz.prog 224 [_, .agg c.parts[0].dot.cells] (vi 0)from by rename_i hh;exact(kJ hh).elim));done)|refine⟨⟨1,by omega,g (by simp[eF,gD,dU,Dt.ext_iff,Dt.zero];grind)⟩,?_,?_⟩|apply wZ;rfl|show Cn _;constructor|exact rfl|apply KR.mk;kernel_rfl|apply hv|show(_:PV)=_;(rw[a (by grind)];done);done|apply wY;rfl|apply wI;rfl|apply gE;omega|omega|simp only[zql];omega|intro h;simp at h
 obtain⟨k,rfl⟩:∃k,i=k+1:=⟨i-1,by omega⟩;have hd:=aiP c.parts[k].dot c.parts[k+1].dot;have hb:byD c.parts[k].dot c.parts[k+1].dot>=0↔aW c.parts[k+1].dot c.parts[k].dot=false:=by have:=axR c.parts[k].dot c.parts[k+1].dot;cases h:aW c.parts[k+1].dot c.parts[k].dot<;>simp[h]at this⊢ <;>omega
 have a:¬(eF c.parts[k+1]=true/\byD c.parts[k].dot c.parts[k+1].dot<0)->tC eF (λp q=>aW p.dot q.dot) c.parts=false:=λh=>d (by rw[<-Bool.not_eq_true];intro q;rw[zba]at q;exact h ⟨q.1,by have o:=q.2;simp at o;grind⟩);simp only[eF,gD,dU,Dt.ext_iff,Dt.zero,zba,zde]at a
 repeat' first|apply iX;(intro hw;exact(show((((k+1:Nat):Int))-1=((k:Nat):Int))from by omega));(apply gE;omega);rfl|refine⟨⟨k+2,by omega,g (by simp[eF,gD,dU,Dt.ext_iff,Dt.zero];grind)⟩,?_,?_⟩|apply wZ;rfl|show Cn _;constructor|exact rfl|apply KR.mk;kernel_rfl|(first|apply hv|apply hd)|show(_:PV)=_;(rw[a (by grind)]);done|apply wY;rfl|apply wI;rfl|apply gE;omega|omega|simp only[zql];omega|intro h;simp at h
theorem akN(c:Cl)(hl:c.parts.length<4611686018427387904):PF Tryz.prog 165 [.agg c.cells] (vb (jA c)):=by
 unfold jA;have d:(decide (c.kind=1)&&(decide (c.val.kind=0)&&(decide (c.val.n=0)&&decide (c.val.s=e0))))=decide (c.kind=1/\c.val=Vl.zero):=by rw[Bool.eq_iff_iff];simp[Vl.ext_iff,Vl.zero]
 refine pF Tryz.func165 rfl λst=>?_
 repeat' first|show Cn (.r _ _ _);refine .any ⟨_,_,_,rfl,zwr _,zsr _,?_,rfl⟩;try rfl|apply wZ;rfl|show Cn _;constructor|exact rfl|apply KR.mk;kernel_rfl|omega|intros;omega|simp only[zql];omega|intros;simp only[zql];omega|intros;simp only;omega|intro h;omega|intro h;simp at h;done|intro h;simp at h;omega|intro h;simp at h|intro h
 refine aC (X:={x:Nat//x<=c.parts.length/\∀j (h:j<x) (b:j<c.parts.length),(eF c.parts[j]&&(decide (j=0)||aW c.parts[j].dot (c.parts[j-1]'(by omega)).dot))=true}) (λi=>(((St.nil 76 st).var 1 116 (c.cells)).pv 3 (vi (i.1:Nat)))) (λi=>c.parts.length-i.1) ⟨0,by omega,λ_ h=>absurd h (Nat.not_lt_zero _)⟩ ?_ λi=>?_
 ·repeat' first|show Cn _;constructor|exact rfl
 obtain⟨i,hi,g⟩:=i;dsimp only;by_cases m:c.parts.length<=i
 ·have e:=wP (ok:=eF) (bh:=λp q=>aW p.dot q.dot) λj h=>g j (by omega) h
  repeat' first|(show Cn (.r _ _ _);refine .any ⟨_,_,_,rfl,zwr _,zsr _,?_,rfl⟩;try first|rfl|(rw[e,Bool.and_true,<-d]);done)|apply wZ;rfl|show Cn _;constructor|exact rfl|apply KR.mk;kernel_rfl|show(_:PV)=_;(rw[e,Bool.and_true,<-d]);done|omega|intros;omega|simp only[zql];omega|intros;simp only[zql];omega|intros;simp only;omega|intro h;omega|intro h;simp at h;done|intro h;simp at h;omega|intro h;simp at h|intro h
 have b:i<c.parts.length:=by omega
 have f:=akL (ok:=eF) (bh:=λp q=>aW p.dot q.dot) b;have l:(eF c.parts[i]&&(decide (i=0)||aW c.parts[i].dot (c.parts[i-1]'(by omega)).dot))=true->∀j (h:j<i+1) (b:j<c.parts.length),(eF c.parts[j]&&(decide (j=0)||aW c.parts[j].dot (c.parts[j-1]'(by omega)).dot))=true:=λh j hj b=>by
  rcases zls.1 hj with q|q
  ·exact g j q b
  ·subst q;exact h
 have hv:=oW c.parts[i].val;by_cases h0:i=0
 ·subst h0
  have a:¬(eF c.parts[0]=true)->tC eF (λp q=>aW p.dot q.dot) c.parts=false:=λh=>f (by rw[<-Bool.not_eq_true];intro q;rw[zba]at q;exact h q.1);simp only[eF,gD,dU,Dt.ext_iff,Dt.zero,zba,zde]at a
  repeat' first|apply iX;(intro hw;exact(show _=((0:Nat):Int)from by exact(kJ hw).elim));(apply gE;omega);rfl|apply cW;focus(intro _;(apply(show PF Tryz.prog 169 [.agg c.parts[0].dot.cells,_] (vb false)from by rename_i hh;exact(kJ hh).elim)<;>(first|assumption|omega));done)|(show Cn (.r _ _ _);refine .any ⟨_,_,_,rfl,zwr _,zsr _,?_,rfl⟩;try first|rfl|(first|rw[a (by grind),Bool.and_false];done|exact absurd (by assumption:c.parts=[]) (List.ne_nil_of_length_pos b));done)|refine⟨⟨1,by omega,l (by simp[eF,gD,dU,Dt.ext_iff,Dt.zero];grind)⟩,?_,?_⟩|apply wZ;rfl|show Cn _;constructor|exact rfl|apply KR.mk;kernel_rfl|apply hv<;>(first|assumption|omega)|show(_:PV)=_;(first|rw[a (by grind),Bool.and_false];done|exact absurd (by assumption:c.parts=[]) (List.ne_nil_of_length_pos b));done|apply wY;rfl|apply wI;rfl|apply gE;omega|apply gE;show 0<_;omega|apply gE;show 1<_;omega|omega|intros;omega|simp only[zql];omega|intros;simp only[zql];omega|intros;simp only;omega|intro h;omega|intro h;simp at h;done|intro h;simp at h;omega|intro h;simp at h|intro h
 obtain⟨k,rfl⟩:∃k,i=k+1:=⟨i-1,by omega⟩;have hd:=oE c.parts[k+1].dot c.parts[k].dot;have a:¬(eF c.parts[k+1]=true/\aW c.parts[k+1].dot c.parts[k].dot=true)->tC eF (λp q=>aW p.dot q.dot) c.parts=false:=λh=>f (by rw[<-Bool.not_eq_true];intro q;rw[zba]at q;exact h ⟨q.1,by have o:=q.2;simp at o;grind⟩);simp only[eF,gD,dU,Dt.ext_iff,Dt.zero,zba,zde]at a
 repeat' first|apply iX;(intro hw;exact(show((((k+1:Nat):Int))-1=((k:Nat):Int))from by omega));(apply gE;omega);rfl|(show Cn (.r _ _ _);refine .any ⟨_,_,_,rfl,zwr _,zsr _,?_,rfl⟩;try first|rfl|(rw[a (by grind),Bool.and_false]);done)|refine⟨⟨k+2,by omega,l (by simp[eF,gD,dU,Dt.ext_iff,Dt.zero];grind)⟩,?_,?_⟩|apply wZ;rfl|show Cn _;constructor|exact rfl|apply KR.mk;kernel_rfl|((first|apply hv|apply hd)<;>(first|assumption|omega))|show(_:PV)=_;(rw[a (by grind),Bool.and_false]);done|apply wY;rfl|apply wI;rfl|apply gE;omega|apply gE;show 0<_;omega|apply gE;show 1<_;omega|omega|intros;omega|simp only[zql];omega|intros;simp only[zql];omega|intros;simp only;omega|intro h;omega|intro h;simp at h;done|intro h;simp at h;omega|intro h;simp at h|intro h
theorem amV(c:Cl)(hl:c.parts.length<4611686018427387904):PF Tryz.prog 149 [.agg c.cells] (vb (gQ c)):=by
 unfold gQ;by_cases hk:¬(c.kind=3/\c.val=Vl.zero)
 ·rw[decide_eq_false hk,Bool.false_and]
  rw[Vl.ext_iff]at hk;simp only[Vl.zero]at hk;refine pF Tryz.func149 rfl λst=>?_
  repeat' first|exfalso;grind|apply wZ;rfl|show Cn _;constructor|exact rfl|intro h;simp at h
 replace hk:=zdn hk
 rw[decide_eq_true hk,Bool.true_and];obtain⟨k1,k2⟩:=hk;rw[Vl.ext_iff]at k2;obtain⟨k2,p,r⟩:=k2;simp only[Vl.zero]at k2 p r;refine pF Tryz.func149 rfl λst=>?_
 repeat' first|apply wZ;rfl|show Cn _;constructor|exact rfl|show(_:PV)=_;(exfalso;grind);done|intro h;simp at h
 refine aC (X:={x:Nat//x<=c.parts.length/\∀j (h:j<x) (b:j<c.parts.length),(eG c.parts[j]&&(decide (j=0)||dP c.parts[j] (c.parts[j-1]'(by omega))))=true}) (λi=>(((((St.nil 85 st).var 1 116 (c.cells)).pv 16 (.seq (c.parts.map Pt.cells))).pv 17 (vi ((c.parts.map Pt.cells).length:Nat))).pv 18 (vi (i.1:Nat)))) (λi=>c.parts.length-i.1) ⟨0,by omega,λ_ h=>absurd h (Nat.not_lt_zero _)⟩ ?_ λi=>?_
 ·repeat' first|show Cn _;constructor|exact rfl
 obtain⟨i,hi,m⟩:=i;dsimp only;by_cases o:c.parts.length<=i
 ·have e:=wP (ok:=eG) (bh:=dP) λj h=>m j (by omega) h
  repeat' first|apply wZ;rfl|show Cn _;constructor|exact rfl|show(_:PV)=_;(rw[e]);done|simp only[zql];omega|intro h;simp at h
 have b:i<c.parts.length:=by omega
 have l:=akL (ok:=eG) (bh:=dP) b;have n:(eG c.parts[i]&&(decide (i=0)||dP c.parts[i] (c.parts[i-1]'(by omega))))=true->∀j (h:j<i+1) (b:j<c.parts.length),(eG c.parts[j]&&(decide (j=0)||dP c.parts[j] (c.parts[j-1]'(by omega))))=true:=λh j hj b=>by
  rcases zls.1 hj with q|q
  ·exact m j q b
  ·subst q;exact h
 have hv:=kE c.parts[i].val;by_cases h0:i=0
 ·subst h0
  have g:=xO c.parts[0];have a:¬(eG c.parts[0]=true)->tC eG (dP) c.parts=false:=λh=>l (by rw[<-Bool.not_eq_true];intro q;rw[zba]at q;exact h q.1);simp only[eG,gD,dU,Dt.ext_iff,Dt.zero,zba,zde]at a
  repeat' first|apply iX;(intro hw;exact(show _=((0:Nat):Int)from by exact(kJ hw).elim));(apply gE;omega);rfl|apply cW;focus(intro _;(apply(show PF Tryz.prog 227 [_,_] (vi 0)from by rename_i hh;exact(kJ hh).elim));done)|refine⟨⟨1,by omega,n (by simp[eG,gD,dU,Dt.ext_iff,Dt.zero];grind)⟩,?_,?_⟩|apply wZ;rfl|show Cn _;constructor|exact rfl|apply KR.mk;kernel_rfl|(first|apply hv|apply g)|show(_:PV)=_;(rw[a (by grind)];done);done|apply wY;rfl|apply wI;rfl|apply gE;omega|omega|simp only[zql];omega|intro h;simp at h
 obtain⟨k,rfl⟩:∃k,i=k+1:=⟨i-1,by omega⟩;have d:=xO c.parts[k];have f:=xO c.parts[k+1];have hd:=axF c.parts[k] c.parts[k+1];have hb:ahI c.parts[k] c.parts[k+1]>=0↔dP c.parts[k+1] c.parts[k]=false:=by have:=aFi c.parts[k] c.parts[k+1];cases h:dP c.parts[k+1] c.parts[k]<;>simp[h]at this⊢ <;>omega
 have a:¬(eG c.parts[k+1]=true/\ahI c.parts[k] c.parts[k+1]<0)->tC eG (dP) c.parts=false:=λh=>l (by rw[<-Bool.not_eq_true];intro q;rw[zba]at q;exact h ⟨q.1,by have s:=q.2;simp at s;grind⟩);simp only[eG,gD,dU,Dt.ext_iff,Dt.zero,zba,zde]at a
 repeat' first|apply iX;(intro hw;exact(show((((k+1:Nat):Int))-1=((k:Nat):Int))from by omega));(apply gE;omega);rfl|refine⟨⟨k+2,by omega,n (by simp[eG,gD,dU,Dt.ext_iff,Dt.zero];grind)⟩,?_,?_⟩|apply wZ;rfl|show Cn _;constructor|exact rfl|apply KR.mk;kernel_rfl|(first|apply hv|apply d|apply f|apply hd)|show(_:PV)=_;(rw[a (by grind)]);done|apply wY;rfl|apply wI;rfl|apply gE;omega|omega|simp only[zql];omega|intro h;simp at h
theorem ajZ(c:Cl)(hl:c.parts.length<4611686018427387904):PF Tryz.prog 167 [.agg c.cells] (vb (gQ c)):=by
 unfold gQ;have d:(decide (c.kind=3)&&(decide (c.val.kind=0)&&(decide (c.val.n=0)&&decide (c.val.s=e0))))=decide (c.kind=3/\c.val=Vl.zero):=by rw[Bool.eq_iff_iff];simp[Vl.ext_iff,Vl.zero]
 refine pF Tryz.func167 rfl λst=>?_
 repeat' first|show Cn (.r _ _ _);refine .any ⟨_,_,_,rfl,zwr _,zsr _,?_,rfl⟩;try rfl|apply wZ;rfl|show Cn _;constructor|exact rfl|apply KR.mk;kernel_rfl|omega|intros;omega|simp only[zql];omega|intros;simp only[zql];omega|intros;simp only;omega|intro h;omega|intro h;simp at h;done|intro h;simp at h;omega|intro h;simp at h|intro h
 refine aC (X:={x:Nat//x<=c.parts.length/\∀j (h:j<x) (b:j<c.parts.length),(eG c.parts[j]&&(decide (j=0)||dP c.parts[j] (c.parts[j-1]'(by omega))))=true}) (λi=>(((St.nil 80 st).var 1 116 (c.cells)).pv 3 (vi (i.1:Nat)))) (λi=>c.parts.length-i.1) ⟨0,by omega,λ_ h=>absurd h (Nat.not_lt_zero _)⟩ ?_ λi=>?_
 ·repeat' first|show Cn _;constructor|exact rfl
 obtain⟨i,hi,g⟩:=i;dsimp only;by_cases m:c.parts.length<=i
 ·have e:=wP (ok:=eG) (bh:=dP) λj h=>g j (by omega) h
  repeat' first|(show Cn (.r _ _ _);refine .any ⟨_,_,_,rfl,zwr _,zsr _,?_,rfl⟩;try first|rfl|(rw[e,Bool.and_true,<-d]);done)|apply wZ;rfl|show Cn _;constructor|exact rfl|apply KR.mk;kernel_rfl|show(_:PV)=_;(rw[e,Bool.and_true,<-d]);done|omega|intros;omega|simp only[zql];omega|intros;simp only[zql];omega|intros;simp only;omega|intro h;omega|intro h;simp at h;done|intro h;simp at h;omega|intro h;simp at h|intro h
 have b:i<c.parts.length:=by omega
 have f:=akL (ok:=eG) (bh:=dP) b;have l:(eG c.parts[i]&&(decide (i=0)||dP c.parts[i] (c.parts[i-1]'(by omega))))=true->∀j (h:j<i+1) (b:j<c.parts.length),(eG c.parts[j]&&(decide (j=0)||dP c.parts[j] (c.parts[j-1]'(by omega))))=true:=λh j hj b=>by
  rcases zls.1 hj with q|q
  ·exact g j q b
  ·subst q;exact h
 have hv:=oW c.parts[i].val;by_cases h0:i=0
 ·subst h0
  have a:¬(eG c.parts[0]=true)->tC eG (dP) c.parts=false:=λh=>f (by rw[<-Bool.not_eq_true];intro q;rw[zba]at q;exact h q.1);simp only[eG,gD,dU,Dt.ext_iff,Dt.zero,zba,zde]at a
  repeat' first|apply iX;(intro hw;exact(show _=((0:Nat):Int)from by exact(kJ hw).elim));(apply gE;omega);rfl|apply cW;focus(intro _;(apply(show PF Tryz.prog 238 [.agg c.parts[0].cells,_] (vb false)from by rename_i hh;exact(kJ hh).elim)<;>(first|assumption|omega));done)|(show Cn (.r _ _ _);refine .any ⟨_,_,_,rfl,zwr _,zsr _,?_,rfl⟩;try first|rfl|(first|rw[a (by grind),Bool.and_false];done|exact absurd (by assumption:c.parts=[]) (List.ne_nil_of_length_pos b));done)|refine⟨⟨1,by omega,l (by simp[eG,gD,dU,Dt.ext_iff,Dt.zero];grind)⟩,?_,?_⟩|apply wZ;rfl|show Cn _;constructor|exact rfl|apply KR.mk;kernel_rfl|apply hv<;>(first|assumption|omega)|show(_:PV)=_;(first|rw[a (by grind),Bool.and_false];done|exact absurd (by assumption:c.parts=[]) (List.ne_nil_of_length_pos b));done|apply wY;rfl|apply wI;rfl|apply gE;omega|apply gE;show 0<_;omega|apply gE;show 1<_;omega|omega|intros;omega|simp only[zql];omega|intros;simp only[zql];omega|intros;simp only;omega|intro h;omega|intro h;simp at h;done|intro h;simp at h;omega|intro h;simp at h|intro h
 obtain⟨k,rfl⟩:∃k,i=k+1:=⟨i-1,by omega⟩;have hd:=aE3 c.parts[k+1] c.parts[k];have a:¬(eG c.parts[k+1]=true/\dP c.parts[k+1] c.parts[k]=true)->tC eG (dP) c.parts=false:=λh=>f (by rw[<-Bool.not_eq_true];intro q;rw[zba]at q;exact h ⟨q.1,by have o:=q.2;simp at o;grind⟩);simp only[eG,gD,dU,Dt.ext_iff,Dt.zero,zba,zde]at a
 repeat' first|apply iX;(intro hw;exact(show((((k+1:Nat):Int))-1=((k:Nat):Int))from by omega));(apply gE;omega);rfl|(show Cn (.r _ _ _);refine .any ⟨_,_,_,rfl,zwr _,zsr _,?_,rfl⟩;try first|rfl|(rw[a (by grind),Bool.and_false]);done)|refine⟨⟨k+2,by omega,l (by simp[eG,gD,dU,Dt.ext_iff,Dt.zero];grind)⟩,?_,?_⟩|apply wZ;rfl|show Cn _;constructor|exact rfl|apply KR.mk;kernel_rfl|((first|apply hv|apply hd)<;>(first|assumption|omega))|show(_:PV)=_;(rw[a (by grind),Bool.and_false]);done|apply wY;rfl|apply wI;rfl|apply gE;omega|apply gE;show 0<_;omega|apply gE;show 1<_;omega|omega|intros;omega|simp only[zql];omega|intros;simp only[zql];omega|intros;simp only;omega|intro h;omega|intro h;simp at h;done|intro h;simp at h;omega|intro h;simp at h|intro h
end Go.Proofs.YtnogfoojjaainaaGreatDoor
