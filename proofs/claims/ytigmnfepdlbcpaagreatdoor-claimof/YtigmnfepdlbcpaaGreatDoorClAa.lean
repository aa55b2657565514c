import Derived.Test.YtigmnfepdlbcpaaGreatDoorProg
import Derived.Test.YtigmnfepdlbcpaaGreatDoorAbsI
import Derived.Shelf.Strings.SlTrimAscii
import Derived.Shelf.Sort.Plain
import Derived.Shelf.SlSortCmp.NoneTotal
import Derived.Shelf.Slices.In.SortNone
import Derived.Test.YtigmnfepdlbcpaaGreatDoorAbsSort
set_option linter.all false
set_option maxHeartbeats 4000000
set_option maxRecDepth 10000
namespace Go.Proofs.YtigmnfepdlbcpaaGreatDoor
open Go Go.Abs Tryz
variable{i id:Nat}{α:Type}
noncomputable abbrev qp:=Tryz.prog
noncomputable abbrev qf:=Go.Abs.PF Tryz.prog
noncomputable abbrev qc:=Go.Abs.PC Tryz.prog
section
abbrev z0:Option TI:=some ⟨1,false,[.nilFunc], .other,false⟩
abbrev z1:Option TI:=some ⟨1,false,[.pointer none], .other,false⟩
abbrev z2:Option TI:=some ⟨3,true,[.int .i64 0, .int .i64 0, .int .i64 0], .struct [(3,0),(3,1),(3,2)],true⟩
abbrev z3:Option TI:=some ⟨1,false,[.int .i64 0], .int .i64,true⟩
abbrev z4:Option TI:=some ⟨1,false,[.int .u8 0], .int .u8,true⟩
abbrev z5:Option TI:=some ⟨1,false,[.int .u64 0], .int .u64,true⟩
abbrev z6:Option TI:=some ⟨1,false,[.string ⟨#[]⟩], .str,true⟩
abbrev z7:Option TI:=some ⟨1,false,[.int .i32 0], .int .i32,true⟩
abbrev z8:Option TI:=some ⟨4,true,[.int .i64 0, .int .i64 0, .bool false, .int .u8 0], .struct [(2,0),(3,1),(4,2),(6,3)],true⟩
abbrev z9:Option TI:=some ⟨2,true,[.string ⟨#[]⟩, .int .u64 0], .struct [(9,0),(12,1)],false⟩
abbrev z10:Option TI:=some ⟨1,true,[.pointer none], .struct [(17,0)],false⟩
abbrev z11:Option TI:=some ⟨1,true,[.slice none 0 0], .struct [(22,0)],false⟩
abbrev z12:Option TI:=some ⟨1,true,[.slice none 0 0], .struct [(25,0)],false⟩
abbrev z13:Option TI:=some ⟨1,false,[.slice none 0 0], .slice 3,false⟩
abbrev z14:Option TI:=some ⟨3,true,[.int .i64 0, .int .i64 0, .string ⟨#[]⟩], .struct [(3,0),(3,1),(9,2)],true⟩
abbrev z15:Option TI:=some ⟨1,false,[.slice none 0 0], .slice 46,false⟩
abbrev z16:Option TI:=some ⟨2,true,[.int .i64 0, .int .i64 0], .struct [(3,0),(3,1)],true⟩
abbrev z17:Option TI:=some ⟨11,true,[.int .i64 0, .int .i64 0, .int .i64 0, .int .i64 0, .slice none 0 0, .int .i64 0, .int .i64 0, .string ⟨#[]⟩, .int .i64 0, .int .i64 0, .int .i64 0], .struct [(3,0),(3,1),(3,2),(3,3),(49,4),(46,5),(51,8),(3,10)],false⟩
abbrev z18:Option TI:=some ⟨6,true,[.int .i64 0, .int .i64 0, .int .i64 0, .int .i64 0, .int .i64 0, .int .i64 0], .struct [(3,0),(3,1),(3,2),(3,3),(3,4),(3,5)],true⟩
abbrev z19:Option TI:=some ⟨4,true,[.int .i64 0, .int .i64 0, .int .i64 0, .int .i64 0], .arr 4 3,true⟩
abbrev z20:Option TI:=some ⟨1,false,[.map none], .map 66 4,false⟩
abbrev z21:Option TI:=some ⟨6,true,[.string ⟨#[]⟩, .slice none 0 0, .slice none 0 0, .slice none 0 0, .slice none 0 0, .slice none 0 0], .struct [(9,0),(72,1),(31,2),(73,3),(74,4),(75,5)],false⟩
abbrev z22:Option TI:=some ⟨6,true,[.int .i64 0, .int .i64 0, .int .i64 0, .int .i64 0, .string ⟨#[]⟩, .slice none 0 0], .struct [(3,0),(3,1),(46,2),(73,5)],false⟩
abbrev z23:Option TI:=some ⟨4,true,[.string ⟨#[]⟩, .int .i64 0, .int .i64 0, .bool false], .struct [(9,0),(3,1),(3,2),(4,3)],true⟩
abbrev z24:Option TI:=some ⟨5,true,[.int .i64 0, .int .i64 0, .int .i64 0, .string ⟨#[]⟩, .slice none 0 0], .struct [(3,0),(46,1),(90,4)],false⟩
abbrev z25:Option TI:=some ⟨3,true,[.int .i64 0, .slice none 0 0, .slice none 0 0], .struct [(3,0),(93,1),(94,2)],false⟩
abbrev z26:Option TI:=some ⟨4,true,[.int .i64 0, .int .i64 0, .int .i64 0, .slice none 0 0], .struct [(30,0),(32,3)],false⟩
abbrev z27:Option TI:=some ⟨1,false,[.slice none 0 0], .slice 96,false⟩
abbrev z28:Option TI:=some ⟨1,true,[.slice none 0 0], .struct [(106,0)],false⟩
abbrev z29:Option TI:=some ⟨3,true,[.slice none 0 0, .slice none 0 0, .int .i64 0], .struct [(124,0),(27,1),(3,2)],false⟩
abbrev z30:Option TI:=some ⟨8,true,[.string ⟨#[]⟩, .slice none 0 0, .slice none 0 0, .slice none 0 0, .slice none 0 0, .slice none 0 0, .slice none 0 0, .slice none 0 0], .struct [(77,0),(135,6),(27,7)],false⟩
abbrev z31:Option TI:=some ⟨11,true,[.int .i64 0, .int .i64 0, .string ⟨#[]⟩, .int .i64 0, .int .i64 0, .int .i64 0, .int .i64 0, .int .i64 0, .int .i64 0, .int .i64 0, .bool false], .struct [(46,0),(51,3),(3,5),(3,6),(51,7),(3,9),(4,10)],true⟩
abbrev z32:Option TI:=some ⟨1,true,[.nilFunc], .struct [(203,0)],false⟩
abbrev z33:Option TI:=some ⟨3,true,[.int .i64 0, .int .i64 0, .int .i64 0], .struct [(3,0),(51,1)],true⟩
abbrev z34:Option TI:=some ⟨3,true,[.int .i64 0, .int .i64 0, .int .i64 0], .struct [(51,0),(3,2)],true⟩
abbrev z35:Option TI:=some ⟨3,true,[.int .i64 0, .bool false, .nilFunc], .struct [(3,0),(4,1),(312,2)],false⟩
abbrev z36:Option TI:=some ⟨2,true,[.int .u8 0, .int .u8 0], .struct [(5,0),(5,1)],true⟩
abbrev z37:Option TI:=some ⟨4,true,[.pointer none, .pointer none, .pointer none, .string ⟨#[]⟩], .struct [(17,0),(17,1),(17,2),(9,3)],false⟩
abbrev z38:Option TI:=some ⟨0,true,[], .struct [(411,0)],false⟩
abbrev z39:Option TI:=some ⟨11,true,[.int .u64 0, .int .u64 0, .int .u32 0, .int .u8 0, .int .u8 0, .int .u8 0, .int .u8 0, .nilFunc, .pointer none, .int .i32 0, .int .i32 0], .struct [(12,0),(12,1),(165,2),(415,3),(5,4),(5,5),(416,6),(417,7),(418,8),(419,9),(420,10)],false⟩
def tt :TT:=[none,z0,z3,z3,some ⟨1,false,[.bool false], .bool,true⟩,z4,z4,z8,z8,z6,z6,z6,z5,z9,z9,z1,z1,z1,z10,z10,some ⟨1,false,[.nilIface], .other,false⟩,z7,some ⟨1,false,[.slice none 0 0], .slice 77,false⟩,z11,z11,some ⟨1,false,[.slice none 0 0], .slice 108,false⟩,z12,z12,some ⟨1,false,[.slice none 0 0], .slice 53,false⟩,z2,z2,z13,z13,z0,z0,some ⟨1,false,[.slice none 0 0], .slice 59,false⟩,z3,none,z0,z0,z0,z0,z0,none,z0,z14,z14,z0,z15,z15,z16,z16,z17,z17,none,z0,some ⟨1,false,[.slice none 0 0], .slice 60,false⟩,z0,z18,z18,z19,z20,z20,z0,z0,some ⟨1,false,[.slice none 0 0], .slice 66,false⟩,z19,z0,z0,z0,z0,z0,some ⟨1,false,[.slice none 0 0], .slice 83,false⟩,some ⟨1,false,[.slice none 0 0], .slice 80,false⟩,some ⟨1,false,[.slice none 0 0], .slice 85,false⟩,some ⟨1,false,[.slice none 0 0], .slice 87,false⟩,z21,z21,z0,z22,z22,z0,z23,z23,z2,z2,z2,z2,z0,z0,some ⟨1,false,[.slice none 0 0], .slice 154,false⟩,z24,z24,some ⟨1,false,[.slice none 0 0], .slice 92,false⟩,some ⟨1,false,[.slice none 0 0], .slice 51,false⟩,z25,z25,z26,z26,z0,z0,z0,z0,z0,z0,z0,z27,z28,z28,none,z0,z0,z0,z0,z0,z5,z0,z0,z0,z0,none,z0,z0,z0,z27,z29,z29,none,z0,z0,z0,z0,z0,z0,z0,some ⟨1,false,[.slice none 0 0], .slice 49,false⟩,z0,z30,z30,z0,z0,some ⟨5,true,[.nilFunc, .nilFunc, .nilFunc, .nilFunc, .nilFunc], .arr 5 139,false⟩,z0,some ⟨1,false,[.slice none 0 0], .slice 31,false⟩,z0,z0,z0,some ⟨1,false,[.map none], .map 3 3,false⟩,none,z0,z0,z0,z0,z31,z31,z0,z0,z0,z3,none,z0,z0,z0,z0,z0,some ⟨1,false,[.int .u32 0], .int .u32,true⟩,z0,z5,z0,z0,z0,none,z0,z0,z0,z0,z0,z0,z0,z0,z0,z0,z0,z0,z0,z0,z0,z0,z0,z0,none,z0,z0,z0,z0,z1,z0,z0,some ⟨1,false,[.map none], .map 3 4,false⟩,none,z0,some ⟨1,false,[.slice none 0 0], .slice 205,false⟩,z0,z0,z32,z32,z0,z0,z0,z0,z0,z0,z0,z0,z0,z5,z0,z0,z0,z1,z0,z0,some ⟨1,false,[.slice none 0 0], .slice 225,false⟩,z0,z0,some ⟨2,true,[.int .i64 0, .int .i64 0], .arr 2 3,true⟩,z0,z0,z0,z0,z0,z0,z0,z0,z0,z0,z0,z0,z0,z0,none,z0,z0,z0,some ⟨1,false,[.map none], .map 3 31,false⟩,z0,z0,some ⟨1,false,[.map none], .map 225 4,false⟩,z0,z0,z0,z0,some ⟨1,false,[.map none], .map 3 250,false⟩,z0,z0,z0,z0,z0,z0,z0,z0,z0,z0,z0,z0,z0,z0,z0,z0,z0,z1,none,z0,z0,z0,z0,z0,z0,z0,z0,z0,z0,z0,z0,z0,z0,z0,z0,z0,z0,z0,z0,z0,z0,z0,z0,z0,z33,z33,z0,z0,z0,z0,z0,z0,z34,z34,z0,z0,z0,z0,some ⟨6,true,[.int .i64 0, .int .i64 0, .string ⟨#[]⟩, .int .i64 0, .int .i64 0, .string ⟨#[]⟩], .arr 2 46,true⟩,z0,z35,z35,some ⟨1,false,[.map none], .map 3 314,false⟩,z0,z0,z0,z0,z0,z0,z0,z0,z0,z0,z0,z0,some ⟨1,false,[.map none], .map 306 154,false⟩,none,z0,z0,z0,some ⟨1,false,[.slice none 0 0], .slice 5,false⟩,z0,z0,z0,z0,z0,z0,z0,z0,z0,z0,z0,z0,z0,z0,some ⟨1,false,[.map none], .map 306 90,false⟩,z0,z0,z0,none,z0,z0,z0,z0,z0,z0,z0,none,none,none,z0,z0,z1,z0,z0,z0,some ⟨1,false,[.map none], .map 51 3,false⟩,none,z0,z0,z0,z0,none,z0,z0,z0,z0,z0,none,z0,z0,z0,z0,z0,some ⟨3,true,[.int .i64 0, .int .i64 0, .int .i64 0], .arr 3 3,true⟩,z0,z0,z0,z0,z0,z0,z0,z0,z0,z0,z0,none,z36,z36,some ⟨32,true,[.int .u8 0, .int .u8 0, .int .u8 0, .int .u8 0, .int .u8 0, .int .u8 0, .int .u8 0, .int .u8 0, .int .u8 0, .int .u8 0, .int .u8 0, .int .u8 0, .int .u8 0, .int .u8 0, .int .u8 0, .int .u8 0, .int .u8 0, .int .u8 0, .int .u8 0, .int .u8 0, .int .u8 0, .int .u8 0, .int .u8 0, .int .u8 0, .int .u8 0, .int .u8 0, .int .u8 0, .int .u8 0, .int .u8 0, .int .u8 0, .int .u8 0, .int .u8 0], .arr 16 401,true⟩,z0,none,z0,z0,z0,z0,z37,z37,some ⟨0,true,[], .arr 0 16,false⟩,z38,z38,z0,z4,z4,z0,z1,z7,z7,z39,z39,z1]
theorem aT :bI qp tt:=aKx (by kernel_rfl)
instance pk :Pk qp tt:=⟨rfl,aT,by kernel_rfl⟩
abbrev e0 :ByteArray:=⟨#[]⟩
def I1(n:Int):List PV:=[.val (.int .i64 n)]
def S1(s:ByteArray):List PV:=[.val (.string s)]
theorem I1.elem :Elem tt 3 I1 (λa=> .val (.int .i64 a)) 1:=⟨rfl,λ_=>rfl,λ_=>rfl,λ_=>rfl,λ_=>rfl⟩
structure Vl where
 k:Int
 n:Int
 s:ByteArray
 deriving DecidableEq,Inhabited
def Vl.z(a:Vl):List PV:=[.val (.int .i64 (a.k)), .val (.int .i64 (a.n)), .val (.string (a.s))]
def Vl.zero :Vl:=⟨0,0,e0⟩
theorem Vl.ext_iff(a b:Vl):a=b↔a.k=b.k/\a.n=b.n/\a.s=b.s:=by cases a;cases b;simp
theorem Vl.eta(a:Vl):Vl.mk a.k a.n a.s=a:=rfl
theorem Vl.eqb(a b:Vl):(decide (a.k=b.k)&&(decide (a.n=b.n)&&(decide (a.s=b.s))))=decide (a=b):=by simp[Vl.ext_iff]
theorem Vl.elem :Elem tt 46 Vl.z (λa=> .agg a.z) 3:=⟨rfl,λ_=>rfl,λ_=>rfl,λ_=>rfl,λ_=>rfl⟩
structure Dt where
 dev:Int
 seq:Int
 deriving DecidableEq,Inhabited
def Dt.z(a:Dt):List PV:=[.val (.int .i64 (a.dev)), .val (.int .i64 (a.seq))]
def Dt.zero :Dt:=⟨0,0⟩
theorem Dt.ext_iff(a b:Dt):a=b↔a.dev=b.dev/\a.seq=b.seq:=by cases a;cases b;simp
theorem Dt.eta(a:Dt):Dt.mk a.dev a.seq=a:=rfl
theorem Dt.eqb(a b:Dt):(decide (a.dev=b.dev)&&(decide (a.seq=b.seq)))=decide (a=b):=by simp[Dt.ext_iff]
theorem Dt.eqz(a:Dt):(decide (a.dev=0)&&(decide (a.seq=0)))=decide (a=Dt.zero):=by simp[Dt.ext_iff,Dt.zero]
structure Pt where
 val:Vl
 d:Dt
 a:Int
 m:Int
 after:Dt
 afterAt:Int
 gone:Bool
 deriving DecidableEq,Inhabited
def Pt.z(a:Pt):List PV:=[.val (.int .i64 (a.val.k)), .val (.int .i64 (a.val.n)), .val (.string (a.val.s)), .val (.int .i64 (a.d.dev)), .val (.int .i64 (a.d.seq)), .val (.int .i64 (a.a)), .val (.int .i64 (a.m)), .val (.int .i64 (a.after.dev)), .val (.int .i64 (a.after.seq)), .val (.int .i64 (a.afterAt)), .val (.bool (a.gone))]
def Pt.zero :Pt:=⟨Vl.zero,Dt.zero,0,0,Dt.zero,0,false⟩
theorem Pt.ext_iff(a b:Pt):a=b↔a.val=b.val/\a.d=b.d/\a.a=b.a/\a.m=b.m/\a.after=b.after/\a.afterAt=b.afterAt/\a.gone=b.gone:=by cases a;cases b;simp
theorem Pt.eta(a:Pt):Pt.mk a.val a.d a.a a.m a.after a.afterAt a.gone=a:=rfl
theorem Pt.elem :Elem tt 154 Pt.z (λa=> .agg a.z) 11:=⟨rfl,λ_=>rfl,λ_=>rfl,λ_=>rfl,λ_=>rfl⟩
structure Cl where
 k:Int
 val:Vl
 p:List Pt
 deriving DecidableEq,Inhabited
def Cl.z(a:Cl):List PV:=[.val (.int .i64 (a.k)), .val (.int .i64 (a.val.k)), .val (.int .i64 (a.val.n)), .val (.string (a.val.s)), .seq ((a.p).map Pt.z)]
def Cl.zero :Cl:=⟨0,Vl.zero,[]⟩
theorem Cl.ext_iff(a b:Cl):a=b↔a.k=b.k/\a.val=b.val/\a.p=b.p:=by cases a;cases b;simp
theorem Cl.eta(a:Cl):Cl.mk a.k a.val a.p=a:=rfl
theorem Cl.elem :Elem tt 92 Cl.z (λa=> .agg a.z) 5:=⟨rfl,λ_=>rfl,λ_=>rfl,λ_=>rfl,λ_=>rfl⟩
structure Ln where
 key:Int
 c:List Cl
 b:List Dt
 deriving DecidableEq,Inhabited
def Ln.z(a:Ln):List PV:=[.val (.int .i64 (a.key)), .seq ((a.c).map Cl.z), .seq ((a.b).map Dt.z)]
def Ln.zero :Ln:=⟨0,[],[]⟩
theorem Ln.ext_iff(a b:Ln):a=b↔a.key=b.key/\a.c=b.c/\a.b=b.b:=by cases a;cases b;simp
theorem Ln.eta(a:Ln):Ln.mk a.key a.c a.b=a:=rfl
theorem Ln.elem :Elem tt 96 Ln.z (λa=> .agg a.z) 3:=⟨rfl,λ_=>rfl,λ_=>rfl,λ_=>rfl,λ_=>rfl⟩
structure Da where
 l:List Ln
 deriving DecidableEq,Inhabited
def Da.z(a:Da):List PV:=[.seq ((a.l).map Ln.z)]
def Da.zero :Da:=⟨[]⟩
theorem Da.eta(a:Da):Da.mk a.l=a:=rfl
theorem Da.elem :Elem tt 108 Da.z (λa=> .agg a.z) 1:=⟨rfl,λ_=>rfl,λ_=>rfl,λ_=>rfl,λ_=>rfl⟩
structure Co where
 name:ByteArray
 k:Int
 type_:Int
 null:Bool
 deriving DecidableEq,Inhabited
def Co.z(a:Co):List PV:=[.val (.string (a.name)), .val (.int .i64 (a.k)), .val (.int .i64 (a.type_)), .val (.bool (a.null))]
def Co.zero :Co:=⟨e0,0,0,false⟩
theorem Co.eta(a:Co):Co.mk a.name a.k a.type_ a.null=a:=rfl
structure Fr where
 n:Int
 t:Int
 act:Int
 deriving DecidableEq,Inhabited
def Fr.z(a:Fr):List PV:=[.val (.int .i64 (a.n)), .val (.int .i64 (a.t)), .val (.int .i64 (a.act))]
def Fr.zero :Fr:=⟨0,0,0⟩
theorem Fr.eta(a:Fr):Fr.mk a.n a.t a.act=a:=rfl
structure Su where
 n:Int
 b:Int
 max:Int
 deriving DecidableEq,Inhabited
def Su.z(a:Su):List PV:=[.val (.int .i64 (a.n)), .val (.int .i64 (a.b)), .val (.int .i64 (a.max))]
def Su.zero :Su:=⟨0,0,0⟩
theorem Su.eta(a:Su):Su.mk a.n a.b a.max=a:=rfl
theorem bN{st:aD}{o:Option AObj}(h:st id=none):StSub st (upd (upd st id o) id none):=λj=>by
 by_cases hj:j=id
 ·grind
 ·right;rw[aB hj,aB hj]
theorem oI :Tryz.prog.bytesOf 96=56:=rfl
theorem zN :Tryz.prog.bytesOf 51=16:=rfl
theorem arH :Tryz.prog.bytesOf 46=32:=rfl
theorem uX :Tryz.prog.bytesOf 108=24:=rfl
theorem qZ :Tryz.prog.bytesOf 92=64:=rfl
theorem fR :Tryz.prog.bytesOf 154=96:=rfl
theorem oU :Tryz.prog.cellsOf 154=11:=rfl
theorem rT :Tryz.prog.cellsOf 92=5:=rfl
theorem lH :Tryz.prog.cellsOf 96=3:=rfl
theorem vP :Tryz.prog.cellsOf 51=2:=rfl
theorem vI :Tryz.prog.cellsOf 46=3:=rfl
theorem aeR :Tryz.prog.cellsOf 108=1:=rfl
end
section
attribute [local irreducible] Ev PWp
theorem aF0(a:Int):qf 155 [vi a] (vb false):=by
 refine pF func155 rfl λst=>?_
 repeat' first|apply wZ;rfl|constructor|show(_:PV)=_;simp;done
def kN(a b:Int):Int:=if a<b then-1 else if a>b then 1 else 0
theorem mA(a b:Int):qf 93 [vi a,vi b] (vi (kN a b)):=by
 refine pF func93 rfl λst=>?_
 repeat' first|apply wZ;rfl|constructor|apply aF0|show(_:PV)=_;(first|simp_all[kN];done|obtain rfl:a=b:=(by omega);simp[kN]);done|apply wY;rfl|intro h;simp at h|intro h
def orI :List Int->Int
 |[]=>0
 |x::l=>if x=0 then orI l else x
theorem awM{l:List Int}(h:i<l.length):orI (l.drop i)=if l[i]=0 then orI (l.drop (i+1))else l[i]:=by
 rw[List.drop_eq_getElem_cons h,orI]
theorem apE(l:List Int)(hl:l.length<4611686018427387904):qf 234 [.seq (l.map I1)] (vi (orI l)):=by
 refine pF func234 rfl λst=>?_
 repeat' first|apply wZ;rfl|constructor
 refine aC (X:={x:Nat//x<=l.length/\orI (l.drop x)=orI l}) (λi=>(((((St.nil 18 st).pv 3 (vi 0)).pv 6 (.seq (l.map I1))).pv 7 (vi ((l.map I1).length:Nat))).pv 8 (vi (i.1:Nat)))) (λi=>l.length-i.1) ⟨0,by omega,by simp⟩ ?_ λi=>?_;rotate_left;have⟨i,b,a⟩:=i;dsimp only
 all_goals (repeat' first|refine⟨⟨i+1,by omega,by rw[<-a,awM (i:=i) (by omega),zp ‹_›]⟩,?_,?_⟩|apply wZ;rfl|omega|constructor|show(_:PV)=_;rw[<-a];(first|rw[awM (by omega),zn ‹_›];done|rw[List.drop_eq_nil_of_le (show l.length<=i by omega)];rfl);done|apply wI;rfl|apply gE;omega|simp<;>omega|intro h;simp at h|intro h)
def byD(a b:Dt):Int:=orI [kN a.dev b.dev,kN a.seq b.seq]
theorem auC(a b:Dt):qf 139 [.agg a.z, .agg b.z] (vi (byD a b)):=by
 have ho:=apE [kN a.dev b.dev,kN a.seq b.seq] (by simp);refine pF func139 rfl λst=>?_
 repeat' first|apply wZ;rfl|apply KR.mk;kernel_rfl|constructor|(first|apply mA a.dev b.dev|apply mA a.seq b.seq|apply ho)|apply wY;rfl
def aW(a b:Dt):Bool:=decide (a.dev>b.dev)||(decide (a.dev=b.dev)&&decide (a.seq>b.seq))
theorem kG(a b:Dt):qf 173 [.agg a.z, .agg b.z] (vb (aW a b)):=by
 refine pF func173 rfl λst=>?_
 repeat' first|apply wZ;rfl|constructor
theorem aBq(a b:Dt):decide (byD a b>0)=aW a b:=by
 unfold byD aW kN;simp only[orI]
 grind
theorem nK{f:α->Bool}{l:List α}(h:i<l.length)(hf:f l[i]=true)(hn:∀j (h:j<i) (h2:j<l.length),f l[j]=false):l.findIdx? f=some i:=
 zfi.2 ⟨h,hf,λj hj=>by grind⟩
theorem oV{f:α->Bool}{l:List α}(h:l.length<=i)(hn:∀j (h:j<i) (h2:j<l.length),f l[j]=false):l.findIdx? f=none:=
 List.findIdx?_eq_none_iff.2 λx hx=>by
  obtain⟨j,hj,rfl⟩:=zgo hx
  grind
def dJ{α:Type}(f:α->Bool)(l:List α):Int:=match l.findIdx? f with|some k=>((k:Nat):Int)|none=> -1
theorem uB(f:α->Bool)(l:List α):decide (dJ f l>=0)=l.any f:=by
 unfold dJ
 grind
theorem aDu(b:FuncId)(caps:List PV)(f:Dt->Bool)(l:List Dt)(hl:l.length<4611686018427387904)(hf:∀p,qf b ([.agg p.z]++caps) (vb (f p))):qf 208 [.seq (l.map Dt.z), .fn b caps] (vi (dJ f l)):=by
 refine pF func208 rfl λst=>?_
 repeat' first|apply wZ;rfl|constructor
 refine aC (X:={x:Nat//x<=l.length/\∀j (h:j<x) (c:j<l.length),f l[j]=false}) (λi=>(((((St.nil 19 st).pv 0 (.seq (l.map Dt.z))).pv 1 (.fn b caps)).pv 7 (vi ((l.map Dt.z).length:Nat))).pv 8 (vi (i.1:Nat)))) (λi=>l.length-i.1) ⟨0,by omega,by omega⟩ ?_ λi=>?_;rotate_left;have⟨i,hi,a⟩:=i;dsimp only
 all_goals (repeat' first|refine⟨⟨i+1,by omega,λj d c=>by rcases zls.1 d with q|q;exact a j q c;subst q;assumption⟩,?_,?_⟩|apply wZ;rfl|omega|constructor|apply hf|show(_:PV)=_;(first|unfold dJ;rw[nK ‹_› ‹_› a];done|unfold dJ;rw[oV ‹_› a]);done|apply wY;rfl|apply wI;rfl|apply gE;omega|simp<;>omega|intro h;simp at h|intro h)
theorem amB(b:FuncId)(caps:List PV)(f:Ln->Bool)(l:List Ln)(hl:l.length<4611686018427387904)(hf:∀p,qf b ([.agg p.z]++caps) (vb (f p))):qf 115 [.seq (l.map Ln.z), .fn b caps] (vi (dJ f l)):=by
 refine pF func115 rfl λst=>?_
 repeat' first|apply wZ;rfl|constructor
 refine aC (X:={x:Nat//x<=l.length/\∀j (h:j<x) (c:j<l.length),f l[j]=false}) (λi=>(((((St.nil 19 st).pv 0 (.seq (l.map Ln.z))).pv 1 (.fn b caps)).pv 7 (vi ((l.map Ln.z).length:Nat))).pv 8 (vi (i.1:Nat)))) (λi=>l.length-i.1) ⟨0,by omega,by omega⟩ ?_ λi=>?_;rotate_left;have⟨i,hi,a⟩:=i;dsimp only
 all_goals (repeat' first|refine⟨⟨i+1,by omega,λj d c=>by rcases zls.1 d with q|q;exact a j q c;subst q;assumption⟩,?_,?_⟩|apply wZ;rfl|omega|constructor|apply hf|show(_:PV)=_;(first|unfold dJ;rw[nK ‹_› ‹_› a];done|unfold dJ;rw[oV ‹_› a]);done|apply wY;rfl|apply wI;rfl|apply gE;omega|simp<;>omega|intro h;simp at h|intro h)
theorem aA0(l:List Dt)(x:Dt)(hl:l.length<4611686018427387904):qf 294 [.seq (l.map Dt.z), .agg x.z] (vi (dJ (λy=>decide (x=y)) l)):=by
 refine pF func294 rfl λst=>?_
 repeat' first|apply wZ;rfl|constructor
 refine aC (X:={y:Nat//y<=l.length/\∀j (h:j<y) (c:j<l.length),decide (x=l[j])=false}) (λi=>(((((St.nil 19 st).pv 0 (.seq (l.map Dt.z))).var 3 51 (x.z)).pv 7 (vi ((l.map Dt.z).length:Nat))).pv 8 (vi (i.1:Nat)))) (λi=>l.length-i.1) ⟨0,by omega,by omega⟩ ?_ λi=>?_;rotate_left;have⟨i,b,a⟩:=i;dsimp only
 all_goals (repeat' first|refine⟨⟨i+1,by omega,λj b c=>by rcases zls.1 b with q|q;exact a j q c;subst q;exact zdj (by rw[Dt.ext_iff];simp_all)⟩,?_,?_⟩|apply wZ;rfl|apply KR.mk;kernel_rfl|omega|constructor|show(_:PV)=_;(first|unfold dJ;rw[nK (f:=λy=>decide (x=y)) ‹_› (by simp_all[Dt.ext_iff]) a];done|unfold dJ;rw[oV (f:=λy=>decide (x=y)) ‹_› a]);done|apply wI;rfl|apply gE;omega|simp<;>omega|intro h;simp at h)
theorem akC(l:List Dt)(x:Dt)(hl:l.length<4611686018427387904):qf 207 [.seq (l.map Dt.z), .agg x.z] (vb (l.any λy=>decide (x=y))):=by
 refine pF func207 rfl λst=>?_
 repeat' first|apply wZ;rfl|constructor|apply aA0 l x hl|show(_:PV)=_;rw[uB];done|apply wY;rfl
end
end Go.Proofs.YtigmnfepdlbcpaaGreatDoor
namespace Go.Proofs.YtigmnfepdlbcpaaGreatDoor
open Go Go.Proofs Go.Shelf Tryz
def aOo :Ren:=⟨λx=>match x with
 |189=>35
 |125=>42
 |257=>76
 |128=>91
 |129=>92
 |294=>141
 |295=>142
 |296=>143
 |297=>144
 |298=>145
 |299=>146
 |216=>147
 |300=>148
 |301=>149
 |328=>239
 |329=>151
 |330=>152
 |331=>240
 |332=>241
 |215=>155
 |343=>320
 |n=>n,λx=>match x with
 |28=>31
 |3=>3
 |46=>115
 |0=>0
 |51=>165
 |53=>167
 |4=>4
 |183=>159
 |182=>158
 |131=>120
 |5=>5
 |9=>9
 |218=>215
 |222=>219
 |228=>270
 |229=>271
 |n=>n,λx=>x⟩
theorem aOv :Lays.n189 qp aOo where
 mixed:=rfl
 f125:=func42.trans rfl
 f128:=func91.trans rfl
 f129:=func92.trans (by kernel_rfl)
 f189:=func35.trans (by kernel_rfl)
 f215:=func155.trans (by kernel_rfl)
 f216:=func147.trans (by kernel_rfl)
 f257:=func76.trans (by kernel_rfl)
 f294:=func141.trans (by kernel_rfl)
 f295:=func142.trans (by kernel_rfl)
 f296:=func143.trans (by kernel_rfl)
 f297:=func144.trans rfl
 f298:=func145.trans rfl
 f299:=func146.trans rfl
 f300:=func148.trans (by kernel_rfl)
 f301:=func149.trans (by kernel_rfl)
 f328:=func239.trans (by kernel_rfl)
 f329:=func151.trans (by kernel_rfl)
 f330:=func152.trans (by kernel_rfl)
 f331:=func240.trans (by kernel_rfl)
 f332:=func241.trans (by kernel_rfl)
 f343:=func320.trans (by kernel_rfl)
 t0:=Tryz.underlying0
 a0:=Tryz.isAgg0
 z0:=Tryz.sizeOf0
 v0:=Tryz.zeroValue0
 t3:=Tryz.underlying3
 a3:=Tryz.isAgg3
 z3:=Tryz.sizeOf3
 v3:=Tryz.zeroValue3
 t4:=Tryz.underlying4
 a4:=Tryz.isAgg4
 z4:=Tryz.sizeOf4
 v4:=Tryz.zeroValue4
 t5:=Tryz.underlying5
 a5:=Tryz.isAgg5
 z5:=Tryz.sizeOf5
 v5:=Tryz.zeroValue5
 t9:=Tryz.underlying9
 a9:=Tryz.isAgg9
 z9:=Tryz.sizeOf9
 v9:=Tryz.zeroValue9
 t28:=Tryz.underlying31
 a28:=Tryz.isAgg31
 z28:=Tryz.sizeOf31
 v28:=Tryz.zeroValue31
 t46:=Tryz.underlying115
 a46:=Tryz.isAgg115
 z46:=Tryz.sizeOf115
 v46:=Tryz.zeroValue115
 t51:=Tryz.underlying165
 a51:=Tryz.isAgg165
 z51:=Tryz.sizeOf165
 v51:=Tryz.zeroValue165
 t53:=Tryz.underlying167
 a53:=Tryz.isAgg167
 z53:=Tryz.sizeOf167
 v53:=Tryz.zeroValue167
 t131:=Tryz.underlying120
 a131:=Tryz.isAgg120
 z131:=Tryz.sizeOf120
 v131:=Tryz.zeroValue120
 t182:=Tryz.underlying158
 a182:=Tryz.isAgg158
 z182:=Tryz.sizeOf158
 v182:=Tryz.zeroValue158
 t183:=Tryz.underlying159
 a183:=Tryz.isAgg159
 z183:=Tryz.sizeOf159
 v183:=Tryz.zeroValue159
 t218:=Tryz.underlying215
 a218:=Tryz.isAgg215
 z218:=Tryz.sizeOf215
 v218:=Tryz.zeroValue215
 t222:=Tryz.underlying219
 a222:=Tryz.isAgg219
 z222:=Tryz.sizeOf219
 v222:=Tryz.zeroValue219
 t228:=Tryz.underlying270
 a228:=Tryz.isAgg270
 z228:=Tryz.sizeOf270
 v228:=Tryz.zeroValue270
 t229:=Tryz.underlying271
 a229:=Tryz.isAgg271
 z229:=Tryz.sizeOf271
 v229:=Tryz.zeroValue271
def renT :Ren:=⟨λx=>match x with
 |160=>302
 |232=>372
 |231=>371
 |227=>373
 |234=>375
 |233=>374
 |236=>377
 |235=>376
 |228=>405
 |271=>408
 |151=>407
 |197=>406
 |120=>424
 |152=>423
 |260=>422
 |137=>433
 |119=>434
 |224=>427
 |225=>426
 |217=>425
 |266=>435
 |n=>n,λx=>match x with
 |9=>9
 |4=>4
 |3=>3
 |5=>5
 |117=>362
 |116=>361
 |0=>0
 |124=>365
 |21=>21
 |105=>381
 |46=>115
 |119=>399
 |139=>402
 |138=>401
 |n=>n,λx=>match x with
 |3=>1
 |4=>2
 |n=>n⟩
theorem aOk :Lays.n160 qp renT where
 mixed:=rfl
 f119:=func434.trans rfl
 f120:=func424.trans (by kernel_rfl)
 f137:=func433.trans (by kernel_rfl)
 f151:=func407.trans (by kernel_rfl)
 f152:=func423.trans (by kernel_rfl)
 f160:=func302.trans (by kernel_rfl)
 f197:=func406.trans (by kernel_rfl)
 f217:=func425.trans (by kernel_rfl)
 f224:=func427.trans (by kernel_rfl)
 f225:=func426.trans rfl
 f227:=func373.trans rfl
 f228:=func405.trans rfl
 f231:=func371.trans rfl
 f232:=func372.trans (by kernel_rfl)
 f233:=func374.trans (by kernel_rfl)
 f234:=func375.trans (by kernel_rfl)
 f235:=func376.trans (by kernel_rfl)
 f236:=func377.trans (by kernel_rfl)
 f260:=func422.trans (by kernel_rfl)
 f266:=func435.trans (by kernel_rfl)
 f271:=func408.trans (by kernel_rfl)
 t0:=Tryz.underlying0
 a0:=Tryz.isAgg0
 z0:=Tryz.sizeOf0
 v0:=Tryz.zeroValue0
 t3:=Tryz.underlying3
 a3:=Tryz.isAgg3
 z3:=Tryz.sizeOf3
 v3:=Tryz.zeroValue3
 t4:=Tryz.underlying4
 a4:=Tryz.isAgg4
 z4:=Tryz.sizeOf4
 v4:=Tryz.zeroValue4
 t5:=Tryz.underlying5
 a5:=Tryz.isAgg5
 z5:=Tryz.sizeOf5
 v5:=Tryz.zeroValue5
 t9:=Tryz.underlying9
 a9:=Tryz.isAgg9
 z9:=Tryz.sizeOf9
 v9:=Tryz.zeroValue9
 t21:=Tryz.underlying21
 a21:=Tryz.isAgg21
 z21:=Tryz.sizeOf21
 v21:=Tryz.zeroValue21
 t46:=Tryz.underlying115
 a46:=Tryz.isAgg115
 z46:=Tryz.sizeOf115
 v46:=Tryz.zeroValue115
 t105:=Tryz.underlying381
 a105:=Tryz.isAgg381
 z105:=Tryz.sizeOf381
 v105:=Tryz.zeroValue381
 t116:=Tryz.underlying361
 a116:=Tryz.isAgg361
 z116:=Tryz.sizeOf361
 t117:=Tryz.underlying362
 a117:=Tryz.isAgg362
 z117:=Tryz.sizeOf362
 v117:=Tryz.zeroValue362
 t119:=Tryz.underlying399
 a119:=Tryz.isAgg399
 z119:=Tryz.sizeOf399
 t124:=Tryz.underlying365
 a124:=Tryz.isAgg365
 z124:=Tryz.sizeOf365
 v124:=Tryz.zeroValue365
 t138:=Tryz.underlying401
 a138:=Tryz.isAgg401
 z138:=Tryz.sizeOf401
 v138:=Tryz.zeroValue401
 t139:=Tryz.underlying402
 a139:=Tryz.isAgg402
 z139:=Tryz.sizeOf402
 v139:=Tryz.zeroValue402
 g3:=by kernel_rfl
 g4:=by kernel_rfl
def aOj :Ren:=⟨λx=>match x with
 |6=>352
 |15=>42
 |14=>398
 |28=>91
 |29=>92
 |20=>414
 |21=>415
 |22=>416
 |23=>417
 |24=>418
 |25=>419
 |26=>420
 |27=>421
 |46=>430
 |47=>151
 |48=>152
 |49=>431
 |50=>432
 |57=>438
 |n=>n,λx=>match x with
 |22=>90
 |24=>154
 |25=>351
 |3=>3
 |39=>115
 |0=>0
 |53=>165
 |55=>167
 |4=>4
 |46=>159
 |45=>158
 |50=>120
 |5=>5
 |9=>9
 |66=>215
 |70=>219
 |76=>270
 |77=>271
 |n=>n,λx=>x⟩
theorem aOy :SlLaysF0.n6 qp aOj where
  mixed:=rfl
  f6 :=⟨ "slices.SortFunc[[]homestead/api.Part,homestead/api.Part]",by decide,func352.trans rfl⟩
  f14 :=⟨ "slices.pdqsortCmpFunc[homestead/api.Part]",by decide,func398.trans (by kernel_rfl)⟩
  f15:=func42.trans (by kernel_rfl)
  f20 :=⟨ "slices.insertionSortCmpFunc[homestead/api.Part]",by decide,func414.trans (by kernel_rfl)⟩
  f21 :=⟨ "slices.heapSortCmpFunc[homestead/api.Part]",by decide,func415.trans (by kernel_rfl)⟩
  f22 :=⟨ "slices.breakPatternsCmpFunc[homestead/api.Part]",by decide,func416.trans (by kernel_rfl)⟩
  f23 :=⟨ "slices.choosePivotCmpFunc[homestead/api.Part]",by decide,func417.trans (by kernel_rfl)⟩
  f24 :=⟨ "slices.reverseRangeCmpFunc[homestead/api.Part]",by decide,func418.trans (by kernel_rfl)⟩
  f25 :=⟨ "slices.partialInsertionSortCmpFunc[homestead/api.Part]",by decide,func419.trans (by kernel_rfl)⟩
  f26 :=⟨ "slices.partitionEqualCmpFunc[homestead/api.Part]",by decide,func420.trans rfl⟩
  f27 :=⟨ "slices.partitionCmpFunc[homestead/api.Part]",by decide,func421.trans (by kernel_rfl)⟩
  f28:=func91.trans (by kernel_rfl)
  f29:=func92.trans (by kernel_rfl)
  f46 :=⟨ "slices.siftDownCmpFunc[homestead/api.Part]",by decide,func430.trans (by kernel_rfl)⟩
  f47:=func151.trans (by kernel_rfl)
  f48:=func152.trans (by kernel_rfl)
  f49 :=⟨ "slices.medianAdjacentCmpFunc[homestead/api.Part]",by decide,func431.trans (by kernel_rfl)⟩
  f50 :=⟨ "slices.medianCmpFunc[homestead/api.Part]",by decide,func432.trans (by kernel_rfl)⟩
  f57 :=⟨ "slices.order2CmpFunc[homestead/api.Part]",by decide,func438.trans (by kernel_rfl)⟩
  t0:=Tryz.underlying0
  a0:=Tryz.isAgg0
  z0:=Tryz.sizeOf0
  v0:=Tryz.zeroValue0
  t3:=Tryz.underlying3
  a3:=Tryz.isAgg3
  z3:=Tryz.sizeOf3
  v3:=Tryz.zeroValue3
  t4:=Tryz.underlying4
  a4:=Tryz.isAgg4
  z4:=Tryz.sizeOf4
  v4:=Tryz.zeroValue4
  t5:=Tryz.underlying5
  a5:=Tryz.isAgg5
  z5:=Tryz.sizeOf5
  v5:=Tryz.zeroValue5
  t9:=Tryz.underlying9
  a9:=Tryz.isAgg9
  z9:=Tryz.sizeOf9
  v9:=Tryz.zeroValue9
  t22:=Tryz.underlying90
  a22:=Tryz.isAgg90
  z22:=Tryz.sizeOf90
  v22:=Tryz.zeroValue90
  t25:=Tryz.underlying351
  a25:=Tryz.isAgg351
  z25:=Tryz.sizeOf351
  v25:=Tryz.zeroValue351
  t39:=Tryz.underlying115
  a39:=Tryz.isAgg115
  z39:=Tryz.sizeOf115
  v39:=Tryz.zeroValue115
  t45:=Tryz.underlying158
  a45:=Tryz.isAgg158
  z45:=Tryz.sizeOf158
  v45:=Tryz.zeroValue158
  t46:=Tryz.underlying159
  a46:=Tryz.isAgg159
  z46:=Tryz.sizeOf159
  v46:=Tryz.zeroValue159
  t50:=Tryz.underlying120
  a50:=Tryz.isAgg120
  z50:=Tryz.sizeOf120
  v50:=Tryz.zeroValue120
  t53:=Tryz.underlying165
  a53:=Tryz.isAgg165
  z53:=Tryz.sizeOf165
  v53:=Tryz.zeroValue165
  t55:=Tryz.underlying167
  a55:=Tryz.isAgg167
  z55:=Tryz.sizeOf167
  v55:=Tryz.zeroValue167
  t66:=Tryz.underlying215
  a66:=Tryz.isAgg215
  z66:=Tryz.sizeOf215
  v66:=Tryz.zeroValue215
  t70:=Tryz.underlying219
  a70:=Tryz.isAgg219
  z70:=Tryz.sizeOf219
  v70:=Tryz.zeroValue219
  t76:=Tryz.underlying270
  a76:=Tryz.isAgg270
  z76:=Tryz.sizeOf270
  v76:=Tryz.zeroValue270
  t77:=Tryz.underlying271
  a77:=Tryz.isAgg271
  z77:=Tryz.sizeOf271
  v77:=Tryz.zeroValue271
def aOx :Ren:=⟨λx=>match x with
 |6=>17
 |15=>42
 |14=>41
 |28=>91
 |29=>92
 |20=>83
 |21=>84
 |22=>85
 |23=>86
 |24=>87
 |25=>88
 |26=>89
 |27=>90
 |46=>150
 |47=>151
 |48=>152
 |49=>153
 |50=>154
 |57=>242
 |n=>n,λx=>match x with
 |22=>65
 |24=>66
 |25=>68
 |3=>3
 |39=>115
 |0=>0
 |53=>165
 |55=>167
 |4=>4
 |46=>159
 |45=>158
 |50=>120
 |5=>5
 |9=>9
 |66=>215
 |70=>219
 |76=>270
 |77=>271
 |n=>n,λx=>x⟩
theorem aOz :SlLaysF0.n6 qp aOx where
  mixed:=rfl
  f6 :=⟨ "slices.SortFunc[[]homestead/claim.place,homestead/claim.place]",by decide,func17.trans rfl⟩
  f14 :=⟨ "slices.pdqsortCmpFunc[homestead/claim.place]",by decide,func41.trans (by kernel_rfl)⟩
  f15:=func42.trans (by kernel_rfl)
  f20 :=⟨ "slices.insertionSortCmpFunc[homestead/claim.place]",by decide,func83.trans (by kernel_rfl)⟩
  f21 :=⟨ "slices.heapSortCmpFunc[homestead/claim.place]",by decide,func84.trans (by kernel_rfl)⟩
  f22 :=⟨ "slices.breakPatternsCmpFunc[homestead/claim.place]",by decide,func85.trans (by kernel_rfl)⟩
  f23 :=⟨ "slices.choosePivotCmpFunc[homestead/claim.place]",by decide,func86.trans (by kernel_rfl)⟩
  f24 :=⟨ "slices.reverseRangeCmpFunc[homestead/claim.place]",by decide,func87.trans (by kernel_rfl)⟩
  f25 :=⟨ "slices.partialInsertionSortCmpFunc[homestead/claim.place]",by decide,func88.trans (by kernel_rfl)⟩
  f26 :=⟨ "slices.partitionEqualCmpFunc[homestead/claim.place]",by decide,func89.trans rfl⟩
  f27 :=⟨ "slices.partitionCmpFunc[homestead/claim.place]",by decide,func90.trans (by kernel_rfl)⟩
  f28:=func91.trans (by kernel_rfl)
  f29:=func92.trans (by kernel_rfl)
  f46 :=⟨ "slices.siftDownCmpFunc[homestead/claim.place]",by decide,func150.trans (by kernel_rfl)⟩
  f47:=func151.trans (by kernel_rfl)
  f48:=func152.trans (by kernel_rfl)
  f49 :=⟨ "slices.medianAdjacentCmpFunc[homestead/claim.place]",by decide,func153.trans (by kernel_rfl)⟩
  f50 :=⟨ "slices.medianCmpFunc[homestead/claim.place]",by decide,func154.trans (by kernel_rfl)⟩
  f57 :=⟨ "slices.order2CmpFunc[homestead/claim.place]",by decide,func242.trans (by kernel_rfl)⟩
  t0:=Tryz.underlying0
  a0:=Tryz.isAgg0
  z0:=Tryz.sizeOf0
  v0:=Tryz.zeroValue0
  t3:=Tryz.underlying3
  a3:=Tryz.isAgg3
  z3:=Tryz.sizeOf3
  v3:=Tryz.zeroValue3
  t4:=Tryz.underlying4
  a4:=Tryz.isAgg4
  z4:=Tryz.sizeOf4
  v4:=Tryz.zeroValue4
  t5:=Tryz.underlying5
  a5:=Tryz.isAgg5
  z5:=Tryz.sizeOf5
  v5:=Tryz.zeroValue5
  t9:=Tryz.underlying9
  a9:=Tryz.isAgg9
  z9:=Tryz.sizeOf9
  v9:=Tryz.zeroValue9
  t22:=Tryz.underlying65
  a22:=Tryz.isAgg65
  z22:=Tryz.sizeOf65
  v22:=Tryz.zeroValue65
  t25:=Tryz.underlying68
  a25:=Tryz.isAgg68
  z25:=Tryz.sizeOf68
  v25:=Tryz.zeroValue68
  t39:=Tryz.underlying115
  a39:=Tryz.isAgg115
  z39:=Tryz.sizeOf115
  v39:=Tryz.zeroValue115
  t45:=Tryz.underlying158
  a45:=Tryz.isAgg158
  z45:=Tryz.sizeOf158
  v45:=Tryz.zeroValue158
  t46:=Tryz.underlying159
  a46:=Tryz.isAgg159
  z46:=Tryz.sizeOf159
  v46:=Tryz.zeroValue159
  t50:=Tryz.underlying120
  a50:=Tryz.isAgg120
  z50:=Tryz.sizeOf120
  v50:=Tryz.zeroValue120
  t53:=Tryz.underlying165
  a53:=Tryz.isAgg165
  z53:=Tryz.sizeOf165
  v53:=Tryz.zeroValue165
  t55:=Tryz.underlying167
  a55:=Tryz.isAgg167
  z55:=Tryz.sizeOf167
  v55:=Tryz.zeroValue167
  t66:=Tryz.underlying215
  a66:=Tryz.isAgg215
  z66:=Tryz.sizeOf215
  v66:=Tryz.zeroValue215
  t70:=Tryz.underlying219
  a70:=Tryz.isAgg219
  z70:=Tryz.sizeOf219
  v70:=Tryz.zeroValue219
  t76:=Tryz.underlying270
  a76:=Tryz.isAgg270
  z76:=Tryz.sizeOf270
  v76:=Tryz.zeroValue270
  t77:=Tryz.underlying271
  a77:=Tryz.isAgg271
  z77:=Tryz.sizeOf271
  v77:=Tryz.zeroValue271
end Go.Proofs.YtigmnfepdlbcpaaGreatDoor
namespace Go.Proofs.YtigmnfepdlbcpaaGreatDoor
open Go Go.Abs Tryz
attribute [local irreducible] Ev PWp
variable{cs l:List UInt8}{i j n:Nat}{ok:Pt->Bool}{bh:Pt->Pt->Bool}{f:Nat->Int}
def abc :ByteArray:=⟨#[97,98,99,100,101,102,103,104,105,106,107,108,109,110,111,112,113,114,115,116,117,118,119,120,121,122]⟩
def abc9 :ByteArray:=⟨#[97,98,99,100,101,102,103,104,105,106,107,108,109,110,111,112,113,114,115,116,117,118,119,120,121,122,48,49,50,51,52,53,54,55,56,57,95]⟩
def akH(b:UInt8):Bool:=decide (97<=b.toNat)&&decide (b.toNat<=122)
def alB(b:UInt8):Bool:=(akH b||decide (48<=b.toNat)&&decide (b.toNat<=57))||decide (b.toNat=95)
theorem aHJ{p:UInt8->Bool}(h:((List.range 256).all λn=>p (UInt8.ofNat n))=true)(b:UInt8):p b=true:=by
 have:=zal.1 h _ (zmr.2 b.toNat_lt)
 simpa
theorem aCn(b:UInt8):abc9.data.toList.contains b=alB b:=by
 have:=aHJ (p:=λb=>abc9.data.toList.contains b==alB b) (by decide+kernel) b
 grind
theorem aIP(b:UInt8):decide (firstIdx abc b>=0)=akH b:=by
 have:=aHJ (p:=λb=>decide (firstIdx abc b>=0)==akH b) rfl b
 simpa using this
theorem afZ{α:Type}{p:α->Bool}:∀{l:List α},l.dropWhile p=[]↔∀x∈l,p x=true
 |[]=>by simp
 |a::l=>by
  cases h:p a with
  |true=>simp[h,afZ]
  |false=>simp[h]
theorem anH:Lib.trimS l cs=[]↔∀x∈l,cs.contains x=true:=by
 have b:∀{m:List UInt8}{p:UInt8->Bool},(∀x∈m,p x=true)↔∀x∈m.dropWhile p,p x=true:=by
  intro m p;constructor
  ·exactλh x hx=>h x (List.dropWhile_sublist p|>.subset hx)
  ·intro h
   cases e:m.dropWhile p with
   |nil=>exact afZ.1 e
   |cons a rs=>
    have c:=List.head_dropWhile_not p (l:=m) (by rw[e];simp)
    grind
 unfold Lib.trimS Lib.trimLeftS Lib.trimRightS;rw[afZ];have:=b (m:=l.reverse) (p:=λx=>cs.contains x)
 grind
theorem auQ :(Tryz.prog.info? (renT.t 116)).map (λi=>(i.zero,i.size))=some (some (.agg (Array.replicate 256 (.bool false))),256):=rfl
theorem aE2(s:ByteArray)(h0:0<s.size)(hs:s.size<=9223372036854775807):qf 302 [vs s,vs abc9] (vs (⟨(Lib.trimS s.data.toList abc9.data.toList).toArray⟩)):=
 aL9 rfl λw=>(Any.strings_Trim_set aOk (zero_of_info auQ).1 (zero_of_info auQ).2 s _ w (by decide) h0 hs (by decide) (ascii_of_all rfl)).mono λe w' ⟨a,q,b⟩=>⟨a, .inr ⟨_,_,q,b⟩⟩
theorem aAP(s:ByteArray)(h:s.data.toList.all alB=true):(⟨(Lib.trimS s.data.toList abc9.data.toList).toArray⟩:ByteArray)=e0:=by
 rw[anH.2 λx hx=>by rw[aCn];grind]
theorem aHX(s:ByteArray)(h:s.data.toList.all alB=false):(⟨(Lib.trimS s.data.toList abc9.data.toList).toArray⟩:ByteArray)≠e0:=λe=>by
 have:Lib.trimS s.data.toList abc9.data.toList=[]:=by grind
 rw[anH]at this
 rw[<-znt,zal]at h
 exact h λx hx=>by rw[<-aCn];grind
theorem aqC(b:ByteArray)(c:UInt8):qf 425 [vs b, .val (.int .u8 (c.toNat:Int))] (vi (firstIdx b c)):=by
 have e:(((c.toNat:Nat):Int).toNat).toUInt8=c:=by simp
 refine pF func425 rfl λst=>?_
 repeat' first|apply wZ;rfl|constructor|show(_:PV)=_;rw[e];done|apply aMJ pk;rfl;rfl;exact func435;kernel_rfl;kernel_rfl;kernel_rfl;kernel_rfl;rfl;rfl;rotate_left;rfl;rfl
def one(c:UInt8):ByteArray:=⟨#[c]⟩
theorem aE1(c:UInt8):qf 409 [vs abc,vs (one c)] (vi (firstIdx abc c)):=by
 have hb:=aqC abc c;have hz:(one c).size=1:=rfl;have hg:(one c)[0]?=some c:=rfl;have a:¬(one c=abc):=λe=>by have:=congrArg ByteArray.size e;rw[hz]at this;cases this
 have b:¬(one c=ByteArray.empty\/one c=abc):=λq=>q.elim (λe=>by have:=congrArg ByteArray.size e;rw[hz]at this;cases this) a;refine pF func409 rfl λst=>?_
 repeat' first|apply wZ;rfl|constructor|apply hb|apply sxA pk.htt 0 c;(iterate 6 rfl);exact hg;rfl|apply wY;rfl
theorem aAs(c:UInt8):qf 303 [vs abc,vs (one c)] (vb (akH c)):=by
 have a:=aE1 c;have b:qf 378 [vs abc,vs (one c)] (vi (firstIdx abc c)):=by
  refine pF func378 rfl λst=>?_
  repeat' first|apply wZ;rfl|constructor|apply a|apply wY;rfl
 refine pF func303 rfl λst=>?_
 repeat' first|apply wZ;rfl|constructor|apply b|show(_:PV)=_;rw[<-aIP];done|apply wY;rfl
def sD(s:ByteArray):Bool:=match s.data.toList with
 |[]=>false
 |c::l=>akH c&&(decide (s.size<=12)&&(c::l).all alB)
theorem vS(s:ByteArray):s.size=s.data.toList.length:=(Array.length_toList).symm
theorem amR(s:ByteArray):qf 216 [vs s] (vb (sD s)):=by
 unfold sD;cases hl:s.data.toList with
 |nil=>
  obtain rfl:s=e0:=by
   apply ByteArray.ext;apply Array.toList_inj.1;rw[hl]
  refine pF func216 rfl λst=>?_
  (repeat' first|apply cW;focus(intro _;apply(show qf 302 [_,_] (vs e0)from by rename_i hh;exact absurd (show false=true from hh) (by simp));done)|apply cW;focus(intro _;apply(show qf 303 [_,_] (vb false)from by rename_i hh;exact absurd (show false=true from hh) (by simp));done)|apply wZ;rfl|constructor|apply slT pk 0 1;rfl;rfl;rfl;rotate_left;rfl;intro _;exact bZ;intro _;exact bC rfl rfl;intro _;omega;intro hh;exact absurd (show false=true from hh) (by simp);rfl|apply wY;rfl)
 |cons c l=>
  have hz:=vS s;rw[hl]at hz;have h0:0<s.size:=by rw[hz];simp
  have a:¬(s=e0):=λe=>by rw[e]at h0;exact absurd h0 (by decide)
  have d:¬(s=(⟨#[]⟩:ByteArray)):=a;have g:s.extract 0 1=one c:=by
   apply ByteArray.ext;apply Array.toList_inj.1;show _=[c];rw[ByteArray.data_extract,Array.toList_extract,hl];rfl
  dsimp only;by_cases f:s.size<=12
  ·have ht:=aE2 s h0 (by omega)
   have b:(s.size:Int)<=12:=by omega
   have hc:=aAs c;rw[<-g]at hc;cases ha:s.data.toList.all alB with
   |true=>
    rw[aAP s ha]at ht;rw[hl]at ha;rw[ha];refine pF func216 rfl λst=>?_
    (repeat' first|apply wZ;rfl|constructor|(first|apply ht|apply hc)|show(_:PV)=_;simp[a,d,f,b,e0];done;done|apply slT pk 0 1;rfl;rfl;rfl;rotate_left;rfl;intro _;exact bZ;intro _;exact bC rfl rfl;intro _;omega;intro _;omega;rfl|apply wY;rfl)
   |false=>
    have h:=aHX s ha;rw[hl]at ha;rw[ha];have i:¬((⟨(Lib.trimS s.data.toList abc9.data.toList).toArray⟩:ByteArray)=(⟨#[]⟩:ByteArray)):=h;generalize(⟨(Lib.trimS s.data.toList abc9.data.toList).toArray⟩:ByteArray)=T at*;refine pF func216 rfl λst=>?_
    repeat' first|apply wZ;rfl|constructor|(first|apply ht|apply hc)|show(_:PV)=_;simp[a,d,f,b,h,i];done;done|apply slT pk 0 1;rfl;rfl;rfl;rotate_left;rfl;intro _;exact bZ;intro _;exact bC rfl rfl;intro _;omega;intro _;omega;rfl|apply wY;rfl
  ·have b:¬(s.size:Int)<=12:=by omega
   have e:decide (s.size<=12)=false:=zdj f;have j:decide ((s.size:Int)<=12)=false:=zdj (by omega);have k:decide (s=e0)=false:=zdj a;have hT:∀p,(gw true (!decide (s=e0)) true&&p)=true->True:=λ_ _=>trivial;rw[e,Bool.false_and,Bool.and_false];refine pF func216 rfl λst=>?_
   repeat' first|apply cW;focus(intro _;apply(show qf 302 [_,_] (vs e0)from by rename_i hh;simp[gw,a]at hh;omega);done)|apply cW;focus(intro _;apply(show qf 303 [_,_] (vb false)from by rename_i hh;simp[gw,a]at hh;omega);done)|apply wZ;rfl|constructor|show(_:PV)=_;simp[a,d,f,b,e0];done;done|apply slT pk 0 1;rfl;rfl;rfl;rotate_left;rfl;intro _;exact bZ;intro _;exact bC rfl rfl;intro _;omega;intro hh;omega;rfl|apply wY;rfl
theorem aCf(s:ByteArray)(hl:s.data.toList=l)(h:i<l.length):s[i]?=some l[i]:=by
 subst hl;have a:i<s.size:=by rw[vS];exact h
 rw[getElem?_pos s i a];rfl
theorem ajA(s:ByteArray):qf 264 [vs s] (vb (sD s)):=by
 unfold sD;cases hl:s.data.toList with
 |nil=>
  have hz:=vS s;rw[hl]at hz;have m:(s.size:Int)<1:=by rw[hz];decide
  refine pF func264 rfl λst=>?_
  (repeat' first|apply wZ;rfl|constructor|apply sxG pk 0 0;(iterate 4 rfl);rotate_left;rfl;intro _;rfl;intro hh;rw[zdt m]at hh;exact absurd (show false=true from hh) (by simp);rfl|intro h;simp at h;done|intro h;simp at h)
 |cons c l=>
  have hz:=vS s;rw[hl]at hz;have h0:0<s.size:=by rw[hz];simp
  have f:s[0]?=some c:=aCf s hl (i:=0) (by simp);have w:=c.toNat_lt;dsimp only;by_cases a:¬(s.size<=12/\akH c=true)
  ·have e:(akH c&&(decide (s.size<=12)&&(c::l).all alB))=false:=by
    cases d:akH c
    ·rfl
    ·rw[d]at a;simp at a;simp;intro h;omega
   rw[e];unfold akH at a;simp at a;refine pF func264 rfl λst=>?_
   repeat' first|apply wZ;rfl|constructor|apply sxG pk 0 c;(iterate 4 rfl);rotate_left;rfl;intro _;rfl;intro _;exact f;rfl|intro h;simp at h;omega|intro h;simp at h
  replace a:=zdn a
  have⟨d,n⟩:=a;rw[n,zdt d,Bool.true_and,Bool.true_and];simp only[akH,zba,zde]at n;generalize hL:c::l=L at*;refine pF func264 rfl λst=>?_
  repeat' first|apply wZ;rfl|constructor|apply sxG pk 0 c;(iterate 4 rfl);rotate_left;rfl;intro _;rfl;intro _;exact f;rfl|intro h;simp at h;omega|intro h;simp at h
  refine aC (X:={x:Nat//x<=L.length/\∀j (h:j<x) (d:j<L.length),alB L[j]=true}) (λi=>(((St.nil 62 st).pv 0 (vs s)).pv 3 (vi (i.1:Nat)))) (λi=>L.length-i.1) ⟨0,by omega,λ_ h=>absurd h (Nat.not_lt_zero _)⟩ ?_ λi=>?_
  ·repeat' first|constructor
  have⟨i,hi,p⟩:=i;dsimp only;by_cases r:L.length<=i
  ·have e:L.all alB=true:=zal.2 λc hc=>by
    obtain⟨j,hj,rfl⟩:=zgo hc;exact p j (by omega) hj
   rw[e]
   repeat' first|apply wZ;rfl|omega|constructor|intro h;simp at h
  have g:i<L.length:=by omega
  have k:=aCf s hl g;have t:alB L[i]=false->L.all alB=false:=λh=>by
   rw[<-znt,zal]
   intro q;rw[q _ (zgm g)]at h;cases h
  have u:alB L[i]=true->∀j (h:j<i+1) (d:j<L.length),alB L[j]=true:=λh j hj d=>by
   rcases zls.1 hj with q|q
   ·exact p j q d
   ·subst q;exact h
  generalize L[i]=b at*;have v:=b.toNat_lt;have o:alB b=((decide (97<=b.toNat)&&decide (b.toNat<=122))||decide (48<=b.toNat)&&decide (b.toNat<=57)||decide (b.toNat=95)):=rfl
  repeat' first|refine⟨⟨i+1,by omega,u (by rw[o];simp at*;omega)⟩,?_,?_⟩|apply wZ;rfl|omega|constructor|show(_:PV)=_;rw[t (by rw[o];simp at*;omega)];done|apply sxG pk i b;(iterate 4 rfl);rotate_left;rfl;intro _;rfl;intro _;exact k;rfl|simp<;>omega|intro h;simp at h
def cB(v:Vl):Bool:=if v.k=0 then decide (v.n=0)&&decide (v.s=e0)else if v.k=1 then(decide (v.s=e0)&&decide (v.n>= -1099511627776))&&decide (v.n<=1099511627776)else if v.k=2 then decide (v.n=0)&&decide ((v.s.size:Int)<=200)else false
theorem lS(v:Vl):qf 229 [.agg v.z] (vb (cB v)):=by
 unfold cB;by_cases h0:v.k=0;rw[zp h0];rotate_left;by_cases a:v.k=1;rw[zn h0,zp a];rotate_left;rw[zn h0,zn a];by_cases b:v.k=2;rw[zp b];rotate_left;rw[zn b]
 all_goals (refine pF func229 rfl λst=>?_;repeat'(first|apply wZ;rfl|omega|constructor|show(_:PV)=_;simp[h0];done;done|intro h))
theorem jH(v:Vl):qf 245 [.agg v.z] (vb (cB v)):=by
 unfold cB;by_cases h0:v.k=0;rw[zp h0];rotate_left;by_cases a:v.k=1;rw[zn h0,zp a];rotate_left;rw[zn h0,zn a]
 all_goals (refine pF func245 rfl λst=>?_;repeat'(first|apply wZ;rfl|omega|constructor|show(_:PV)=_;(by_cases b:v.k=2<;>simp[b];done);done|intro h))
def bL(c:Cl):Int:=if c.k≠2\/c.val.k≠1 then 6 else if c.val.s≠e0\/0<c.p.length then 1 else if c.val.n< -1099511627776\/c.val.n>1099511627776 then 20 else 0
theorem aCU(n:Int):qf 316 [vi n] (vb (decide (n>= -1099511627776)&&decide (n<=1099511627776))):=by
 refine pF func316 rfl λst=>?_
 repeat' first|apply wZ;rfl|constructor
theorem oQ(c:Cl):qf 231 [.agg c.z] (vi (bL c)):=by
 have hf:=aCU c.val.n;unfold bL;by_cases a:c.k≠2\/c.val.k≠1;rw[zp a];rotate_left;rw[zn a];by_cases b:c.val.s≠e0\/0<c.p.length;rw[zp b];rotate_left;rw[zn b];by_cases d:c.val.n< -1099511627776\/c.val.n>1099511627776;rw[zp d];rotate_left;rw[zn d]
 all_goals (refine pF func231 rfl λst=>?_;repeat'(first|apply wZ;rfl|constructor|apply hf|show(_:PV)=_;(exfalso;simp at*;grind);done|apply wY;rfl|intro h;simp at h;omega|intro h;simp at h))
theorem mU(c:Cl):qf 251 [.agg c.z] (vi (bL c)):=by
 unfold bL;by_cases a:c.k≠2\/c.val.k≠1;rw[zp a];rotate_left;rw[zn a];by_cases b:c.val.s≠e0\/0<c.p.length;rw[zp b];rotate_left;rw[zn b];by_cases d:c.val.n< -1099511627776\/c.val.n>1099511627776;rw[zp d];rotate_left;rw[zn d]
 all_goals (refine pF func251 rfl λst=>?_;repeat'(first|apply wZ;rfl|constructor|show(_:PV)=_;(exfalso;simp at*;grind);done|intro h;simp at h;omega|intro h;simp at h))
theorem zI(c:Cl):qf 282 [.seq [c.z]] (vi (bL c)):=by
 have hc:=oQ c;generalize bL c=R at*;refine pF func282 rfl λst=>?_
 repeat' first|apply wZ;rfl|constructor
 refine aC (X:={x:Nat//x<=1/\(x=1->R=0)}) (λi=>((((St.nil 18 st).pv 6 (.seq [c.z])).pv 7 (vi (([c.z]).length:Nat))).pv 8 (vi (i.1:Nat)))) (λi=>1-i.1) ⟨0,by omega,by omega⟩ ?_ λi=>?_;rotate_left;have⟨i,b,a⟩:=i;dsimp only;rcases(show i=0\/i=1 by omega)with rfl|rfl
 rotate_left;have h0:=a rfl
 all_goals (repeat' first|refine⟨⟨1,by omega,λ_=>by assumption⟩,?_,?_⟩|apply wZ;rfl|omega|constructor|show(_:PV)=_;rw[h0];done|apply cR pk;(iterate 6 rfl);rotate_left;rfl;intro hw;rfl;(intro hw;apply(rfl:([c.z]:List (List PV))[0]?=some c.z)<;>omega);intro _;rfl;rfl|apply hc|apply wY;rfl|simp<;>omega|intro h)
def ahP(c:Cl):Vl:=if bL c=0 then c.val else Vl.zero
theorem aAe(c:Cl):qf 236 [.agg c.z] (.agg (ahP c).z):=by
 have hc:=zI c;unfold ahP;by_cases h:bL c=0;rw[zp h];rw[h]at hc;rotate_left;rw[zn h]
 all_goals (refine pF func236 rfl λst=>?_;repeat'(first|apply wZ;rfl|omega|constructor|apply hc|apply wY;rfl|intro h))
theorem amW(a b:Dt):qf 280 [.agg a.z, .agg b.z] (vi (byD a b)):=by
 have ho:=apE [kN a.dev b.dev,kN a.seq b.seq] (by simp);refine pF func280 rfl λst=>?_
 repeat' first|apply wZ;rfl|apply KR.mk;kernel_rfl|constructor|(first|apply mA a.dev b.dev|apply mA a.seq b.seq|apply ho)|apply wY;rfl
theorem aBH(a b:Dt):decide (byD a b>=0)= !aW b a:=by
 unfold byD aW kN;simp only[orI]
 grind
def iT(p:Pt):Prop:=p.a=0/\p.m=0/\p.after=Dt.zero/\p.afterAt=0/\p.gone=false
instance(p :Pt):Decidable (iT p):=by unfold iT;infer_instance
def eG(d:Dt):Bool:=((decide (1<=d.dev)&&decide (d.dev<=64))&&decide (1<=d.seq))&&decide (d.seq<=1048576)
def eT(p:Pt):Bool:=(decide (iT p)&&cB p.val)&&eG p.d
def eU(p:Pt):Bool:=(decide (iT p)&&(decide (p.val.k=1)&&cB p.val))&&eG p.d
def vV(ok:Pt->Bool)(bh:Pt->Pt->Bool)(l:List Pt):Bool:=(List.range l.length).all λj=>ok l[j]! &&(decide (j=0)||bh l[j]! l[j-1]!)
theorem aoY{l:List Pt}(h:j<l.length)(hf:(ok l[j]&&(decide (j=0)||bh l[j] (l[j-1]'(by omega))))=false):vV ok bh l=false:=by
 unfold vV;rw[<-znt,zal];intro q;have:=q j (zmr.2 h)
 grind
theorem zM{l:List Pt}(hf:∀j (h:j<l.length),(ok l[j]&&(decide (j=0)||bh l[j] (l[j-1]'(by omega))))=true):vV ok bh l=true:=by
 unfold vV
 grind
def kJ(c:Cl):Bool:=decide (c.k=1/\c.val=Vl.zero)&&vV eT (λp q=>aW p.d q.d) c.p
def aA2(p:Pt):List PV:=[vi p.val.n,vi p.d.dev,vi p.d.seq]
theorem aaG(p:Pt):qf 286 [.agg p.z] (.agg (aA2 p)):=by
 refine pF func286 rfl λst=>?_
 repeat' first|apply wZ;rfl|constructor
def ahI(p q:Pt):Int:=orI [kN p.val.n q.val.n,kN p.d.dev q.d.dev,kN p.d.seq q.d.seq]
theorem aBv(p q:Pt):qf 285 [.agg (aA2 p), .agg (aA2 q)] (vi (ahI p q)):=by
 have ho:=apE [kN p.val.n q.val.n,kN p.d.dev q.d.dev,kN p.d.seq q.d.seq] (by simp);refine pF func285 rfl λst=>?_
 repeat' first|apply wZ;rfl|apply KR.mk;kernel_rfl|constructor|(first|apply mA p.val.n q.val.n|apply mA p.d.dev q.d.dev|apply mA p.d.seq q.d.seq|apply ho)|apply wY;rfl
def dG(p q:Pt):Bool:=decide (p.val.n>q.val.n)||(decide (p.val.n=q.val.n)&&aW p.d q.d)
theorem aIi(p q:Pt):decide (ahI p q>=0)= !dG q p:=by
 unfold ahI dG aW kN;simp only[orI]
 grind
theorem axC(p q:Pt):qf 325 [.agg p.z, .agg q.z] (vb (dG p q)):=by
 have h:=kG p.d q.d;refine pF func325 rfl λst=>?_
 repeat' first|apply wZ;rfl|constructor|apply h|apply wY;rfl
def iI(c:Cl):Bool:=decide (c.k=3/\c.val=Vl.zero)&&vV eU dG c.p
theorem lZ{x:Bool}(h:gw x (decide (((0:Nat):Int)>0)) true=true):False:=by
 cases x<;>simp[gw]at h
theorem atI(c:Cl)(hl:c.p.length<4611686018427387904):qf 230 [.agg c.z] (vb (kJ c)):=by
 unfold kJ;by_cases hk:¬(c.k=1/\c.val=Vl.zero);rw[zdj hk,Bool.false_and];rw[Vl.ext_iff]at hk;simp only[Vl.zero]at hk;refine pF func230 rfl λst=>?_;rotate_left
 replace hk:=zdn hk
 rw[zdt hk,Bool.true_and];obtain⟨k1,k2⟩:=hk;rw[Vl.ext_iff]at k2;obtain⟨k2,m,n⟩:=k2;simp only[Vl.zero]at k2 m n;refine pF func230 rfl λst=>?_
 repeat' first|apply wZ;rfl|show Cn _;constructor|exact rfl|show(_:PV)=_;(exfalso;grind);done|intro h;simp at h
 refine aC (X:={x:Nat//x<=c.p.length/\∀j (h:j<x) (b:j<c.p.length),(eT c.p[j]&&(decide (j=0)||aW c.p[j].d (c.p[j-1]'(by omega)).d))=true}) (λi=>(((((St.nil 79 st).var 1 92 (c.z)).pv 16 (.seq (c.p.map Pt.z))).pv 17 (vi ((c.p.map Pt.z).length:Nat))).pv 18 (vi (i.1:Nat)))) (λi=>c.p.length-i.1) ⟨0,by omega,λ_ h=>absurd h (Nat.not_lt_zero _)⟩ ?_ λi=>?_;rotate_left;obtain⟨i,hi,f⟩:=i;dsimp only;by_cases l:c.p.length<=i;have e:=zM (ok:=eT) (bh:=λp q=>aW p.d q.d) λj h=>f j (by omega) h;rotate_left;have b:i<c.p.length:=by omega
 have d:=aoY (ok:=eT) (bh:=λp q=>aW p.d q.d) b;have g:(eT c.p[i]&&(decide (i=0)||aW c.p[i].d (c.p[i-1]'(by omega)).d))=true->∀j (h:j<i+1) (b:j<c.p.length),(eT c.p[j]&&(decide (j=0)||aW c.p[j].d (c.p[j-1]'(by omega)).d))=true:=λh j hj b=>by
  rcases zls.1 hj with q|q
  ·exact f j q b
  ·subst q;exact h
 have hv:=lS c.p[i].val;by_cases h0:i=0;subst h0;have a:¬(eT c.p[0]=true)->vV eT (λp q=>aW p.d q.d) c.p=false:=λh=>d (by rw[<-znt];intro q;rw[zba]at q;exact h q.1);simp only[eT,iT,eG,Dt.ext_iff,Dt.zero,zba,zde]at a;rotate_left;obtain⟨k,rfl⟩:∃k,i=k+1:=⟨i-1,by omega⟩;have hd:=amW c.p[k].d c.p[k+1].d;have hb:byD c.p[k].d c.p[k+1].d>=0↔aW c.p[k+1].d c.p[k].d=false:=by have:=aBH c.p[k].d c.p[k+1].d;cases h:aW c.p[k+1].d c.p[k].d<;>simp[h]at this⊢ <;>omega
 have a:¬(eT c.p[k+1]=true/\byD c.p[k].d c.p[k+1].d<0)->vV eT (λp q=>aW p.d q.d) c.p=false:=λh=>d (by rw[<-znt];intro q;rw[zba]at q;exact h ⟨q.1,by have o:=q.2;simp at o;grind⟩);simp only[eT,iT,eG,Dt.ext_iff,Dt.zero,zba,zde]at a
 all_goals (repeat' first|apply iX;intro hw;exact(show((((k+1:Nat):Int))-1=((k:Nat):Int))from by omega);apply gE;omega;rfl|refine⟨⟨k+2,by omega,g (by simp[eT,iT,eG,Dt.ext_iff,Dt.zero];grind)⟩,?_,?_⟩|apply iX;intro hw;exact(show _=((0:Nat):Int)from by exact(lZ hw).elim);apply gE;omega;rfl|apply cW;focus(intro _;apply(show qf 280 [_, .agg c.p[0].d.z] (vi 0)from by rename_i hh;exact(lZ hh).elim);done)|refine⟨⟨1,by omega,g (by simp[eT,iT,eG,Dt.ext_iff,Dt.zero];grind)⟩,?_,?_⟩|exfalso;grind|apply wZ;rfl|show Cn _;constructor|exact rfl|apply KR.mk;kernel_rfl|(first|apply hv|apply hd)|show(_:PV)=_;rw[a (by grind)];done|apply wY;rfl|apply wI;rfl|apply gE;omega|omega|show(_:PV)=_;rw[e];done|simp only[zql];omega|intro h;simp at h)
theorem apA(c:Cl)(hl:c.p.length<4611686018427387904):qf 266 [.agg c.z] (vb (kJ c)):=by
 unfold kJ;have d:(decide (c.k=1)&&(decide (c.val.k=0)&&(decide (c.val.n=0)&&decide (c.val.s=e0))))=decide (c.k=1/\c.val=Vl.zero):=by rw[zbi];simp[Vl.ext_iff,Vl.zero]
 refine pF func266 rfl λst=>?_
 repeat' first|apply wZ;rfl|show Cn _;constructor
 refine aC (X:={x:Nat//x<=c.p.length/\∀j (h:j<x) (b:j<c.p.length),(eT c.p[j]&&(decide (j=0)||aW c.p[j].d (c.p[j-1]'(by omega)).d))=true}) (λi=>(((St.nil 76 st).var 1 92 (c.z)).pv 3 (vi (i.1:Nat)))) (λi=>c.p.length-i.1) ⟨0,by omega,λ_ h=>absurd h (Nat.not_lt_zero _)⟩ ?_ λi=>?_;rotate_left;obtain⟨i,hi,g⟩:=i;dsimp only;by_cases m:c.p.length<=i;have e:=zM (ok:=eT) (bh:=λp q=>aW p.d q.d) λj h=>g j (by omega) h;rotate_left;have b:i<c.p.length:=by omega
 have f:=aoY (ok:=eT) (bh:=λp q=>aW p.d q.d) b;have l:(eT c.p[i]&&(decide (i=0)||aW c.p[i].d (c.p[i-1]'(by omega)).d))=true->∀j (h:j<i+1) (b:j<c.p.length),(eT c.p[j]&&(decide (j=0)||aW c.p[j].d (c.p[j-1]'(by omega)).d))=true:=λh j hj b=>by
  rcases zls.1 hj with q|q
  ·exact g j q b
  ·subst q;exact h
 have hv:=jH c.p[i].val;by_cases h0:i=0;subst h0;have a:¬(eT c.p[0]=true)->vV eT (λp q=>aW p.d q.d) c.p=false:=λh=>f (by rw[<-znt];intro q;rw[zba]at q;exact h q.1);simp only[eT,iT,eG,Dt.ext_iff,Dt.zero,zba,zde]at a;rotate_left;obtain⟨k,rfl⟩:∃k,i=k+1:=⟨i-1,by omega⟩;have hd:=kG c.p[k+1].d c.p[k].d;have a:¬(eT c.p[k+1]=true/\aW c.p[k+1].d c.p[k].d=true)->vV eT (λp q=>aW p.d q.d) c.p=false:=λh=>f (by rw[<-znt];intro q;rw[zba]at q;exact h ⟨q.1,by have o:=q.2;simp at o;grind⟩);simp only[eT,iT,eG,Dt.ext_iff,Dt.zero,zba,zde]at a
 all_goals (repeat' first|apply iX;intro hw;exact(show((((k+1:Nat):Int))-1=((k:Nat):Int))from by omega);apply gE;omega;rfl|refine⟨⟨k+2,by omega,l (by simp[eT,iT,eG,Dt.ext_iff,Dt.zero];grind)⟩,?_,?_⟩|apply iX;intro hw;exact(show _=((0:Nat):Int)from by exact(lZ hw).elim);apply gE;omega;rfl|apply cW;focus(intro _;apply(show qf 173 [.agg c.p[0].d.z,_] (vb false)from by rename_i hh;exact(lZ hh).elim);done)|refine⟨⟨1,by omega,l (by simp[eT,iT,eG,Dt.ext_iff,Dt.zero];grind)⟩,?_,?_⟩|apply wZ;rfl|show Cn _;constructor|exact rfl|apply KR.mk;kernel_rfl|(first|apply hv|apply hd)|show(_:PV)=_;rw[a (by grind),Bool.and_false];done|apply wY;rfl|apply wI;rfl|apply gE;omega|show(_:PV)=_;rw[e,Bool.and_true,<-d];done|omega|simp only[zql];omega|intro h;simp at h)
theorem asD(c:Cl)(hl:c.p.length<4611686018427387904):qf 232 [.agg c.z] (vb (iI c)):=by
 unfold iI;by_cases hk:¬(c.k=3/\c.val=Vl.zero);rw[zdj hk,Bool.false_and];rw[Vl.ext_iff]at hk;simp only[Vl.zero]at hk;refine pF func232 rfl λst=>?_;rotate_left
 replace hk:=zdn hk
 rw[zdt hk,Bool.true_and];obtain⟨k1,k2⟩:=hk;rw[Vl.ext_iff]at k2;obtain⟨k2,p,r⟩:=k2;simp only[Vl.zero]at k2 p r;refine pF func232 rfl λst=>?_
 repeat' first|apply wZ;rfl|show Cn _;constructor|exact rfl|show(_:PV)=_;(exfalso;grind);done|intro h;simp at h
 refine aC (X:={x:Nat//x<=c.p.length/\∀j (h:j<x) (b:j<c.p.length),(eU c.p[j]&&(decide (j=0)||dG c.p[j] (c.p[j-1]'(by omega))))=true}) (λi=>(((((St.nil 85 st).var 1 92 (c.z)).pv 16 (.seq (c.p.map Pt.z))).pv 17 (vi ((c.p.map Pt.z).length:Nat))).pv 18 (vi (i.1:Nat)))) (λi=>c.p.length-i.1) ⟨0,by omega,λ_ h=>absurd h (Nat.not_lt_zero _)⟩ ?_ λi=>?_;rotate_left;obtain⟨i,hi,m⟩:=i;dsimp only;by_cases o:c.p.length<=i;have e:=zM (ok:=eU) (bh:=dG) λj h=>m j (by omega) h;rotate_left;have b:i<c.p.length:=by omega
 have l:=aoY (ok:=eU) (bh:=dG) b;have n:(eU c.p[i]&&(decide (i=0)||dG c.p[i] (c.p[i-1]'(by omega))))=true->∀j (h:j<i+1) (b:j<c.p.length),(eU c.p[j]&&(decide (j=0)||dG c.p[j] (c.p[j-1]'(by omega))))=true:=λh j hj b=>by
  rcases zls.1 hj with q|q
  ·exact m j q b
  ·subst q;exact h
 have hv:=lS c.p[i].val;by_cases h0:i=0;subst h0;have g:=aaG c.p[0];have a:¬(eU c.p[0]=true)->vV eU (dG) c.p=false:=λh=>l (by rw[<-znt];intro q;rw[zba]at q;exact h q.1);simp only[eU,iT,eG,Dt.ext_iff,Dt.zero,zba,zde]at a;rotate_left;obtain⟨k,rfl⟩:∃k,i=k+1:=⟨i-1,by omega⟩;have d:=aaG c.p[k];have f:=aaG c.p[k+1];have hd:=aBv c.p[k] c.p[k+1];have hb:ahI c.p[k] c.p[k+1]>=0↔dG c.p[k+1] c.p[k]=false:=by have:=aIi c.p[k] c.p[k+1];cases h:dG c.p[k+1] c.p[k]<;>simp[h]at this⊢ <;>omega
 have a:¬(eU c.p[k+1]=true/\ahI c.p[k] c.p[k+1]<0)->vV eU (dG) c.p=false:=λh=>l (by rw[<-znt];intro q;rw[zba]at q;exact h ⟨q.1,by have s:=q.2;simp at s;grind⟩);simp only[eU,iT,eG,Dt.ext_iff,Dt.zero,zba,zde]at a
 all_goals (repeat' first|apply iX;intro hw;exact(show((((k+1:Nat):Int))-1=((k:Nat):Int))from by omega);apply gE;omega;rfl|refine⟨⟨k+2,by omega,n (by simp[eU,iT,eG,Dt.ext_iff,Dt.zero];grind)⟩,?_,?_⟩|apply iX;intro hw;exact(show _=((0:Nat):Int)from by exact(lZ hw).elim);apply gE;omega;rfl|apply cW;focus(intro _;apply(show qf 285 [_,_] (vi 0)from by rename_i hh;exact(lZ hh).elim);done)|refine⟨⟨1,by omega,n (by simp[eU,iT,eG,Dt.ext_iff,Dt.zero];grind)⟩,?_,?_⟩|exfalso;grind|apply wZ;rfl|show Cn _;constructor|exact rfl|apply KR.mk;kernel_rfl|(first|apply hv|apply d|apply f|apply hd)|show(_:PV)=_;rw[a (by grind)];done|apply g|apply wY;rfl|apply wI;rfl|apply gE;omega|omega|show(_:PV)=_;rw[e];done|simp only[zql];omega|intro h;simp at h)
theorem aoK(c:Cl)(hl:c.p.length<4611686018427387904):qf 267 [.agg c.z] (vb (iI c)):=by
 unfold iI;have d:(decide (c.k=3)&&(decide (c.val.k=0)&&(decide (c.val.n=0)&&decide (c.val.s=e0))))=decide (c.k=3/\c.val=Vl.zero):=by rw[zbi];simp[Vl.ext_iff,Vl.zero]
 refine pF func267 rfl λst=>?_
 repeat' first|apply wZ;rfl|show Cn _;constructor
 refine aC (X:={x:Nat//x<=c.p.length/\∀j (h:j<x) (b:j<c.p.length),(eU c.p[j]&&(decide (j=0)||dG c.p[j] (c.p[j-1]'(by omega))))=true}) (λi=>(((St.nil 80 st).var 1 92 (c.z)).pv 3 (vi (i.1:Nat)))) (λi=>c.p.length-i.1) ⟨0,by omega,λ_ h=>absurd h (Nat.not_lt_zero _)⟩ ?_ λi=>?_;rotate_left;obtain⟨i,hi,g⟩:=i;dsimp only;by_cases m:c.p.length<=i;have e:=zM (ok:=eU) (bh:=dG) λj h=>g j (by omega) h;rotate_left;have b:i<c.p.length:=by omega
 have f:=aoY (ok:=eU) (bh:=dG) b;have l:(eU c.p[i]&&(decide (i=0)||dG c.p[i] (c.p[i-1]'(by omega))))=true->∀j (h:j<i+1) (b:j<c.p.length),(eU c.p[j]&&(decide (j=0)||dG c.p[j] (c.p[j-1]'(by omega))))=true:=λh j hj b=>by
  rcases zls.1 hj with q|q
  ·exact g j q b
  ·subst q;exact h
 have hv:=jH c.p[i].val;by_cases h0:i=0;subst h0;have a:¬(eU c.p[0]=true)->vV eU (dG) c.p=false:=λh=>f (by rw[<-znt];intro q;rw[zba]at q;exact h q.1);simp only[eU,iT,eG,Dt.ext_iff,Dt.zero,zba,zde]at a;rotate_left;obtain⟨k,rfl⟩:∃k,i=k+1:=⟨i-1,by omega⟩;have hd:=axC c.p[k+1] c.p[k];have a:¬(eU c.p[k+1]=true/\dG c.p[k+1] c.p[k]=true)->vV eU (dG) c.p=false:=λh=>f (by rw[<-znt];intro q;rw[zba]at q;exact h ⟨q.1,by have o:=q.2;simp at o;grind⟩);simp only[eU,iT,eG,Dt.ext_iff,Dt.zero,zba,zde]at a
 all_goals (repeat' first|apply iX;intro hw;exact(show((((k+1:Nat):Int))-1=((k:Nat):Int))from by omega);apply gE;omega;rfl|refine⟨⟨k+2,by omega,l (by simp[eU,iT,eG,Dt.ext_iff,Dt.zero];grind)⟩,?_,?_⟩|apply iX;intro hw;exact(show _=((0:Nat):Int)from by exact(lZ hw).elim);apply gE;omega;rfl|apply cW;focus(intro _;apply(show qf 325 [.agg c.p[0].z,_] (vb false)from by rename_i hh;exact(lZ hh).elim);done)|refine⟨⟨1,by omega,l (by simp[eU,iT,eG,Dt.ext_iff,Dt.zero];grind)⟩,?_,?_⟩|apply wZ;rfl|show Cn _;constructor|exact rfl|apply KR.mk;kernel_rfl|(first|apply hv|apply hd)|show(_:PV)=_;rw[a (by grind),Bool.and_false];done|apply wY;rfl|apply wI;rfl|apply gE;omega|show(_:PV)=_;rw[e,Bool.and_true,<-d];done|omega|simp only[zql];omega|intro h;simp at h)
structure Tb where
 name:ByteArray
 o:List Co
 u:List Int
 h:List (List PV)
 f:List Fr
 s:List Su
 deriving Inhabited
def Tb.z(a:Tb):List PV:=[.val (.string (a.name)), .seq (a.o.map Co.z), .seq (a.u.map I1), .seq a.h, .seq (a.f.map Fr.z), .seq (a.s.map Su.z)]
abbrev Sc :=List Tb
def scC(s:Sc):List PV:=[.seq (s.map Tb.z)]
theorem aEW(b:FuncId)(caps:List PV)(f:Co->Bool)(l:List Co)(hl:l.length<4611686018427387904)(hf:∀p,qf b ([.agg p.z]++caps) (vb (f p))):qf 379 [.seq (l.map Co.z), .fn b caps] (vi (dJ f l)):=by
 refine pF func379 rfl λst=>?_
 repeat' first|apply wZ;rfl|constructor
 refine aC (X:={x:Nat//x<=l.length/\∀j (h:j<x) (c:j<l.length),f l[j]=false}) (λi=>(((((St.nil 19 st).pv 0 (.seq (l.map Co.z))).pv 1 (.fn b caps)).pv 7 (vi ((l.map Co.z).length:Nat))).pv 8 (vi (i.1:Nat)))) (λi=>l.length-i.1) ⟨0,by omega,by omega⟩ ?_ λi=>?_;rotate_left;have⟨i,hi,a⟩:=i;dsimp only
 all_goals (repeat' first|refine⟨⟨i+1,by omega,λj d c=>by rcases zls.1 d with q|q;exact a j q c;subst q;assumption⟩,?_,?_⟩|apply wZ;rfl|omega|constructor|apply hf|show(_:PV)=_;(first|unfold dJ;rw[nK ‹_› ‹_› a];done|unfold dJ;rw[oV ‹_› a]);done|apply wY;rfl|apply wI;rfl|apply gE;omega|simp<;>omega|intro h;simp at h|intro h)
theorem aDc(b:FuncId)(caps:List PV)(f:Su->Bool)(l:List Su)(hl:l.length<4611686018427387904)(hf:∀p,qf b ([.agg p.z]++caps) (vb (f p))):qf 380 [.seq (l.map Su.z), .fn b caps] (vi (dJ f l)):=by
 refine pF func380 rfl λst=>?_
 repeat' first|apply wZ;rfl|constructor
 refine aC (X:={x:Nat//x<=l.length/\∀j (h:j<x) (c:j<l.length),f l[j]=false}) (λi=>(((((St.nil 19 st).pv 0 (.seq (l.map Su.z))).pv 1 (.fn b caps)).pv 7 (vi ((l.map Su.z).length:Nat))).pv 8 (vi (i.1:Nat)))) (λi=>l.length-i.1) ⟨0,by omega,by omega⟩ ?_ λi=>?_;rotate_left;have⟨i,hi,a⟩:=i;dsimp only
 all_goals (repeat' first|refine⟨⟨i+1,by omega,λj d c=>by rcases zls.1 d with q|q;exact a j q c;subst q;assumption⟩,?_,?_⟩|apply wZ;rfl|omega|constructor|apply hf|show(_:PV)=_;(first|unfold dJ;rw[nK ‹_› ‹_› a];done|unfold dJ;rw[oV ‹_› a]);done|apply wY;rfl|apply wI;rfl|apply gE;omega|simp<;>omega|intro h;simp at h|intro h)
theorem aDM(b:FuncId)(caps:List PV)(f:Tb->Bool)(l:List Tb)(hl:l.length<4611686018427387904)(hf:∀p,qf b ([.agg p.z]++caps) (vb (f p))):qf 304 [.seq (l.map Tb.z), .fn b caps] (vi (dJ f l)):=by
 refine pF func304 rfl λst=>?_
 repeat' first|apply wZ;rfl|constructor
 refine aC (X:={x:Nat//x<=l.length/\∀j (h:j<x) (c:j<l.length),f l[j]=false}) (λi=>(((((St.nil 19 st).pv 0 (.seq (l.map Tb.z))).pv 1 (.fn b caps)).pv 7 (vi ((l.map Tb.z).length:Nat))).pv 8 (vi (i.1:Nat)))) (λi=>l.length-i.1) ⟨0,by omega,by omega⟩ ?_ λi=>?_;rotate_left;have⟨i,hi,a⟩:=i;dsimp only
 all_goals (repeat' first|refine⟨⟨i+1,by omega,λj d c=>by rcases zls.1 d with q|q;exact a j q c;subst q;assumption⟩,?_,?_⟩|apply wZ;rfl|omega|constructor|apply hf|show(_:PV)=_;(first|unfold dJ;rw[nK ‹_› ‹_› a];done|unfold dJ;rw[oV ‹_› a]);done|apply wY;rfl|apply wI;rfl|apply gE;omega|simp<;>omega|intro h;simp at h|intro h)
theorem aEl(a:FuncId)(caps:List PV)(f:Co->Bool)(l:List Co)(hl:l.length<4611686018427387904)(hf:∀p,qf a ([.agg p.z]++caps) (vb (f p))):qf 309 [.seq (l.map Co.z), .fn a caps] (vb (l.any f)):=by
 have h:=aEW a caps f l hl hf;refine pF func309 rfl λst=>?_
 repeat' first|apply wZ;rfl|constructor|apply h|show(_:PV)=_;rw[uB];done|apply wY;rfl
theorem aDi(a:FuncId)(caps:List PV)(f:Su->Bool)(l:List Su)(hl:l.length<4611686018427387904)(hf:∀p,qf a ([.agg p.z]++caps) (vb (f p))):qf 315 [.seq (l.map Su.z), .fn a caps] (vb (l.any f)):=by
 have h:=aDc a caps f l hl hf;refine pF func315 rfl λst=>?_
 repeat' first|apply wZ;rfl|constructor|apply h|show(_:PV)=_;rw[uB];done|apply wY;rfl
def eV(f:Nat->Int)(n:Nat):Int:=orI ((List.range n).map f)
theorem aGJ{l:List Int}(h:i<l.length)(hf:l[i]≠0)(hn:∀j (h:j<i) (h2:j<l.length),l[j]=0):orI l=l[i]:=by
 induction l generalizing i with
 |nil=>simp at h
 |cons a l ih=>
  cases i with
  |zero=>simp at hf⊢;rw[orI,zn hf]
  |succ i=>
   have h0:=hn 0 (by simp) (by simp);simp at h0;rw[orI,zp h0]
   grind
theorem aFp{l:List Int}(hn:∀x∈l,x=0):orI l=0:=by
 induction l with
 |nil=>rfl
 |cons a l ih=>rw[orI,zp (hn a (by simp))];grind
theorem nM(h:i<n)(hf:f i≠0)(hn:∀j<i,f j=0):eV f n=f i:=by
 have:=aGJ (l:=(List.range n).map f) (by simpa) (by grind) λj hj a=>by grind
 simpa
theorem nO(hn:∀j<n,f j=0):eV f n=0:=
 aFp λx hx=>by grind
theorem kP(b:FuncId)(caps:List PV)(f:Nat->Int)(n:Nat)(hn:n<4611686018427387904)(hf:∀k,k<n->(∀j<k,f j=0)->qf b ([vi (k:Nat)]++caps) (vi (f k))):qf 306 [vi (n:Nat), .fn b caps] (vi (eV f n)):=by
 refine pF func306 rfl λst=>?_
 repeat' first|apply wZ;rfl|constructor
 refine aC (X:={x:Nat//x<=n/\∀j<x,f j=0}) (λi=>((((St.nil 18 st).pv 1 (.fn b caps)).pv 7 (vi (n:Nat))).pv 8 (vi (i.1:Nat)))) (λi=>n-i.1) ⟨0,by omega,by omega⟩ ?_ λi=>?_;rotate_left;have⟨i,hi,a⟩:=i;dsimp only;by_cases d:n<=i;rw[nO (f:=f) (n:=n) λj hj=>a j (by omega)];rotate_left;have c:=hf i (by omega) a
 all_goals (repeat' first|refine⟨⟨i+1,by omega,λj hj=>by rcases zls.1 hj with q|q;exact a j q;subst q;assumption⟩,?_,?_⟩|apply wZ;rfl|omega|constructor|apply c|show(_:PV)=_;rw[nM (by omega) ‹_› a];done|apply wY;rfl|simp<;>omega|intro h;simp at h|intro h)
def gY(c:Co):Bool:=decide (c.k=0)&&decide (c.type_=1)
def iH(t:Tb)(i:Int):Bool:=decide (i>=1)&&decide (i<t.o.length)
def fZ(t:Tb)(i:Int):Co:=t.o[i.toNat]!
theorem eO(c:Co):qf 222 [.agg c.z] (vb (gY c)):=by
 refine pF func222 rfl λst=>?_
 repeat' first|apply wZ;rfl|constructor
theorem yC(t:Tb)(i:Int):qf 311 [.agg t.z,vi i] (vb (iH t i)):=by
 refine pF func311 rfl λst=>?_
 repeat' first|apply wZ;rfl|constructor|show(_:PV)=_;rw[zql];rfl;done
end Go.Proofs.YtigmnfepdlbcpaaGreatDoor
