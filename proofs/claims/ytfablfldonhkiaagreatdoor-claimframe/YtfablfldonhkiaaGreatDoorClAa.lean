import Derived.Test.YtfablfldonhkiaaGreatDoorProg
import Derived.Test.YtfablfldonhkiaaGreatDoorAbsG
import Derived.Test.YtfablfldonhkiaaGreatDoorAbsI
import Derived.Shelf.Strings.SlTrimAscii
import Derived.Shelf.Sort.Plain
import Derived.Shelf.SlSortCmp.NoneTotal
import Derived.Shelf.Slices.In.SortNone
set_option linter.unusedSimpArgs false
set_option linter.unusedVariables false
namespace Go.Proofs.YtfablfldonhkiaaGreatDoor
open Go Go.Abs
section
set_option maxRecDepth 10000
set_option maxHeartbeats 4000000
abbrev z0:Option TI:=some ⟨1,false,[.nilFunc], .other,false⟩
abbrev z1:Option TI:=some ⟨1,false,[.pointer none], .other,false⟩
abbrev z2:Option TI:=some ⟨3,true,[.int .i64 0, .int .i64 0, .int .i64 0], .struct [(3,0),(3,1),(3,2)],true⟩
abbrev z3:Option TI:=some ⟨1,false,[.int .i64 0], .int .i64,true⟩
abbrev z4:Option TI:=some ⟨1,false,[.int .u8 0], .int .u8,true⟩
abbrev z5:Option TI:=some ⟨1,false,[.int .u64 0], .int .u64,true⟩
abbrev z6:Option TI:=some ⟨1,false,[.string ⟨#[]⟩], .str,true⟩
abbrev z7:Option TI:=some ⟨1,false,[.int .i32 0], .int .i32,true⟩
abbrev z8:Option TI:=some ⟨4,true,[.int .i64 0, .int .i64 0, .bool false, .int .u8 0], .struct [(2,0),(3,1),(4,2),(6,3)],true⟩
abbrev z9:Option TI:=some ⟨2,true,[.string ⟨#[]⟩, .int .u64 0], .struct [(9,0),(12,1)],false⟩
abbrev z10:Option TI:=some ⟨1,true,[.pointer none], .struct [(17,0)],false⟩
abbrev z11:Option TI:=some ⟨1,true,[.slice none 0 0], .struct [(22,0)],false⟩
abbrev z12:Option TI:=some ⟨1,true,[.slice none 0 0], .struct [(25,0)],false⟩
abbrev z13:Option TI:=some ⟨1,false,[.slice none 0 0], .slice 3,false⟩
abbrev z14:Option TI:=some ⟨1,false,[.slice none 0 0], .slice 47,false⟩
abbrev z15:Option TI:=some ⟨1,true,[.slice none 0 0], .struct [(41,0)],false⟩
abbrev z16:Option TI:=some ⟨3,true,[.int .i64 0, .slice none 0 0, .slice none 0 0], .struct [(3,0),(44,1),(45,2)],false⟩
abbrev z17:Option TI:=some ⟨6,true,[.string ⟨#[]⟩, .slice none 0 0, .slice none 0 0, .slice none 0 0, .slice none 0 0, .slice none 0 0], .struct [(9,0),(53,1),(31,2),(54,3),(55,4),(56,5)],false⟩
abbrev z18:Option TI:=some ⟨1,false,[.slice none 0 0], .slice 63,false⟩
abbrev z19:Option TI:=some ⟨3,true,[.int .i64 0, .int .i64 0, .string ⟨#[]⟩], .struct [(3,0),(3,1),(9,2)],true⟩
abbrev z20:Option TI:=some ⟨2,true,[.int .i64 0, .int .i64 0], .struct [(3,0),(3,1)],true⟩
abbrev z21:Option TI:=some ⟨11,true,[.int .i64 0, .int .i64 0, .int .i64 0, .int .i64 0, .slice none 0 0, .int .i64 0, .int .i64 0, .string ⟨#[]⟩, .int .i64 0, .int .i64 0, .int .i64 0], .struct [(3,0),(3,1),(3,2),(3,3),(60,4),(63,5),(80,8),(3,10)],false⟩
abbrev z22:Option TI:=some ⟨6,true,[.int .i64 0, .int .i64 0, .int .i64 0, .int .i64 0, .int .i64 0, .int .i64 0], .struct [(3,0),(3,1),(3,2),(3,3),(3,4),(3,5)],true⟩
abbrev z23:Option TI:=some ⟨4,true,[.int .i64 0, .int .i64 0, .int .i64 0, .int .i64 0], .arr 4 3,true⟩
abbrev z24:Option TI:=some ⟨1,false,[.map none], .map 93 4,false⟩
abbrev z25:Option TI:=some ⟨4,true,[.int .i64 0, .int .i64 0, .int .i64 0, .slice none 0 0], .struct [(30,0),(32,3)],false⟩
abbrev z26:Option TI:=some ⟨3,true,[.slice none 0 0, .slice none 0 0, .int .i64 0], .struct [(99,0),(27,1),(3,2)],false⟩
abbrev z27:Option TI:=some ⟨5,true,[.int .i64 0, .int .i64 0, .int .i64 0, .string ⟨#[]⟩, .slice none 0 0], .struct [(3,0),(63,1),(108,4)],false⟩
abbrev z28:Option TI:=some ⟨8,true,[.string ⟨#[]⟩, .slice none 0 0, .slice none 0 0, .slice none 0 0, .slice none 0 0, .slice none 0 0, .slice none 0 0, .slice none 0 0], .struct [(58,0),(116,6),(27,7)],false⟩
abbrev z29:Option TI:=some ⟨6,true,[.int .i64 0, .int .i64 0, .int .i64 0, .int .i64 0, .string ⟨#[]⟩, .slice none 0 0], .struct [(3,0),(3,1),(63,2),(54,5)],false⟩
abbrev z30:Option TI:=some ⟨4,true,[.string ⟨#[]⟩, .int .i64 0, .int .i64 0, .bool false], .struct [(9,0),(3,1),(3,2),(4,3)],true⟩
abbrev z31:Option TI:=some ⟨11,true,[.int .i64 0, .int .i64 0, .string ⟨#[]⟩, .int .i64 0, .int .i64 0, .int .i64 0, .int .i64 0, .int .i64 0, .int .i64 0, .int .i64 0, .bool false], .struct [(63,0),(80,3),(3,5),(3,6),(80,7),(3,9),(4,10)],true⟩
abbrev z32:Option TI:=some ⟨1,true,[.nilFunc], .struct [(162,0)],false⟩
abbrev z33:Option TI:=some ⟨3,true,[.int .i64 0, .bool false, .nilFunc], .struct [(3,0),(4,1),(262,2)],false⟩
abbrev z34:Option TI:=some ⟨3,true,[.int .i64 0, .int .i64 0, .int .i64 0], .struct [(3,0),(80,1)],true⟩
abbrev z35:Option TI:=some ⟨3,true,[.int .i64 0, .int .i64 0, .int .i64 0], .struct [(80,0),(3,2)],true⟩
abbrev z36:Option TI:=some ⟨2,true,[.int .u8 0, .int .u8 0], .struct [(5,0),(5,1)],true⟩
abbrev z37:Option TI:=some ⟨4,true,[.pointer none, .pointer none, .pointer none, .string ⟨#[]⟩], .struct [(17,0),(17,1),(17,2),(9,3)],false⟩
abbrev z38:Option TI:=some ⟨0,true,[], .struct [(378,0)],false⟩
abbrev z39:Option TI:=some ⟨11,true,[.int .u64 0, .int .u64 0, .int .u32 0, .int .u8 0, .int .u8 0, .int .u8 0, .int .u8 0, .nilFunc, .pointer none, .int .i32 0, .int .i32 0], .struct [(12,0),(12,1),(182,2),(382,3),(5,4),(5,5),(383,6),(384,7),(385,8),(386,9),(387,10)],false⟩
def tt :TT:=[none,z0,z3,z3,some ⟨1,false,[.bool false], .bool,true⟩,z4,z4,z8,z8,z6,z6,z6,z5,z9,z9,z1,z1,z1,z10,z10,some ⟨1,false,[.nilIface], .other,false⟩,z7,some ⟨1,false,[.slice none 0 0], .slice 58,false⟩,z11,z11,some ⟨1,false,[.slice none 0 0], .slice 43,false⟩,z12,z12,some ⟨1,false,[.slice none 0 0], .slice 82,false⟩,z2,z2,z13,z13,z0,z0,some ⟨1,false,[.slice none 0 0], .slice 86,false⟩,z3,none,z0,none,z0,z14,z15,z15,some ⟨1,false,[.slice none 0 0], .slice 110,false⟩,some ⟨1,false,[.slice none 0 0], .slice 80,false⟩,z16,z16,none,z0,z0,z0,z0,some ⟨1,false,[.slice none 0 0], .slice 132,false⟩,some ⟨1,false,[.slice none 0 0], .slice 129,false⟩,some ⟨1,false,[.slice none 0 0], .slice 66,false⟩,some ⟨1,false,[.slice none 0 0], .slice 134,false⟩,z17,z17,z18,z18,z0,z19,z19,z0,z2,z2,z0,z0,z0,z0,z0,z0,z0,z0,z0,none,z0,z0,z20,z20,z21,z21,some ⟨1,false,[.slice none 0 0], .slice 87,false⟩,z0,z22,z22,z23,z24,z24,z0,z0,some ⟨1,false,[.slice none 0 0], .slice 93,false⟩,z23,z0,z0,z25,z25,z0,z14,z26,z26,none,z0,none,z0,z0,z0,some ⟨1,false,[.slice none 0 0], .slice 149,false⟩,z27,z27,z0,z0,z0,z0,z0,some ⟨1,false,[.slice none 0 0], .slice 60,false⟩,z0,z28,z28,z0,z0,some ⟨5,true,[.nilFunc, .nilFunc, .nilFunc, .nilFunc, .nilFunc], .arr 5 120,false⟩,z0,z0,z0,z0,z0,z29,z29,z0,z30,z30,z2,z2,z0,z0,z0,z0,z0,z0,z0,z0,z0,z5,z0,z0,z0,z31,z31,z0,z0,z0,z0,some ⟨1,false,[.map none], .map 3 4,false⟩,none,z0,some ⟨1,false,[.map none], .map 3 3,false⟩,none,z0,some ⟨1,false,[.slice none 0 0], .slice 164,false⟩,z0,z0,z32,z32,z0,z0,z0,some ⟨1,false,[.slice none 0 0], .slice 31,false⟩,z0,z0,z0,z0,z0,z0,z3,none,z0,z0,z0,z0,z0,some ⟨1,false,[.int .u32 0], .int .u32,true⟩,z0,z5,z0,z0,z0,z0,z0,none,z0,z0,z0,z0,z0,z1,z0,z0,z0,z0,z0,some ⟨1,false,[.slice none 0 0], .slice 5,false⟩,z0,z0,z0,z0,z0,z0,z0,z0,z0,z0,z0,z0,z0,z0,z0,z5,z0,z0,z0,z1,z0,z0,none,z0,z0,z0,some ⟨1,false,[.map none], .map 3 31,false⟩,z0,z0,none,z0,some ⟨1,false,[.map none], .map 236 4,false⟩,z0,some ⟨2,true,[.int .i64 0, .int .i64 0], .arr 2 3,true⟩,z0,z0,z0,z0,z0,z0,z0,z0,z0,z0,some ⟨1,false,[.map none], .map 3 239,false⟩,z0,z0,z0,z0,z0,z0,z0,some ⟨1,false,[.map none], .map 303 149,false⟩,none,z0,z0,z0,z0,some ⟨6,true,[.int .i64 0, .int .i64 0, .string ⟨#[]⟩, .int .i64 0, .int .i64 0, .string ⟨#[]⟩], .arr 2 63,true⟩,z0,z33,z33,some ⟨1,false,[.map none], .map 3 264,false⟩,z0,z0,z0,z0,z0,z0,z0,z0,z0,z0,z0,z0,z34,z34,z0,z0,z0,z0,z1,none,z0,z0,z0,z0,some ⟨1,false,[.slice none 0 0], .slice 236,false⟩,z0,z0,z0,z0,z0,z0,z0,z0,z0,z0,z0,z35,z35,z0,z0,z0,z0,z0,z0,some ⟨1,false,[.map none], .map 80 3,false⟩,none,z0,some ⟨1,false,[.map none], .map 303 108,false⟩,z0,z0,z0,z0,none,z0,z0,z0,z0,z0,z0,none,none,none,z0,z0,z1,z0,z0,z0,z0,z0,z0,z0,z0,z0,z0,z0,z0,z0,z0,none,z0,z0,z0,z0,z0,z0,z0,z0,z0,z0,z0,z0,z0,z0,z0,z0,z0,some ⟨3,true,[.int .i64 0, .int .i64 0, .int .i64 0], .arr 3 3,true⟩,z0,z0,z0,none,z36,z36,some ⟨32,true,[.int .u8 0, .int .u8 0, .int .u8 0, .int .u8 0, .int .u8 0, .int .u8 0, .int .u8 0, .int .u8 0, .int .u8 0, .int .u8 0, .int .u8 0, .int .u8 0, .int .u8 0, .int .u8 0, .int .u8 0, .int .u8 0, .int .u8 0, .int .u8 0, .int .u8 0, .int .u8 0, .int .u8 0, .int .u8 0, .int .u8 0, .int .u8 0, .int .u8 0, .int .u8 0, .int .u8 0, .int .u8 0, .int .u8 0, .int .u8 0, .int .u8 0, .int .u8 0], .arr 16 369,true⟩,z0,none,z0,z0,z0,z37,z37,some ⟨0,true,[], .arr 0 16,false⟩,z38,z38,z0,z4,z4,z0,z1,z7,z7,z39,z39,z1]
theorem aS :bJ Tryz.prog tt:=aG7 (by kernel_rfl)
instance pk :Pk Tryz.prog tt:=⟨rfl,aS,by kernel_rfl⟩
abbrev e0 :ByteArray:=⟨#[]⟩
def I1 (n:Int):List PV:=[.val (.int .i64 n)]
def S1 (s:ByteArray):List PV:=[.val (.string s)]
theorem I1.elem :Elem tt 3 I1 (λa=> .val (.int .i64 a)) 1:=⟨rfl,λ_=>rfl,λ_=>rfl,λ_=>rfl,λ_=>rfl⟩
structure Vl where
 kind:Int
 n:Int
 s:ByteArray
 deriving DecidableEq,Inhabited
def Vl.cells (a:Vl):List PV:=[.val (.int .i64 (a.kind)), .val (.int .i64 (a.n)), .val (.string (a.s))]
def Vl.zero :Vl:=⟨0,0,e0⟩
theorem Vl.ext_iff (a b:Vl):a=b↔a.kind=b.kind/\a.n=b.n/\a.s=b.s:=by cases a;cases b;simp
theorem Vl.eqb (a b:Vl):(decide (a.kind=b.kind)&&(decide (a.n=b.n)&&(decide (a.s=b.s))))=decide (a=b):=by rw [Bool.eq_iff_iff];simp [Vl.ext_iff]
theorem Vl.elem :Elem tt 63 Vl.cells (λa=> .agg a.cells) 3:=⟨rfl,λ_=>rfl,λ_=>rfl,λ_=>rfl,λ_=>rfl⟩
structure Dt where
 dev:Int
 seq:Int
 deriving DecidableEq,Inhabited
def Dt.cells (a:Dt):List PV:=[.val (.int .i64 (a.dev)), .val (.int .i64 (a.seq))]
def Dt.zero :Dt:=⟨0,0⟩
theorem Dt.ext_iff (a b:Dt):a=b↔a.dev=b.dev/\a.seq=b.seq:=by cases a;cases b;simp
theorem Dt.eqb (a b:Dt):(decide (a.dev=b.dev)&&(decide (a.seq=b.seq)))=decide (a=b):=by rw [Bool.eq_iff_iff];simp [Dt.ext_iff]
theorem Dt.eqz (a:Dt):(decide (a.dev=0)&&(decide (a.seq=0)))=decide (a=Dt.zero):=by rw [Bool.eq_iff_iff];simp [Dt.ext_iff,Dt.zero]
structure Pt where
 val:Vl
 dot:Dt
 at_:Int
 time:Int
 after:Dt
 afterAt:Int
 gone:Bool
 deriving DecidableEq,Inhabited
def Pt.cells (a:Pt):List PV:=[.val (.int .i64 (a.val.kind)), .val (.int .i64 (a.val.n)), .val (.string (a.val.s)), .val (.int .i64 (a.dot.dev)), .val (.int .i64 (a.dot.seq)), .val (.int .i64 (a.at_)), .val (.int .i64 (a.time)), .val (.int .i64 (a.after.dev)), .val (.int .i64 (a.after.seq)), .val (.int .i64 (a.afterAt)), .val (.bool (a.gone))]
def Pt.zero :Pt:=⟨Vl.zero,Dt.zero,0,0,Dt.zero,0,false⟩
theorem Pt.ext_iff (a b:Pt):a=b↔a.val=b.val/\a.dot=b.dot/\a.at_=b.at_/\a.time=b.time/\a.after=b.after/\a.afterAt=b.afterAt/\a.gone=b.gone:=by cases a;cases b;simp
theorem Pt.elem :Elem tt 149 Pt.cells (λa=> .agg a.cells) 11:=⟨rfl,λ_=>rfl,λ_=>rfl,λ_=>rfl,λ_=>rfl⟩
structure Cl where
 kind:Int
 val:Vl
 parts:List Pt
 deriving DecidableEq,Inhabited
def Cl.cells (a:Cl):List PV:=[.val (.int .i64 (a.kind)), .val (.int .i64 (a.val.kind)), .val (.int .i64 (a.val.n)), .val (.string (a.val.s)), .seq ((a.parts).map Pt.cells)]
def Cl.zero :Cl:=⟨0,Vl.zero,[]⟩
theorem Cl.ext_iff (a b:Cl):a=b↔a.kind=b.kind/\a.val=b.val/\a.parts=b.parts:=by cases a;cases b;simp
theorem Cl.elem :Elem tt 110 Cl.cells (λa=> .agg a.cells) 5:=⟨rfl,λ_=>rfl,λ_=>rfl,λ_=>rfl,λ_=>rfl⟩
structure Ln where
 key:Int
 cells_:List Cl
 by_:List Dt
 deriving DecidableEq,Inhabited
def Ln.cells (a:Ln):List PV:=[.val (.int .i64 (a.key)), .seq ((a.cells_).map Cl.cells), .seq ((a.by_).map Dt.cells)]
def Ln.zero :Ln:=⟨0,[],[]⟩
theorem Ln.ext_iff (a b:Ln):a=b↔a.key=b.key/\a.cells_=b.cells_/\a.by_=b.by_:=by cases a;cases b;simp
theorem Ln.elem :Elem tt 47 Ln.cells (λa=> .agg a.cells) 3:=⟨rfl,λ_=>rfl,λ_=>rfl,λ_=>rfl,λ_=>rfl⟩
structure Da where
 lines:List Ln
 deriving DecidableEq,Inhabited
def Da.cells (a:Da):List PV:=[.seq ((a.lines).map Ln.cells)]
def Da.zero :Da:=⟨[]⟩
theorem Da.ext_iff (a b:Da):a=b↔a.lines=b.lines:=by cases a;cases b;simp
theorem Da.elem :Elem tt 43 Da.cells (λa=> .agg a.cells) 1:=⟨rfl,λ_=>rfl,λ_=>rfl,λ_=>rfl,λ_=>rfl⟩
structure Co where
 name:ByteArray
 kind:Int
 type_:Int
 null:Bool
 deriving DecidableEq,Inhabited
def Co.cells (a:Co):List PV:=[.val (.string (a.name)), .val (.int .i64 (a.kind)), .val (.int .i64 (a.type_)), .val (.bool (a.null))]
def Co.zero :Co:=⟨e0,0,0,false⟩
structure Fr where
 col:Int
 table:Int
 act:Int
 deriving DecidableEq,Inhabited
def Fr.cells (a:Fr):List PV:=[.val (.int .i64 (a.col)), .val (.int .i64 (a.table)), .val (.int .i64 (a.act))]
def Fr.zero :Fr:=⟨0,0,0⟩
structure Su where
 col:Int
 by_:Int
 max:Int
 deriving DecidableEq,Inhabited
def Su.cells (a:Su):List PV:=[.val (.int .i64 (a.col)), .val (.int .i64 (a.by_)), .val (.int .i64 (a.max))]
def Su.zero :Su:=⟨0,0,0⟩
theorem cD {st:aD} {id:Nat} {o:Option AObj} (h:st id=none):StSub st (upd (upd st id o) id none):=λj=>by
 by_cases hj:j=id
 ·subst hj;left;exact h
 ·right;rw [aB hj,aB hj]
theorem aiV :Tryz.prog.bytesOf 47=56:=by kernel_rfl
theorem axL :Tryz.prog.bytesOf 80=16:=by kernel_rfl
theorem ayR :Tryz.prog.bytesOf 63=32:=by kernel_rfl
theorem aiT :Tryz.prog.bytesOf 43=24:=by kernel_rfl
theorem awC :Tryz.prog.bytesOf 110=64:=by kernel_rfl
theorem wP :Tryz.prog.bytesOf 149=96:=by kernel_rfl
theorem sK :Tryz.prog.cellsOf 149=11:=by kernel_rfl
theorem abH :Tryz.prog.cellsOf 110=5:=by kernel_rfl
theorem rS :Tryz.prog.cellsOf 47=3:=by kernel_rfl
theorem wR :Tryz.prog.cellsOf 80=2:=by kernel_rfl
theorem vZ :Tryz.prog.cellsOf 63=3:=by kernel_rfl
theorem ajA :Tryz.prog.cellsOf 43=1:=by kernel_rfl
end
section
attribute [local irreducible] Ev PWp
set_option maxRecDepth 10000
set_option maxHeartbeats 4000000
theorem aCJ (a:Int):PF Tryz.prog 166 [(vi (a))] (vb (false)):=by
 refine pF Tryz.func166 rfl (λst=> ?_)
 (repeat' first|apply wZ;rfl|constructor|simp)
def iT (a b:Int):Int:=if a<b then-1 else if a>b then 1 else 0
theorem jW (a b:Int):PF Tryz.prog 107 [(vi (a)),(vi (b))] (vi (iT a b)):=by
 refine pF Tryz.func107 rfl (λst=> ?_)
 (repeat' first|apply wZ;rfl|constructor|(apply aCJ)|(show (_:PV)=_;(first|simp_all [iT];done|obtain rfl:a=b:=(by omega);simp [iT]))|apply wY;rfl|intro h)
def orI :List Int->Int
 |[]=>0
 |x::l=>if x=0 then orI l else x
theorem apI {l:List Int} {i:Nat} (h:i<l.length):orI (l.drop i)=if l[i]=0 then orI (l.drop (i+1)) else l[i]:=by
 rw [List.drop_eq_getElem_cons h,orI]
theorem ajP (l:List Int) (hl:l.length<4611686018427387904):PF Tryz.prog 151 [.seq (l.map I1)] (vi (orI l)):=by
 refine pF Tryz.func151 rfl (λst=> ?_)
 (repeat' first|apply wZ;rfl|constructor)
 refine aC (X:={x:Nat//x<=l.length/\orI (l.drop x)=orI l}) (λi=>(((((St.nil 18 st).pv 3 ((vi (0)))).pv 6 (.seq (l.map I1))).pv 7 ((vi ((((l.map I1)).length:Nat))))).pv 8 ((vi ((i.1:Nat)))))) (λi=>l.length-i.1) ⟨0,by omega,by simp⟩ ?_ (λi=> ?_)
 ·(repeat' first|constructor)
 obtain ⟨i,b,a⟩:=i;dsimp only
 (repeat' first|(refine ⟨⟨i+1,by omega,by rw [<-a,apI (i:=i) (by omega),zp ‹_›]⟩, ?_, ?_⟩)|apply wZ;rfl|show Cn _;constructor|exact rfl|((rw [<-a];(first|rw [apI (by omega),zn ‹_›];done|rw [List.drop_eq_nil_of_le (show l.length<=i by omega)];rfl)))|apply wI;rfl|apply gE;omega|omega|simp only [zql];omega|(intro h;simp at h)|intro h)
def byD (a b:Dt):Int:=orI [iT a.dev b.dev,iT a.seq b.seq]
theorem anE (a b:Dt):PF Tryz.prog 87 [.agg a.cells, .agg b.cells] (vi (byD a b)):=by
 have ho:=ajP [iT a.dev b.dev,iT a.seq b.seq] (by simp);refine pF Tryz.func87 rfl (λst=> ?_)
 (repeat' first|apply wZ;rfl|show Cn _;constructor|exact rfl|apply KR.mk;kernel_rfl|((first|apply (jW a.dev b.dev)|apply (jW a.seq b.seq)|apply ho))|apply wY;rfl)
def bE (a b:Dt):Bool:=decide (a.dev>b.dev)||(decide (a.dev=b.dev)&&decide (a.seq>b.seq))
theorem avV (a b:Dt):decide (byD a b>0)=bE a b:=by
 unfold byD bE iT;simp only [orI];rw [Bool.eq_iff_iff];simp only [zde,Bool.or_eq_true,zba]
 grind
theorem lK {α:Type} {f:α->Bool} {l:List α} {i:Nat} (h:i<l.length) (hf:f l[i]=true) (hn:∀j (h:j<i) (h2:j<l.length),f l[j]=false):l.findIdx? f=some i:=
 List.findIdx?_eq_some_iff_getElem.2 ⟨h,hf,λj hj=>by rw [hn j hj (by omega)];simp⟩
theorem mS {α:Type} {f:α->Bool} {l:List α} {i:Nat} (h:l.length<=i) (hn:∀j (h:j<i) (h2:j<l.length),f l[j]=false):l.findIdx? f=none:=
 List.findIdx?_eq_none_iff.2 λx hx=>by
  obtain ⟨j,hj,rfl⟩:=zgo hx
  exact hn j (by omega) hj
def cY {α:Type} (f:α->Bool) (l:List α):Int:=match l.findIdx? f with|some k=>((k:Nat):Int)|none=> -1
theorem qV {α:Type} (f:α->Bool) (l:List α):decide (cY f l>=0)=l.any f:=by
 unfold cY;cases h:l.findIdx? f with
 |none=>
  rw [List.findIdx?_eq_none_iff] at h;have:l.any f=false:=by rw [<-Bool.not_eq_true,List.any_eq_true];rintro ⟨x,hx,hf⟩;rw [h x hx] at hf;cases hf
  rw [this];rfl
 |some k=>
  obtain ⟨hk,hf,_⟩:=List.findIdx?_eq_some_iff_getElem.1 h;have:l.any f=true:=List.any_eq_true.2 ⟨_,zgm hk,hf⟩;rw [this];show decide (((k:Nat):Int)>=0)=true;rw [zde];omega
theorem aAl (b:FuncId) (caps:List PV) (f:Dt->Bool) (l:List Dt) (hl:l.length<4611686018427387904) (hf:∀p,PF Tryz.prog b ([.agg p.cells]++caps) (vb (f p))):PF Tryz.prog 193 [.seq (l.map Dt.cells), .fn b caps] (vi (cY f l)):=by
 refine pF Tryz.func193 rfl (λst=> ?_)
 (repeat' first|apply wZ;rfl|constructor)
 refine aC (X:={x:Nat//x<=l.length/\∀j (h:j<x) (c:j<l.length),f l[j]=false}) (λi=>(((((St.nil 19 st).pv 0 (.seq (l.map Dt.cells))).pv 1 (.fn b caps)).pv 7 ((vi ((((l.map Dt.cells)).length:Nat))))).pv 8 ((vi ((i.1:Nat)))))) (λi=>l.length-i.1) ⟨0,by omega,by omega⟩ ?_ (λi=> ?_)
 ·(repeat' first|constructor)
 obtain ⟨i,hi,a⟩:=i;dsimp only
 (repeat' first|(refine ⟨⟨i+1,by omega,λj d c=>by rcases zls.1 d with q|q;exact a j q c;subst q;assumption⟩, ?_, ?_⟩)|apply wZ;rfl|show Cn _;constructor|exact rfl|(apply hf)|((first|unfold cY;rw [lK ‹_› ‹_› a];done|unfold cY;rw [mS ‹_› a]))|apply wY;rfl|apply wI;rfl|apply gE;omega|omega|simp only [zql];omega|(intro h;simp at h)|intro h)
theorem agV (b:FuncId) (caps:List PV) (f:Ln->Bool) (l:List Ln) (hl:l.length<4611686018427387904) (hf:∀p,PF Tryz.prog b ([.agg p.cells]++caps) (vb (f p))):PF Tryz.prog 71 [.seq (l.map Ln.cells), .fn b caps] (vi (cY f l)):=by
 refine pF Tryz.func71 rfl (λst=> ?_)
 (repeat' first|apply wZ;rfl|constructor)
 refine aC (X:={x:Nat//x<=l.length/\∀j (h:j<x) (c:j<l.length),f l[j]=false}) (λi=>(((((St.nil 19 st).pv 0 (.seq (l.map Ln.cells))).pv 1 (.fn b caps)).pv 7 ((vi ((((l.map Ln.cells)).length:Nat))))).pv 8 ((vi ((i.1:Nat)))))) (λi=>l.length-i.1) ⟨0,by omega,by omega⟩ ?_ (λi=> ?_)
 ·(repeat' first|constructor)
 obtain ⟨i,hi,a⟩:=i;dsimp only
 (repeat' first|(refine ⟨⟨i+1,by omega,λj d c=>by rcases zls.1 d with q|q;exact a j q c;subst q;assumption⟩, ?_, ?_⟩)|apply wZ;rfl|show Cn _;constructor|exact rfl|(apply hf)|((first|unfold cY;rw [lK ‹_› ‹_› a];done|unfold cY;rw [mS ‹_› a]))|apply wY;rfl|apply wI;rfl|apply gE;omega|omega|simp only [zql];omega|(intro h;simp at h)|intro h)
theorem avA (l:List Dt) (x:Dt) (hl:l.length<4611686018427387904):PF Tryz.prog 254 [.seq (l.map Dt.cells), .agg x.cells] (vi (cY (λy=>decide (x=y)) l)):=by
 refine pF Tryz.func254 rfl (λst=> ?_)
 (repeat' first|apply wZ;rfl|constructor)
 refine aC (X:={y:Nat//y<=l.length/\∀j (h:j<y) (c:j<l.length),decide (x=l[j])=false}) (λi=>(((((St.nil 19 st).pv 0 (.seq (l.map Dt.cells))).var 3 80 (x.cells)).pv 7 ((vi ((((l.map Dt.cells)).length:Nat))))).pv 8 ((vi ((i.1:Nat)))))) (λi=>l.length-i.1) ⟨0,by omega,by omega⟩ ?_ (λi=> ?_)
 ·(repeat' first|constructor)
 obtain ⟨i,b,a⟩:=i;dsimp only
 (repeat' first|(refine ⟨⟨i+1,by omega,λj b c=>by rcases zls.1 b with q|q;exact a j q c;subst q;exact decide_eq_false (by rw [Dt.ext_iff];simp_all)⟩, ?_, ?_⟩)|apply wZ;rfl|show Cn _;constructor|exact rfl|apply KR.mk;kernel_rfl|((first|unfold cY;rw [lK (f:=λy=>decide (x=y)) ‹_› (by simp_all [Dt.ext_iff]) a];done|(unfold cY;rw [mS (f:=λy=>decide (x=y)) ‹_› a])))|apply wI;rfl|apply gE;omega|omega|simp only [zql];omega|(intro h;simp at h))
theorem afF (l:List Dt) (x:Dt) (hl:l.length<4611686018427387904):PF Tryz.prog 192 [.seq (l.map Dt.cells), .agg x.cells] (vb (l.any λy=>decide (x=y))):=by
 refine pF Tryz.func192 rfl (λst=> ?_)
 (repeat' first|apply wZ;rfl|constructor|(apply (avA l x hl))|rw [qV]|apply wY;rfl)
end
end Go.Proofs.YtfablfldonhkiaaGreatDoor
namespace Go.Proofs.YtfablfldonhkiaaGreatDoor
open Go Go.Proofs Go.Shelf
def aK2 :Ren:=⟨λx=>match x with
 |189=>59
 |125=>65
 |257=>91
 |128=>105
 |129=>106
 |294=>152
 |295=>153
 |296=>154
 |297=>155
 |298=>156
 |299=>157
 |216=>158
 |300=>159
 |301=>160
 |328=>230
 |329=>162
 |330=>163
 |331=>231
 |332=>232
 |215=>166
 |343=>294
 |n=>n,λx=>match x with
 |28=>31
 |3=>3
 |46=>144
 |0=>0
 |51=>182
 |53=>184
 |4=>4
 |183=>176
 |182=>175
 |131=>104
 |5=>5
 |9=>9
 |218=>218
 |222=>222
 |228=>284
 |229=>285
 |n=>n,λx=>x⟩
theorem aLa :Lays.n189 Tryz.prog aK2 where
 mixed:=rfl
 f125:=Tryz.func65.trans (by kernel_rfl)
 f128:=Tryz.func105.trans (by kernel_rfl)
 f129:=Tryz.func106.trans (by kernel_rfl)
 f189:=Tryz.func59.trans (by kernel_rfl)
 f215:=Tryz.func166.trans (by kernel_rfl)
 f216:=Tryz.func158.trans (by kernel_rfl)
 f257:=Tryz.func91.trans (by kernel_rfl)
 f294:=Tryz.func152.trans (by kernel_rfl)
 f295:=Tryz.func153.trans (by kernel_rfl)
 f296:=Tryz.func154.trans (by kernel_rfl)
 f297:=Tryz.func155.trans (by kernel_rfl)
 f298:=Tryz.func156.trans (by kernel_rfl)
 f299:=Tryz.func157.trans (by kernel_rfl)
 f300:=Tryz.func159.trans (by kernel_rfl)
 f301:=Tryz.func160.trans (by kernel_rfl)
 f328:=Tryz.func230.trans (by kernel_rfl)
 f329:=Tryz.func162.trans (by kernel_rfl)
 f330:=Tryz.func163.trans (by kernel_rfl)
 f331:=Tryz.func231.trans (by kernel_rfl)
 f332:=Tryz.func232.trans (by kernel_rfl)
 f343:=Tryz.func294.trans (by kernel_rfl)
 t0:=Tryz.underlying0
 a0:=Tryz.isAgg0
 z0:=Tryz.sizeOf0
 v0:=Tryz.zeroValue0
 t3:=Tryz.underlying3
 a3:=Tryz.isAgg3
 z3:=Tryz.sizeOf3
 v3:=Tryz.zeroValue3
 t4:=Tryz.underlying4
 a4:=Tryz.isAgg4
 z4:=Tryz.sizeOf4
 v4:=Tryz.zeroValue4
 t5:=Tryz.underlying5
 a5:=Tryz.isAgg5
 z5:=Tryz.sizeOf5
 v5:=Tryz.zeroValue5
 t9:=Tryz.underlying9
 a9:=Tryz.isAgg9
 z9:=Tryz.sizeOf9
 v9:=Tryz.zeroValue9
 t28:=Tryz.underlying31
 a28:=Tryz.isAgg31
 z28:=Tryz.sizeOf31
 v28:=Tryz.zeroValue31
 t46:=Tryz.underlying144
 a46:=Tryz.isAgg144
 z46:=Tryz.sizeOf144
 v46:=Tryz.zeroValue144
 t51:=Tryz.underlying182
 a51:=Tryz.isAgg182
 z51:=Tryz.sizeOf182
 v51:=Tryz.zeroValue182
 t53:=Tryz.underlying184
 a53:=Tryz.isAgg184
 z53:=Tryz.sizeOf184
 v53:=Tryz.zeroValue184
 t131:=Tryz.underlying104
 a131:=Tryz.isAgg104
 z131:=Tryz.sizeOf104
 v131:=Tryz.zeroValue104
 t182:=Tryz.underlying175
 a182:=Tryz.isAgg175
 z182:=Tryz.sizeOf175
 v182:=Tryz.zeroValue175
 t183:=Tryz.underlying176
 a183:=Tryz.isAgg176
 z183:=Tryz.sizeOf176
 v183:=Tryz.zeroValue176
 t218:=Tryz.underlying218
 a218:=Tryz.isAgg218
 z218:=Tryz.sizeOf218
 v218:=Tryz.zeroValue218
 t222:=Tryz.underlying222
 a222:=Tryz.isAgg222
 z222:=Tryz.sizeOf222
 v222:=Tryz.zeroValue222
 t228:=Tryz.underlying284
 a228:=Tryz.isAgg284
 z228:=Tryz.sizeOf284
 v228:=Tryz.zeroValue284
 t229:=Tryz.underlying285
 a229:=Tryz.isAgg285
 z229:=Tryz.sizeOf285
 v229:=Tryz.zeroValue285
def renT :Ren:=⟨λx=>match x with
 |160=>212
 |232=>285
 |231=>284
 |227=>286
 |234=>288
 |233=>287
 |236=>290
 |235=>289
 |228=>318
 |271=>321
 |151=>320
 |197=>319
 |120=>340
 |152=>339
 |260=>338
 |137=>350
 |119=>351
 |224=>343
 |225=>342
 |217=>341
 |266=>352
 |n=>n,λx=>match x with
 |9=>9
 |4=>4
 |3=>3
 |5=>5
 |117=>327
 |116=>326
 |0=>0
 |124=>330
 |21=>21
 |105=>345
 |46=>144
 |119=>367
 |139=>370
 |138=>369
 |n=>n,λx=>match x with
 |3=>1
 |4=>2
 |n=>n⟩
theorem aKX :Lays.n160 Tryz.prog renT where
 mixed:=rfl
 f119:=Tryz.func351.trans (by kernel_rfl)
 f120:=Tryz.func340.trans (by kernel_rfl)
 f137:=Tryz.func350.trans (by kernel_rfl)
 f151:=Tryz.func320.trans (by kernel_rfl)
 f152:=Tryz.func339.trans (by kernel_rfl)
 f160:=Tryz.func212.trans (by kernel_rfl)
 f197:=Tryz.func319.trans (by kernel_rfl)
 f217:=Tryz.func341.trans (by kernel_rfl)
 f224:=Tryz.func343.trans (by kernel_rfl)
 f225:=Tryz.func342.trans (by kernel_rfl)
 f227:=Tryz.func286.trans (by kernel_rfl)
 f228:=Tryz.func318.trans (by kernel_rfl)
 f231:=Tryz.func284.trans (by kernel_rfl)
 f232:=Tryz.func285.trans (by kernel_rfl)
 f233:=Tryz.func287.trans (by kernel_rfl)
 f234:=Tryz.func288.trans (by kernel_rfl)
 f235:=Tryz.func289.trans (by kernel_rfl)
 f236:=Tryz.func290.trans (by kernel_rfl)
 f260:=Tryz.func338.trans (by kernel_rfl)
 f266:=Tryz.func352.trans (by kernel_rfl)
 f271:=Tryz.func321.trans (by kernel_rfl)
 t0:=Tryz.underlying0
 a0:=Tryz.isAgg0
 z0:=Tryz.sizeOf0
 v0:=Tryz.zeroValue0
 t3:=Tryz.underlying3
 a3:=Tryz.isAgg3
 z3:=Tryz.sizeOf3
 v3:=Tryz.zeroValue3
 t4:=Tryz.underlying4
 a4:=Tryz.isAgg4
 z4:=Tryz.sizeOf4
 v4:=Tryz.zeroValue4
 t5:=Tryz.underlying5
 a5:=Tryz.isAgg5
 z5:=Tryz.sizeOf5
 v5:=Tryz.zeroValue5
 t9:=Tryz.underlying9
 a9:=Tryz.isAgg9
 z9:=Tryz.sizeOf9
 v9:=Tryz.zeroValue9
 t21:=Tryz.underlying21
 a21:=Tryz.isAgg21
 z21:=Tryz.sizeOf21
 v21:=Tryz.zeroValue21
 t46:=Tryz.underlying144
 a46:=Tryz.isAgg144
 z46:=Tryz.sizeOf144
 v46:=Tryz.zeroValue144
 t105:=Tryz.underlying345
 a105:=Tryz.isAgg345
 z105:=Tryz.sizeOf345
 v105:=Tryz.zeroValue345
 t116:=Tryz.underlying326
 a116:=Tryz.isAgg326
 z116:=Tryz.sizeOf326
 t117:=Tryz.underlying327
 a117:=Tryz.isAgg327
 z117:=Tryz.sizeOf327
 v117:=Tryz.zeroValue327
 t119:=Tryz.underlying367
 a119:=Tryz.isAgg367
 z119:=Tryz.sizeOf367
 t124:=Tryz.underlying330
 a124:=Tryz.isAgg330
 z124:=Tryz.sizeOf330
 v124:=Tryz.zeroValue330
 t138:=Tryz.underlying369
 a138:=Tryz.isAgg369
 z138:=Tryz.sizeOf369
 v138:=Tryz.zeroValue369
 t139:=Tryz.underlying370
 a139:=Tryz.isAgg370
 z139:=Tryz.sizeOf370
 v139:=Tryz.zeroValue370
 g3:=by kernel_rfl
 g4:=by kernel_rfl
def aKW :Ren:=⟨λx=>match x with
 |6=>263
 |15=>65
 |14=>307
 |28=>105
 |29=>106
 |20=>327
 |21=>328
 |22=>329
 |23=>330
 |24=>331
 |25=>332
 |26=>333
 |27=>334
 |46=>347
 |47=>162
 |48=>163
 |49=>348
 |50=>349
 |57=>354
 |n=>n,λx=>match x with
 |22=>108
 |24=>149
 |25=>316
 |3=>3
 |39=>144
 |0=>0
 |53=>182
 |55=>184
 |4=>4
 |46=>176
 |45=>175
 |50=>104
 |5=>5
 |9=>9
 |66=>218
 |70=>222
 |76=>284
 |77=>285
 |n=>n,λx=>x⟩
theorem aLd :SlLaysF0.n6 Tryz.prog aKW where
  mixed:=rfl
  f6 := ⟨ "slices.SortFunc[[]homestead/api.Part,homestead/api.Part]", by decide, Tryz.func263.trans (by kernel_rfl)⟩
  f14 := ⟨ "slices.pdqsortCmpFunc[homestead/api.Part]", by decide, Tryz.func307.trans (by kernel_rfl)⟩
  f15:=Tryz.func65.trans (by kernel_rfl)
  f20 := ⟨ "slices.insertionSortCmpFunc[homestead/api.Part]", by decide, Tryz.func327.trans (by kernel_rfl)⟩
  f21 := ⟨ "slices.heapSortCmpFunc[homestead/api.Part]", by decide, Tryz.func328.trans (by kernel_rfl)⟩
  f22 := ⟨ "slices.breakPatternsCmpFunc[homestead/api.Part]", by decide, Tryz.func329.trans (by kernel_rfl)⟩
  f23 := ⟨ "slices.choosePivotCmpFunc[homestead/api.Part]", by decide, Tryz.func330.trans (by kernel_rfl)⟩
  f24 := ⟨ "slices.reverseRangeCmpFunc[homestead/api.Part]", by decide, Tryz.func331.trans (by kernel_rfl)⟩
  f25 := ⟨ "slices.partialInsertionSortCmpFunc[homestead/api.Part]", by decide, Tryz.func332.trans (by kernel_rfl)⟩
  f26 := ⟨ "slices.partitionEqualCmpFunc[homestead/api.Part]", by decide, Tryz.func333.trans (by kernel_rfl)⟩
  f27 := ⟨ "slices.partitionCmpFunc[homestead/api.Part]", by decide, Tryz.func334.trans (by kernel_rfl)⟩
  f28:=Tryz.func105.trans (by kernel_rfl)
  f29:=Tryz.func106.trans (by kernel_rfl)
  f46 := ⟨ "slices.siftDownCmpFunc[homestead/api.Part]", by decide, Tryz.func347.trans (by kernel_rfl)⟩
  f47:=Tryz.func162.trans (by kernel_rfl)
  f48:=Tryz.func163.trans (by kernel_rfl)
  f49 := ⟨ "slices.medianAdjacentCmpFunc[homestead/api.Part]", by decide, Tryz.func348.trans (by kernel_rfl)⟩
  f50 := ⟨ "slices.medianCmpFunc[homestead/api.Part]", by decide, Tryz.func349.trans (by kernel_rfl)⟩
  f57 := ⟨ "slices.order2CmpFunc[homestead/api.Part]", by decide, Tryz.func354.trans (by kernel_rfl)⟩
  t0:=Tryz.underlying0
  a0:=Tryz.isAgg0
  z0:=Tryz.sizeOf0
  v0:=Tryz.zeroValue0
  t3:=Tryz.underlying3
  a3:=Tryz.isAgg3
  z3:=Tryz.sizeOf3
  v3:=Tryz.zeroValue3
  t4:=Tryz.underlying4
  a4:=Tryz.isAgg4
  z4:=Tryz.sizeOf4
  v4:=Tryz.zeroValue4
  t5:=Tryz.underlying5
  a5:=Tryz.isAgg5
  z5:=Tryz.sizeOf5
  v5:=Tryz.zeroValue5
  t9:=Tryz.underlying9
  a9:=Tryz.isAgg9
  z9:=Tryz.sizeOf9
  v9:=Tryz.zeroValue9
  t22:=Tryz.underlying108
  a22:=Tryz.isAgg108
  z22:=Tryz.sizeOf108
  v22:=Tryz.zeroValue108
  t25:=Tryz.underlying316
  a25:=Tryz.isAgg316
  z25:=Tryz.sizeOf316
  v25:=Tryz.zeroValue316
  t39:=Tryz.underlying144
  a39:=Tryz.isAgg144
  z39:=Tryz.sizeOf144
  v39:=Tryz.zeroValue144
  t45:=Tryz.underlying175
  a45:=Tryz.isAgg175
  z45:=Tryz.sizeOf175
  v45:=Tryz.zeroValue175
  t46:=Tryz.underlying176
  a46:=Tryz.isAgg176
  z46:=Tryz.sizeOf176
  v46:=Tryz.zeroValue176
  t50:=Tryz.underlying104
  a50:=Tryz.isAgg104
  z50:=Tryz.sizeOf104
  v50:=Tryz.zeroValue104
  t53:=Tryz.underlying182
  a53:=Tryz.isAgg182
  z53:=Tryz.sizeOf182
  v53:=Tryz.zeroValue182
  t55:=Tryz.underlying184
  a55:=Tryz.isAgg184
  z55:=Tryz.sizeOf184
  v55:=Tryz.zeroValue184
  t66:=Tryz.underlying218
  a66:=Tryz.isAgg218
  z66:=Tryz.sizeOf218
  v66:=Tryz.zeroValue218
  t70:=Tryz.underlying222
  a70:=Tryz.isAgg222
  z70:=Tryz.sizeOf222
  v70:=Tryz.zeroValue222
  t76:=Tryz.underlying284
  a76:=Tryz.isAgg284
  z76:=Tryz.sizeOf284
  v76:=Tryz.zeroValue284
  t77:=Tryz.underlying285
  a77:=Tryz.isAgg285
  z77:=Tryz.sizeOf285
  v77:=Tryz.zeroValue285
def aLc :Ren:=⟨λx=>match x with
 |6=>29
 |15=>65
 |14=>64
 |28=>105
 |29=>106
 |20=>97
 |21=>98
 |22=>99
 |23=>100
 |24=>101
 |25=>102
 |26=>103
 |27=>104
 |46=>161
 |47=>162
 |48=>163
 |49=>164
 |50=>165
 |57=>233
 |n=>n,λx=>match x with
 |22=>92
 |24=>93
 |25=>95
 |3=>3
 |39=>144
 |0=>0
 |53=>182
 |55=>184
 |4=>4
 |46=>176
 |45=>175
 |50=>104
 |5=>5
 |9=>9
 |66=>218
 |70=>222
 |76=>284
 |77=>285
 |n=>n,λx=>x⟩
theorem aLe :SlLaysF0.n6 Tryz.prog aLc where
  mixed:=rfl
  f6 := ⟨ "slices.SortFunc[[]homestead/claim.place,homestead/claim.place]", by decide, Tryz.func29.trans (by kernel_rfl)⟩
  f14 := ⟨ "slices.pdqsortCmpFunc[homestead/claim.place]", by decide, Tryz.func64.trans (by kernel_rfl)⟩
  f15:=Tryz.func65.trans (by kernel_rfl)
  f20 := ⟨ "slices.insertionSortCmpFunc[homestead/claim.place]", by decide, Tryz.func97.trans (by kernel_rfl)⟩
  f21 := ⟨ "slices.heapSortCmpFunc[homestead/claim.place]", by decide, Tryz.func98.trans (by kernel_rfl)⟩
  f22 := ⟨ "slices.breakPatternsCmpFunc[homestead/claim.place]", by decide, Tryz.func99.trans (by kernel_rfl)⟩
  f23 := ⟨ "slices.choosePivotCmpFunc[homestead/claim.place]", by decide, Tryz.func100.trans (by kernel_rfl)⟩
  f24 := ⟨ "slices.reverseRangeCmpFunc[homestead/claim.place]", by decide, Tryz.func101.trans (by kernel_rfl)⟩
  f25 := ⟨ "slices.partialInsertionSortCmpFunc[homestead/claim.place]", by decide, Tryz.func102.trans (by kernel_rfl)⟩
  f26 := ⟨ "slices.partitionEqualCmpFunc[homestead/claim.place]", by decide, Tryz.func103.trans (by kernel_rfl)⟩
  f27 := ⟨ "slices.partitionCmpFunc[homestead/claim.place]", by decide, Tryz.func104.trans (by kernel_rfl)⟩
  f28:=Tryz.func105.trans (by kernel_rfl)
  f29:=Tryz.func106.trans (by kernel_rfl)
  f46 := ⟨ "slices.siftDownCmpFunc[homestead/claim.place]", by decide, Tryz.func161.trans (by kernel_rfl)⟩
  f47:=Tryz.func162.trans (by kernel_rfl)
  f48:=Tryz.func163.trans (by kernel_rfl)
  f49 := ⟨ "slices.medianAdjacentCmpFunc[homestead/claim.place]", by decide, Tryz.func164.trans (by kernel_rfl)⟩
  f50 := ⟨ "slices.medianCmpFunc[homestead/claim.place]", by decide, Tryz.func165.trans (by kernel_rfl)⟩
  f57 := ⟨ "slices.order2CmpFunc[homestead/claim.place]", by decide, Tryz.func233.trans (by kernel_rfl)⟩
  t0:=Tryz.underlying0
  a0:=Tryz.isAgg0
  z0:=Tryz.sizeOf0
  v0:=Tryz.zeroValue0
  t3:=Tryz.underlying3
  a3:=Tryz.isAgg3
  z3:=Tryz.sizeOf3
  v3:=Tryz.zeroValue3
  t4:=Tryz.underlying4
  a4:=Tryz.isAgg4
  z4:=Tryz.sizeOf4
  v4:=Tryz.zeroValue4
  t5:=Tryz.underlying5
  a5:=Tryz.isAgg5
  z5:=Tryz.sizeOf5
  v5:=Tryz.zeroValue5
  t9:=Tryz.underlying9
  a9:=Tryz.isAgg9
  z9:=Tryz.sizeOf9
  v9:=Tryz.zeroValue9
  t22:=Tryz.underlying92
  a22:=Tryz.isAgg92
  z22:=Tryz.sizeOf92
  v22:=Tryz.zeroValue92
  t25:=Tryz.underlying95
  a25:=Tryz.isAgg95
  z25:=Tryz.sizeOf95
  v25:=Tryz.zeroValue95
  t39:=Tryz.underlying144
  a39:=Tryz.isAgg144
  z39:=Tryz.sizeOf144
  v39:=Tryz.zeroValue144
  t45:=Tryz.underlying175
  a45:=Tryz.isAgg175
  z45:=Tryz.sizeOf175
  v45:=Tryz.zeroValue175
  t46:=Tryz.underlying176
  a46:=Tryz.isAgg176
  z46:=Tryz.sizeOf176
  v46:=Tryz.zeroValue176
  t50:=Tryz.underlying104
  a50:=Tryz.isAgg104
  z50:=Tryz.sizeOf104
  v50:=Tryz.zeroValue104
  t53:=Tryz.underlying182
  a53:=Tryz.isAgg182
  z53:=Tryz.sizeOf182
  v53:=Tryz.zeroValue182
  t55:=Tryz.underlying184
  a55:=Tryz.isAgg184
  z55:=Tryz.sizeOf184
  v55:=Tryz.zeroValue184
  t66:=Tryz.underlying218
  a66:=Tryz.isAgg218
  z66:=Tryz.sizeOf218
  v66:=Tryz.zeroValue218
  t70:=Tryz.underlying222
  a70:=Tryz.isAgg222
  z70:=Tryz.sizeOf222
  v70:=Tryz.zeroValue222
  t76:=Tryz.underlying284
  a76:=Tryz.isAgg284
  z76:=Tryz.sizeOf284
  v76:=Tryz.zeroValue284
  t77:=Tryz.underlying285
  a77:=Tryz.isAgg285
  z77:=Tryz.sizeOf285
  v77:=Tryz.zeroValue285
end Go.Proofs.YtfablfldonhkiaaGreatDoor
