import Derived.Test.YtddmbnddgiebgaaGreatDoorBsRefS
import Derived.Test.YtddmbnddgiebgaaGreatDoorAbsF
import Derived.Test.YtddmbnddgiebgaaGreatDoorRows
import Derived.SizedLaws
import Derived.LaidMore
import Derived.LaidOnce
import Derived.LaidHandle
import Derived.Test.YtddmbnddgiebgaaGreatDoorBsPutS
set_option linter.unusedSimpArgs false
set_option linter.unusedVariables false
namespace Go.Proofs.YtddmbnddgiebgaaGreatDoor
open Go Go.Abs Go.ChangeShapes Go.WideShapes Go.ChangeAt Go.RowKit
set_option maxRecDepth 10000
theorem own :ownKnob Tryz.prog.godebug=none:=by kernel_rfl
theorem laid :laidOutB Tryz.prog=true:=by kernel_rfl
theorem full (t e:TypeId) (h:t<Tryz.prog.types.size) (hu:Tryz.prog.underlying t=some (.slice e)):0<Tryz.prog.cellsOf e:=
  of_decide_eq_true (vS (fun _ e=>decide (0<Tryz.prog.cellsOf e)) (by kernel_rfl) t e h hu)
theorem avW (t e:TypeId) (h:t<Tryz.prog.types.size) (hu:Tryz.prog.underlying t=some (.slice e)):1≤Tryz.prog.bytesOf e:=
  of_decide_eq_true (vS (fun _ e=>decide (1≤Tryz.prog.bytesOf e)) (by kernel_rfl) t e h hu)
theorem afS {α:Type} {f:α→List PV} {Q:α→Prop} {rows:List (List PV)} (h:∀r∈rows,∃a,r=f a∧Q a):∃l:List α,rows=l.map f∧l.length=rows.length∧∀a∈l,Q a:=by
  obtain ⟨l,rfl,hl⟩:=amJ h
  exact ⟨l,rfl,by simp,hl⟩
section
theorem asB {N n:Nat} {ps:List PV} (h:bH Tryz.prog N n 72 ps):∃v:Vl,ps=v.cells:=by
  obtain ⟨m,pss,_,rfl,h2⟩:=cF aH rfl h
  cases h2 with|cons ha h2=>cases h2 with|cons hb h2=>cases h2 with|cons hc h2=>cases h2 with|nil=>
  obtain ⟨a,rfl,_⟩:=cB aH rfl ha
  obtain ⟨b,rfl,_⟩:=cB aH rfl hb
  obtain ⟨c,rfl,_⟩:=qP aH rfl hc
  exact ⟨⟨a,b,c⟩,rfl⟩
theorem afG {N n:Nat} {ps:List PV} (h:bH Tryz.prog N n 30 ps):∃v:Dt,ps=v.cells:=by
  obtain ⟨m,pss,_,rfl,h2⟩:=cF aH rfl h
  cases h2 with|cons ha h2=>cases h2 with|cons hb h2=>cases h2 with|nil=>
  obtain ⟨a,rfl,_⟩:=cB aH rfl ha
  obtain ⟨b,rfl,_⟩:=cB aH rfl hb
  exact ⟨⟨a,b⟩,rfl⟩
theorem avG {N n:Nat} {ps:List PV} (h:bH Tryz.prog N n 130 ps):∃v:Pt,ps=v.cells:=by
  obtain ⟨m,pss,_,rfl,h2⟩:=cF aH rfl h
  cases h2 with|cons ha h2=>cases h2 with|cons hb h2=>cases h2 with|cons hc h2=>cases h2 with|cons hd h2=>cases h2 with|cons he h2=>cases h2 with|cons hf h2=>cases h2 with|cons hg h2=>cases h2 with|nil=>
  obtain ⟨a,rfl⟩:=asB ha
  obtain ⟨b,rfl⟩:=afG hb
  obtain ⟨c,rfl,_⟩:=cB aH rfl hc
  obtain ⟨d,rfl,_⟩:=cB aH rfl hd
  obtain ⟨e,rfl⟩:=afG he
  obtain ⟨f,rfl,_⟩:=cB aH rfl hf
  obtain ⟨g,rfl⟩:=tP aH rfl hg
  exact ⟨⟨a,b,c,d,e,f,g⟩,rfl⟩
def CB (c:Cl):Prop:=c.parts.length≤reachBytes
theorem avP {n:Nat} {ps:List PV} (h:bH Tryz.prog reachBytes n 75 ps):∃v:Cl,ps=v.cells∧CB v:=by
  obtain ⟨m,pss,_,rfl,h2⟩:=cF aH rfl h
  cases h2 with|cons ha h2=>cases h2 with|cons hb h2=>cases h2 with|cons hc h2=>cases h2 with|nil=>
  obtain ⟨a,rfl,_⟩:=cB aH rfl ha
  obtain ⟨b,rfl⟩:=asB hb
  obtain ⟨_,rows,_,rfl,hl,hr⟩:=cQ aH rfl hc
  obtain ⟨c,rfl⟩:=mY (f:=Pt.cells) fun r hr'=>avG (hr r hr')
  exact ⟨⟨a,b,c⟩,rfl,by show c.length≤_;simpa using hl⟩
def LB (l:Ln):Prop:=l.cells_.length≤reachBytes∧l.by_.length≤reachBytes∧∀c∈l.cells_,CB c
theorem auN {n:Nat} {ps:List PV} (h:bH Tryz.prog reachBytes n 43 ps):∃v:Ln,ps=v.cells∧LB v:=by
  obtain ⟨m,pss,_,rfl,h2⟩:=cF aH rfl h
  cases h2 with|cons ha h2=>cases h2 with|cons hb h2=>cases h2 with|cons hc h2=>cases h2 with|nil=>
  obtain ⟨a,rfl,_⟩:=cB aH rfl ha
  obtain ⟨_,rows,_,rfl,hl,hr⟩:=cQ aH rfl hb
  obtain ⟨b,rfl,hbl,hq⟩:=afS fun r hr'=>avP (hr r hr')
  obtain ⟨_,rows2,_,rfl,hl2,hr2⟩:=cQ aH rfl hc
  obtain ⟨c,rfl⟩:=mY (f:=Dt.cells) fun r hr'=>afG (hr2 r hr')
  exact ⟨⟨a,b,c⟩,rfl,by simpa using hl,by simpa using hl2,hq⟩
def DB (d:Da):Prop:=d.lines.length≤reachBytes∧∀l∈d.lines,LB l
theorem auZ {n:Nat} {ps:List PV} (h:bH Tryz.prog reachBytes n 55 ps):∃v:Da,ps=v.cells∧DB v:=by
  obtain ⟨m,pss,_,rfl,h2⟩:=cF aH rfl h
  cases h2 with|cons hb h2=>cases h2 with|nil=>
  obtain ⟨_,rows,_,rfl,hl,hr⟩:=cQ aH rfl hb
  obtain ⟨b,rfl,hbl,hq⟩:=afS fun r hr'=>auN (hr r hr')
  exact ⟨⟨b⟩,rfl,by simpa using hl,hq⟩
def BB (b:Bs):Prop:=b.length≤reachBytes∧∀d∈b,DB d
theorem avT {n:Nat} {ps:List PV} (h:bH Tryz.prog reachBytes n 27 ps):∃v:{b:Bs//BB b},ps=bsC v.1:=by
  obtain ⟨m,pss,_,rfl,h2⟩:=cF aH rfl h
  cases h2 with|cons hb h2=>cases h2 with|nil=>
  obtain ⟨_,rows,_,rfl,hl,hr⟩:=cQ aH rfl hb
  obtain ⟨b,rfl,hbl,hq⟩:=afS fun r hr'=>auZ (hr r hr')
  exact ⟨⟨b,by simpa using hl,hq⟩,rfl⟩
theorem LB.c {l:Ln} (h:LB l):l.cells_.length<4611686018427387904:=Nat.lt_of_le_of_lt h.1 (by decide)
theorem BB.b {b:Bs} (h:BB b):BsB b:=⟨Nat.lt_of_le_of_lt h.1 (by decide),fun d hd=>⟨Nat.lt_of_le_of_lt (h.2 d hd).1 (by decide),fun l hl=>((h.2 d hd).2 l hl).c⟩⟩
theorem anM {N n:Nat} {ps:List PV} (h:bH Tryz.prog N n 28 ps):∃v:Int×Int,ps=[(PV.val (Value.int .i64 (v.1))),(PV.val (Value.int .i64 (v.2)))]:=by
  obtain ⟨m,pss,_,rfl,hl,hr⟩:=ahV aH rfl h
  match pss,hl with
  |[x,y],_=>
    obtain ⟨a,rfl,_⟩:=cB aH rfl (hr x (by simp))
    obtain ⟨b,rfl,_⟩:=cB aH rfl (hr y (by simp))
    exact ⟨(a,b),rfl⟩
theorem yN {N:Nat} {t:TypeId} {p:PV} (ha:kQ tt t=some true) (h:pD Tryz.prog N t p):∃n cs,p= .agg cs∧bH Tryz.prog N n t cs:=by
  obtain ⟨n,⟨_,cs,h1,h2⟩|⟨h1,_⟩⟩:=h
  · exact ⟨n,cs,h1,h2⟩
  · rw [(bV aH ha).1] at h1;cases h1
end
end Go.Proofs.YtddmbnddgiebgaaGreatDoor
namespace Go.Proofs.YtddmbnddgiebgaaGreatDoor
open Go
set_option maxRecDepth 100000
noncomputable def wL (os:Os):World:={World.doorLaid Tryz.prog 19 os with heap:=(World.doorLaid Tryz.prog 19 os).heap.setIfInBounds 1 (.cells (Pinned.utf8FirstZ.map fun n:Nat=>Value.int .u8 (n:Int)).toArray 255 (0,0))}
theorem aiM (os:Os) (args:Array Value):((wL os).forCall (fun _ _=>0) ⟨#[],args,[]⟩).Shaped Tryz.prog:=World.shaped_of_RefB (by kernel_rfl) (by kernel_rfl)
theorem atX (os : Os) (args : Array Value) : laidMetH Tryz.prog [("unicode/utf8.acceptRanges", Rows.laid_unicode_utf8_acceptRanges), ("unicode/utf8.first", Rows.laid_unicode_utf8_first)] ((wL os).forCall (fun _ _ => 0) ⟨#[], args, []⟩).memory :=
  laidMetH_of_parts3 (fuel:=8) (laidMet_of_run' 8 (by kernel_rfl) (by kernel_rfl)) (by kernel_rfl) (by kernel_rfl)
end Go.Proofs.YtddmbnddgiebgaaGreatDoor
namespace Go.Proofs.YtddmbnddgiebgaaGreatDoor
open Go Go.Abs Go.ChangeShapes Go.WideShapes Go.ChangeAt Go.RowKit
set_option maxRecDepth 10000
theorem auS {N n:Nat} {ps:List PV} (h:bH Tryz.prog N n 66 ps):∃v:Co,ps=v.cells:=by
  obtain ⟨m,pss,_,rfl,h2⟩:=cF aH rfl h
  cases h2 with|cons ha h2=>cases h2 with|cons hb h2=>cases h2 with|cons hc h2=>cases h2 with|cons hd h2=>cases h2 with|nil=>
  obtain ⟨a,rfl,_⟩:=qP aH rfl ha
  obtain ⟨b,rfl,_⟩:=cB aH rfl hb
  obtain ⟨c,rfl,_⟩:=cB aH rfl hc
  obtain ⟨d,rfl⟩:=tP aH rfl hd
  exact ⟨⟨a,b,c,d⟩,rfl⟩
theorem asF {N n t:Nat} {fs:List (TypeId×Nat)} (ht:tiK tt t=some (.struct fs)) {α:Type} {f:α→List PV} (hf:fs.map (·.1)=[3,3,3]) (mk:Int→Int→Int→α) (hm:∀a b c,f (mk a b c)=[(PV.val (Value.int .i64 (a))),(PV.val (Value.int .i64 (b))),(PV.val (Value.int .i64 (c)))]) {ps:List PV} (h:bH Tryz.prog N n t ps):∃v:α,ps=f v:=by
  obtain ⟨m,pss,_,rfl,h2⟩:=cF aH ht h
  rw [hf] at h2
  cases h2 with|cons ha h2=>cases h2 with|cons hb h2=>cases h2 with|cons hc h2=>cases h2 with|nil=>
  obtain ⟨a,rfl,_⟩:=cB aH rfl ha
  obtain ⟨b,rfl,_⟩:=cB aH rfl hb
  obtain ⟨c,rfl,_⟩:=cB aH rfl hc
  exact ⟨mk a b c,(hm a b c).symm⟩
theorem avN {n:Nat} {ps:List PV} (h:bH Tryz.prog reachBytes n 52 ps):∃v:Tb,ps=v.cells∧TbB v:=by
  obtain ⟨m,pss,_,rfl,h2⟩:=cF aH rfl h
  cases h2 with|cons ha h2=>cases h2 with|cons hb h2=>cases h2 with|cons hc h2=>cases h2 with|cons hd h2=>cases h2 with|cons he h2=>cases h2 with|cons hf h2=>cases h2 with|nil=>
  obtain ⟨a,rfl,_⟩:=qP aH rfl ha
  obtain ⟨_,b,_,rfl,lb,hr⟩:=cQ aH rfl hb
  obtain ⟨b,rfl⟩:=mY (f:=Co.cells) fun r hr'=>auS (hr r hr')
  obtain ⟨_,c,_,rfl,lc,hr⟩:=cQ aH rfl hc
  obtain ⟨c,rfl⟩:=mY (f:=I1) fun r hr'=>by
    obtain ⟨x,rfl,_⟩:=cB aH rfl (hr r hr');exact ⟨x,rfl⟩
  obtain ⟨_,d,_,rfl,ld,_⟩:=cQ aH rfl hd
  obtain ⟨_,e,_,rfl,le,hr⟩:=cQ aH rfl he
  obtain ⟨e,rfl⟩:=mY (f:=Fr.cells) fun r hr'=>asF rfl rfl Fr.mk (fun _ _ _=>rfl) (hr r hr')
  obtain ⟨_,f,_,rfl,lf,hr⟩:=cQ aH rfl hf
  obtain ⟨f,rfl⟩:=mY (f:=Su.cells) fun r hr'=>asF rfl rfl Su.mk (fun _ _ _=>rfl) (hr r hr')
  rw [zql] at lb lc le lf
  have h:=show reachBytes<200000000000000 by decide
  exact ⟨⟨a,b,c,d,e,f⟩,rfl,⟨Nat.lt_of_le_of_lt lb h,Nat.lt_of_le_of_lt lc h,Nat.lt_of_le_of_lt ld h,Nat.lt_of_le_of_lt le h,Nat.lt_of_le_of_lt lf h⟩⟩
theorem avE {n:Nat} {ps:List PV} (h:bH Tryz.prog reachBytes n 24 ps):∃v:{s:Sc//ScB s},ps=scC v.1:=by
  obtain ⟨m,pss,_,rfl,h2⟩:=cF aH rfl h
  cases h2 with|cons ha h2=>cases h2 with|nil=>
  obtain ⟨_,c,_,rfl,_,hr⟩:=cQ aH rfl ha
  obtain ⟨c,rfl,_,hq⟩:=afS fun r hr'=>avN (hr r hr')
  exact ⟨⟨c,hq⟩,rfl⟩
end Go.Proofs.YtddmbnddgiebgaaGreatDoor
