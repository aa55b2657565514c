import Derived.Test.YtddmbnddgiebgaaGreatDoorBsRefS
import Derived.Test.YtddmbnddgiebgaaGreatDoorAbsF
import Derived.Test.YtddmbnddgiebgaaGreatDoorRows
import Derived.SizedLaws
import Derived.LaidMore
import Derived.LaidOnce
import Derived.LaidHandle
import Derived.Test.YtddmbnddgiebgaaGreatDoorBsPutS
set_option linter.unusedSimpArgs false
set_option linter.unusedVariables false
namespace Go.Proofs.YtddmbnddgiebgaaGreatDoor
open Go Go.Abs Go.ChangeShapes Go.WideShapes Go.ChangeAt Go.RowKit
set_option maxRecDepth 10000
theorem own :ownKnob Tryz.prog.godebug=none:=by kernel_rfl
theorem laid :laidOutB Tryz.prog=true:=by kernel_rfl
theorem full (t e:TypeId) (h:t<Tryz.prog.types.size) (hu:Tryz.prog.underlying t=some (.slice e)):0<Tryz.prog.cellsOf e:=
  of_decide_eq_true (uX (fun _ e=>decide (0<Tryz.prog.cellsOf e)) (by kernel_rfl) t e h hu)
theorem aaY (t e:TypeId) (h:t<Tryz.prog.types.size) (hu:Tryz.prog.underlying t=some (.slice e)):1≤Tryz.prog.bytesOf e:=
  of_decide_eq_true (uX (fun _ e=>decide (1≤Tryz.prog.bytesOf e)) (by kernel_rfl) t e h hu)
theorem zC {α:Type} {f:α→List PV} {Q:α→Prop} {rows:List (List PV)} (h:∀r∈rows,∃a,r=f a∧Q a):∃l:List α,rows=l.map f∧l.length=rows.length∧∀a∈l,Q a:=by
  obtain ⟨l,rfl,hl⟩:=alK h
  exact ⟨l,rfl,by simp,hl⟩
section
theorem arE {N n:Nat} {ps:List PV} (h:bE Tryz.prog N n 72 ps):∃v:Vl,ps=v.cells:=by
  obtain ⟨m,pss,_,rfl,h2⟩:=cC aH rfl h
  cases h2 with|cons ha h2=>cases h2 with|cons hb h2=>cases h2 with|cons hc h2=>cases h2 with|nil=>
  obtain ⟨a,rfl,_⟩:=cF aH rfl ha
  obtain ⟨b,rfl,_⟩:=cF aH rfl hb
  obtain ⟨c,rfl,_⟩:=pZ aH rfl hc
  exact ⟨⟨a,b,c⟩,rfl⟩
theorem uT {N n:Nat} {ps:List PV} (h:bE Tryz.prog N n 30 ps):∃v:Dt,ps=v.cells:=by
  obtain ⟨m,pss,_,rfl,h2⟩:=cC aH rfl h
  cases h2 with|cons ha h2=>cases h2 with|cons hb h2=>cases h2 with|nil=>
  obtain ⟨a,rfl,_⟩:=cF aH rfl ha
  obtain ⟨b,rfl,_⟩:=cF aH rfl hb
  exact ⟨⟨a,b⟩,rfl⟩
theorem auE {N n:Nat} {ps:List PV} (h:bE Tryz.prog N n 130 ps):∃v:Pt,ps=v.cells:=by
  obtain ⟨m,pss,_,rfl,h2⟩:=cC aH rfl h
  cases h2 with|cons ha h2=>cases h2 with|cons hb h2=>cases h2 with|cons hc h2=>cases h2 with|cons hd h2=>cases h2 with|cons he h2=>cases h2 with|cons hf h2=>cases h2 with|cons hg h2=>cases h2 with|nil=>
  obtain ⟨a,rfl⟩:=arE ha
  obtain ⟨b,rfl⟩:=uT hb
  obtain ⟨c,rfl,_⟩:=cF aH rfl hc
  obtain ⟨d,rfl,_⟩:=cF aH rfl hd
  obtain ⟨e,rfl⟩:=uT he
  obtain ⟨f,rfl,_⟩:=cF aH rfl hf
  obtain ⟨g,rfl⟩:=sY aH rfl hg
  exact ⟨⟨a,b,c,d,e,f,g⟩,rfl⟩
def CB (c:Cl):Prop:=c.parts.length≤reachBytes
theorem auM {n:Nat} {ps:List PV} (h:bE Tryz.prog reachBytes n 75 ps):∃v:Cl,ps=v.cells∧CB v:=by
  obtain ⟨m,pss,_,rfl,h2⟩:=cC aH rfl h
  cases h2 with|cons ha h2=>cases h2 with|cons hb h2=>cases h2 with|cons hc h2=>cases h2 with|nil=>
  obtain ⟨a,rfl,_⟩:=cF aH rfl ha
  obtain ⟨b,rfl⟩:=arE hb
  obtain ⟨_,rows,_,rfl,hl,hr⟩:=cL aH rfl hc
  obtain ⟨c,rfl⟩:=mP (f:=Pt.cells) fun r hr'=>auE (hr r hr')
  exact ⟨⟨a,b,c⟩,rfl,by show c.length≤_;simpa using hl⟩
def LB (l:Ln):Prop:=l.cells_.length≤reachBytes∧l.by_.length≤reachBytes∧∀c∈l.cells_,CB c
theorem atK {n:Nat} {ps:List PV} (h:bE Tryz.prog reachBytes n 43 ps):∃v:Ln,ps=v.cells∧LB v:=by
  obtain ⟨m,pss,_,rfl,h2⟩:=cC aH rfl h
  cases h2 with|cons ha h2=>cases h2 with|cons hb h2=>cases h2 with|cons hc h2=>cases h2 with|nil=>
  obtain ⟨a,rfl,_⟩:=cF aH rfl ha
  obtain ⟨_,rows,_,rfl,hl,hr⟩:=cL aH rfl hb
  obtain ⟨b,rfl,hbl,hq⟩:=zC fun r hr'=>auM (hr r hr')
  obtain ⟨_,rows2,_,rfl,hl2,hr2⟩:=cL aH rfl hc
  obtain ⟨c,rfl⟩:=mP (f:=Dt.cells) fun r hr'=>uT (hr2 r hr')
  exact ⟨⟨a,b,c⟩,rfl,by simpa using hl,by simpa using hl2,hq⟩
def DB (d:Da):Prop:=d.lines.length≤reachBytes∧∀l∈d.lines,LB l
theorem atY {n:Nat} {ps:List PV} (h:bE Tryz.prog reachBytes n 55 ps):∃v:Da,ps=v.cells∧DB v:=by
  obtain ⟨m,pss,_,rfl,h2⟩:=cC aH rfl h
  cases h2 with|cons hb h2=>cases h2 with|nil=>
  obtain ⟨_,rows,_,rfl,hl,hr⟩:=cL aH rfl hb
  obtain ⟨b,rfl,hbl,hq⟩:=zC fun r hr'=>atK (hr r hr')
  exact ⟨⟨b⟩,rfl,by simpa using hl,hq⟩
def BB (b:Bs):Prop:=b.length≤reachBytes∧∀d∈b,DB d
theorem aaT {n:Nat} {ps:List PV} (h:bE Tryz.prog reachBytes n 27 ps):∃v:{b:Bs//BB b},ps=bsC v.1:=by
  obtain ⟨m,pss,_,rfl,h2⟩:=cC aH rfl h
  cases h2 with|cons hb h2=>cases h2 with|nil=>
  obtain ⟨_,rows,_,rfl,hl,hr⟩:=cL aH rfl hb
  obtain ⟨b,rfl,hbl,hq⟩:=zC fun r hr'=>atY (hr r hr')
  exact ⟨⟨b,by simpa using hl,hq⟩,rfl⟩
theorem LB.c {l:Ln} (h:LB l):l.cells_.length<4611686018427387904:=Nat.lt_of_le_of_lt h.1 (by decide)
theorem BB.b {b:Bs} (h:BB b):BsB b:=⟨Nat.lt_of_le_of_lt h.1 (by decide),fun d hd=>⟨Nat.lt_of_le_of_lt (h.2 d hd).1 (by decide),fun l hl=>((h.2 d hd).2 l hl).c⟩⟩
theorem jI {N n:Nat} {ps:List PV} (h:bE Tryz.prog N n 28 ps):∃v:Int×Int,ps=[(PV.val (Value.int .i64 (v.1))),(PV.val (Value.int .i64 (v.2)))]:=by
  obtain ⟨m,pss,_,rfl,hl,hr⟩:=uZ aH rfl h
  match pss,hl with
  |[x,y],_=>
    obtain ⟨a,rfl,_⟩:=cF aH rfl (hr x (by simp))
    obtain ⟨b,rfl,_⟩:=cF aH rfl (hr y (by simp))
    exact ⟨(a,b),rfl⟩
theorem eA {N:Nat} {t:TypeId} {p:PV} (ha:kQ tt t=some true) (h:oK Tryz.prog N t p):∃n cs,p= .agg cs∧bE Tryz.prog N n t cs:=by
  obtain ⟨n,⟨_,cs,h1,h2⟩|⟨h1,_⟩⟩:=h
  · exact ⟨n,cs,h1,h2⟩
  · rw [(cB aH ha).1] at h1;cases h1
end
end Go.Proofs.YtddmbnddgiebgaaGreatDoor
namespace Go.Proofs.YtddmbnddgiebgaaGreatDoor
open Go
set_option maxRecDepth 100000
noncomputable def wL (os:Os):World:={World.doorLaid Tryz.prog 19 os with heap:=(World.doorLaid Tryz.prog 19 os).heap.setIfInBounds 1 (.cells (Pinned.utf8FirstZ.map fun n:Nat=>Value.int .u8 (n:Int)).toArray 255 (0,0))}
theorem jB (os:Os) (args:Array Value):((wL os).forCall (fun _ _=>0) ⟨#[],args,[]⟩).Shaped Tryz.prog:=World.shaped_of_RefB (by kernel_rfl) (by kernel_rfl)
theorem tN (os : Os) (args : Array Value) : laidMetH Tryz.prog [("unicode/utf8.acceptRanges", Rows.laid_unicode_utf8_acceptRanges), ("unicode/utf8.first", Rows.laid_unicode_utf8_first)] ((wL os).forCall (fun _ _ => 0) ⟨#[], args, []⟩).memory :=
  laidMetH_of_parts3 (fuel:=8) (laidMet_of_run' 8 (by kernel_rfl) (by kernel_rfl)) (by kernel_rfl) (by kernel_rfl)
end Go.Proofs.YtddmbnddgiebgaaGreatDoor
namespace Go.Proofs.YtddmbnddgiebgaaGreatDoor
open Go Go.Abs Go.ChangeShapes Go.WideShapes Go.ChangeAt Go.RowKit
set_option maxRecDepth 10000
theorem atQ {N n:Nat} {ps:List PV} (h:bE Tryz.prog N n 66 ps):∃v:Co,ps=v.cells:=by
  obtain ⟨m,pss,_,rfl,h2⟩:=cC aH rfl h
  cases h2 with|cons ha h2=>cases h2 with|cons hb h2=>cases h2 with|cons hc h2=>cases h2 with|cons hd h2=>cases h2 with|nil=>
  obtain ⟨a,rfl,_⟩:=pZ aH rfl ha
  obtain ⟨b,rfl,_⟩:=cF aH rfl hb
  obtain ⟨c,rfl,_⟩:=cF aH rfl hc
  obtain ⟨d,rfl⟩:=sY aH rfl hd
  exact ⟨⟨a,b,c,d⟩,rfl⟩
theorem arI {N n t:Nat} {fs:List (TypeId×Nat)} (ht:tiK tt t=some (.struct fs)) {α:Type} {f:α→List PV} (hf:fs.map (·.1)=[3,3,3]) (mk:Int→Int→Int→α) (hm:∀a b c,f (mk a b c)=[(PV.val (Value.int .i64 (a))),(PV.val (Value.int .i64 (b))),(PV.val (Value.int .i64 (c)))]) {ps:List PV} (h:bE Tryz.prog N n t ps):∃v:α,ps=f v:=by
  obtain ⟨m,pss,_,rfl,h2⟩:=cC aH ht h
  rw [hf] at h2
  cases h2 with|cons ha h2=>cases h2 with|cons hb h2=>cases h2 with|cons hc h2=>cases h2 with|nil=>
  obtain ⟨a,rfl,_⟩:=cF aH rfl ha
  obtain ⟨b,rfl,_⟩:=cF aH rfl hb
  obtain ⟨c,rfl,_⟩:=cF aH rfl hc
  exact ⟨mk a b c,(hm a b c).symm⟩
theorem arH {n:Nat} {ps:List PV} (h:bE Tryz.prog reachBytes n 52 ps):∃v:Tb,ps=v.cells∧TbB v:=by
  obtain ⟨m,pss,_,rfl,h2⟩:=cC aH rfl h
  cases h2 with|cons ha h2=>cases h2 with|cons hb h2=>cases h2 with|cons hc h2=>cases h2 with|cons hd h2=>cases h2 with|cons he h2=>cases h2 with|cons hf h2=>cases h2 with|nil=>
  obtain ⟨a,rfl,_⟩:=pZ aH rfl ha
  obtain ⟨_,b,_,rfl,lb,hr⟩:=cL aH rfl hb
  obtain ⟨b,rfl⟩:=mP (f:=Co.cells) fun r hr'=>atQ (hr r hr')
  obtain ⟨_,c,_,rfl,lc,hr⟩:=cL aH rfl hc
  obtain ⟨c,rfl⟩:=mP (f:=I1) fun r hr'=>by
    obtain ⟨x,rfl,_⟩:=cF aH rfl (hr r hr');exact ⟨x,rfl⟩
  obtain ⟨_,d,_,rfl,ld,_⟩:=cL aH rfl hd
  obtain ⟨_,e,_,rfl,le,hr⟩:=cL aH rfl he
  obtain ⟨e,rfl⟩:=mP (f:=Fr.cells) fun r hr'=>arI rfl rfl Fr.mk (fun _ _ _=>rfl) (hr r hr')
  obtain ⟨_,f,_,rfl,lf,hr⟩:=cL aH rfl hf
  obtain ⟨f,rfl⟩:=mP (f:=Su.cells) fun r hr'=>arI rfl rfl Su.mk (fun _ _ _=>rfl) (hr r hr')
  rw [zql] at lb lc le lf
  have h:=show reachBytes<200000000000000 by decide
  exact ⟨⟨a,b,c,d,e,f⟩,rfl,⟨Nat.lt_of_le_of_lt lb h,Nat.lt_of_le_of_lt lc h,Nat.lt_of_le_of_lt ld h,Nat.lt_of_le_of_lt le h,Nat.lt_of_le_of_lt lf h⟩⟩
theorem aeS {n:Nat} {ps:List PV} (h:bE Tryz.prog reachBytes n 24 ps):∃v:{s:Sc//ScB s},ps=scC v.1:=by
  obtain ⟨m,pss,_,rfl,h2⟩:=cC aH rfl h
  cases h2 with|cons ha h2=>cases h2 with|nil=>
  obtain ⟨_,c,_,rfl,_,hr⟩:=cL aH rfl ha
  obtain ⟨c,rfl,_,hq⟩:=zC fun r hr'=>arH (hr r hr')
  exact ⟨⟨c,hq⟩,rfl⟩
theorem ahK {N n:Nat} {ps:List PV} (h:bE Tryz.prog N n 61 ps):∃v:(Int×Int)×(Int×Int),ps=[(PV.val (Value.int .i64 (v.1.1))),(PV.val (Value.int .i64 (v.1.2))),(PV.val (Value.int .i64 (v.2.1))),(PV.val (Value.int .i64 (v.2.2)))]:=by
  obtain ⟨m,pss,_,rfl,hl,hr⟩:=uZ aH rfl h
  match pss,hl with
  |[x,y],_=>
    obtain ⟨a,rfl⟩:=jI (hr x (by simp))
    obtain ⟨b,rfl⟩:=jI (hr y (by simp))
    exact ⟨(a,b),rfl⟩
theorem asM {n:Nat} {ps:List PV} (h:bE Tryz.prog reachBytes n 24 ps):∃v:{s:Sc//ScB s∧s.length<200000000000000},ps=scC v.1:=by
  obtain ⟨m,pss,_,rfl,h2⟩:=cC aH rfl h
  cases h2 with|cons ha h2=>cases h2 with|nil=>
  obtain ⟨_,c,_,rfl,lc,hr⟩:=cL aH rfl ha
  obtain ⟨c,rfl,_,hq⟩:=zC fun r hr'=>arH (hr r hr')
  rw [zql] at lc
  exact ⟨⟨c,hq,Nat.lt_of_le_of_lt lc (by decide)⟩,rfl⟩
end Go.Proofs.YtddmbnddgiebgaaGreatDoor
