import Derived.Test.YtkaliolnijkadaaGreatDoorBsRefS
import Derived.Test.YtkaliolnijkadaaGreatDoorAbsF
import Derived.Test.YtkaliolnijkadaaGreatDoorRows
import Derived.SizedLaws
import Derived.LaidMore
import Derived.LaidOnce
import Derived.LaidHandle
import Derived.Test.YtkaliolnijkadaaGreatDoorBsPutS
set_option linter.unusedSimpArgs false
set_option linter.unusedVariables false
namespace Go.Proofs.YtkaliolnijkadaaGreatDoor
open Go Go.Abs Go.ChangeShapes Go.WideShapes Go.ChangeAt Go.RowKit
set_option maxRecDepth 10000
theorem own :ownKnob Tryz.prog.godebug=none:=by kernel_rfl
theorem laid :laidOutB Tryz.prog=true:=by kernel_rfl
theorem full (t e:TypeId) (h:t<Tryz.prog.types.size) (hu:Tryz.prog.underlying t=some (.slice e)):0<Tryz.prog.cellsOf e:=
  of_decide_eq_true (rI (fun _ e=>decide (0<Tryz.prog.cellsOf e)) (by kernel_rfl) t e h hu)
theorem amG (t e:TypeId) (h:t<Tryz.prog.types.size) (hu:Tryz.prog.underlying t=some (.slice e)):1≤Tryz.prog.bytesOf e:=
  of_decide_eq_true (rI (fun _ e=>decide (1≤Tryz.prog.bytesOf e)) (by kernel_rfl) t e h hu)
theorem aaP {α:Type} {f:α→List PV} {Q:α→Prop} {rows:List (List PV)} (h:∀r∈rows,∃a,r=f a∧Q a):∃l:List α,rows=l.map f∧l.length=rows.length∧∀a∈l,Q a:=by
  obtain ⟨l,rfl,hl⟩:=afN h
  exact ⟨l,rfl,by simp,hl⟩
section
theorem akJ {N n:Nat} {ps:List PV} (h:bJ Tryz.prog N n 68 ps):∃v:Vl,ps=v.cells:=by
  obtain ⟨m,pss,_,rfl,h2⟩:=cC aG rfl h
  cases h2 with|cons ha h2=>cases h2 with|cons hb h2=>cases h2 with|cons hc h2=>cases h2 with|nil=>
  obtain ⟨a,rfl,_⟩:=cE aG rfl ha
  obtain ⟨b,rfl,_⟩:=cE aG rfl hb
  obtain ⟨c,rfl,_⟩:=nB aG rfl hc
  exact ⟨⟨a,b,c⟩,rfl⟩
theorem afU {N n:Nat} {ps:List PV} (h:bJ Tryz.prog N n 40 ps):∃v:Dt,ps=v.cells:=by
  obtain ⟨m,pss,_,rfl,h2⟩:=cC aG rfl h
  cases h2 with|cons ha h2=>cases h2 with|cons hb h2=>cases h2 with|nil=>
  obtain ⟨a,rfl,_⟩:=cE aG rfl ha
  obtain ⟨b,rfl,_⟩:=cE aG rfl hb
  exact ⟨⟨a,b⟩,rfl⟩
theorem alR {N n:Nat} {ps:List PV} (h:bJ Tryz.prog N n 107 ps):∃v:Pt,ps=v.cells:=by
  obtain ⟨m,pss,_,rfl,h2⟩:=cC aG rfl h
  cases h2 with|cons ha h2=>cases h2 with|cons hb h2=>cases h2 with|cons hc h2=>cases h2 with|cons hd h2=>cases h2 with|cons he h2=>cases h2 with|cons hf h2=>cases h2 with|cons hg h2=>cases h2 with|nil=>
  obtain ⟨a,rfl⟩:=akJ ha
  obtain ⟨b,rfl⟩:=afU hb
  obtain ⟨c,rfl,_⟩:=cE aG rfl hc
  obtain ⟨d,rfl,_⟩:=cE aG rfl hd
  obtain ⟨e,rfl⟩:=afU he
  obtain ⟨f,rfl,_⟩:=cE aG rfl hf
  obtain ⟨g,rfl⟩:=pS aG rfl hg
  exact ⟨⟨a,b,c,d,e,f,g⟩,rfl⟩
def CB (c:Cl):Prop:=c.parts.length≤reachBytes
theorem amN {n:Nat} {ps:List PV} (h:bJ Tryz.prog reachBytes n 72 ps):∃v:Cl,ps=v.cells∧CB v:=by
  obtain ⟨m,pss,_,rfl,h2⟩:=cC aG rfl h
  cases h2 with|cons ha h2=>cases h2 with|cons hb h2=>cases h2 with|cons hc h2=>cases h2 with|nil=>
  obtain ⟨a,rfl,_⟩:=cE aG rfl ha
  obtain ⟨b,rfl⟩:=akJ hb
  obtain ⟨_,rows,_,rfl,hl,hr⟩:=cH aG rfl hc
  obtain ⟨c,rfl⟩:=kF (f:=Pt.cells) fun r hr'=>alR (hr r hr')
  exact ⟨⟨a,b,c⟩,rfl,by show c.length≤_;simpa using hl⟩
def LB (l:Ln):Prop:=l.cells_.length≤reachBytes∧l.by_.length≤reachBytes∧∀c∈l.cells_,CB c
theorem alW {n:Nat} {ps:List PV} (h:bJ Tryz.prog reachBytes n 37 ps):∃v:Ln,ps=v.cells∧LB v:=by
  obtain ⟨m,pss,_,rfl,h2⟩:=cC aG rfl h
  cases h2 with|cons ha h2=>cases h2 with|cons hb h2=>cases h2 with|cons hc h2=>cases h2 with|nil=>
  obtain ⟨a,rfl,_⟩:=cE aG rfl ha
  obtain ⟨_,rows,_,rfl,hl,hr⟩:=cH aG rfl hb
  obtain ⟨b,rfl,hbl,hq⟩:=aaP fun r hr'=>amN (hr r hr')
  obtain ⟨_,rows2,_,rfl,hl2,hr2⟩:=cH aG rfl hc
  obtain ⟨c,rfl⟩:=kF (f:=Dt.cells) fun r hr'=>afU (hr2 r hr')
  exact ⟨⟨a,b,c⟩,rfl,by simpa using hl,by simpa using hl2,hq⟩
def DB (d:Da):Prop:=d.lines.length≤reachBytes∧∀l∈d.lines,LB l
theorem alS {n:Nat} {ps:List PV} (h:bJ Tryz.prog reachBytes n 57 ps):∃v:Da,ps=v.cells∧DB v:=by
  obtain ⟨m,pss,_,rfl,h2⟩:=cC aG rfl h
  cases h2 with|cons hb h2=>cases h2 with|nil=>
  obtain ⟨_,rows,_,rfl,hl,hr⟩:=cH aG rfl hb
  obtain ⟨b,rfl,hbl,hq⟩:=aaP fun r hr'=>alW (hr r hr')
  exact ⟨⟨b⟩,rfl,by simpa using hl,hq⟩
def BB (b:Bs):Prop:=b.length≤reachBytes∧∀d∈b,DB d
theorem alX {n:Nat} {ps:List PV} (h:bJ Tryz.prog reachBytes n 27 ps):∃v:{b:Bs//BB b},ps=bsC v.1:=by
  obtain ⟨m,pss,_,rfl,h2⟩:=cC aG rfl h
  cases h2 with|cons hb h2=>cases h2 with|nil=>
  obtain ⟨_,rows,_,rfl,hl,hr⟩:=cH aG rfl hb
  obtain ⟨b,rfl,hbl,hq⟩:=aaP fun r hr'=>alS (hr r hr')
  exact ⟨⟨b,by simpa using hl,hq⟩,rfl⟩
theorem LB.c {l:Ln} (h:LB l):l.cells_.length<4611686018427387904:=Nat.lt_of_le_of_lt h.1 (by decide)
theorem BB.b {b:Bs} (h:BB b):BsB b:=⟨Nat.lt_of_le_of_lt h.1 (by decide),fun d hd=>⟨Nat.lt_of_le_of_lt (h.2 d hd).1 (by decide),fun l hl=>((h.2 d hd).2 l hl).c⟩⟩
theorem ahU {N:Nat} {t:TypeId} {p:PV} (ha:kT tt t=some true) (h:lR Tryz.prog N t p):∃n cs,p= .agg cs∧bJ Tryz.prog N n t cs:=by
  obtain ⟨n,⟨_,cs,h1,h2⟩|⟨h1,_⟩⟩:=h
  · exact ⟨n,cs,h1,h2⟩
  · rw [(bR aG ha).1] at h1;cases h1
end
end Go.Proofs.YtkaliolnijkadaaGreatDoor
namespace Go.Proofs.YtkaliolnijkadaaGreatDoor
open Go
set_option maxRecDepth 100000
noncomputable def wL (os:Os):World:={World.doorLaid Tryz.prog 19 os with heap:=(World.doorLaid Tryz.prog 19 os).heap.setIfInBounds 1 (.cells (Pinned.utf8FirstZ.map fun n:Nat=>Value.int .u8 (n:Int)).toArray 246 (0,0))}
theorem acA (os:Os) (args:Array Value):((wL os).forCall (fun _ _=>0) ⟨#[],args,[]⟩).Shaped Tryz.prog:=World.shaped_of_RefB (by kernel_rfl) (by kernel_rfl)
theorem akT (os:Os) (args:Array Value):laidMetH Tryz.prog Rows.baseWroteRow.laid ((wL os).forCall (fun _ _=>0) ⟨#[],args,[]⟩).memory:=
  laidMetH_of_parts3 (fuel:=8) (laidMet_of_run' 8 (by kernel_rfl) (by kernel_rfl)) (by kernel_rfl) (by kernel_rfl)
end Go.Proofs.YtkaliolnijkadaaGreatDoor
namespace Go.Proofs.YtkaliolnijkadaaGreatDoor
open Go Go.Abs Go.ChangeShapes Go.WideShapes Go.ChangeAt Go.RowKit
set_option maxRecDepth 10000
theorem amC {N n:Nat} {ps:List PV} (h:bJ Tryz.prog N n 105 ps):∃v:Co,ps=v.cells:=by
  obtain ⟨m,pss,_,rfl,h2⟩:=cC aG rfl h
  cases h2 with|cons ha h2=>cases h2 with|cons hb h2=>cases h2 with|cons hc h2=>cases h2 with|cons hd h2=>cases h2 with|nil=>
  obtain ⟨a,rfl,_⟩:=nB aG rfl ha
  obtain ⟨b,rfl,_⟩:=cE aG rfl hb
  obtain ⟨c,rfl,_⟩:=cE aG rfl hc
  obtain ⟨d,rfl⟩:=pS aG rfl hd
  exact ⟨⟨a,b,c,d⟩,rfl⟩
theorem akK {N n t:Nat} {fs:List (TypeId×Nat)} (ht:tiK tt t=some (.struct fs)) {α:Type} {f:α→List PV} (hf:fs.map (·.1)=[3,3,3]) (mk:Int→Int→Int→α) (hm:∀a b c,f (mk a b c)=[(PV.val (Value.int .i64 (a))),(PV.val (Value.int .i64 (b))),(PV.val (Value.int .i64 (c)))]) {ps:List PV} (h:bJ Tryz.prog N n t ps):∃v:α,ps=f v:=by
  obtain ⟨m,pss,_,rfl,h2⟩:=cC aG ht h
  rw [hf] at h2
  cases h2 with|cons ha h2=>cases h2 with|cons hb h2=>cases h2 with|cons hc h2=>cases h2 with|nil=>
  obtain ⟨a,rfl,_⟩:=cE aG rfl ha
  obtain ⟨b,rfl,_⟩:=cE aG rfl hb
  obtain ⟨c,rfl,_⟩:=cE aG rfl hc
  exact ⟨mk a b c,(hm a b c).symm⟩
theorem amL {n:Nat} {ps:List PV} (h:bJ Tryz.prog reachBytes n 66 ps):∃v:Tb,ps=v.cells∧TbB v:=by
  obtain ⟨m,pss,_,rfl,h2⟩:=cC aG rfl h
  cases h2 with|cons ha h2=>cases h2 with|cons hb h2=>cases h2 with|cons hc h2=>cases h2 with|cons hd h2=>cases h2 with|cons he h2=>cases h2 with|cons hf h2=>cases h2 with|nil=>
  obtain ⟨a,rfl,_⟩:=nB aG rfl ha
  obtain ⟨_,b,_,rfl,lb,hr⟩:=cH aG rfl hb
  obtain ⟨b,rfl⟩:=kF (f:=Co.cells) fun r hr'=>amC (hr r hr')
  obtain ⟨_,c,_,rfl,lc,hr⟩:=cH aG rfl hc
  obtain ⟨c,rfl⟩:=kF (f:=I1) fun r hr'=>by
    obtain ⟨x,rfl,_⟩:=cE aG rfl (hr r hr');exact ⟨x,rfl⟩
  obtain ⟨_,d,_,rfl,ld,_⟩:=cH aG rfl hd
  obtain ⟨_,e,_,rfl,le,hr⟩:=cH aG rfl he
  obtain ⟨e,rfl⟩:=kF (f:=Fr.cells) fun r hr'=>akK rfl rfl Fr.mk (fun _ _ _=>rfl) (hr r hr')
  obtain ⟨_,f,_,rfl,lf,hr⟩:=cH aG rfl hf
  obtain ⟨f,rfl⟩:=kF (f:=Su.cells) fun r hr'=>akK rfl rfl Su.mk (fun _ _ _=>rfl) (hr r hr')
  rw [List.length_map] at lb lc le lf
  have h:=show reachBytes<200000000000000 by decide
  exact ⟨⟨a,b,c,d,e,f⟩,rfl,⟨Nat.lt_of_le_of_lt lb h,Nat.lt_of_le_of_lt lc h,Nat.lt_of_le_of_lt ld h,Nat.lt_of_le_of_lt le h,Nat.lt_of_le_of_lt lf h⟩⟩
theorem alZ {n:Nat} {ps:List PV} (h:bJ Tryz.prog reachBytes n 24 ps):∃v:{s:Sc//ScB s},ps=scC v.1:=by
  obtain ⟨m,pss,_,rfl,h2⟩:=cC aG rfl h
  cases h2 with|cons ha h2=>cases h2 with|nil=>
  obtain ⟨_,c,_,rfl,_,hr⟩:=cH aG rfl ha
  obtain ⟨c,rfl,_,hq⟩:=aaP fun r hr'=>amL (hr r hr')
  exact ⟨⟨c,hq⟩,rfl⟩
end Go.Proofs.YtkaliolnijkadaaGreatDoor
