import Derived.Test.YtcglimangneafaaGreatDoorBsRefS
import Derived.Test.YtcglimangneafaaGreatDoorAbsF
import Derived.Test.YtcglimangneafaaGreatDoorRows
import Derived.SizedLaws
import Derived.LaidMore
import Derived.LaidOnce
import Derived.LaidHandle
set_option linter.unusedSimpArgs false
set_option linter.unusedVariables false
namespace Go.Proofs.YtcglimangneafaaGreatDoor
open Go Go.Abs Go.ChangeShapes Go.WideShapes Go.ChangeAt Go.RowKit
set_option maxRecDepth 10000
theorem own :ownKnob Tryz.prog.godebug=none:=by kernel_rfl
theorem laid :laidOutB Tryz.prog=true:=by kernel_rfl
theorem full (t e:TypeId) (h:t<Tryz.prog.types.size) (hu:Tryz.prog.underlying t=some (.slice e)):0<Tryz.prog.cellsOf e:=
  of_decide_eq_true (yT (fun _ e=>decide (0<Tryz.prog.cellsOf e)) (by kernel_rfl) t e h hu)
theorem aAD (t e:TypeId) (h:t<Tryz.prog.types.size) (hu:Tryz.prog.underlying t=some (.slice e)):1≤Tryz.prog.bytesOf e:=
  of_decide_eq_true (yT (fun _ e=>decide (1≤Tryz.prog.bytesOf e)) (by kernel_rfl) t e h hu)
theorem adA {α:Type} {f:α→List PV} {Q:α→Prop} {rows:List (List PV)} (h:∀r∈rows,∃a,r=f a∧Q a):∃l:List α,rows=l.map f∧l.length=rows.length∧∀a∈l,Q a:=by
  obtain ⟨l,rfl,hl⟩:=arN h
  exact ⟨l,rfl,by simp,hl⟩
section
theorem aqX {N n:Nat} {ps:List PV} (h:bG Tryz.prog N n 47 ps):∃v:Vl,ps=v.cells:=by
  obtain ⟨m,pss,_,rfl,h2⟩:=bW aD rfl h
  cases h2 with|cons ha h2=>cases h2 with|cons hb h2=>cases h2 with|cons hc h2=>cases h2 with|nil=>
  obtain ⟨a,rfl,_⟩:=bN aD rfl ha
  obtain ⟨b,rfl,_⟩:=bN aD rfl hb
  obtain ⟨c,rfl,_⟩:=sC aD rfl hc
  exact ⟨⟨a,b,c⟩,rfl⟩
theorem apB {N n:Nat} {ps:List PV} (h:bG Tryz.prog N n 138 ps):∃v:Dt,ps=v.cells:=by
  obtain ⟨m,pss,_,rfl,h2⟩:=bW aD rfl h
  cases h2 with|cons ha h2=>cases h2 with|cons hb h2=>cases h2 with|nil=>
  obtain ⟨a,rfl,_⟩:=bN aD rfl ha
  obtain ⟨b,rfl,_⟩:=bN aD rfl hb
  exact ⟨⟨a,b⟩,rfl⟩
theorem aAj {N n:Nat} {ps:List PV} (h:bG Tryz.prog N n 166 ps):∃v:Pt,ps=v.cells:=by
  obtain ⟨m,pss,_,rfl,h2⟩:=bW aD rfl h
  cases h2 with|cons ha h2=>cases h2 with|cons hb h2=>cases h2 with|cons hc h2=>cases h2 with|cons hd h2=>cases h2 with|cons he h2=>cases h2 with|cons hf h2=>cases h2 with|cons hg h2=>cases h2 with|nil=>
  obtain ⟨a,rfl⟩:=aqX ha
  obtain ⟨b,rfl⟩:=apB hb
  obtain ⟨c,rfl,_⟩:=bN aD rfl hc
  obtain ⟨d,rfl,_⟩:=bN aD rfl hd
  obtain ⟨e,rfl⟩:=apB he
  obtain ⟨f,rfl,_⟩:=bN aD rfl hf
  obtain ⟨g,rfl⟩:=wH aD rfl hg
  exact ⟨⟨a,b,c,d,e,f,g⟩,rfl⟩
def CB (c:Cl):Prop:=c.parts.length≤reachBytes
theorem aAu {n:Nat} {ps:List PV} (h:bG Tryz.prog reachBytes n 112 ps):∃v:Cl,ps=v.cells∧CB v:=by
  obtain ⟨m,pss,_,rfl,h2⟩:=bW aD rfl h
  cases h2 with|cons ha h2=>cases h2 with|cons hb h2=>cases h2 with|cons hc h2=>cases h2 with|nil=>
  obtain ⟨a,rfl,_⟩:=bN aD rfl ha
  obtain ⟨b,rfl⟩:=aqX hb
  obtain ⟨_,rows,_,rfl,hl,hr⟩:=cQ aD rfl hc
  obtain ⟨c,rfl⟩:=nU (f:=Pt.cells) fun r hr'=>aAj (hr r hr')
  exact ⟨⟨a,b,c⟩,rfl,by show c.length≤_;simpa using hl⟩
def LB (l:Ln):Prop:=l.cells_.length≤reachBytes∧l.by_.length≤reachBytes∧∀c∈l.cells_,CB c
theorem azS {n:Nat} {ps:List PV} (h:bG Tryz.prog reachBytes n 53 ps):∃v:Ln,ps=v.cells∧LB v:=by
  obtain ⟨m,pss,_,rfl,h2⟩:=bW aD rfl h
  cases h2 with|cons ha h2=>cases h2 with|cons hb h2=>cases h2 with|cons hc h2=>cases h2 with|nil=>
  obtain ⟨a,rfl,_⟩:=bN aD rfl ha
  obtain ⟨_,rows,_,rfl,hl,hr⟩:=cQ aD rfl hb
  obtain ⟨b,rfl,hbl,hq⟩:=adA fun r hr'=>aAu (hr r hr')
  obtain ⟨_,rows2,_,rfl,hl2,hr2⟩:=cQ aD rfl hc
  obtain ⟨c,rfl⟩:=nU (f:=Dt.cells) fun r hr'=>apB (hr2 r hr')
  exact ⟨⟨a,b,c⟩,rfl,by simpa using hl,by simpa using hl2,hq⟩
def DB (d:Da):Prop:=d.lines.length≤reachBytes∧∀l∈d.lines,LB l
theorem aAd {n:Nat} {ps:List PV} (h:bG Tryz.prog reachBytes n 108 ps):∃v:Da,ps=v.cells∧DB v:=by
  obtain ⟨m,pss,_,rfl,h2⟩:=bW aD rfl h
  cases h2 with|cons hb h2=>cases h2 with|nil=>
  obtain ⟨_,rows,_,rfl,hl,hr⟩:=cQ aD rfl hb
  obtain ⟨b,rfl,hbl,hq⟩:=adA fun r hr'=>azS (hr r hr')
  exact ⟨⟨b⟩,rfl,by simpa using hl,hq⟩
def BB (b:Bs):Prop:=b.length≤reachBytes∧∀d∈b,DB d
theorem aAz {n:Nat} {ps:List PV} (h:bG Tryz.prog reachBytes n 27 ps):∃v:{b:Bs//BB b},ps=bsC v.1:=by
  obtain ⟨m,pss,_,rfl,h2⟩:=bW aD rfl h
  cases h2 with|cons hb h2=>cases h2 with|nil=>
  obtain ⟨_,rows,_,rfl,hl,hr⟩:=cQ aD rfl hb
  obtain ⟨b,rfl,hbl,hq⟩:=adA fun r hr'=>aAd (hr r hr')
  exact ⟨⟨b,by simpa using hl,hq⟩,rfl⟩
theorem LB.c {l:Ln} (h:LB l):l.cells_.length<4611686018427387904:=Nat.lt_of_le_of_lt h.1 (by decide)
theorem BB.b {b:Bs} (h:BB b):BsB b:=⟨Nat.lt_of_le_of_lt h.1 (by decide),fun d hd=>⟨Nat.lt_of_le_of_lt (h.2 d hd).1 (by decide),fun l hl=>((h.2 d hd).2 l hl).c⟩⟩
theorem asG {N:Nat} {t:TypeId} {p:PV} (ha:kH tt t=some true) (h:mY Tryz.prog N t p):∃n cs,p= .agg cs∧bG Tryz.prog N n t cs:=by
  obtain ⟨n,⟨_,cs,h1,h2⟩|⟨h1,_⟩⟩:=h
  · exact ⟨n,cs,h1,h2⟩
  · rw [(bO aD ha).1] at h1;cases h1
theorem aiJ {N:Nat} {t:TypeId} {p:PV} (ha:kH tt t=some false) (h:mY Tryz.prog N t p):∃n,bG Tryz.prog N n t [p]:=by
  obtain ⟨n,⟨h1,_⟩|⟨_,h2⟩⟩:=h
  · rw [(bO aD ha).1] at h1;cases h1
  · exact ⟨n,h2⟩
end
end Go.Proofs.YtcglimangneafaaGreatDoor
namespace Go.Proofs.YtcglimangneafaaGreatDoor
open Go
set_option maxRecDepth 100000
noncomputable def wL (os:Os):World:={World.doorLaid Tryz.prog 19 os with heap:=(World.doorLaid Tryz.prog 19 os).heap.setIfInBounds 1 (.cells (Pinned.utf8FirstZ.map fun n:Nat=>Value.int .u8 (n:Int)).toArray 261 (0,0))}
theorem amR (os:Os) (args:Array Value):((wL os).forCall (fun _ _=>0) ⟨#[],args,[]⟩).Shaped Tryz.prog:=World.shaped_of_RefB (by kernel_rfl) (by kernel_rfl)
theorem ayX (os : Os) (args : Array Value) : laidMetH Tryz.prog [("unicode/utf8.acceptRanges", Rows.laid_unicode_utf8_acceptRanges), ("unicode/utf8.first", Rows.laid_unicode_utf8_first)] ((wL os).forCall (fun _ _ => 0) ⟨#[], args, []⟩).memory :=
  laidMetH_of_parts3 (fuel:=8) (laidMet_of_run' 8 (by kernel_rfl) (by kernel_rfl)) (by kernel_rfl) (by kernel_rfl)
end Go.Proofs.YtcglimangneafaaGreatDoor
