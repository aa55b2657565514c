import Derived.Test.YtfablfldonhkiaaGreatDoorClAd
import Derived.Test.YtfablfldonhkiaaGreatDoorAbsF
import Derived.Test.YtfablfldonhkiaaGreatDoorRows
import Derived.SizedLaws
import Derived.LaidMore
import Derived.LaidOnce
import Derived.LaidHandle
import Derived.Test.YtfablfldonhkiaaGreatDoorClAa
import Derived.Test.YtfablfldonhkiaaGreatDoorAbsE
import Derived.Test.YtfablfldonhkiaaGreatDoorAbsSort
set_option linter.unusedSimpArgs false
set_option linter.unusedVariables false
namespace Go.Proofs.YtfablfldonhkiaaGreatDoor
open Go Go.Abs
section
attribute [local irreducible] Ev PWp
set_option maxRecDepth 10000
set_option maxHeartbeats 4000000
theorem aDJ {L:List Dt} {d:Dt} {q:Nat} (h:q<fP L d) (hq:q<L.length):bA L[q] d=false:=by
 unfold fP at h
 cases e:L.findIdx? λx=>bA x d with
 |none=>exact List.findIdx?_eq_none_iff.1 e _ (zgm hq)
 |some j=>rw [e] at h;simpa using (List.findIdx?_eq_some_iff_getElem.1 e).2.2 q h
theorem aCd {L:List Dt} {d:Dt} {j:Nat} (hd:fP L d=j) (hq:j<L.length):bA L[j] d=true:=by
 unfold fP at hd
 cases e:L.findIdx? λx=>bA x d with
 |none=>rw [e] at hd;simp at hd;omega
 |some q=>rw [e] at hd;simp at hd;subst hd;exact (List.findIdx?_eq_some_iff_getElem.1 e).2.1
theorem aoZ {st:aD} {id id2:Nat} {o b c:Option AObj} (hid:st id=none) (hb:b=c):StSub (upd st id2 b) (upd (upd (upd st id o) id none) id2 c):=hb▸jV hid
end
section
attribute [local irreducible] Ev PWp
set_option maxRecDepth 10000
set_option maxHeartbeats 4000000
section
variable {P:Program} {tt:TT} {l:List Oper} {d:Md} {r:List Oper} {s:St} {K:St->Prop} {t:Nat} {ty:TypeId} {pos:String} {after:Array Edge}
theorem aIr {T T2:TypeId} {x y:Operand} {a b:Int} (hx:opd s x=some (.val (.int .i64 a))) (hy:opd s y=some (.val (.int .i64 b))) (hf:bM s [x,y]=true) (hd:Nat.blt t s.n=true) (ht:cO d l r=true) (k:∀c,Ev P l d r (s.put (some t) true (.pv (.val (.int .i64 c)))) K):Ev P l d (⟨some t, .binOp .add T x y T2,ty,pos,after,none⟩::r) s K:=
 jW (c:=IntKind.i64.wrap (a+b)) rfl hx hy (λ_=> .inl ⟨rfl,rfl⟩) (by simp only [bM,zba] at hf;exact ⟨λ_=>hf.1,λ_=>hf.2.1,trivial⟩) hd ht (k _)
end
def tot (b:Bs):Nat:=(b.map λd=>d.lines.length).sum
theorem aBN {b:Bs} {i:Nat} (h:i<b.length):tot (b.take (i+1))=tot (b.take i)+b[i].lines.length:=by
 unfold tot
 rw [List.take_succ_eq_append_getElem h,List.map_append,List.sum_append];simp
theorem aHw (b:Bs) (i:Nat):tot (b.take i)<=tot b:=by
 have:tot b=tot (b.take i)+tot (b.drop i):=by
  unfold tot;rw [<-List.sum_append,<-List.map_append,List.take_append_drop]
 omega
def uZ (b:Bs):Bool:=decide (b.length<=20)&&(decide (tot b<=100)&&b.all λd=>d.lines.all fE)
theorem aHR {b:Bs} {i y:Nat} (hi:i<b.length) (hy:y<b[i].lines.length) (h:fE b[i].lines[y]=false):uZ b=false:=by
 unfold uZ
 have:(b.all λd=>d.lines.all fE)=false:=by
  rw [<-Bool.not_eq_true,zal]
  intro q
  have:=zal.1 (q _ (zgm hi)) _ (zgm hy)
  rw [h] at this;cases this
 rw [this];simp
theorem aBh (b:Bs) (hb:b.length<200000000000000) (hd:∀d∈b,d.lines.length<200000000000000/\∀l∈d.lines,l.cells_.length<4611686018427387904):PF Tryz.prog 53 [.agg (bsC b)] (vb (uZ b)):=by
 by_cases h20:¬b.length<=20
 ·have hF:uZ b=false:=by unfold uZ;rw [decide_eq_false h20];rfl
  rw [hF]
  refine pF Tryz.func53 rfl (λst=> ?_)
  focus ((repeat' first|apply wZ;rfl|show Cn _;constructor))
  refine aC (X:={x:Nat×Int//x.1<=b.length}) (λi=>((((St.nil 56 st).var 1 27 ((bsC b))).pv 3 ((vi (i.1.2)))).pv 4 ((vi ((i.1.1:Nat)))))) (λi=>b.length-i.1.1) ⟨(0,0),by simp⟩ ?_ (λi=> ?_)
  ·(repeat' first|show Cn _;constructor|exact rfl)
  obtain ⟨⟨i,n⟩,hi⟩:=i
  simp only at hi
  dsimp only
  by_cases hend:b.length<=i
  rotate_left
  have hil:i<b.length:=by omega
  have hdl:=(hd _ (zgm hil)).1
  focus ((repeat' first|((iterate 3 (apply lW aQ;(iterate 4 rfl)));apply aIr;(iterate 5 rfl);intro n')|apply wZ;rfl|show Cn _;constructor|exact rfl|apply wI;rfl|apply gE;omega|simp only [zql];omega|(intro h;simp at h)))
  refine aC (X:={x:Nat//x<=b[i].lines.length}) (λy=>(((((St.nil 56 st).var 1 27 ((bsC b))).pv 3 ((vi (n')))).pv 4 ((vi ((i:Nat))))).pv 5 ((vi ((y.1:Nat)))))) (λy=>b[i].lines.length-y.1) ⟨0,by omega⟩ ?_ (λy=> ?_)
  ·(repeat' first|show Cn _;constructor|exact rfl)
  obtain ⟨y,hy⟩:=y
  dsimp only
  by_cases hend2:b[i].lines.length<=y
  rotate_left
  have hyl:y<b[i].lines.length:=by omega
  have hs:=acM b[i].lines[y] ((hd _ (zgm hil)).2 _ (zgm hyl))
  rotate_left
  all_goals ((repeat' first|((first|refine ⟨⟨(i+1,n'),by simp only;omega⟩, ?_,by simp only;omega⟩|refine ⟨⟨y+1,by omega⟩, ?_,by simp only;omega⟩);focus ((repeat' first|show Cn _;constructor|exact rfl);done))|apply wZ;rfl|show Cn _;constructor|exact rfl|(apply hs)|show (_:PV)=_;(rw [zql,decide_eq_false (by omega)];rfl);done|apply wY;rfl|apply wI;rfl|apply gE;omega|omega|simp only [zql];omega|intro h;simp at h;omega|(intro h;simp at h)|intro h))
 replace h20:=zdn h20
 refine pF Tryz.func53 rfl (λst=> ?_)
 focus ((repeat' first|apply wZ;rfl|show Cn _;constructor))
 refine aC (X:={x:Nat×Nat//x.1<=b.length/\x.2=tot (b.take x.1)/\x.2<=x.1*200000000000000/\(x.2<=100->∀j (h:j<b.length),j<x.1->∀l∈b[j].lines,fE l=true)}) (λi=>((((St.nil 56 st).var 1 27 ((bsC b))).pv 3 ((vi ((i.1.2:Nat))))).pv 4 ((vi ((i.1.1:Nat)))))) (λi=>b.length-i.1.1) ⟨(0,0),by simp,rfl,by simp,by simp⟩ ?_ (λi=> ?_)
 ·(repeat' first|show Cn _;constructor|exact rfl)
 obtain ⟨⟨i,n⟩,hi,hn,hb2,hS⟩:=i
 simp only at hi hn hb2 hS
 dsimp only
 by_cases hend:b.length<=i
 have e:decide ((n:Int)<=100)=(decide (tot b<=100)&&b.all λd=>d.lines.all fE):=by
  rw [ztl hend] at hn
  subst hn
  by_cases q:tot b<=100
  ·rw [decide_eq_true (by omega),decide_eq_true q,Bool.true_and,eq_comm,zal]
   intro d hd'
   obtain ⟨j,hj,rfl⟩:=zgo hd'
   rw [zal]
   exact hS q j hj (by omega)
  ·rw [decide_eq_false (by omega),decide_eq_false q];rfl
 have e2:decide ((b.length:Int)<=20)=decide (b.length<=20):=by rw [decide_eq_decide];omega
 rotate_left
 have hil:i<b.length:=by omega
 obtain ⟨d1,d2⟩:=hd _ (zgm hil)
 have ht:=aBN hil
 have hF:=λy h=>aHR (y:=y) hil h
 focus ((repeat' first|apply wZ;rfl|show Cn _;constructor|exact rfl|apply wI;rfl|apply gE;omega|simp only [zql];omega|(intro h;simp at h)))
 refine aC (X:={x:Nat//x<=b[i].lines.length/\(n+b[i].lines.length<=100->∀j (h:j<b[i].lines.length),j<x->fE b[i].lines[j]=true)}) (λy=>(((((St.nil 56 st).var 1 27 ((bsC b))).pv 3 ((vi (((n+b[i].lines.length:Nat):Int))))).pv 4 ((vi ((i:Nat))))).pv 5 ((vi ((y.1:Nat)))))) (λy=>b[i].lines.length-y.1) ⟨0,by omega,by omega⟩ ?_ (λy=> ?_)
 ·(repeat' first|show Cn _;constructor|exact rfl|congr 2;rw [zql];omega)
 obtain ⟨y,hy,hyS⟩:=y
 dsimp only
 have hnx:¬(y<b[i].lines.length/\n+b[i].lines.length<=100)->(n+b[i].lines.length<=100->∀j (h:j<b.length),j<i+1->∀l∈b[j].lines,fE l=true):=λh q j hj hji l hl=>by
  rcases zls.1 hji with r|r
  ·exact hS (by omega) j hj r l hl
  ·subst r
   obtain ⟨z,hz,rfl⟩:=zgo hl
   exact hyS q z hz (by omega)
 have hn2:n+b[i].lines.length=tot (b.take (i+1)):=by omega
 by_cases hend2:b[i].lines.length<=y
 rotate_left
 have hyl:y<b[i].lines.length:=by omega
 have hs:=acM b[i].lines[y] (d2 _ (zgm hyl))
 have hF2:=hF y hyl
 have hSt:fE b[i].lines[y]=true->(n+b[i].lines.length<=100->∀j (h:j<b[i].lines.length),j<y+1->fE b[i].lines[j]=true):=λh q j hj hjy=>by
  rcases zls.1 hjy with r|r
  ·exact hyS q j hj r
  ·subst r;exact h
 generalize hG:fE b[i].lines[y]=G at*
 cases G
 rotate_left
 rotate_left
 all_goals ((repeat' first|((first|refine ⟨⟨(i+1,n+b[i].lines.length),by simp only;omega,hn2,by simp only;omega,hnx (by omega)⟩, ?_,by simp only;omega⟩|refine ⟨⟨y+1,by omega,hSt rfl⟩, ?_,by simp only;omega⟩);focus ((repeat' first|show Cn _;constructor|exact rfl);done))|apply wZ;rfl|show Cn _;constructor|exact rfl|(apply hs)|show (_:PV)=_;(first|(rw [zql];unfold uZ;rw [<-e,<-e2]);done|(rw [hF2 rfl]);done);done|apply wY;rfl|apply wI;rfl|apply gE;omega|omega|simp only [zql];omega|intro h;simp at h;omega|(intro h;simp at h)))
end
section
attribute [local irreducible] Ev PWp
set_option maxRecDepth 10000
set_option maxHeartbeats 4000000
def LnS (l:Ln):Prop:=l.by_.length<=1000/\l.cells_.length<=1000/\∀c∈l.cells_,c.parts.length<=1000
def BsS (n:Nat) (b:Bs):Prop:=b.length<=20/\∀d∈b,d.lines.length<=n/\∀l∈d.lines,LnS l
theorem aGa {l:Ln} (h:fE l=true):LnS l:=by
 unfold fE at h
 simp only [zba,zde,zal,lR] at h
 exact ⟨by omega,by omega,λc hc=>by have:=(h.1 c hc).1;omega⟩
theorem aGC {b:Bs} (h:uZ b=true):BsS 100 b:=by
 unfold uZ at h
 simp only [zba,zde,zal] at h
 obtain ⟨h1,h2,h3⟩:=h
 refine ⟨h1,λd hd=>⟨?_,λl hl=>aGa (h3 d hd l hl)⟩⟩
 obtain ⟨j,hj,rfl⟩:=zgo hd
 have e1:=aBN hj
 have e2:=aHw b (j+1)
 omega
theorem BsS.lines {n:Nat} {b:Bs} (h:BsS n b) (k:Int):(aF b k).length<=n/\∀l∈aF b k,LnS l:=by
 unfold aF
 split
 ·rename_i q
  simp only [okT,zba,zde] at q
  have hk:k.toNat<b.length:=by omega
  rw [getElem!_pos b k.toNat hk]
  exact h.2 _ (zgm hk)
 ·exact ⟨Nat.zero_le _,λl hl=>by cases hl⟩
theorem aiZ (L:List Ln) (a:Ln):(pJ L a).length<=L.length+1:=by
 unfold pJ
 split
 ·simp
 ·obtain ⟨j,hj,e,_⟩:=ajB L a.key
  rw [e,Int.toNat_natCast,arW hj];exact Nat.le_refl _
theorem BsS.p {n:Nat} {b:Bs} (h:BsS n b) (hn:n<=1000):∀d∈b,d.lines.length<1000000000000/\∀x∈d.lines,x.by_.length<1000000000000/\x.cells_.length<1000000000000/\∀c∈x.cells_,c.parts.length<1000000000000:=λd hd=>by
 obtain ⟨h1,h2⟩:=h.2 d hd
 refine ⟨by omega,λx hx=> ?_⟩
 obtain ⟨q1,q2,q3⟩:=h2 x hx
 exact ⟨by omega,by omega,λc hc=>by have:=q3 c hc;omega⟩
theorem BsS.l {n:Nat} {b:Bs} (h:BsS n b) (hn:n<=1000):b.length<100000000000/\∀d∈b,d.lines.length<100000000000:=⟨by have:=h.1;omega,λd hd=>by have:=(h.2 d hd).1;omega⟩
def BsB (b:Bs):Prop:=b.length<200000000000000/\∀d∈b,d.lines.length<200000000000000/\∀l∈d.lines,l.cells_.length<4611686018427387904
end
end Go.Proofs.YtfablfldonhkiaaGreatDoor
namespace Go.Proofs.YtfablfldonhkiaaGreatDoor
open Go Go.Abs Go.ChangeShapes Go.WideShapes Go.ChangeAt Go.RowKit
set_option maxRecDepth 10000
theorem own :ownKnob Tryz.prog.godebug=none:=by kernel_rfl
theorem laid :laidOutB Tryz.prog=true:=by kernel_rfl
theorem full (t e:TypeId) (h:t<Tryz.prog.types.size) (hu:Tryz.prog.underlying t=some (.slice e)):0<Tryz.prog.cellsOf e:=
 of_decide_eq_true (aeH (λ_ e=>decide (0<Tryz.prog.cellsOf e)) (by kernel_rfl) t e h hu)
theorem aGN (t e:TypeId) (h:t<Tryz.prog.types.size) (hu:Tryz.prog.underlying t=some (.slice e)):1<=Tryz.prog.bytesOf e:=
 of_decide_eq_true (aeH (λ_ e=>decide (1<=Tryz.prog.bytesOf e)) (by kernel_rfl) t e h hu)
theorem xQ {α:Type} {f:α->List PV} {Q:α->Prop} {rows:List (List PV)} (h:∀r∈rows,∃a,r=f a/\Q a):∃l:List α,rows=l.map f/\l.length=rows.length/\∀a∈l,Q a:=by
 obtain ⟨l,rfl,hl⟩:=aCv h
 exact ⟨l,rfl,by simp,hl⟩
section
theorem akS {N n:Nat} {ps:List PV} (h:bI Tryz.prog N n 63 ps):∃v:Vl,ps=v.cells:=by
 obtain ⟨m,pss,_,rfl,h2⟩:=bW aQ rfl h
 cases h2 with|cons ha h2=>cases h2 with|cons hb h2=>cases h2 with|cons hc h2=>cases h2 with|nil=>
 obtain ⟨a,rfl,_⟩:=bK aQ rfl ha
 obtain ⟨b,rfl,_⟩:=bK aQ rfl hb
 obtain ⟨c,rfl,_⟩:=xE aQ rfl hc
 exact ⟨⟨a,b,c⟩,rfl⟩
theorem atU {N n:Nat} {ps:List PV} (h:bI Tryz.prog N n 80 ps):∃v:Dt,ps=v.cells:=by
 obtain ⟨m,pss,_,rfl,h2⟩:=bW aQ rfl h
 cases h2 with|cons ha h2=>cases h2 with|cons hb h2=>cases h2 with|nil=>
 obtain ⟨a,rfl,_⟩:=bK aQ rfl ha
 obtain ⟨b,rfl,_⟩:=bK aQ rfl hb
 exact ⟨⟨a,b⟩,rfl⟩
theorem aIo {N n:Nat} {ps:List PV} (h:bI Tryz.prog N n 149 ps):∃v:Pt,ps=v.cells:=by
 obtain ⟨m,pss,_,rfl,h2⟩:=bW aQ rfl h
 cases h2 with|cons ha h2=>cases h2 with|cons hb h2=>cases h2 with|cons hc h2=>cases h2 with|cons hd h2=>cases h2 with|cons he h2=>cases h2 with|cons hf h2=>cases h2 with|cons hg h2=>cases h2 with|nil=>
 obtain ⟨a,rfl⟩:=akS ha
 obtain ⟨b,rfl⟩:=atU hb
 obtain ⟨c,rfl,_⟩:=bK aQ rfl hc
 obtain ⟨d,rfl,_⟩:=bK aQ rfl hd
 obtain ⟨e,rfl⟩:=atU he
 obtain ⟨f,rfl,_⟩:=bK aQ rfl hf
 obtain ⟨g,rfl⟩:=abP aQ rfl hg
 exact ⟨⟨a,b,c,d,e,f,g⟩,rfl⟩
def CB (c:Cl):Prop:=c.parts.length<=reachBytes
theorem aID {n:Nat} {ps:List PV} (h:bI Tryz.prog reachBytes n 110 ps):∃v:Cl,ps=v.cells/\CB v:=by
 obtain ⟨m,pss,_,rfl,h2⟩:=bW aQ rfl h
 cases h2 with|cons ha h2=>cases h2 with|cons hb h2=>cases h2 with|cons hc h2=>cases h2 with|nil=>
 obtain ⟨a,rfl,_⟩:=bK aQ rfl ha
 obtain ⟨b,rfl⟩:=akS hb
 obtain ⟨_,rows,_,rfl,hl,hr⟩:=cE aQ rfl hc
 obtain ⟨c,rfl⟩:=rG (f:=Pt.cells) λr hr'=>aIo (hr r hr')
 exact ⟨⟨a,b,c⟩,rfl,by show c.length<=_;simpa using hl⟩
def LB (l:Ln):Prop:=l.cells_.length<=reachBytes/\l.by_.length<=reachBytes/\∀c∈l.cells_,CB c
theorem aH8 {n:Nat} {ps:List PV} (h:bI Tryz.prog reachBytes n 47 ps):∃v:Ln,ps=v.cells/\LB v:=by
 obtain ⟨m,pss,_,rfl,h2⟩:=bW aQ rfl h
 cases h2 with|cons ha h2=>cases h2 with|cons hb h2=>cases h2 with|cons hc h2=>cases h2 with|nil=>
 obtain ⟨a,rfl,_⟩:=bK aQ rfl ha
 obtain ⟨_,rows,_,rfl,hl,hr⟩:=cE aQ rfl hb
 obtain ⟨b,rfl,hbl,hq⟩:=xQ λr hr'=>aID (hr r hr')
 obtain ⟨_,rows2,_,rfl,hl2,hr2⟩:=cE aQ rfl hc
 obtain ⟨c,rfl⟩:=rG (f:=Dt.cells) λr hr'=>atU (hr2 r hr')
 exact ⟨⟨a,b,c⟩,rfl,by simpa using hl,by simpa using hl2,hq⟩
def DB (d:Da):Prop:=d.lines.length<=reachBytes/\∀l∈d.lines,LB l
theorem aIj {n:Nat} {ps:List PV} (h:bI Tryz.prog reachBytes n 43 ps):∃v:Da,ps=v.cells/\DB v:=by
 obtain ⟨m,pss,_,rfl,h2⟩:=bW aQ rfl h
 cases h2 with|cons hb h2=>cases h2 with|nil=>
 obtain ⟨_,rows,_,rfl,hl,hr⟩:=cE aQ rfl hb
 obtain ⟨b,rfl,hbl,hq⟩:=xQ λr hr'=>aH8 (hr r hr')
 exact ⟨⟨b⟩,rfl,by simpa using hl,hq⟩
def BB (b:Bs):Prop:=b.length<=reachBytes/\∀d∈b,DB d
theorem aGL {n:Nat} {ps:List PV} (h:bI Tryz.prog reachBytes n 27 ps):∃v:{b:Bs//BB b},ps=bsC v.1:=by
 obtain ⟨m,pss,_,rfl,h2⟩:=bW aQ rfl h
 cases h2 with|cons hb h2=>cases h2 with|nil=>
 obtain ⟨_,rows,_,rfl,hl,hr⟩:=cE aQ rfl hb
 obtain ⟨b,rfl,hbl,hq⟩:=xQ λr hr'=>aIj (hr r hr')
 exact ⟨⟨b,by simpa using hl,hq⟩,rfl⟩
theorem LB.c {l:Ln} (h:LB l):l.cells_.length<4611686018427387904:=Nat.lt_of_le_of_lt h.1 (by decide)
theorem BB.b {b:Bs} (h:BB b):BsB b:=⟨Nat.lt_of_le_of_lt h.1 (by decide),λd hd=>⟨Nat.lt_of_le_of_lt (h.2 d hd).1 (by decide),λl hl=>((h.2 d hd).2 l hl).c⟩⟩
theorem wP {N:Nat} {t:TypeId} {p:PV} (ha:iY tt t=some true) (h:qL Tryz.prog N t p):∃n cs,p= .agg cs/\bI Tryz.prog N n t cs:=by
 obtain ⟨n,⟨_,cs,h1,h2⟩|⟨h1,_⟩⟩:=h
 ·exact ⟨n,cs,h1,h2⟩
 ·rw [(bZ aQ ha).1] at h1;cases h1
theorem aiJ {N:Nat} {t:TypeId} {p:PV} (ha:iY tt t=some false) (h:qL Tryz.prog N t p):∃n,bI Tryz.prog N n t [p]:=by
 obtain ⟨n,⟨h1,_⟩|⟨_,h2⟩⟩:=h
 ·rw [(bZ aQ ha).1] at h1;cases h1
 ·exact ⟨n,h2⟩
end
end Go.Proofs.YtfablfldonhkiaaGreatDoor
namespace Go.Proofs.YtfablfldonhkiaaGreatDoor
open Go
set_option maxRecDepth 100000
noncomputable def wL (os:Os):World:={World.doorLaid Tryz.prog 19 os with heap:=(World.doorLaid Tryz.prog 19 os).heap.setIfInBounds 1 (.cells (Pinned.utf8FirstZ.map λn:Nat=>Value.int .u8 (n:Int)).toArray 367 (0,0))}
theorem afA (os:Os) (args:Array Value):((wL os).forCall (λ_ _=>0) ⟨#[],args,[]⟩).Shaped Tryz.prog:=World.shaped_of_RefB (by kernel_rfl) (by kernel_rfl)
theorem aDK (os : Os) (args : Array Value) : laidMetH Tryz.prog [("unicode/utf8.acceptRanges", Rows.laid_unicode_utf8_acceptRanges), ("unicode/utf8.first", Rows.laid_unicode_utf8_first)] ((wL os).forCall (λ_ _ => 0) ⟨#[], args, []⟩).memory :=
  laidMetH_of_parts3 (fuel:=8) (laidMet_of_run' 8 (by kernel_rfl) (by kernel_rfl)) (by kernel_rfl) (by kernel_rfl)
end Go.Proofs.YtfablfldonhkiaaGreatDoor
namespace Go.Proofs.YtfablfldonhkiaaGreatDoor
open Go Go.Abs
set_option maxRecDepth 10000
set_option maxHeartbeats 4000000
theorem qA {a b c:Dt} (h1:bA b a=true) (h2:bA c b=true):bA c a=true:=by
 unfold bA at*
 simp only [Bool.or_eq_true,zba,zde] at*
 omega
theorem xF {a b:Dt} (h:bA a b=false) (hne:a≠b):bA b a=true:=by
 rw [Ne,Dt.ext_iff] at hne
 unfold bA at*
 simp only [Bool.or_eq_true,zba,zde,Bool.or_eq_false_iff,Bool.and_eq_false_iff,decide_eq_false_iff_not] at*
 omega
def awW (l:List Dt):Prop:=l.Pairwise λa b=>bA b a=true
def aAk (l:List Dt) (d:Dt):List Dt:=if d∈l then l else cD l (fP l d) [d]
theorem aCF (l:Ln) (d:Dt):cZ l d={l with by_:=aAk l.by_ d}:=by
 unfold cZ aAk
 split<;>rfl
theorem aA0 (l:List Dt) (d x:Dt):x∈aAk l d↔x=d\/x∈l:=by
 unfold aAk
 split
 ·rename_i h
  exact ⟨.inr,λq=>by rcases q with rfl|q<;>assumption⟩
 ·unfold cD
  have e:=List.take_append_drop (fP l d) l
  conv=>rhs;rw [<-e]
  simp only [zma,zms]
  grind
theorem ayA {l:List Dt} (h:awW l) (d:Dt):awW (aAk l d):=by
 unfold aAk
 split
 ·exact h
 rename_i hd
 unfold cD awW
 have e:=List.take_append_drop (fP l d) l
 have hp:=h
 unfold awW at hp
 rw [<-e,List.pairwise_append] at hp
 have hlo:∀x∈l.take (fP l d),bA d x=true:=λx hx=>by
  obtain ⟨q,hq,rfl⟩:=zgo hx
  rw [zlt] at hq
  rw [List.getElem_take]
  exact xF (aDJ (by omega) (by omega)) λq=>hd (q▸zgm _)
 have hhi:∀x∈l.drop (fP l d),bA x d=true:=λx hx=>by
  obtain ⟨q,hq,rfl⟩:=zgo hx
  rw [zld] at hq
  rw [List.getElem_drop]
  have h0:=aCd (L:=l) rfl (show fP l d<l.length by omega)
  rcases Nat.eq_zero_or_pos q with rfl|hq0
  ·exact h0
  ·exact qA h0 (List.pairwise_iff_getElem.1 h _ _ (by omega) (by omega) (by omega))
 rw [List.pairwise_append,List.pairwise_append]
 refine ⟨⟨hp.1,List.pairwise_singleton ..,λx hx y hy=> ?_⟩,hp.2.1,λx hx y hy=> ?_⟩
 ·rw [zms.1 hy];exact hlo x hx
 ·rcases zma.1 hx with q|q
  ·exact hp.2.2 x q y hy
  ·rw [zms.1 q];exact hhi y hy
def upR (l:List Dt) (k:Nat):Bool:=decide (k=0)||bA l[k]! l[k-1]!
theorem aGl {l:List Dt} (h:∀k<l.length,upR l k=true):awW l:=by
 have key:∀j (hj:j<l.length) i (hi:i<j),bA l[j] (l[i]'(by omega))=true:=by
  intro j
  induction j with
  |zero=>intro _ i hi;exact absurd hi (Nat.not_lt_zero _)
  |succ j ih=>
   intro hj i hi
   have:=h (j+1) hj
   unfold upR at this
   rw [getElem!_pos l (j+1) hj,show j+1-1=j from rfl,getElem!_pos l j (by omega)] at this
   have this:bA l[j+1] l[j]=true:=by simpa using this
   rcases zls.1 hi with q|q
   ·exact qA (ih (by omega) i q) this
   ·subst q;exact this
 exact List.pairwise_iff_getElem.2 λi j hi hj hij=>key j hj i hij
end Go.Proofs.YtfablfldonhkiaaGreatDoor
namespace Go.Proofs.YtfablfldonhkiaaGreatDoor.T
open Go Go.Abs
section
set_option maxRecDepth 10000
set_option maxHeartbeats 4000000
structure Sp where
 time:Int
 dev:Int
 seq:Int
 deriving DecidableEq,Inhabited
def Sp.cells (a:Sp):List PV:=[.val (.int .i64 (a.time)), .val (.int .i64 (a.dev)), .val (.int .i64 (a.seq))]
def Sp.zero :Sp:=⟨0,0,0⟩
theorem Sp.ext_iff (a b:Sp):a=b↔a.time=b.time/\a.dev=b.dev/\a.seq=b.seq:=by cases a;cases b;simp
theorem Sp.eqb (a b:Sp):(decide (a.time=b.time)&&(decide (a.dev=b.dev)&&(decide (a.seq=b.seq))))=decide (a=b):=by rw [Bool.eq_iff_iff];simp [Sp.ext_iff]
structure Nm where
 dot:Dt
 at_:Int
 deriving DecidableEq,Inhabited
def Nm.cells (a:Nm):List PV:=[.val (.int .i64 (a.dot.dev)), .val (.int .i64 (a.dot.seq)), .val (.int .i64 (a.at_))]
def Nm.zero :Nm:=⟨Dt.zero,0⟩
theorem Nm.ext_iff (a b:Nm):a=b↔a.dot=b.dot/\a.at_=b.at_:=by cases a;cases b;simp
theorem Nm.eqb (a b:Nm):(decide (a.dot=b.dot)&&(decide (a.at_=b.at_)))=decide (a=b):=by rw [Bool.eq_iff_iff];simp [Nm.ext_iff]
theorem Nm.eqz (a:Nm):(decide (a.dot=Dt.zero)&&(decide (a.at_=0)))=decide (a=Nm.zero):=by rw [Bool.eq_iff_iff];simp [Nm.ext_iff,Nm.zero]
end
section
attribute [local irreducible] Ev PWp
set_option maxRecDepth 10000
set_option maxHeartbeats 4000000
def aH (p:Pt):Nm:=⟨p.dot,p.at_⟩
def aZ (p:Pt):Nm:=⟨p.after,p.afterAt⟩
def bJ (p:Pt):Sp:=⟨p.time,p.dot.dev,p.dot.seq⟩
def withinB (n a b:Int):Bool:=decide (n>=a)&&decide (n<=b)
def mayN (n:Nm):Bool:=(withinB n.dot.dev 1 64&&withinB n.dot.seq 1 1048576)&&withinB n.at_ 0 1999
def bV (p:Pt):Bool:=((((decide (p.val.kind=1)&&decide (p.val.s=e0))&&withinB p.val.n 0 255)&&withinB p.time 1 1125899906842624)&&mayN (aH p))&&(decide (aZ p=Nm.zero)||mayN (aZ p))
def jP (a b:Sp):Bool:=if a.time≠b.time then decide (a.time<b.time) else if a.dev≠b.dev then decide (a.dev<b.dev) else decide (a.seq<b.seq)
def eI (p q:Pt):Bool:=jP (bJ p) (bJ q)||(decide (bJ p=bJ q)&&decide (p.at_<q.at_))
theorem nM (p:Pt):PF Tryz.prog 253 [.agg p.cells] (.agg (aH p).cells):=by
 refine pF Tryz.func253 rfl (λst=> ?_)
 (repeat' first|apply wZ;rfl|show Cn _;constructor|exact rfl)
theorem pV (p:Pt):PF Tryz.prog 260 [.agg p.cells] (.agg (aZ p).cells):=by
 refine pF Tryz.func260 rfl (λst=> ?_)
 (repeat' first|apply wZ;rfl|show Cn _;constructor|exact rfl)
theorem kV (p:Pt):PF Tryz.prog 303 [.agg p.cells] (.agg (bJ p).cells):=by
 refine pF Tryz.func303 rfl (λst=> ?_)
 (repeat' first|apply wZ;rfl|show Cn _;constructor|exact rfl)
theorem qK (n a b:Int):PF Tryz.prog 299 [(vi (n)),(vi (a)),(vi (b))] (vb (withinB n a b)):=by
 refine pF Tryz.func299 rfl (λst=> ?_)
 (repeat' first|apply wZ;rfl|show Cn _;constructor|exact rfl)
theorem gK (n:Nm):PF Tryz.prog 300 [.agg n.cells] (vb (mayN n)):=by
 refine pF Tryz.func300 rfl (λst=> ?_)
 (repeat' first|apply wZ;rfl|show Cn _;constructor|exact rfl|(apply qK)|apply wY;rfl)
theorem lI (p:Pt):PF Tryz.prog 259 [.agg p.cells] (vb (bV p)):=by
 refine pF Tryz.func259 rfl (λst=> ?_)
 (repeat' first|apply wZ;rfl|show Cn _;constructor|exact rfl|((first|apply qK|apply (nM p)|apply (pV p)|apply (gK (aH p))|apply (gK (aZ p))))|show (_:PV)=_;simp only [bV,Dt.eqz,Nm.eqz];done|apply wY;rfl)
def aI4 (a:Sp):List PV:=[(vi (a.time)),(vi (a.dev)),(vi (a.seq))]
theorem mZ (a:Sp):PF Tryz.prog 346 [.agg a.cells] (.agg (aI4 a)):=by
 refine pF Tryz.func346 rfl (λst=> ?_)
 (repeat' first|apply wZ;rfl|show Cn _;constructor|exact rfl)
def cmpL :List Int->List Int->Int
 |[],[]=>0
 |[],_::_=> -1
 |_::_,[]=>1
 |a::l,b::m=>if gZ a b=0 then cmpL l m else gZ a b
theorem agB {l m:List Int} {i:Nat} (h:i<l.length) (h2:i<m.length):cmpL (l.drop i) (m.drop i)=if gZ l[i] m[i]=0 then cmpL (l.drop (i+1)) (m.drop (i+1)) else gZ l[i] m[i]:=by
 rw [List.drop_eq_getElem_cons h,List.drop_eq_getElem_cons h2,cmpL]
theorem compare_spec (l m:List Int) (hl:l.length<4611686018427387904):PF Tryz.prog 66 [.seq (l.map I1), .seq (m.map I1)] (vi (cmpL l m)):=by
 refine pF Tryz.func66 rfl (λst=> ?_)
 (repeat' first|apply wZ;rfl|show Cn _;constructor)
 refine aC (X:={x:Nat//x<=l.length/\x<=m.length/\cmpL (l.drop x) (m.drop x)=cmpL l m}) (λi=>((((((St.nil 36 st).pv 0 (.seq (l.map I1))).pv 1 (.seq (m.map I1))).pv 9 (.seq (l.map I1))).pv 10 ((vi ((((l.map I1)).length:Nat))))).pv 11 ((vi ((i.1:Nat)))))) (λi=>l.length-i.1) ⟨0,by omega,by omega,by simp⟩ ?_ (λi=> ?_)
 ·(repeat' first|show Cn _;constructor|exact rfl)
 obtain ⟨i,h1,h2,hinv⟩:=i
 dsimp only
 (repeat' first|(refine ⟨⟨i+1,by omega,by omega,by rw [<-hinv,agB (i:=i) (by omega) (by omega),zp ‹_›]⟩, ?_, ?_⟩)|apply wZ;rfl|show Cn _;constructor|exact rfl|(apply (jE _ _))|show (_:PV)=_;(rw [<-hinv];(first|rw [agB (by omega) (by omega),zn ‹_›];done|rw [List.drop_eq_nil_of_le (show l.length<=i by omega),List.drop_eq_getElem_cons (show i<m.length by omega)];rfl|rw [List.drop_eq_nil_of_le (show l.length<=i by omega),List.drop_eq_nil_of_le (show m.length<=i by omega)];rfl|rw [List.drop_eq_nil_of_le (show m.length<=i by omega),List.drop_eq_getElem_cons (show i<l.length by omega)];rfl));done|apply wY;rfl|apply wI;rfl|apply gE;omega|omega|simp only [zql];omega|(intro h;simp at h)|intro h)
def aEi (a b:Sp):Int:=if a=b then 0 else cmpL [a.time,a.dev,a.seq] [b.time,b.dev,b.seq]
theorem ayM (a b:Sp):PF Tryz.prog 324 [.agg a.cells, .agg b.cells] (vi (aEi a b)):=by
 refine pF Tryz.func324 rfl (λst=> ?_)
 (repeat' first|apply awA 5;rfl;rfl;rfl|apply awA 6;rfl;rfl;rfl|apply wZ;rfl|show Cn _;constructor|exact rfl|apply KR.mk;kernel_rfl|((first|apply (mZ a)|apply (mZ b)|apply (compare_spec [a.time,a.dev,a.seq] [b.time,b.dev,b.seq] (show 3<4611686018427387904 from by omega))))|show (_:PV)=_;(simp_all [aEi,Sp.ext_iff];done);done|apply slA pk (rows:=[a.time,a.dev,a.seq].map I1);(iterate 7 rfl);rotate_left;rfl;rfl|apply slA pk (rows:=[b.time,b.dev,b.seq].map I1);(iterate 7 rfl);rotate_left;rfl;rfl|apply wY;rfl|(intro h;simp at h))
theorem cmpI_lt (a b:Int):gZ a b<0↔a<b:=by unfold gZ;split<;>(try split)<;>omega
theorem cmpI_eq (a b:Int):gZ a b=0↔a=b:=by unfold gZ;split<;>(try split)<;>omega
theorem aAl (a b:Sp):decide (aEi a b<0)=jP a b:=by
 unfold aEi jP
 by_cases h:a=b
 ·subst h;simp
 ·rw [zn h]
  simp only [cmpL,cmpI_eq]
  by_cases h1:a.time=b.time
  ·by_cases h2:a.dev=b.dev
   ·have h3:¬a.seq=b.seq:=λe=>h ((Sp.ext_iff _ _).2 ⟨h1,h2,e⟩)
    simp [h1,h2,h3,cmpI_lt]
   ·simp [h1,h2,cmpI_lt]
  ·simp [h1,cmpI_lt]
theorem mN (a b:Sp):PF Tryz.prog 304 [.agg a.cells, .agg b.cells] (vb (jP a b)):=by
 rw [<-aAl]
 refine pF Tryz.func304 rfl (λst=> ?_)
 (repeat' first|apply wZ;rfl|show Cn _;constructor|exact rfl|(apply (ayM a b))|apply wY;rfl)
theorem aIk {f:FuncId} {args:List PV} {st:aD} {R R':PV->aD->Prop} (h:PC Tryz.prog f args st R) (hr:∀p st',R p st'->∃q,Wk p q/\R' q st'):PC Tryz.prog f args st R':=
 ⟨h.1,λw g vs hm hv=>(h.2 w g vs hm hv).mono λe w' ⟨v,r,st',g',h1,h2,h3,h4⟩=>by
  obtain ⟨q,k1,k2⟩:=hr _ _ h2
  exact ⟨v,q,st',g',h1,k2,k1 _ _ h3,h4⟩⟩
theorem Wk.und (p:PV):Wk p .und:=λ_ _ _=>by simp [Rep]
def Nm.vals (k:Nm):List Value:=[.int .i64 k.dot.dev, .int .i64 k.dot.seq, .int .i64 k.at_]
def aGy (k:Dt):List Value:=[.int .i64 k.dev, .int .i64 k.seq]
def Nm.enc (k:Nm):Value:= .agg k.vals.toArray
def auU (k:Dt):Value:= .agg (aGy k).toArray
theorem Nm.key :KeyOK Tryz.prog 303 Nm.enc (λk=> .agg k.cells):=
 uO aQ Nm.vals rfl rfl (λ_=>rfl) (λa b=>by show some ((decide (a.dot.dev=b.dot.dev)&&decide (a.dot.seq=b.dot.seq))&&decide (a.at_=b.at_))=_;rw [Dt.eqb,Nm.eqb]) (λ_=>rfl) (by kernel_rfl)
theorem aGs :KeyOK Tryz.prog 80 auU (λk=> .agg k.cells):=
 uO aQ aGy rfl rfl (λ_=>rfl) (λa b=>by show some (decide (a.dev=b.dev)&&decide (a.seq=b.seq))=_;rw [Dt.eqb]) (λ_=>rfl) (by kernel_rfl)
def ptF (p:Pt):PV:= .agg p.cells
def lT (n:Int):PV:=(vi (n))
def dO (l:List Pt):List (Nm×Pt):=l.foldl (λm p=>cL (aH p) p m) []
def eE (l:List Pt):List (Dt×Int):=l.foldl (λm p=>cL p.dot p.time m) []
def sK (m:List (Nm×Pt)) (t:List (Dt×Int)) (p:Pt):Bool:= !((bY (aH p) m).isSome|| !bV p||(match bY p.dot t with|some x=>decide (x≠p.time)|none=>false))
def jJ :List Pt->List (Nm×Pt)->List (Dt×Int)->Bool
 |[],_,_=>true
 |p::r,m,t=>sK m t p&&jJ r (cL (aH p) p m) (cL p.dot p.time t)
def azN (m:List (Nm×Pt)) (p:Pt):Bool:=decide (aZ p=Nm.zero)||(match bY (aZ p) m with|some u=>eI u p|none=>false)
def fX (l:List Pt):Bool:=jJ l [] []&&l.all (azN (dO l))
theorem agM {l:List Pt} {i:Nat} (h:i<l.length):dO (l.take (i+1))=cL (aH l[i]) l[i] (dO (l.take i)):=by
 rw [List.take_succ_eq_append_getElem h,dO,List.foldl_append];rfl
theorem ahD {l:List Pt} {i:Nat} (h:i<l.length):eE (l.take (i+1))=cL l[i].dot l[i].time (eE (l.take i)):=by
 rw [List.take_succ_eq_append_getElem h,eE,List.foldl_append];rfl
theorem alN {l:List Pt} {i:Nat} (h:i<l.length) {m t}:jJ (l.drop i) m t=(sK m t l[i]&&jJ (l.drop (i+1)) (cL (aH l[i]) l[i] m) (cL l[i].dot l[i].time t)):=by
 rw [List.drop_eq_getElem_cons h];rfl
theorem nJ (p q:Pt):PF Tryz.prog 261 [.agg p.cells, .agg q.cells] (vb (eI p q)):=by
 refine pF Tryz.func261 rfl (λst=> ?_)
 (repeat' first|apply wZ;rfl|show Cn _;constructor|exact rfl|apply KR.mk;kernel_rfl|((first|apply (kV p)|apply (kV q)|apply (mN (bJ p) (bJ q))))|show (_:PV)=_;simp only [eI,Sp.eqb];done|apply wY;rfl)
theorem aDP (l:List Pt) (st:aD) (hl:l.length<4611686018427387904):PC Tryz.prog 200 [.seq (l.map Pt.cells)] st λp st'=>(∃m,p= .tup [m,(vb (fX l))])/\st'=st:=by
 refine pC Tryz.func200 rfl ?_
 (repeat' first|apply wZ;rfl|show Cn _;constructor)
 refine mkM (enc:=Nm.enc) (f:=ptF) rfl (λid1 hid1=> ?_)
 (repeat' first|apply wZ;rfl|show Cn _;constructor)
 refine mkM (enc:=auU) (f:=lT) rfl (λid2 hid2=> ?_)
 have hid1:st id1=none:=hid1
 have hne:id1≠id2:=by intro e;subst e;have:=hid2;simp only [St.put,St.pv,St.sst,aA] at this;cases this
 have hid2:st id2=none:=by have:=hid2;simp only [St.put,St.pv,St.sst] at this;exact (aB (Ne.symm hne)).symm.trans this
 have hne2:=Ne.symm hne
 (repeat' first|apply wZ;rfl|show Cn _;constructor)
 refine aC (X:={x:Nat//x<=l.length/\jJ l [] []=jJ (l.drop x) (dO (l.take x)) (eE (l.take x))}) (λi=>(((((((St.nil 94 (upd (upd st id1 (some (.map (aM Nm.enc ptF (dO (l.take i.1)))))) id2 (some (.map (aM auU lT (eE (l.take i.1))))))).pv 0 (.seq (l.map Pt.cells))).pv 4 (.mref id1)).pv 5 (.mref id2)).pv 18 (.seq (l.map Pt.cells))).pv 19 ((vi ((((l.map Pt.cells)).length:Nat))))).pv 20 ((vi ((i.1:Nat)))))) (λi=>l.length-i.1) ⟨0,by omega,rfl⟩ ?_ (λi=> ?_)
 ·(repeat' first|show Cn (.t _ _);exact Cn.t0|show Cn _;constructor|exact rfl)
 obtain ⟨i,hi,hinv⟩:=i
 dsimp only
 have hs:=λh:i<l.length=>alN h (m:=dO (l.take i)) (t:=eE (l.take i))
 have hs1:=λh:i<l.length=>agM h
 have hs2:=λh:i<l.length=>ahD h
 (repeat' first|apply wDm pk;rfl;kernel_rfl;rfl;rfl|(apply Cn.cf;focus (((first|apply nM|apply lI));done))|(show Cn (.r _ _ _);refine .any ⟨_,_, ?zs,rfl,zwr _, ?zh, ?zr⟩;(case zh=>(refine aR ?_ ‹_›;(repeat refine aR ?_ ‹_›);exact zsr _));(case zr=>((have e:fX l=false:=(by unfold fX;rw [hinv,hs (by omega)];first|simp [sK, *];done|(rcases ‹_\/_›with q|q<;>simp [sK, *]));exact ⟨⟨.val (.map none),by rw [e]⟩,rfl⟩))))|refine ⟨⟨i+1,by omega,by rw [hinv,hs (by omega),hs1 (by omega),hs2 (by omega)];simp [sK, *]⟩, ?_, ?_⟩;(simp only [hs1 (show i<l.length by omega),hs2 (show i<l.length by omega)])|show Cn (.t _ _);refine .any (cQ ?_);(simp only [St.pv,St.put,St.sst,St.setv,St.nil,St.var,eF]);(rw [aIY ‹_›]);(done)|apply wZ;rfl|show Cn _;constructor|exact rfl|(apply aCD pk Nm.key (f:=ptF);(iterate 5 rfl);rotate_left;rfl;((focus ((repeat (first|exact aA _ _ _|refine (aB ‹_›).trans ?_));done)));rfl;intro v hv;rotate_left;intro hv;rotate_left)|apply meA pk Nm.key (f:=ptF) (z:=Pt.zero);(iterate 6 rfl);((focus ((repeat (first|exact aA _ _ _|refine (aB ‹_›).trans ?_));done)));rfl|apply esA pk Nm.key (f:=ptF);(iterate 4 rfl);(exact aA _ _ _);rfl|(apply aCD pk aGs (f:=lT);(iterate 5 rfl);rotate_left;rfl;(exact aA _ _ _);rfl;intro v hv;rotate_left;intro hv;rotate_left)|apply muA pk aGs (f:=lT);(exact .inr rfl);(iterate 5 rfl);((focus ((repeat (first|exact aA _ _ _|refine (aB ‹_›).trans ?_));done)));rfl|apply wY;rfl|apply wI;rfl|apply gE;omega|omega|simp only [zql];omega|(intro h;simp at h))
 have e1:l.take i=l:=ztl (by omega)
 have w1:jJ l [] []=true:=by rw [hinv,List.drop_eq_nil_of_le (by omega)];rfl
 refine aC (X:={x:Nat//x<=l.length/\(l.take x).all (azN (dO (l.take i)))=true}) (λy=>(((((St.nil 94 (upd (upd st id1 (some (.map (aM Nm.enc ptF (dO (l.take i)))))) id2 (some (.map (aM auU lT (eE (l.take i))))))).pv 4 (.mref id1)).pv 65 (.seq (l.map Pt.cells))).pv 66 ((vi ((((l.map Pt.cells)).length:Nat))))).pv 67 ((vi ((y.1:Nat)))))) (λy=>l.length-y.1) ⟨0,by omega,rfl⟩ ?_ (λy=> ?_)
 ·(repeat' first|show Cn (.t _ _);exact Cn.t0|show Cn _;constructor|exact rfl)
 clear hs hs1 hs2
 obtain ⟨y,hy,hall⟩:=y
 dsimp only
 (repeat' first|(apply Cn.cf;focus (((first|apply pV|apply nJ|apply (nJ Pt.zero)));done))|(show Cn (.r _ _ _);refine .any ⟨_,_, ?zs,rfl,zwr _, ?zh, ?zr⟩;(case zh=>(refine aR ?_ ‹_›;(repeat refine aR ?_ ‹_›);exact zsr _));(case zr=>((first|have e:fX l=false:=(by unfold fX;simp only [e1] at*;rw [w1,Bool.true_and,List.all_eq_false];refine ⟨l[y]'‹_›,zgm _, ?_⟩;simp [azN,Nm.ext_iff,Dt.ext_iff,Nm.zero,Dt.zero,and_assoc, *];try (intros;omega));exact ⟨⟨.val (.map none),by rw [e]⟩,rfl⟩|have e:fX l=true:=(by unfold fX;simp only [e1] at*;rw [w1,Bool.true_and,<-hall,ztl (by omega)]);exact ⟨⟨.mref id1,by rw [e]⟩,rfl⟩))))|(refine ⟨⟨y+1,by omega,by simp only [e1] at*;rw [List.take_succ_eq_append_getElem (by omega),List.all_append,hall];simp [azN,Nm.ext_iff,Dt.ext_iff,Nm.zero,Dt.zero,and_assoc, *];try grind⟩, ?_, ?_⟩)|show Cn (.t _ _);exact Cn.t0|apply wZ;rfl|show Cn _;constructor|exact rfl|(apply aCD pk Nm.key (f:=ptF);(iterate 5 rfl);rotate_left;rfl;((focus ((repeat (first|exact aA _ _ _|refine (aB ‹_›).trans ?_));done)));rfl;intro v hv;rotate_left;intro hv;rotate_left)|apply wY;rfl|apply wI;rfl|apply gE;omega|omega|simp only [zql];omega|(intro h;simp at h))
def eB (a b:Pt):Int:=if bJ a=bJ b then a.at_-b.at_ else if jP (bJ b) (bJ a) then-1 else 1
theorem mR {p:Pt} (h:bV p=true):0<=p.at_/\p.at_<=1999:=by
 simp only [bV,mayN,withinB,zba,zde] at h
 exact h.1.2.2
theorem iA (a b:Pt) (ha:bV a=true) (hb:bV b=true):PF Tryz.prog 264 [.agg a.cells, .agg b.cells] (vi (eB a b)):=by
 have h1:=mR ha
 have h2:=mR hb
 refine pF Tryz.func264 rfl (λst=> ?_)
 (repeat' first|apply wZ;rfl|show Cn _;constructor|exact rfl|apply KR.mk;kernel_rfl|((first|apply (kV a)|apply (kV b)|apply (mN (bJ b) (bJ a))))|show (_:PV)=_;(simp only [eB,Sp.ext_iff];simp_all);done|apply wY;rfl|omega|(intro h;simp at h)|intro h)
theorem axP (a:Sp):jP a a=false:=by simp [jP]
theorem adU (a b:Sp):jP a b=true↔a.time<b.time\/a.time=b.time/\(a.dev<b.dev\/a.dev=b.dev/\a.seq<b.seq):=by
 unfold jP
 split
 ·rw [zde];omega
 ·split
  ·rw [zde];omega
  ·rw [zde];omega
def fQ (a b:Pt):Prop:=jP (bJ b) (bJ a)=true\/bJ a=bJ b/\a.at_<b.at_
theorem aeX (a b:Pt):eB a b<0↔fQ a b:=by
 unfold eB fQ
 by_cases h:bJ a=bJ b
 ·rw [zp h,h,axP];simp;omega
 ·rw [zn h]
  split
  ·rename_i h2;simp [h2]
  ·rename_i h2;simp [h2,h]
abbrev Fp :={p:Pt//bV p=true}
instance : Inhabited Fp:=⟨⟨⟨⟨1,0,e0⟩,⟨1,1⟩,0,1,Dt.zero,0,false⟩,by decide⟩⟩
def aBc (a b:Fp):Int:=eB a.1 b.1
theorem eT (a b:Pt):fQ a b↔b.time<a.time\/b.time=a.time/\(b.dot.dev<a.dot.dev\/b.dot.dev=a.dot.dev/\(b.dot.seq<a.dot.seq\/b.dot.seq=a.dot.seq/\a.at_<b.at_)):=by
 unfold fQ
 rw [adU,Sp.ext_iff]
 simp only [bJ]
 omega
theorem aAr :Go.Sort.SWO (ltOf aBc):=by
 have h:∀x y:Fp,ltOf aBc x y=true↔fQ x.1 y.1:=λx y=>by rw [ltOf,zde];exact aeX _ _
 have hf:∀x y:Fp,ltOf aBc x y=false↔¬fQ x.1 y.1:=λx y=>by rw [<-h,Bool.not_eq_true]
 refine ⟨λx=>(hf x x).2 ?_,λx y z h1 h2=> ?_,λx y z h1 h2=> ?_⟩
 ·rw [eT];omega
 ·rw [h,eT] at h1 h2⊢;omega
 ·rw [hf,eT] at h1 h2⊢;omega
def fN (l:List Pt) (k:Nm):List Pt:=l.filter λp=>decide (aZ p=k)
theorem vD {l:List Pt} {i:Nat} (h:i<l.length) (k:Nm):fN (l.take (i+1)) k=if aZ l[i]=k then fN (l.take i) k++[l[i]] else fN (l.take i) k:=by
 unfold fN
 rw [List.take_succ_eq_append_getElem h,List.filter_append]
 by_cases hk:aZ l[i]=k<;>simp [hk]
def aaN (x:Nat×Nat):PV:= .vec x.1 11 0 x.2
structure FamB (st:aD) (l:List Pt) (idm:Nat) (K:List (Nm×(Nat×Nat))) (S:aD):Prop where
 old:∀j,st j≠none->S j=st j
 hm:S idm=some (.map (aM Nm.enc aaN K))
 mf:st idm=none
 arr:∀k id n,(k,(id,n))∈K->S id=some (.arr 149 ((fN l k).map Pt.cells))/\n=(fN l k).length/\st id=none
 keys:(K.map (·.1)).Nodup
 ids:(K.map (·.2.1)).Nodup
 non:∀k,bY k K=none->fN l k=[]
theorem qB {K V:Type} [DecidableEq K] {k:K} {v:V}:∀{l:List (K×V)},bY k l=some v->(k,v)∈l
  |(k',v')::l,h=>by
    simp only [bY] at h
    split at h
    · rename_i e;injection h with h;subst h;subst e;simp
    · exact List.mem_cons_of_mem _ (qB h)
theorem zJ (l:List Pt) (hl:l.length<4611686018427387904):PF Tryz.prog 200 [.seq (l.map Pt.cells)] (.tup [.und,(vb (fX l))]):=λst=>
 aIk (aDP l st hl) λp st' ⟨⟨m,e⟩,h⟩=>⟨_,e▸Wk.tup (.cons (Wk.und m) (.cons (zwr _) .nil)),rfl,h⟩
theorem aaD :Tryz.prog.bytesOf 149=96:=by kernel_rfl
theorem FamB.fresh {st S:aD} {l:List Pt} {idm:Nat} {K:List (Nm×(Nat×Nat))} (h:FamB st l idm K S) {id:Nat} (hid:S id=none):st id=none/\id≠idm/\∀k i n,(k,(i,n))∈K->id≠i:=by
 refine ⟨?_, ?_, ?_⟩
 ·cases hs:st id with
  |none=>rfl
  |some o=>have:=h.old id (by rw [hs];simp);rw [hid,hs] at this;cases this
 ·intro e;subst e;rw [h.hm] at hid;cases hid
 ·intro k i n hk e;subst e;rw [(h.arr k _ n hk).1] at hid;cases hid
theorem FamB.notm {st S:aD} {l:List Pt} {idm:Nat} {K:List (Nm×(Nat×Nat))} (h:FamB st l idm K S) {k:Nm} {i n:Nat} (hk:(k,(i,n))∈K):i≠idm:=by
 intro e;subst e;have:=(h.arr k _ n hk).1;rw [h.hm] at this;cases this
theorem rB {K V:Type} [DecidableEq K] (k k':K) (v:V):∀(l:List (K×V)),bY k' (cL k v l)=if k'=k then some v else bY k' l
 |[]=>by simp only [cL,bY]
 |e::l=>by
  have ih:=rB k k' v l
  simp only [cL]
  split
  ·rename_i h;simp only [bY];split<;>simp_all
  ·rename_i h;simp only [bY,ih];split
   ·rename_i h2;rw [zn (λe=>h (by rw [<-e,h2]))]
   ·rfl
theorem uV {K V:Type} [DecidableEq K] {k:K} {v:V} {x:K×V}:∀{l:List (K×V)},(l.map (·.1)).Nodup->x∈cL k v l->x=(k,v)\/x∈l/\x.1≠k
 |[],_,h=>by simp only [cL,zms] at h;exact .inl h
 |e::l,hn,h=>by
  simp only [zmp,List.nodup_cons] at hn
  simp only [cL] at h
  split at h
  ·rename_i he
   rcases zmc.1 h with h|h
   ·exact .inl h
   ·refine .inr ⟨List.mem_cons_of_mem _ h,λhh=>hn.1 ?_⟩
    rw [<-he,<-hh];exact List.mem_map.2 ⟨x,h,rfl⟩
  ·rename_i he
   rcases zmc.1 h with h|h
   ·subst h;exact .inr ⟨List.mem_cons_self,λhh=>he hh.symm⟩
   ·rcases uV hn.2 h with h|⟨h,h2⟩
    ·exact .inl h
    ·exact .inr ⟨List.mem_cons_of_mem _ h,h2⟩
theorem aaY {K V:Type} [DecidableEq K] {k:K} {v:V}:∀{l:List (K×V)},(l.map (·.1)).Nodup->((cL k v l).map (·.1)).Nodup
 |[],_=>by simp [cL]
 |e::l,hn=>by
  simp only [zmp,List.nodup_cons] at hn
  simp only [cL]
  split
  ·rename_i he;simp only [zmp,List.nodup_cons,he];exact hn
  ·rename_i he
   simp only [zmp,List.nodup_cons]
   refine ⟨λhm=> ?_,aaY hn.2⟩
   obtain ⟨x,hx,hxe⟩:=List.mem_map.1 hm
   rcases uV hn.2 hx with rfl|⟨h,_⟩
   ·exact he hxe
   ·exact hn.1 (List.mem_map.2 ⟨x,h,hxe⟩)
theorem afW {K V:Type} [DecidableEq K] {k:K} {v:V} {g:V->Nat}:∀{l:List (K×V)},(l.map λe=>g e.2).Nodup->(l.map (·.1)).Nodup->(∀e∈l,g e.2≠g v)->((cL k v l).map λe=>g e.2).Nodup
 |[],_,_,_=>by simp [cL]
 |e::l,hn,hk,hv=>by
  simp only [zmp,List.nodup_cons] at hn hk
  simp only [cL]
  split
  ·simp only [zmp,List.nodup_cons]
   refine ⟨λhm=> ?_,hn.2⟩
   obtain ⟨x,hx,hxe⟩:=List.mem_map.1 hm
   exact hv x (List.mem_cons_of_mem _ hx) hxe
  ·simp only [zmp,List.nodup_cons]
   refine ⟨λhm=> ?_,afW hn.2 hk.2 λx hx=>hv x (List.mem_cons_of_mem _ hx)⟩
   obtain ⟨x,hx,hxe⟩:=List.mem_map.1 hm
   rcases uV hk.2 hx with rfl|⟨h,_⟩
   ·exact hv e List.mem_cons_self hxe.symm
   ·exact hn.1 (List.mem_map.2 ⟨x,h,hxe⟩)
theorem vM {α:Type} {g:α->Nat}:∀{l:List α},(l.map g).Nodup->∀{a b},a∈l->b∈l->g a=g b->a=b
 |[],_,_,_,h,_,_=>by cases h
 |x::l,hn,a,b,ha,hb,e=>by
  simp only [zmp,List.nodup_cons] at hn
  rcases zmc.1 ha with ha|ha<;>rcases zmc.1 hb with hb|hb
  ·rw [ha,hb]
  ·exact (hn.1 (List.mem_map.2 ⟨b,hb,by rw [<-e,ha]⟩)).elim
  ·exact (hn.1 (List.mem_map.2 ⟨a,ha,by rw [e,hb]⟩)).elim
  ·exact vM hn.2 ha hb e
theorem FamB.step {st S S1:aD} {l:List Pt} {i:Nat} (hi:i<l.length) {idm id m:Nat} {K:List (Nm×(Nat×Nat))} (h:FamB st (l.take i) idm K S) (hid:S id=none) (hm:m=(fN (l.take i) (aZ l[i])).length+1) (hS:∀j,(∀n,(aZ l[i],(j,n))∉K)->S1 j=S j):
  FamB st (l.take (i+1)) idm (cL (aZ l[i]) (id,m) K) (upd (upd S1 id (some (.arr 149 ((fN (l.take i) (aZ l[i])++[l[i]]).map Pt.cells)))) idm (some (.map (aM Nm.enc aaN (cL (aZ l[i]) (id,m) K))))):=by
 obtain ⟨f1,f2,f3⟩:=h.fresh hid
 refine ⟨λj hj=> ?_,aA _ _ _,h.mf,λk j n hx=> ?_,aaY h.keys,afW (g:=(·.1)) h.ids h.keys λe he=> ?_,λk hk'=> ?_⟩
 ·rw [aB (λe=>by subst e;exact hj h.mf),aB (λe=>by subst e;exact hj f1),hS j λn hn=>hj (h.arr _ j n hn).2.2];exact h.old j hj
 ·rcases uV h.keys hx with e|⟨hx,hne⟩
  ·simp only [Prod.mk.injEq] at e
   obtain ⟨rfl,rfl,rfl⟩:=e
   rw [vD hi,zp rfl,aB f2,aA]
   exact ⟨rfl,by rw [hm];simp,f1⟩
  ·obtain ⟨a1,a2,a3⟩:=h.arr k j n hx
   rw [vD hi,zn (Ne.symm hne),aB (h.notm hx),aB (λe=>f3 k j n hx e.symm),hS j λn' hn'=>hne ?_]
   ·exact ⟨a1,a2,a3⟩
   ·exact congrArg Prod.fst (vM h.ids hx hn' rfl)
 ·exact λe'=>f3 e.1 e.2.1 e.2.2 he e'.symm
 ·rw [rB] at hk'
  split at hk'
  ·cases hk'
  ·rename_i hne
   rw [vD hi,zn (Ne.symm hne)]
   exact h.non k hk'
theorem FamB.nil {st:aD} {idm:Nat} (h:st idm=none):FamB st [] idm [] (upd st idm (some (.map (aM Nm.enc aaN [])))):=
 ⟨λj hj=>aB λe=>by subst e;exact hj h,aA _ _ _,h,λ_ _ _ h=>(by cases h),by simp,by simp,λ_ _=>rfl⟩
theorem amF (l:List Pt) (k:Nm):(fN l k).length<=l.length:=List.length_filter_le _ _
end
end Go.Proofs.YtfablfldonhkiaaGreatDoor.T
