import Derived.Test.YtfablfldonhkiaaGreatDoorClAd
import Derived.Test.YtfablfldonhkiaaGreatDoorAbsF
import Derived.Test.YtfablfldonhkiaaGreatDoorRows
import Derived.SizedLaws
import Derived.LaidMore
import Derived.LaidOnce
import Derived.LaidHandle
import Derived.Test.YtfablfldonhkiaaGreatDoorClAa
import Derived.Test.YtfablfldonhkiaaGreatDoorAbsE
import Derived.Test.YtfablfldonhkiaaGreatDoorAbsSort
set_option linter.unusedSimpArgs false
set_option linter.unusedVariables false
namespace Go.Proofs.YtfablfldonhkiaaGreatDoor
open Go Go.Abs
section
attribute [local irreducible] Ev PWp
set_option maxRecDepth 10000
set_option maxHeartbeats 4000000
theorem aEK {L:List Dt} {d:Dt} {q:Nat} (h:q<gC L d) (hq:q<L.length):bE L[q] d=false:=by
 unfold gC at h;cases e:L.findIdx? λx=>bE x d with
 |none=>exact List.findIdx?_eq_none_iff.1 e _ (zgm hq)
 |some j=>rw [e] at h;simpa using (List.findIdx?_eq_some_iff_getElem.1 e).2.2 q h
theorem aDm {L:List Dt} {d:Dt} {j:Nat} (hd:gC L d=j) (hq:j<L.length):bE L[j] d=true:=by
 unfold gC at hd;cases e:L.findIdx? λx=>bE x d with
 |none=>rw [e] at hd;simp at hd;omega
 |some q=>rw [e] at hd;simp at hd;subst hd;exact (List.findIdx?_eq_some_iff_getElem.1 e).2.1
theorem asB {st:aD} {id id2:Nat} {o b c:Option AObj} (a:st id=none) (hb:b=c):StSub (upd st id2 b) (upd (upd (upd st id o) id none) id2 c):=hb▸kP a
end
section
attribute [local irreducible] Ev PWp
set_option maxRecDepth 10000
set_option maxHeartbeats 4000000
section
variable {P:Program} {tt:TT} {l:List Oper} {d:Md} {r:List Oper} {s:St} {K:St->Prop} {t:Nat} {ty:TypeId} {pos:String} {after:Array Edge}
theorem aKi {T T2:TypeId} {x y:Operand} {a b:Int} (hx:opd s x=some (.val (.int .i64 a))) (hy:opd s y=some (.val (.int .i64 b))) (hf:bQ s [x,y]=true) (hd:Nat.blt t s.n=true) (ht:cR d l r=true) (k:∀c,Ev P l d r (s.put (some t) true (.pv (.val (.int .i64 c)))) K):Ev P l d (⟨some t, .binOp .add T x y T2,ty,pos,after,none⟩::r) s K:=
 kR (c:=IntKind.i64.wrap (a+b)) rfl hx hy (λ_=> .inl ⟨rfl,rfl⟩) (by simp only [bQ,zba] at hf;exact ⟨λ_=>hf.1,λ_=>hf.2.1,trivial⟩) hd ht (k _)
end
def tot (b:Bs):Nat:=(b.map λd=>d.lines.length).sum
theorem aCS {b:Bs} {i:Nat} (h:i<b.length):tot (b.take (i+1))=tot (b.take i)+b[i].lines.length:=by
 unfold tot;rw [List.take_succ_eq_append_getElem h,List.map_append,List.sum_append];simp
theorem aI1 (b:Bs) (i:Nat):tot (b.take i)<=tot b:=by
 have:tot b=tot (b.take i)+tot (b.drop i):=by
  unfold tot;rw [<-List.sum_append,<-List.map_append,List.take_append_drop]
 omega
def wW (b:Bs):Bool:=decide (b.length<=20)&&(decide (tot b<=100)&&b.all λd=>d.lines.all dZ)
theorem aJv {b:Bs} {i y:Nat} (hi:i<b.length) (hy:y<b[i].lines.length) (h:dZ b[i].lines[y]=false):wW b=false:=by
 unfold wW;have:(b.all λd=>d.lines.all dZ)=false:=by
  rw [<-Bool.not_eq_true,zal];intro q;have:=zal.1 (q _ (zgm hi)) _ (zgm hy);rw [h] at this;cases this
 rw [this];simp
theorem aCn (b:Bs) (hb:b.length<200000000000000) (hd:∀d∈b,d.lines.length<200000000000000/\∀l∈d.lines,l.cells_.length<4611686018427387904):PF Tryz.prog 53 [.agg (bsC b)] (vb (wW b)):=by
 by_cases g:¬b.length<=20
 ·have o:wW b=false:=by unfold wW;rw [decide_eq_false g];rfl
  rw [o];refine pF Tryz.func53 rfl (λst=> ?_)
  focus ((repeat' first|apply wZ;rfl|show Cn _;constructor))
  refine aC (X:={x:Nat×Int//x.1<=b.length}) (λi=>((((St.nil 56 st).var 1 27 ((bsC b))).pv 3 ((vi (i.1.2)))).pv 4 ((vi ((i.1.1:Nat)))))) (λi=>b.length-i.1.1) ⟨(0,0),by simp⟩ ?_ (λi=> ?_)
  ·(repeat' first|show Cn _;constructor|exact rfl)
  obtain ⟨⟨i,n⟩,hi⟩:=i;simp only at hi;dsimp only;by_cases f:b.length<=i;rotate_left;have a:i<b.length:=by omega
  have I:=(hd _ (zgm a)).1
  focus ((repeat' first|((iterate 3 (apply mW aS;(iterate 4 rfl)));apply aKi;(iterate 5 rfl);intro n')|apply wZ;rfl|show Cn _;constructor|exact rfl|apply wI;rfl|apply gE;omega|simp only [zql];omega|(intro h;simp at h)))
  refine aC (X:={x:Nat//x<=b[i].lines.length}) (λy=>(((((St.nil 56 st).var 1 27 ((bsC b))).pv 3 ((vi (n')))).pv 4 ((vi ((i:Nat))))).pv 5 ((vi ((y.1:Nat)))))) (λy=>b[i].lines.length-y.1) ⟨0,by omega⟩ ?_ (λy=> ?_)
  ·(repeat' first|show Cn _;constructor|exact rfl)
  obtain ⟨y,hy⟩:=y;dsimp only;by_cases k:b[i].lines.length<=y;rotate_left;have c:y<b[i].lines.length:=by omega
  have hs:=uP b[i].lines[y] ((hd _ (zgm a)).2 _ (zgm c));rotate_left
  all_goals ((repeat' first|((first|refine ⟨⟨(i+1,n'),by simp only;omega⟩, ?_,by simp only;omega⟩|refine ⟨⟨y+1,by omega⟩, ?_,by simp only;omega⟩);focus ((repeat' first|show Cn _;constructor|exact rfl);done))|apply wZ;rfl|show Cn _;constructor|exact rfl|(apply hs)|show (_:PV)=_;(rw [zql,decide_eq_false (by omega)];rfl);done|apply wY;rfl|apply wI;rfl|apply gE;omega|omega|simp only [zql];omega|intro h;simp at h;omega|(intro h;simp at h)|intro h))
 replace g:=zdn g
 refine pF Tryz.func53 rfl (λst=> ?_)
 focus ((repeat' first|apply wZ;rfl|show Cn _;constructor))
 refine aC (X:={x:Nat×Nat//x.1<=b.length/\x.2=tot (b.take x.1)/\x.2<=x.1*200000000000000/\(x.2<=100->∀j (h:j<b.length),j<x.1->∀l∈b[j].lines,dZ l=true)}) (λi=>((((St.nil 56 st).var 1 27 ((bsC b))).pv 3 ((vi ((i.1.2:Nat))))).pv 4 ((vi ((i.1.1:Nat)))))) (λi=>b.length-i.1.1) ⟨(0,0),by simp,rfl,by simp,by simp⟩ ?_ (λi=> ?_)
 ·(repeat' first|show Cn _;constructor|exact rfl)
 obtain ⟨⟨i,n⟩,hi,hn,w,u⟩:=i;simp only at hi hn w u;dsimp only;by_cases f:b.length<=i;have e:decide ((n:Int)<=100)=(decide (tot b<=100)&&b.all λd=>d.lines.all dZ):=by
  rw [ztl f] at hn;subst hn;by_cases q:tot b<=100
  ·rw [decide_eq_true (by omega),decide_eq_true q,Bool.true_and,eq_comm,zal]
   intro d A;obtain ⟨j,hj,rfl⟩:=zgo A;rw [zal];exact u q j hj (by omega)
  ·rw [decide_eq_false (by omega),decide_eq_false q];rfl
 have H:decide ((b.length:Int)<=20)=decide (b.length<=20):=by rw [decide_eq_decide];omega
 rotate_left;have a:i<b.length:=by omega
 obtain ⟨J,F⟩:=hd _ (zgm a);have ht:=aCS a;have o:=λy h=>aJv (y:=y) a h
 focus ((repeat' first|apply wZ;rfl|show Cn _;constructor|exact rfl|apply wI;rfl|apply gE;omega|simp only [zql];omega|(intro h;simp at h)))
 refine aC (X:={x:Nat//x<=b[i].lines.length/\(n+b[i].lines.length<=100->∀j (h:j<b[i].lines.length),j<x->dZ b[i].lines[j]=true)}) (λy=>(((((St.nil 56 st).var 1 27 ((bsC b))).pv 3 ((vi (((n+b[i].lines.length:Nat):Int))))).pv 4 ((vi ((i:Nat))))).pv 5 ((vi ((y.1:Nat)))))) (λy=>b[i].lines.length-y.1) ⟨0,by omega,by omega⟩ ?_ (λy=> ?_)
 ·(repeat' first|show Cn _;constructor|exact rfl|congr 2;rw [zql];omega)
 obtain ⟨y,hy,m⟩:=y;dsimp only;have E:¬(y<b[i].lines.length/\n+b[i].lines.length<=100)->(n+b[i].lines.length<=100->∀j (h:j<b.length),j<i+1->∀l∈b[j].lines,dZ l=true):=λh q j hj B l hl=>by
  rcases zls.1 B with r|r
  ·exact u (by omega) j hj r l hl
  ·subst r
   obtain ⟨z,hz,rfl⟩:=zgo hl;exact m q z hz (by omega)
 have D:n+b[i].lines.length=tot (b.take (i+1)):=by omega
 by_cases k:b[i].lines.length<=y;rotate_left;have c:y<b[i].lines.length:=by omega
 have hs:=uP b[i].lines[y] (F _ (zgm c));have p:=o y c;have v:dZ b[i].lines[y]=true->(n+b[i].lines.length<=100->∀j (h:j<b[i].lines.length),j<y+1->dZ b[i].lines[j]=true):=λh q j hj C=>by
  rcases zls.1 C with r|r
  ·exact m q j hj r
  ·subst r;exact h
 generalize L:dZ b[i].lines[y]=G at*;cases G
 rotate_left;rotate_left
 all_goals ((repeat' first|((first|refine ⟨⟨(i+1,n+b[i].lines.length),by simp only;omega,D,by simp only;omega,E (by omega)⟩, ?_,by simp only;omega⟩|refine ⟨⟨y+1,by omega,v rfl⟩, ?_,by simp only;omega⟩);focus ((repeat' first|show Cn _;constructor|exact rfl);done))|apply wZ;rfl|show Cn _;constructor|exact rfl|(apply hs)|show (_:PV)=_;(first|(rw [zql];unfold wW;rw [<-e,<-H]);done|(rw [p rfl]);done);done|apply wY;rfl|apply wI;rfl|apply gE;omega|omega|simp only [zql];omega|intro h;simp at h;omega|(intro h;simp at h)))
end
section
attribute [local irreducible] Ev PWp
set_option maxRecDepth 10000
set_option maxHeartbeats 4000000
def LnS (l:Ln):Prop:=l.by_.length<=1000/\l.cells_.length<=1000/\∀c∈l.cells_,c.parts.length<=1000
def BsS (n:Nat) (b:Bs):Prop:=b.length<=20/\∀d∈b,d.lines.length<=n/\∀l∈d.lines,LnS l
theorem aHo {l:Ln} (h:dZ l=true):LnS l:=by
 unfold dZ at h;simp only [zba,zde,zal,kW] at h;exact ⟨by omega,by omega,λc hc=>by have:=(h.1 c hc).1;omega⟩
theorem aHQ {b:Bs} (h:wW b=true):BsS 100 b:=by
 unfold wW at h;simp only [zba,zde,zal] at h;obtain ⟨a,g,c⟩:=h;refine ⟨a,λd hd=>⟨?_,λl hl=>aHo (c d hd l hl)⟩⟩;obtain ⟨j,hj,rfl⟩:=zgo hd;have e:=aCS hj;have f:=aI1 b (j+1);omega
theorem BsS.lines {n:Nat} {b:Bs} (h:BsS n b) (k:Int):(aF b k).length<=n/\∀l∈aF b k,LnS l:=by
 unfold aF;split
 ·rename_i q
  simp only [okT,zba,zde] at q;have hk:k.toNat<b.length:=by omega
  rw [getElem!_pos b k.toNat hk];exact h.2 _ (zgm hk)
 ·exact ⟨Nat.zero_le _,λl hl=>by cases hl⟩
theorem abS (L:List Ln) (a:Ln):(gX L a).length<=L.length+1:=by
 unfold gX;split
 ·simp
 ·obtain ⟨j,hj,e,_⟩:=alL L a.key
  rw [e,Int.toNat_natCast,auD hj];exact Nat.le_refl _
theorem BsS.p {n:Nat} {b:Bs} (h:BsS n b) (hn:n<=1000):∀d∈b,d.lines.length<1000000000000/\∀x∈d.lines,x.by_.length<1000000000000/\x.cells_.length<1000000000000/\∀c∈x.cells_,c.parts.length<1000000000000:=λd hd=>by
 obtain ⟨f,a⟩:=h.2 d hd
 refine ⟨by omega,λx hx=> ?_⟩
 obtain ⟨g,i,e⟩:=a x hx
 exact ⟨by omega,by omega,λc hc=>by have:=e c hc;omega⟩
theorem BsS.l {n:Nat} {b:Bs} (h:BsS n b) (hn:n<=1000):b.length<100000000000/\∀d∈b,d.lines.length<100000000000:=⟨by have:=h.1;omega,λd hd=>by have:=(h.2 d hd).1;omega⟩
theorem arK {n:Nat} {b:Bs} (h:BsS n b) (hn:n<=1000) (c:Bs):PF Tryz.prog 21 [.agg (bsC b), .agg (bsC c)] (vb (decide (b=c))):=auT b c (by have:=h.1;omega) (h.p hn)
def BsB (b:Bs):Prop:=b.length<200000000000000/\∀d∈b,d.lines.length<200000000000000/\∀l∈d.lines,l.cells_.length<4611686018427387904
end
end Go.Proofs.YtfablfldonhkiaaGreatDoor
namespace Go.Proofs.YtfablfldonhkiaaGreatDoor
open Go Go.Abs Go.ChangeShapes Go.WideShapes Go.ChangeAt Go.RowKit
set_option maxRecDepth 10000
theorem own :ownKnob Tryz.prog.godebug=none:=by kernel_rfl
theorem laid :laidOutB Tryz.prog=true:=by kernel_rfl
theorem full (t e:TypeId) (h:t<Tryz.prog.types.size) (hu:Tryz.prog.underlying t=some (.slice e)):0<Tryz.prog.cellsOf e:=
 of_decide_eq_true (agP (λ_ e=>decide (0<Tryz.prog.cellsOf e)) (by kernel_rfl) t e h hu)
theorem aKL (t e:TypeId) (h:t<Tryz.prog.types.size) (hu:Tryz.prog.underlying t=some (.slice e)):1<=Tryz.prog.bytesOf e:=
 of_decide_eq_true (agP (λ_ e=>decide (1<=Tryz.prog.bytesOf e)) (by kernel_rfl) t e h hu)
theorem zC {α:Type} {f:α->List PV} {Q:α->Prop} {rows:List (List PV)} (h:∀r∈rows,∃a,r=f a/\Q a):∃l:List α,rows=l.map f/\l.length=rows.length/\∀a∈l,Q a:=by
 obtain ⟨l,rfl,hl⟩:=aDC h;exact ⟨l,rfl,by simp,hl⟩
section
theorem anM {N n:Nat} {ps:List PV} (h:bO Tryz.prog N n 63 ps):∃v:Vl,ps=v.cells:=by
 obtain ⟨m,f,_,rfl,e⟩:=bY aS rfl h;cases e with|cons ha e=>cases e with|cons hb e=>cases e with|cons hc e=>cases e with|nil=>
 obtain ⟨a,rfl,_⟩:=bK aS rfl ha;obtain ⟨b,rfl,_⟩:=bK aS rfl hb;obtain ⟨c,rfl,_⟩:=yR aS rfl hc;exact ⟨⟨a,b,c⟩,rfl⟩
theorem avZ {N n:Nat} {ps:List PV} (h:bO Tryz.prog N n 80 ps):∃v:Dt,ps=v.cells:=by
 obtain ⟨m,e,_,rfl,c⟩:=bY aS rfl h;cases c with|cons ha c=>cases c with|cons hb c=>cases c with|nil=>
 obtain ⟨a,rfl,_⟩:=bK aS rfl ha;obtain ⟨b,rfl,_⟩:=bK aS rfl hb;exact ⟨⟨a,b⟩,rfl⟩
theorem aKe {N n:Nat} {ps:List PV} (h:bO Tryz.prog N n 149 ps):∃v:Pt,ps=v.cells:=by
 obtain ⟨m,j,_,rfl,i⟩:=bY aS rfl h;cases i with|cons ha i=>cases i with|cons hb i=>cases i with|cons hc i=>cases i with|cons hd i=>cases i with|cons he i=>cases i with|cons hf i=>cases i with|cons hg i=>cases i with|nil=>
 obtain ⟨a,rfl⟩:=anM ha;obtain ⟨b,rfl⟩:=avZ hb;obtain ⟨c,rfl,_⟩:=bK aS rfl hc;obtain ⟨d,rfl,_⟩:=bK aS rfl hd;obtain ⟨e,rfl⟩:=avZ he;obtain ⟨f,rfl,_⟩:=bK aS rfl hf;obtain ⟨g,rfl⟩:=adU aS rfl hg;exact ⟨⟨a,b,c,d,e,f,g⟩,rfl⟩
def CB (c:Cl):Prop:=c.parts.length<=reachBytes
theorem aKw {n:Nat} {ps:List PV} (h:bO Tryz.prog reachBytes n 110 ps):∃v:Cl,ps=v.cells/\CB v:=by
 obtain ⟨m,j,_,rfl,e⟩:=bY aS rfl h;cases e with|cons ha e=>cases e with|cons hb e=>cases e with|cons hc e=>cases e with|nil=>
 obtain ⟨a,rfl,_⟩:=bK aS rfl ha;obtain ⟨b,rfl⟩:=anM hb;obtain ⟨_,rows,_,rfl,hl,i⟩:=cH aS rfl hc;obtain ⟨c,rfl⟩:=sJ (f:=Pt.cells) λr g=>aKe (i r g);exact ⟨⟨a,b,c⟩,rfl,by show c.length<=_;simpa using hl⟩
def LB (l:Ln):Prop:=l.cells_.length<=reachBytes/\l.by_.length<=reachBytes/\∀c∈l.cells_,CB c
theorem aHK {n:Nat} {ps:List PV} (h:bO Tryz.prog reachBytes n 47 ps):∃v:Ln,ps=v.cells/\LB v:=by
 obtain ⟨m,q,_,rfl,e⟩:=bY aS rfl h;cases e with|cons ha e=>cases e with|cons hb e=>cases e with|cons hc e=>cases e with|nil=>
 obtain ⟨a,rfl,_⟩:=bK aS rfl ha;obtain ⟨_,rows,_,rfl,hl,p⟩:=cH aS rfl hb;obtain ⟨b,rfl,o,hq⟩:=zC λr g=>aKw (p r g);obtain ⟨_,k,_,rfl,i,j⟩:=cH aS rfl hc;obtain ⟨c,rfl⟩:=sJ (f:=Dt.cells) λr g=>avZ (j r g);exact ⟨⟨a,b,c⟩,rfl,by simpa using hl,by simpa using i,hq⟩
def DB (d:Da):Prop:=d.lines.length<=reachBytes/\∀l∈d.lines,LB l
theorem aJ7 {n:Nat} {ps:List PV} (h:bO Tryz.prog reachBytes n 43 ps):∃v:Da,ps=v.cells/\DB v:=by
 obtain ⟨m,g,_,rfl,a⟩:=bY aS rfl h;cases a with|cons hb a=>cases a with|nil=>
 obtain ⟨_,rows,_,rfl,hl,f⟩:=cH aS rfl hb;obtain ⟨b,rfl,e,hq⟩:=zC λr c=>aHK (f r c);exact ⟨⟨b⟩,rfl,by simpa using hl,hq⟩
def BB (b:Bs):Prop:=b.length<=reachBytes/\∀d∈b,DB d
theorem aKD {n:Nat} {ps:List PV} (h:bO Tryz.prog reachBytes n 27 ps):∃v:{b:Bs//BB b},ps=bsC v.1:=by
 obtain ⟨m,g,_,rfl,a⟩:=bY aS rfl h;cases a with|cons hb a=>cases a with|nil=>
 obtain ⟨_,rows,_,rfl,hl,f⟩:=cH aS rfl hb;obtain ⟨b,rfl,e,hq⟩:=zC λr c=>aJ7 (f r c);exact ⟨⟨b,by simpa using hl,hq⟩,rfl⟩
theorem aIs {n:Nat} {ps:List PV} (h:bO Tryz.prog reachBytes n 47 ps):∃v:{l:Ln//LB l},ps=v.1.cells:=by
 obtain ⟨v,e,hv⟩:=aHK h;exact ⟨⟨v,hv⟩,e⟩
theorem LB.c {l:Ln} (h:LB l):l.cells_.length<4611686018427387904:=Nat.lt_of_le_of_lt h.1 (by decide)
theorem BB.b {b:Bs} (h:BB b):BsB b:=⟨Nat.lt_of_le_of_lt h.1 (by decide),λd hd=>⟨Nat.lt_of_le_of_lt (h.2 d hd).1 (by decide),λl hl=>((h.2 d hd).2 l hl).c⟩⟩
theorem akO {N:Nat} {t:TypeId} {p:PV} (ha:jP tt t=some true) (h:rI Tryz.prog N t p):∃n cs,p= .agg cs/\bO Tryz.prog N n t cs:=by
 obtain ⟨n,⟨_,cs,a,b⟩|⟨a,_⟩⟩:=h
 ·exact ⟨n,cs,a,b⟩
 ·rw [(cB aS ha).1] at a;cases a
theorem auG {N:Nat} {t:TypeId} {p:PV} (ha:jP tt t=some false) (h:rI Tryz.prog N t p):∃n,bO Tryz.prog N n t [p]:=by
 obtain ⟨n,⟨a,_⟩|⟨_,b⟩⟩:=h
 ·rw [(cB aS ha).1] at a;cases a
 ·exact ⟨n,b⟩
end
end Go.Proofs.YtfablfldonhkiaaGreatDoor
namespace Go.Proofs.YtfablfldonhkiaaGreatDoor
open Go
set_option maxRecDepth 100000
noncomputable def wL (os:Os):World:={World.doorLaid Tryz.prog 19 os with heap:=(World.doorLaid Tryz.prog 19 os).heap.setIfInBounds 1 (.cells (Pinned.utf8FirstZ.map λn:Nat=>Value.int .u8 (n:Int)).toArray 367 (0,0))}
theorem aAS (os:Os) (args:Array Value):((wL os).forCall (λ_ _=>0) ⟨#[],args,[]⟩).Shaped Tryz.prog:=World.shaped_of_RefB (by kernel_rfl) (by kernel_rfl)
theorem aJt (os : Os) (args : Array Value) : laidMetH Tryz.prog [("unicode/utf8.acceptRanges", Rows.laid_unicode_utf8_acceptRanges), ("unicode/utf8.first", Rows.laid_unicode_utf8_first)] ((wL os).forCall (λ_ _ => 0) ⟨#[], args, []⟩).memory :=
  laidMetH_of_parts3 (fuel:=8) (laidMet_of_run' 8 (by kernel_rfl) (by kernel_rfl)) (by kernel_rfl) (by kernel_rfl)
end Go.Proofs.YtfablfldonhkiaaGreatDoor
namespace Go.Proofs.YtfablfldonhkiaaGreatDoor
open Go Go.Abs
set_option maxRecDepth 10000
set_option maxHeartbeats 4000000
theorem qX {a b c:Dt} (e:bE b a=true) (f:bE c b=true):bE c a=true:=by
 unfold bE at*;simp only [Bool.or_eq_true,zba,zde] at*;omega
theorem yS {a b:Dt} (h:bE a b=false) (c:a≠b):bE b a=true:=by
 rw [Ne,Dt.ext_iff] at c;unfold bE at*;simp only [Bool.or_eq_true,zba,zde,Bool.or_eq_false_iff,Bool.and_eq_false_iff,decide_eq_false_iff_not] at*;omega
def ayY (l:List Dt):Prop:=l.Pairwise λa b=>bE b a=true
def aBo (l:List Dt) (d:Dt):List Dt:=if d∈l then l else cG l (gC l d) [d]
theorem aoG (l:Ln) (d:Dt):cT l d={l with by_:=aBo l.by_ d}:=by
 unfold cT aBo;split<;>rfl
theorem alN (l:List Dt) (d x:Dt):x∈aBo l d↔x=d\/x∈l:=by
 unfold aBo;split
 ·rename_i h
  exact ⟨.inr,λq=>by rcases q with rfl|q<;>assumption⟩
 ·unfold cG
  have e:=List.take_append_drop (gC l d) l
  conv=>rhs;rw [<-e]
  simp only [zma,zms]
  grind
theorem aAg {l:List Dt} (h:ayY l) (d:Dt):ayY (aBo l d):=by
 unfold aBo;split
 ·exact h
 rename_i hd;unfold cG ayY;have e:=List.take_append_drop (gC l d) l;have hp:=h;unfold ayY at hp;rw [<-e,List.pairwise_append] at hp;have b:∀x∈l.take (gC l d),bE d x=true:=λx hx=>by
  obtain ⟨q,hq,rfl⟩:=zgo hx
  rw [zlt] at hq
  rw [List.getElem_take]
  exact yS (aEK (by omega) (by omega)) λq=>hd (q▸zgm _)
 have a:∀x∈l.drop (gC l d),bE x d=true:=λx hx=>by
  obtain ⟨q,hq,rfl⟩:=zgo hx
  rw [zld] at hq
  rw [List.getElem_drop]
  have h0:=aDm (L:=l) rfl (show gC l d<l.length by omega)
  rcases Nat.eq_zero_or_pos q with rfl|c
  ·exact h0
  ·exact qX h0 (List.pairwise_iff_getElem.1 h _ _ (by omega) (by omega) (by omega))
 rw [List.pairwise_append,List.pairwise_append];refine ⟨⟨hp.1,List.pairwise_singleton ..,λx hx y hy=> ?_⟩,hp.2.1,λx hx y hy=> ?_⟩
 ·rw [zms.1 hy];exact b x hx
 ·rcases zma.1 hx with q|q
  ·exact hp.2.2 x q y hy
  ·rw [zms.1 q];exact a y hy
def upR (l:List Dt) (k:Nat):Bool:=decide (k=0)||bE l[k]! l[k-1]!
theorem aHz {l:List Dt} (h:∀k<l.length,upR l k=true):ayY l:=by
 have key:∀j (hj:j<l.length) i (hi:i<j),bE l[j] (l[i]'(by omega))=true:=by
  intro j
  induction j with
  |zero=>intro _ i hi;exact absurd hi (Nat.not_lt_zero _)
  |succ j ih=>
   intro hj i hi;have:=h (j+1) hj;unfold upR at this;rw [getElem!_pos l (j+1) hj,show j+1-1=j from rfl,getElem!_pos l j (by omega)] at this;have this:bE l[j+1] l[j]=true:=by simpa using this
   rcases zls.1 hi with q|q
   ·exact qX (ih (by omega) i q) this
   ·subst q;exact this
 exact List.pairwise_iff_getElem.2 λi j hi hj a=>key j hj i a
end Go.Proofs.YtfablfldonhkiaaGreatDoor
namespace Go.Proofs.YtfablfldonhkiaaGreatDoor.T
open Go Go.Abs
section
set_option maxRecDepth 10000
set_option maxHeartbeats 4000000
structure Sp where
 time:Int
 dev:Int
 seq:Int
 deriving DecidableEq,Inhabited
def Sp.cells (a:Sp):List PV:=[.val (.int .i64 (a.time)), .val (.int .i64 (a.dev)), .val (.int .i64 (a.seq))]
def Sp.zero :Sp:=⟨0,0,0⟩
theorem Sp.ext_iff (a b:Sp):a=b↔a.time=b.time/\a.dev=b.dev/\a.seq=b.seq:=by cases a;cases b;simp
theorem Sp.eqb (a b:Sp):(decide (a.time=b.time)&&(decide (a.dev=b.dev)&&(decide (a.seq=b.seq))))=decide (a=b):=by rw [Bool.eq_iff_iff];simp [Sp.ext_iff]
structure Nm where
 dot:Dt
 at_:Int
 deriving DecidableEq,Inhabited
def Nm.cells (a:Nm):List PV:=[.val (.int .i64 (a.dot.dev)), .val (.int .i64 (a.dot.seq)), .val (.int .i64 (a.at_))]
def Nm.zero :Nm:=⟨Dt.zero,0⟩
theorem Nm.ext_iff (a b:Nm):a=b↔a.dot=b.dot/\a.at_=b.at_:=by cases a;cases b;simp
theorem Nm.eqb (a b:Nm):(decide (a.dot=b.dot)&&(decide (a.at_=b.at_)))=decide (a=b):=by rw [Bool.eq_iff_iff];simp [Nm.ext_iff]
theorem Nm.eqz (a:Nm):(decide (a.dot=Dt.zero)&&(decide (a.at_=0)))=decide (a=Nm.zero):=by rw [Bool.eq_iff_iff];simp [Nm.ext_iff,Nm.zero]
end
section
attribute [local irreducible] Ev PWp
set_option maxRecDepth 10000
set_option maxHeartbeats 4000000
def aG (p:Pt):Nm:=⟨p.dot,p.at_⟩
def aH (p:Pt):Nm:=⟨p.after,p.afterAt⟩
def aN (p:Pt):Sp:=⟨p.time,p.dot.dev,p.dot.seq⟩
def withinB (n a b:Int):Bool:=decide (n>=a)&&decide (n<=b)
def mayN (n:Nm):Bool:=(withinB n.dot.dev 1 64&&withinB n.dot.seq 1 1048576)&&withinB n.at_ 0 1999
def bL (p:Pt):Bool:=((((decide (p.val.kind=1)&&decide (p.val.s=e0))&&withinB p.val.n 0 255)&&withinB p.time 1 1125899906842624)&&mayN (aG p))&&(decide (aH p=Nm.zero)||mayN (aH p))
def gI (a b:Sp):Bool:=if a.time≠b.time then decide (a.time<b.time) else if a.dev≠b.dev then decide (a.dev<b.dev) else decide (a.seq<b.seq)
def dO (p q:Pt):Bool:=gI (aN p) (aN q)||(decide (aN p=aN q)&&decide (p.at_<q.at_))
theorem oM (p:Pt):PF Tryz.prog 253 [.agg p.cells] (.agg (aG p).cells):=by
 refine pF Tryz.func253 rfl (λst=> ?_)
 (repeat' first|apply wZ;rfl|show Cn _;constructor|exact rfl)
theorem qS (p:Pt):PF Tryz.prog 260 [.agg p.cells] (.agg (aH p).cells):=by
 refine pF Tryz.func260 rfl (λst=> ?_)
 (repeat' first|apply wZ;rfl|show Cn _;constructor|exact rfl)
theorem lS (p:Pt):PF Tryz.prog 303 [.agg p.cells] (.agg (aN p).cells):=by
 refine pF Tryz.func303 rfl (λst=> ?_)
 (repeat' first|apply wZ;rfl|show Cn _;constructor|exact rfl)
theorem rH (n a b:Int):PF Tryz.prog 299 [(vi (n)),(vi (a)),(vi (b))] (vb (withinB n a b)):=by
 refine pF Tryz.func299 rfl (λst=> ?_)
 (repeat' first|apply wZ;rfl|show Cn _;constructor|exact rfl)
theorem gY (n:Nm):PF Tryz.prog 300 [.agg n.cells] (vb (mayN n)):=by
 refine pF Tryz.func300 rfl (λst=> ?_)
 (repeat' first|apply wZ;rfl|show Cn _;constructor|exact rfl|(apply rH)|apply wY;rfl)
theorem mF (p:Pt):PF Tryz.prog 259 [.agg p.cells] (vb (bL p)):=by
 refine pF Tryz.func259 rfl (λst=> ?_)
 (repeat' first|apply wZ;rfl|show Cn _;constructor|exact rfl|((first|apply rH|apply (oM p)|apply (qS p)|apply (gY (aG p))|apply (gY (aH p))))|show (_:PV)=_;simp only [bL,Dt.eqz,Nm.eqz];done|apply wY;rfl)
def aK6 (a:Sp):List PV:=[(vi (a.time)),(vi (a.dev)),(vi (a.seq))]
theorem nY (a:Sp):PF Tryz.prog 346 [.agg a.cells] (.agg (aK6 a)):=by
 refine pF Tryz.func346 rfl (λst=> ?_)
 (repeat' first|apply wZ;rfl|show Cn _;constructor|exact rfl)
def cmpL :List Int->List Int->Int
 |[],[]=>0
 |[],_::_=> -1
 |_::_,[]=>1
 |a::l,b::m=>if iT a b=0 then cmpL l m else iT a b
theorem aiH {l m:List Int} {i:Nat} (h:i<l.length) (a:i<m.length):cmpL (l.drop i) (m.drop i)=if iT l[i] m[i]=0 then cmpL (l.drop (i+1)) (m.drop (i+1)) else iT l[i] m[i]:=by
 rw [List.drop_eq_getElem_cons h,List.drop_eq_getElem_cons a,cmpL]
theorem compare_spec (l m:List Int) (hl:l.length<4611686018427387904):PF Tryz.prog 66 [.seq (l.map I1), .seq (m.map I1)] (vi (cmpL l m)):=by
 refine pF Tryz.func66 rfl (λst=> ?_)
 (repeat' first|apply wZ;rfl|show Cn _;constructor)
 refine aC (X:={x:Nat//x<=l.length/\x<=m.length/\cmpL (l.drop x) (m.drop x)=cmpL l m}) (λi=>((((((St.nil 36 st).pv 0 (.seq (l.map I1))).pv 1 (.seq (m.map I1))).pv 9 (.seq (l.map I1))).pv 10 ((vi ((((l.map I1)).length:Nat))))).pv 11 ((vi ((i.1:Nat)))))) (λi=>l.length-i.1) ⟨0,by omega,by omega,by simp⟩ ?_ (λi=> ?_)
 ·(repeat' first|show Cn _;constructor|exact rfl)
 obtain ⟨i,b,c,a⟩:=i;dsimp only
 (repeat' first|(refine ⟨⟨i+1,by omega,by omega,by rw [<-a,aiH (i:=i) (by omega) (by omega),zp ‹_›]⟩, ?_, ?_⟩)|apply wZ;rfl|show Cn _;constructor|exact rfl|(apply (jW _ _))|show (_:PV)=_;(rw [<-a];(first|rw [aiH (by omega) (by omega),zn ‹_›];done|rw [List.drop_eq_nil_of_le (show l.length<=i by omega),List.drop_eq_getElem_cons (show i<m.length by omega)];rfl|rw [List.drop_eq_nil_of_le (show l.length<=i by omega),List.drop_eq_nil_of_le (show m.length<=i by omega)];rfl|rw [List.drop_eq_nil_of_le (show m.length<=i by omega),List.drop_eq_getElem_cons (show i<l.length by omega)];rfl));done|apply wY;rfl|apply wI;rfl|apply gE;omega|omega|simp only [zql];omega|(intro h;simp at h)|intro h)
def aFk (a b:Sp):Int:=if a=b then 0 else cmpL [a.time,a.dev,a.seq] [b.time,b.dev,b.seq]
theorem aAt (a b:Sp):PF Tryz.prog 324 [.agg a.cells, .agg b.cells] (vi (aFk a b)):=by
 refine pF Tryz.func324 rfl (λst=> ?_)
 (repeat' first|apply ayC 5;rfl;rfl;rfl|apply ayC 6;rfl;rfl;rfl|apply wZ;rfl|show Cn _;constructor|exact rfl|apply KR.mk;kernel_rfl|((first|apply (nY a)|apply (nY b)|apply (compare_spec [a.time,a.dev,a.seq] [b.time,b.dev,b.seq] (show 3<4611686018427387904 from by omega))))|show (_:PV)=_;(simp_all [aFk,Sp.ext_iff];done);done|apply slA pk (rows:=[a.time,a.dev,a.seq].map I1);(iterate 7 rfl);rotate_left;rfl;rfl|apply slA pk (rows:=[b.time,b.dev,b.seq].map I1);(iterate 7 rfl);rotate_left;rfl;rfl|apply wY;rfl|(intro h;simp at h))
theorem cmpI_lt (a b:Int):iT a b<0↔a<b:=by unfold iT;split<;>(try split)<;>omega
theorem cmpI_eq (a b:Int):iT a b=0↔a=b:=by unfold iT;split<;>(try split)<;>omega
theorem aBp (a b:Sp):decide (aFk a b<0)=gI a b:=by
 unfold aFk gI;by_cases h:a=b
 ·subst h;simp
 ·rw [zn h]
  simp only [cmpL,cmpI_eq];by_cases c:a.time=b.time
  ·by_cases f:a.dev=b.dev
   ·have g:¬a.seq=b.seq:=λe=>h ((Sp.ext_iff _ _).2 ⟨c,f,e⟩)
    simp [c,f,g,cmpI_lt]
   ·simp [c,f,cmpI_lt]
  ·simp [c,cmpI_lt]
theorem nK (a b:Sp):PF Tryz.prog 304 [.agg a.cells, .agg b.cells] (vb (gI a b)):=by
 rw [<-aBp];refine pF Tryz.func304 rfl (λst=> ?_)
 (repeat' first|apply wZ;rfl|show Cn _;constructor|exact rfl|(apply (aAt a b))|apply wY;rfl)
theorem aJ8 {f:FuncId} {args:List PV} {st:aD} {R R':PV->aD->Prop} (h:PC Tryz.prog f args st R) (i:∀p st',R p st'->∃q,Wk p q/\R' q st'):PC Tryz.prog f args st R':=
 ⟨h.1,λw g vs hm hv=>(h.2 w g vs hm hv).mono λe w' ⟨v,r,st',g',a,b,c,h4⟩=>by
  obtain ⟨q,k1,k2⟩:=i _ _ b
  exact ⟨v,q,st',g',a,k2,k1 _ _ c,h4⟩⟩
theorem Wk.und (p:PV):Wk p .und:=λ_ _ _=>by simp [Rep]
def Nm.vals (k:Nm):List Value:=[.int .i64 k.dot.dev, .int .i64 k.dot.seq, .int .i64 k.at_]
def aHM (k:Dt):List Value:=[.int .i64 k.dev, .int .i64 k.seq]
def Nm.enc (k:Nm):Value:= .agg k.vals.toArray
def axB (k:Dt):Value:= .agg (aHM k).toArray
theorem Nm.key :KeyOK Tryz.prog 303 Nm.enc (λk=> .agg k.cells):=
 wK aS Nm.vals rfl rfl (λ_=>rfl) (λa b=>by show some ((decide (a.dot.dev=b.dot.dev)&&decide (a.dot.seq=b.dot.seq))&&decide (a.at_=b.at_))=_;rw [Dt.eqb,Nm.eqb]) (λ_=>rfl) (by kernel_rfl)
theorem aHH :KeyOK Tryz.prog 80 axB (λk=> .agg k.cells):=
 wK aS aHM rfl rfl (λ_=>rfl) (λa b=>by show some (decide (a.dev=b.dev)&&decide (a.seq=b.seq))=_;rw [Dt.eqb]) (λ_=>rfl) (by kernel_rfl)
def ptF (p:Pt):PV:= .agg p.cells
def mU (n:Int):PV:=(vi (n))
def dW (l:List Pt):List (Nm×Pt):=l.foldl (λm p=>cL (aG p) p m) []
def eR (l:List Pt):List (Dt×Int):=l.foldl (λm p=>cL p.dot p.time m) []
def tZ (m:List (Nm×Pt)) (t:List (Dt×Int)) (p:Pt):Bool:= !((bZ (aG p) m).isSome|| !bL p||(match bZ p.dot t with|some x=>decide (x≠p.time)|none=>false))
def kD :List Pt->List (Nm×Pt)->List (Dt×Int)->Bool
 |[],_,_=>true
 |p::r,m,t=>tZ m t p&&kD r (cL (aG p) p m) (cL p.dot p.time t)
def aAY (m:List (Nm×Pt)) (p:Pt):Bool:=decide (aH p=Nm.zero)||(match bZ (aH p) m with|some u=>dO u p|none=>false)
def eZ (l:List Pt):Bool:=kD l [] []&&l.all (aAY (dW l))
theorem aiR {l:List Pt} {i:Nat} (h:i<l.length):dW (l.take (i+1))=cL (aG l[i]) l[i] (dW (l.take i)):=by
 rw [List.take_succ_eq_append_getElem h,dW,List.foldl_append];rfl
theorem ajH {l:List Pt} {i:Nat} (h:i<l.length):eR (l.take (i+1))=cL l[i].dot l[i].time (eR (l.take i)):=by
 rw [List.take_succ_eq_append_getElem h,eR,List.foldl_append];rfl
theorem aoK {l:List Pt} {i:Nat} (h:i<l.length) {m t}:kD (l.drop i) m t=(tZ m t l[i]&&kD (l.drop (i+1)) (cL (aG l[i]) l[i] m) (cL l[i].dot l[i].time t)):=by
 rw [List.drop_eq_getElem_cons h];rfl
theorem oJ (p q:Pt):PF Tryz.prog 261 [.agg p.cells, .agg q.cells] (vb (dO p q)):=by
 refine pF Tryz.func261 rfl (λst=> ?_)
 (repeat' first|apply wZ;rfl|show Cn _;constructor|exact rfl|apply KR.mk;kernel_rfl|((first|apply (lS p)|apply (lS q)|apply (nK (aN p) (aN q))))|show (_:PV)=_;simp only [dO,Sp.eqb];done|apply wY;rfl)
theorem aER (l:List Pt) (st:aD) (hl:l.length<4611686018427387904):PC Tryz.prog 200 [.seq (l.map Pt.cells)] st λp st'=>(∃m,p= .tup [m,(vb (eZ l))])/\st'=st:=by
 refine pC Tryz.func200 rfl ?_
 (repeat' first|apply wZ;rfl|show Cn _;constructor)
 refine mkM (enc:=Nm.enc) (f:=ptF) rfl (λa j=> ?_)
 (repeat' first|apply wZ;rfl|show Cn _;constructor)
 refine mkM (enc:=axB) (f:=mU) rfl (λid2 b=> ?_);have j:st a=none:=j;have o:a≠id2:=by intro e;subst e;have:=b;simp only [St.put,St.pv,St.sst,aA] at this;cases this
 have b:st id2=none:=by have:=b;simp only [St.put,St.pv,St.sst] at this;exact (aB (Ne.symm o)).symm.trans this
 have w:=Ne.symm o
 (repeat' first|apply wZ;rfl|show Cn _;constructor)
 refine aC (X:={x:Nat//x<=l.length/\kD l [] []=kD (l.drop x) (dW (l.take x)) (eR (l.take x))}) (λi=>(((((((St.nil 94 (upd (upd st a (some (.map (aX Nm.enc ptF (dW (l.take i.1)))))) id2 (some (.map (aX axB mU (eR (l.take i.1))))))).pv 0 (.seq (l.map Pt.cells))).pv 4 (.mref a)).pv 5 (.mref id2)).pv 18 (.seq (l.map Pt.cells))).pv 19 ((vi ((((l.map Pt.cells)).length:Nat))))).pv 20 ((vi ((i.1:Nat)))))) (λi=>l.length-i.1) ⟨0,by omega,rfl⟩ ?_ (λi=> ?_)
 ·(repeat' first|show Cn (.t _ _);exact Cn.t0|show Cn _;constructor|exact rfl)
 obtain ⟨i,hi,c⟩:=i;dsimp only;have hs:=λh:i<l.length=>aoK h (m:=dW (l.take i)) (t:=eR (l.take i));have k:=λh:i<l.length=>aiR h;have n:=λh:i<l.length=>ajH h
 (repeat' first|apply wDm pk;rfl;kernel_rfl;rfl;rfl|(apply Cn.cf;focus (((first|apply oM|apply mF));done))|(show Cn (.r _ _ _);refine .any ⟨_,_, ?zs,rfl,zwr _, ?zh, ?zr⟩;(case zh=>(refine aU ?_ ‹_›;(repeat refine aU ?_ ‹_›);exact zsr _));(case zr=>((have e:eZ l=false:=(by unfold eZ;rw [c,hs (by omega)];first|simp [tZ, *];done|(rcases ‹_\/_›with q|q<;>simp [tZ, *]));exact ⟨⟨.val (.map none),by rw [e]⟩,rfl⟩))))|refine ⟨⟨i+1,by omega,by rw [c,hs (by omega),k (by omega),n (by omega)];simp [tZ, *]⟩, ?_, ?_⟩;(simp only [k (show i<l.length by omega),n (show i<l.length by omega)])|show Cn (.t _ _);refine .any (cM ?_);(simp only [St.pv,St.put,St.sst,St.setv,St.nil,St.var,eH]);(rw [aK0 ‹_›]);(done)|apply wZ;rfl|show Cn _;constructor|exact rfl|(apply aDJ pk Nm.key (f:=ptF);(iterate 5 rfl);rotate_left;rfl;((focus ((repeat (first|exact aA _ _ _|refine (aB ‹_›).trans ?_));done)));rfl;intro v hv;rotate_left;intro hv;rotate_left)|apply meA pk Nm.key (f:=ptF) (z:=Pt.zero);(iterate 6 rfl);((focus ((repeat (first|exact aA _ _ _|refine (aB ‹_›).trans ?_));done)));rfl|apply esA pk Nm.key (f:=ptF);(iterate 4 rfl);(exact aA _ _ _);rfl|(apply aDJ pk aHH (f:=mU);(iterate 5 rfl);rotate_left;rfl;(exact aA _ _ _);rfl;intro v hv;rotate_left;intro hv;rotate_left)|apply muA pk aHH (f:=mU);(exact .inr rfl);(iterate 5 rfl);((focus ((repeat (first|exact aA _ _ _|refine (aB ‹_›).trans ?_));done)));rfl|apply wY;rfl|apply wI;rfl|apply gE;omega|omega|simp only [zql];omega|(intro h;simp at h))
 have u:l.take i=l:=ztl (by omega);have A:kD l [] []=true:=by rw [c,List.drop_eq_nil_of_le (by omega)];rfl
 refine aC (X:={x:Nat//x<=l.length/\(l.take x).all (aAY (dW (l.take i)))=true}) (λy=>(((((St.nil 94 (upd (upd st a (some (.map (aX Nm.enc ptF (dW (l.take i)))))) id2 (some (.map (aX axB mU (eR (l.take i))))))).pv 4 (.mref a)).pv 65 (.seq (l.map Pt.cells))).pv 66 ((vi ((((l.map Pt.cells)).length:Nat))))).pv 67 ((vi ((y.1:Nat)))))) (λy=>l.length-y.1) ⟨0,by omega,rfl⟩ ?_ (λy=> ?_)
 ·(repeat' first|show Cn (.t _ _);exact Cn.t0|show Cn _;constructor|exact rfl)
 clear hs k n;obtain ⟨y,hy,g⟩:=y;dsimp only
 (repeat' first|(apply Cn.cf;focus (((first|apply qS|apply oJ|apply (oJ Pt.zero)));done))|(show Cn (.r _ _ _);refine .any ⟨_,_, ?zs,rfl,zwr _, ?zh, ?zr⟩;(case zh=>(refine aU ?_ ‹_›;(repeat refine aU ?_ ‹_›);exact zsr _));(case zr=>((first|have e:eZ l=false:=(by unfold eZ;simp only [u] at*;rw [A,Bool.true_and,List.all_eq_false];refine ⟨l[y]'‹_›,zgm _, ?_⟩;simp [aAY,Nm.ext_iff,Dt.ext_iff,Nm.zero,Dt.zero,and_assoc, *];try (intros;omega));exact ⟨⟨.val (.map none),by rw [e]⟩,rfl⟩|have e:eZ l=true:=(by unfold eZ;simp only [u] at*;rw [A,Bool.true_and,<-g,ztl (by omega)]);exact ⟨⟨.mref a,by rw [e]⟩,rfl⟩))))|(refine ⟨⟨y+1,by omega,by simp only [u] at*;rw [List.take_succ_eq_append_getElem (by omega),List.all_append,g];simp [aAY,Nm.ext_iff,Dt.ext_iff,Nm.zero,Dt.zero,and_assoc, *];try grind⟩, ?_, ?_⟩)|show Cn (.t _ _);exact Cn.t0|apply wZ;rfl|show Cn _;constructor|exact rfl|(apply aDJ pk Nm.key (f:=ptF);(iterate 5 rfl);rotate_left;rfl;((focus ((repeat (first|exact aA _ _ _|refine (aB ‹_›).trans ?_));done)));rfl;intro v hv;rotate_left;intro hv;rotate_left)|apply wY;rfl|apply wI;rfl|apply gE;omega|omega|simp only [zql];omega|(intro h;simp at h))
def eN (a b:Pt):Int:=if aN a=aN b then a.at_-b.at_ else if gI (aN b) (aN a) then-1 else 1
theorem nO {p:Pt} (h:bL p=true):0<=p.at_/\p.at_<=1999:=by
 simp only [bL,mayN,withinB,zba,zde] at h;exact h.1.2.2
theorem iU (a b:Pt) (ha:bL a=true) (hb:bL b=true):PF Tryz.prog 264 [.agg a.cells, .agg b.cells] (vi (eN a b)):=by
 have c:=nO ha;have e:=nO hb;refine pF Tryz.func264 rfl (λst=> ?_)
 (repeat' first|apply wZ;rfl|show Cn _;constructor|exact rfl|apply KR.mk;kernel_rfl|((first|apply (lS a)|apply (lS b)|apply (nK (aN b) (aN a))))|show (_:PV)=_;(simp only [eN,Sp.ext_iff];simp_all);done|apply wY;rfl|omega|(intro h;simp at h)|intro h)
theorem agI (a:Sp):gI a a=false:=by simp [gI]
theorem afX (a b:Sp):gI a b=true↔a.time<b.time\/a.time=b.time/\(a.dev<b.dev\/a.dev=b.dev/\a.seq<b.seq):=by
 unfold gI;split
 ·rw [zde];omega
 ·split
  ·rw [zde];omega
  ·rw [zde];omega
def eV (a b:Pt):Prop:=gI (aN b) (aN a)=true\/aN a=aN b/\a.at_<b.at_
theorem ahF (a b:Pt):eN a b<0↔eV a b:=by
 unfold eN eV;by_cases h:aN a=aN b
 ·rw [zp h,h,agI];simp;omega
 ·rw [zn h]
  split
  ·rename_i c;simp [c]
  ·rename_i c;simp [c,h]
abbrev Fp :={p:Pt//bL p=true}
instance : Inhabited Fp:=⟨⟨⟨⟨1,0,e0⟩,⟨1,1⟩,0,1,Dt.zero,0,false⟩,by decide⟩⟩
def aCi (a b:Fp):Int:=eN a.1 b.1
theorem fH (a b:Pt):eV a b↔b.time<a.time\/b.time=a.time/\(b.dot.dev<a.dot.dev\/b.dot.dev=a.dot.dev/\(b.dot.seq<a.dot.seq\/b.dot.seq=a.dot.seq/\a.at_<b.at_)):=by
 unfold eV;rw [afX,Sp.ext_iff];simp only [aN];omega
theorem aBw :Go.Sort.SWO (ltOf aCi):=by
 have h:∀x y:Fp,ltOf aCi x y=true↔eV x.1 y.1:=λx y=>by rw [ltOf,zde];exact ahF _ _
 have hf:∀x y:Fp,ltOf aCi x y=false↔¬eV x.1 y.1:=λx y=>by rw [<-h,Bool.not_eq_true]
 refine ⟨λx=>(hf x x).2 ?_,λx y z a b=> ?_,λx y z a b=> ?_⟩
 ·rw [fH];omega
 ·rw [h,fH] at a b⊢;omega
 ·rw [hf,fH] at a b⊢;omega
def gA (l:List Pt) (k:Nm):List Pt:=l.filter λp=>decide (aH p=k)
theorem xE {l:List Pt} {i:Nat} (h:i<l.length) (k:Nm):gA (l.take (i+1)) k=if aH l[i]=k then gA (l.take i) k++[l[i]] else gA (l.take i) k:=by
 unfold gA;rw [List.take_succ_eq_append_getElem h,List.filter_append];by_cases hk:aH l[i]=k<;>simp [hk]
def acP (x:Nat×Nat):PV:= .vec x.1 11 0 x.2
structure FamB (st:aD) (l:List Pt) (idm:Nat) (K:List (Nm×(Nat×Nat))) (S:aD):Prop where
 old:∀j,st j≠none->S j=st j
 hm:S idm=some (.map (aX Nm.enc acP K))
 mf:st idm=none
 arr:∀k id n,(k,(id,n))∈K->S id=some (.arr 149 ((gA l k).map Pt.cells))/\n=(gA l k).length/\st id=none
 keys:(K.map (·.1)).Nodup
 ids:(K.map (·.2.1)).Nodup
 non:∀k,bZ k K=none->gA l k=[]
theorem qZ {K V:Type} [DecidableEq K] {k:K} {v:V}:∀{l:List (K×V)},bZ k l=some v->(k,v)∈l
  |(k',v')::l,h=>by
    simp only [bZ] at h
    split at h
    · rename_i e;injection h with h;subst h;subst e;simp
    · exact List.mem_cons_of_mem _ (qZ h)
theorem abK (l:List Pt) (hl:l.length<4611686018427387904):PF Tryz.prog 200 [.seq (l.map Pt.cells)] (.tup [.und,(vb (eZ l))]):=λst=>
 aJ8 (aER l st hl) λp st' ⟨⟨m,e⟩,h⟩=>⟨_,e▸Wk.tup (.cons (Wk.und m) (.cons (zwr _) .nil)),rfl,h⟩
theorem xL :Tryz.prog.bytesOf 149=96:=by kernel_rfl
theorem FamB.fresh {st S:aD} {l:List Pt} {idm:Nat} {K:List (Nm×(Nat×Nat))} (h:FamB st l idm K S) {id:Nat} (a:S id=none):st id=none/\id≠idm/\∀k i n,(k,(i,n))∈K->id≠i:=by
 refine ⟨?_, ?_, ?_⟩
 ·cases hs:st id with
  |none=>rfl
  |some o=>have:=h.old id (by rw [hs];simp);rw [a,hs] at this;cases this
 ·intro e;subst e;rw [h.hm] at a;cases a
 ·intro k i n hk e;subst e;rw [(h.arr k _ n hk).1] at a;cases a
theorem FamB.notm {st S:aD} {l:List Pt} {idm:Nat} {K:List (Nm×(Nat×Nat))} (h:FamB st l idm K S) {k:Nm} {i n:Nat} (hk:(k,(i,n))∈K):i≠idm:=by
 intro e;subst e;have:=(h.arr k _ n hk).1;rw [h.hm] at this;cases this
theorem sD {K V:Type} [DecidableEq K] (k k':K) (v:V):∀(l:List (K×V)),bZ k' (cL k v l)=if k'=k then some v else bZ k' l
 |[]=>by simp only [cL,bZ]
 |e::l=>by
  have b:=sD k k' v l
  simp only [cL]
  split
  ·rename_i h;simp only [bZ];split<;>simp_all
  ·rename_i h;simp only [bZ,b];split
   ·rename_i a;rw [zn (λe=>h (by rw [<-e,a]))]
   ·rfl
theorem wS {K V:Type} [DecidableEq K] {k:K} {v:V} {x:K×V}:∀{l:List (K×V)},(l.map (·.1)).Nodup->x∈cL k v l->x=(k,v)\/x∈l/\x.1≠k
 |[],_,h=>by simp only [cL,zms] at h;exact .inl h
 |e::l,hn,h=>by
  simp only [zmp,List.nodup_cons] at hn
  simp only [cL] at h
  split at h
  ·rename_i a
   rcases zmc.1 h with h|h
   ·exact .inl h
   ·refine .inr ⟨List.mem_cons_of_mem _ h,λhh=>hn.1 ?_⟩
    rw [<-a,<-hh];exact List.mem_map.2 ⟨x,h,rfl⟩
  ·rename_i a
   rcases zmc.1 h with h|h
   ·subst h;exact .inr ⟨List.mem_cons_self,λhh=>a hh.symm⟩
   ·rcases wS hn.2 h with h|⟨h,b⟩
    ·exact .inl h
    ·exact .inr ⟨List.mem_cons_of_mem _ h,b⟩
theorem adA {K V:Type} [DecidableEq K] {k:K} {v:V}:∀{l:List (K×V)},(l.map (·.1)).Nodup->((cL k v l).map (·.1)).Nodup
 |[],_=>by simp [cL]
 |e::l,hn=>by
  simp only [zmp,List.nodup_cons] at hn
  simp only [cL]
  split
  ·rename_i b;simp only [zmp,List.nodup_cons,b];exact hn
  ·rename_i b
   simp only [zmp,List.nodup_cons];refine ⟨λhm=> ?_,adA hn.2⟩;obtain ⟨x,hx,a⟩:=List.mem_map.1 hm;rcases wS hn.2 hx with rfl|⟨h,_⟩
   ·exact b a
   ·exact hn.1 (List.mem_map.2 ⟨x,h,a⟩)
theorem aiC {K V:Type} [DecidableEq K] {k:K} {v:V} {g:V->Nat}:∀{l:List (K×V)},(l.map λe=>g e.2).Nodup->(l.map (·.1)).Nodup->(∀e∈l,g e.2≠g v)->((cL k v l).map λe=>g e.2).Nodup
 |[],_,_,_=>by simp [cL]
 |e::l,hn,hk,hv=>by
  simp only [zmp,List.nodup_cons] at hn hk
  simp only [cL]
  split
  ·simp only [zmp,List.nodup_cons]
   refine ⟨λhm=> ?_,hn.2⟩;obtain ⟨x,hx,a⟩:=List.mem_map.1 hm;exact hv x (List.mem_cons_of_mem _ hx) a
  ·simp only [zmp,List.nodup_cons]
   refine ⟨λhm=> ?_,aiC hn.2 hk.2 λx hx=>hv x (List.mem_cons_of_mem _ hx)⟩;obtain ⟨x,hx,a⟩:=List.mem_map.1 hm;rcases wS hk.2 hx with rfl|⟨h,_⟩
   ·exact hv e List.mem_cons_self a.symm
   ·exact hn.1 (List.mem_map.2 ⟨x,h,a⟩)
theorem xM {α:Type} {g:α->Nat}:∀{l:List α},(l.map g).Nodup->∀{a b},a∈l->b∈l->g a=g b->a=b
 |[],_,_,_,h,_,_=>by cases h
 |x::l,hn,a,b,ha,hb,e=>by
  simp only [zmp,List.nodup_cons] at hn
  rcases zmc.1 ha with ha|ha<;>rcases zmc.1 hb with hb|hb
  ·rw [ha,hb]
  ·exact (hn.1 (List.mem_map.2 ⟨b,hb,by rw [<-e,ha]⟩)).elim
  ·exact (hn.1 (List.mem_map.2 ⟨a,ha,by rw [e,hb]⟩)).elim
  ·exact xM hn.2 ha hb e
theorem FamB.step {st S S1:aD} {l:List Pt} {i:Nat} (hi:i<l.length) {idm id m:Nat} {K:List (Nm×(Nat×Nat))} (h:FamB st (l.take i) idm K S) (c:S id=none) (hm:m=(gA (l.take i) (aH l[i])).length+1) (q:∀j,(∀n,(aH l[i],(j,n))∉K)->S1 j=S j):
  FamB st (l.take (i+1)) idm (cL (aH l[i]) (id,m) K) (upd (upd S1 id (some (.arr 149 ((gA (l.take i) (aH l[i])++[l[i]]).map Pt.cells)))) idm (some (.map (aX Nm.enc acP (cL (aH l[i]) (id,m) K))))):=by
 obtain ⟨o,y,p⟩:=h.fresh c
 refine ⟨λj hj=> ?_,aA _ _ _,h.mf,λk j n hx=> ?_,adA h.keys,aiC (g:=(·.1)) h.ids h.keys λe z=> ?_,λk a=> ?_⟩
 ·rw [aB (λe=>by subst e;exact hj h.mf),aB (λe=>by subst e;exact hj o),q j λn hn=>hj (h.arr _ j n hn).2.2];exact h.old j hj
 ·rcases wS h.keys hx with e|⟨hx,b⟩
  ·simp only [Prod.mk.injEq] at e
   obtain ⟨rfl,rfl,rfl⟩:=e;rw [xE hi,zp rfl,aB y,aA];exact ⟨rfl,by rw [hm];simp,o⟩
  ·obtain ⟨u,v,w⟩:=h.arr k j n hx
   rw [xE hi,zn (Ne.symm b),aB (h.notm hx),aB (λe=>p k j n hx e.symm),q j λn' f=>b ?_]
   ·exact ⟨u,v,w⟩
   ·exact congrArg Prod.fst (xM h.ids hx f rfl)
 ·exact λx=>p e.1 e.2.1 e.2.2 z x.symm
 ·rw [sD] at a
  split at a
  ·cases a
  ·rename_i b
   rw [xE hi,zn (Ne.symm b)];exact h.non k a
theorem FamB.nil {st:aD} {idm:Nat} (h:st idm=none):FamB st [] idm [] (upd st idm (some (.map (aX Nm.enc acP [])))):=
 ⟨λj hj=>aB λe=>by subst e;exact hj h,aA _ _ _,h,λ_ _ _ h=>(by cases h),by simp,by simp,λ_ _=>rfl⟩
theorem apD (l:List Pt) (k:Nm):(gA l k).length<=l.length:=List.length_filter_le _ _
end
end Go.Proofs.YtfablfldonhkiaaGreatDoor.T
