import Derived.Still
import Derived.Below
import Derived.OrdersIn
import Derived.RangeFuncRecord
import Derived.WalkKit
set_option linter.all false
namespace Go.Abs
open Go
variable{b d id t:Nat}{P:Program}{B B':Nat->Prop}{e w w':World}{p:Prop}{α:Type}{a:Act}{f x y:Code}{Q j:Exit->Act->World->Prop}{v z:Value}{args c tmps xs:Array Value}{R:Ending->World->Prop}{l:List Oper}{o:Oper}{K:Act->World->Prop}
section
inductive PV where
 |und
 |val (v:Value)
 |agg (cs:List PV)
 |tup (cs:List PV)
 |seq (rows:List (List PV))
 |own (id:Nat) (rows:List (List PV))
 |rp (cs:List PV)
 |fn (f:FuncId) (caps:List PV)
 |fmap (es:List (Value×PV))
 |ref (id off:Nat)
 |vec (id sz off len:Nat)
 |el (id sz j off:Nat)
 |mref (id:Nat)
 |emp
 |yld (id:Nat)
instance : Inhabited PV:=⟨.und⟩
abbrev vi(n:Int):PV:= .val (.int .i64 n)
abbrev vu(n:Int):PV:= .val (.int .u64 n)
abbrev vb(b:Bool):PV:= .val (.bool b)
abbrev vs(s:ByteArray):PV:= .val (.string s)
def PV.cells :PV->List PV
 | .agg cs=>cs
 |v=>[v]
def PV.one :PV->Bool
 | .val (.agg _)| .val (.tuple _)| .und| .tup _| .agg _=>false
 |_=>true
def PV.flat :PV->Bool
 | .agg cs=>cs.all PV.one
 |p=>p.one
structure G where
 heap:Array Obj
 io:Nat->Option (Nat×Nat×Nat)
 fr:Nat->Nat
 fm:Nat->Prop
def bB(h:Array Obj)(b i:Nat):Option Value:=
 match h[b]? with
 |some (.cells c _ _)=>c[i]?
 |_=>none
mutual
def Rep(g:G):PV->Value->Prop
 | .und,_=>True
 | .val v,x=>x=v
 | .agg cs,x=>∃vs:List Value,x= .agg vs.toArray/\RepL g cs vs
 | .tup cs,x=>∃vs:List Value,x= .tuple vs.toArray/\RepL g cs vs
 | .seq rows,x=>∃a cap,x= .slice a rows.length cap/\rows.length<=cap/\rows.length<2^62/\(rows=[]\/∃b off sz,a=some ⟨b,off,none⟩/\RepR g b off sz rows)
 | .own id rows,x=>∃b cap sz,g.io id=some (b,rows.length,cap)/\rows.length<=cap/\rows.length<2^62/\((cap=0/\∃a,x= .slice a 0 0)\/(cap≠0/\x= .slice (some ⟨b,0,none⟩) rows.length cap/\RepR g b 0 sz rows))
 | .rp cs,x=>∃b off,x= .pointer (some ⟨b,off,none⟩)/\RepA g b off cs
 | .fn f caps,x=>∃vs:List Value,x= .func (.func f) #[] vs.toArray/\RepL g caps vs
 | .fmap es,x=>∃b c d,x= .map (some b)/\g.fm b/\g.heap[b]?=some (.map c d)/\RepE g es c.toList
 | .ref id off,x=>∃b n cap,g.io id=some (b,n,cap)/\x= .pointer (some ⟨b,off,none⟩)
 | .vec id sz off len,x=>∃b n cap,g.io id=some (b,n,cap)/\off+len<=n/\n<=cap/\n<2^62/\((cap=0/\∃a,x= .slice a 0 0)\/(cap≠0/\x= .slice (some ⟨b,off*sz,none⟩) len (cap-off)))
 | .el id sz j off,x=>∃b n cap,g.io id=some (b,n,cap)/\x= .pointer (some ⟨b,j*sz+off,none⟩)
 | .mref id,x=>∃b n cap,g.io id=some (b,n,cap)/\x= .map (some b)
 | .emp,x=>∃a,x= .slice a 0 0
 | .yld id,x=>∃b n cap,g.io id=some (b,n,cap)/\x= .func (.yield b) #[] #[]
def RepL(g:G):List PV->List Value->Prop
 |[],vs=>vs=[]
 |p::ps,vs=>∃v a,vs=v::a/\Rep g p v/\RepL g ps a
def RepA(g:G)(b off:Nat):List PV->Prop
 |[]=>True
 |p::ps=>(∃v,bB g.heap b off=some v/\off<g.fr b/\Rep g p v)/\RepA g b (off+1) ps
def RepR(g:G)(b off sz:Nat):List (List PV)->Prop
 |[]=>True
 |r::rs=>r.length=sz/\RepA g b off r/\RepR g b (off+sz) sz rs
def RepE(g:G):List (Value×PV)->List MapEntry->Prop
 |[],vs=>vs=[]
 |e::es,vs=>∃m a,vs=m::a/\m.key=e.1/\Rep g e.2 m.val/\RepE g es a
end
structure Le (g g':G):Prop where
 io:∀id x,g.io id=some x->g'.io id=some x
 fr:∀b,g.fr b<=g'.fr b
 cell:∀b i,i<g.fr b->bB g'.heap b i=bB g.heap b i
 fm:∀b,g.fm b->g'.fm b/\g'.heap[b]?=g.heap[b]?
theorem Le.refl(g:G):Le g g:=⟨λ_ _ h=>h,λ_=>Nat.le_refl _,λ_ _ _=>rfl,λ_ h=>⟨h,rfl⟩⟩
theorem Le.trans{a b c:G}(h:Le a b)(k:Le b c):Le a c:=
  ⟨λid x e=>k.io _ x (h.io _ x e),λi=>Nat.le_trans (h.fr i) (k.fr i),
   λb i hi=>(k.cell b i (Nat.lt_of_lt_of_le hi (h.fr b))).trans (h.cell b i hi),
   λb hb=>⟨(k.fm b (h.fm b hb).1).1,(k.fm b (h.fm b hb).1).2.trans (h.fm b hb).2⟩⟩
mutual
theorem Rep.mono{g g':G}(h:Le g g'):∀(p:PV)(v:Value),Rep g p v->Rep g' p v
 | .und,_,_=>trivial
 | .val _,_,e=>by simpa[Rep]using e
 | .agg cs,x,e=>by
  simp only[Rep]at e⊢
  have⟨vs,c,d⟩:=e
  exact⟨vs,c,RepL.mono h cs vs d⟩
 | .tup cs,x,e=>by
  simp only[Rep]at e⊢
  have⟨vs,c,d⟩:=e
  exact⟨vs,c,RepL.mono h cs vs d⟩
 | .seq rows,x,e=>by
  simp only[Rep]at e⊢
  have⟨a,cap,c,d,l,i⟩:=e
  refine⟨a,cap,c,d,l,?_⟩
  rcases i with i|⟨b,off,sz,i,o⟩
  ·exact .inl i
  ·exact .inr ⟨b,off,sz,i,RepR.mono h b off sz rows o⟩
 | .own id rows,x,e=>by
  simp only[Rep]at e⊢
  have⟨b,cap,sz,c,d,l,i⟩:=e
  refine⟨b,cap,sz,h.io _ _ c,d,l,?_⟩
  rcases i with i|⟨i,o,q⟩
  ·exact .inl i
  ·exact .inr ⟨i,o,RepR.mono h b 0 sz rows q⟩
 | .rp cs,x,e=>by
  simp only[Rep]at e⊢
  have⟨b,off,c,d⟩:=e
  exact⟨b,off,c,RepA.mono h b off cs d⟩
 | .fn f caps,x,e=>by
  simp only[Rep]at e⊢
  have⟨vs,c,d⟩:=e
  exact⟨vs,c,RepL.mono h caps vs d⟩
 | .fmap es,x,e=>by
  simp only[Rep]at e⊢
  have⟨b,m,k,c,d,l,i⟩:=e
  have⟨r,t⟩:=h.fm b d
  exact⟨b,m,k,c,r,t.trans l,RepE.mono h es _ i⟩
 | .ref id off,x,e=>by
  simp only[Rep]at e⊢
  have⟨b,n,cap,c,d⟩:=e
  exact⟨b,n,cap,h.io _ _ c,d⟩
 | .vec id sz off len,x,e=>by
  simp only[Rep]at e⊢
  have⟨b,n,cap,c,d⟩:=e
  exact⟨b,n,cap,h.io _ _ c,d⟩
 | .el id sz j off,x,e=>by
  simp only[Rep]at e⊢
  have⟨b,n,cap,c,d⟩:=e
  exact⟨b,n,cap,h.io _ _ c,d⟩
 | .mref id,x,e=>by
  simp only[Rep]at e⊢
  have⟨b,n,cap,c,d⟩:=e
  exact⟨b,n,cap,h.io _ _ c,d⟩
 | .emp,x,e=>by simpa only[Rep]using e
 | .yld id,x,e=>by
  simp only[Rep]at e⊢
  have⟨b,n,cap,c,d⟩:=e
  exact⟨b,n,cap,h.io _ _ c,d⟩
theorem RepL.mono{g g':G}(h:Le g g'):∀(ps:List PV)(vs:List Value),RepL g ps vs->RepL g' ps vs
 |[],_,e=>by simpa[RepL]using e
 |p::ps,vs,e=>by
  simp only[RepL]at e⊢
  have⟨v,a,b,c,d⟩:=e
  exact⟨v,a,b,Rep.mono h p v c,RepL.mono h ps a d⟩
theorem RepA.mono{g g':G}(h:Le g g')(b off:Nat):∀(ps:List PV),RepA g b off ps->RepA g' b off ps
 |[],_=>by simp[RepA]
 |p::ps,e=>by
  simp only[RepA]at e⊢
  obtain⟨⟨v,c,a,d⟩,f⟩:=e
  exact⟨⟨v,(h.cell b off a).trans c,Nat.lt_of_lt_of_le a (h.fr b),Rep.mono h p v d⟩,RepA.mono h b (off+1) ps f⟩
theorem RepR.mono{g g':G}(h:Le g g')(b off sz:Nat):∀(rs:List (List PV)),RepR g b off sz rs->RepR g' b off sz rs
 |[],_=>by simp[RepR]
 |r::rs,e=>by
  simp only[RepR]at e⊢
  exact⟨e.1,RepA.mono h b off r e.2.1,RepR.mono h b (off+sz) sz rs e.2.2⟩
theorem RepE.mono{g g':G}(h:Le g g'):∀(es:List (Value×PV))(ms:List MapEntry),RepE g es ms->RepE g' es ms
  |[],_,e=>by simpa[RepE]using e
  |(k,p)::es,ms,e=>by
    simp only[RepE]at e⊢
    have⟨m,a,b,c,d,f⟩:=e
    exact⟨m,a,b,c,Rep.mono h p m.val d,RepE.mono h es a f⟩
end
inductive AObj where
 |tok (T:TypeId)
 |cells (T:TypeId) (cs:List PV)
 |arr (T:TypeId) (rows:List (List PV))
 |map (es:List (Value×PV))
 |iter (cur:Option (Value×PV)) (left:List (Value×PV))
 |loop (q:LoopState) (n:Nat) (env:Nat->PV) (ps:Array Nat) (assign body:Code)
 |full (T:TypeId) (rows:List (List PV))
def blk(g:G)(id:Nat):Option Nat:=
 match g.io id with
 |some (b,_,cap)=>if cap=0 then none else some b
 |none=>none
def Stamps(a:List MapEntry)(b:Nat):Prop:=b=a.length/\∀(i:Nat) e,a[i]?=some e->e.born=i
def aeV(a:List MapEntry)(b:Nat):Prop:=(∀e∈a,e.born<b)/\(a.map (·.born)).Nodup
theorem Stamps.weak{a:List MapEntry}(h:Stamps a b):aeV a b:=by
 refine⟨λe c=>?_,?_⟩
 ·have⟨i,hi⟩:=List.mem_iff_getElem?.1 c
  rw[h.2 i e hi,h.1]
  grind
 ·have:a.map (·.born)=List.range a.length:=by
   apply List.ext_getElem?;intro i;rw[List.getElem?_map];by_cases hi:i<a.length
   ·rw[List.getElem?_eq_getElem hi,List.getElem?_range hi,Option.map_some,h.2 i _ (List.getElem?_eq_getElem _)]
   grind
  grind
def ObjOK(P:Program)(g:G)(id:Nat):AObj->Prop
 | .tok T=>∃b n cap,g.io id=some (b,n,cap)/\(cap=0\/∃c,g.heap[b]?=some (.cells c T (0,0))/\c.size=cap*P.cellsOf T/\g.fr b=n*P.cellsOf T)
 | .cells T cs=>∃b n cap vs,g.io id=some (b,n,cap)/\cap≠0/\g.heap[b]?=some (.cells vs T (0,0))/\RepL g cs vs.toList/\g.fr b=0
 | .arr T rows=>∃b cap,g.io id=some (b,rows.length,cap)/\((cap=0/\rows=[])\/(cap≠0/\∃vs sp,rows.length<=cap/\g.heap[b]?=some (.cells (vs++sp).toArray T (0,0))/\(vs++sp).length=cap*P.cellsOf T/\(∀r∈rows,r.length=P.cellsOf T)/\RepL g rows.flatten vs/\g.fr b=0))
 | .map es=>∃b n cap d a,g.io id=some (b,n,cap)/\cap≠0/\g.heap[b]?=some (.map d a)/\RepE g es d.toList/\¬g.fm b/\Stamps d.toList a
 | .iter cur left=>∃b n cap h d a f,g.io id=some (b,n,cap)/\cap≠0/\g.heap[b]?=some (.mapIter (some h) a f a)/\g.fm h/\g.heap[h]?=some (.map d a)/\aeV d.toList a/\RepE g left (d.toList.filter λe=> !f.contains e.born)/\∀k p,cur=some (k,p)->∃e∈d.toList,e.key=k/\Rep g p e.val/\f.back?=some e.born
 | .loop q n env ps assign body=>∃b m cap fn tmps i,g.io id=some (b,m,cap)/\cap≠0/\g.heap[b]?=some (.loop {state:=q,pending:=none,fn,tmps,params:=ps,assign,body,defers:=i})/\tmps.size=n/\∀t,Rep g (env t) (tmps.getD t undef)
 | .full T rows=>∃b vs,g.io id=some (b,rows.length,rows.length)/\rows.length≠0/\g.heap[b]?=some (.cells (vs:List Value).toArray T (0,0))/\vs.length=rows.length*P.cellsOf T/\(∀r∈rows,r.length=P.cellsOf T)/\RepL g rows.flatten vs/\g.fr b=0
def aHT :Obj->Bool
 | .deferred _=>true
 |_=>false
theorem aaN{g:G}{o:AObj}(h:ObjOK P g id o):∃x,g.io id=some x:=by
 cases o<;>simp only[ObjOK]at h
 ·grind
 ·grind
 ·grind
 ·grind
 ·grind
 ·grind
 grind
theorem xF{g:G}{o:AObj}(h:ObjOK P g id o)(hb:Go.Abs.blk g id=some b):∃x,g.heap[b]?=some x/\aHT x=false:=by
 unfold Go.Abs.blk at hb;cases o
 ·obtain⟨b',n,cap,e,h|⟨x,a,_⟩⟩:=h
  ·rw[e]at hb;simp[h]at hb
  ·rw[e]at hb;simp at hb;exact⟨_,hb.2▸a,rfl⟩
 ·have⟨b',n,cap,x,e,_,a,_⟩:=h;rw[e]at hb;simp at hb;exact⟨_,hb.2▸a,rfl⟩
 ·obtain⟨b',cap,e,h|⟨_,x,y,_,a,_⟩⟩:=h
  ·rw[e]at hb;simp[h.1]at hb
  ·rw[e]at hb;simp at hb;exact⟨_,hb.2▸a,rfl⟩
 ·have⟨b',n,cap,x,y,e,_,a,_⟩:=h;rw[e]at hb;simp at hb;exact⟨_,hb.2▸a,rfl⟩
 ·have⟨b',n,cap,j,d,c,f,e,_,a,_⟩:=h;rw[e]at hb;simp at hb;exact⟨_,hb.2▸a,rfl⟩
 ·have⟨b',n,cap,fn,tmps,i,e,_,a,_⟩:=h;rw[e]at hb;simp at hb;exact⟨_,hb.2▸a,rfl⟩
 ·have⟨b',vs,e,_,a,_⟩:=h;rw[e]at hb;simp at hb;exact⟨_,hb.2▸a,rfl⟩
theorem ObjOK.keep{g g':G}(hl:Le g g')(hb:∀b,Go.Abs.blk g id=some b->g'.heap[b]?=g.heap[b]?/\g'.fr b=g.fr b/\(g'.fm b↔g.fm b)):∀{o:AObj},ObjOK P g id o->ObjOK P g' id o:=by
 have key:∀{b n cap},g.io id=some (b,n,cap)->cap≠0->Go.Abs.blk g id=some b:=fun{b n cap} c a=>by simp[Go.Abs.blk,c,a]
 intro o h;cases o with
 |tok T=>
  simp only[ObjOK]at h⊢;have⟨b,n,cap,c,a⟩:=h;refine⟨b,n,cap,hl.io _ _ c,?_⟩
  grind
 |cells T cs=>
  simp only[ObjOK]at h⊢;have⟨b,n,cap,vs,c,a,i,h4,h5⟩:=h;have⟨k1,k2,l⟩:=hb b (key c a);exact⟨b,n,cap,vs,hl.io _ _ c,a,k1.trans i,RepL.mono hl _ _ h4,k2.trans h5⟩
 |arr T rows=>
  simp only[ObjOK]at h⊢;have⟨b,cap,c,a⟩:=h;refine⟨b,cap,hl.io _ _ c,a.imp (λh=>h) λ⟨a,vs,sp,i,h4,h5,j,r,h8⟩=>?_⟩;have⟨k1,k2,l⟩:=hb b (key c a);exact⟨a,vs,sp,i,k1.trans h4,h5,j,RepL.mono hl _ _ r,k2.trans h8⟩
 |map es=>
  simp only[ObjOK]at h⊢;have⟨b,n,cap,f,d,c,a,i,h4,h5,j⟩:=h;have⟨k1,k2,l⟩:=hb b (key c a);exact⟨b,n,cap,f,d,hl.io _ _ c,a,k1.trans i,RepE.mono hl _ _ h4,λhh=>h5 (l.1 hh),j⟩
 |iter cur left=>
  simp only[ObjOK]at h⊢;have⟨b,n,cap,w,f,d,u,c,a,i,h4,h5,j,r,h8⟩:=h;have⟨k1,k2,l⟩:=hb b (key c a);have⟨m1,y⟩:=hl.fm w h4;exact⟨b,n,cap,w,f,d,u,hl.io _ _ c,a,k1.trans i,m1,y.trans h5,j,RepE.mono hl _ _ r,λk p e=>by have⟨x,z,A,B,C⟩:=h8 k p e;exact⟨x,z,A,Rep.mono hl _ _ B,C⟩⟩
 |loop q n env ps assign body=>
  simp only[ObjOK]at h⊢;have⟨b,m,cap,fn,tmps,v,c,a,i,h4,h5⟩:=h;have⟨k1,k2,l⟩:=hb b (key c a);exact⟨b,m,cap,fn,tmps,v,hl.io _ _ c,a,k1.trans i,h4,λt=>Rep.mono hl _ _ (h5 t)⟩
 |full T rows=>
  simp only[ObjOK]at h⊢;have⟨b,vs,c,a,i,h4,h5,j,r⟩:=h;have⟨k1,k2,l⟩:=hb b (key c a);exact⟨b,vs,hl.io _ _ c,a,k1.trans i,h4,h5,RepL.mono hl _ _ j,k2.trans r⟩
abbrev aD :=Nat->Option AObj
structure MemOK (P:Program) (st:aD) (w:World) (g:G):Prop where
 heap:g.heap=w.heap
 obj:∀id o,st id=some o->ObjOK P g id o
 inj:∀id id' b,st id≠none->st id'≠none->blk g id=some b->blk g id'=some b->id=id'
 lt:∀b,g.fr b≠0->b<w.heap.size
 fmm:∀b,g.fm b->∃ents clock,w.heap[b]?=some (.map ents clock)/\aeV ents.toList clock
 fin:∃N,∀id,N<=id->g.io id=none
def Blocks(st:aD)(g:G)(b:Nat):Prop:=∃id,st id≠none/\blk g id=some b
structure Frame (B:Nat->Prop) (w:World) (g:G) (w':World) (g':G):Prop where
 os:w'.os=w.os
 tape:w'.tape=w.tape/\w.drawn<=w'.drawn
 output:w'.output=w.output
 size:w.heap.size<=w'.heap.size
 old:∀b,b<w.heap.size->¬B b->w'.heap[b]?=w.heap[b]?/\g'.fr b=g.fr b/\(g'.fm b↔g.fm b)
theorem Frame.refl(B:Nat->Prop)(w:World)(g:G):Frame B w g w g:=⟨rfl,⟨rfl,Nat.le_refl _⟩,rfl,Nat.le_refl _,λ_ _ _=>⟨rfl,rfl,Iff.rfl⟩⟩
theorem Frame.trans{d:World}{g a c:G}(h:Frame B w g d a)(k:Frame B' d a e c)(f:∀b,b<w.heap.size->B' b->B b):Frame B w g e c:=
 ⟨k.os.trans h.os,⟨k.tape.1.trans h.tape.1,Nat.le_trans h.tape.2 k.tape.2⟩,k.output.trans h.output,Nat.le_trans h.size k.size,λb hb hn=>by
  have i:=h.old b hb hn
  have j:=k.old b (Nat.lt_of_lt_of_le hb h.size) λx=>hn (f b hb x)
  grind⟩
theorem Frame.mono{g g':G}(h:Frame B w g w' g')(a:∀b,B b->B' b):Frame B' w g w' g':=
 ⟨h.os,h.tape,h.output,h.size,λb hb hn=>h.old b hb λx=>hn (a b x)⟩
def jB(P:Program)(f:FuncId):Bool:=
  match P.funcs[f]? with
  | some fn => !(fn.name == "runtime.NumGoroutine") && fn.body.isSome
  |none=>false
def PC(P:Program)(f:FuncId)(args:List PV)(st:aD)(R:PV->aD->Prop):Prop:=
 jB P f=true/\∀w g vs,MemOK P st w g->RepL g args vs->Calls P f vs.toArray w λe w'=>
  ∃v r st' g',e= .returned v/\R r st'/\Rep g' r v/\MemOK P st' w' g'/\Le g g'/\Frame (Blocks st g) w g w' g'/\∀b,Blocks st' g' b->Blocks st g b\/w.heap.size<=b
def PF (P:Program) (f:FuncId) (args:List PV) (r:PV):Prop:=∀st,PC P f args st λr' st'=>r'=r/\st'=st
theorem zqt.{u}{α:Sort u}{a b:α}:cond true a b=a:=rfl
theorem zqf.{u}{α:Sort u}{a b:α}:cond false a b=b:=rfl
theorem zql.{u,v}{α:Type u}{β:Type v}{l:List α}(f:α->β):(l.map f).length=l.length:=List.length_map f
theorem zqs.{u}{α:Type u}{l:Array α}{i:Nat}{a:α}:(l.setIfInBounds i a).size=l.size:=Array.size_setIfInBounds
theorem zn.{u}{c:Prop}{h:Decidable c}(a:¬c){α:Sort u}{t e:α}:(ite c t e)=e:=if_neg a
theorem zp.{u}{c:Prop}{h:Decidable c}(hc:c){α:Sort u}{t e:α}:(ite c t e)=t:=if_pos hc
theorem zls{a:Nat}:a<b.succ↔a<b∨a=b:=Nat.lt_succ_iff_lt_or_eq
theorem zgo.{u}{α:Type u}{a:α}{l:List α}(h:a∈l):∃i,∃h:i<l.length,l[i]=a:=List.getElem_of_mem h
theorem zdn[Decidable p](h:¬¬p):p:=Decidable.of_not_not h
theorem zms.{u}{α:Type u}{a b:α}:a∈[b]↔a=b:=List.mem_singleton
theorem ztl.{u}{α:Type u}{l:List α}{i:Nat}(h:l.length≤i):l.take i=l:=List.take_of_length_le h
theorem zge.{u}{α:Type u}{a:α}{l:List α}{i:Nat}:l[i]?=some a↔∃h:i<l.length,l[i]=a:=List.getElem?_eq_some_iff
theorem zgg.{u}{α:Type u}{l:List α}{i:Nat}(h:i<l.length):l[i]?=some l[i]:=List.getElem?_eq_getElem h
theorem zmp.{u,v}{α:Type u}{β:Type v}{f:α→β}{a:α}{l:List α}:(a::l).map f=f a::l.map f:=List.map_cons
theorem zba(a b:Bool):((a&&b)=true)=(a=true∧b=true):=Bool.and_eq_true a b
theorem zde[Decidable p]:(decide p=true)=p:=decide_eq_true_eq
theorem zgm.{u}{α:Type u}{l:List α}{n:Nat}(h:n<l.length):l[n]∈l:=List.getElem_mem h
theorem zla.{u}{α:Type u}{a b:List α}:(a++b).length=a.length+b.length:=List.length_append
theorem zlt.{u}{α:Type u}{i:Nat}{l:List α}:(l.take i).length=min i l.length:=List.length_take
theorem zld.{u}{α:Type u}{i:Nat}{l:List α}:(l.drop i).length=l.length-i:=List.length_drop
theorem zlc.{u}{α:Type u}{a:α}{l:List α}:(a::l).length=l.length+1:=List.length_cons
theorem zal.{u}{α:Type u}{p:α→Bool}{l:List α}:l.all p=true↔∀x∈l,p x=true:=List.all_eq_true
theorem zma.{u}{α:Type u}{a:α}{s t:List α}:a∈s++t↔a∈s∨a∈t:=List.mem_append
theorem zmc.{u}{α:Type u}{a b:α}{l:List α}:a∈b::l↔a=b∨a∈l:=List.mem_cons
theorem zep.{u}{α:Type u}[Inhabited α](l:List α)(i:Nat)(h:i<l.length):l[i]! =l[i]:=getElem!_pos l i h
theorem zts.{u}{α:Type u}{i:Nat}{l:List α}(h:i<l.length):l.take (i+1)=l.take i++[l[i]]:=List.take_succ_eq_append_getElem h
theorem zfi.{u}{α:Type u}{l:List α}{p:α→Bool}{i:Nat}:l.findIdx? p=some i↔∃h:i<l.length,p l[i]=true∧∀j (hji:j<i),¬p l[j]=true:=List.findIdx?_eq_some_iff_getElem
theorem znt(b:Bool):(¬b=true)=(b=false):=Bool.not_eq_true b
theorem znr(n:Nat):n≤n:=Nat.le_refl n
theorem zin(n:Nat):(n:Int).toNat=n:=Int.toNat_natCast n
theorem zbi{a b:Bool}:a=b↔(a=true↔b=true):=Bool.eq_iff_iff
theorem zmm.{u}{α:Type u}(y:α){a:α}{l:List α}(h:a∈l):a∈y::l:=List.mem_cons_of_mem y h
theorem zdf{h:Decidable p}:decide p=false↔¬p:=decide_eq_false_iff_not
theorem zmq.{u,v}{α:Type u}{β:Type v}{b:β}{f:α→β}{l:List α}:b∈l.map f↔∃a,a∈l∧f a=b:=List.mem_map
theorem zmd.{u,v}{α:Type u}{β:Type v}{f:α→β}{l m:List α}:(l++m).map f=l.map f++m.map f:=List.map_append
theorem zay.{u}{α:Type u}{p:α→Bool}{l:List α}:l.any p=true↔∃x,x∈l∧p x=true:=List.any_eq_true
theorem zas.{u}{α:Type u}(a b c:List α):a++b++c=a++(b++c):=List.append_assoc a b c
theorem zmr{m n:Nat}:m∈List.range n↔m<n:=List.mem_range
theorem zdt[Decidable p](h:p):decide p=true:=decide_eq_true h
theorem zdj[Decidable p](h:¬p):decide p=false:=decide_eq_false h
end
section
inductive E where
 |pv (p:PV)
 |adr (t off:Nat)
structure St where
 env:Nat->Bool×E
 L:Nat->Option (TypeId×List PV)
 ad:Nat->Bool
 st:aD
 n:Nat
 top:Option Nat
def St.sst(s:St)(st:aD):St:={s with st:=st}
def upd{α:Type}(f:Nat->α)(d:Nat)(v:α):Nat->α:=λt=>bif Nat.beq t d then v else f t
theorem aA(f:Nat->α)(d:Nat)(v:α):upd f d v d=v:=by simp[upd]
theorem aB{f:Nat->α}{v:α}(h:t≠d):upd f d v t=f t:=by
 have:Nat.beq t d=false:=by
  cases hb:Nat.beq t d
  ·rfl
  simp_all
 simp[upd,this]
theorem fE{f:Nat->α}{e:Nat}{v u:α}(h:d≠e):upd (upd f d v) e u=upd (upd f e u) d v:=by
 funext t
 by_cases a:t=d
 ·subst a;rw[aB h,aA,aA]
 ·by_cases b:t=e
  ·subst b;rw[aA,aB a,aA]
  ·rw[aB b,aB a,aB a,aB b]
def St.put(s:St)(d:Option Nat)(w:Bool)(e:E):St:=
 match d with
 |some d=>{s with env:=upd s.env d (w,e)}
 |none=>s
def EntOK(g:G)(lam:Nat->Nat):Bool×E->Value->Prop
 |(true, .pv p),x=>Rep g p x
 |(true, .adr t off),x=>x= .pointer (some ⟨lam t,off,none⟩)
 |(false,_),x=>x=undef
structure Ctx where
 w:World
 g:G
 B:Nat->Prop
 ro:Option Nat
def FR(ro:Option Nat):Fence:={Fence.wide with round:=ro}
def wQ(D:Nat):Deferred:={target:= .collected D,args:= #[]}
def DfOK(c:Ctx)(a:Act)(g:G):Prop:=∃b:List Nat,a.defers=b.map wQ/\b.Nodup/\∀D∈b,g.heap[D]?=some (.deferred (some []))/\c.w.heap.size<=D
theorem DfOK.mono{c:Ctx}{e:Act}{g g':G}(h:DfOK c a g)(ha:e.defers=a.defers)(hg:∀(D:Nat),g.heap[D]?=some (Obj.deferred (some []))->g'.heap[D]?=g.heap[D]?):DfOK c e g':=by
 have⟨f,i,j,b⟩:=h;exact⟨f,ha.trans i,j,λD d=>⟨(hg D (b D d).1).trans (b D d).1,(b D d).2⟩⟩
def aLo :Option Nat->Ctx->Prop
 |none,c=>c.ro=none
 |some i,c=>∃b m cap,c.ro=some b/\c.g.io i=some (b,m,cap)
structure SI (P:Program) (c:Ctx) (s:St) (a:Act) (w:World) (g:G) (lam:Nat->Nat):Prop where
 mem:MemOK P s.st w g
 le:Le c.g g
 frame:Frame c.B c.w c.g w g
 blk:∀b,Blocks s.st g b->c.B b\/c.w.heap.size<=b
 env:∀t,EntOK g lam (s.env t) (a.tmps.getD t undef)
 box:∀t T cs,s.L t=some (T,cs)->∃vs,g.heap[lam t]?=some (.cells vs T (0,0))/\RepL g cs vs.toList/\g.fr (lam t)=0/\c.w.heap.size<=lam t/\¬Blocks s.st g (lam t)
 inj:∀t t',s.L t≠none->s.L t'≠none->lam t=lam t'->t=t'
 ad:∀t w u off,s.env t=(w, .adr u off)->s.ad u=true
 adL:∀t,s.L t≠none->s.ad t=true
 defers:DfOK c a g
 n:a.tmps.size=s.n
 top:aLo s.top c
def PWp(P:Program)(h:Code)(Q:Exit->St->Prop)(s:St):Prop:=
 ∀c a w g lam,SI P c s a w g lam->h.wpIn (FR c.ro) 0 P (λe f w'=>∃d g' b,Q e d/\SI P c d f w' g' b) a w
theorem PWp.mono{Q d:Exit->St->Prop}{s:St}(h:PWp P f Q s)(hq:∀e s,Q e s->d e s):PWp P f d s:=
 λc a w g lam hs=>wpIn_mono (h c a w g _ hs) λ_ _ _ ⟨i,g',b,q,j⟩=>⟨i,g',b,hq _ _ q,j⟩
section
variable{P:Program}{Q:Exit->St->Prop}{s:St}
theorem aHc(h:Q .normal s):PWp P .skip Q s:=λ_ _ _ g lam hs=>wpIn_skip ⟨s,g,lam,h,hs⟩
theorem aGB(h:Q (.exit id) s):PWp P (.exit id) Q s:=λ_ _ _ g lam hs=>wpIn_exit ⟨s,g,lam,h,hs⟩
theorem yJ(h:Q .ret s):PWp P .ret Q s:=λ_ _ _ g lam hs=>wpIn_ret ⟨s,g,lam,h,hs⟩
def aLp(K:St->Prop)(Q:Exit->St->Prop):Exit->St->Prop
 | .normal,s=>K s
 |e,s=>Q e s
theorem aJy(h:PWp P x (aLp (PWp P y Q) Q) s):PWp P (.seq x y) Q s:=λc a w g lam hs=>
 wpIn_seq (wpIn_mono (h c a w g _ hs) λe f w' ⟨i,g',b,q,d⟩=>by
  cases e<;>first
   |exact q c _ _ _ _ d
   |trivial)
def xB(id:Nat)(Q:Exit->St->Prop):Exit->St->Prop
 | .exit id',s=>if id'=id then Q .normal s else Q (.exit id') s
 |e,s=>Q e s
theorem aDl(h:PWp P x (xB id Q) s):PWp P (.block id x) Q s:=λc a w g lam hs=>
 wpIn_block (wpIn_mono (h c a w g _ hs) λe d w' ⟨f,g',b,q,i⟩=>by
  cases e with
  |exit id'=>
   simp only[Exit.inBlock,xB]at q⊢
   grind
  |_=>trivial)
theorem SI.tmp_bool{c:Ctx}{g:G}{lam:Nat->Nat}(hs:SI P c s a w g lam){b:Bool}(h:s.env t=(true, .pv (.val (.bool b)))):
  a.eval (.tmp t)= .bool b:=by
 have:=hs.env t
 rw[h]at this
 trivial
theorem jE{b:Bool}(h:s.env t=(true, .pv (.val (.bool b))))(ht:b=true->PWp P x Q s)(hf:b=false->PWp P y Q s):PWp P (.cond (.tmp t) x y) Q s:=
 λc a w g lam hs=>wpIn_cond_split (hs.tmp_bool h) (λe=>ht e c a w g _ hs) λe=>hf e c a w g _ hs
end
def StSub(st2 st:aD):Prop:=∀id,st2 id=none\/st2 id=st id
theorem StSub.refl(st:aD):StSub st st:=λ_=> .inr rfl
theorem zsr(st:aD):StSub st st:=StSub.refl st
theorem StSub.via{st st':aD}(id:Nat)(a:st id=none)(h:∀j,j≠id->st' j=st j):StSub st st':=λj=>by grind
theorem MemOK.sub{st st2:aD}{g:G}(h:MemOK P st w g)(hs:StSub st2 st):MemOK P st2 w g:=
  ⟨h.heap,λid o e=>h.obj _ o (by rcases hs _ with k|k<;>rw[k]at e<;>first|cases e|exact e),
   λid a b e c=>h.inj _ _ b (by rcases hs id with k|k<;>(grind)) (by rcases hs a with k|k<;>(grind)),h.lt,h.fmm,h.fin⟩
theorem Blocks.sub{st st2:aD}{g:G}(hs:StSub st2 st)(h:Blocks st2 g b):Blocks st g b:=by
 have⟨id,c,a⟩:=h;refine⟨id,?_,a⟩;rcases hs id with k|k<;>(grind)
structure Sub (s s2:St):Prop where
 env:∀t,s2.env t=(true, .pv .und)\/s2.env t=s.env t
 L:∀t x,s2.L t=some x->s.L t=some x
 st:StSub s2.st s.st
 n:s2.n=s.n
 top:s2.top=s.top
 ad:∀t w u off,s2.env t=(w, .adr u off)->s2.ad u=true
 adL:∀t,s2.L t≠none->s2.ad t=true
theorem SI.sub{c:Ctx}{s s2:St}{g:G}{lam:Nat->Nat}(hs:SI P c s a w g lam)(h:Sub s s2):SI P c s2 a w g lam where
 mem:=hs.mem.sub h.st
 le:=hs.le
 frame:=hs.frame
 blk b hb:=hs.blk b (hb.sub h.st)
 env t:=by
  rcases h.env t with e|e
  ·rw[e];trivial
  ·rw[e];exact hs.env t
 box t T cs e:=by
  have⟨vs,d,f,i,h4,h5⟩:=hs.box t T _ (h.L t _ e);exact⟨vs,d,f,i,h4,λhb=>h5 (hb.sub h.st)⟩
 inj t t' e e' hl:=by
  cases d:s2.L t with
  |none=>grind
  |some x=>
   cases f:s2.L t' with
   |none=>grind
   |some y=>exact hs.inj t _ (by rw[h.L t x d];simp) (by rw[h.L _ y f];simp) hl
 ad:=h.ad
 adL:=h.adL
 defers:=hs.defers
 n:=h.n▸hs.n
 top:=h.top▸hs.top
theorem aKf{b:Code}{Q:Exit->St->Prop}{s:St}(s2:St)(h:Sub s s2)(hk:PWp P b Q s2):PWp P b Q s:=
 λc a w g lam hs=>hk c a w g _ (hs.sub h)
section
variable{P:Program}{Q:Exit->St->Prop}{s:St}
def aBA(I:St->Prop)(Q:Exit->St->Prop):Exit->St->Prop
 | .normal,s=>I s
 |e,s=>Q e s
theorem aEX{P:Program}{F:Fence}{body:Code}{b:Go.Frame}{k:List Item}{cs:List Go.Frame}(hb:F.fn b.fn)(p:F.room (cs.length+1+0))(h:∃e d w',Exit.then (λf i=>∃e d w',j e d w'/\ArrivesIn (Machine.fenced P F) P (lone (b.atR f (.code body:: .inLoop body::k)) cs i) b k cs e d w') j e d w'/\ArrivesIn (Machine.fenced P F) P (lone (b.atR a (.code body:: .inLoop body::k)) cs w) b (.inLoop body::k) cs e d w'):
  ∃e d w',j e d w'/\ArrivesIn (Machine.fenced P F) P (lone (b.atR a (.code body:: .inLoop body::k)) cs w) b k cs e d w':=by
 have⟨e,f,i,hq,c⟩:=h
 cases e with
 |normal=>
  have⟨o,n,q,m,g⟩:=hq;exact⟨o,n,q,m, .of_steps (StepsIn.trans c (.one (fenced_calm hb p rfl) stepR_inLoop)) g⟩
 |exit id=>exact⟨_,f,i,hq, .pass rfl (λ_ _=> .inl (by simp)) c⟩
 |goto l=>exact⟨_,f,i,hq, .pass rfl (λ_ _=> .inl (by simp)) c⟩
 |ret=>exact⟨_,f,i,hq, .pass rfl (λ_ _=> .inl (by simp)) c⟩
 |panic ch=>exact⟨_,f,i,hq, .pass rfl (λ_ _=> .inl (by simp)) c⟩
 |outgrown=>exact⟨_,f,i,hq, .pass rfl (λ_ _=> .inl (by simp)) c⟩
theorem aGl{X:Type}{body:Code}(l:X->St)(m:X->Nat)(u:X)(h0:Sub s (l u))
  (round:∀x,PWp P body (aBA (λh=>∃o,Sub h (l o)/\m o<m x) Q) (l x)):PWp P (.loop body) Q s:=by
 intro c a w g lam hs b k cs r hb q
 have key:∀n x,m x=n->∀a w g lam,SI P c (l x) a w g lam->∃e j w',(∃h g' f,Q e h/\SI P c h j w' g' f)/\ArrivesIn (Machine.fenced P (FR c.ro)) P (lone (b.atR a (.code body:: .inLoop body::k)) cs w) b k cs e j w':=by
  intro n
  induction n using Nat.strongRecOn with
  |_ n ih=>
   intro x hx a w g lam hs;obtain⟨e,v,y,⟨h,g',f,hq,i⟩,d⟩:=round x c a w g _ hs b _ cs r hb q;refine aEX hb q ⟨e,v,y,?_,d⟩;cases e with
   |normal=>
    have⟨o,t,p⟩:=hq;exact ih _ (hx▸p) o rfl _ _ g' _ (i.sub t)
   |_=>exact⟨h,g',f,hq,i⟩
 have⟨e,j,w',hq,d⟩:=key _ u rfl a w g lam (hs.sub h0)
 exact⟨e,j,w',hq, .of_steps (.one (fenced_calm hb q rfl) stepR_loop) d⟩
end
def St.nil(n:Nat)(st:aD):St:=⟨λ_=>(true, .pv .und),λ_=>none,λ_=>false,st,n,none⟩
def St.pv(s:St)(t:Nat)(p:PV):St:={s with env:=upd s.env t (true, .pv p)}
def St.var(s:St)(t:Nat)(T:TypeId)(cs:List PV):St:={s with env:=upd s.env t (true, .adr t 0),L:=upd s.L t (some (T,cs)),ad:=upd s.ad t true}
theorem Sub.nil(s:St)(n:Nat)(st:aD)(h:StSub st s.st)(hn:(n,none)=(s.n,s.top)):Sub s (St.nil n st):=
 ⟨λ_=> .inl rfl,λ_ _ e=>(by cases e),h,(Prod.mk.inj hn).1,(Prod.mk.inj hn).2,λ_ _ _ _ e=>(by cases e),λ_ e=>absurd rfl e⟩
theorem Sub.pv{s s2:St}(h:Sub s s2){p:PV}(e:s.env t=(true, .pv p)):Sub s (s2.pv t p):=
  ⟨λu=>by
      by_cases hu:u=t
      · subst hu;right;show upd _ _ _ _=_;rw[aA,e]
      · show upd _ _ _ _=_\/upd _ _ _ _=_;rw[aB hu];exact h.env u,
   h.L,h.st,h.n,h.top,λu w v off a=>by
      by_cases hu:u=t
      · subst hu;have:upd _ u _ u=_:=a;rw[aA]at this;cases this
      · have:upd _ t _ u=_:=a;rw[aB hu]at this;exact h.ad u w v _ this,h.adL⟩
theorem Sub.var{s s2:St}(h:Sub s s2){T:TypeId}{cs:List PV}(e:s.env t=(true, .adr t 0))(eL:s.L t=some (T,cs)):Sub s (s2.var t T cs):=
  ⟨λu=>by
      by_cases hu:u=t
      · subst hu;right;show upd _ _ _ _=_;rw[aA,e]
      · show upd _ _ _ _=_\/upd _ _ _ _=_;rw[aB hu];exact h.env u,
   λu x a=>by
      by_cases hu:u=t
      · subst hu;have:upd s2.L u (some (T,cs)) u=_:=a;rw[aA]at this;rw[eL,<-this]
      · have:upd s2.L t (some (T,cs)) u=_:=a;rw[aB hu]at this;exact h.L u x this,
   h.st,h.n,h.top,λu w v off a=>by
      show upd s2.ad t true v=true
      by_cases hv:v=t
      · subst hv;exact aA _ _ _
      · rw[aB hv]
        by_cases hu:u=t
        · subst hu;have:upd s2.env u _ u=_:=a;rw[aA]at this;grind
        · have:upd s2.env t _ u=_:=a;rw[aB hu]at this;exact h.ad u w v off this,
   λu a=>by
      show upd s2.ad t true u=true
      by_cases hu:u=t
      · subst hu;exact aA _ _ _
      · have:upd s2.L t (some (T,cs)) u≠none:=a;rw[aB hu]at this⊢;exact h.adL u this⟩
theorem Sub.pv'{s s2:St}(h:Sub s s2){p q:PV}(e:s.env t=(true, .pv q))(hq:q=p):Sub s (s2.pv t p):=h.pv (hq▸e)
theorem Sub.var'{s s2:St}(h:Sub s s2){T:TypeId}{cs ds:List PV}(e:s.env t=(true, .adr t 0))(eL:s.L t=some (T,ds))(hq:ds=cs):Sub s (s2.var t T cs):=h.var e (hq▸eL)
end
section
def opd(s:St):Operand->Option PV
 | .tmp t=>match s.env t with
  |(_, .pv p)=>some p
  |_=>none
 | .const v=>some (.val v)
 | .func f=>some (.fn f [])
 | .global _=>none
def kC(g:G)(s:St)(x:Operand)(v:Value):Prop:=∀p,opd s x=some p->Rep g p v
def OpRes(P:Program)(R:Value->World->Prop):Result Next->Prop
 | .ok (.value v) w'=>R v w'
 | .ok .skip w'=>R undef w'
 | .ok (.enter f args) w'=>Calls P f args w' λe a=>∃v,e= .returned v/\R v a
 | .ok (.round l f tmps x y) w'=>RoundIn Fence.wide 0 P l f tmps x y w' λe a=>∃v,e= .returned v/\R v a
 |_=>False
def OpV(P:Program)(o:Oper)(s:St)(p:PV):Prop:=
 ∀w g (ρ:Operand->Value),MemOK P s.st w g->(∀x∈o.op.operands,kC g s x (ρ x))->
  OpRes P (λv w'=>∃g',Rep g' p v/\MemOK P s.st w' g'/\Le g g'/\Frame (Blocks s.st g) w g w' g') ((execOp ρ o).run P w)
def eQ(s:St):Operand->Prop
 | .tmp t=>(s.env t).1=true
 |_=>True
def gw :Bool->Bool->Bool->Bool
 |true,x,true=>x
 |true,x,false=> !x
 |false,_,_=>false
def bG(l:List Oper)(o:Oper)(s:St):Option Bool:=
 match o.guard with
 |none=>some true
 |some (j,b)=>match(l[j]?).bind (·.dst)with
  |none=>none
  |some t=>match s.env t with
   |(w, .pv (.val (.bool x)))=>some (gw w x b)
   |_=>none
inductive Tr where
 |put (d:Option Nat) (w:Bool) (e:E)
 |box (d:Nat) (T:TypeId) (cs:List PV)
 |sto (t:Nat) (T:TypeId) (cs:List PV)
def Tr.app :Tr->St->St
 | .put d w e,s=>s.put d w e
 | .box d T cs,s=>s.var d T cs
 | .sto t T cs,s=>{s with L:=upd s.L t (some (T,cs))}
def iA(o:Oper)(s:St):Bool:=
 match o.dst with
 |some d=>Nat.blt d s.n
 |none=>true
def dD(cs:List PV)(off k:Nat):List PV:=(cs.drop off).take k
def iV :List PV->Nat->List PV->List PV
 |cs,0,[]=>cs
 |[],_,_=>[]
 |_::cs,0,p::ps=>p::iV cs 0 ps
 |c::cs,n+1,ps=>c::iV cs n ps
def bK(P:Program)(T:TypeId):Bool:=
 match P.underlying T with
 |some (.struct _)|some (.array _ _)=>true
 |_=>false
def wT(P:Program)(s:St):Op->Option (Bool×Nat×Nat)
  | .fieldAddr T (.tmp x) f=>match s.env x with
    |(w, .adr t off)=>match P.underlying T with
      |some (.struct fs)=>match fs[f]? with
        |some fd=>if P.cellsOf fd.type=0 then none else some (w,t,off+fd.offset)
        |none=>none
      |_=>none
    |_=>none
  |_=>none
inductive AStep (P:Program) (l:List Oper) (o:Oper) (s:St):Bool->Tr->Prop
 |val (rd w:Bool) (p:PV) (hw:bG l o s=some w) (hd:iA o s=true) (hf:w=true->∀x∈o.op.operands,eQ s x) (hv:w=true->bif rd then OpV P o s p else∀st',OpV P o (s.sst st') p):AStep P l o s rd (.put o.dst w (.pv p))
 |pick (w:Bool) (t:Nat) (a b:Operand) (wt x:Bool) (p:PV) (hw:bG l o s=some w) (hd:iA o s=true) (ho:o.op= .pick (.tmp t) a b) (ht:s.env t=(wt, .pv (.val (.bool x)))) (hwt:w=true->wt=true)
   (ha:w=true->x=true->eQ s a/\opd s a=some p) (hb:w=true->x=false->eQ s b/\opd s b=some p):AStep P l o s false (.put o.dst w (.pv p))
 |adr (w wx:Bool) (t off:Nat) (hw:bG l o s=some w) (hd:iA o s=true) (ho:wT P s o.op=some (wx,t,off)) (hf:w=true->wx=true):AStep P l o s false (.put o.dst w (.adr t off))
 |adrI (w wx:Bool) (t off:Nat) (T:TypeId) (x:Nat) (y:Operand) (k:IntKind) (i:Int) (n e sz j:Nat) (hw:bG l o s=some w) (hd:iA o s=true) (ho:o.op= .indexAddr T (.tmp x) y) (hx:s.env x=(wx, .adr t off)) (hy:opd s y=some (.val (.int k i)))
   (hf:w=true->wx=true/\eQ s y) (hu:P.underlying T=some (.array n e)) (hs:(P.info? e).map (·.size)=some sz) (hj:w=true->i=(j:Int)/\j<n):AStep P l o s false (.put o.dst w (.adr t (off+j*sz)))
 |load1 (w wx:Bool) (T:TypeId) (x t off:Nat) (T':TypeId) (cs:List PV) (p:PV) (hw:bG l o s=some w) (hd:iA o s=true) (ho:o.op= .load T (.tmp x)) (hx:s.env x=(wx, .adr t off)) (hf:w=true->wx=true)
   (hL:s.L t=some (T',cs)) (hT:bK P T=false) (hu:(P.underlying T).isSome=true) (hc:cs[off]?=some p):AStep P l o s false (.put o.dst w (.pv p))
 |loadA (w wx:Bool) (T:TypeId) (x t off:Nat) (T':TypeId) (cs:List PV) (k:Nat) (hw:bG l o s=some w) (hd:iA o s=true) (ho:o.op= .load T (.tmp x)) (hx:s.env x=(wx, .adr t off)) (hf:w=true->wx=true)
   (hL:s.L t=some (T',cs)) (hT:bK P T=true) (hk:(P.info? T).map (·.size)=some k) (hc:off+k<=cs.length):AStep P l o s false (.put o.dst w (.pv (.agg (dD cs off k))))
 |alloc (d:Nat) (T:TypeId) (z:Value) (hg:o.guard=none) (hd:o.dst=some d) (hn:Nat.blt d s.n=true) (had:s.ad d=false) (ho:o.op= .alloc T) (hz:(P.info? T).bind (·.zero)=some z):
   AStep P l o s false (.box d T (z.cells.toList.map .val))
 |box (d:Nat) (T:TypeId) (x:Operand) (p:PV) (hg:o.guard=none) (hd:o.dst=some d) (hn:Nat.blt d s.n=true) (had:s.ad d=false) (ho:o.op= .box T x) (hf:eQ s x) (hx:opd s x=some p) (hp:p.flat=true):
   AStep P l o s false (.box d T p.cells)
 |store (T:TypeId) (x:Nat) (y:Operand) (t off:Nat) (T':TypeId) (cs:List PV) (p:PV) (hg:o.guard=none) (hd:o.dst=none) (ho:o.op= .store T (.tmp x) y) (hx:s.env x=(true, .adr t off)) (hL:s.L t=some (T',cs))
   (hf:eQ s y) (hy:opd s y=some p) (hp:p.flat=true) (hk:(P.info? T).map (·.size)=some p.cells.length) (hc:off+p.cells.length<=cs.length):AStep P l o s false (.sto t T' (iV cs off p.cells))
theorem RepL.length{g:G}:∀{ps:List PV}{vs:List Value},RepL g ps vs->vs.length=ps.length
 |[],vs,h=>by simpa
 |p::ps,vs,h=>by
  obtain⟨v,b,rfl,_,a⟩:=h
  simp[RepL.length a]
theorem RepL.get{g:G}:∀{ps:List PV}{vs:List Value}{i:Nat}{p:PV},RepL g ps vs->ps[i]?=some p->∃v,vs[i]?=some v/\Rep g p v
 |[],_,_,_,_,e=>by grind
 |q::ps,vs,i,p,h,e=>by
  obtain⟨v,b,rfl,c,a⟩:=h
  cases i with
  |zero=>grind
  |succ i=>simpa using RepL.get a e
theorem RepL.drop{g:G}:∀{ps:List PV}{vs:List Value}(i:Nat),RepL g ps vs->RepL g (ps.drop i) (vs.drop i)
 |_,_,0,h=>‹_›
 |[],vs,i+1,h=>by simp[RepL]at h;simp[h,RepL]
 |p::ps,vs,i+1,h=>by
  obtain⟨v,b,rfl,_,a⟩:=h
  simpa using RepL.drop i a
theorem RepL.take{g:G}:∀{ps:List PV}{vs:List Value}(i:Nat),RepL g ps vs->RepL g (ps.take i) (vs.take i)
 |_,_,0,h=>rfl
 |[],vs,i+1,h=>by simp[RepL]at h;simp[h,RepL]
 |p::ps,vs,i+1,h=>by
  obtain⟨v,c,rfl,a,b⟩:=h
  exact⟨v,_,rfl,a,RepL.take i b⟩
theorem RepL.append{g:G}:∀{ps qs:List PV}{vs a:List Value},RepL g ps vs->RepL g qs a->RepL g (ps++qs) (vs++a)
 |[],_,vs,a,h,k=>by simp[RepL]at h;grind
 |p::ps,qs,vs,a,h,k=>by
  obtain⟨v,d,rfl,b,c⟩:=h
  exact⟨v,_,rfl,b,RepL.append c k⟩
theorem RepL.vals{g:G}:∀(vs:List Value),RepL g (vs.map .val) vs
 |[]=>rfl
 |v::vs=>by exact⟨v,vs,rfl,rfl,RepL.vals _⟩
theorem Rep.oneCell{g:G}{p:PV}(h:Rep g p v)(hp:p.one=true):v.oneCell'=true/\v.cells= #[v]:=by
 cases p with
 |agg cs=>simp[PV.one]at hp
 |und=>simp[PV.one]at hp
 |tup cs=>simp[PV.one]at hp
 |val u=>
  subst h;cases v<;>simp[PV.one]at hp<;>simp[Value.oneCell',Value.cells]
 |seq rows=>simp only[Rep]at h;obtain⟨_,_,rfl,_⟩:=h;exact⟨rfl,rfl⟩
 |own id rows=>simp only[Rep]at h;have⟨_,_,_,_,_,_,h⟩:=h;rcases h with⟨_,_,rfl⟩|⟨_,rfl,_⟩<;>exact⟨rfl,rfl⟩
 |rp cs=>simp only[Rep]at h;obtain⟨_,_,rfl,_⟩:=h;exact⟨rfl,rfl⟩
 |fn f cs=>simp only[Rep]at h;obtain⟨_,rfl,_⟩:=h;exact⟨rfl,rfl⟩
 |fmap es=>simp only[Rep]at h;obtain⟨_,_,_,rfl,_⟩:=h;exact⟨rfl,rfl⟩
 |ref id off=>simp only[Rep]at h;obtain⟨_,_,_,_,rfl⟩:=h;exact⟨rfl,rfl⟩
 |vec id sz off len=>
  obtain⟨_,_,_,_,_,_,_,⟨_,_,rfl⟩|⟨_,rfl⟩⟩:=h<;>exact⟨rfl,rfl⟩
 |emp=>simp only[Rep]at h;obtain⟨_,rfl⟩:=h;exact⟨rfl,rfl⟩
 |el id sz j off=>simp only[Rep]at h;obtain⟨_,_,_,_,rfl⟩:=h;exact⟨rfl,rfl⟩
 |mref id=>simp only[Rep]at h;obtain⟨_,_,_,_,rfl⟩:=h;exact⟨rfl,rfl⟩
 |yld id=>simp only[Rep]at h;obtain⟨_,_,_,_,rfl⟩:=h;exact⟨rfl,rfl⟩
theorem RepL.ones{g:G}:∀{ps:List PV}{vs:List Value},RepL g ps vs->ps.all PV.one=true->∀v∈vs,v.oneCell'=true
 |[],vs,h,_=>by simp[RepL]at h;simp[h]
 |p::ps,vs,h,hp=>by
  obtain⟨v,c,rfl,a,b⟩:=h
  simp only[List.all_cons,zba]at hp
  intro u hu
  rcases zmc.1 hu with rfl|hu
  ·exact(a.oneCell hp.1).1
  ·exact RepL.ones b hp.2 u hu
theorem Rep.cells{g:G}{p:PV}(h:Rep g p v)(hp:p.flat=true):RepL g p.cells v.cells.toList/\∀u∈v.cells.toList,u.oneCell'=true:=by
 cases p with
 |agg cs=>
  obtain⟨vs,rfl,h⟩:=h;simp only[PV.cells,Value.cells];exact⟨h,λu hu=>h.ones hp u (by simpa using hu)⟩
 |und=>trivial
 |tup cs=>simp[PV.flat,PV.one]at hp
 |_=>
  have⟨b,a⟩:=h.oneCell hp;rw[a];exact⟨by simp only[RepL];exact⟨v,[],rfl,h,rfl⟩,λu hu=>by grind⟩
theorem gZ :∀(cs:List PV)(off:Nat)(ps:List PV),off+ps.length<=cs.length->iV cs off ps=cs.take off++ps++cs.drop (off+ps.length)
 |cs,0,[],_=>by simp[iV]
 |[],0,p::ps,h=>by grind
 |[],n+1,ps,h=>by grind
 |c::cs,0,p::ps,h=>by
  have a:=gZ cs 0 ps (by grind)
  simp only[iV,a]
  simp
 |c::cs,n+1,ps,h=>by
  have a:=gZ cs n ps (by grind)
  simp only[iV,a]
  grind
theorem aGa{st:aD}{g g':G}(hm:MemOK P st w g)(hl:Le g g')(h:st id≠none):Go.Abs.blk g' id=Go.Abs.blk g id:=by
 cases ho:st id with
 |none=>grind
 |some o=>
  have:=hm.obj _ o ho;have a:=aaN this;have⟨x,hx⟩:=a;simp only[blk,hx,hl.io _ x _]
theorem kM{st:aD}{g g':G}(hm:MemOK P st w g)(hl:Le g g')(b:Nat):Blocks st g' b↔Blocks st g b:=by
 constructor
 ·rintro⟨id,a,c⟩;exact⟨id,a,by rw[<-aGa hm hl a];exact c⟩
 ·rintro⟨id,a,c⟩;exact⟨id,a,by rw[aGa hm hl a];exact c⟩
theorem EntOK.mono{g g':G}{lam:Nat->Nat}(h:Le g g'):∀{e:Bool×E}{v:Value},EntOK g lam e v->EntOK g' lam e v
 |(true, .pv p),v,e=>Rep.mono h p v e
 |(true, .adr _ _),_,e=>e
 |(false,_),_,e=>e
theorem bQ{h:Array Obj}{o:Obj}(e:h[b]?=some o):b<h.size:=by grind
theorem uJ{st:aD}{g:G}(hm:MemOK P st w g){D:Nat}(h:g.heap[D]?=some (.deferred (some []))):¬Blocks st g D:=by
 rintro⟨id,a,b⟩;cases ho:st _ with
 |none=>exact a ho
 |some o=>
  have⟨x,hx,hd⟩:=xF (hm.obj _ o ho) b;rw[h]at hx;injection hx with hx;subst hx;cases hd
theorem SI.world{c:Ctx}{s:St}{g g':G}{lam:Nat->Nat}(hs:SI P c s a w g lam)(hm:MemOK P s.st w' g')(hl:Le g g')(hf:Frame (Blocks s.st g) w g w' g'):SI P c s a w' g' lam where
 mem:=hm
 le:=hs.le.trans hl
 frame:=hs.frame.trans hf λb hb h=>(hs.blk b h).resolve_right (by omega)
 blk b h:=hs.blk b ((kM hs.mem hl b).1 h)
 env t:=(hs.env t).mono hl
 box t T cs e:=by
  have⟨vs,f,j,k,h4,h5⟩:=hs.box t T _ e;have hb:=by have:=bQ f;rwa[hs.mem.heap]at this
  have⟨k1,k2,_⟩:=hf.old _ hb h5;refine⟨vs,?_,RepL.mono hl _ _ j,k2.trans k,h4,λh=>h5 ((kM hs.mem hl _).1 h)⟩;rw[hm.heap,k1,<-hs.mem.heap];exact f
 inj:=hs.inj
 ad:=hs.ad
 adL:=hs.adL
 defers:=hs.defers.mono rfl λD i=>by
  have d:=bQ i
  rw[hs.mem.heap]at d
  rw[hm.heap,(hf.old D d (uJ hs.mem i)).1,hs.mem.heap]
 top:=hs.top
 n:=hs.n
theorem SI.put{c:Ctx}{s:St}{g:G}{lam:Nat->Nat}(hs:SI P c s a w g lam){d:Option Nat}{b:Bool}{e:E}(hd:∀t,d=some t->t<s.n)(hv:EntOK g lam (b,e) v)(had:∀u off,e= .adr u off->s.ad u=true):SI P c (s.put d b e) (a.put d v) w g lam:=by
 cases d with
 |none=>exact hs
 |some d=>
  exact{
   mem:=hs.mem
   le:=hs.le
   frame:=hs.frame
   blk:=hs.blk
   env:=λt=>by
    show EntOK g lam (upd s.env d (b,e) t) ((a.tmps.setIfInBounds d v).getD t undef)
    by_cases ht:t=d
    ·subst ht
     have:t<a.tmps.size:=by rw[hs.n];grind
     rw[aA];simp_all
    ·rw[aB ht]
     have:=hs.env t
     simpa[Array.getElem?_setIfInBounds_ne (Ne.symm ht)]using this
   box:=hs.box
   inj:=hs.inj
   ad:=λt w' u off h=>by
    have f:upd s.env d (b,e) t=(w', .adr u off):=h
    by_cases ht:t=d
    ·subst ht;rw[aA]at f;exact had u off (by injection f)
    ·rw[aB ht]at f;exact hs.ad t w' u off f
   adL:=hs.adL
   defers:=hs.defers.mono rfl λ_ _=>rfl
   top:=hs.top
   n:=by show(a.tmps.setIfInBounds d v).size=s.n;simp[hs.n]}
theorem lT{st:aD}{g:G}(hm:MemOK P st w g)(o:Obj):
  MemOK P st (w.alloc o) {g with heap:=(w.alloc o).heap}/\Le g {g with heap:=(w.alloc o).heap}/\Frame (λ_=>False) w g (w.alloc o) {g with heap:=(w.alloc o).heap}:=by
 have old:=λb hb=>RowKit.Below.heap_alloc w o b hb
 have d:Le g {g with heap:=(w.alloc o).heap}:=by
  refine⟨λ_ _ h=>h,λ_=>znr _,λb i hi=>?_,λb hb=>⟨hb,?_⟩⟩
  ·have hb:=hm.lt b (by omega)
   rw[hm.heap];simp only[bB,old b hb]
  ·have⟨c,a,e,_⟩:=hm.fmm b hb
   rw[hm.heap,old b (bQ e)]
 refine⟨⟨rfl,λid o' e=>?_,hm.inj,λb h=>?_,λb h=>?_,hm.fin⟩,d,⟨rfl,⟨rfl,znr _⟩,rfl,by show _<=(w.heap.push o).size;simp,λb hb _=>⟨old b hb,rfl,Iff.rfl⟩⟩⟩
 ·refine(hm.obj id o' e).keep d λb hb=>⟨?_,rfl,Iff.rfl⟩
  have⟨x,hx,_⟩:=xF (hm.obj id o' e) hb;have f:=bQ hx;rw[hm.heap]at f;show(w.alloc o).heap[b]?=g.heap[b]?;rw[hm.heap];exact old b f
 ·have:=hm.lt b h
  show b<(w.heap.push o).size;simp;omega
 ·have⟨c,a,e,hs⟩:=hm.fmm b h
  grind
theorem qI{st:aD}{g:G}(hm:MemOK P st w g)(k:Nat)(hk:w.drawn<=k):
  MemOK P st {w with drawn:=k} g/\Frame (λ_=>False) w g {w with drawn:=k} g:=
 ⟨⟨hm.heap,hm.obj,hm.inj,hm.lt,hm.fmm,hm.fin⟩,⟨rfl,⟨rfl,hk⟩,rfl,znr _,λ_ _ _=>⟨rfl,rfl,Iff.rfl⟩⟩⟩
theorem agT{ro:Option Nat}{f:FuncId}(h:Calls P f args w R):CallsIn (FR ro) (0-1) P f args w R:=callsIn_wide.2 h
theorem aA1{ro:Option Nat}{l f:Nat}(h:RoundIn Fence.wide 0 P l f tmps x y w R):RoundIn (FR ro) (0-1) P l f tmps x y w R:=h
def yV(P:Program)(ro:Option Nat)(l:List Oper)(o:Oper)(a:Act)(w:World)(K:Act->World->Prop)(Q:Exit->Act->World->Prop):Prop:=
 if Region.wanted o (yielded l.toArray a.tmps)then o.wpIn (FR ro) 0 P a w K Q else K (a.put o.dst undef) w
theorem kQ{c:Ctx}{s:St}{g:G}{lam:Nat->Nat}(hs:SI P c s a w g lam){b:Bool}(h:bG l o s=some b):
  Region.wanted o (yielded l.toArray a.tmps)=b:=by
 unfold bG at h
 unfold Region.wanted
 cases hg:o.guard with
 |none=>simp only[hg]at h⊢;injection h
 |some jb=>
  have⟨j,e⟩:=jb;simp only[hg]at h⊢;cases ht:(l[j]?).bind (·.dst)with
  |none=>simp only[ht]at h;cases h
  |some t=>
   simp only[ht]at h;have d:=hs.env t;have hy:yielded l.toArray a.tmps j=match a.tmps[t]? with|some (.bool b)=>some b|_=>none:=by
    unfold yielded
    grind
   rw[hy];split at h
   ·rename_i w' x hx
    rw[hx]at d;injection h with h
    subst h;cases w' with
    |true=>
     simp only[EntOK,Rep]at d;have f:a.tmps[t]?=some (.bool x):=by
      cases hq:a.tmps[t]? with
      |none=>simp[hq,undef]at d
      |some v=>simp[hq]at d;rw[d]
     rw[f];cases x<;>cases e<;>rfl
    |false=>
     simp only[EntOK]at d;have:(match a.tmps[t]? with|some (.bool b)=>some b|_=>(none:Option Bool))=none:=by
      cases hq:a.tmps[t]? with
      |none=>rfl
      |some v=>simp[hq,undef]at d;rw[d]
     rw[this];cases e<;>rfl
   ·cases h
theorem nN{c:Ctx}{s:St}{g:G}{lam:Nat->Nat}(hs:SI P c s a w g lam){x:Operand}(hf:eQ s x):kC g s x (a.eval x):=by
 intro p hp;cases x with
 |tmp t=>
  have b:=hs.env t;simp only[opd]at hp;simp only[eQ]at hf;split at hp
  ·rename_i w' q hq
   rw[hq]at b hf;subst hf;injection hp with hp
   subst hp
   simpa
  ·cases hp
 |const v=>injection hp with hp;subst hp;rfl
 |func f=>injection hp with hp;subst hp;exact⟨[],rfl,rfl⟩
 |global g=>trivial
theorem rV{s:St}(h:iA o s=true):∀t,o.dst=some t->t<s.n:=by
 intro t ht;rw[iA,ht]at h;simp_all
theorem dO{ro:Option Nat}{R:Value->World->Prop}(h:OpRes P R ((execOp a.eval o).run P w))(b:∀v w',R v w'->K (a.put o.dst v) w'):o.wpIn (FR ro) 0 P a w K Q:=by
 refine⟨λ_ _=>trivial,?_⟩
 have hd:∀c,o.op≠ .defer c:=λc hc=>by
  simp only[execOp,hc,Sem.run_bind]at h
  cases f:(resolve a.eval c o.type).run P w with
  |ok d w'=>rw[f]at h;simpa
  |halt x w'=>rw[f]at h;simp[OpRes]at h
 have e:o.semAt (FR ro).round a.eval=execOp a.eval o:=Oper.semAt_eq _ _ _ hd
 rw[e]
 generalize(execOp a.eval o).run P w=r at h
 cases r with
 |halt x w=>simp[OpRes]at h
 |ok n w=>
  cases n<;>simp only[OpRes]at h
  ·exact b _ _ h
  ·exact b _ _ h
  ·exact⟨λh=>by trivial,agT (h.mono λe w' ⟨v,g,hv⟩=>by grind)⟩
  ·exact⟨λh=>by trivial,aA1 (h.mono λe w' ⟨v,g,hv⟩=>by grind)⟩
theorem SI.newvar{c:Ctx}{s:St}{g:G}{lam:Nat->Nat}(hs:SI P c s a w g lam)(had:s.ad d=false)(hn:d<s.n){T:TypeId}{cs:List PV}{vs:Array Value}(E:RepL g cs vs.toList):
  SI P c (s.var d T cs) (a.put (some d) (.pointer (some ⟨w.heap.size,0,none⟩))) (w.alloc (.cells vs T (0,0))) {g with heap:=(w.alloc (.cells vs T (0,0))).heap} (λt=>if t=d then w.heap.size else lam t):=by
 have⟨z,l,C⟩:=lT hs.mem (.cells vs T (0,0))
 have j:=hs.world z l (C.mono λ_ h=>h.elim)
 have A:g.fr w.heap.size=0:=by
  rcases Nat.eq_zero_or_pos (g.fr w.heap.size)with h|h
  ·exact h
  ·have:=hs.mem.lt w.heap.size (by omega);omega
 have v:∀b,Blocks s.st g b->b<w.heap.size:=by
  rintro b ⟨id,k1,k2⟩;cases ho:s.st id with
  |none=>exact absurd ho k1
  |some o=>
   have B:=hs.mem.obj id o ho;have:∃x,g.heap[b]?=some x:=by have⟨x,hx,_⟩:=xF B k2;exact⟨x,hx⟩
   have⟨x,hx⟩:=this;have:=bQ hx;rwa[hs.mem.heap]at this
 have F:∀u,s.ad u=true->u≠d:=λu hu e=>by rw[e,had]at hu;cases hu
 have k:∀t,s.L t≠none->lam t<w.heap.size:=λt ht=>by
  cases hL:s.L t with
  |none=>exact absurd hL ht
  |some x=>
   have⟨H,k1,_⟩:=hs.box t x.1 x.2 hL;have:=bQ k1;rwa[hs.mem.heap]at this
 exact{
  mem:=z
  le:=j.le
  frame:=j.frame
  blk:=j.blk
  env:=λt=>by
   show EntOK _ _ (upd s.env d (true, .adr d 0) t) ((a.tmps.setIfInBounds d _).getD t undef)
   by_cases ht:t=d
   ·subst ht
    have:t<a.tmps.size:=by rw[hs.n];exact hn
    rw[aA];simp[this,EntOK]
   ·rw[aB ht]
    have h:=j.env t;have hv:(a.tmps.setIfInBounds d (.pointer (some ⟨w.heap.size,0,none⟩))).getD t undef=a.tmps.getD t undef:=by
     simp[Array.getElem?_setIfInBounds_ne (Ne.symm ht)]
    rw[hv];cases D:s.env t with
    |mk b e=>
     rw[D]at h;cases b with
     |false=>exact h
     |true=>
      cases e with
      |pv p=>exact h
      |adr u off=>
       have:=F u (hs.ad t true u off D);simp only[EntOK]at h⊢;rw[zn this];exact h
  box:=λt T' q e=>by
   have f:upd s.L d (some (T,cs)) t=some (T',q):=e
   by_cases ht:t=d
   ·subst ht
    rw[aA]at f;injection f with f
    injection f with r m
    subst r;subst m;simp only[if_true];refine⟨vs,?_,RepL.mono l _ _ E,A,hs.frame.size,λhb=>?_⟩
    ·show(w.heap.push _)[w.heap.size]?=_;simp
    ·have:=v _ ((kM hs.mem l _).1 hb);omega
   ·rw[aB ht]at f
    simp only[zn ht];exact j.box t T' q f
  inj:=λt y e f hl=>by
   have r:upd s.L d (some (T,cs)) t≠none:=e
   have m:upd s.L d (some (T,cs)) y≠none:=f
   by_cases ht:t=d
   ·by_cases i:y=d
    ·rw[ht,i]
    ·rw[aB i]at m
     simp only[zp ht,zn i]at hl;have:=k y m;omega
   ·rw[aB ht]at r
    by_cases i:y=d
    ·simp only[zn ht,zp i]at hl
     have:=k t r;omega
    ·rw[aB i]at m
     simp only[zn ht,zn i]at hl;exact hs.inj t y r m hl
  ad:=λt b u off e=>by
   have f:upd s.env d (true, .adr d 0) t=(b, .adr u off):=e
   show upd s.ad d true u=true
   by_cases hu:u=d
   ·rw[hu,aA]
   ·rw[aB hu]
    by_cases ht:t=d
    ·subst ht;rw[aA]at f;injection f with z l;injection l with l C;exact absurd l.symm hu
    ·rw[aB ht]at f;exact hs.ad t b u off f
  adL:=λt e=>by
   have f:upd s.L d (some (T,cs)) t≠none:=e
   show upd s.ad d true t=true
   by_cases ht:t=d
   ·rw[ht,aA]
   ·rw[aB ht]at f⊢;exact hs.adL t f
  defers:=j.defers.mono rfl λ_ _=>rfl
  top:=hs.top
  n:=by show(a.tmps.setIfInBounds d _).size=s.n;simp[hs.n]}
theorem bX(w:World)(b:Nat)(xs:Array Value)(k:Nat)(h:k≠b):(w.setRow b xs).heap[k]?=w.heap[k]?:=by
 simp only[World.setRow,Array.getElem?_modify]
 grind
theorem aAf{st:aD}{g:G}(hm:MemOK P st w g){cur:Array Value}{T:TypeId}(hb:w.heap[b]?=some (.cells cur T (0,0)))(j:g.fr b=0)(hn:¬Blocks st g b):
  MemOK P st (w.setRow b xs) {g with heap:=(w.setRow b xs).heap}/\Le g {g with heap:=(w.setRow b xs).heap}:=by
 have f:∀k,g.fm k->k≠b:=λk hk e=>by
  have⟨c,a,h,_⟩:=hm.fmm k hk
  rw[e,hb]at h;cases h
 have old:=λk hk=>bX w b xs k hk
 have d:Le g {g with heap:=(w.setRow b xs).heap}:=by
  refine⟨λ_ _ h=>h,λ_=>znr _,λk i hi=>?_,λk hk=>⟨hk,?_⟩⟩
  ·have l:k≠b:=λe=>by rw[e,j]at hi;omega
   rw[hm.heap];simp only[bB,old k l]
  ·show(w.setRow b xs).heap[k]?=g.heap[k]?
   rw[hm.heap,old k (f k hk)]
 have m:(w.setRow b xs).heap.size=w.heap.size:=by simp[World.setRow]
 refine⟨⟨rfl,λid o e=>?_,hm.inj,λk h=>by rw[m];exact hm.lt k h,λk h=>?_,hm.fin⟩,d⟩
 ·refine(hm.obj id o e).keep d λk hk=>⟨?_,rfl,Iff.rfl⟩
  show(w.setRow b xs).heap[k]?=g.heap[k]?;rw[hm.heap];exact old k λh=>hn ⟨id,by rw[e];simp,h▸hk⟩
 ·have⟨c,a,e,hs⟩:=hm.fmm k h
  grind
theorem SI.setvar{c:Ctx}{s:St}{g:G}{lam:Nat->Nat}(hs:SI P c s a w g lam){T:TypeId}{cs d:List PV}(hL:s.L t=some (T,cs))(z:RepL g d xs.toList):
  SI P c {s with L:=upd s.L t (some (T,d))} (a.put none undef) (w.setRow (lam t) xs) {g with heap:=(w.setRow (lam t) xs).heap} lam:=by
 have⟨vs,k1,k2,x,H,y⟩:=hs.box t T cs hL
 have k:=k1
 rw[hs.mem.heap]at k
 have⟨m1,m⟩:=aAf (xs:=xs) hs.mem k x y
 have p:(w.setRow (lam t) xs).heap.size=w.heap.size:=by simp[World.setRow]
 exact{
  mem:=m1
  le:=hs.le.trans m
  frame:=hs.frame.trans (B':=λb=>b=lam t) ⟨rfl,⟨rfl,znr _⟩,rfl,by rw[p];exact znr _,λb hb f=>⟨bX w _ _ _ f,rfl,Iff.rfl⟩⟩ λb hb e=>by subst e;omega
  blk:=hs.blk
  env:=λu=>(hs.env u).mono m
  box:=λu T' j e=>by
   have i:upd s.L t (some (T,d)) u=some (T',j):=e
   by_cases hu:u=t
   ·subst hu
    rw[aA]at i;injection i with i
    injection i with l o
    subst l;subst o;exact⟨xs,setRow_heap w (lam u) vs xs T (0,0) k,RepL.mono m _ _ z,x,H,y⟩
   ·rw[aB hu]at i
    have⟨r,A,B,C,E,F⟩:=hs.box u T' j i;have f:lam u≠lam t:=λh=>hu (hs.inj u t (by rw[i];simp) (by rw[hL];simp) h);refine⟨r,?_,RepL.mono m _ _ B,C,E,F⟩;rw[bX w _ _ _ f,<-hs.mem.heap];exact A
  inj:=λu q e i hl=>by
   have l:upd s.L t (some (T,d)) u≠none:=e
   have o:upd s.L t (some (T,d)) q≠none:=i
   refine hs.inj u q ?_ ?_ hl
   ·by_cases hu:u=t
    ·rw[hu,hL];simp
    ·rwa[aB hu]at l
   ·by_cases hu:q=t
    ·rw[hu,hL];simp
    ·rwa[aB hu]at o
  ad:=hs.ad
  adL:=λu e=>by
   have l:upd s.L t (some (T,d)) u≠none:=e
   by_cases hu:u=t
   ·exact hs.adL u (by rw[hu,hL];simp)
   ·rw[aB hu]at l;exact hs.adL u l
  defers:=hs.defers.mono rfl λD v=>by
   have f:D≠lam t:=λe=>by rw[e,k1]at v;cases v
   show(w.setRow (lam t) xs).heap[D]?=_
   rw[bX w _ _ _ f,hs.mem.heap]
  top:=hs.top
  n:=hs.n}
theorem eB{T:TypeId}{b:Bool}(h:bK P T=b)(hu:(P.underlying T).isSome=true):(isAgg T).run P w= .ok b w:=by
 unfold bK at h;unfold isAgg underlying;cases hd:P.underlying T with
 |none=>grind
 |some d=>cases d<;>simp_all
theorem rX{T:TypeId}(h:bK P T=true):(P.underlying T).isSome=true:=by
 unfold bK at h
 grind
theorem aZ{T:TypeId}{k:Nat}(h:(P.info? T).map (·.size)=some k):(sizeOf T).run P w= .ok k w:=by
 cases hi:P.info? T with
 |none=>grind
 |some i=>rw[hi]at h;simp at h;simp[sizeOf,typeInfo,hi,h]
theorem cI{T:TypeId}(h:(P.info? T).bind (·.zero)=some z):(zeroValue T).run P w= .ok z w:=by
 cases hi:P.info? T with
 |none=>grind
 |some i=>rw[hi]at h;simp at h;simp[zeroValue,typeInfo,hi,h]
theorem dV{off:Nat}{T:TypeId}{a:Nat×Nat}(h:w.heap[b]?=some (.cells c T a)):w.cell? ⟨b,off,none⟩=c[off]?:=by
 simp[World.cell?,h]
theorem dA(b off k:Nat):(Addr.add ⟨b,off,none⟩ k)=⟨b,off+k,none⟩:=by
 simp[Addr.add]
theorem AStep.sound{s:St}{rd:Bool}{T:Tr}(h:AStep P l o s rd T){c:Ctx}{g:G}{lam:Nat->Nat}(hs:SI P c s a w g lam)(F:∀X w' g' N,SI P c (T.app s) X w' g' N->K X w'):yV P c.ro l o a w K Q:=by
 unfold yV
 have B:∀{b:Bool}{e:E},b=false->iA o s=true->(∀X w' g' N,SI P c (s.put o.dst b e) X w' g' N->K X w')->(∀u off,e= .adr u off->s.ad u=true)->K (a.put o.dst undef) w:=by
  intro b e hb hd hk had;subst hb;exact hk _ _ _ _ (hs.put (rV hd) (by simp[EntOK]) had)
 cases h with
 |val _ b p hw hd hf hv=>
  have hv:b=true->OpV P o s p:=λh=>by have:=hv h;cases rd with|true=>exact this|false=>exact this s.st
  rw[kQ hs hw];cases b with
  |false=>simp only[Bool.false_eq_true,if_false];exact B rfl hd F (λ_ _ e=>by cases e)
  |true=>
   simp only[if_true];refine dO (hv rfl w g a.eval hs.mem λx hx=>nN hs (hf rfl x hx)) ?_;rintro v w' ⟨g',O,I,Y,h4⟩;exact F _ _ _ _ ((hs.world I Y h4).put (rV hd) O λ_ _ e=>by cases e)
 |pick b t x y wt q p hw hd ho ht hwt ha hb=>
  rw[kQ hs hw];cases b with
  |false=>simp only[Bool.false_eq_true,if_false];exact B rfl hd F (λ_ _ e=>by cases e)
  |true=>
   simp only[if_true];have hq:a.eval (.tmp t)= .bool q:=by rw[hwt rfl]at ht;exact hs.tmp_bool ht
   have m:(execOp a.eval o).run P w= .ok (.value (if q then a.eval x else a.eval y)) w:=by
    simp[execOp,ho,hq,asBool]
   refine dO (R:=λv w'=>v=(if q then a.eval x else a.eval y)/\w'=w) (by rw[m];exact⟨rfl,rfl⟩) ?_;rintro v w' ⟨rfl,rfl⟩;refine F _ _ _ _ (hs.put (rV hd) ?_ λ_ _ e=>by cases e);cases q with
   |true=>have⟨O,I⟩:=ha rfl rfl;exact nN hs O p I
   |false=>have⟨O,I⟩:=hb rfl rfl;exact nN hs O p I
 |adrI b wx t off U x y k i n e sz j hw hd ho hx hy hf hu hs' hj=>
  rw[kQ hs hw];have L:s.ad t=true:=hs.ad x _ _ _ hx;cases b with
  |false=>simp only[Bool.false_eq_true,if_false];exact B rfl hd F (λ_ _ e=>by cases e;exact L)
  |true=>
   simp only[if_true];obtain⟨rfl,hfy⟩:=hf rfl;obtain⟨rfl,hlt⟩:=hj rfl;have A:=hs.env x;rw[hx]at A;have D:a.eval (.tmp x)= .pointer (some ⟨lam t,off,none⟩):=A;have ey:a.eval y= .int k (j:Int):=by simpa[Rep]using nN hs hfy _ hy
   have Z:(0:Int)<=(j:Int)/\(j:Int)<(n:Int):=by omega
   have m:(execOp a.eval o).run P w= .ok (.value (.pointer (some ⟨lam t,off+j*sz,none⟩))) w:=by
    simp only[execOp,ho,Instr.indexAt,ey,D,asIntOf,Sem.run_bind,Sem.run_pure,Result.andThen_ok,run_underlying hu,Instr.sureAddr];rw[zp Z];simp only[Sem.run_bind,aZ hs',Result.andThen_ok,Sem.run_pure,zin,dA]
   refine dO (R:=λv w'=>v= .pointer (some ⟨lam t,off+j*sz,none⟩)/\w'=w) (by rw[m];exact⟨rfl,rfl⟩) ?_;rintro v w' ⟨rfl,rfl⟩;exact F _ _ _ _ (hs.put (rV hd) (by simp[EntOK]) λ_ _ e=>by cases e;exact L)
 |adr b wx t off hw hd ho hf=>
  rw[kQ hs hw];have hop:∃U x f w' S r fs J,o.op= .fieldAddr U (.tmp x) f/\s.env x=(w', .adr S r)/\P.underlying U=some (.struct fs)/\fs[f]?=some J/\P.cellsOf J.type≠0/\w'=wx/\S=t/\r+J.offset=off:=by
   unfold wT at ho;split at ho
   ·rename_i U x f heq
    split at ho
    ·rename_i w' S r hx
     split at ho
     ·rename_i fs hu
      split at ho
      ·rename_i J hfd
       split at ho
       ·cases ho
       ·rename_i hne
        injection ho with ho
        injection ho with O I
        injection I with I Y
        exact⟨U,x,f,w',S,r,fs,J,heq,hx,hu,hfd,hne,O,I,Y⟩
      ·cases ho
     ·cases ho
    ·cases ho
   ·cases ho
  obtain⟨U,x,f,w',S,r,fs,J,O,I,Y,h4,h5,rfl,rfl,rfl⟩:=hop;have L:s.ad S=true:=hs.ad x _ _ _ I;cases b with
  |false=>simp only[Bool.false_eq_true,if_false];exact B rfl hd F (λ_ _ e=>by cases e;exact L)
  |true=>
   simp only[if_true];have hx:=hs.env x;rw[I,hf rfl]at hx;simp only[EntOK]at hx;have D:a.eval (.tmp x)= .pointer (some ⟨lam S,r,none⟩):=hx;have W:(sizeOf J.type).run P w= .ok (P.cellsOf J.type) w:=by
    refine aZ ?_;unfold Program.cellsOf at h5⊢;cases hi:P.info? J.type with
    |none=>rw[hi]at h5;simp at h5
    |some i=>simp
   have m:(execOp a.eval o).run P w= .ok (.value (.pointer (some ⟨lam S,r+J.offset,none⟩))) w:=by
    simp[execOp,O,Instr.fieldAt,underlying,Y,h4,D,Instr.sureAddr,fieldPlace,W,h5,Addr.add]
    try(intro h0;simp[h0])
   refine dO (R:=λv w'=>v= .pointer (some ⟨lam S,r+J.offset,none⟩)/\w'=w) (by rw[m];exact⟨rfl,rfl⟩) ?_;rintro v w' ⟨rfl,rfl⟩;exact F _ _ _ _ (hs.put (rV hd) (by simp[EntOK]) λ_ _ e=>by cases e;exact L)
 |load1 b wx U x t off T' cs p hw hd ho hx hf hL hT hu hc=>
  rw[kQ hs hw];cases b with
  |false=>simp only[Bool.false_eq_true,if_false];exact B rfl hd F (λ_ _ e=>by cases e)
  |true=>
   simp only[if_true];have A:=hs.env x;rw[hx,hf rfl]at A;have D:a.eval (.tmp x)= .pointer (some ⟨lam t,off,none⟩):=A;obtain⟨vs,k1,k2, -⟩:=hs.box t T' cs hL;have⟨v,e1,e2⟩:=k2.get hc;have V:w.cell? ⟨lam t,off,none⟩=some v:=by
    rw[hs.mem.heap]at k1;rw[dV k1];simpa using e1
   have m:(execOp a.eval o).run P w= .ok (.value v) w:=by
    simp[execOp,ho,Instr.loadAt,Instr.sureAddr,D,loadVar,eB hT hu,V]
   refine dO (R:=λu w'=>u=v/\w'=w) (by rw[m];exact⟨rfl,rfl⟩) ?_;rintro u w' ⟨rfl,rfl⟩;exact F _ _ _ _ (hs.put (rV hd) e2 λ_ _ e=>by cases e)
 |loadA b wx U x t off T' cs k hw hd ho hx hf hL hT hk hc=>
  rw[kQ hs hw];cases b with
  |false=>simp only[Bool.false_eq_true,if_false];exact B rfl hd F (λ_ _ e=>by cases e)
  |true=>
   simp only[if_true];have A:=hs.env x;rw[hx,hf rfl]at A;have D:a.eval (.tmp x)= .pointer (some ⟨lam t,off,none⟩):=A;obtain⟨vs,k1,k2, -⟩:=hs.box t T' cs hL;have hr:=(k2.drop off).take k;have M:=k2.length;have hl2:((vs.toList.drop off).take k).length=k:=by simp at M⊢;omega
   have C:(loadCells ⟨lam t,off,none⟩ k).run P w= .ok ((vs.toList.drop off).take k).toArray w:=by
    have:=run_loadCells_list (P:=P) (w:=w) ⟨lam t,off,none⟩ ((vs.toList.drop off).take k) (λj v hj=>by
     rw[hs.mem.heap]at k1
     have hj2:j<k:=by
      have:j<((vs.toList.drop off).take k).length:=by
       rcases Nat.lt_or_ge j ((vs.toList.drop off).take k).length with h|h
       ·exact h
       ·rw[List.getElem?_eq_none h]at hj;cases hj
      omega
     have:(Addr.add ⟨lam t,off,none⟩ j)=⟨lam t,off+j,none⟩:=by
      unfold Addr.add;split
      ·simp_all
      ·rfl
     rw[this,dV k1]
     simpa[List.getElem?_take,hj2,List.getElem?_drop]using hj)
    rw[hl2]at this;exact this
   have m:(execOp a.eval o).run P w= .ok (.value (.agg ((vs.toList.drop off).take k).toArray)) w:=by
    simp[execOp,ho,Instr.loadAt,Instr.sureAddr,D,loadVar,eB hT (rX hT),aZ hk,C]
   refine dO (R:=λu w'=>u= .agg ((vs.toList.drop off).take k).toArray/\w'=w) (by rw[m];exact⟨rfl,rfl⟩) ?_;rintro u w' ⟨rfl,rfl⟩;exact F _ _ _ _ (hs.put (rV hd) (by simp only[EntOK,Rep];exact⟨_,rfl,hr⟩) λ_ _ e=>by cases e)
 |alloc d T z hg hd hn had ho hz=>
  have hw:Region.wanted o (yielded l.toArray a.tmps)=true:=by simp[Region.wanted,hg]
  rw[hw];simp only[if_true];have m:(execOp a.eval o).run P w= .ok (.value (.pointer (some ⟨w.heap.size,0,none⟩))) (w.alloc (.cells z.cells T (0,0))):=by
   simp[execOp,ho,Instr.alloc,cI hz,newVar,newRow]
  refine dO (R:=λu w'=>u= .pointer (some ⟨w.heap.size,0,none⟩)/\w'=w.alloc (.cells z.cells T (0,0))) (by rw[m];exact⟨rfl,rfl⟩) ?_;rintro u w' ⟨rfl,rfl⟩;rw[hd];refine F _ _ _ _ (hs.newvar had (by simpa[Nat.blt_eq]using hn) ?_);exact RepL.vals _
 |box d T x p hg hd hn had ho hf hx hp=>
  have hw:Region.wanted o (yielded l.toArray a.tmps)=true:=by simp[Region.wanted,hg]
  rw[hw];simp only[if_true];have m:(execOp a.eval o).run P w= .ok (.value (.pointer (some ⟨w.heap.size,0,none⟩))) (w.alloc (.cells (a.eval x).cells T (0,0))):=by
   simp[execOp,ho,Instr.box,newVar,newRow]
  refine dO (R:=λu w'=>u= .pointer (some ⟨w.heap.size,0,none⟩)/\w'=w.alloc (.cells (a.eval x).cells T (0,0))) (by rw[m];exact⟨rfl,rfl⟩) ?_;rintro u w' ⟨rfl,rfl⟩;rw[hd];refine F _ _ _ _ (hs.newvar had (by simpa[Nat.blt_eq]using hn) ?_);exact((nN hs hf p hx).cells hp).1
 |store T x y t off T' cs p hg hd ho hx hL hf hy hp hk hc=>
  have hw:Region.wanted o (yielded l.toArray a.tmps)=true:=by simp[Region.wanted,hg]
  rw[hw];simp only[if_true];have A:=hs.env x;rw[hx]at A;have D:a.eval (.tmp x)= .pointer (some ⟨lam t,off,none⟩):=A;have⟨vs,k1,k2,k3,k4,k5⟩:=hs.box t T' cs hL;have⟨m1,m2⟩:=(nN hs hf p hy).cells hp;have M:=k2.length;have H:=m1.length;have W:(a.eval y).cells.size=p.cells.length:=by simpa using H
  have k1':=k1;rw[hs.mem.heap]at k1';have C:=run_storeCells_at P (lam t) off T' (a.eval y).cells.toList 0 vs w k1' (by simp at M H⊢;omega) m2;have m:(execOp a.eval o).run P w= .ok .skip (w.setRow (lam t) (vs.toList.take off++(a.eval y).cells.toList++vs.toList.drop (off+(a.eval y).cells.toList.length)).toArray):=by
   simp only[Nat.add_zero]at C;simp only[execOp,ho,Instr.storeAt,Instr.sureAddr,D,storeVar,aZ hk,Sem.run_bind,Sem.run_pure,Result.andThen_ok,W,ne_eq,not_true_eq_false,if_false,C]
  refine dO (R:=λu w'=>u=undef/\w'=w.setRow (lam t) (vs.toList.take off++(a.eval y).cells.toList++vs.toList.drop (off+(a.eval y).cells.toList.length)).toArray) (by rw[m];exact⟨rfl,rfl⟩) ?_;rintro u w' ⟨rfl,rfl⟩;rw[hd];refine F _ _ _ _ (hs.setvar hL ?_);rw[gZ cs off p.cells hc];have:=(((k2.take off).append m1).append (k2.drop (off+p.cells.length)));rw[H];exact this
end
end Go.Abs
