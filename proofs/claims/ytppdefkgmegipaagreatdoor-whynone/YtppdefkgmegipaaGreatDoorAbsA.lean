import Derived.Still
import Derived.Below
import Derived.OrdersIn
import Derived.RangeFuncRecord
import Derived.WalkKit
set_option linter.unusedSimpArgs false
set_option linter.unusedVariables false
namespace Go.Abs
open Go
section
inductive PV where
 |und
 |val (v:Value)
 |agg (cs:List PV)
 |tup (cs:List PV)
 |seq (rows:List (List PV))
 |own (id:Nat) (rows:List (List PV))
 |rp (cs:List PV)
 |fn (f:FuncId) (caps:List PV)
 |fmap (es:List (Value×PV))
 |ref (id off:Nat)
 |vec (id sz off len:Nat)
 |el (id sz j off:Nat)
 |mref (id:Nat)
 |emp
 |yld (id:Nat)
instance : Inhabited PV:=⟨.und⟩
abbrev vi (n:Int):PV:= .val (.int .i64 n)
abbrev vu (n:Int):PV:= .val (.int .u64 n)
abbrev vb (b:Bool):PV:= .val (.bool b)
abbrev vs (s:ByteArray):PV:= .val (.string s)
def PV.cells :PV->List PV
 | .agg cs=>cs
 |v=>[v]
def PV.one :PV->Bool
 | .val (.agg _)| .val (.tuple _)| .und| .tup _| .agg _=>false
 |_=>true
def PV.flat :PV->Bool
 | .agg cs=>cs.all PV.one
 |p=>p.one
structure G where
 heap:Array Obj
 io:Nat->Option (Nat×Nat×Nat)
 fr:Nat->Nat
 fm:Nat->Prop
def aS (h:Array Obj) (b i:Nat):Option Value:=
 match h[b]? with
 |some (.cells c _ _)=>c[i]?
 |_=>none
mutual
def Rep (g:G):PV->Value->Prop
 | .und,_=>True
 | .val v,x=>x=v
 | .agg cs,x=>∃vs:List Value,x= .agg vs.toArray/\RepL g cs vs
 | .tup cs,x=>∃vs:List Value,x= .tuple vs.toArray/\RepL g cs vs
 | .seq rows,x=>∃a cap,x= .slice a rows.length cap/\rows.length<=cap/\rows.length<2^62/\(rows=[]\/∃b off sz,a=some ⟨b,off,none⟩/\RepR g b off sz rows)
 | .own id rows,x=>∃b cap sz,g.io id=some (b,rows.length,cap)/\rows.length<=cap/\rows.length<2^62/\((cap=0/\∃a,x= .slice a 0 0)\/(cap≠0/\x= .slice (some ⟨b,0,none⟩) rows.length cap/\RepR g b 0 sz rows))
 | .rp cs,x=>∃b off,x= .pointer (some ⟨b,off,none⟩)/\RepA g b off cs
 | .fn f caps,x=>∃vs:List Value,x= .func (.func f) #[] vs.toArray/\RepL g caps vs
 | .fmap es,x=>∃b ents clock,x= .map (some b)/\g.fm b/\g.heap[b]?=some (.map ents clock)/\RepE g es ents.toList
 | .ref id off,x=>∃b n cap,g.io id=some (b,n,cap)/\x= .pointer (some ⟨b,off,none⟩)
 | .vec id sz off len,x=>∃b n cap,g.io id=some (b,n,cap)/\off+len<=n/\n<=cap/\n<2^62/\((cap=0/\∃a,x= .slice a 0 0)\/(cap≠0/\x= .slice (some ⟨b,off*sz,none⟩) len (cap-off)))
 | .el id sz j off,x=>∃b n cap,g.io id=some (b,n,cap)/\x= .pointer (some ⟨b,j*sz+off,none⟩)
 | .mref id,x=>∃b n cap,g.io id=some (b,n,cap)/\x= .map (some b)
 | .emp,x=>∃a,x= .slice a 0 0
 | .yld id,x=>∃b n cap,g.io id=some (b,n,cap)/\x= .func (.yield b) #[] #[]
def RepL (g:G):List PV->List Value->Prop
 |[],vs=>vs=[]
 |p::ps,vs=>∃v vs',vs=v::vs'/\Rep g p v/\RepL g ps vs'
def RepA (g:G) (b off:Nat):List PV->Prop
 |[]=>True
 |p::ps=>(∃v,aS g.heap b off=some v/\off<g.fr b/\Rep g p v)/\RepA g b (off+1) ps
def RepR (g:G) (b off sz:Nat):List (List PV)->Prop
 |[]=>True
 |r::rs=>r.length=sz/\RepA g b off r/\RepR g b (off+sz) sz rs
def RepE (g:G):List (Value×PV)->List MapEntry->Prop
 |[],vs=>vs=[]
 |e::es,vs=>∃m ms,vs=m::ms/\m.key=e.1/\Rep g e.2 m.val/\RepE g es ms
end
structure Le (g g':G):Prop where
 io:∀id x,g.io id=some x->g'.io id=some x
 fr:∀b,g.fr b<=g'.fr b
 cell:∀b i,i<g.fr b->aS g'.heap b i=aS g.heap b i
 fm:∀b,g.fm b->g'.fm b/\g'.heap[b]?=g.heap[b]?
theorem Le.refl (g:G):Le g g:=⟨λ_ _ h=>h,λ_=>Nat.le_refl _,λ_ _ _=>rfl,λ_ h=>⟨h,rfl⟩⟩
theorem Le.trans {a b c:G} (h:Le a b) (k:Le b c):Le a c:=
  ⟨λid x e=>k.io id x (h.io id x e),λi=>Nat.le_trans (h.fr i) (k.fr i),
   λb i hi=>(k.cell b i (Nat.lt_of_lt_of_le hi (h.fr b))).trans (h.cell b i hi),
   λb hb=>⟨(k.fm b (h.fm b hb).1).1,(k.fm b (h.fm b hb).1).2.trans (h.fm b hb).2⟩⟩
mutual
theorem Rep.mono {g g':G} (h:Le g g'):∀(p:PV) (v:Value),Rep g p v->Rep g' p v
 | .und,_,_=>trivial
 | .val _,_,e=>by simpa [Rep] using e
 | .agg cs,x,e=>by
  simp only [Rep] at e⊢
  obtain ⟨vs,e1,e2⟩:=e
  exact ⟨vs,e1,RepL.mono h cs vs e2⟩
 | .tup cs,x,e=>by
  simp only [Rep] at e⊢
  obtain ⟨vs,e1,e2⟩:=e
  exact ⟨vs,e1,RepL.mono h cs vs e2⟩
 | .seq rows,x,e=>by
  simp only [Rep] at e⊢
  obtain ⟨a,cap,e1,e2,e3,e4⟩:=e
  refine ⟨a,cap,e1,e2,e3, ?_⟩
  rcases e4 with e4|⟨b,off,sz,e4,e5⟩
  ·exact .inl e4
  ·exact .inr ⟨b,off,sz,e4,RepR.mono h b off sz rows e5⟩
 | .own id rows,x,e=>by
  simp only [Rep] at e⊢
  obtain ⟨b,cap,sz,e1,e2,e3,e4⟩:=e
  refine ⟨b,cap,sz,h.io _ _ e1,e2,e3, ?_⟩
  rcases e4 with e4|⟨e4,e5,e6⟩
  ·exact .inl e4
  ·exact .inr ⟨e4,e5,RepR.mono h b 0 sz rows e6⟩
 | .rp cs,x,e=>by
  simp only [Rep] at e⊢
  obtain ⟨b,off,e1,e2⟩:=e
  exact ⟨b,off,e1,RepA.mono h b off cs e2⟩
 | .fn f caps,x,e=>by
  simp only [Rep] at e⊢
  obtain ⟨vs,e1,e2⟩:=e
  exact ⟨vs,e1,RepL.mono h caps vs e2⟩
 | .fmap es,x,e=>by
  simp only [Rep] at e⊢
  obtain ⟨b,ents,clock,e1,e2,e3,e4⟩:=e
  obtain ⟨h1,h2⟩:=h.fm b e2
  exact ⟨b,ents,clock,e1,h1,h2.trans e3,RepE.mono h es _ e4⟩
 | .ref id off,x,e=>by
  simp only [Rep] at e⊢
  obtain ⟨b,n,cap,e1,e2⟩:=e
  exact ⟨b,n,cap,h.io _ _ e1,e2⟩
 | .vec id sz off len,x,e=>by
  simp only [Rep] at e⊢
  obtain ⟨b,n,cap,e1,e2⟩:=e
  exact ⟨b,n,cap,h.io _ _ e1,e2⟩
 | .el id sz j off,x,e=>by
  simp only [Rep] at e⊢
  obtain ⟨b,n,cap,e1,e2⟩:=e
  exact ⟨b,n,cap,h.io _ _ e1,e2⟩
 | .mref id,x,e=>by
  simp only [Rep] at e⊢
  obtain ⟨b,n,cap,e1,e2⟩:=e
  exact ⟨b,n,cap,h.io _ _ e1,e2⟩
 | .emp,x,e=>by simpa only [Rep] using e
 | .yld id,x,e=>by
  simp only [Rep] at e⊢
  obtain ⟨b,n,cap,e1,e2⟩:=e
  exact ⟨b,n,cap,h.io _ _ e1,e2⟩
theorem RepL.mono {g g':G} (h:Le g g'):∀(ps:List PV) (vs:List Value),RepL g ps vs->RepL g' ps vs
 |[],_,e=>by simpa [RepL] using e
 |p::ps,vs,e=>by
  simp only [RepL] at e⊢
  obtain ⟨v,vs',e1,e2,e3⟩:=e
  exact ⟨v,vs',e1,Rep.mono h p v e2,RepL.mono h ps vs' e3⟩
theorem RepA.mono {g g':G} (h:Le g g') (b off:Nat):∀(ps:List PV),RepA g b off ps->RepA g' b off ps
 |[],_=>by simp [RepA]
 |p::ps,e=>by
  simp only [RepA] at e⊢
  obtain ⟨⟨v,e1,e2,e3⟩,e4⟩:=e
  exact ⟨⟨v,(h.cell b off e2).trans e1,Nat.lt_of_lt_of_le e2 (h.fr b),Rep.mono h p v e3⟩,RepA.mono h b (off+1) ps e4⟩
theorem RepR.mono {g g':G} (h:Le g g') (b off sz:Nat):∀(rs:List (List PV)),RepR g b off sz rs->RepR g' b off sz rs
 |[],_=>by simp [RepR]
 |r::rs,e=>by
  simp only [RepR] at e⊢
  exact ⟨e.1,RepA.mono h b off r e.2.1,RepR.mono h b (off+sz) sz rs e.2.2⟩
theorem RepE.mono {g g':G} (h:Le g g'):∀(es:List (Value×PV)) (ms:List MapEntry),RepE g es ms->RepE g' es ms
  |[],_,e=>by simpa [RepE] using e
  |(k,p)::es,ms,e=>by
    simp only [RepE] at e⊢
    obtain ⟨m,ms',e1,e2,e3,e4⟩:=e
    exact ⟨m,ms',e1,e2,Rep.mono h p m.val e3,RepE.mono h es ms' e4⟩
end
inductive AObj where
 |tok (T:TypeId)
 |cells (T:TypeId) (cs:List PV)
 |arr (T:TypeId) (rows:List (List PV))
 |map (es:List (Value×PV))
 |iter (cur:Option (Value×PV)) (left:List (Value×PV))
 |loop (q:LoopState) (n:Nat) (env:Nat->PV) (ps:Array Nat) (assign body:Code)
 |full (T:TypeId) (rows:List (List PV))
def blk (g:G) (id:Nat):Option Nat:=
 match g.io id with
 |some (b,_,cap)=>if cap=0 then none else some b
 |none=>none
def Stamps (ents:List MapEntry) (clock:Nat):Prop:=clock=ents.length/\∀(i:Nat) e,ents[i]?=some e->e.born=i
def uF (ents:List MapEntry) (clock:Nat):Prop:=(∀e∈ents,e.born<clock)/\(ents.map (·.born)).Nodup
theorem Stamps.weak {ents:List MapEntry} {clock:Nat} (h:Stamps ents clock):uF ents clock:=by
 refine ⟨λe he=> ?_, ?_⟩
 ·obtain ⟨i,hi⟩:=List.mem_iff_getElem?.1 he
  rw [h.2 i e hi,h.1]
  exact (List.getElem?_eq_some_iff.1 hi).1
 ·have:ents.map (·.born)=List.range ents.length:=by
   apply List.ext_getElem?
   intro i
   rw [List.getElem?_map]
   by_cases hi:i<ents.length
   ·rw [List.getElem?_eq_getElem hi,List.getElem?_range hi,Option.map_some,h.2 i _ (List.getElem?_eq_getElem hi)]
   ·rw [List.getElem?_eq_none (by omega),List.getElem?_eq_none (by simp;omega),Option.map_none]
  rw [this];exact List.nodup_range
def ObjOK (P:Program) (g:G) (id:Nat):AObj->Prop
 | .tok T=>∃b n cap,g.io id=some (b,n,cap)/\(cap=0\/∃c,g.heap[b]?=some (.cells c T (0,0))/\c.size=cap*P.cellsOf T/\g.fr b=n*P.cellsOf T)
 | .cells T cs=>∃b n cap vs,g.io id=some (b,n,cap)/\cap≠0/\g.heap[b]?=some (.cells vs T (0,0))/\RepL g cs vs.toList/\g.fr b=0
 | .arr T rows=>∃b cap,g.io id=some (b,rows.length,cap)/\((cap=0/\rows=[])\/(cap≠0/\∃vs sp,rows.length<=cap/\g.heap[b]?=some (.cells (vs++sp).toArray T (0,0))/\(vs++sp).length=cap*P.cellsOf T/\(∀r∈rows,r.length=P.cellsOf T)/\RepL g rows.flatten vs/\g.fr b=0))
 | .map es=>∃b n cap ents clock,g.io id=some (b,n,cap)/\cap≠0/\g.heap[b]?=some (.map ents clock)/\RepE g es ents.toList/\¬g.fm b/\Stamps ents.toList clock
 | .iter cur left=>∃b n cap bm ents clock seen,g.io id=some (b,n,cap)/\cap≠0/\g.heap[b]?=some (.mapIter (some bm) clock seen clock)/\g.fm bm/\g.heap[bm]?=some (.map ents clock)/\uF ents.toList clock/\RepE g left (ents.toList.filter λe=> !seen.contains e.born)/\∀k p,cur=some (k,p)->∃e∈ents.toList,e.key=k/\Rep g p e.val/\seen.back?=some e.born
 | .loop q n env ps assign body=>∃b m cap fn tmps dfs,g.io id=some (b,m,cap)/\cap≠0/\g.heap[b]?=some (.loop {state:=q,pending:=none,fn,tmps,params:=ps,assign,body,defers:=dfs})/\tmps.size=n/\∀t,Rep g (env t) (tmps.getD t undef)
 | .full T rows=>∃b vs,g.io id=some (b,rows.length,rows.length)/\rows.length≠0/\g.heap[b]?=some (.cells (vs:List Value).toArray T (0,0))/\vs.length=rows.length*P.cellsOf T/\(∀r∈rows,r.length=P.cellsOf T)/\RepL g rows.flatten vs/\g.fr b=0
def awB :Obj->Bool
 | .deferred _=>true
 |_=>false
theorem rH {P:Program} {g:G} {id:Nat} {o:AObj} (h:ObjOK P g id o):∃x,g.io id=some x:=by
 cases o<;>simp only [ObjOK] at h
 ·obtain ⟨b,n,cap,e,_⟩:=h;exact ⟨_,e⟩
 ·obtain ⟨b,n,cap,vs,e,_⟩:=h;exact ⟨_,e⟩
 ·obtain ⟨b,cap,e,_⟩:=h;exact ⟨_,e⟩
 ·obtain ⟨b,n,cap,ents,clock,e,_⟩:=h;exact ⟨_,e⟩
 ·obtain ⟨b,n,cap,bm,ents,clock,seen,e,_⟩:=h;exact ⟨_,e⟩
 ·obtain ⟨b,n,cap,fn,tmps,dfs,e,_⟩:=h;exact ⟨_,e⟩
 ·obtain ⟨b,vs,e,_⟩:=h;exact ⟨_,e⟩
theorem oW {P:Program} {g:G} {id b:Nat} {o:AObj} (h:ObjOK P g id o) (hb:Go.Abs.blk g id=some b):∃x,g.heap[b]?=some x/\awB x=false:=by
 unfold Go.Abs.blk at hb
 cases o<;>simp only [ObjOK] at h
 ·obtain ⟨b',n,cap,e,h|⟨x,e2,_⟩⟩:=h
  ·rw [e] at hb;simp [h] at hb
  ·rw [e] at hb;simp at hb;exact ⟨_,hb.2▸e2,rfl⟩
 ·obtain ⟨b',n,cap,x,e,_,e2,_⟩:=h;rw [e] at hb;simp at hb;exact ⟨_,hb.2▸e2,rfl⟩
 ·obtain ⟨b',cap,e,h|⟨_,x,y,_,e2,_⟩⟩:=h
  ·rw [e] at hb;simp [h.1] at hb
  ·rw [e] at hb;simp at hb;exact ⟨_,hb.2▸e2,rfl⟩
 ·obtain ⟨b',n,cap,x,y,e,_,e2,_⟩:=h;rw [e] at hb;simp at hb;exact ⟨_,hb.2▸e2,rfl⟩
 ·obtain ⟨b',n,cap,bm,ents,clock,seen,e,_,e2,_⟩:=h;rw [e] at hb;simp at hb;exact ⟨_,hb.2▸e2,rfl⟩
 ·obtain ⟨b',n,cap,fn,tmps,dfs,e,_,e2,_⟩:=h;rw [e] at hb;simp at hb;exact ⟨_,hb.2▸e2,rfl⟩
 ·obtain ⟨b',vs,e,_,e2,_⟩:=h;rw [e] at hb;simp at hb;exact ⟨_,hb.2▸e2,rfl⟩
theorem ObjOK.keep {P:Program} {g g':G} {id:Nat} (hl:Le g g') (hb:∀b,Go.Abs.blk g id=some b->g'.heap[b]?=g.heap[b]?/\g'.fr b=g.fr b/\(g'.fm b↔g.fm b)):∀{o:AObj},ObjOK P g id o->ObjOK P g' id o:=by
 have key:∀{b n cap},g.io id=some (b,n,cap)->cap≠0->Go.Abs.blk g id=some b:=fun {b n cap} h1 h2=>by simp [Go.Abs.blk,h1,h2]
 intro o h
 cases o with
 |tok T=>
  simp only [ObjOK] at h⊢
  obtain ⟨b,n,cap,h1,h2⟩:=h
  refine ⟨b,n,cap,hl.io _ _ h1, ?_⟩
  by_cases hc:cap=0
  ·exact .inl hc
  ·rcases h2 with h2|⟨c,h2,h3,h4⟩
   ·exact .inl h2
   ·obtain ⟨k1,k2,k3⟩:=hb b (key h1 hc)
    exact .inr ⟨c,k1.trans h2,h3,k2.trans h4⟩
 |cells T cs=>
  simp only [ObjOK] at h⊢
  obtain ⟨b,n,cap,vs,h1,h2,h3,h4,h5⟩:=h
  obtain ⟨k1,k2,k3⟩:=hb b (key h1 h2)
  exact ⟨b,n,cap,vs,hl.io _ _ h1,h2,k1.trans h3,RepL.mono hl _ _ h4,k2.trans h5⟩
 |arr T rows=>
  simp only [ObjOK] at h⊢
  obtain ⟨b,cap,h1,h2⟩:=h
  refine ⟨b,cap,hl.io _ _ h1,h2.imp (λh=>h) λ⟨h2,vs,sp,h3,h4,h5,h6,h7,h8⟩=> ?_⟩
  obtain ⟨k1,k2,k3⟩:=hb b (key h1 h2)
  exact ⟨h2,vs,sp,h3,k1.trans h4,h5,h6,RepL.mono hl _ _ h7,k2.trans h8⟩
 |map es=>
  simp only [ObjOK] at h⊢
  obtain ⟨b,n,cap,ents,clock,h1,h2,h3,h4,h5,h6⟩:=h
  obtain ⟨k1,k2,k3⟩:=hb b (key h1 h2)
  exact ⟨b,n,cap,ents,clock,hl.io _ _ h1,h2,k1.trans h3,RepE.mono hl _ _ h4,λhh=>h5 (k3.1 hh),h6⟩
 |iter cur left=>
  simp only [ObjOK] at h⊢
  obtain ⟨b,n,cap,bm,ents,clock,seen,h1,h2,h3,h4,h5,h6,h7,h8⟩:=h
  obtain ⟨k1,k2,k3⟩:=hb b (key h1 h2)
  obtain ⟨m1,m2⟩:=hl.fm bm h4
  exact ⟨b,n,cap,bm,ents,clock,seen,hl.io _ _ h1,h2,k1.trans h3,m1,m2.trans h5,h6,RepE.mono hl _ _ h7,λk p e=>by obtain ⟨x,x1,x2,x3,x4⟩:=h8 k p e;exact ⟨x,x1,x2,Rep.mono hl _ _ x3,x4⟩⟩
 |loop q n env ps assign body=>
  simp only [ObjOK] at h⊢
  obtain ⟨b,m,cap,fn,tmps,dfs,h1,h2,h3,h4,h5⟩:=h
  obtain ⟨k1,k2,k3⟩:=hb b (key h1 h2)
  exact ⟨b,m,cap,fn,tmps,dfs,hl.io _ _ h1,h2,k1.trans h3,h4,λt=>Rep.mono hl _ _ (h5 t)⟩
 |full T rows=>
  simp only [ObjOK] at h⊢
  obtain ⟨b,vs,h1,h2,h3,h4,h5,h6,h7⟩:=h
  obtain ⟨k1,k2,k3⟩:=hb b (key h1 h2)
  exact ⟨b,vs,hl.io _ _ h1,h2,k1.trans h3,h4,h5,RepL.mono hl _ _ h6,k2.trans h7⟩
abbrev aD :=Nat->Option AObj
structure MemOK (P:Program) (st:aD) (w:World) (g:G):Prop where
 heap:g.heap=w.heap
 obj:∀id o,st id=some o->ObjOK P g id o
 inj:∀id id' b,st id≠none->st id'≠none->blk g id=some b->blk g id'=some b->id=id'
 lt:∀b,g.fr b≠0->b<w.heap.size
 fmm:∀b,g.fm b->∃ents clock,w.heap[b]?=some (.map ents clock)/\uF ents.toList clock
 fin:∃N,∀id,N<=id->g.io id=none
def Blocks (st:aD) (g:G) (b:Nat):Prop:=∃id,st id≠none/\blk g id=some b
structure Frame (B:Nat->Prop) (w:World) (g:G) (w':World) (g':G):Prop where
 os:w'.os=w.os
 tape:w'.tape=w.tape/\w.drawn<=w'.drawn
 output:w'.output=w.output
 size:w.heap.size<=w'.heap.size
 old:∀b,b<w.heap.size->¬B b->w'.heap[b]?=w.heap[b]?/\g'.fr b=g.fr b/\(g'.fm b↔g.fm b)
theorem Frame.refl (B:Nat->Prop) (w:World) (g:G):Frame B w g w g:=⟨rfl,⟨rfl,Nat.le_refl _⟩,rfl,Nat.le_refl _,λ_ _ _=>⟨rfl,rfl,Iff.rfl⟩⟩
theorem Frame.trans {B B':Nat->Prop} {w w1 w2:World} {g g1 g2:G} (h:Frame B w g w1 g1) (k:Frame B' w1 g1 w2 g2) (hB:∀b,b<w.heap.size->B' b->B b):Frame B w g w2 g2:=
 ⟨k.os.trans h.os,⟨k.tape.1.trans h.tape.1,Nat.le_trans h.tape.2 k.tape.2⟩,k.output.trans h.output,Nat.le_trans h.size k.size,λb hb hn=>by
  have h1:=h.old b hb hn
  have h2:=k.old b (Nat.lt_of_lt_of_le hb h.size) (λx=>hn (hB b hb x))
  exact ⟨h2.1.trans h1.1,h2.2.1.trans h1.2.1,h2.2.2.trans h1.2.2⟩⟩
theorem Frame.mono {B B':Nat->Prop} {w w':World} {g g':G} (h:Frame B w g w' g') (hB:∀b,B b->B' b):Frame B' w g w' g':=
 ⟨h.os,h.tape,h.output,h.size,λb hb hn=>h.old b hb (λx=>hn (hB b x))⟩
def eD (P:Program) (f:FuncId):Bool:=
  match P.funcs[f]? with
  | some fn => !(fn.name == "runtime.NumGoroutine") && fn.body.isSome
  |none=>false
def PC (P:Program) (f:FuncId) (args:List PV) (st:aD) (R:PV->aD->Prop):Prop:=
 eD P f=true/\∀w g vs,MemOK P st w g->RepL g args vs->Calls P f vs.toArray w λe w'=>
  ∃v r st' g',e= .returned v/\R r st'/\Rep g' r v/\MemOK P st' w' g'/\Le g g'/\Frame (Blocks st g) w g w' g'/\∀b,Blocks st' g' b->Blocks st g b\/w.heap.size<=b
def PF (P:Program) (f:FuncId) (args:List PV) (r:PV):Prop:=∀st,PC P f args st λr' st'=>r'=r/\st'=st
theorem zqt.{u} {α:Sort u} {a b:α}:cond true a b=a:=rfl
theorem zqf.{u} {α:Sort u} {a b:α}:cond false a b=b:=rfl
theorem zql.{u,v} {α:Type u} {β:Type v} {l:List α} (f:α->β):(l.map f).length=l.length:=List.length_map f
theorem zqs.{u} {α:Type u} {l:Array α} {i:Nat} {a:α}:(l.setIfInBounds i a).size=l.size:=Array.size_setIfInBounds
theorem zn.{u} {c:Prop} {h:Decidable c} (hnc:¬c) {α:Sort u} {t e:α}:(ite c t e)=e:=if_neg hnc
theorem zp.{u} {c:Prop} {h:Decidable c} (hc:c) {α:Sort u} {t e:α}:(ite c t e)=t:=if_pos hc
theorem zls {a b:Nat}:a<b.succ↔a<b∨a=b:=Nat.lt_succ_iff_lt_or_eq
theorem zgo.{u} {α:Type u} {a:α} {l:List α} (h:a∈l):∃i,∃h:i<l.length,l[i]=a:=List.getElem_of_mem h
theorem zdn {p:Prop} [Decidable p] (h:¬¬p):p:=Decidable.of_not_not h
theorem zms.{u} {α:Type u} {a b:α}:a∈[b]↔a=b:=List.mem_singleton
theorem ztl.{u} {α:Type u} {l:List α} {i:Nat} (h:l.length≤i):l.take i=l:=List.take_of_length_le h
theorem zge.{u} {α:Type u} {a:α} {l:List α} {i:Nat}:l[i]?=some a↔∃h:i<l.length,l[i]=a:=List.getElem?_eq_some_iff
theorem zgg.{u} {α:Type u} {l:List α} {i:Nat} (h:i<l.length):l[i]?=some l[i]:=List.getElem?_eq_getElem h
theorem zmp.{u,v} {α:Type u} {β:Type v} {f:α→β} {a:α} {l:List α}:(a::l).map f=f a::l.map f:=List.map_cons
theorem zba (a b:Bool):((a&&b)=true)=(a=true∧b=true):=Bool.and_eq_true a b
theorem zde {p:Prop} [Decidable p]:(decide p=true)=p:=decide_eq_true_eq
theorem zgm.{u} {α:Type u} {l:List α} {n:Nat} (h:n<l.length):l[n]∈l:=List.getElem_mem h
theorem zla.{u} {α:Type u} {a b:List α}:(a++b).length=a.length+b.length:=List.length_append
theorem zlt.{u} {α:Type u} {i:Nat} {l:List α}:(l.take i).length=min i l.length:=List.length_take
theorem zld.{u} {α:Type u} {i:Nat} {l:List α}:(l.drop i).length=l.length-i:=List.length_drop
theorem zlc.{u} {α:Type u} {a:α} {l:List α}:(a::l).length=l.length+1:=List.length_cons
theorem zal.{u} {α:Type u} {p:α→Bool} {l:List α}:l.all p=true↔∀x∈l,p x=true:=List.all_eq_true
theorem zma.{u} {α:Type u} {a:α} {s t:List α}:a∈s++t↔a∈s∨a∈t:=List.mem_append
theorem zmc.{u} {α:Type u} {a b:α} {l:List α}:a∈b::l↔a=b∨a∈l:=List.mem_cons
end
section
inductive E where
 |pv (p:PV)
 |adr (t off:Nat)
structure St where
 env:Nat->Bool×E
 L:Nat->Option (TypeId×List PV)
 ad:Nat->Bool
 st:aD
 n:Nat
 top:Option Nat
def St.sst (s:St) (st:aD):St:={s with st:=st}
def upd {α:Type} (f:Nat->α) (d:Nat) (v:α):Nat->α:=λt=>bif Nat.beq t d then v else f t
theorem aA {α:Type} (f:Nat->α) (d:Nat) (v:α):upd f d v d=v:=by simp [upd]
theorem aC {α:Type} {f:Nat->α} {d t:Nat} {v:α} (h:t≠d):upd f d v t=f t:=by
 have:Nat.beq t d=false:=by
  cases hb:Nat.beq t d
  ·rfl
  ·exact absurd (Nat.eq_of_beq_eq_true hb) h
 simp [upd,this]
theorem dH {α:Type} {f:Nat->α} {d e:Nat} {v u:α} (h:d≠e):upd (upd f d v) e u=upd (upd f e u) d v:=by
 funext t
 by_cases h1:t=d
 ·subst h1;rw [aC h,aA,aA]
 ·by_cases h2:t=e
  ·subst h2;rw [aA,aC h1,aA]
  ·rw [aC h2,aC h1,aC h1,aC h2]
def St.put (s:St) (d:Option Nat) (w:Bool) (e:E):St:=
 match d with
 |some d=>{s with env:=upd s.env d (w,e)}
 |none=>s
def EntOK (g:G) (lam:Nat->Nat):Bool×E->Value->Prop
 |(true, .pv p),x=>Rep g p x
 |(true, .adr t off),x=>x= .pointer (some ⟨lam t,off,none⟩)
 |(false,_),x=>x=undef
structure Ctx where
 w:World
 g:G
 B:Nat->Prop
 ro:Option Nat
def FR (ro:Option Nat):Fence:={Fence.wide with round:=ro}
def mT (D:Nat):Deferred:={target:= .collected D,args:= #[]}
def DfOK (c:Ctx) (a:Act) (g:G):Prop:=∃Ds:List Nat,a.defers=Ds.map mT/\Ds.Nodup/\∀D∈Ds,g.heap[D]?=some (.deferred (some []))/\c.w.heap.size<=D
theorem DfOK.mono {c:Ctx} {a a':Act} {g g':G} (h:DfOK c a g) (ha:a'.defers=a.defers) (hg:∀(D:Nat),g.heap[D]?=some (Obj.deferred (some []))->g'.heap[D]?=g.heap[D]?):DfOK c a' g':=by
 obtain ⟨Ds,h1,h2,h3⟩:=h
 exact ⟨Ds,ha.trans h1,h2,λD hD=>⟨(hg D (h3 D hD).1).trans (h3 D hD).1,(h3 D hD).2⟩⟩
def aAx :Option Nat->Ctx->Prop
 |none,c=>c.ro=none
 |some i,c=>∃b m cap,c.ro=some b/\c.g.io i=some (b,m,cap)
structure SI (P:Program) (c:Ctx) (s:St) (a:Act) (w:World) (g:G) (lam:Nat->Nat):Prop where
 mem:MemOK P s.st w g
 le:Le c.g g
 frame:Frame c.B c.w c.g w g
 blk:∀b,Blocks s.st g b->c.B b\/c.w.heap.size<=b
 env:∀t,EntOK g lam (s.env t) (a.tmps.getD t undef)
 box:∀t T cs,s.L t=some (T,cs)->∃vs,g.heap[lam t]?=some (.cells vs T (0,0))/\RepL g cs vs.toList/\g.fr (lam t)=0/\c.w.heap.size<=lam t/\¬Blocks s.st g (lam t)
 inj:∀t t',s.L t≠none->s.L t'≠none->lam t=lam t'->t=t'
 ad:∀t w u off,s.env t=(w, .adr u off)->s.ad u=true
 adL:∀t,s.L t≠none->s.ad t=true
 defers:DfOK c a g
 n:a.tmps.size=s.n
 top:aAx s.top c
def PWp (P:Program) (cd:Code) (Q:Exit->St->Prop) (s:St):Prop:=
 ∀c a w g lam,SI P c s a w g lam->cd.wpIn (FR c.ro) 0 P (λe a' w'=>∃s' g' lam',Q e s'/\SI P c s' a' w' g' lam') a w
theorem PWp.mono {P:Program} {cd:Code} {Q Q':Exit->St->Prop} {s:St} (h:PWp P cd Q s) (hq:∀e s,Q e s->Q' e s):PWp P cd Q' s:=
 λc a w g lam hs=>wpIn_mono (h c a w g lam hs) λ_ _ _ ⟨s',g',lam',q,si⟩=>⟨s',g',lam',hq _ _ q,si⟩
section
variable {P:Program} {Q:Exit->St->Prop} {s:St}
theorem auO (h:Q .normal s):PWp P .skip Q s:=λ_ _ _ g lam hs=>wpIn_skip ⟨s,g,lam,h,hs⟩
theorem atM {id:Nat} (h:Q (.exit id) s):PWp P (.exit id) Q s:=λ_ _ _ g lam hs=>wpIn_exit ⟨s,g,lam,h,hs⟩
theorem pS (h:Q .ret s):PWp P .ret Q s:=λ_ _ _ g lam hs=>wpIn_ret ⟨s,g,lam,h,hs⟩
def aAy (K:St->Prop) (Q:Exit->St->Prop):Exit->St->Prop
 | .normal,s=>K s
 |e,s=>Q e s
theorem ayM {x y:Code} (h:PWp P x (aAy (PWp P y Q) Q) s):PWp P (.seq x y) Q s:=λc a w g lam hs=>
 wpIn_seq (wpIn_mono (h c a w g lam hs) λe a' w' ⟨s',g',lam',q,si⟩=>by
  cases e<;>first
   |exact q c a' w' g' lam' si
   |exact ⟨s',g',lam',q,si⟩)
def oU (id:Nat) (Q:Exit->St->Prop):Exit->St->Prop
 | .exit id',s=>if id'=id then Q .normal s else Q (.exit id') s
 |e,s=>Q e s
theorem anB {id:Nat} {x:Code} (h:PWp P x (oU id Q) s):PWp P (.block id x) Q s:=λc a w g lam hs=>
 wpIn_block (wpIn_mono (h c a w g lam hs) λe a' w' ⟨s',g',lam',q,si⟩=>by
  cases e with
  |exit id'=>
   simp only [Exit.inBlock,oU] at q⊢
   split
   ·rename_i hh;rw [zp hh] at q;exact ⟨s',g',lam',q,si⟩
   ·rename_i hh;rw [zn hh] at q;exact ⟨s',g',lam',q,si⟩
  |_=>exact ⟨s',g',lam',q,si⟩)
theorem SI.tmp_bool {c:Ctx} {a:Act} {w:World} {g:G} {lam:Nat->Nat} (hs:SI P c s a w g lam) {t:Nat} {b:Bool} (h:s.env t=(true, .pv (.val (.bool b)))):
  a.eval (.tmp t)= .bool b:=by
 have:=hs.env t
 rw [h] at this
 simpa [EntOK,Rep,Act.eval] using this
theorem asE {t:Nat} {b:Bool} {x y:Code} (h:s.env t=(true, .pv (.val (.bool b)))) (ht:b=true->PWp P x Q s) (hf:b=false->PWp P y Q s):PWp P (.cond (.tmp t) x y) Q s:=
 λc a w g lam hs=>wpIn_cond_split (hs.tmp_bool h) (λe=>ht e c a w g lam hs) (λe=>hf e c a w g lam hs)
end
def StSub (st2 st:aD):Prop:=∀id,st2 id=none\/st2 id=st id
theorem StSub.refl (st:aD):StSub st st:=λ_=> .inr rfl
theorem zsr (st:aD):StSub st st:=StSub.refl st
theorem StSub.via {st st':aD} (id:Nat) (hid:st id=none) (h:∀j,j≠id->st' j=st j):StSub st st':=λj=>by
 by_cases hj:j=id
 ·left;rw [hj];exact hid
 ·right;exact (h j hj).symm
theorem MemOK.sub {P:Program} {st st2:aD} {w:World} {g:G} (h:MemOK P st w g) (hs:StSub st2 st):MemOK P st2 w g:=
  ⟨h.heap,λid o e=>h.obj id o (by rcases hs id with k|k<;>rw [k] at e<;>first|cases e|exact e),
   λid id' b e e'=>h.inj id id' b (by rcases hs id with k|k<;>rw [k] at e<;>first|exact absurd rfl e|exact e) (by rcases hs id' with k|k<;>rw [k] at e'<;>first|exact absurd rfl e'|exact e'),h.lt,h.fmm,h.fin⟩
theorem Blocks.sub {st st2:aD} {g:G} (hs:StSub st2 st) {b:Nat} (h:Blocks st2 g b):Blocks st g b:=by
 obtain ⟨id,h1,h2⟩:=h
 refine ⟨id, ?_,h2⟩
 rcases hs id with k|k<;>rw [k] at h1<;>first|exact absurd rfl h1|exact h1
structure Sub (s s2:St):Prop where
 env:∀t,s2.env t=(true, .pv .und)\/s2.env t=s.env t
 L:∀t x,s2.L t=some x->s.L t=some x
 st:StSub s2.st s.st
 n:s2.n=s.n
 top:s2.top=s.top
 ad:∀t w u off,s2.env t=(w, .adr u off)->s2.ad u=true
 adL:∀t,s2.L t≠none->s2.ad t=true
theorem SI.sub {P:Program} {c:Ctx} {s s2:St} {a:Act} {w:World} {g:G} {lam:Nat->Nat} (hs:SI P c s a w g lam) (h:Sub s s2):SI P c s2 a w g lam where
 mem:=hs.mem.sub h.st
 le:=hs.le
 frame:=hs.frame
 blk b hb:=hs.blk b (hb.sub h.st)
 env t:=by
  rcases h.env t with e|e
  ·rw [e];simp [EntOK,Rep]
  ·rw [e];exact hs.env t
 box t T cs e:=by
  obtain ⟨vs,h1,h2,h3,h4,h5⟩:=hs.box t T cs (h.L t _ e)
  exact ⟨vs,h1,h2,h3,h4,λhb=>h5 (hb.sub h.st)⟩
 inj t t' e e' hl:=by
  cases h1:s2.L t with
  |none=>exact absurd h1 e
  |some x=>
   cases h2:s2.L t' with
   |none=>exact absurd h2 e'
   |some y=>exact hs.inj t t' (by rw [h.L t x h1];simp) (by rw [h.L t' y h2];simp) hl
 ad:=h.ad
 adL:=h.adL
 defers:=hs.defers
 n:=h.n▸hs.n
 top:=h.top▸hs.top
section
variable {P:Program} {Q:Exit->St->Prop} {s:St}
def arS (I:St->Prop) (Q:Exit->St->Prop):Exit->St->Prop
 | .normal,s=>I s
 |e,s=>Q e s
theorem aqB {P:Program} {F:Fence} {body:Code} {b:Go.Frame} {k:List Item} {cs:List Go.Frame} {a:Act} {w:World} {Q':Exit->Act->World->Prop} (hb:F.fn b.fn) (hr:F.room (cs.length+1+0))
  (h:∃e a' w',Exit.then (λa₁ w₁=>∃e a' w',Q' e a' w'/\ArrivesIn (Machine.fenced P F) P (lone (b.atR a₁ (.code body:: .inLoop body::k)) cs w₁) b k cs e a' w') Q' e a' w'/\ArrivesIn (Machine.fenced P F) P (lone (b.atR a (.code body:: .inLoop body::k)) cs w) b (.inLoop body::k) cs e a' w'):
  ∃e a' w',Q' e a' w'/\ArrivesIn (Machine.fenced P F) P (lone (b.atR a (.code body:: .inLoop body::k)) cs w) b k cs e a' w':=by
 obtain ⟨e,a₁,w₁,hq,harr⟩:=h
 cases e with
 |normal=>
  obtain ⟨e₂,a₂,w₂,hq₂,harr₂⟩:=hq
  exact ⟨e₂,a₂,w₂,hq₂, .of_steps (StepsIn.trans harr (.one (fenced_calm (fr:=b.atR a₁ (.inLoop body::k)) hb hr rfl) stepR_inLoop)) harr₂⟩
 |exit id=>exact ⟨_,a₁,w₁,hq, .pass (x:= .inLoop body) rfl (λ_ _=> .inl (by simp)) harr⟩
 |goto l=>exact ⟨_,a₁,w₁,hq, .pass (x:= .inLoop body) rfl (λ_ _=> .inl (by simp)) harr⟩
 |ret=>exact ⟨_,a₁,w₁,hq, .pass (x:= .inLoop body) rfl (λ_ _=> .inl (by simp)) harr⟩
 |panic ch=>exact ⟨_,a₁,w₁,hq, .pass (x:= .inLoop body) rfl (λ_ _=> .inl (by simp)) harr⟩
 |outgrown=>exact ⟨_,a₁,w₁,hq, .pass (x:= .inLoop body) rfl (λ_ _=> .inl (by simp)) harr⟩
theorem asW {X:Type} {body:Code} (sh:X->St) (m:X->Nat) (x0:X) (h0:Sub s (sh x0))
  (round:∀x,PWp P body (arS (λs'=>∃x',Sub s' (sh x')/\m x'<m x) Q) (sh x)):PWp P (.loop body) Q s:=by
 intro c a w g lam hs b k cs hro hb hr
 have key:∀n x,m x=n->∀a w g lam,SI P c (sh x) a w g lam->∃e a' w',(∃s' g' lam',Q e s'/\SI P c s' a' w' g' lam')/\ArrivesIn (Machine.fenced P (FR c.ro)) P (lone (b.atR a (.code body:: .inLoop body::k)) cs w) b k cs e a' w':=by
  intro n
  induction n using Nat.strongRecOn with
  |_ n ih=>
   intro x hx a w g lam hs
   obtain ⟨e,a₁,w₁,⟨s',g',lam',hq,hs'⟩,harr⟩:=round x c a w g lam hs b (.inLoop body::k) cs hro hb hr
   refine aqB hb hr ⟨e,a₁,w₁, ?_,harr⟩
   cases e with
   |normal=>
    obtain ⟨x',hx',hlt⟩:=hq
    exact ih (m x') (hx▸hlt) x' rfl a₁ w₁ g' lam' (hs'.sub hx')
   |_=>exact ⟨s',g',lam',hq,hs'⟩
 obtain ⟨e,a',w',hq,harr⟩:=key _ x0 rfl a w g lam (hs.sub h0)
 exact ⟨e,a',w',hq, .of_steps (.one (fenced_calm (fr:=b.atR a (.code (.loop body)::k)) hb hr rfl) stepR_loop) harr⟩
end
def St.nil (n:Nat) (st:aD):St:=⟨λ_=>(true, .pv .und),λ_=>none,λ_=>false,st,n,none⟩
def St.pv (s:St) (t:Nat) (p:PV):St:={s with env:=upd s.env t (true, .pv p)}
def St.var (s:St) (t:Nat) (T:TypeId) (cs:List PV):St:={s with env:=upd s.env t (true, .adr t 0),L:=upd s.L t (some (T,cs)),ad:=upd s.ad t true}
theorem Sub.nil (s:St) (n:Nat) (st:aD) (h:StSub st s.st) (hn:(n,none)=(s.n,s.top)):Sub s (St.nil n st):=
 ⟨λ_=> .inl rfl,λ_ _ e=>(by cases e),h,(Prod.mk.inj hn).1,(Prod.mk.inj hn).2,λ_ _ _ _ e=>(by cases e),λ_ e=>absurd rfl e⟩
theorem Sub.pv {s s2:St} (h:Sub s s2) {t:Nat} {p:PV} (e:s.env t=(true, .pv p)):Sub s (s2.pv t p):=
  ⟨λu=>by
      by_cases hu:u=t
      · subst hu;right;show upd _ _ _ _=_;rw [aA,e]
      · show upd _ _ _ _=_\/upd _ _ _ _=_;rw [aC hu];exact h.env u,
   h.L,h.st,h.n,h.top,λu w v off e'=>by
      by_cases hu:u=t
      · subst hu;have:upd s2.env u (true, .pv p) u=_:=e';rw [aA] at this;cases this
      · have:upd s2.env t (true, .pv p) u=_:=e';rw [aC hu] at this;exact h.ad u w v off this,h.adL⟩
theorem Sub.var {s s2:St} (h:Sub s s2) {t:Nat} {T:TypeId} {cs:List PV} (e:s.env t=(true, .adr t 0)) (eL:s.L t=some (T,cs)):Sub s (s2.var t T cs):=
  ⟨λu=>by
      by_cases hu:u=t
      · subst hu;right;show upd _ _ _ _=_;rw [aA,e]
      · show upd _ _ _ _=_\/upd _ _ _ _=_;rw [aC hu];exact h.env u,
   λu x e'=>by
      by_cases hu:u=t
      · subst hu;have:upd s2.L u (some (T,cs)) u=_:=e';rw [aA] at this;rw [eL,<-this]
      · have:upd s2.L t (some (T,cs)) u=_:=e';rw [aC hu] at this;exact h.L u x this,
   h.st,h.n,h.top,λu w v off e'=>by
      show upd s2.ad t true v=true
      by_cases hv:v=t
      · subst hv;exact aA _ _ _
      · rw [aC hv]
        by_cases hu:u=t
        · subst hu;have:upd s2.env u (true, .adr u 0) u=_:=e';rw [aA] at this;injection this with h1 h2;injection h2 with h2 h3;exact absurd h2.symm hv
        · have:upd s2.env t (true, .adr t 0) u=_:=e';rw [aC hu] at this;exact h.ad u w v off this,
   λu e'=>by
      show upd s2.ad t true u=true
      by_cases hu:u=t
      · subst hu;exact aA _ _ _
      · have:upd s2.L t (some (T,cs)) u≠none:=e';rw [aC hu] at this⊢;exact h.adL u this⟩
theorem Sub.pv' {s s2:St} (h:Sub s s2) {t:Nat} {p q:PV} (e:s.env t=(true, .pv q)) (hq:q=p):Sub s (s2.pv t p):=h.pv (hq▸e)
theorem Sub.var' {s s2:St} (h:Sub s s2) {t:Nat} {T:TypeId} {cs ds:List PV} (e:s.env t=(true, .adr t 0)) (eL:s.L t=some (T,ds)) (hq:ds=cs):Sub s (s2.var t T cs):=h.var e (hq▸eL)
end
section
def opd (s:St):Operand->Option PV
 | .tmp t=>match s.env t with
  |(_, .pv p)=>some p
  |_=>none
 | .const v=>some (.val v)
 | .func f=>some (.fn f [])
 | .global _=>none
def fP (g:G) (s:St) (x:Operand) (v:Value):Prop:=∀p,opd s x=some p->Rep g p v
def OpRes (P:Program) (R:Value->World->Prop):Result Next->Prop
 | .ok (.value v) w'=>R v w'
 | .ok .skip w'=>R undef w'
 | .ok (.enter f args) w'=>Calls P f args w' λe w''=>∃v,e= .returned v/\R v w''
 | .ok (.round l f tmps x y) w'=>RoundIn Fence.wide 0 P l f tmps x y w' λe w''=>∃v,e= .returned v/\R v w''
 |_=>False
def OpV (P:Program) (o:Oper) (s:St) (p:PV):Prop:=
 ∀w g (ρ:Operand->Value),MemOK P s.st w g->(∀x∈o.op.operands,fP g s x (ρ x))->
  OpRes P (λv w'=>∃g',Rep g' p v/\MemOK P s.st w' g'/\Le g g'/\Frame (Blocks s.st g) w g w' g') ((execOp ρ o).run P w)
def dJ (s:St):Operand->Prop
 | .tmp t=>(s.env t).1=true
 |_=>True
def gw :Bool->Bool->Bool->Bool
 |true,x,true=>x
 |true,x,false=> !x
 |false,_,_=>false
def bF (l:List Oper) (o:Oper) (s:St):Option Bool:=
 match o.guard with
 |none=>some true
 |some (j,b)=>match (l[j]?).bind (·.dst) with
  |none=>none
  |some t=>match s.env t with
   |(w, .pv (.val (.bool x)))=>some (gw w x b)
   |_=>none
inductive Tr where
 |put (d:Option Nat) (w:Bool) (e:E)
 |box (d:Nat) (T:TypeId) (cs:List PV)
 |sto (t:Nat) (T:TypeId) (cs:List PV)
def Tr.app :Tr->St->St
 | .put d w e,s=>s.put d w e
 | .box d T cs,s=>s.var d T cs
 | .sto t T cs,s=>{s with L:=upd s.L t (some (T,cs))}
def fG (o:Oper) (s:St):Bool:=
 match o.dst with
 |some d=>Nat.blt d s.n
 |none=>true
def bZ (cs:List PV) (off k:Nat):List PV:=(cs.drop off).take k
def fE :List PV->Nat->List PV->List PV
 |cs,0,[]=>cs
 |[],_,_=>[]
 |_::cs,0,p::ps=>p::fE cs 0 ps
 |c::cs,n+1,ps=>c::fE cs n ps
def bD (P:Program) (T:TypeId):Bool:=
 match P.underlying T with
 |some (.struct _)|some (.array _ _)=>true
 |_=>false
def kO (P:Program) (s:St):Op->Option (Bool×Nat×Nat)
  | .fieldAddr T (.tmp x) f=>match s.env x with
    |(w, .adr t off)=>match P.underlying T with
      |some (.struct fs)=>match fs[f]? with
        |some fd=>if P.cellsOf fd.type=0 then none else some (w,t,off+fd.offset)
        |none=>none
      |_=>none
    |_=>none
  |_=>none
inductive AStep (P:Program) (l:List Oper) (o:Oper) (s:St):Bool->Tr->Prop
 |val (rd w:Bool) (p:PV) (hw:bF l o s=some w) (hd:fG o s=true) (hf:w=true->∀x∈o.op.operands,dJ s x) (hv:w=true->bif rd then OpV P o s p else ∀st',OpV P o (s.sst st') p):AStep P l o s rd (.put o.dst w (.pv p))
 |pick (w:Bool) (t:Nat) (a b:Operand) (wt x:Bool) (p:PV) (hw:bF l o s=some w) (hd:fG o s=true) (ho:o.op= .pick (.tmp t) a b) (ht:s.env t=(wt, .pv (.val (.bool x)))) (hwt:w=true->wt=true)
   (ha:w=true->x=true->dJ s a/\opd s a=some p) (hb:w=true->x=false->dJ s b/\opd s b=some p):AStep P l o s false (.put o.dst w (.pv p))
 |adr (w wx:Bool) (t off:Nat) (hw:bF l o s=some w) (hd:fG o s=true) (ho:kO P s o.op=some (wx,t,off)) (hf:w=true->wx=true):AStep P l o s false (.put o.dst w (.adr t off))
 |adrI (w wx:Bool) (t off:Nat) (T:TypeId) (x:Nat) (y:Operand) (k:IntKind) (i:Int) (n e sz j:Nat) (hw:bF l o s=some w) (hd:fG o s=true) (ho:o.op= .indexAddr T (.tmp x) y) (hx:s.env x=(wx, .adr t off)) (hy:opd s y=some (.val (.int k i)))
   (hf:w=true->wx=true/\dJ s y) (hu:P.underlying T=some (.array n e)) (hs:(P.info? e).map (·.size)=some sz) (hj:w=true->i=(j:Int)/\j<n):AStep P l o s false (.put o.dst w (.adr t (off+j*sz)))
 |load1 (w wx:Bool) (T:TypeId) (x t off:Nat) (T':TypeId) (cs:List PV) (p:PV) (hw:bF l o s=some w) (hd:fG o s=true) (ho:o.op= .load T (.tmp x)) (hx:s.env x=(wx, .adr t off)) (hf:w=true->wx=true)
   (hL:s.L t=some (T',cs)) (hT:bD P T=false) (hu:(P.underlying T).isSome=true) (hc:cs[off]?=some p):AStep P l o s false (.put o.dst w (.pv p))
 |loadA (w wx:Bool) (T:TypeId) (x t off:Nat) (T':TypeId) (cs:List PV) (k:Nat) (hw:bF l o s=some w) (hd:fG o s=true) (ho:o.op= .load T (.tmp x)) (hx:s.env x=(wx, .adr t off)) (hf:w=true->wx=true)
   (hL:s.L t=some (T',cs)) (hT:bD P T=true) (hk:(P.info? T).map (·.size)=some k) (hc:off+k<=cs.length):AStep P l o s false (.put o.dst w (.pv (.agg (bZ cs off k))))
 |alloc (d:Nat) (T:TypeId) (z:Value) (hg:o.guard=none) (hd:o.dst=some d) (hn:Nat.blt d s.n=true) (had:s.ad d=false) (ho:o.op= .alloc T) (hz:(P.info? T).bind (·.zero)=some z):
   AStep P l o s false (.box d T (z.cells.toList.map .val))
 |box (d:Nat) (T:TypeId) (x:Operand) (p:PV) (hg:o.guard=none) (hd:o.dst=some d) (hn:Nat.blt d s.n=true) (had:s.ad d=false) (ho:o.op= .box T x) (hf:dJ s x) (hx:opd s x=some p) (hp:p.flat=true):
   AStep P l o s false (.box d T p.cells)
 |store (T:TypeId) (x:Nat) (y:Operand) (t off:Nat) (T':TypeId) (cs:List PV) (p:PV) (hg:o.guard=none) (hd:o.dst=none) (ho:o.op= .store T (.tmp x) y) (hx:s.env x=(true, .adr t off)) (hL:s.L t=some (T',cs))
   (hf:dJ s y) (hy:opd s y=some p) (hp:p.flat=true) (hk:(P.info? T).map (·.size)=some p.cells.length) (hc:off+p.cells.length<=cs.length):AStep P l o s false (.sto t T' (fE cs off p.cells))
theorem RepL.length {g:G}:∀{ps:List PV} {vs:List Value},RepL g ps vs->vs.length=ps.length
 |[],vs,h=>by simp [RepL] at h;simp [h]
 |p::ps,vs,h=>by
  simp only [RepL] at h
  obtain ⟨v,vs',rfl,_,h2⟩:=h
  simp [RepL.length h2]
theorem RepL.get {g:G}:∀{ps:List PV} {vs:List Value} {i:Nat} {p:PV},RepL g ps vs->ps[i]?=some p->∃v,vs[i]?=some v/\Rep g p v
 |[],_,_,_,_,e=>by simp at e
 |q::ps,vs,i,p,h,e=>by
  simp only [RepL] at h
  obtain ⟨v,vs',rfl,h1,h2⟩:=h
  cases i with
  |zero=>simp at e;subst e;exact ⟨v,by simp,h1⟩
  |succ i=>simp at e;simpa using RepL.get h2 e
theorem RepL.drop {g:G}:∀{ps:List PV} {vs:List Value} (i:Nat),RepL g ps vs->RepL g (ps.drop i) (vs.drop i)
 |_,_,0,h=>by simpa using h
 |[],vs,i+1,h=>by simp [RepL] at h;simp [h,RepL]
 |p::ps,vs,i+1,h=>by
  simp only [RepL] at h
  obtain ⟨v,vs',rfl,_,h2⟩:=h
  simpa using RepL.drop i h2
theorem RepL.take {g:G}:∀{ps:List PV} {vs:List Value} (i:Nat),RepL g ps vs->RepL g (ps.take i) (vs.take i)
 |_,_,0,h=>by simp [RepL]
 |[],vs,i+1,h=>by simp [RepL] at h;simp [h,RepL]
 |p::ps,vs,i+1,h=>by
  simp only [RepL] at h
  obtain ⟨v,vs',rfl,h1,h2⟩:=h
  simp only [List.take_succ_cons,RepL]
  exact ⟨v,_,rfl,h1,RepL.take i h2⟩
theorem RepL.append {g:G}:∀{ps qs:List PV} {vs us:List Value},RepL g ps vs->RepL g qs us->RepL g (ps++qs) (vs++us)
 |[],_,vs,us,h,k=>by simp [RepL] at h;simpa [h] using k
 |p::ps,qs,vs,us,h,k=>by
  simp only [RepL] at h
  obtain ⟨v,vs',rfl,h1,h2⟩:=h
  simp only [List.cons_append,RepL]
  exact ⟨v,_,rfl,h1,RepL.append h2 k⟩
theorem RepL.vals {g:G}:∀(vs:List Value),RepL g (vs.map .val) vs
 |[]=>by simp [RepL]
 |v::vs=>by simp only [zmp,RepL];exact ⟨v,vs,rfl,by simp [Rep],RepL.vals vs⟩
theorem Rep.oneCell {g:G} {p:PV} {v:Value} (h:Rep g p v) (hp:p.one=true):v.oneCell'=true/\v.cells= #[v]:=by
 cases p with
 |agg cs=>simp [PV.one] at hp
 |und=>simp [PV.one] at hp
 |tup cs=>simp [PV.one] at hp
 |val u=>
  simp only [Rep] at h
  subst h
  cases v<;>simp [PV.one] at hp<;>simp [Value.oneCell',Value.cells]
 |seq rows=>simp only [Rep] at h;obtain ⟨_,_,rfl,_⟩:=h;exact ⟨rfl,rfl⟩
 |own id rows=>simp only [Rep] at h;obtain ⟨_,_,_,_,_,_,h⟩:=h;rcases h with ⟨_,_,rfl⟩|⟨_,rfl,_⟩<;>exact ⟨rfl,rfl⟩
 |rp cs=>simp only [Rep] at h;obtain ⟨_,_,rfl,_⟩:=h;exact ⟨rfl,rfl⟩
 |fn f cs=>simp only [Rep] at h;obtain ⟨_,rfl,_⟩:=h;exact ⟨rfl,rfl⟩
 |fmap es=>simp only [Rep] at h;obtain ⟨_,_,_,rfl,_⟩:=h;exact ⟨rfl,rfl⟩
 |ref id off=>simp only [Rep] at h;obtain ⟨_,_,_,_,rfl⟩:=h;exact ⟨rfl,rfl⟩
 |vec id sz off len=>
  simp only [Rep] at h
  obtain ⟨_,_,_,_,_,_,_,⟨_,_,rfl⟩|⟨_,rfl⟩⟩:=h<;>exact ⟨rfl,rfl⟩
 |emp=>simp only [Rep] at h;obtain ⟨_,rfl⟩:=h;exact ⟨rfl,rfl⟩
 |el id sz j off=>simp only [Rep] at h;obtain ⟨_,_,_,_,rfl⟩:=h;exact ⟨rfl,rfl⟩
 |mref id=>simp only [Rep] at h;obtain ⟨_,_,_,_,rfl⟩:=h;exact ⟨rfl,rfl⟩
 |yld id=>simp only [Rep] at h;obtain ⟨_,_,_,_,rfl⟩:=h;exact ⟨rfl,rfl⟩
theorem RepL.ones {g:G}:∀{ps:List PV} {vs:List Value},RepL g ps vs->ps.all PV.one=true->∀v∈vs,v.oneCell'=true
 |[],vs,h,_=>by simp [RepL] at h;simp [h]
 |p::ps,vs,h,hp=>by
  simp only [RepL] at h
  obtain ⟨v,vs',rfl,h1,h2⟩:=h
  simp only [List.all_cons,zba] at hp
  intro u hu
  rcases zmc.1 hu with rfl|hu
  ·exact (h1.oneCell hp.1).1
  ·exact RepL.ones h2 hp.2 u hu
theorem Rep.cells {g:G} {p:PV} {v:Value} (h:Rep g p v) (hp:p.flat=true):RepL g p.cells v.cells.toList/\∀u∈v.cells.toList,u.oneCell'=true:=by
 cases p with
 |agg cs=>
  simp only [Rep] at h
  obtain ⟨vs,rfl,h⟩:=h
  simp only [PV.flat] at hp
  simp only [PV.cells,Value.cells]
  exact ⟨h,λu hu=>h.ones hp u (by simpa using hu)⟩
 |und=>simp [PV.flat,PV.one] at hp
 |tup cs=>simp [PV.flat,PV.one] at hp
 |_=>
  obtain ⟨h1,h2⟩:=h.oneCell hp
  rw [h2]
  simp only [PV.cells]
  exact ⟨by simp only [RepL];exact ⟨v,[],rfl,h,rfl⟩,λu hu=>by simp at hu;subst hu;exact h1⟩
theorem eT :∀(cs:List PV) (off:Nat) (ps:List PV),off+ps.length<=cs.length->fE cs off ps=cs.take off++ps++cs.drop (off+ps.length)
 |cs,0,[],_=>by simp [fE]
 |[],0,p::ps,h=>by simp at h
 |[],n+1,ps,h=>by simp at h
 |c::cs,0,p::ps,h=>by
  have ih:=eT cs 0 ps (by simpa using h)
  simp only [fE,ih]
  simp
 |c::cs,n+1,ps,h=>by
  have ih:=eT cs n ps (by simp at h;omega)
  simp only [fE,ih]
  have:n+1+ps.length=(n+ps.length)+1:=by omega
  simp [this]
theorem asM {P:Program} {st:aD} {w:World} {g g':G} (hm:MemOK P st w g) (hl:Le g g') {id:Nat} (h:st id≠none):Go.Abs.blk g' id=Go.Abs.blk g id:=by
 cases ho:st id with
 |none=>exact absurd ho h
 |some o=>
  have:=hm.obj id o ho
  have hio:∃x,g.io id=some x:=rH this
  obtain ⟨x,hx⟩:=hio
  simp only [blk,hx,hl.io id x hx]
theorem iB {P:Program} {st:aD} {w:World} {g g':G} (hm:MemOK P st w g) (hl:Le g g') (b:Nat):Blocks st g' b↔Blocks st g b:=by
 constructor
 ·rintro ⟨id,h1,h2⟩;exact ⟨id,h1,by rw [<-asM hm hl h1];exact h2⟩
 ·rintro ⟨id,h1,h2⟩;exact ⟨id,h1,by rw [asM hm hl h1];exact h2⟩
theorem EntOK.mono {g g':G} {lam:Nat->Nat} (h:Le g g'):∀{e:Bool×E} {v:Value},EntOK g lam e v->EntOK g' lam e v
 |(true, .pv p),v,e=>Rep.mono h p v e
 |(true, .adr _ _),_,e=>e
 |(false,_),_,e=>e
theorem aZ {h:Array Obj} {b:Nat} {o:Obj} (e:h[b]?=some o):b<h.size:=by
 rcases Nat.lt_or_ge b h.size with h'|h'
 ·exact h'
 ·rw [Array.getElem?_eq_none h'] at e;cases e
theorem mW {P:Program} {st:aD} {w:World} {g:G} (hm:MemOK P st w g) {D:Nat} (h:g.heap[D]?=some (.deferred (some []))):¬Blocks st g D:=by
 rintro ⟨id,h1,h2⟩
 cases ho:st id with
 |none=>exact h1 ho
 |some o=>
  obtain ⟨x,hx,hd⟩:=oW (hm.obj id o ho) h2
  rw [h] at hx;injection hx with hx;subst hx;cases hd
theorem SI.world {P:Program} {c:Ctx} {s:St} {a:Act} {w w':World} {g g':G} {lam:Nat->Nat} (hs:SI P c s a w g lam)
  (hm:MemOK P s.st w' g') (hl:Le g g') (hf:Frame (Blocks s.st g) w g w' g'):SI P c s a w' g' lam where
 mem:=hm
 le:=hs.le.trans hl
 frame:=hs.frame.trans hf λb hb h=>(hs.blk b h).resolve_right (by omega)
 blk b h:=hs.blk b ((iB hs.mem hl b).1 h)
 env t:=(hs.env t).mono hl
 box t T cs e:=by
  obtain ⟨vs,h1,h2,h3,h4,h5⟩:=hs.box t T cs e
  have hb:lam t<w.heap.size:=by have:=aZ h1;rwa [hs.mem.heap] at this
  obtain ⟨k1,k2,_⟩:=hf.old _ hb h5
  refine ⟨vs, ?_,RepL.mono hl _ _ h2,k2.trans h3,h4,λh=>h5 ((iB hs.mem hl _).1 h)⟩
  rw [hm.heap,k1,<-hs.mem.heap];exact h1
 inj:=hs.inj
 ad:=hs.ad
 adL:=hs.adL
 defers:=hs.defers.mono rfl λD hD=>by
  have hlt:=aZ hD
  rw [hs.mem.heap] at hlt
  rw [hm.heap,(hf.old D hlt (mW hs.mem hD)).1,hs.mem.heap]
 top:=hs.top
 n:=hs.n
theorem SI.put {P:Program} {c:Ctx} {s:St} {a:Act} {w:World} {g:G} {lam:Nat->Nat} (hs:SI P c s a w g lam) {d:Option Nat} {b:Bool} {e:E} {v:Value}
  (hd:∀t,d=some t->t<s.n) (hv:EntOK g lam (b,e) v) (had:∀u off,e= .adr u off->s.ad u=true):SI P c (s.put d b e) (a.put d v) w g lam:=by
 cases d with
 |none=>exact hs
 |some d=>
  exact {
   mem:=hs.mem
   le:=hs.le
   frame:=hs.frame
   blk:=hs.blk
   env:=λt=>by
    show EntOK g lam (upd s.env d (b,e) t) ((a.tmps.setIfInBounds d v).getD t undef)
    by_cases ht:t=d
    ·subst ht
     have:t<a.tmps.size:=by rw [hs.n];exact hd t rfl
     rw [aA]
     simpa [Array.getElem?_setIfInBounds,this] using hv
    ·rw [aC ht]
     have:=hs.env t
     simpa [Array.getElem?_setIfInBounds_ne (Ne.symm ht)] using this
   box:=hs.box
   inj:=hs.inj
   ad:=λt w' u off e'=>by
    have e'':upd s.env d (b,e) t=(w', .adr u off):=e'
    by_cases ht:t=d
    ·subst ht;rw [aA] at e'';exact had u off (by injection e'')
    ·rw [aC ht] at e'';exact hs.ad t w' u off e''
   adL:=hs.adL
   defers:=hs.defers.mono (by cases d<;>rfl) λ_ _=>rfl
   top:=hs.top
   n:=by show (a.tmps.setIfInBounds d v).size=s.n;simp [hs.n]}
theorem iQ {P:Program} {st:aD} {w:World} {g:G} (hm:MemOK P st w g) (o:Obj):
  MemOK P st (w.alloc o) {g with heap:=(w.alloc o).heap}/\Le g {g with heap:=(w.alloc o).heap}/\Frame (λ_=>False) w g (w.alloc o) {g with heap:=(w.alloc o).heap}:=by
 have old:∀b,b<w.heap.size->(w.alloc o).heap[b]?=w.heap[b]?:=λb hb=>RowKit.Below.heap_alloc w o b hb
 have hle:Le g {g with heap:=(w.alloc o).heap}:=by
  refine ⟨λ_ _ h=>h,λ_=>Nat.le_refl _,λb i hi=> ?_,λb hb=>⟨hb, ?_⟩⟩
  ·show aS (w.alloc o).heap b i=aS g.heap b i
   have hb:=hm.lt b (by omega)
   rw [hm.heap]
   simp only [aS,old b hb]
  ·show (w.alloc o).heap[b]?=g.heap[b]?
   obtain ⟨ents,clock,e,_⟩:=hm.fmm b hb
   rw [hm.heap,old b (aZ e)]
 refine ⟨⟨rfl,λid o' e=> ?_,hm.inj,λb h=> ?_,λb h=> ?_,hm.fin⟩,hle,⟨rfl,⟨rfl,Nat.le_refl _⟩,rfl,by show _<=(w.heap.push o).size;simp,λb hb _=>⟨old b hb,rfl,Iff.rfl⟩⟩⟩
 ·refine (hm.obj id o' e).keep hle λb hb=>⟨?_,rfl,Iff.rfl⟩
  obtain ⟨x,hx,_⟩:=oW (hm.obj id o' e) hb
  have hlt:=aZ hx
  rw [hm.heap] at hlt
  show (w.alloc o).heap[b]?=g.heap[b]?
  rw [hm.heap];exact old b hlt
 ·have:=hm.lt b h
  show b<(w.heap.push o).size
  simp;omega
 ·obtain ⟨ents,clock,e,hs⟩:=hm.fmm b h
  exact ⟨ents,clock,by rw [old b (aZ e)];exact e,hs⟩
theorem mQ {P:Program} {st:aD} {w:World} {g:G} (hm:MemOK P st w g) (k:Nat) (hk:w.drawn<=k):
  MemOK P st {w with drawn:=k} g/\Frame (λ_=>False) w g {w with drawn:=k} g:=
 ⟨⟨hm.heap,hm.obj,hm.inj,hm.lt,hm.fmm,hm.fin⟩,⟨rfl,⟨rfl,hk⟩,rfl,Nat.le_refl _,λ_ _ _=>⟨rfl,rfl,Iff.rfl⟩⟩⟩
theorem oZ {P:Program} {ro:Option Nat} {f:FuncId} {args:Array Value} {w:World} {R:Ending->World->Prop} (h:Calls P f args w R):CallsIn (FR ro) (0-1) P f args w R:=callsIn_wide.2 h
theorem ajS {P:Program} {ro:Option Nat} {l f:Nat} {tmps:Array Value} {x y:Code} {w:World} {R:Ending->World->Prop} (h:RoundIn Fence.wide 0 P l f tmps x y w R):RoundIn (FR ro) (0-1) P l f tmps x y w R:=h
def sQ (P:Program) (ro:Option Nat) (l:List Oper) (o:Oper) (a:Act) (w:World) (K:Act->World->Prop) (Q:Exit->Act->World->Prop):Prop:=
 if Region.wanted o (yielded l.toArray a.tmps) then o.wpIn (FR ro) 0 P a w K Q else K (a.put o.dst undef) w
theorem iC {P:Program} {c:Ctx} {s:St} {a:Act} {w:World} {g:G} {lam:Nat->Nat} (hs:SI P c s a w g lam) {l:List Oper} {o:Oper} {b:Bool} (h:bF l o s=some b):
  Region.wanted o (yielded l.toArray a.tmps)=b:=by
 unfold bF at h
 unfold Region.wanted
 cases hg:o.guard with
 |none=>simp only [hg] at h⊢;injection h
 |some jb=>
  obtain ⟨j,want⟩:=jb
  simp only [hg] at h⊢
  cases ht:(l[j]?).bind (·.dst) with
  |none=>simp only [ht] at h;cases h
  |some t=>
   simp only [ht] at h
   have he:=hs.env t
   have hy:yielded l.toArray a.tmps j=match a.tmps[t]? with|some (.bool b)=>some b|_=>none:=by
    unfold yielded
    rw [show (l.toArray)[j]?=l[j]? from by simp,ht]
    simp only [Option.bind_some]
    rfl
   rw [hy]
   split at h
   ·rename_i w' x hx
    rw [hx] at he
    injection h with h
    subst h
    cases w' with
    |true=>
     simp only [EntOK,Rep] at he
     have hin:a.tmps[t]?=some (.bool x):=by
      cases hq:a.tmps[t]? with
      |none=>simp [hq,undef] at he
      |some v=>simp [hq] at he;rw [he]
     rw [hin]
     cases x<;>cases want<;>rfl
    |false=>
     simp only [EntOK] at he
     have:(match a.tmps[t]? with|some (.bool b)=>some b|_=>(none:Option Bool))=none:=by
      cases hq:a.tmps[t]? with
      |none=>rfl
      |some v=>simp [hq,undef] at he;rw [he]
     rw [this]
     cases want<;>rfl
   ·cases h
theorem jR {P:Program} {c:Ctx} {s:St} {a:Act} {w:World} {g:G} {lam:Nat->Nat} (hs:SI P c s a w g lam) {x:Operand} (hf:dJ s x):fP g s x (a.eval x):=by
 intro p hp
 cases x with
 |tmp t=>
  have he:=hs.env t
  simp only [opd] at hp
  simp only [dJ] at hf
  split at hp
  ·rename_i w' q hq
   rw [hq] at he hf
   simp only at hf
   subst hf
   injection hp with hp
   subst hp
   simpa [EntOK,Act.eval] using he
  ·cases hp
 |const v=>simp only [opd] at hp;injection hp with hp;subst hp;simp [Rep,Act.eval]
 |func f=>simp only [opd] at hp;injection hp with hp;subst hp;simp only [Rep,Act.eval];exact ⟨[],rfl,by simp [RepL]⟩
 |global g=>simp [opd] at hp
theorem nJ {o:Oper} {s:St} (h:fG o s=true):∀t,o.dst=some t->t<s.n:=by
 intro t ht
 rw [fG,ht] at h
 simpa [Nat.blt_eq] using h
theorem cK {P:Program} {ro:Option Nat} {o:Oper} {a:Act} {w:World} {K:Act->World->Prop} {Q:Exit->Act->World->Prop} {R:Value->World->Prop}
  (h:OpRes P R ((execOp a.eval o).run P w)) (hK:∀v w',R v w'->K (a.put o.dst v) w'):o.wpIn (FR ro) 0 P a w K Q:=by
 refine ⟨λ_ _=>trivial, ?_⟩
 have hd:∀c,o.op≠ .defer c:=λc hc=>by
  simp only [execOp,hc,Sem.run_bind] at h
  cases hr:(resolve a.eval c o.type).run P w with
  |ok d w'=>rw [hr] at h;simp [OpRes] at h
  |halt x w'=>rw [hr] at h;simp [OpRes] at h
 have e:o.semAt (FR ro).round a.eval=execOp a.eval o:=Oper.semAt_eq _ _ _ hd
 rw [e]
 generalize (execOp a.eval o).run P w=r at h
 cases r with
 |halt x w=>simp [OpRes] at h
 |ok n w=>
  cases n<;>simp only [OpRes] at h<;>simp only [Oper.uponIn]
  ·exact hK _ _ h
  ·exact hK _ _ h
  ·exact ⟨λh=>by simp [FR,Fence.wide] at h,oZ (h.mono λe w' ⟨v,he,hv⟩=>by subst he;exact hK _ _ hv)⟩
  ·exact ⟨λh=>by simp [FR,Fence.wide] at h,ajS (h.mono λe w' ⟨v,he,hv⟩=>by subst he;exact hK _ _ hv)⟩
theorem SI.newvar {P:Program} {c:Ctx} {s:St} {a:Act} {w:World} {g:G} {lam:Nat->Nat} (hs:SI P c s a w g lam) {d:Nat} (had:s.ad d=false) (hn:d<s.n) {T:TypeId} {cs:List PV} {vs:Array Value} (hr:RepL g cs vs.toList):
  SI P c (s.var d T cs) (a.put (some d) (.pointer (some ⟨w.heap.size,0,none⟩))) (w.alloc (.cells vs T (0,0))) {g with heap:=(w.alloc (.cells vs T (0,0))).heap} (λt=>if t=d then w.heap.size else lam t):=by
 obtain ⟨h1,h2,h3⟩:=iQ hs.mem (.cells vs T (0,0))
 have hs1:=hs.world h1 h2 (h3.mono λ_ h=>h.elim)
 have hfr:g.fr w.heap.size=0:=by
  rcases Nat.eq_zero_or_pos (g.fr w.heap.size) with h|h
  ·exact h
  ·have:=hs.mem.lt w.heap.size (by omega);omega
 have hblk:∀b,Blocks s.st g b->b<w.heap.size:=by
  rintro b ⟨id,k1,k2⟩
  cases ho:s.st id with
  |none=>exact absurd ho k1
  |some o=>
   have hob:=hs.mem.obj id o ho
   have:∃x,g.heap[b]?=some x:=by obtain ⟨x,hx,_⟩:=oW hob k2;exact ⟨x,hx⟩
   obtain ⟨x,hx⟩:=this
   have:=aZ hx
   rwa [hs.mem.heap] at this
 have ne:∀u,s.ad u=true->u≠d:=λu hu e=>by rw [e,had] at hu;cases hu
 have hbox:∀t,s.L t≠none->lam t<w.heap.size:=λt ht=>by
  cases hL:s.L t with
  |none=>exact absurd hL ht
  |some x=>
   obtain ⟨vs',k1,_⟩:=hs.box t x.1 x.2 hL
   have:=aZ k1
   rwa [hs.mem.heap] at this
 exact {
  mem:=h1
  le:=hs1.le
  frame:=hs1.frame
  blk:=hs1.blk
  env:=λt=>by
   show EntOK _ _ (upd s.env d (true, .adr d 0) t) ((a.tmps.setIfInBounds d _).getD t undef)
   by_cases ht:t=d
   ·subst ht
    have:t<a.tmps.size:=by rw [hs.n];exact hn
    rw [aA]
    simp [this,EntOK]
   ·rw [aC ht]
    have h:=hs1.env t
    have hv:(a.tmps.setIfInBounds d (.pointer (some ⟨w.heap.size,0,none⟩))).getD t undef=a.tmps.getD t undef:=by
     simp [Array.getElem?_setIfInBounds_ne (Ne.symm ht)]
    rw [hv]
    cases he:s.env t with
    |mk b e=>
     rw [he] at h
     cases b with
     |false=>exact h
     |true=>
      cases e with
      |pv p=>exact h
      |adr u off=>
       have:=ne u (hs.ad t true u off he)
       simp only [EntOK] at h⊢
       rw [zn this];exact h
  box:=λt T' cs' e=>by
   have e':upd s.L d (some (T,cs)) t=some (T',cs'):=e
   by_cases ht:t=d
   ·subst ht
    rw [aA] at e'
    injection e' with e'
    injection e' with e1 e2
    subst e1;subst e2
    simp only [if_true]
    refine ⟨vs, ?_,RepL.mono h2 _ _ hr,hfr,hs.frame.size,λhb=> ?_⟩
    ·show (w.heap.push _)[w.heap.size]?=_;simp
    ·have:=hblk _ ((iB hs.mem h2 _).1 hb);omega
   ·rw [aC ht] at e'
    simp only [zn ht]
    exact hs1.box t T' cs' e'
  inj:=λt t' e e' hl=>by
   have e1:upd s.L d (some (T,cs)) t≠none:=e
   have e2:upd s.L d (some (T,cs)) t'≠none:=e'
   by_cases ht:t=d
   ·by_cases ht':t'=d
    ·rw [ht,ht']
    ·rw [aC ht'] at e2
     simp only [zp ht,zn ht'] at hl
     have:=hbox t' e2;omega
   ·rw [aC ht] at e1
    by_cases ht':t'=d
    ·simp only [zn ht,zp ht'] at hl
     have:=hbox t e1;omega
    ·rw [aC ht'] at e2
     simp only [zn ht,zn ht'] at hl
     exact hs.inj t t' e1 e2 hl
  ad:=λt b u off e=>by
   have e':upd s.env d (true, .adr d 0) t=(b, .adr u off):=e
   show upd s.ad d true u=true
   by_cases hu:u=d
   ·rw [hu,aA]
   ·rw [aC hu]
    by_cases ht:t=d
    ·subst ht;rw [aA] at e';injection e' with h1 h2;injection h2 with h2 h3;exact absurd h2.symm hu
    ·rw [aC ht] at e';exact hs.ad t b u off e'
  adL:=λt e=>by
   have e':upd s.L d (some (T,cs)) t≠none:=e
   show upd s.ad d true t=true
   by_cases ht:t=d
   ·rw [ht,aA]
   ·rw [aC ht] at e'⊢;exact hs.adL t e'
  defers:=hs1.defers.mono rfl λ_ _=>rfl
  top:=hs.top
  n:=by show (a.tmps.setIfInBounds d _).size=s.n;simp [hs.n]}
theorem bH (w:World) (b:Nat) (xs:Array Value) (k:Nat) (h:k≠b):(w.setRow b xs).heap[k]?=w.heap[k]?:=by
 simp only [World.setRow,Array.getElem?_modify]
 rw [zn (by omega)]
theorem aiN {P:Program} {st:aD} {w:World} {g:G} (hm:MemOK P st w g) {b:Nat} {xs:Array Value} {cur:Array Value} {T:TypeId} (hb:w.heap[b]?=some (.cells cur T (0,0))) (hfr:g.fr b=0) (hn:¬Blocks st g b):
  MemOK P st (w.setRow b xs) {g with heap:=(w.setRow b xs).heap}/\Le g {g with heap:=(w.setRow b xs).heap}:=by
 have hfm:∀k,g.fm k->k≠b:=λk hk e=>by
  obtain ⟨ents,clock,h,_⟩:=hm.fmm k hk
  rw [e,hb] at h;cases h
 have old:∀k,k≠b->(w.setRow b xs).heap[k]?=w.heap[k]?:=λk hk=>bH w b xs k hk
 have hle:Le g {g with heap:=(w.setRow b xs).heap}:=by
  refine ⟨λ_ _ h=>h,λ_=>Nat.le_refl _,λk i hi=> ?_,λk hk=>⟨hk, ?_⟩⟩
  ·have hkb:k≠b:=λe=>by rw [e,hfr] at hi;omega
   show aS (w.setRow b xs).heap k i=aS g.heap k i
   rw [hm.heap]
   simp only [aS,old k hkb]
  ·show (w.setRow b xs).heap[k]?=g.heap[k]?
   rw [hm.heap,old k (hfm k hk)]
 have hsz:(w.setRow b xs).heap.size=w.heap.size:=by simp [World.setRow]
 refine ⟨⟨rfl,λid o e=> ?_,hm.inj,λk h=>by rw [hsz];exact hm.lt k h,λk h=> ?_,hm.fin⟩,hle⟩
 ·refine (hm.obj id o e).keep hle λk hk=>⟨?_,rfl,Iff.rfl⟩
  show (w.setRow b xs).heap[k]?=g.heap[k]?
  rw [hm.heap]
  exact old k λh=>hn ⟨id,by rw [e];simp,h▸hk⟩
 ·obtain ⟨ents,clock,e,hs⟩:=hm.fmm k h
  exact ⟨ents,clock,by rw [old k (hfm k h)];exact e,hs⟩
theorem SI.setvar {P:Program} {c:Ctx} {s:St} {a:Act} {w:World} {g:G} {lam:Nat->Nat} (hs:SI P c s a w g lam) {t:Nat} {T:TypeId} {cs cs':List PV} {xs:Array Value} (hL:s.L t=some (T,cs)) (hr:RepL g cs' xs.toList):
  SI P c {s with L:=upd s.L t (some (T,cs'))} (a.put none undef) (w.setRow (lam t) xs) {g with heap:=(w.setRow (lam t) xs).heap} lam:=by
 obtain ⟨vs,k1,k2,k3,k4,k5⟩:=hs.box t T cs hL
 have k1':=k1
 rw [hs.mem.heap] at k1'
 obtain ⟨m1,m2⟩:=aiN (xs:=xs) hs.mem k1' k3 k5
 have hsz:(w.setRow (lam t) xs).heap.size=w.heap.size:=by simp [World.setRow]
 exact {
  mem:=m1
  le:=hs.le.trans m2
  frame:=hs.frame.trans (B':=λb=>b=lam t) ⟨rfl,⟨rfl,Nat.le_refl _⟩,rfl,by rw [hsz];exact Nat.le_refl _,λb hb hne=>⟨bH w _ _ _ hne,rfl,Iff.rfl⟩⟩ (λb hb e=>by subst e;omega)
  blk:=hs.blk
  env:=λu=>(hs.env u).mono m2
  box:=λu T' cs'' e=>by
   have e':upd s.L t (some (T,cs')) u=some (T',cs''):=e
   by_cases hu:u=t
   ·subst hu
    rw [aA] at e'
    injection e' with e'
    injection e' with e1 e2
    subst e1;subst e2
    exact ⟨xs,setRow_heap w (lam u) vs xs T (0,0) k1',RepL.mono m2 _ _ hr,k3,k4,k5⟩
   ·rw [aC hu] at e'
    obtain ⟨vs',j1,j2,j3,j4,j5⟩:=hs.box u T' cs'' e'
    have hne:lam u≠lam t:=λh=>hu (hs.inj u t (by rw [e'];simp) (by rw [hL];simp) h)
    refine ⟨vs', ?_,RepL.mono m2 _ _ j2,j3,j4,j5⟩
    show (w.setRow (lam t) xs).heap[lam u]?=_
    rw [bH w _ _ _ hne,<-hs.mem.heap];exact j1
  inj:=λu u' e e' hl=>by
   have e1:upd s.L t (some (T,cs')) u≠none:=e
   have e2:upd s.L t (some (T,cs')) u'≠none:=e'
   refine hs.inj u u' ?_ ?_ hl
   ·by_cases hu:u=t
    ·rw [hu,hL];simp
    ·rwa [aC hu] at e1
   ·by_cases hu:u'=t
    ·rw [hu,hL];simp
    ·rwa [aC hu] at e2
  ad:=hs.ad
  adL:=λu e=>by
   have e1:upd s.L t (some (T,cs')) u≠none:=e
   by_cases hu:u=t
   ·exact hs.adL u (by rw [hu,hL];simp)
   ·rw [aC hu] at e1;exact hs.adL u e1
  defers:=hs.defers.mono rfl λD hD=>by
   have hne:D≠lam t:=λe=>by rw [e,k1] at hD;cases hD
   show (w.setRow (lam t) xs).heap[D]?=_
   rw [bH w _ _ _ hne,hs.mem.heap]
  top:=hs.top
  n:=hs.n}
theorem cT {P:Program} {T:TypeId} {w:World} {b:Bool} (h:bD P T=b) (hu:(P.underlying T).isSome=true):(isAgg T).run P w= .ok b w:=by
 unfold bD at h
 unfold isAgg underlying
 cases hd:P.underlying T with
 |none=>rw [hd] at hu;cases hu
 |some d=>rw [hd] at h;cases d<;>simp_all
theorem lK {P:Program} {T:TypeId} (h:bD P T=true):(P.underlying T).isSome=true:=by
 unfold bD at h
 cases hd:P.underlying T with
 |none=>rw [hd] at h;cases h
 |some d=>rfl
theorem aX {P:Program} {T:TypeId} {w:World} {k:Nat} (h:(P.info? T).map (·.size)=some k):(sizeOf T).run P w= .ok k w:=by
 cases hi:P.info? T with
 |none=>rw [hi] at h;cases h
 |some i=>rw [hi] at h;simp at h;simp [sizeOf,typeInfo,hi,h]
theorem bU {P:Program} {T:TypeId} {w:World} {z:Value} (h:(P.info? T).bind (·.zero)=some z):(zeroValue T).run P w= .ok z w:=by
 cases hi:P.info? T with
 |none=>rw [hi] at h;cases h
 |some i=>rw [hi] at h;simp at h;simp [zeroValue,typeInfo,hi,h]
theorem cD {w:World} {b off:Nat} {c:Array Value} {T:TypeId} {fz:Nat×Nat} (h:w.heap[b]?=some (.cells c T fz)):w.cell? ⟨b,off,none⟩=c[off]?:=by
 simp [World.cell?,h]
theorem cE (b off k:Nat):(Addr.add ⟨b,off,none⟩ k)=⟨b,off+k,none⟩:=by
 simp [Addr.add]
 try (intro h;simp [h])
theorem AStep.sound {P:Program} {l:List Oper} {o:Oper} {s:St} {rd:Bool} {T:Tr} (h:AStep P l o s rd T) {c:Ctx} {a:Act} {w:World} {g:G} {lam:Nat->Nat} (hs:SI P c s a w g lam)
  {K:Act->World->Prop} {Q:Exit->Act->World->Prop} (hK:∀a' w' g' lam',SI P c (T.app s) a' w' g' lam'->K a' w'):sQ P c.ro l o a w K Q:=by
 unfold sQ
 have skip:∀{b:Bool} {e:E},b=false->fG o s=true->(∀a' w' g' lam',SI P c (s.put o.dst b e) a' w' g' lam'->K a' w')->(∀u off,e= .adr u off->s.ad u=true)->K (a.put o.dst undef) w:=by
  intro b e hb hd hk had
  subst hb
  exact hk _ _ _ _ (hs.put (nJ hd) (by simp [EntOK]) had)
 cases h with
 |val _ b p hw hd hf hv=>
  have hv:b=true->OpV P o s p:=λh=>by have:=hv h;cases rd with|true=>exact this|false=>exact this s.st
  rw [iC hs hw]
  cases b with
  |false=>simp only [Bool.false_eq_true,if_false];exact skip rfl hd hK (λ_ _ e=>by cases e)
  |true=>
   simp only [if_true]
   refine cK (hv rfl w g a.eval hs.mem λx hx=>jR hs (hf rfl x hx)) ?_
   rintro v w' ⟨g',h1,h2,h3,h4⟩
   exact hK _ _ _ _ ((hs.world h2 h3 h4).put (nJ hd) h1 (λ_ _ e=>by cases e))
 |pick b t x y wt q p hw hd ho ht hwt ha hb=>
  rw [iC hs hw]
  cases b with
  |false=>simp only [Bool.false_eq_true,if_false];exact skip rfl hd hK (λ_ _ e=>by cases e)
  |true=>
   simp only [if_true]
   have hq:a.eval (.tmp t)= .bool q:=by rw [hwt rfl] at ht;exact hs.tmp_bool ht
   have hrun:(execOp a.eval o).run P w= .ok (.value (if q then a.eval x else a.eval y)) w:=by
    simp [execOp,ho,hq,asBool]
   refine cK (R:=λv w'=>v=(if q then a.eval x else a.eval y)/\w'=w) (by rw [hrun];exact ⟨rfl,rfl⟩) ?_
   rintro v w' ⟨rfl,rfl⟩
   refine hK _ _ _ _ (hs.put (nJ hd) ?_ (λ_ _ e=>by cases e))
   cases q with
   |true=>obtain ⟨h1,h2⟩:=ha rfl rfl;exact jR hs h1 p h2
   |false=>obtain ⟨h1,h2⟩:=hb rfl rfl;exact jR hs h1 p h2
 |adrI b wx t off U x y k i n e sz j hw hd ho hx hy hf hu hs' hj=>
  rw [iC hs hw]
  have hin:s.ad t=true:=hs.ad x _ _ _ hx
  cases b with
  |false=>simp only [Bool.false_eq_true,if_false];exact skip rfl hd hK (λ_ _ e=>by cases e;exact hin)
  |true=>
   simp only [if_true]
   obtain ⟨rfl,hfy⟩:=hf rfl
   obtain ⟨rfl,hlt⟩:=hj rfl
   have hx1:=hs.env x
   rw [hx] at hx1
   have hx':a.eval (.tmp x)= .pointer (some ⟨lam t,off,none⟩):=hx1
   have ey:a.eval y= .int k (j:Int):=by simpa [Rep] using jR hs hfy _ hy
   have hin':(0:Int)<=(j:Int)/\(j:Int)<(n:Int):=by omega
   have hrun:(execOp a.eval o).run P w= .ok (.value (.pointer (some ⟨lam t,off+j*sz,none⟩))) w:=by
    simp only [execOp,ho,Instr.indexAt,ey,hx',asIntOf,Sem.run_bind,Sem.run_pure,Result.andThen_ok,run_underlying hu,Instr.sureAddr]
    rw [zp hin']
    simp only [Sem.run_bind,aX hs',Result.andThen_ok,Sem.run_pure,Int.toNat_natCast,cE]
   refine cK (R:=λv w'=>v= .pointer (some ⟨lam t,off+j*sz,none⟩)/\w'=w) (by rw [hrun];exact ⟨rfl,rfl⟩) ?_
   rintro v w' ⟨rfl,rfl⟩
   exact hK _ _ _ _ (hs.put (nJ hd) (by simp [EntOK]) (λ_ _ e=>by cases e;exact hin))
 |adr b wx t off hw hd ho hf=>
  rw [iC hs hw]
  have hop:∃U x f w' t' off' fs fd,o.op= .fieldAddr U (.tmp x) f/\s.env x=(w', .adr t' off')/\P.underlying U=some (.struct fs)/\fs[f]?=some fd/\P.cellsOf fd.type≠0/\w'=wx/\t'=t/\off'+fd.offset=off:=by
   unfold kO at ho
   split at ho
   ·rename_i U x f heq
    split at ho
    ·rename_i w' t' off' hx
     split at ho
     ·rename_i fs hu
      split at ho
      ·rename_i fd hfd
       split at ho
       ·cases ho
       ·rename_i hne
        injection ho with ho
        injection ho with h1 h2
        injection h2 with h2 h3
        exact ⟨U,x,f,w',t',off',fs,fd,heq,hx,hu,hfd,hne,h1,h2,h3⟩
      ·cases ho
     ·cases ho
    ·cases ho
   ·cases ho
  obtain ⟨U,x,f,w',t',off',fs,fd,h1,h2,h3,h4,h5,rfl,rfl,rfl⟩:=hop
  have hin:s.ad t'=true:=hs.ad x _ _ _ h2
  cases b with
  |false=>simp only [Bool.false_eq_true,if_false];exact skip rfl hd hK (λ_ _ e=>by cases e;exact hin)
  |true=>
   simp only [if_true]
   have hx:=hs.env x
   rw [h2,hf rfl] at hx
   simp only [EntOK] at hx
   have hx':a.eval (.tmp x)= .pointer (some ⟨lam t',off',none⟩):=hx
   have hsz:(sizeOf fd.type).run P w= .ok (P.cellsOf fd.type) w:=by
    refine aX ?_
    unfold Program.cellsOf at h5⊢
    cases hi:P.info? fd.type with
    |none=>rw [hi] at h5;simp at h5
    |some i=>simp
   have hrun:(execOp a.eval o).run P w= .ok (.value (.pointer (some ⟨lam t',off'+fd.offset,none⟩))) w:=by
    simp [execOp,h1,Instr.fieldAt,underlying,h3,h4,hx',Instr.sureAddr,fieldPlace,hsz,h5,Addr.add]
    try (intro h0;simp [h0])
   refine cK (R:=λv w'=>v= .pointer (some ⟨lam t',off'+fd.offset,none⟩)/\w'=w) (by rw [hrun];exact ⟨rfl,rfl⟩) ?_
   rintro v w' ⟨rfl,rfl⟩
   exact hK _ _ _ _ (hs.put (nJ hd) (by simp [EntOK]) (λ_ _ e=>by cases e;exact hin))
 |load1 b wx U x t off T' cs p hw hd ho hx hf hL hT hu hc=>
  rw [iC hs hw]
  cases b with
  |false=>simp only [Bool.false_eq_true,if_false];exact skip rfl hd hK (λ_ _ e=>by cases e)
  |true=>
   simp only [if_true]
   have hx1:=hs.env x
   rw [hx,hf rfl] at hx1
   have hx':a.eval (.tmp x)= .pointer (some ⟨lam t,off,none⟩):=hx1
   obtain ⟨vs,k1,k2, -⟩:=hs.box t T' cs hL
   obtain ⟨v,e1,e2⟩:=k2.get hc
   have hcell:w.cell? ⟨lam t,off,none⟩=some v:=by
    rw [hs.mem.heap] at k1
    rw [cD k1];simpa using e1
   have hrun:(execOp a.eval o).run P w= .ok (.value v) w:=by
    simp [execOp,ho,Instr.loadAt,Instr.sureAddr,hx',loadVar,cT hT hu,hcell]
   refine cK (R:=λu w'=>u=v/\w'=w) (by rw [hrun];exact ⟨rfl,rfl⟩) ?_
   rintro u w' ⟨rfl,rfl⟩
   exact hK _ _ _ _ (hs.put (nJ hd) e2 (λ_ _ e=>by cases e))
 |loadA b wx U x t off T' cs k hw hd ho hx hf hL hT hk hc=>
  rw [iC hs hw]
  cases b with
  |false=>simp only [Bool.false_eq_true,if_false];exact skip rfl hd hK (λ_ _ e=>by cases e)
  |true=>
   simp only [if_true]
   have hx1:=hs.env x
   rw [hx,hf rfl] at hx1
   have hx':a.eval (.tmp x)= .pointer (some ⟨lam t,off,none⟩):=hx1
   obtain ⟨vs,k1,k2, -⟩:=hs.box t T' cs hL
   have hr:=(k2.drop off).take k
   have hlen:=k2.length
   have hl2:((vs.toList.drop off).take k).length=k:=by simp at hlen⊢;omega
   have hrun0:(loadCells ⟨lam t,off,none⟩ k).run P w= .ok ((vs.toList.drop off).take k).toArray w:=by
    have:=run_loadCells_list (P:=P) (w:=w) ⟨lam t,off,none⟩ ((vs.toList.drop off).take k) (λj v hj=>by
     rw [hs.mem.heap] at k1
     have hj2:j<k:=by
      have:j<((vs.toList.drop off).take k).length:=by
       rcases Nat.lt_or_ge j ((vs.toList.drop off).take k).length with h|h
       ·exact h
       ·rw [List.getElem?_eq_none h] at hj;cases hj
      omega
     have:(Addr.add ⟨lam t,off,none⟩ j)=⟨lam t,off+j,none⟩:=by
      unfold Addr.add;split
      ·simp_all
      ·rfl
     rw [this,cD k1]
     simpa [List.getElem?_take,hj2,List.getElem?_drop] using hj)
    rw [hl2] at this
    exact this
   have hrun:(execOp a.eval o).run P w= .ok (.value (.agg ((vs.toList.drop off).take k).toArray)) w:=by
    simp [execOp,ho,Instr.loadAt,Instr.sureAddr,hx',loadVar,cT hT (lK hT),aX hk,hrun0]
   refine cK (R:=λu w'=>u= .agg ((vs.toList.drop off).take k).toArray/\w'=w) (by rw [hrun];exact ⟨rfl,rfl⟩) ?_
   rintro u w' ⟨rfl,rfl⟩
   exact hK _ _ _ _ (hs.put (nJ hd) (by simp only [EntOK,Rep];exact ⟨_,rfl,hr⟩) (λ_ _ e=>by cases e))
 |alloc d T z hg hd hn had ho hz=>
  have hw:Region.wanted o (yielded l.toArray a.tmps)=true:=by simp [Region.wanted,hg]
  rw [hw]
  simp only [if_true]
  have hrun:(execOp a.eval o).run P w= .ok (.value (.pointer (some ⟨w.heap.size,0,none⟩))) (w.alloc (.cells z.cells T (0,0))):=by
   simp [execOp,ho,Instr.alloc,bU hz,newVar,newRow]
  refine cK (R:=λu w'=>u= .pointer (some ⟨w.heap.size,0,none⟩)/\w'=w.alloc (.cells z.cells T (0,0))) (by rw [hrun];exact ⟨rfl,rfl⟩) ?_
  rintro u w' ⟨rfl,rfl⟩
  rw [hd]
  refine hK _ _ _ _ (hs.newvar had (by simpa [Nat.blt_eq] using hn) ?_)
  exact RepL.vals _
 |box d T x p hg hd hn had ho hf hx hp=>
  have hw:Region.wanted o (yielded l.toArray a.tmps)=true:=by simp [Region.wanted,hg]
  rw [hw]
  simp only [if_true]
  have hrun:(execOp a.eval o).run P w= .ok (.value (.pointer (some ⟨w.heap.size,0,none⟩))) (w.alloc (.cells (a.eval x).cells T (0,0))):=by
   simp [execOp,ho,Instr.box,newVar,newRow]
  refine cK (R:=λu w'=>u= .pointer (some ⟨w.heap.size,0,none⟩)/\w'=w.alloc (.cells (a.eval x).cells T (0,0))) (by rw [hrun];exact ⟨rfl,rfl⟩) ?_
  rintro u w' ⟨rfl,rfl⟩
  rw [hd]
  refine hK _ _ _ _ (hs.newvar had (by simpa [Nat.blt_eq] using hn) ?_)
  exact ((jR hs hf p hx).cells hp).1
 |store T x y t off T' cs p hg hd ho hx hL hf hy hp hk hc=>
  have hw:Region.wanted o (yielded l.toArray a.tmps)=true:=by simp [Region.wanted,hg]
  rw [hw]
  simp only [if_true]
  have hx1:=hs.env x
  rw [hx] at hx1
  have hx':a.eval (.tmp x)= .pointer (some ⟨lam t,off,none⟩):=hx1
  obtain ⟨vs,k1,k2,k3,k4,k5⟩:=hs.box t T' cs hL
  obtain ⟨m1,m2⟩:=(jR hs hf p hy).cells hp
  have hlen:=k2.length
  have hlen2:=m1.length
  have hsz:(a.eval y).cells.size=p.cells.length:=by simpa using hlen2
  have k1':=k1
  rw [hs.mem.heap] at k1'
  have hrun0:=run_storeCells_at P (lam t) off T' (a.eval y).cells.toList 0 vs w k1' (by simp at hlen hlen2⊢;omega) m2
  have hrun:(execOp a.eval o).run P w= .ok .skip (w.setRow (lam t) (vs.toList.take off++(a.eval y).cells.toList++vs.toList.drop (off+(a.eval y).cells.toList.length)).toArray):=by
   simp only [Nat.add_zero] at hrun0
   simp only [execOp,ho,Instr.storeAt,Instr.sureAddr,hx',storeVar,aX hk,Sem.run_bind,Sem.run_pure,Result.andThen_ok,hsz,ne_eq,not_true_eq_false,if_false,hrun0]
  refine cK (R:=λu w'=>u=undef/\w'=w.setRow (lam t) (vs.toList.take off++(a.eval y).cells.toList++vs.toList.drop (off+(a.eval y).cells.toList.length)).toArray) (by rw [hrun];exact ⟨rfl,rfl⟩) ?_
  rintro u w' ⟨rfl,rfl⟩
  rw [hd]
  refine hK _ _ _ _ (hs.setvar hL ?_)
  rw [eT cs off p.cells hc]
  have:=(((k2.take off).append m1).append (k2.drop (off+p.cells.length)))
  rw [hlen2]
  exact this
end
end Go.Abs
