import Derived.Test.YtppdefkgmegipaaGreatDoorAbsE
set_option linter.unusedSimpArgs false
set_option linter.unusedVariables false
namespace Go.Abs
open Go
section
section
variable {P:Program} {tt:TT}
theorem amE {st:aD} {w:World} {g:G} (hm:MemOK P st w g) (o:Obj) (o':AObj) (ho:∀g' id,Le g g'->g'.heap=(w.alloc o).heap->g'.io id=some (w.heap.size,0,1)->g'.heap[w.heap.size]?=some o->(∀b,b<w.heap.size->g'.heap[b]?=w.heap[b]?)->g'.fr w.heap.size=0->¬g'.fm w.heap.size->ObjOK P g' id o'):
  ∃id g',g.io id=none/\st id=none/\g'.io id=some (w.heap.size,0,1)/\MemOK P (upd st id (some o')) (w.alloc o) g'/\Le g g'/\Frame (Blocks st g) w g (w.alloc o) g'/\∀b',Blocks (upd st id (some o')) g' b'->Blocks st g b'\/w.heap.size<=b':=by
 obtain ⟨id,f1,f2⟩:=gK hm
 obtain ⟨m1,m2,m3⟩:=iQ hm o
 let g':G:={g with heap:=(w.alloc o).heap,io:=upd g.io id (some (w.heap.size,0,1))}
 have hle:Le g g':=⟨jT f1,m2.fr,m2.cell,m2.fm⟩
 have hnb:(w.alloc o).heap[w.heap.size]?=some o:=by show (w.heap.push _)[_]?=_;simp
 have hfm:¬g.fm w.heap.size:=λh=>by
  obtain ⟨en,cl,e,_⟩:=hm.fmm _ h
  have:=aZ e;omega
 have hfr:g.fr w.heap.size=0:=by
  rcases Nat.eq_zero_or_pos (g.fr w.heap.size) with h|h
  ·exact h
  ·have:=hm.lt w.heap.size (by omega);omega
 have hmem:=fF (w':=w.alloc o) (g':=g') (id:=id) (b':=w.heap.size) (n':=0) (cap':=1) (o':=o') hm f1 rfl rfl (λ_=> .inr rfl) (λb hb _=>(m3.old b hb (λh=>h)).1) (λ_ _=>rfl) rfl (λ_=>hfm) m3.size (λ_=>aZ hnb) hle
  (ho g' id hle rfl (aA _ _ _) hnb (λb hb=>(m3.old b hb (λh=>h)).1) hfr hfm)
 have e1:upd (upd st id none) id (some o')=upd st id (some o'):=by
  funext j
  by_cases h:j=id
  ·rw [h,aA,aA]
  ·rw [aC h,aC h,aC h]
 rw [e1] at hmem
 refine ⟨id,g',f1,f2,aA _ _ _,hmem,hle,⟨m3.os,m3.tape,m3.output,m3.size,λb hb hn=>⟨(m3.old b hb (λh=>h)).1,rfl,Iff.rfl⟩⟩,λb' ⟨j,j1,j2⟩=> ?_⟩
 by_cases h:j=id
 ·subst h
  right
  simp [Go.Abs.blk,g',aA] at j2
  omega
 ·rw [aC h] at j1
  refine .inl ⟨j,j1, ?_⟩
  unfold Go.Abs.blk at j2⊢
  rwa [show g'.io j=g.io j from aC h] at j2
theorem RepE.get {g:G}:∀{es:List (Value×PV)} {ms:List MapEntry} {j:Nat} {m:MapEntry},RepE g es ms->ms[j]?=some m->∃k p,es[j]?=some (k,p)/\m.key=k/\Rep g p m.val
  |[],ms,j,m,h,hj=>by simp only [RepE] at h;subst h;simp at hj
  |(k,p)::es,ms,j,m,h,hj=>by
    simp only [RepE] at h
    obtain ⟨m0,ms',rfl,h1,h2,h3⟩:=h
    cases j with
    |zero=>simp at hj;subst hj;exact ⟨k,p,rfl,h1,h2⟩
    |succ j=>simp at hj;simpa using RepE.get h3 hj
theorem RepE.len {g:G}:∀{es:List (Value×PV)} {ms:List MapEntry},RepE g es ms->ms.length=es.length
  |[],ms,h=>by simp only [RepE] at h;subst h;rfl
  |(k,p)::es,ms,h=>by
    simp only [RepE] at h
    obtain ⟨m0,ms',rfl,h1,h2,h3⟩:=h
    simp [RepE.len h3]
end
end
section
section
variable {P:Program} {tt:TT}
def PY (P:Program) (idl:Nat) (args:List PV) (st:aD) (R:PV->aD->Prop):Prop:=
 ∀w g b vs,MemOK P st w g->(∃n cap,g.io idl=some (b,n,cap))->RepL g args vs->
  OpRes P (λv w'=>∃r st' g',R r st'/\Rep g' r v/\MemOK P st' w' g'/\Le g g'/\Frame (Blocks st g) w g w' g'/\∀b,Blocks st' g' b->Blocks st g b\/w.heap.size<=b) ((Instr.yield b vs.toArray).run P w)
theorem PY.mono {idl:Nat} {args:List PV} {st:aD} {R R':PV->aD->Prop} (h:PY P idl args st R) (hr:∀r S,R r S->R' r S):PY P idl args st R':=λw g b vs hm hb hv=>
 (h w g b vs hm hb hv).mono λ_ _ ⟨r,st',g',h1,h2⟩=>⟨r,st',g',hr _ _ h1,h2⟩
theorem apO {w:World} {ρ:Operand->Value} {o:Oper} {f:Operand} {args:Array Operand} {ts:Array TypeId} {b:Nat} (ho:o.op= .call ⟨.value f,args,ts⟩) (hf:ρ f= .func (.yield b) #[] #[]):
  (execOp ρ o).run P w=(Instr.yield b (args.map ρ)).run P w:=by
 simp [execOp,ho,resolve,hf,Deferred.ofValue,invoke]
theorem aoJ {dst:Option Nat} {ty:TypeId} {pos:String} {after:Array Edge} {s:St} {f:Operand} {args:Array Operand} {ts:Array TypeId} {idl:Nat} {ps:List PV} (qs:List PV) {R:PV->aD->Prop} (hf:opd s f=some (.yld idl)) (hps:lL s args.toList=some ps) (hw:WkL ps qs) (h:PY P idl qs s.st R):
  OpZ P ⟨dst, .call ⟨.value f,args,ts⟩,ty,pos,after,none⟩ s λx=>R x.2 x.1:=by
 intro w g ρ hm hρ
 have rf:=hρ f (by simp [Op.operands,Call.operands]) _ hf
 have ra:=iU hps (g:=g) (ρ:=ρ) (λx hx=>hρ x (by simp [Op.operands,Call.operands];exact .inr (by simpa using hx)))
 simp only [Rep] at rf
 obtain ⟨b,n,cap,e1,e2⟩:=rf
 rw [apO rfl e2,show args.map ρ=(args.toList.map ρ).toArray from by apply Array.toList_inj.1;simp]
 refine (h w g b (args.toList.map ρ) hm ⟨n,cap,e1⟩ (hw.rep ra)).mono ?_
 rintro v w' ⟨r,st',g',hR,h3,h4,h5,h6,h7⟩
 exact ⟨g',(st',r),hR,h3,h4,h5,h6,h7⟩
def St.nilR (i n:Nat) (st:aD):St:=⟨λ_=>(true, .pv .und),λ_=>none,λ_=>false,st,n,some i⟩
def axF :List (Nat×PV)->(Nat->PV)->Nat->PV
 |[],f=>f
 |x::l,f=>axF l (upd f x.1 x.2)
def qC (l:List (Nat×PV)):Nat->PV:=axF l λ_=> .und
def gL :List (Nat×PV)->St->St
 |[],s=>s
 |x::l,s=>gL l (s.pv x.1 x.2)
def asX (i n:Nat) (st:aD) (l:List (Nat×PV)) (t0:Nat) (p:PV):St:=(gL l (St.nilR i n st)).pv t0 p
def alN (s:St):List (Nat×PV)->Prop
 |[]=>True
 |x::l=>s.env x.1=(true, .pv x.2)/\alN s l
theorem sM :∀(l:List (Nat×PV)) (s:St) (f:Nat->PV),(∀t,s.env t=(true, .pv (f t)))->∀t,(gL l s).env t=(true, .pv (axF l f t))
 |[],_,_,h,t=>h t
 |x::l,s,f,h,t=>sM l (s.pv x.1 x.2) (upd f x.1 x.2) (λu=>by
   show upd s.env x.1 _ u=_
   by_cases hu:u=x.1
   ·subst hu;rw [aA,aA]
   ·rw [aC hu,aC hu];exact h u) t
theorem wM :∀(l:List (Nat×PV)) (s:St),(gL l s).L=s.L/\(gL l s).ad=s.ad/\(gL l s).st=s.st/\(gL l s).n=s.n/\(gL l s).top=s.top
 |[],_=>⟨rfl,rfl,rfl,rfl,rfl⟩
 |x::l,s=>wM l (s.pv x.1 x.2)
theorem acK {s:St} {g:G} {tmps:Array Value}:∀(l:List (Nat×PV)) (f:Nat->PV),(∀t,Rep g (f t) (tmps.getD t undef))->(∀x∈l,Rep g x.2 (tmps.getD x.1 undef))->∀t,Rep g (axF l f t) (tmps.getD t undef)
 |[],_,h,_,t=>h t
 |x::l,f,h,hl,t=>acK (s:=s) l (upd f x.1 x.2) (λu=>by
   by_cases hu:u=x.1
   ·subst hu;rw [aA];exact hl x (by simp)
   ·rw [aC hu];exact h u) (λy hy=>hl y (List.mem_cons_of_mem _ hy)) t
theorem rC {s:St}:∀{l:List (Nat×PV)},alN s l->∀x∈l,s.env x.1=(true, .pv x.2)
 |_::_,h,x,hx=>by
  rcases zmc.1 hx with rfl|hx
  ·exact h.1
  ·exact rC h.2 x hx
theorem SI.act {c:Ctx} {s:St} {a a':Act} {w:World} {g:G} {lam:Nat->Nat} (hs:SI P c s a w g lam) (ht:a'.tmps=a.tmps) (hd:DfOK c a' g):SI P c s a' w g lam:=
 ⟨hs.mem,hs.le,hs.frame,hs.blk,λt=>by rw [ht];exact hs.env t,hs.box,hs.inj,hs.ad,hs.adL,hd,by rw [ht];exact hs.n,hs.top⟩
theorem mD {st:aD} {w:World} {g:G} (hm:MemOK P st w g) {idl b n m cap:Nat} {env:Nat->PV} {ps:Array Nat} {assign body:Code} {q q':LoopState} (hst:st idl=some (.loop q n env ps assign body)) (hio:g.io idl=some (b,m,cap)):
  ∃r:Loop,w.heap[b]?=some (.loop r)/\r.state=q/\r.pending=none/\r.params=ps/\r.assign=assign/\r.body=body/\r.tmps.size=n/\(∀t,Rep g (env t) (r.tmps.getD t undef))/\(let w':=w.putObj b (.loop {r with state:=q'})
  MemOK P (upd st idl (some (.loop q' n env ps assign body))) w' {g with heap:=w'.heap}/\Le g {g with heap:=w'.heap}/\Frame (Blocks st g) w g w' {g with heap:=w'.heap}/\(∀b',Blocks (upd st idl (some (.loop q' n env ps assign body))) {g with heap:=w'.heap} b'->Blocks st g b'\/w.heap.size<=b')):=by
 have hob:=hm.obj idl _ hst
 simp only [ObjOK] at hob
 obtain ⟨b',m',cap',fn,tmps,dfs,h1,h2,h3,h4,h5⟩:=hob
 rw [hio] at h1;injection h1 with h1;injection h1 with h1 h1';injection h1' with h1' h1'';subst h1;subst h1''
 rw [hm.heap] at h3
 refine ⟨_,h3,rfl,rfl,rfl,rfl,rfl,h4,h5, ?_⟩
 have hlt:=aZ h3
 exact gM (y:= .loop {state:=q',pending:=none,fn,tmps,params:=ps,assign,body,defers:=dfs}) hm (by rw [hst];simp) (by simp [Go.Abs.blk,hio,h2]) h3 rfl (λi hi=>by simp only [World.putObj,aS,h3];simp [hlt]) (λh=>by obtain ⟨a1,a2,a3,_⟩:=hm.fmm b h;rw [h3] at a3;cases a3) λhle=>by
  simp only [ObjOK]
  exact ⟨b,m,cap,fn,tmps,dfs,hio,h2,by simp [World.putObj,hlt],h4,λt=>Rep.mono hle _ _ (h5 t)⟩
theorem alU {idl n t0:Nat} {l:List (Nat×PV)} {assign body:Code} {st:aD} {p:PV} {R:aD->Prop} (hst:st idl=some (.loop .ready n (qC l) #[t0] assign body)) (ht0:t0<n)
  (h:PWp P assign (λe s'=>e= .normal/\s'.st idl=some (.loop .ready n (qC l) #[t0] assign body)/\PWp P body (λe s''=>e= .normal/\∃st2,StSub st2 s''.st/\st2 idl=some (.loop .busy n (qC l) #[t0] assign body)/\R (upd st2 idl (some (.loop .ready n (qC l) #[t0] assign body)))) (s'.sst (upd s'.st idl (some (.loop .busy n (qC l) #[t0] assign body))))) (asX idl n st l t0 p)):
  PY P idl [p] st λr S=>r= .val (.bool true)/\R S:=by
 rintro w g b vs hm ⟨m,cap,hio⟩ hr
 simp only [RepL] at hr
 obtain ⟨v,vs',rfl,hv,rfl⟩:=hr
 obtain ⟨r,k1,k2,k3,k4,k5,k6,k7,k8,_⟩:=mD (q':= .busy) hm hst hio
 rw [run_yield k1 (by rw [k4];rfl)]
 simp only [OpRes]
 rw [k4,k5,k6]
 have htm:(#[t0].zip [v].toArray).foldl (λtmps (x:Nat×Value)=>tmps.setIfInBounds x.1 x.2) r.tmps=r.tmps.setIfInBounds t0 v:=by simp
 rw [htm]
 obtain ⟨i1,i2,i3,i4,i5⟩:=wM l (St.nilR idl n st)
 have hsi:SI P ⟨w,g,Blocks st g,some b⟩ (asX idl n st l t0 p) {tmps:=r.tmps.setIfInBounds t0 v,defers:=[]} w g (λ_=>0):={
  mem:=by show MemOK P (gL l (St.nilR idl n st)).st w g;rw [i3];exact hm
  le:=Le.refl g
  frame:=Frame.refl _ w g
  blk:=λb' hb=>by
   have hb:Blocks (gL l (St.nilR idl n st)).st g b':=hb
   rw [i3] at hb;exact .inl hb
  env:=λt=>by
   show EntOK g _ (upd (gL l (St.nilR idl n st)).env t0 (true, .pv p) t) _
   by_cases ht:t=t0
   ·subst ht
    rw [aA]
    simp only [EntOK]
    rw [<-k7] at ht0
    simpa [Array.getElem?_setIfInBounds,ht0] using hv
   ·rw [aC ht,sM l (St.nilR idl n st) (λ_=> .und) (λ_=>rfl) t]
    have:=k8 t
    unfold qC at this
    simp only [EntOK]
    simpa [Array.getElem?_setIfInBounds_ne (Ne.symm ht)] using this
  box:=λt T cs e=>by
   have e:(gL l (St.nilR idl n st)).L t=some (T,cs):=e
   rw [i1] at e;cases e
  inj:=λt t' e=>by
   have e:(gL l (St.nilR idl n st)).L t≠none:=e
   rw [i1] at e;exact absurd rfl e
  ad:=λt b' u off e=>by
   have e:upd (gL l (St.nilR idl n st)).env t0 (true, .pv p) t=(b', .adr u off):=e
   by_cases ht:t=t0
   ·rw [ht,aA] at e;cases e
   ·rw [aC ht,sM l (St.nilR idl n st) (λ_=> .und) (λ_=>rfl) t] at e;cases e
  adL:=λt e=>by
   have e:(gL l (St.nilR idl n st)).L t≠none:=e
   rw [i1] at e;exact absurd rfl e
  defers:=⟨[],rfl,List.nodup_nil,λ_ h=>by cases h⟩
  n:=by show (r.tmps.setIfInBounds t0 v).size=(gL l (St.nilR idl n st)).n;rw [i4];simp [St.nilR,k7]
  top:=by
   show aAx (gL l (St.nilR idl n st)).top _
   rw [i5];exact ⟨b,m,cap,rfl,hio⟩}
 refine roundIn_of_wpIn trivial (wpIn_mono (h _ _ _ _ _ hsi) ?_)
 rintro e a₁ w₁ ⟨s',g',lam',⟨rfl,hl,hbody⟩,hs'⟩
 have hio':g'.io idl=some (b,m,cap):=hs'.le.io _ _ hio
 obtain ⟨r1,j1,j2,j3,j4,j5,j6,j7,j8,q1,q2,q3,q4⟩:=mD (q':= .busy) hs'.mem hl hio'
 refine ⟨_,run_beginRound j1 j2,wpIn_mono (hbody _ _ _ _ _ (hs'.step q1 q2 q3 q4)) ?_⟩
 rintro e a₂ w₂ ⟨s'',g'',lam'',⟨rfl,st2,hsub,hl2,hR⟩,hs''⟩
 have hio'':g''.io idl=some (b,m,cap):=hs''.le.io _ _ hio
 obtain ⟨r2,x1,x2,x3,x4,x5,x6,x7,x8,y1,y2,y3,y4⟩:=mD (q':= .ready) (hs''.mem.sub hsub) hl2 hio''
 have hend:=run_endRound (P:=P) none x1
 have hrec:({r2 with state:=if (none:Option Code).isNone=true then LoopState.ready else LoopState.done,pending:=none}:Loop)={r2 with state:= .ready}:=by
  cases r2
  simp only at x3
  subst x3
  rfl
 refine ⟨_,_,hend,_,rfl, .val (.bool true),_,_,⟨rfl,hR⟩,by simp [Rep], ?_,hs''.le.trans y2, ?_,λb' hb'=> ?_⟩
 ·rw [hrec];exact y1
 ·refine hs''.frame.trans (B':=Blocks st2 g'') ?_ λb' hb' hbb=>(hs''.blk b' (hbb.sub hsub)).resolve_right (by omega)
  rw [hrec];exact y3
 ·rcases y4 b' hb' with h'|h'
  ·exact hs''.blk b' (h'.sub hsub)
  ·right;have:w.heap.size<=w₂.heap.size:=hs''.frame.size
   omega
theorem pJ {x t0:Nat} {assign body:Code} {s:St} {Q:Exit->St->Prop} (l:List (Nat×PV)) {fid:FuncId} {caps:List PV} (hx:s.env x=(true, .pv (.fn fid caps))) (htop:s.top=none) (henv:alN s l) (R:Nat->aD->Prop)
    (h:∀idl,s.st idl=none->PC P fid (.yld idl::caps) (upd s.st idl (some (.loop .ready s.n (qC l) #[t0] assign body))) λ_ S=>S idl=some (.loop .ready s.n (qC l) #[t0] assign body)/\R idl S)
    (k:∀idl S,s.st idl=none->R idl S->Q .normal (s.sst (upd S idl none))):PWp P (.rangeFunc (.tmp x) #[t0] assign body) Q s:=by
  intro c a w g lam hs
  have hro:(FR c.ro).round=none:=by have:=hs.top;rw [htop] at this;exact this
  have hax:=hs.env x
  rw [hx] at hax
  simp only [EntOK,Rep] at hax
  obtain ⟨cvs,hax,hcv⟩:=hax
  refine wpIn_rangeFunc λfn _=> ?_
  rw [hro]
  obtain ⟨m1,m2,m3⟩:=iQ hs.mem (.deferred (some []))
  have hs1:=hs.world m1 m2 (m3.mono λ_ h=>h.elim)
  obtain ⟨Ds,d1,d2,d3⟩:=hs1.defers
  have hDnew:(w.alloc (.deferred (some []))).heap[w.heap.size]?=some (.deferred (some [])):=World.alloc_heap_new _ _
  have hs2:SI P c s {a with defers:=mT w.heap.size::a.defers} (w.alloc (.deferred (some []))) {g with heap:=(w.alloc (.deferred (some []))).heap} lam:=hs1.act rfl ⟨w.heap.size::Ds,by rw [zmp];exact congrArg _ d1,List.nodup_cons.2 ⟨λhm=>by
    obtain ⟨Ds',e1,e2,e3⟩:=hs.defers
    have:Ds=Ds':=List.map_inj_right (λa b h=>by simp only [mT,Deferred.mk.injEq,Target.collected.injEq] at h;exact h.1)|>.1 (d1.symm.trans e1)
    subst this
    have:=aZ (e3 _ hm).1
    rw [hs.mem.heap] at this;omega,d2⟩,λD hD=>by
      rcases zmc.1 hD with rfl|hD
      · exact ⟨hDnew,hs.frame.size⟩
      · exact d3 D hD⟩
  obtain ⟨idl,g2,f1,f2,f3,q1,q2,q3,q4⟩:=amE hs2.mem (.loop {state:= .ready,pending:=none,fn,tmps:=a.tmps,params:= #[t0],assign,body,defers:=w.heap.size}) (.loop .ready s.n (qC l) #[t0] assign body) λg' id hle hh hio hb hold hfr hfm=>by
    simp only [ObjOK]
    refine ⟨_,0,1,fn,a.tmps,w.heap.size,hio,by omega,hb,hs.n,λt=>acK (s:=s) l (λ_=> .und) (λ_=>trivial) (λy hy=> ?_) t⟩
    have:=hs2.env y.1
    rw [rC henv y hy] at this
    exact Rep.mono hle _ _ this
  have hs3:=hs2.step q1 q2 q3 q4
  have hw1:(w.alloc (.deferred (some []))).heap.size=w.heap.size+1:=World.size_alloc _ _
  rw [hw1] at f3
  obtain ⟨hc,hcall⟩:=h idl f2
  have hle0:Le g g2:=m2.trans q2
  let W1:World:=(w.alloc (.deferred (some []))).alloc (.loop {state:= .ready,pending:=none,fn,tmps:=a.tmps,params:= #[t0],assign,body,defers:=w.heap.size})
  refine ⟨w.heap.size+1,[mT w.heap.size],W1,{target:= .fn (.func fid) cvs.toArray,args:= #[.func (.yield (w.heap.size+1)) #[] #[]]},W1,fid, #[.func (.yield (w.heap.size+1)) #[] #[]]++cvs.toArray,W1,run_enterLoop_outer _ _ _ _ _, ?_,λ_ _=>trivial, ?_,λh=>by simp [FR,Fence.wide] at h,oZ ?_⟩
  · have:a.eval (.tmp x)= .func (.func fid) #[] cvs.toArray:=hax
    simp only [resolve,rangeCall,this,Deferred.ofValue,Sem.run_pure]
    simp [Act.eval]
  · unfold eD at hc
    split at hc
    · rename_i fnn hfn
      rw [zba] at hc
      have h1 : (fnn.name == "runtime.NumGoroutine") = false := by simpa using hc.1
      have h2:fnn.body.isNone=false:=by cases hb:fnn.body<;>simp_all
      simp only [invoke,callFunc,Sem.run_bind,run_program,hfn,Result.andThen_ok,h1,h2,Bool.false_eq_true,if_false,Sem.run_pure]
    · cases hc
  · have:=hcall W1 g2 (.func (.yield (w.heap.size+1)) #[] #[]::cvs) q1 (by simp only [RepL];exact ⟨_,cvs,rfl,by simp only [Rep];exact ⟨_,_,_,f3,rfl⟩,RepL.mono hle0 _ _ hcv⟩)
    rw [show (#[.func (.yield (w.heap.size+1)) #[] #[]]++cvs.toArray:Array Value)=(.func (.yield (w.heap.size+1)) #[] #[]::cvs).toArray from by apply Array.toList_inj.1;simp]
    refine this.mono ?_
    rintro e w₃ ⟨v,r,S,g₃,rfl,⟨hl,hR⟩,h3,h4,h5,h6,h7⟩
    have hs4:=hs3.step h4 h5 h6 h7
    have hio4:g₃.io idl=some (w.heap.size+1,0,1):=h5.io _ _ f3
    obtain ⟨r4,x1,x2,x3,x4,x5,x6,x7,x8,y1,y2,y3,y4⟩:=mD (q':= .exhausted) h4 hl hio4
    refine ⟨r4.pending,_,run_endLoop (P:=P) x1 (by rw [x2];simp), ?_⟩
    have hs5:=hs4.step (st':=upd S idl (some (.loop .exhausted s.n (qC l) #[t0] assign body))) y1 y2 y3 y4
    split
    case h_2 hh=>rw [x3] at hh;cases hh
    refine ⟨s.sst (upd S idl none),_,lam,k idl S f2 hR,hs5.sub (s2:=s.sst (upd S idl none)) ⟨λ_=> .inr rfl,λ_ _ e=>e,λj=>by
      show upd S idl none j=none\/upd S idl none j=upd S idl _ j
      by_cases hj:j=idl
      · left;rw [hj,aA]
      · right;rw [aC hj,aC hj],rfl,rfl,hs5.ad,hs5.adL⟩⟩
end
end
section
section
variable {P:Program} {tt:TT}
variable {K V:Type} [DecidableEq K] {kt:TypeId} {enc:K->Value} {rep:K->PV} {f:V->PV}
end
section
variable {P:Program} {tt:TT} {l:List Oper} {d:Md} {r:List Oper} {s:St} {K:St->Prop} {t:Nat} {ty:TypeId} {pos:String} {after:Array Edge}
end
end
section
section
variable {P:Program} {tt:TT}
theorem SI.freezeVec {c:Ctx} {s:St} {a:Act} {w:World} {g:G} {lam:Nat->Nat} (hs:SI P c s a w g lam) (u:Nat) {id sz n:Nat} {T:TypeId} {rows:List (List PV)} (hx:s.env u=(true, .pv (.vec id sz 0 n))) (hst:s.st id=some (.arr T rows)) (hT:P.cellsOf T=sz) (hn:rows.length=n):
  ∃g',SI P c ((s.sst (upd s.st id none)).pv u (.seq rows)) a w g' lam:=by
 subst hn
 have henv:∀t,((s.sst (upd s.st id none)).pv u (.seq rows)).env t=upd s.env u (true, .pv (.seq rows)) t:=λ_=>rfl
 refine hs.subF hst hT ⟨λt=> ?_,λt T ds e=>⟨ds,e,FzL.refl _⟩,zsr _,rfl,rfl,λt w' v off e=> ?_,hs.adL⟩
 ·rw [henv]
  by_cases h:t=u
  ·subst h;rw [aA];exact .inr (.inr ⟨_,_,hx,rfl, .all⟩)
  ·rw [aC h];exact .inr (.inl rfl)
 ·rw [henv] at e
  by_cases h:t=u
  ·subst h;rw [aA] at e;cases e
  ·rw [aC h] at e;exact hs.ad t w' v off e
theorem tK {cd:Code} {Q:Exit->St->Prop} {s:St} (u:Nat) {id sz n:Nat} {T:TypeId} {rows:List (List PV)} (hx:s.env u=(true, .pv (.vec id sz 0 n))) (hst:s.st id=some (.arr T rows)) (hT:P.cellsOf T=sz) (hn:rows.length=n) (k:PWp P cd Q ((s.sst (upd s.st id none)).pv u (.seq rows))):PWp P cd Q s:=by
 intro c a w g lam hs
 obtain ⟨g',h⟩:=hs.freezeVec u hx hst hT hn
 exact k c a w g' lam h
theorem xD {l r:List Oper} {o:Oper} {K:St->Prop} {s:St} (u:Nat) {id sz n:Nat} {T:TypeId} {rows:List (List PV)} (hx:s.env u=(true, .pv (.vec id sz 0 n))) (hst:s.st id=some (.arr T rows)) (hT:P.cellsOf T=sz) (hn:rows.length=n) (k:Ev P l .seq (o::r) ((s.sst (upd s.st id none)).pv u (.seq rows)) K):Ev P l .seq (o::r) s K:=by
 intro c a w g lam hs
 obtain ⟨g',h⟩:=hs.freezeVec u hx hst hT hn
 exact k c a w g' lam h
theorem SI.zeroVec {c:Ctx} {s:St} {a:Act} {w:World} {g:G} {lam:Nat->Nat} (hs:SI P c s a w g lam) (u:Nat) (sz:Nat) (T:TypeId) (hx:s.env u=(true, .pv (.val (.slice none 0 0)))):
  ∃id g',s.st id=none/\SI P c ((s.sst (upd s.st id (some (.arr T [])))).pv u (.vec id sz 0 0)) a w g' lam:=by
 obtain ⟨id,g',h1,h2,h3,h4,h5,h6,h7⟩:=mO hs.mem T
 have hs':=hs.step h4 h5 h6 h7
 refine ⟨id,g',h2,hs'.mem,hs'.le,hs'.frame,hs'.blk,λt=> ?_,hs'.box,hs'.inj,λt b v off e=> ?_,hs'.adL,hs'.defers,hs'.n,hs'.top⟩
 ·show EntOK g' lam (upd s.env u _ t) _
  by_cases ht:t=u
  ·subst ht
   rw [aA]
   have:=hs.env t
   rw [hx] at this
   simp only [EntOK,Rep] at this
   simp only [EntOK]
   rw [this]
   exact h3 sz none
  ·rw [aC ht];exact hs'.env t
 ·have e':upd s.env u (true, .pv (.vec id sz 0 0)) t=(b, .adr v off):=e
  by_cases ht:t=u
  ·rw [ht,aA] at e';cases e'
  ·rw [aC ht] at e';exact hs.ad t b v off e'
theorem wV {l r:List Oper} {o:Oper} {K:St->Prop} {s:St} (u:Nat) (sz:Nat) (T:TypeId) (hx:s.env u=(true, .pv (.val (.slice none 0 0)))) (k:∀id,s.st id=none->Ev P l .seq (o::r) ((s.sst (upd s.st id (some (.arr T [])))).pv u (.vec id sz 0 0)) K):Ev P l .seq (o::r) s K:=by
 intro c a w g lam hs
 obtain ⟨id,g',h,h'⟩:=hs.zeroVec u sz T hx
 exact k id h c a w g' lam h'
end
end
section
section
variable {P:Program} {tt:TT} {l:List Oper}
def lexO (l:List Oper) (md:Md):List Nat->Array Bool->Bool
 |[],listed=>(Region.ready .any l.toArray listed).isEmpty
 |k::ord,listed=>(Region.ready .any l.toArray listed).contains k&&(bif eB k md.z then (Region.ready .any l.toArray listed).all (λj=>Nat.beq j k) else adG l md listed k)&&lexO l md ord (listed.setIfInBounds k true)
def dO (l:List Oper):List Nat->Option (List Oper)
 |[]=>some []
 |k::ord=>match l[k]?,dO l ord with
  |some o,some r=>some (o::r)
  |_,_=>none
def jX (md md':Md):Nat->List Nat->Bool
 |_,[]=>true
 |p,k::ord=>eB p md'.z==eB k md.z&&eB p md'.r==eB k md.r&&jX md md' (p+1) ord
theorem AAny.only {md:Md} {K:St->Prop} {i:Nat} {oi:Oper} {R:aD×PV->Prop} (hi:l[i]?=some oi) (hz:eB i md.z=true) (fuel:Nat) (listed:Array Bool) (s:St)
  (hall:(Region.ready .any l.toArray listed).all (λj=>Nat.beq j i)=true) (hr:i∈Region.ready .any l.toArray listed) (hy:ZOp P l oi s R) (H:∀x,R x->AAny P l md K fuel (listed.setIfInBounds i true) (s.turn oi x)):AAny P l md K (fuel+1) listed s:=by
 refine ⟨λh=>(by rw [h] at hr;cases hr),λj hj=> ?_⟩
 obtain rfl:j=i:=by
  have:=zal.1 hall j hj
  exact Nat.eq_of_beq_eq_true this
 unfold AOp;rw [hi];simp only [hz];exact ⟨R,hy,H⟩
theorem AAny.lexO {md md':Md} {K:St->Prop}:∀(ord:List Nat) (r:List Oper) (p:Nat) (listed:Array Bool) (s:St),dO l ord=some r->l.length=p+r.length->jX md md' p ord=true->AdOK s->LOK l s->lexO l md ord listed=true->EvD P l md' r s K->AAny P l md K r.length listed s
 |[],r,_,_,_,hp,_,_,_,_,hB,h=>by
  simp only [dO,Option.some.injEq] at hp
  subst hp
  exact ⟨by simpa [Go.Abs.lexO] using hB,h⟩
 |k::ord,r,p,listed,s,hp,hlen,ht,hA,hLK,hB,h=>by
  simp only [dO] at hp
  cases h0:l[k]? with
  |none=>rw [h0] at hp;cases hp
  |some o=>
   cases h1:dO l ord with
   |none=>rw [h0,h1] at hp;cases hp
   |some r'=>
    rw [h0,h1] at hp
    injection hp with hp
    subst hp
    have hk:l.length-(r'.length+1)=p:=by rw [hlen];simp
    simp only [Go.Abs.lexO,zba] at hB
    obtain ⟨⟨hr,hf⟩,hB'⟩:=hB
    simp only [jX,zba,beq_iff_eq] at ht
    obtain ⟨⟨tz,tr⟩,ht'⟩:=ht
    unfold EvD at h
    rw [hk,tz,tr] at h
    have ho:o∈l:=List.mem_of_getElem? h0
    have rest:∀s',AdOK s'->LOK l s'->EvD P l md' r' s' K->AAny P l md K r'.length (listed.setIfInBounds k true) s':=λs' hA' hL' h'=>
     AAny.lexO ord r' (p+1) _ _ h1 (by rw [hlen];simp;omega) ht' hA' hL' hB' h'
    cases hz:eB k md.z with
    |true=>
     rw [hz] at h hf
     obtain ⟨R,hR,hK⟩:=h
     exact AAny.only h0 hz r'.length listed s hf (by simpa using hr) hR λx hx=>rest _ hA.turn (hLK.turn ho) (hK x hx)
    |false=>
     rw [hz] at h hf
     obtain ⟨T,hT,hK⟩:=h
     exact AAny.first h0 hz r'.length listed s (lD h0 hf) hA hLK (by simpa using hr) hT (rest _ (hT.adOK hA) (hLK.step ho hT hA) hK)
def axE (l r:List Oper) (md md':Md) (ord:List Nat):Bool:=Nat.beq l.length r.length&&jX md md' 0 ord&&lexO l md ord (Array.replicate l.length false)
theorem aoW {md md':Md} {r:List Oper} {id:Nat} {Q:Exit->St->Prop} {s:St} (ord:List Nat) (hm:P.follows .mixedOrders=true) (hp:dO l ord=some r) (hB:axE l r md md' ord=true) (hF:wO l s=true) (h:EvD P l md' r s (Q .normal)):PWp P (.region id l.toArray true) Q s:=by
 intro c a w g lam hs
 refine wpIn_region_any hm ?_
 obtain ⟨h1,h2⟩:=mQ hs.mem (w.drawn+1) (Nat.le_succ _)
 have hs':=hs.world h1 (Le.refl g) (h2.mono λ_ h=>h.elim)
 simp only [axE,zba] at hB
 obtain ⟨⟨b1,b2⟩,b3⟩:=hB
 have b1:l.length=r.length:=Nat.eq_of_beq_eq_true b1
 have:=AAny.lexO ord r 0 (Array.replicate l.length false) s hp (by rw [b1];simp) b2 hs.adOK (LOK.init hs.adOK hF) b3 h
 rw [<-b1] at this
 have:=AAny.sound (Q:=λe a' w'=>∃s' g' lam',Q e s'/\SI P c s' a' w' g' lam') (λs a w g lam hk hs=>⟨s,g,lam,hk,hs⟩) _ _ _ _ _ _ _ hs' this
 simpa using this
theorem wDO (pk:Pk P tt) (ord z0 rd0 z rd:List Nat) {s:St} {id:Nat} {ops:Array Oper} {r:List Oper} {k:List Fr} {Q:Exit->St->Prop} {a b g:Prop} (_hsz:Nat.beq ops.size ord.length=true) (hp:dO ops.toList ord=some r) (hl:axE ops.toList r (.draw z0 rd0) (.draw z rd) ord=true) (hF:wO ops.toList s=true) (h:yB P tt ops.toList (.draw z rd) r s k Q= .mk a b g) (ha:a) (hb:b) (hg:g):PWp P (.region id ops true) (dR P k Q) s:=by
 have:=goE pk h ha hb hg
 have:=aoW (l:=ops.toList) (id:=id) (Q:=dR P k Q) ord pk.hm hp hl hF (by
  have e:=this
  exact e)
 simpa using this
def axX (l:List Oper) (md:Md):List Nat->Array Bool->Bool
 |[],_=>true
 |k::ord,listed=>(Region.ready .any l.toArray listed).contains k&& !eB k md.z&& !eB k md.r&&adG l md listed k&&axX l md ord (listed.setIfInBounds k true)
def aBk :List Nat->Array Bool->Array Bool
 |[],listed=>listed
 |k::ord,listed=>aBk ord (listed.setIfInBounds k true)
theorem AAny.pre {md:Md} {K K':St->Prop} (n:Nat):∀(ord:List Nat) (r:List Oper) (listed:Array Bool) (s:St),dO l ord=some r->AdOK s->LOK l s->axX l md ord listed=true->EvD P l (.draw [] []) r s K'->(∀s',AdOK s'->LOK l s'->K' s'->AAny P l md K n (aBk ord listed) s')->AAny P l md K (n+r.length) listed s
 |[],r,listed,s,hp,hA,hLK,_,h,hk=>by
  simp only [dO,Option.some.injEq] at hp
  subst hp
  exact hk s hA hLK h
 |k::ord,r,listed,s,hp,hA,hLK,hB,h,hk=>by
  simp only [dO] at hp
  cases h0:l[k]? with
  |none=>rw [h0] at hp;cases hp
  |some o=>
   cases h1:dO l ord with
   |none=>rw [h0,h1] at hp;cases hp
   |some r'=>
    rw [h0,h1] at hp
    injection hp with hp
    subst hp
    simp only [axX,zba,Bool.not_eq_true'] at hB
    obtain ⟨⟨⟨⟨hr,hz⟩,hrd⟩,hf⟩,hB'⟩:=hB
    have ho:o∈l:=List.mem_of_getElem? h0
    unfold EvD at h
    have e0:∀x,eB x (Md.draw [] []).z=false:=λ_=>rfl
    have e1:∀x,eB x (Md.draw [] []).r=false:=λ_=>rfl
    rw [e0,e1] at h
    obtain ⟨T,hT,hK⟩:=h
    have hT':AStep P l o s (eB k md.r) T:=by rw [hrd];exact hT
    exact AAny.first h0 hz (n+r'.length) listed s (lD h0 hf) hA hLK (by simpa using hr) hT' (AAny.pre n ord r' _ _ h1 (hT.adOK hA) (hLK.step ho hT hA) hB' hK λs'=>hk s')
theorem AAny.fork {md md1 md2:Md} {K:St->Prop} {j1 j2:Nat} {ord1 ord2:List Nat} {r1 r2:List Oper} {p:Nat} {listed:Array Bool} {s:St} (hp1:dO l (j1::ord1)=some r1) (hp2:dO l (j2::ord2)=some r2) (hn1:l.length=p+r1.length) (hn2:l.length=p+r2.length)
  (ht1:jX md md1 p (j1::ord1)=true) (ht2:jX md md2 p (j2::ord2)=true) (hall:(Region.ready .any l.toArray listed).all (λj=>Nat.beq j j1||Nat.beq j j2)=true) (hr:(Region.ready .any l.toArray listed).contains j1=true) (hA:AdOK s) (hLK:LOK l s)
  (h1:Go.Abs.lexO l md ord1 (listed.setIfInBounds j1 true)=true) (h2:Go.Abs.lexO l md ord2 (listed.setIfInBounds j2 true)=true) (e1:EvD P l md1 r1 s K) (e2:EvD P l md2 r2 s K):AAny P l md K r1.length listed s:=by
 have key:∀{j:Nat} {ord:List Nat} {r:List Oper} {md':Md},dO l (j::ord)=some r->l.length=p+r.length->jX md md' p (j::ord)=true->Go.Abs.lexO l md ord (listed.setIfInBounds j true)=true->EvD P l md' r s K->∃n,r.length=n+1/\AOp P l md j (AAny P l md K n (listed.setIfInBounds j true)) s:=by
  intro j ord r md' hp hn ht hB h
  simp only [dO] at hp
  cases h0:l[j]? with
  |none=>rw [h0] at hp;cases hp
  |some o=>
   cases h1:dO l ord with
   |none=>rw [h0,h1] at hp;cases hp
   |some r'=>
    rw [h0,h1] at hp
    injection hp with hp
    subst hp
    have hk:l.length-(r'.length+1)=p:=by rw [hn];simp
    simp only [jX,zba,beq_iff_eq] at ht
    obtain ⟨⟨tz,tr⟩,ht'⟩:=ht
    unfold EvD at h
    rw [hk,tz,tr] at h
    have ho:o∈l:=List.mem_of_getElem? h0
    refine ⟨r'.length,rfl, ?_⟩
    unfold AOp
    rw [h0]
    have rest:∀s',AdOK s'->LOK l s'->EvD P l md' r' s' K->AAny P l md K r'.length (listed.setIfInBounds j true) s':=λs' hA' hL' h'=>
     AAny.lexO ord r' (p+1) _ _ h1 (by rw [hn];simp;omega) ht' hA' hL' hB h'
    cases hz:eB j md.z with
    |true=>
     rw [hz] at h
     obtain ⟨R,hR,hK⟩:=h
     exact ⟨R,hR,λx hx=>rest _ hA.turn (hLK.turn ho) (hK x hx)⟩
    |false=>
     rw [hz] at h
     obtain ⟨T,hT,hK⟩:=h
     exact ⟨T,hT,rest _ (hT.adOK hA) (hLK.step ho hT hA) hK⟩
 obtain ⟨n1,q1,o1⟩:=key hp1 hn1 ht1 h1 e1
 obtain ⟨n2,q2,o2⟩:=key hp2 hn2 ht2 h2 e2
 have hn:n1=n2:=by omega
 subst hn
 rw [q1]
 refine ⟨λh=>(by simp only [List.contains_iff_mem] at hr;rw [h] at hr;cases hr),λj hj=> ?_⟩
 have:=zal.1 hall j hj
 simp only [Bool.or_eq_true] at this
 rcases this with q|q
 ·rw [Nat.eq_of_beq_eq_true q];exact o1
 ·rw [Nat.eq_of_beq_eq_true q];exact o2
theorem kK :∀{ord:List Nat} {r:List Oper},dO l ord=some r->r.length=ord.length
 |[],r,h=>by simp only [dO,Option.some.injEq] at h;rw [<-h];rfl
 |k::ord,r,h=>by
  simp only [dO] at h
  cases h0:l[k]? with
  |none=>rw [h0] at h;cases h
  |some o=>
   cases h1:dO l ord with
   |none=>rw [h0,h1] at h;cases h
   |some r'=>
    rw [h0,h1] at h
    injection h with h
    rw [<-h,zlc,zlc,kK h1]
structure Both (A B:Prop):Prop where
 one:A
 two:B
end
end
section
section
variable {P:Program} {tt:TT} {l:List Oper} {d:Md} {r:List Oper} {s:St} {K:St->Prop} {t:Nat} {ty:TypeId} {pos:String} {after:Array Edge} {gd:Option (Nat×Bool)}
theorem ahC {f:Operand} {args:Array Operand} {ts:Array TypeId} {idl:Nat} {ps:List PV} {dst:Option Nat} {R:PV->aD->Prop} (hf:opd s f=some (.yld idl)) (hps:lL s args.toList=some ps) (h:PY P idl (ps.map soft) s.st R) (hfl:bK s (f::args.toList)=true) (hd:fG ⟨dst, .call ⟨.value f,args,ts⟩,ty,pos,after,none⟩ s=true) (ht:hY d l r=true)
  (k:∀p st',R p st'->Ev P l d r ((s.sst st').put dst true (.pv p)) K):Ev P l d (⟨dst, .call ⟨.value f,args,ts⟩,ty,pos,after,none⟩::r) s K:=
 dD (aoJ (ps.map soft) hf hps (WkL.soft ps) h) (λz hz=>aR (λ_ _ _ e=>by cases e) hz) hfl hd ht λz hz=>k _ _ hz
theorem eE {f:Operand} {args:Array Operand} {ts:Array TypeId} {fid:FuncId} {caps ps:List PV} {dst:Option Nat} {R:PV->aD->Prop} (hf:opd s f=some (.fn fid caps)) (hps:lL s args.toList=some ps) (h:PC P fid (ps++caps) s.st R) (hfl:bK s (f::args.toList)=true) (hd:fG ⟨dst, .call ⟨.value f,args,ts⟩,ty,pos,after,none⟩ s=true) (ht:hY d l r=true)
  (k:∀p st',R p st'->Ev P l d r ((s.sst st').put dst true (.pv p)) K):Ev P l d (⟨dst, .call ⟨.value f,args,ts⟩,ty,pos,after,none⟩::r) s K:=
 dD (vL ps hf hps (WkL.refl ps) h) (λz hz=>aR (λ_ _ _ e=>by cases e) hz) hfl hd ht λz hz=>k _ _ hz
theorem Rep.int {g:G} {k:IntKind} (n:Int):Rep g (.val (.int k n)) (.int k n):=by simp [Rep]
end
end
section
structure KR (b:Bool):Prop where
 h:b=true
inductive Jb
 |pw (c:Code) (k:List Fr) (Q:Exit->St->Prop) (s:St)
 |ev (l:List Oper) (d:Md) (r:List Oper) (s:St) (k:List Fr) (Q:Exit->St->Prop)
 |nm (k:List Fr) (Q:Exit->St->Prop) (s:St)
 |ex (id:Nat) (k:List Fr) (Q:Exit->St->Prop) (s:St)
def Jw (P:Program):Jb->Prop
 | .pw c k Q s=>PWp P c (dR P k Q) s
 | .ev l d r s k Q=>Ev P l d r s (iV P k Q)
 | .nm k Q s=>dR P k Q .normal s
 | .ex id k Q s=>dR P k Q (.exit id) s
class Jr (g:Prop) (P:outParam Program) (j:outParam Jb):Prop where
 ok:Jw P j->g
section
variable {P:Program} {c:Code} {k:List Fr} {Q:Exit->St->Prop} {s:St} {I:St->Prop} {id:Nat} {j:Jb}
instance : Jr (PWp P c (dR P k Q) s) P (.pw c k Q s):=⟨λh=>h⟩
instance (priority :=low):Jr (PWp P c Q s) P (.pw c [] Q s):=⟨λh=>h⟩
instance {l r:List Oper} {d:Md}:Jr (Ev P l d r s (iV P k Q)) P (.ev l d r s k Q):=⟨λh=>h⟩
instance {l r:List Oper} {d:Md}:Jr (Ev P l d r s (dR P k Q .normal)) P (.ev l d r s k Q):=⟨λh=>h⟩
instance (priority :=low) {l r:List Oper} {d:Md}:Jr (Ev P l d r s (Q .normal)) P (.ev l d r s [] Q):=⟨λh=>h⟩
instance : Jr (dR P k Q .normal s) P (.nm k Q s):=⟨λh=>h⟩
instance : Jr (dR P k Q (.exit id) s) P (.ex id k Q s):=⟨λh=>h⟩
instance [h :Jr (Q (.exit id) s) P j]:Jr (arS I Q (.exit id) s) P j:=⟨h.ok⟩
end
def agS (P:Program) (tt:TT) (l:List Oper) (d:Md) (o:Oper) (r:List Oper) (s:St) (K:St->Prop):Bx:=
  match bF l o s with
  |none=> .no
  |some w=>match o with
    |⟨dst, .call ⟨.value f,args,_⟩,_,_,_,gd⟩=>match opd s f,lL s args.toList with
      |some (.fn fid caps),some ps=>match dst,cI d l r with
        |some t,true=>match Nat.blt t s.n with
          |true=> .mk (All (flagsI s w (f::args.toList) [])) (All []) (Cn (.c P w fid ps caps (λp=>Ev P l d r (s.put (some t) w (.pv p)) K) (gd.isNone&&(bK s (f::args.toList)&&hY d l r)) s.st λp st'=>Ev P l d r ((s.sst st').put (some t) true (.pv p)) K))
          |false=> .no
        |dst,_=>match fG o s with
          |true=> .mk (All []) (All []) (Cn (.c P w fid ps caps (λ_=>False) (gd.isNone&&(bK s (f::args.toList)&&hY d l r)) s.st λp st'=>Ev P l d r ((s.sst st').put dst true (.pv p)) K))
          |false=> .no
      |_,_=> .no
    |_=> .no
def ajE (P:Program) (tt:TT) (l:List Oper) (d:Md) (o:Oper) (r:List Oper) (s:St) (K:St->Prop):Bx:=
  match bF l o s with
  |none=> .no
  |some w=>match o with
    |⟨some t, .indexAddr T x y,_,_,_,_⟩=>match opd s x,opd s y,tiK tt T with
      |some p,some (.val (.int _ n)),some (.slice e)=>match eK p,aO tt e,Nat.blt t s.n&&cI d l r with
        |some rows,some sz,true=> .mk (All (flagsI s w [x,y] [])) (All []) (Cn (.n w rows n sz λrow=>Ev P l d r (s.put (some t) w (.pv (.rp row))) K))
        |_,_,_=> .no
      |_,_,_=> .no
    |_=> .no
def nx (P:Program) (tt:TT):Jb->Bx
 | .pw c k Q s=>match c with
  | .ret=> .mk (All []) (All []) (dR P k Q .ret s)
  | .cond (.tmp t) x y=>match s.env t with
   |(true, .pv (.val (.bool b)))=> .mk (All []) (All []) (Cn (.b b (PWp P x (dR P k Q) s) (PWp P y (dR P k Q) s)))
   |_=> .no
  | .cond (.const (.bool b)) x y=>match b with
   |true=> .mk (All []) (All []) (PWp P x (dR P k Q) s)
   |false=> .mk (All []) (All []) (PWp P y (dR P k Q) s)
  | .region _ ops true=>match wO ops.toList s with
   |true=> .mk (KR (ahV ops.toList (.draw [] []))) (All []) (Ev P ops.toList (.draw [] []) ops.toList s (iV P k Q))
   |false=> .no
  |c=>match isW c with
   |true=>adv P tt 1000 (.code c) k Q s [] []
   |false=> .no
 | .ev l d r s k Q=>match r with
  |[]=>yB P tt l d [] s k Q
  |o::r=>match amA tt d l (o::r) s with
   |true=>yB P tt l d (o::r) s k Q
   |false=> .no
 | .nm k Q s=>adv P tt 1000 .norm k Q s [] []
 | .ex id k Q s=>adv P tt 1000 (.out id) k Q s [] []
section
variable {P:Program} {tt:TT}
theorem abY [pk:Pk P tt] {l:List Oper} {d:Md} {o:Oper} {r:List Oper} {s:St} {K:St->Prop} {a b g:Prop} (h:agS P tt l d o r s K= .mk a b g) (ha:a) (hg:g):Ev P l d (o::r) s K:=by
 unfold agS at h
 split at h
 ·cases h
 ·rename_i w hw
  split at h
  ·rename_i dst f args ts ty pos after gd
   have hz:∀{z:Bool},(gd.isNone&&(bK s (f::args.toList)&&z))=true->gd=none/\bK s (f::args.toList)=true/\z=true:=fun {z} e=>by
    simp only [zba,Option.isNone_iff_eq_none] at e;exact e
   split at h
   ·rename_i fid caps ps hf hps
    split at h
    ·rename_i t ht
     split at h
     ·rename_i hd
      injection h with h1 h2 h3;subst h1;subst h3
      cases hg.ok with
      |w qs hq hp k=>exact aCo qs hw hf hps hq hp ha hd ht k
      |p qs hz' hq hp k=>
       obtain ⟨rfl,hfl,hz2⟩:=hz hz'
       exact dD (vL qs hf hps hq hp) (λz hz=>aR (λ_ _ _ e=>by cases e) hz) hfl hd hz2 λz hz=>k _ _ hz
     ·cases h
    ·split at h
     ·rename_i hd
      injection h with h1 h2 h3;subst h1;subst h3
      cases hg.ok with
      |w qs hq hp k=>exact k.elim
      |p qs hz' hq hp k=>
       obtain ⟨rfl,hfl,hz2⟩:=hz hz'
       exact dD (vL qs hf hps hq hp) (λz hz=>aR (λ_ _ _ e=>by cases e) hz) hfl hd hz2 λz hz=>k _ _ hz
     ·cases h
   ·cases h
  ·cases h
theorem acG [pk:Pk P tt] {l:List Oper} {d:Md} {o:Oper} {r:List Oper} {s:St} {K:St->Prop} {a b g:Prop} (h:ajE P tt l d o r s K= .mk a b g) (ha:a) (hg:g):Ev P l d (o::r) s K:=by
 unfold ajE at h
 split at h
 ·cases h
 ·rename_i w hw
  split at h
  ·split at h
   ·split at h
    ·rename_i hx hy hk _ _ _ _ _ hp hs ht
     injection h with h1 h2 h3;subst h1;subst h3
     obtain ⟨j,row,h1,h2,h3,h4⟩:=hg.ok
     rw [zba] at ht
     exact bX pk hw hx hp hy hk hs ha ht.1 h1 h2 h3 ht.2 h4
    ·cases h
   ·cases h
  ·cases h
theorem atD [pk:Pk P tt] {j:Jb} {a b g:Prop} (h:nx P tt j= .mk a b g) (ha:a) (hb:b) (hg:g):Jw P j:=by
 cases j with
 |pw c k Q s=>
  show PWp P c (dR P k Q) s
  simp only [nx] at h
  split at h
  ·injection h with _ _ h3;subst h3;exact pS hg
  ·split at h
   ·rename_i e
    injection h with _ _ h3;subst h3
    exact asE e hg.ok.1 hg.ok.2
   ·cases h
  ·split at h
   ·injection h with _ _ h3;subst h3;exact zG hg
   ·injection h with _ _ h3;subst h3;exact zG hg
  ·split at h
   ·rename_i hF
    injection h with h1 _ h3;subst h1;subst h3
    exact lO (l:=Array.toList _) pk.hm ha.h hF hg
   ·cases h
  ·split at h
   ·exact go pk h ha hb hg
   ·cases h
 |ev l d r s k Q=>
  simp only [nx] at h
  split at h
  ·exact goE pk h ha hb hg
  ·split at h
   ·exact goE pk h ha hb hg
   ·cases h
 |nm k Q s=>exact goN pk h ha hb hg
 |ex id k Q s=>exact goX pk h ha hb hg
end
theorem wZ {P:Program} {tt:TT} {j:Jb} {g':Prop} [hj:Jr g' P j] [pk:Pk P tt] {a b g:Prop} (h:nx P tt j= .mk a b g) (ha:a) (hb:b) (hg:g):g':=
 hj.ok (atD h ha hb hg)
theorem wY {P:Program} {tt:TT} [pk:Pk P tt] {l:List Oper} {d:Md} {o:Oper} {r:List Oper} {s:St} {K:St->Prop} {a b g:Prop} (h:agS P tt l d o r s K= .mk a b g) (ha:a) (hg:g):Ev P l d (o::r) s K:=abY h ha hg
theorem wI {P:Program} {tt:TT} [pk:Pk P tt] {l:List Oper} {d:Md} {o:Oper} {r:List Oper} {s:St} {K:St->Prop} {a b g:Prop} (h:ajE P tt l d o r s K= .mk a b g) (ha:a) (hg:g):Ev P l d (o::r) s K:=acG h ha hg
section
variable {P:Program} {tt:TT}
def aDp (tt:TT) (xs:List ResultVar) (r:PV) (st:aD):Exit->St->Prop
 | .normal,s| .ret,s=>Cn (.e (apX tt s xs) s.st r st)
 |_,_=>False
def aDn (tt:TT) (xs:List ResultVar) (R:PV->aD->Prop):Exit->St->Prop
 | .normal,s| .ret,s=>Cn (.r (apX tt s xs) s.st R)
 |_,_=>False
theorem asF [pk:Pk P tt] {f:FuncId} {fn:Func} {cd:Code} (hf:P.funcs[f]?=some fn) (hb:fn.body=some cd):eD P f=true:=by
 unfold eD
 rw [hf]
 have:=Array.all_eq_true'.1 pk.nm fn (Array.mem_of_getElem? hf)
 simp [hb] at this⊢
 exact this
theorem pC [pk:Pk P tt] {f:FuncId} {fn:Func} {cd:Code} {args:List PV} {st:aD} {R:PV->aD->Prop} {n:Nat} {xs:List ResultVar} (hf:P.funcs[f]?=some fn)
  (h:(fn.body,fn.ntmps,fn.results.toList,Nat.ble args.length fn.ntmps)=(some cd,n,xs,true)) (k:PWp P cd (aDn tt xs R) (dL 0 args (St.nil n st))):PC P f args st R:=by
 simp only [Prod.mk.injEq] at h
 obtain ⟨h1,h2,h3,h4⟩:=h
 refine aAr pk.htt hf (asF hf h1) h1 h2 h3 (h2▸h4) (k.mono λe s q=> ?_)
 cases e<;>first|exact Cn.ok q|exact q
theorem pF [pk:Pk P tt] {f:FuncId} {fn:Func} {cd:Code} {args:List PV} {r:PV} {n:Nat} {xs:List ResultVar} (hf:P.funcs[f]?=some fn)
  (h:(fn.body,fn.ntmps,fn.results.toList,Nat.ble args.length fn.ntmps)=(some cd,n,xs,true)) (k:∀st,PWp P cd (aDp tt xs r st) (dL 0 args (St.nil n st))):PF P f args r:=λst=>by
 simp only [Prod.mk.injEq] at h
 obtain ⟨h1,h2,h3,h4⟩:=h
 refine aAr pk.htt hf (asF hf h1) h1 h2 h3 (h2▸h4) ((k st).mono λe s q=> ?_)
 cases e<;>first|exact Cn.ok q|exact q
theorem aG {s:St} {Q:Exit->St->Prop} {X:Type} {body:Code} (sh:X->St) (m:X->Nat) (x0:X) (h0:Cn (.s s (sh x0)))
  (round:∀x,PWp P body (arS (λs'=>∃x',Cn (.s s' (sh x'))/\m x'<m x) Q) (sh x)):PWp P (.loop body) Q s:=
 asW sh m x0 h0.ok λx=>(round x).mono λe s q=>by
  cases e<;>first|exact q|(obtain ⟨x',h1,h2⟩:=q;exact ⟨x',h1.ok,h2⟩)
end
theorem iX {α:Type} {f:α->List PV} {l:List α} {w:Bool} {n:Int} {j sz:Nat} {G:List PV->Prop} {a:α} (hj:w=true->n=(j:Int)) (h:l[j]?=some a) (hl:(f a).length=sz) (k:G (f a)):Cn (.n w (l.map f) n sz G):=
 .any ⟨j,_,hj,λ_=>by simp [h],λ_=>hl,k⟩
theorem gE {α:Type} {l:List α} {j:Nat} (h:j<l.length):l[j]?=some l[j]:=by simp [h]
section
variable {P:Program} {w z:Bool} {f:FuncId} {ps cs:List PV} {G:PV->Prop} {st:aD} {H:PV->aD->Prop} {p:PV} {R:PV->aD->Prop}
theorem cW (h:w=true->PF P f (ps++cs) p) (k:G p):Cn (.c P w f ps cs G z st H):= .any (.w _ (WkL.refl ps) h k)
theorem cV (h:PF P f (ps.map soft++cs) p) (k:G p):Cn (.c P w f ps cs G z st H):= .any (.w _ (WkL.soft ps) (λ_=>h) k)
theorem cP (hz:z=true) (h:PC P f (ps.map soft++cs) st R) (k:∀p st',R p st'->H p st'):Cn (.c P w f ps cs G z st H):= .any (.p _ hz (WkL.soft ps) h k)
end
end
end Go.Abs
