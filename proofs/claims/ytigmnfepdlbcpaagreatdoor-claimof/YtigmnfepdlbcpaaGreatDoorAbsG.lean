import Derived.Test.YtigmnfepdlbcpaaGreatDoorAbsE
set_option linter.all false
namespace Go.Abs
open Go
variable{st:aD}{w:World}{α:Type}{ty:TypeId}{pos:String}{after:Array Edge}{s:St}{f x:Operand}{id idl n sz:Nat}{o:Oper}{k:Value}{p q r:PV}{dst:Option Nat}{args caps ps:List PV}{R:PV->aD->Prop}{c:Ctx}{q':LoopState}{Q:Exit->St->Prop}{m:FuncId}{rows:List (List PV)}{e:Code}{K:St->Prop}{B d i:Md}{a b g g':Prop}{l:List Oper}{P:Program}{xs:List ResultVar}
section
section
variable{P:Program}{tt:TT}
theorem aCC{g:G}(hm:MemOK P st w g)(o:Obj)(o':AObj)(ho:∀g' id,Le g g'->g'.heap=(w.alloc o).heap->g'.io id=some (w.heap.size,0,1)->g'.heap[w.heap.size]?=some o->(∀b,b<w.heap.size->g'.heap[b]?=w.heap[b]?)->g'.fr w.heap.size=0->¬g'.fm w.heap.size->ObjOK P g' id o'):
  ∃id g',g.io id=none/\st id=none/\g'.io id=some (w.heap.size,0,1)/\MemOK P (upd st id (some o')) (w.alloc o) g'/\Le g g'/\Frame (Blocks st g) w g (w.alloc o) g'/\∀b',Blocks (upd st id (some o')) g' b'->Blocks st g b'\/w.heap.size<=b':=by
 have⟨id,u,C⟩:=lM hm
 have⟨m1,y,i⟩:=lT hm o
 let g':G:={g with heap:=(w.alloc o).heap,io:=upd g.io id (some (w.heap.size,0,1))}
 have m:Le g g':=⟨pG u,y.fr,y.cell,y.fm⟩
 have q:(w.alloc o).heap[w.heap.size]?=some o:=by show(w.heap.push _)[_]?=_;simp
 have n:¬g.fm w.heap.size:=λh=>by
  have⟨D,cl,e,_⟩:=hm.fmm _ h
  have:=bQ e;omega
 have v:g.fr w.heap.size=0:=by
  rcases Nat.eq_zero_or_pos (g.fr w.heap.size)with h|h
  ·exact h
  ·have:=hm.lt w.heap.size (by omega);omega
 have a:=iZ (w':=w.alloc o) (g':=g') (id:=id) (n':=0) (cap':=1) (o':=o') hm u rfl rfl (λ_=> .inr rfl) (λb hb _=>(i.old b hb λh=>h).1) (λ_ _=>rfl) rfl (λ_=>n) i.size (λ_=>bQ q) m
  (ho g' id m rfl (aA _ _ _) q (λb hb=>(i.old b hb λh=>h).1) v n)
 have B:upd (upd st id none) id (some o')=upd st id (some o'):=by
  funext j
  by_cases h:j=id
  ·rw[h,aA,aA]
  ·rw[aB h,aB h,aB h]
 rw[B]at a
 refine⟨id,g',u,C,aA _ _ _,a,m,⟨i.os,i.tape,i.output,i.size,λb hb hn=>⟨(i.old b hb λh=>h).1,rfl,Iff.rfl⟩⟩,λb' ⟨j,A,x⟩=>?_⟩
 by_cases h:j=id
 ·subst h
  right;simp[Go.Abs.blk,g',aA]at x;omega
 ·rw[aB h]at A
  refine .inl ⟨j,A,?_⟩;unfold Go.Abs.blk at x⊢;rwa[show g'.io j=g.io j from aB h]at x
theorem aEy{t:Nat}{ty:TypeId}{pos:String}{after:Array Edge}{s:St}{T kt e:TypeId}{x:Operand}{es:List (Value×PV)}(htt:bI P tt)(hx:opd s x=some (.fmap es))(hT:tiK tt T=some (.map kt e)):
  OpZ P ⟨some t, .range T x,ty,pos,after,none⟩ s λz=>∃id,s.st id=none/\z=(upd s.st id (some (.iter none es)), .ref id 0):=by
 intro w g ρ hm hρ
 have D:=hρ x (by simp[Op.operands]) _ hx
 simp only[Rep]at D
 obtain⟨h,b,a,B,C,i,h4⟩:=D
 rw[hm.heap]at i
 have hu:=xJ (aR htt hT).1
 have o:(execOp ρ (⟨some t, .range T x,ty,pos,after,none⟩:Oper)).run P w= .ok (.value (.pointer (some ⟨w.heap.size,0,none⟩))) (w.alloc (.mapIter (some h) a #[] a)):=by
  simp[execOp,Instr.range,run_underlying hu,B,MapKept.run_getObj_map i]
 rw[o]
 have A:=bQ i
 obtain⟨v,u,e0,q⟩:=hm.fmm h C
 rw[i]at e0;injection e0 with e0;injection e0 with e1 e2;subst e1;subst e2
 obtain⟨id,g',O,E,F,J,L,M,N⟩:=aCC hm _ (.iter none es) (λg' id m hh y hb n _ _=>by
  simp only[ObjOK]
  refine⟨w.heap.size,0,1,h,b,a, #[],y,by omega,hb,(m.fm h C).1,(n h A).trans i,q,?_,λk p e=>by cases e⟩
  have:(b.toList.filter λe=> !(#[]:Array Nat).contains e.born)=b.toList:=by simp
  rw[this]
  exact RepE.mono m _ _ h4)
 exact⟨g',_,⟨id,E,rfl⟩,by simp only[Rep];exact⟨w.heap.size,0,1,F,rfl⟩,J,L,M,N⟩
theorem RepE.get{g:G}:∀{es:List (Value×PV)}{ms:List MapEntry}{j:Nat}{m:MapEntry},RepE g es ms->ms[j]?=some m->∃k p,es[j]?=some (k,p)/\m.key=k/\Rep g p m.val
  |[],ms,j,m,h,hj=>by subst h;simp at hj
  |(k,p)::es,ms,j,m,h,hj=>by
    obtain⟨m0,b,rfl,e,i,a⟩:=h
    cases j with
    |zero=>grind
    |succ j=>simpa using RepE.get a hj
theorem RepE.len{g:G}:∀{es:List (Value×PV)}{ms:List MapEntry},RepE g es ms->ms.length=es.length
  |[],ms,h=>by simpa
  |(k,p)::es,ms,h=>by
    obtain⟨m0,b,rfl,e,i,a⟩:=h
    simp[RepE.len a]
theorem RepE.erase{g:G}:∀{es:List (Value×PV)}{ms:List MapEntry}(j:Nat),RepE g es ms->RepE g (es.eraseIdx j) (ms.eraseIdx j)
  |[],ms,j,h=>by subst h;simp[RepE]
  |(k,p)::es,ms,j,h=>by
    obtain⟨m0,i,rfl,a,b,e⟩:=h
    cases j with
    |zero=>grind
    |succ j=>exact⟨m0,_,rfl,a,b,RepE.erase j e⟩
theorem sA{α:Type}(f:α->Nat):∀{l:List α}{j:Nat}{x:α},(l.map f).Nodup->l[j]?=some x->l.filter (λy=>decide (f y≠f x))=l.eraseIdx j
 |[],j,x,_,h=>rfl
 |y::l,0,x,hn,h=>by simp_all
 |y::l,j+1,x,hn,h=>by
  simp at hn
  rw[List.filter_cons_of_pos (by grind),List.eraseIdx_cons_succ,sA f hn.2 h]
theorem aaI(f:α->Nat)(p:α->Bool){l:List α}(h:(l.map f).Nodup):((l.filter p).map f).Nodup:=
 h.sublist (List.filter_sublist.map f)
theorem akT(n:Nat)(h:0<n)(w:World):∃j a,(choose (.mapNext n)).run P w= .ok j a/\j<n/\(a=w\/a={w with drawn:=w.drawn+1}):=by
 rw[run_choose_drew];by_cases hf:Question.forced (.mapNext n)=true
 ·rw[zp hf];grind
 ·rw[zn hf];exact⟨_,_,rfl,Nat.mod_lt _ h, .inr rfl⟩
theorem aFv{t:Nat}{cur:Option (Value×PV)}{left:List (Value×PV)}(hx:opd s x=some (.ref id 0))(W:s.st id=some (.iter cur left)):
    OpZ P ⟨some t, .next x false,ty,pos,after,none⟩ s λz=>(left=[]/\z=(s.st, .tup [.val (.bool false)]))\/∃i e,left[i]?=some e/\z=(upd s.st id (some (.iter (some e) (left.eraseIdx i))), .tup [.val (.bool true), .und, .und]):=by
  intro w g ρ hm hρ
  have rx:=hρ x (by simp[Op.operands]) _ hx
  simp only[Rep]at rx
  have⟨b,n,cap,N,hxv⟩:=rx
  have hob:=hm.obj id _ W
  have hblt:∀{b'},Go.Abs.blk g id=some b'->b'<w.heap.size:=λh=>aFq hm (by rw[W];simp) h
  simp only[ObjOK]at hob
  have⟨b',n',cap',D,q,a,u,X,h2,Y,h4,h5,Z,h7,h8⟩:=hob
  rw[N]at X;injection X with X;injection X with X h1';injection h1' with h1' h1'';subst X;subst h1''
  rw[hm.heap]at Y h5
  have hblk:Go.Abs.blk g id=some b:=by simp[Go.Abs.blk,N,h2]
  have hg3:(getObj b).run P w= .ok (.mapIter (some D) a u a) w:=by simp[getObj,Sem.run,Y]
  have hg5:(getObj D).run P w= .ok (.map q a) w:=MapKept.run_getObj_map h5
  have hc0:(!u.isEmpty&& !q.isEmpty&&q.all λe=>decide (e.born>=a))=false:=by
    cases hb:q.isEmpty with
    |true=>rw[show q= #[]from by simpa using hb];cases u.isEmpty<;>rfl
    |false=>
      have:q.all (λe=>decide (e.born>=a))=false:=by
        rw[<-znt,Array.all_eq_true'];intro hall;have U:q.toList≠[]:=λh=>by
          have:q= #[]:=by apply Array.toList_inj.1;rw[h]
          rw[this]at hb;simp at hb
        have⟨e,M⟩:=List.exists_mem_of_ne_nil _ U;have:=hall e (by simpa using M);have h':=Z.1 e M;simp at this;omega
      rw[this];simp
  let L:=q.filter λe=> !u.contains e.born
  have hold:L.filter (λe=>decide (e.born<a))=L:=by
    apply Array.toList_inj.1;rw[Array.toList_filter];exact List.filter_eq_self.2 λe M=>by
      have:e∈q.toList:=by
        have:e∈L:=by simpa using M
        have:=(Array.mem_filter.1 this).1
        simpa using this
      simpa using Z.1 e this
  have hnew:L.filter (λe=>decide (e.born>=a))= #[]:=by
    apply Array.toList_inj.1;rw[Array.toList_filter];refine List.filter_eq_nil_iff.2 λe M=>?_;have:e∈q.toList:=by
      have:e∈L:=by simpa using M
      have:=(Array.mem_filter.1 this).1
      simpa using this
    have:=Z.1 e this;simp;omega
  let y:Array (Option MapEntry):=(if L.isEmpty then #[none]else #[])++L.map some
  have hpos:0<y.size:=by
    show 0<((if L.isEmpty then #[none]else #[])++L.map some).size;cases hb:L.isEmpty with
    |true=>simp;omega
    |false=>simp;exact Array.size_pos_iff.2 (by simpa using hb)
  have⟨j,C,c1,c2,c3⟩:=akT (P:=P) y.size hpos w
  have hm1:MemOK P s.st C g/\Frame (Blocks s.st g) w g C g/\C.heap=w.heap:=by
    rcases c3 with rfl|rfl
    · exact⟨hm,Frame.refl _ _ _,rfl⟩
    · exact⟨(qI hm _ (Nat.le_succ _)).1,(qI hm _ (Nat.le_succ _)).2.mono λ_ h=>h.elim,rfl⟩
  have⟨m1,m2,m3⟩:=hm1
  have hrun:(execOp ρ (⟨some t, .next x false,ty,pos,after,none⟩:Oper)).run P w=((match y[j]? with
      |some (some e)=>do
        setObj b (.mapIter (some D) a (u.push e.born) a)
        pure (.tuple #[.bool true,e.key,e.val])
      |some none=>pure (.tuple #[.bool false])
      | none =>stuck "Next: no such candidate" : Sem Value) >>=λv =>pure (.value v) : Sem Next).run P C :=by
    simp only[execOp,Instr.next,hxv,Sem.run_bind,hg3,hg5,Result.andThen_ok,hc0,Bool.false_eq_true,if_false,Sem.run_pure]
    have e1:((if(L.filter λe=>decide (e.born<a)).isEmpty=true then #[none]else #[])++Array.map some ((L.filter λe=>decide (e.born<a))++L.filter λe=>decide (e.born>=a)))=y:=by
      rw[hold,hnew,Array.append_empty]
    simp only[L]at e1
    rw[e1,c1]
    simp only[Result.andThen_ok]
    cases hj:y[j]? with
    |none=>rfl
    |some o=>cases o<;>rfl
  rw[hrun]
  have E:L.toList=q.toList.filter λe=> !u.contains e.born:=by rw[Array.toList_filter]
  rw[<-E]at h7
  by_cases hL:L= #[]
  · have S:left=[]:=by
      have:=RepE.len h7;rw[hL]at this;exact List.length_eq_zero_iff.1 (by simpa using this.symm)
    have hc:y= #[none]:=by
      show((if L.isEmpty then #[none]else #[])++L.map some)=_;rw[hL];simp
    rw[hc]at c2;have hj0:j=0:=by simpa using c2
    have J:y[j]?=some none:=by rw[hc,hj0];rfl
    rw[J];simp only[Sem.run_bind,Sem.run_pure,Result.andThen_ok,OpRes];exact⟨g,_, .inl ⟨S,rfl⟩,by simp only[Rep];exact⟨[.bool false],rfl,by simp only[RepL];exact⟨_,_,rfl,by simp[Rep],rfl⟩⟩,m1,Le.refl g,m2,λb hb=> .inl hb⟩
  · have hc:y=L.map some:=by
      show((if L.isEmpty then #[none]else #[])++L.map some)=_;rw[zn (by simpa using hL)];simp
    have O:j<L.size:=by rw[hc]at c2;simpa using c2
    have hLj:L[j]?=some L[j]:=by simp[O]
    have J:y[j]?=some (some L[j]):=by rw[hc];simp[O]
    have⟨k,p,e1,e2,e3⟩:=RepE.get h7 (j:=j) (m:=L[j]) (by rw[Array.getElem?_toList];exact hLj);rw[J];have A:C.heap[b]?=some (.mapIter (some D) a u a):=by rw[m3];exact Y
    have hso:(setObj b (.mapIter (some D) a (u.push L[j].born) a)).run P C= .ok () {C with heap:=C.heap.setIfInBounds b (.mapIter (some D) a (u.push L[j].born) a)}:=by
      simp[setObj,Sem.run,A]
    simp only[Sem.run_bind,hso,Sem.run_pure,Result.andThen_ok,OpRes];have U:D≠b:=λe=>by rw[e,Y]at h5;cases h5
    have hlt:=bQ A;have T:L[j]∈q.toList:=by
      have:L[j]∈L:=Array.getElem_mem O;have:=(Array.mem_filter.1 this).1
      simpa using this
    have B:(q.toList.filter λe=> !(u.push L[j].born).contains e.born)=L.toList.eraseIdx j:=by
      rw[<-sA (·.born) (x:=L[j]) (by rw[E];exact aaI _ _ Z.2) (j:=j) (by rw[Array.getElem?_toList];exact hLj),E,List.filter_filter];refine List.filter_congr λe M=>?_;simp only[Array.contains_push];cases u.contains e.born<;>simp[Bool.and_comm,eq_comm]<;>(try(by_cases hx:e.born=L[j].born<;>simp[hx]))
    have⟨q1,q2,q3,q4⟩:=iU (o':= .iter (some (k,p)) (left.eraseIdx j)) (w':={C with heap:=C.heap.setIfInBounds b (.mapIter (some D) a (u.push L[j].born) a)}) m1 (by rw[W];simp) hblk A rfl
      (λi hi=>by simp only[bB,A];simp[hlt]) (λh=>by have⟨a1,a2,a3,_⟩:=hm.fmm b h;rw[Y]at a3;cases a3) (λhle=>by
        simp only[ObjOK]
        refine⟨b,n,cap,D,q,a,u.push L[j].born,N,h2,by simp[hlt],h4,?_,Z,?_,λk' p' e=>?_⟩
        · show(C.heap.setIfInBounds b _)[D]?=_
          rw[Array.getElem?_setIfInBounds_ne (Ne.symm U),m3];exact h5
        · rw[B];exact RepE.mono hle _ _ (RepE.erase j h7)
        · injection e with e;injection e with e4 e5;subst e4;subst e5
          exact⟨L[j],T,e2,Rep.mono hle _ _ e3,by simp⟩)
    refine⟨_,_, .inr ⟨j,(k,p),e1,rfl⟩,?_,q1,q2,m2.trans q3 λb' _ F=>F,λb' F=>by
      rcases q4 b' F with h|h
      · exact .inl h
      · right;rw[m3]at h;exact h⟩
    simp only[Rep];exact⟨[.bool true,L[j].key,L[j].val],rfl,by simp only[RepL];exact⟨_,_,rfl,by simp[Rep],_,_,rfl,trivial,_,_,rfl,trivial,rfl⟩⟩
theorem aCW{left:List (Value×PV)}(ho:o.op= .entry x)(hx:opd s x=some (.ref id 0))(B:s.st id=some (.iter (some (k,p)) left))(hq:∀g,Rep g q k):OpV P o s (.tup [q,p]):=by
 refine aN λw g ρ hm hρ=>?_;have E:=hρ x (by rw[ho];simp[Op.operands]) _ hx;simp only[Rep]at E;have⟨b,n,cap,A,C⟩:=E;have u:=hm.obj id _ B;simp only[ObjOK]at u;have⟨b',n',cap',N,m,v,F,i,T,D,h4,h5,M,U,h8⟩:=u;rw[A]at i;injection i with i;injection i with i h1';subst i
 rw[hm.heap]at D h5;have⟨e,J,O,S,L⟩:=h8 k p rfl;have a:m.find? (λx=>x.born==e.born)=some e:=by
  rw[<-Array.find?_toList];have:∀{l:List MapEntry},(l.map (·.born)).Nodup->e∈l->l.find? (λx=>x.born==e.born)=some e:=by
   intro l
   induction l with
   |nil=>intro _ h;cases h
   |cons y l ih=>
    grind
  exact this M.2 J
 refine⟨.tuple #[e.key,e.val],?_,by simp only[Rep];exact⟨[e.key,e.val],rfl,by simp only[RepL];grind⟩⟩;simp[execOp,ho,Instr.entry,C,getObj,Sem.run,D,h5,L,a]
end
end
section
section
variable{P:Program}{tt:TT}
def PY(P:Program)(idl:Nat)(args:List PV)(st:aD)(R:PV->aD->Prop):Prop:=
 ∀w g b vs,MemOK P st w g->(∃n cap,g.io idl=some (b,n,cap))->RepL g args vs->
  OpRes P (λv w'=>∃r st' g',R r st'/\Rep g' r v/\MemOK P st' w' g'/\Le g g'/\Frame (Blocks st g) w g w' g'/\∀b,Blocks st' g' b->Blocks st g b\/w.heap.size<=b) ((Instr.yield b vs.toArray).run P w)
theorem aEI{ρ:Operand->Value}{args:Array Operand}{a:Array TypeId}{b:Nat}(ho:o.op= .call ⟨.value f,args,a⟩)(hf:ρ f= .func (.yield b) #[] #[]):
  (execOp ρ o).run P w=(Instr.yield b (args.map ρ)).run P w:=by
 simp[execOp,ho,resolve,hf,Deferred.ofValue,invoke]
theorem aEi{args:Array Operand}{q:Array TypeId}(qs:List PV)(hf:opd s f=some (.yld idl))(a:pH s args.toList=some ps)(hw:WkL ps qs)(h:PY P idl qs s.st R):
  OpZ P ⟨dst, .call ⟨.value f,args,q⟩,ty,pos,after,none⟩ s λx=>R x.2 x.1:=by
 intro w g ρ hm hρ
 have o:=hρ f (by simp[Op.operands,Call.operands]) _ hf
 have m:=lY a (g:=g) λx hx=>hρ x (by simp[Op.operands,Call.operands];grind)
 have⟨b,n,cap,e,i⟩:=o
 rw[aEI rfl i,show args.map ρ=(args.toList.map ρ).toArray from by grind]
 refine(h w g b _ hm ⟨n,cap,e⟩ (hw.rep m)).mono ?_
 rintro v w' ⟨r,st',g',hR,h3,h4,h5,h6,h7⟩
 exact⟨g',(st',r),hR,h3,h4,h5,h6,h7⟩
def St.nilR(i n:Nat)(st:aD):St:=⟨λ_=>(true, .pv .und),λ_=>none,λ_=>false,st,n,some i⟩
def aID :List (Nat×PV)->(Nat->PV)->Nat->PV
 |[],f=>f
 |x::l,f=>aID l (upd f x.1 x.2)
def akL(l:List (Nat×PV)):Nat->PV:=aID l λ_=> .und
def lV :List (Nat×PV)->St->St
 |[],s=>s
 |x::l,s=>lV l (s.pv x.1 x.2)
def aGn(i n:Nat)(st:aD)(l:List (Nat×PV))(t0:Nat)(p:PV):St:=(lV l (St.nilR i n st)).pv t0 p
def aG7(s:St):List (Nat×PV)->Prop
 |[]=>True
 |x::l=>s.env x.1=(true, .pv x.2)/\aG7 s l
theorem acF :∀(l:List (Nat×PV))(s:St)(f:Nat->PV),(∀t,s.env t=(true, .pv (f t)))->∀t,(lV l s).env t=(true, .pv (aID l f t))
 |[],_,_,h,t=>h t
 |x::l,s,f,h,t=>acF l _ _ (λu=>by
   show upd _ _ _ u=_
   by_cases hu:u=x.1
   ·subst hu;rw[aA,aA]
   ·rw[aB hu,aB hu];exact h u) t
theorem ahZ :∀(l:List (Nat×PV))(s:St),(lV l s).L=s.L/\(lV l s).ad=s.ad/\(lV l s).st=s.st/\(lV l s).n=s.n/\(lV l s).top=s.top
 |[],_=>⟨rfl,rfl,rfl,rfl,rfl⟩
 |x::l,s=>ahZ l _
theorem aCL{s:St}{g:G}{tmps:Array Value}:∀(l:List (Nat×PV))(f:Nat->PV),(∀t,Rep g (f t) (tmps.getD t undef))->(∀x∈l,Rep g x.2 (tmps.getD x.1 undef))->∀t,Rep g (aID l f t) (tmps.getD t undef)
 |[],_,h,_,t=>h t
 |x::l,f,h,hl,t=>aCL (s:=s) l _ (λu=>by
   by_cases hu:u=x.1
   ·subst hu;rw[aA];grind
   ·rw[aB hu];exact h u) (λy hy=>hl y (zmm _ hy)) t
theorem alG{s:St}:∀{l:List (Nat×PV)},aG7 s l->∀x∈l,s.env x.1=(true, .pv x.2)
 |_::_,h,x,hx=>by
  rcases zmc.1 hx with rfl|hx
  ·exact h.1
  ·exact alG h.2 x hx
theorem SI.act{a b:Act}{g:G}{lam:Nat->Nat}(hs:SI P c s a w g lam)(ht:b.tmps=a.tmps)(hd:DfOK c b g):SI P c s b w g lam:=
 ⟨hs.mem,hs.le,hs.frame,hs.blk,λt=>by rw[ht];exact hs.env t,hs.box,hs.inj,hs.ad,hs.adL,hd,by rw[ht];exact hs.n,hs.top⟩
theorem yX{g:G}(hm:MemOK P st w g){b m cap:Nat}{env:Nat->PV}{ps:Array Nat}{assign body:Code}{q:LoopState}(A:st idl=some (.loop q n env ps assign body))(a:g.io idl=some (b,m,cap)):
  ∃r:Loop,w.heap[b]?=some (.loop r)/\r.state=q/\r.pending=none/\r.params=ps/\r.assign=assign/\r.body=body/\r.tmps.size=n/\(∀t,Rep g (env t) (r.tmps.getD t undef))/\(let w':=w.putObj b (.loop {r with state:=q'})
  MemOK P (upd st idl (some (.loop q' n env ps assign body))) w' {g with heap:=w'.heap}/\Le g {g with heap:=w'.heap}/\Frame (Blocks st g) w g w' {g with heap:=w'.heap}/\(∀b',Blocks (upd st idl (some (.loop q' n env ps assign body))) {g with heap:=w'.heap} b'->Blocks st g b'\/w.heap.size<=b')):=by
 have y:=hm.obj idl _ A
 have⟨b',F,cap',fn,tmps,v,e,B,o,h4,h5⟩:=y
 rw[a]at e;injection e with e;injection e with e h1';injection h1' with h1' h1'';subst e;subst h1''
 rw[hm.heap]at o
 refine⟨_,o,rfl,rfl,rfl,rfl,rfl,h4,h5,?_⟩
 have u:=bQ o
 exact iU hm (by grind) (by simp[Go.Abs.blk,a,B]) o rfl (λi hi=>by simp only[World.putObj,bB,o];simp[u]) (λh=>by have⟨C,D,E,_⟩:=hm.fmm b h;grind) λx=>by
  exact⟨b,m,cap,fn,tmps,v,a,B,by simp[World.putObj,u],h4,λt=>Rep.mono x _ _ (h5 t)⟩
theorem aNW{t0:Nat}{l:List (Nat×PV)}{assign body:Code}{R:aD->Prop}(F:st idl=some (.loop .ready n (akL l) #[t0] assign body))(A:t0<n)(h:PWp P assign (λe C=>e= .normal/\C.st idl=some (.loop .ready n (akL l) #[t0] assign body)/\PWp P body (λe B=>e= .normal/\∃st2,StSub st2 B.st/\st2 idl=some (.loop .busy n (akL l) #[t0] assign body)/\R (upd st2 idl (some (.loop .ready n (akL l) #[t0] assign body)))) (C.sst (upd C.st idl (some (.loop .busy n (akL l) #[t0] assign body))))) (aGn idl n st l t0 p)):
  PY P idl [p] st λr S=>r= .val (.bool true)/\R S:=by
 rintro w g b vs hm ⟨m,cap,hio⟩ hr
 simp only[RepL]at hr
 obtain⟨v,vs',rfl,hv,rfl⟩:=hr
 have⟨r,k1,k2,k3,W,k5,k6,X,k8,_⟩:=yX (q':= .busy) hm F hio
 rw[run_yield k1 (by rw[W];rfl)]
 simp only[OpRes]
 rw[W,k5,k6]
 have J:(#[t0].zip [v].toArray).foldl (λtmps (x:Nat×Value)=>tmps.setIfInBounds x.1 x.2) r.tmps=r.tmps.setIfInBounds t0 v:=by simp
 rw[J]
 have⟨M,i2,U,Z,i5⟩:=ahZ l (St.nilR idl n st)
 have E:SI P ⟨w,g,Blocks st g,some b⟩ (aGn idl n st l t0 p) {tmps:=r.tmps.setIfInBounds t0 v,defers:=[]} w g (λ_=>0):={
  mem:=by show MemOK P (lV l (St.nilR idl n st)).st w g;rw[U];exact hm
  le:=Le.refl g
  frame:=Frame.refl _ w g
  blk:=λb' hb=>by
   have hb:Blocks (lV l (St.nilR idl n st)).st g b':=hb
   rw[U]at hb;exact .inl hb
  env:=λt=>by
   show EntOK g _ (upd (lV l (St.nilR idl n st)).env t0 (true, .pv p) t) _
   by_cases ht:t=t0
   ·subst ht
    rw[aA];simp only[EntOK];rw[<-X]at A
    simpa[Array.getElem?_setIfInBounds,A]using hv
   ·rw[aB ht,acF l (St.nilR idl n st) (λ_=> .und) (λ_=>rfl) t]
    have:=k8 t;unfold akL at this;simp only[EntOK]
    simpa[Array.getElem?_setIfInBounds_ne (Ne.symm ht)]using this
  box:=λt T cs e=>by
   have e:(lV l (St.nilR idl n st)).L t=some (T,cs):=e
   rw[M]at e;cases e
  inj:=λt t' e=>by
   have e:(lV l (St.nilR idl n st)).L t≠none:=e
   rw[M]at e;exact absurd rfl e
  ad:=λt b' u off e=>by
   have e:upd (lV l (St.nilR idl n st)).env t0 (true, .pv p) t=(b', .adr u off):=e
   by_cases ht:t=t0
   ·rw[ht,aA]at e;cases e
   ·rw[aB ht,acF l (St.nilR idl n st) (λ_=> .und) (λ_=>rfl) t]at e;cases e
  adL:=λt e=>by
   have e:(lV l (St.nilR idl n st)).L t≠none:=e
   rw[M]at e;exact absurd rfl e
  defers:=⟨[],rfl,List.nodup_nil,λ_ h=>by cases h⟩
  n:=by show(r.tmps.setIfInBounds t0 v).size=(lV l (St.nilR idl n st)).n;rw[Z];simp[St.nilR,X]
  top:=by
   show aLo (lV l (St.nilR idl n st)).top _;rw[i5];exact⟨b,m,cap,rfl,hio⟩}
 refine roundIn_of_wpIn trivial (wpIn_mono (h _ _ _ _ _ E) ?_)
 rintro e a₁ w₁ ⟨C,g',lam',⟨rfl,hl,hbody⟩,hs'⟩
 have y:g'.io idl=some (b,m,cap):=hs'.le.io _ _ hio
 have⟨r1,j1,j2,j3,j4,j5,j6,j7,j8,q1,q2,q3,q4⟩:=yX (q':= .busy) hs'.mem hl y
 refine⟨_,run_beginRound j1 j2,wpIn_mono (hbody _ _ _ _ _ (hs'.step q1 q2 q3 q4)) ?_⟩
 rintro e a₂ w₂ ⟨B,g'',lam'',⟨rfl,st2,hsub,hl2,hR⟩,hs''⟩
 have i:g''.io idl=some (b,m,cap):=hs''.le.io _ _ hio
 have⟨N,x1,x2,Y,x4,x5,x6,x7,x8,y1,y2,y3,y4⟩:=yX (q':= .ready) (hs''.mem.sub hsub) hl2 i
 have q:=run_endRound (P:=P) none x1
 have a:({N with state:=if(none:Option Code).isNone=true then LoopState.ready else LoopState.done,pending:=none}:Loop)={N with state:= .ready}:=by
  cases N
  simp only at Y;subst Y;rfl
 refine⟨_,_,q,_,rfl, .val (.bool true),_,_,⟨rfl,hR⟩,by simp[Rep],?_,hs''.le.trans y2,?_,λb' o=>?_⟩
 ·rw[a];exact y1
 ·refine hs''.frame.trans (B':=Blocks st2 g'') ?_ λb' o D=>(hs''.blk b' (D.sub hsub)).resolve_right (by omega)
  rw[a];exact y3
 ·rcases y4 b' o with O|O
  ·exact hs''.blk b' (O.sub hsub)
  ·right;have:w.heap.size<=w₂.heap.size:=hs''.frame.size
   omega
theorem aAy{x t0:Nat}{assign body:Code}(l:List (Nat×PV))(hx:s.env x=(true, .pv (.fn m caps)))(M:s.top=none)(E:aG7 s l)(R:Nat->aD->Prop)(h:∀idl,s.st idl=none->PC P m (.yld idl::caps) (upd s.st idl (some (.loop .ready s.n (akL l) #[t0] assign body))) λ_ S=>S idl=some (.loop .ready s.n (akL l) #[t0] assign body)/\R idl S)(k:∀idl S,s.st idl=none->R idl S->Q .normal (s.sst (upd S idl none))):PWp P (.rangeFunc (.tmp x) #[t0] assign body) Q s:=by
  intro c a w g lam hs
  have hro:(FR c.ro).round=none:=by have:=hs.top;rw[M]at this;exact this
  have o:=hs.env x
  rw[hx]at o
  simp only[EntOK,Rep]at o
  have⟨i,o,W⟩:=o
  refine wpIn_rangeFunc λfn _=>?_
  rw[hro]
  have⟨m1,m2,m3⟩:=lT hs.mem (.deferred (some []))
  have L:=hs.world m1 m2 (m3.mono λ_ h=>h.elim)
  have⟨Ds,d1,d2,d3⟩:=L.defers
  have u:(w.alloc (.deferred (some []))).heap[w.heap.size]?=some (.deferred (some [])):=World.alloc_heap_new _ _
  have B:SI P c s {a with defers:=wQ w.heap.size::a.defers} (w.alloc (.deferred (some []))) {g with heap:=(w.alloc (.deferred (some []))).heap} lam:=L.act rfl ⟨w.heap.size::Ds,by rw[zmp];exact congrArg _ d1,List.nodup_cons.2 ⟨λhm=>by
    have⟨O,e1,e2,e3⟩:=hs.defers
    have:Ds=O:=List.map_inj_right (λa b h=>by simp only[wQ,Deferred.mk.injEq,Target.collected.injEq]at h;exact h.1)|>.1 (d1.symm.trans e1)
    subst this
    have:=bQ (e3 _ hm).1
    rw[hs.mem.heap]at this;omega,d2⟩,λD U=>by
      rcases zmc.1 U with rfl|U
      · exact⟨u,hs.frame.size⟩
      · exact d3 D U⟩
  have⟨idl,g2,f1,f2,T,q1,q2,q3,q4⟩:=aCC B.mem (.loop {state:= .ready,pending:=none,fn,tmps:=a.tmps,params:= #[t0],assign,body,defers:=w.heap.size}) (.loop .ready s.n (akL l) #[t0] assign body) λg' id Z hh Y hb hold hfr hfm=>by
    simp only[ObjOK]
    refine⟨_,0,1,fn,a.tmps,w.heap.size,Y,by omega,hb,hs.n,λt=>aCL (s:=s) l (λ_=> .und) (λ_=>trivial) (λy hy=>?_) t⟩
    have:=B.env y.1
    rw[alG E y hy]at this
    exact Rep.mono Z _ _ this
  have hs3:=B.step q1 q2 q3 q4
  have hw1:(w.alloc (.deferred (some []))).heap.size=w.heap.size+1:=World.size_alloc _ _
  rw[hw1]at T
  have⟨hc,A⟩:=h idl f2
  have J:Le g g2:=m2.trans q2
  let N:World:=(w.alloc (.deferred (some []))).alloc (.loop {state:= .ready,pending:=none,fn,tmps:=a.tmps,params:= #[t0],assign,body,defers:=w.heap.size})
  refine⟨w.heap.size+1,[wQ w.heap.size],N,{target:= .fn (.func m) i.toArray,args:= #[.func (.yield (w.heap.size+1)) #[] #[]]},N,m, #[.func (.yield (w.heap.size+1)) #[] #[]]++i.toArray,N,run_enterLoop_outer _ _ _ _ _,?_,λ_ _=>trivial,?_,λh=>by simp[FR,Fence.wide]at h,agT ?_⟩
  · have:a.eval (.tmp x)= .func (.func m) #[] i.toArray:=o
    simp only[resolve,rangeCall,this,Deferred.ofValue,Sem.run_pure];simp[Act.eval]
  · unfold jB at hc
    split at hc
    · rename_i q X
      rw[zba]at hc;have h1 :(q.name == "runtime.NumGoroutine") = false :=by simpa using hc.1
      have h2:q.body.isNone=false:=by cases hb:q.body<;>simp_all
      simp only[invoke,callFunc,Sem.run_bind,run_program,X,Result.andThen_ok,h1,h2,Bool.false_eq_true,if_false,Sem.run_pure]
    · cases hc
  · have:=A N g2 (.func (.yield (w.heap.size+1)) #[] #[]::i) q1 (by simp only[RepL];exact⟨_,i,rfl,by simp only[Rep];exact⟨_,_,_,T,rfl⟩,RepL.mono J _ _ W⟩)
    rw[show(#[.func (.yield (w.heap.size+1)) #[] #[]]++i.toArray:Array Value)=(.func (.yield (w.heap.size+1)) #[] #[]::i).toArray from by apply Array.toList_inj.1;simp];refine this.mono ?_;rintro e w₃ ⟨v,r,S,g₃,rfl,⟨hl,hR⟩,h3,h4,h5,h6,h7⟩;have hs4:=hs3.step h4 h5 h6 h7;have F:g₃.io idl=some (w.heap.size+1,0,1):=h5.io _ _ T;have⟨r4,x1,x2,x3,x4,x5,x6,x7,x8,y1,y2,y3,y4⟩:=yX (q':= .exhausted) h4 hl F;refine⟨r4.pending,_,run_endLoop (P:=P) x1 (by rw[x2];simp),?_⟩;have C:=hs4.step (st':=upd S idl (some (.loop .exhausted s.n (akL l) #[t0] assign body))) y1 y2 y3 y4;split
    case h_2 hh=>rw[x3]at hh;cases hh
    refine⟨s.sst (upd S idl none),_,lam,k idl S f2 hR,C.sub (s2:=s.sst (upd S idl none)) ⟨λ_=> .inr rfl,λ_ _ e=>e,λj=>by
      show upd S idl none j=none\/upd S idl none j=upd S idl _ j
      by_cases hj:j=idl
      · left;rw[hj,aA]
      · right;rw[aB hj,aB hj],rfl,rfl,C.ad,C.adL⟩⟩
end
end
section
section
variable{P:Program}{tt:TT}
variable{K V:Type}[DecidableEq K]{kt:TypeId}{enc:K->Value}{rep:K->PV}{f:V->PV}
end
section
variable{P:Program}{tt:TT}{l:List Oper}{d:Md}{r:List Oper}{s:St}{K:St->Prop}{t:Nat}{ty:TypeId}{pos:String}{after:Array Edge}
theorem SI.wkSlot{a:Act}{g:G}{lam:Nat->Nat}(hs:SI P c s a w g lam)(u:Nat)(hx:s.env u=(true, .pv p))(hq:Wk p q):SI P c (s.pv u q) a w g lam:=
 ⟨hs.mem,hs.le,hs.frame,hs.blk,λt=>by
  show EntOK g _ (upd _ u _ t) _
  by_cases ht:t=u
  ·subst ht
   rw[aA];have:=hs.env t;rw[hx]at this;exact hq g _ this
  ·rw[aB ht];exact hs.env t,hs.box,hs.inj,λt b v off e=>by
  have h:upd s.env u _ t=(b, .adr v _):=e
  by_cases ht:t=u
  ·rw[ht,aA]at h;cases h
  ·rw[aB ht]at h;exact hs.ad t b v _ h,hs.adL,hs.defers,hs.n,hs.top⟩
theorem aLa(u:Nat)(hx:s.env u=(true, .pv p))(hq:Wk p q)(k:Ev P l .seq (o::r) (s.pv u q) K):Ev P l .seq (o::r) s K:=λc a w g lam hs=>k c a w g _ (hs.wkSlot u hx hq)
end
end
section
section
variable{P:Program}{tt:TT}
theorem SI.freezeVec{a:Act}{g:G}{lam:Nat->Nat}(hs:SI P c s a w g lam)(u:Nat){T:TypeId}(hx:s.env u=(true, .pv (.vec id sz 0 n)))(i:s.st id=some (.arr T rows))(hT:P.cellsOf T=sz)(hn:rows.length=n):
  ∃g',SI P c ((s.sst (upd s.st id none)).pv u (.seq rows)) a w g' lam:=by
 subst hn
 have b:∀t,((s.sst (upd s.st id none)).pv u (.seq rows)).env t=upd s.env u _ t:=λ_=>rfl
 refine hs.subF i hT ⟨λt=>?_,λt T ds e=>⟨ds,e,FzL.refl _⟩,zsr _,rfl,rfl,λt w' v off e=>?_,hs.adL⟩
 ·rw[b]
  by_cases h:t=u
  ·subst h;rw[aA];exact .inr (.inr ⟨_,_,hx,rfl, .all⟩)
  ·rw[aB h];simp
 ·rw[b]at e
  by_cases h:t=u
  ·subst h;rw[aA]at e;cases e
  ·rw[aB h]at e;exact hs.ad t _ v _ e
theorem uQ(u:Nat){T:TypeId}(hx:s.env u=(true, .pv (.vec id sz 0 n)))(b:s.st id=some (.arr T rows))(hT:P.cellsOf T=sz)(hn:rows.length=n)(k:PWp P e Q ((s.sst (upd s.st id none)).pv u (.seq rows))):PWp P e Q s:=by
 intro c a w g lam hs;have⟨g',h⟩:=hs.freezeVec u hx b hT hn;exact k c a w _ _ h
end
end
section
section
variable{P:Program}{tt:TT}{l:List Oper}
def lexO(l:List Oper)(a:Md):List Nat->Array Bool->Bool
 |[],listed=>(Region.ready .any l.toArray listed).isEmpty
 |k::ord,listed=>(Region.ready .any l.toArray listed).contains k&&(bif mD k a.z then(Region.ready .any l.toArray listed).all (λj=>Nat.beq j k)else aBy l a listed k)&&lexO l a ord (listed.setIfInBounds k true)
def akA(l:List Oper):List Nat->Option (List Oper)
 |[]=>some []
 |k::ord=>match l[k]?,akA l ord with
  |some o,some r=>some (o::r)
  |_,_=>none
def aBF(b a:Md):Nat->List Nat->Bool
 |_,[]=>true
 |p,k::ord=>mD p a.z==mD k b.z&&mD p a.r==mD k b.r&&aBF b a (p+1) ord
theorem AAny.only{b:Md}{i:Nat}{e:Oper}{R:aD×PV->Prop}(hi:l[i]?=some e)(hz:mD i b.z=true)(fuel:Nat)(a:Array Bool)(s:St)(g:(Region.ready .any l.toArray a).all (λj=>Nat.beq j i)=true)(m:i∈Region.ready .any l.toArray a)(hy:ZOp P l e s R)(H:∀x,R x->AAny P l b K fuel (a.setIfInBounds i true) (s.turn e x)):AAny P l b K (fuel+1) a s:=by
 refine⟨λh=>(by grind),λj hj=>?_⟩
 obtain rfl:j=i:=by simp_all
 unfold AOp;grind
theorem AAny.lexO{i g:Md}{K:St->Prop}:∀(b:List Nat)(r:List Oper)(p:Nat)(a:Array Bool)(s:St),akA l b=some r->l.length=p+r.length->aBF i g p b=true->AdOK s->LOK l s->lexO l i b a=true->EvD P l g r s K->AAny P l i K r.length a s
 |[],r,_,_,_,hp,_,_,_,_,hB,h=>by
  simp only[akA,Option.some.injEq]at hp
  subst hp
  exact⟨by simpa[Go.Abs.lexO]using hB,h⟩
 |k::b,r,p,a,s,hp,hlen,ht,hA,hLK,hB,h=>by
  simp only[akA]at hp
  cases h0:l[k]? with
  |none=>rw[h0]at hp;cases hp
  |some o=>
   cases A:akA l b with
   |none=>grind
   |some r'=>
    rw[h0,A]at hp;injection hp with hp
    subst hp;have hk:l.length-(r'.length+1)=p:=by rw[hlen];simp
    simp only[Go.Abs.lexO,zba]at hB;obtain⟨⟨B,hf⟩,q⟩:=hB;simp only[aBF,zba,beq_iff_eq]at ht;obtain⟨⟨F,E⟩,y⟩:=ht;unfold EvD at h;rw[hk,F,E]at h;have ho:o∈l:=List.mem_of_getElem? h0;have e:∀m,AdOK m->LOK l m->EvD P l g r' m K->AAny P l i K r'.length _ m:=λm n v C=>
     AAny.lexO b r' (p+1) _ _ A (by rw[hlen];simp;omega) y n v q C
    cases hz:mD k i.z with
    |true=>
     rw[hz]at h hf;have⟨R,D,u⟩:=h;exact AAny.only h0 hz r'.length a s hf (by simpa using B) D λx hx=>e _ hA.turn (hLK.turn ho) (u x hx)
    |false=>
     rw[hz]at h hf;have⟨T,hT,u⟩:=h;exact AAny.first h0 hz r'.length a s (xU h0 hf) hA hLK (by simpa using B) hT (e _ (hT.adOK hA) (hLK.step ho hT hA) u)
def aIC(l r:List Oper)(e b:Md)(a:List Nat):Bool:=Nat.beq l.length r.length&&aBF e b 0 a&&lexO l e a (Array.replicate l.length false)
theorem aEt{r:List Oper}(m:List Nat)(hm:P.follows .mixedOrders=true)(hp:akA l m=some r)(o:aIC l r B i m=true)(A:akQ l s=true)(h:EvD P l i r s (Q .normal)):PWp P (.region id l.toArray true) Q s:=by
 intro c a w g lam hs;refine wpIn_region_any hm ?_;have⟨x,y⟩:=qI hs.mem _ (Nat.le_succ _);have n:=hs.world x (Le.refl g) (y.mono λ_ h=>h.elim);simp only[aIC,zba]at o;obtain⟨⟨b1,b2⟩,v⟩:=o;have b1:=Nat.eq_of_beq_eq_true b1;have:=AAny.lexO _ r 0 _ s hp (by grind) b2 hs.adOK (LOK.init hs.adOK A) v h;rw[<-b1]at this;have:=AAny.sound (Q:=λe u w'=>∃q g' b,Q e q/\SI P c q u w' g' b) (λs a w g lam hk hs=>⟨s,g,lam,hk,hs⟩) _ _ _ _ _ _ _ n this;omega
theorem wDO(pk:Pk P tt)(i z0 m z rd:List Nat){e:Array Oper}{r:List Oper}{k:List Fr}(n:Nat.beq e.size i.length=true)(hp:akA e.toList i=some r)(hl:aIC e.toList r (.draw z0 m) (.draw z rd) i=true)(o:akQ e.toList s=true)(h:apB P tt e.toList (.draw z rd) r s k Q= .mk a b g)(ha:a)(hb:b)(hg:g):PWp P (.region id e true) (dQ P k Q) s:=by
 have:=goE pk h ha hb hg;have:=aEt (id:=id) (Q:=dQ P k Q) _ pk.hm hp hl o ‹_›;omega
def sO :List Nat->Array Bool->Array Bool
 |[],listed=>listed
 |k::ord,listed=>sO ord (listed.setIfInBounds k true)
structure Both (A B:Prop):Prop where
 one:A
 two:B
end
end
section
section
variable{P:Program}{tt:TT}{l:List Oper}{d:Md}{r:List Oper}{s:St}{K:St->Prop}{t:Nat}{ty:TypeId}{pos:String}{after:Array Edge}{gd:Option (Nat×Bool)}
theorem aIk(pk:Pk P tt){T kt e:TypeId}{es:List (Value×PV)}(hx:opd s x=some (.fmap es))(hT:tiK tt T=some (.map kt e))(hf:bS s [x]=true)(hd:Nat.blt t s.n=true)(ht:jU d l r=true)(k:∀id,s.st id=none->Ev P l d r ((s.sst (upd s.st id (some (.iter none es)))).pv t (.ref id 0)) K):Ev P l d (⟨some t, .range T x,ty,pos,after,none⟩::r) s K:=by
 refine eM (aEy pk.htt hx hT) (λz hz=>aO (λ_ _ _ e=>by grind) hz) hf hd ht ?_
 rintro z ⟨id,h,rfl⟩
 exact k _ h
theorem aLj{cur:Option (Value×PV)}{left:List (Value×PV)}(hx:opd s x=some (.ref id 0))(a:s.st id=some (.iter cur left))(hf:bS s [x]=true)(hd:Nat.blt t s.n=true)(ht:jU d l r=true)(k1:left=[]->Ev P l d r ((s.sst s.st).pv t (.tup [.val (.bool false)])) K)(k2:∀i e,left[i]?=some e->Ev P l d r ((s.sst (upd s.st id (some (.iter (some e) (left.eraseIdx i))))).pv t (.tup [.val (.bool true), .und, .und])) K):Ev P l d (⟨some t, .next x false,ty,pos,after,none⟩::r) s K:=by
 refine eM (aFv hx a) (λz hz=>aO (λ_ _ _ e=>by grind) hz) hf hd ht ?_
 rintro z (⟨h,rfl⟩|⟨i,e,h,rfl⟩)
 ·exact k1 h
 ·exact k2 i e h
theorem aHx{w:Bool}{left:List (Value×PV)}(hw:bG l ⟨some t, .entry x,ty,pos,after,gd⟩ s=some w)(hx:opd s x=some (.ref id 0))(a:s.st id=some (.iter (some (k,p)) left))(hq:∀g,Rep g q k)(hf:All (flagsI s w [x] []))(hd:Nat.blt t s.n=true)(ht:zG d l r=true)(b:Ev P l d r (s.put (some t) w (.pv (.tup [q,p]))) K):Ev P l d (⟨some t, .entry x,ty,pos,after,gd⟩::r) s K:=
 tE hw (λ_=>aCW rfl hx a hq) (λz hz=>aO (λ_ _ _ e=>by grind) hz) (flagsI.g hf).1 hd ht b
theorem aNN{args:Array Operand}{i:Array TypeId}{a:FuncId}(hf:opd s f=some (.fn a caps))(g:pH s args.toList=some ps)(h:PC P a (ps++caps) s.st R)(b:bS s (f::args.toList)=true)(hd:iA ⟨dst, .call ⟨.value f,args,i⟩,ty,pos,after,none⟩ s=true)(ht:jU d l r=true)(k:∀p st',R p st'->Ev P l d r ((s.sst st').put dst true (.pv p)) K):Ev P l d (⟨dst, .call ⟨.value f,args,i⟩,ty,pos,after,none⟩::r) s K:=
 eM (agQ _ hf g (WkL.refl _) h) (λz hz=>aO (λ_ _ _ e=>by grind) hz) b hd ht λz hz=>k _ _ hz
theorem Rep.int{g:G}{k:IntKind}(n:Int):Rep g (.val (.int k n)) (.int k n):=rfl
end
end
section
structure KR (b:Bool):Prop where
 h:b=true
inductive Jb
 |pw (c:Code) (k:List Fr) (Q:Exit->St->Prop) (s:St)
 |ev (l:List Oper) (d:Md) (r:List Oper) (s:St) (k:List Fr) (Q:Exit->St->Prop)
 |nm (k:List Fr) (Q:Exit->St->Prop) (s:St)
 |ex (id:Nat) (k:List Fr) (Q:Exit->St->Prop) (s:St)
def Jw(P:Program):Jb->Prop
 | .pw c k Q s=>PWp P c (dQ P k Q) s
 | .ev l d r s k Q=>Ev P l d r s (adP P k Q)
 | .nm k Q s=>dQ P k Q .normal s
 | .ex id k Q s=>dQ P k Q (.exit id) s
class Jr (g:Prop) (P:outParam Program) (j:outParam Jb):Prop where
 ok:Jw P j->g
section
variable{P:Program}{c:Code}{k:List Fr}{Q:Exit->St->Prop}{s:St}{I:St->Prop}{id:Nat}{j:Jb}
instance : Jr (PWp P c (dQ P k Q) s) P (.pw c k Q s):=⟨λh=>h⟩
instance(priority :=low):Jr (PWp P c Q s) P (.pw c [] Q s):=⟨λh=>h⟩
instance{l r:List Oper}{d:Md}:Jr (Ev P l d r s (adP P k Q)) P (.ev l d r s k Q):=⟨λh=>h⟩
instance{l r:List Oper}{d:Md}:Jr (Ev P l d r s (dQ P k Q .normal)) P (.ev l d r s k Q):=⟨λh=>h⟩
instance(priority :=low){l r:List Oper}{d:Md}:Jr (Ev P l d r s (Q .normal)) P (.ev l d r s [] Q):=⟨λh=>h⟩
instance : Jr (dQ P k Q .normal s) P (.nm k Q s):=⟨λh=>h⟩
instance : Jr (dQ P k Q (.exit id) s) P (.ex id k Q s):=⟨λh=>h⟩
instance[h :Jr (Q (.exit id) s) P j]:Jr (aBA I Q (.exit id) s) P j:=⟨h.ok⟩
end
def axX(P:Program)(tt:TT)(l:List Oper)(d:Md)(o:Oper)(r:List Oper)(s:St)(K:St->Prop):Bx:=
  match bG l o s with
  |none=> .no
  |some w=>match o with
    |⟨dst, .call ⟨.value f,args,_⟩,_,_,_,gd⟩=>match opd s f,pH s args.toList with
      |some (.fn fid caps),some ps=>match dst,cX d l r with
        |some t,true=>match Nat.blt t s.n with
          |true=> .mk (All (flagsI s w (f::args.toList) [])) (All []) (Cn (.c P w fid ps caps (λp=>Ev P l d r (s.put (some t) w (.pv p)) K) (gd.isNone&&(bS s (f::args.toList)&&jU d l r)) s.st λp st'=>Ev P l d r ((s.sst st').put (some t) true (.pv p)) K))
          |false=> .no
        |dst,_=>match iA o s with
          |true=> .mk (All []) (All []) (Cn (.c P w fid ps caps (λ_=>False) (gd.isNone&&(bS s (f::args.toList)&&jU d l r)) s.st λp st'=>Ev P l d r ((s.sst st').put dst true (.pv p)) K))
          |false=> .no
      |_,_=> .no
    |_=> .no
def aAG(P:Program)(tt:TT)(l:List Oper)(d:Md)(o:Oper)(r:List Oper)(s:St)(K:St->Prop):Bx:=
  match bG l o s with
  |none=> .no
  |some w=>match o with
    |⟨some t, .indexAddr T x y,_,_,_,_⟩=>match opd s x,opd s y,tiK tt T with
      |some p,some (.val (.int _ n)),some (.slice e)=>match gQ p,aP tt e,Nat.blt t s.n&&cX d l r with
        |some rows,some sz,true=> .mk (All (flagsI s w [x,y] [])) (All []) (Cn (.n w rows n sz λrow=>Ev P l d r (s.put (some t) w (.pv (.rp row))) K))
        |_,_,_=> .no
      |_,_,_=> .no
    |_=> .no
def nx(P:Program)(tt:TT):Jb->Bx
 | .pw c k Q s=>match c with
  | .ret=> .mk (All []) (All []) (dQ P k Q .ret s)
  | .cond (.tmp t) x y=>match s.env t with
   |(true, .pv (.val (.bool b)))=> .mk (All []) (All []) (Cn (.b b (PWp P x (dQ P k Q) s) (PWp P y (dQ P k Q) s)))
   |_=> .no
  | .cond (.const (.bool b)) x y=>match b with
   |true=> .mk (All []) (All []) (PWp P x (dQ P k Q) s)
   |false=> .mk (All []) (All []) (PWp P y (dQ P k Q) s)
  | .region _ ops true=>match akQ ops.toList s with
   |true=> .mk (KR (azF ops.toList (.draw [] []))) (All []) (Ev P ops.toList (.draw [] []) ops.toList s (adP P k Q))
   |false=> .no
  |c=>match isW c with
   |true=>adv P tt 1000 (.code c) k Q s [] []
   |false=> .no
 | .ev l d r s k Q=>match r with
  |[]=>apB P tt l d [] s k Q
  |o::r=>match aKw tt d l (o::r) s with
   |true=>apB P tt l d (o::r) s k Q
   |false=> .no
 | .nm k Q s=>adv P tt 1000 .norm k Q s [] []
 | .ex id k Q s=>adv P tt 1000 (.out id) k Q s [] []
section
variable{P:Program}{tt:TT}
theorem aqL[pk:Pk P tt]{r:List Oper}(h:axX P tt l d o r s K= .mk a b g)(ha:a)(hg:g):Ev P l d (o::r) s K:=by
 unfold axX at h;split at h
 ·cases h
 ·rename_i w hw
  split at h
  ·rename_i dst f args u ty pos after gd
   have hz:∀{z:Bool},(gd.isNone&&(bS s (f::args.toList)&&z))=true->gd=none/\bS s (f::args.toList)=true/\z=true:=fun{z} e=>by simp_all
   split at h
   ·rename_i q caps ps hf m
    split at h
    ·rename_i t ht
     split at h
     ·rename_i hd
      injection h with h1 h2 h3;subst h1;subst h3
      cases hg.ok with
      |w qs hq hp k=>exact amM qs hw hf m hq hp ha hd ht k
      |p qs hz' hq hp k=>
       obtain⟨rfl,i,n⟩:=hz hz';exact eM (agQ qs hf m hq hp) (λz hz=>aO (λ_ _ _ e=>by cases e) hz) i hd n λz hz=>k _ _ hz
     ·cases h
    ·split at h
     ·rename_i hd
      injection h with h1 h2 h3;subst h1;subst h3
      cases hg.ok with
      |w qs hq hp k=>exact k.elim
      |p qs hz' hq hp k=>
       obtain⟨rfl,i,n⟩:=hz hz';exact eM (agQ qs hf m hq hp) (λz hz=>aO (λ_ _ _ e=>by cases e) hz) i hd n λz hz=>k _ _ hz
     ·cases h
   ·cases h
  ·cases h
theorem arB[pk:Pk P tt]{r:List Oper}(h:aAG P tt l d o r s K= .mk a b g)(ha:a)(hg:g):Ev P l d (o::r) s K:=by
 unfold aAG at h;split at h
 ·cases h
 ·rename_i w hw
  split at h
  ·split at h
   ·split at h
    ·rename_i hx hy hk _ _ _ _ _ hp hs ht
     injection h with e m i;subst e;subst i
     have⟨j,row,e,m,i,h4⟩:=hg.ok;rw[zba]at ht;exact cR pk hw hx hp hy hk hs ha ht.1 e m i ht.2 h4
    ·cases h
   ·cases h
  ·cases h
theorem aGr[pk:Pk P tt]{j:Jb}(h:nx P tt j= .mk a b g)(ha:a)(hb:b)(hg:g):Jw P j:=by
 cases j with
 |pw c k Q s=>
  simp only[nx]at h;split at h
  ·injection h with _ _ h3;subst h3;exact yJ hg
  ·split at h
   ·rename_i e
    injection h with _ _ h3;subst h3
    exact jE e hg.ok.1 hg.ok.2
   ·cases h
  ·split at h
   ·injection h with _ _ h3;subst h3;exact amF hg
   ·injection h with _ _ h3;subst h3;exact amF hg
  ·split at h
   ·rename_i i
    injection h with h1 _ h3;subst h1;subst h3
    exact sC (l:=Array.toList _) pk.hm ha.h i hg
   ·cases h
  ·split at h
   ·exact go pk h ha hb hg
   ·cases h
 |ev l d r s k Q=>
  simp only[nx]at h;split at h
  ·exact goE pk h ha hb hg
  ·split at h
   ·exact goE pk h ha hb hg
   ·cases h
 |nm k Q s=>exact goN pk h ha hb hg
 |ex id k Q s=>exact goX pk h ha hb hg
end
theorem wZ{tt:TT}{j:Jb}[hj:Jr g' P j][pk:Pk P tt](h:nx P tt j= .mk a b g)(ha:a)(hb:b)(hg:g):g':=
 hj.ok (aGr h ha hb hg)
theorem wY{tt:TT}[pk:Pk P tt]{r:List Oper}(h:axX P tt l d o r s K= .mk a b g)(ha:a)(hg:g):Ev P l d (o::r) s K:=aqL h ha hg
theorem wI{tt:TT}[pk:Pk P tt]{r:List Oper}(h:aAG P tt l d o r s K= .mk a b g)(ha:a)(hg:g):Ev P l d (o::r) s K:=arB h ha hg
section
variable{P:Program}{tt:TT}
def aOF(tt:TT)(xs:List ResultVar)(r:PV)(st:aD):Exit->St->Prop
 | .normal,s| .ret,s=>Cn (.e (aES tt s xs) s.st r st)
 |_,_=>False
def aOD(tt:TT)(xs:List ResultVar)(R:PV->aD->Prop):Exit->St->Prop
 | .normal,s| .ret,s=>Cn (.r (aES tt s xs) s.st R)
 |_,_=>False
theorem aF6[pk:Pk P tt]{f:FuncId}{fn:Func}{a:Code}(hf:P.funcs[f]?=some fn)(hb:fn.body=some a):jB P f=true:=by
 unfold jB;have:=Array.all_eq_true'.1 pk.nm _ (Array.mem_of_getElem? hf)
 grind
theorem pC[pk:Pk P tt]{f:FuncId}{fn:Func}{a:Code}(hf:P.funcs[f]?=some fn)(h:(fn.body,fn.ntmps,fn.results.toList,Nat.ble args.length fn.ntmps)=(some a,n,xs,true))(k:PWp P a (aOD tt xs R) (fT 0 args (St.nil n st))):PC P f args st R:=by
 simp only[Prod.mk.injEq]at h
 have⟨b,g,i,h4⟩:=h
 refine aLf pk.htt hf (aF6 hf b) b g i (g▸h4) (k.mono λe s q=>?_)
 cases e<;>first|exact Cn.ok q|exact q
theorem pF[pk:Pk P tt]{f:FuncId}{fn:Func}{a:Code}(hf:P.funcs[f]?=some fn)(h:(fn.body,fn.ntmps,fn.results.toList,Nat.ble args.length fn.ntmps)=(some a,n,xs,true))(k:∀st,PWp P a (aOF tt xs r st) (fT 0 args (St.nil n st))):PF P f args r:=λst=>by
 simp only[Prod.mk.injEq]at h
 have⟨b,g,i,h4⟩:=h
 refine aLf pk.htt hf (aF6 hf b) b g i (g▸h4) ((k _).mono λe s q=>?_)
 cases e<;>first|exact Cn.ok q|exact q
theorem aC{X:Type}{body:Code}(b:X->St)(m:X->Nat)(n:X)(h0:Cn (.s s (b n)))(round:∀x,PWp P body (aBA (λi=>∃a,Cn (.s i (b a))/\m a<m x) Q) (b x)):PWp P (.loop body) Q s:=
 aGl _ m _ h0.ok λx=>(round x).mono λe s q=>by
  cases e<;>first|exact q|(have⟨a,g,h⟩:=q;exact⟨a,g.ok,h⟩)
end
theorem iX{f:α->List PV}{l:List α}{w:Bool}{n:Int}{j:Nat}{G:List PV->Prop}{a:α}(hj:w=true->n=(j:Int))(h:l[j]?=some a)(hl:(f a).length=sz)(k:G (f a)):Cn (.n w (l.map f) n sz G):=
 .any ⟨j,_,hj,λ_=>by grind,λ_=>hl,k⟩
theorem gE{l:List α}{j:Nat}(h:j<l.length):l[j]?=some l[j]:=by simp
section
variable{P:Program}{w z:Bool}{f:FuncId}{ps cs:List PV}{G:PV->Prop}{st:aD}{H:PV->aD->Prop}{p:PV}{R:PV->aD->Prop}
theorem cW(h:w=true->PF P f (ps++cs) p)(k:G p):Cn (.c P w f ps cs G z st H):= .any (.w _ (WkL.refl _) h k)
theorem cV(h:PF P f (ps.map soft++cs) p)(k:G p):Cn (.c P w f ps cs G z st H):= .any (.w _ (WkL.soft _) (λ_=>h) k)
theorem cP(hz:z=true)(h:PC P f (ps.map soft++cs) st R)(k:∀p st',R p st'->H p st'):Cn (.c P w f ps cs G z st H):= .any (.p _ hz (WkL.soft _) h k)
end
end
end Go.Abs
