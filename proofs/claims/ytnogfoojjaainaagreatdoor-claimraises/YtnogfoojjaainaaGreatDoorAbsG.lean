import Derived.Test.YtnogfoojjaainaaGreatDoorAbsE
set_option linter.unusedSimpArgs false
set_option linter.unusedVariables false
namespace Go.Abs
open Go
section
section
variable{P:Program}{tt:TT}
theorem azR{st:aD}{w:World}{g:G}(hm:MemOK P st w g)(o:Obj)(o':AObj)(ho:∀g' id,Le g g'->g'.heap=(w.alloc o).heap->g'.io id=some (w.heap.size,0,1)->g'.heap[w.heap.size]?=some o->(∀b,b<w.heap.size->g'.heap[b]?=w.heap[b]?)->g'.fr w.heap.size=0->¬g'.fm w.heap.size->ObjOK P g' id o'):
  ∃id g',g.io id=none/\st id=none/\g'.io id=some (w.heap.size,0,1)/\MemOK P (upd st id (some o')) (w.alloc o) g'/\Le g g'/\Frame (Blocks st g) w g (w.alloc o) g'/\∀b',Blocks (upd st id (some o')) g' b'->Blocks st g b'\/w.heap.size<=b':=by
 obtain⟨id,u,C⟩:=jZ hm
 obtain⟨m1,y,i⟩:=kF hm o
 let g':G:={g with heap:=(w.alloc o).heap,io:=upd g.io id (some (w.heap.size,0,1))}
 have m:Le g g':=⟨mY u,y.fr,y.cell,y.fm⟩
 have q:(w.alloc o).heap[w.heap.size]?=some o:=by show(w.heap.push _)[_]?=_;simp
 have n:¬g.fm w.heap.size:=λh=>by
  obtain⟨D,cl,e,_⟩:=hm.fmm _ h
  have:=bN e;omega
 have v:g.fr w.heap.size=0:=by
  rcases Nat.eq_zero_or_pos (g.fr w.heap.size)with h|h
  ·exact h
  ·have:=hm.lt w.heap.size (by omega);omega
 have a:=iF (w':=w.alloc o) (g':=g') (id:=id) (n':=0) (cap':=1) (o':=o') hm u rfl rfl (λ_=> .inr rfl) (λb hb _=>(i.old b hb λh=>h).1) (λ_ _=>rfl) rfl (λ_=>n) i.size (λ_=>bN q) m
  (ho g' id m rfl (aA _ _ _) q (λb hb=>(i.old b hb λh=>h).1) v n)
 have B:upd (upd st id none) id (some o')=upd st id (some o'):=by
  funext j
  by_cases h:j=id
  ·rw[h,aA,aA]
  ·rw[aB h,aB h,aB h]
 rw[B]at a
 refine⟨id,g',u,C,aA _ _ _,a,m,⟨i.os,i.tape,i.output,i.size,λb hb hn=>⟨(i.old b hb λh=>h).1,rfl,Iff.rfl⟩⟩,λb' ⟨j,A,x⟩=>?_⟩
 by_cases h:j=id
 ·subst h
  right;simp[Go.Abs.blk,g',aA]at x;omega
 ·rw[aB h]at A
  refine .inl ⟨j,A,?_⟩;unfold Go.Abs.blk at x⊢;rwa[show g'.io j=g.io j from aB h]at x
theorem aBQ{t:Nat}{ty:TypeId}{pos:String}{after:Array Edge}{s:St}{T kt e:TypeId}{x:Operand}{es:List (Value×PV)}(htt:bJ P tt)(hx:opd s x=some (.fmap es))(hT:tiK tt T=some (.map kt e)):
  OpZ P ⟨some t, .range T x,ty,pos,after,none⟩ s λz=>∃id,s.st id=none/\z=(upd s.st id (some (.iter none es)), .ref id 0):=by
 intro w g ρ hm hρ
 have D:=hρ x (by simp[Op.operands]) _ hx
 simp only[Rep]at D
 obtain⟨h,b,a,B,C,i,h4⟩:=D
 rw[hm.heap]at i
 have hu:=uN (aO htt hT).1
 have o:(execOp ρ (⟨some t, .range T x,ty,pos,after,none⟩:Oper)).run P w= .ok (.value (.pointer (some ⟨w.heap.size,0,none⟩))) (w.alloc (.mapIter (some h) a #[] a)):=by
  simp[execOp,Instr.range,run_underlying hu,B,MapKept.run_getObj_map i]
 rw[o]
 have A:=bN i
 obtain⟨v,u,e0,q⟩:=hm.fmm h C
 rw[i]at e0;injection e0 with e0;injection e0 with e1 e2;subst e1;subst e2
 obtain⟨id,g',O,E,F,J,L,M,N⟩:=azR hm _ (.iter none es) (λg' id m hh y hb n _ _=>by
  simp only[ObjOK]
  refine⟨w.heap.size,0,1,h,b,a, #[],y,by omega,hb,(m.fm h C).1,(n h A).trans i,q,?_,λk p e=>by cases e⟩
  have:(b.toList.filter λe=> !(#[]:Array Nat).contains e.born)=b.toList:=by simp
  rw[this]
  exact RepE.mono m _ _ h4)
 exact⟨g',_,⟨id,E,rfl⟩,by simp only[Rep];exact⟨w.heap.size,0,1,F,rfl⟩,J,L,M,N⟩
theorem RepE.get{g:G}:∀{es:List (Value×PV)}{ms:List MapEntry}{j:Nat}{m:MapEntry},RepE g es ms->ms[j]?=some m->∃k p,es[j]?=some (k,p)/\m.key=k/\Rep g p m.val
  |[],ms,j,m,h,hj=>by subst h;simp at hj
  |(k,p)::es,ms,j,m,h,hj=>by
    obtain⟨m0,b,rfl,e,i,a⟩:=h
    cases j with
    |zero=>grind
    |succ j=>simpa using RepE.get a hj
theorem RepE.len{g:G}:∀{es:List (Value×PV)}{ms:List MapEntry},RepE g es ms->ms.length=es.length
  |[],ms,h=>by simpa
  |(k,p)::es,ms,h=>by
    obtain⟨m0,b,rfl,e,i,a⟩:=h
    simp[RepE.len a]
theorem RepE.erase{g:G}:∀{es:List (Value×PV)}{ms:List MapEntry}(j:Nat),RepE g es ms->RepE g (es.eraseIdx j) (ms.eraseIdx j)
  |[],ms,j,h=>by subst h;simp[RepE]
  |(k,p)::es,ms,j,h=>by
    obtain⟨m0,i,rfl,a,b,e⟩:=h
    cases j with
    |zero=>grind
    |succ j=>exact⟨m0,_,rfl,a,b,RepE.erase j e⟩
theorem pV{α:Type}(f:α->Nat):∀{l:List α}{j:Nat}{x:α},(l.map f).Nodup->l[j]?=some x->l.filter (λy=>decide (f y≠f x))=l.eraseIdx j
 |[],j,x,_,h=>rfl
 |y::l,0,x,hn,h=>by simp_all
 |y::l,j+1,x,hn,h=>by
  simp at hn
  rw[List.filter_cons_of_pos (by grind),List.eraseIdx_cons_succ,pV f hn.2 h]
theorem xQ{α:Type}(f:α->Nat)(p:α->Bool){l:List α}(h:(l.map f).Nodup):((l.filter p).map f).Nodup:=
 h.sublist (List.filter_sublist.map f)
theorem agT(n:Nat)(h:0<n)(w:World):∃j a,(choose (.mapNext n)).run P w= .ok j a/\j<n/\(a=w\/a={w with drawn:=w.drawn+1}):=by
 rw[run_choose_drew];by_cases hf:Question.forced (.mapNext n)=true
 ·rw[zp hf];grind
 ·rw[zn hf];exact⟨_,_,rfl,Nat.mod_lt _ h, .inr rfl⟩
theorem aCL{t:Nat}{ty:TypeId}{pos:String}{after:Array Edge}{s:St}{x:Operand}{id:Nat}{cur:Option (Value×PV)}{left:List (Value×PV)}(hx:opd s x=some (.ref id 0))(W:s.st id=some (.iter cur left)):
    OpZ P ⟨some t, .next x false,ty,pos,after,none⟩ s λz=>(left=[]/\z=(s.st, .tup [.val (.bool false)]))\/∃i e,left[i]?=some e/\z=(upd s.st id (some (.iter (some e) (left.eraseIdx i))), .tup [.val (.bool true), .und, .und]):=by
  intro w g ρ hm hρ
  have rx:=hρ x (by simp[Op.operands]) _ hx
  simp only[Rep]at rx
  obtain⟨b,n,cap,N,hxv⟩:=rx
  have hob:=hm.obj id _ W
  have hblt:∀{b'},Go.Abs.blk g id=some b'->b'<w.heap.size:=λh=>aCE hm (by rw[W];simp) h
  simp only[ObjOK]at hob
  obtain⟨b',n',cap',D,q,a,u,X,h2,Y,h4,h5,Z,h7,h8⟩:=hob
  rw[N]at X;injection X with X;injection X with X h1';injection h1' with h1' h1'';subst X;subst h1''
  rw[hm.heap]at Y h5
  have hblk:Go.Abs.blk g id=some b:=by simp[Go.Abs.blk,N,h2]
  have hg3:(getObj b).run P w= .ok (.mapIter (some D) a u a) w:=by simp[getObj,Sem.run,Y]
  have hg5:(getObj D).run P w= .ok (.map q a) w:=MapKept.run_getObj_map h5
  have hc0:(!u.isEmpty&& !q.isEmpty&&q.all λe=>decide (e.born>=a))=false:=by
    cases hb:q.isEmpty with
    |true=>rw[show q= #[]from by simpa using hb];cases u.isEmpty<;>rfl
    |false=>
      have:q.all (λe=>decide (e.born>=a))=false:=by
        rw[<-Bool.not_eq_true,Array.all_eq_true'];intro hall;have U:q.toList≠[]:=λh=>by
          have:q= #[]:=by apply Array.toList_inj.1;rw[h]
          rw[this]at hb;simp at hb
        obtain⟨e,M⟩:=List.exists_mem_of_ne_nil _ U;have:=hall e (by simpa using M);have h':=Z.1 e M;simp at this;omega
      rw[this];simp
  let L:=q.filter λe=> !u.contains e.born
  have hold:L.filter (λe=>decide (e.born<a))=L:=by
    apply Array.toList_inj.1;rw[Array.toList_filter];exact List.filter_eq_self.2 λe M=>by
      have:e∈q.toList:=by
        have:e∈L:=by simpa using M
        have:=(Array.mem_filter.1 this).1
        simpa using this
      simpa using Z.1 e this
  have hnew:L.filter (λe=>decide (e.born>=a))= #[]:=by
    apply Array.toList_inj.1;rw[Array.toList_filter];refine List.filter_eq_nil_iff.2 λe M=>?_;have:e∈q.toList:=by
      have:e∈L:=by simpa using M
      have:=(Array.mem_filter.1 this).1
      simpa using this
    have:=Z.1 e this;simp;omega
  let y:Array (Option MapEntry):=(if L.isEmpty then #[none]else #[])++L.map some
  have hpos:0<y.size:=by
    show 0<((if L.isEmpty then #[none]else #[])++L.map some).size;cases hb:L.isEmpty with
    |true=>simp;omega
    |false=>simp;exact Array.size_pos_iff.2 (by simpa using hb)
  obtain⟨j,C,c1,c2,c3⟩:=agT (P:=P) y.size hpos w
  have hm1:MemOK P s.st C g/\Frame (Blocks s.st g) w g C g/\C.heap=w.heap:=by
    rcases c3 with rfl|rfl
    · exact⟨hm,Frame.refl _ _ _,rfl⟩
    · exact⟨(nT hm _ (Nat.le_succ _)).1,(nT hm _ (Nat.le_succ _)).2.mono λ_ h=>h.elim,rfl⟩
  obtain⟨m1,m2,m3⟩:=hm1
  have hrun:(execOp ρ (⟨some t, .next x false,ty,pos,after,none⟩:Oper)).run P w=((match y[j]? with
      |some (some e)=>do
        setObj b (.mapIter (some D) a (u.push e.born) a)
        pure (.tuple #[.bool true,e.key,e.val])
      |some none=>pure (.tuple #[.bool false])
      | none =>stuck "Next: no such candidate" : Sem Value) >>=λv =>pure (.value v) : Sem Next).run P C :=by
    simp only[execOp,Instr.next,hxv,Sem.run_bind,hg3,hg5,Result.andThen_ok,hc0,Bool.false_eq_true,if_false,Sem.run_pure]
    have e1:((if(L.filter λe=>decide (e.born<a)).isEmpty=true then #[none]else #[])++Array.map some ((L.filter λe=>decide (e.born<a))++L.filter λe=>decide (e.born>=a)))=y:=by
      rw[hold,hnew,Array.append_empty]
    simp only[L]at e1
    rw[e1,c1]
    simp only[Result.andThen_ok]
    cases hj:y[j]? with
    |none=>rfl
    |some o=>cases o<;>rfl
  rw[hrun]
  have E:L.toList=q.toList.filter λe=> !u.contains e.born:=by rw[Array.toList_filter]
  rw[<-E]at h7
  by_cases hL:L= #[]
  · have S:left=[]:=by
      have:=RepE.len h7;rw[hL]at this;exact List.length_eq_zero_iff.1 (by simpa using this.symm)
    have hc:y= #[none]:=by
      show((if L.isEmpty then #[none]else #[])++L.map some)=_;rw[hL];simp
    rw[hc]at c2;have hj0:j=0:=by simpa using c2
    have J:y[j]?=some none:=by rw[hc,hj0];rfl
    rw[J];simp only[Sem.run_bind,Sem.run_pure,Result.andThen_ok,OpRes];exact⟨g,_, .inl ⟨S,rfl⟩,by simp only[Rep];exact⟨[.bool false],rfl,by simp only[RepL];exact⟨_,_,rfl,by simp[Rep],rfl⟩⟩,m1,Le.refl g,m2,λb hb=> .inl hb⟩
  · have hc:y=L.map some:=by
      show((if L.isEmpty then #[none]else #[])++L.map some)=_;rw[zn (by simpa using hL)];simp
    have O:j<L.size:=by rw[hc]at c2;simpa using c2
    have hLj:L[j]?=some L[j]:=by simp[O]
    have J:y[j]?=some (some L[j]):=by rw[hc];simp[O]
    obtain⟨k,p,e1,e2,e3⟩:=RepE.get h7 (j:=j) (m:=L[j]) (by rw[Array.getElem?_toList];exact hLj);rw[J];have A:C.heap[b]?=some (.mapIter (some D) a u a):=by rw[m3];exact Y
    have hso:(setObj b (.mapIter (some D) a (u.push L[j].born) a)).run P C= .ok () {C with heap:=C.heap.setIfInBounds b (.mapIter (some D) a (u.push L[j].born) a)}:=by
      simp[setObj,Sem.run,A]
    simp only[Sem.run_bind,hso,Sem.run_pure,Result.andThen_ok,OpRes];have U:D≠b:=λe=>by rw[e,Y]at h5;cases h5
    have hlt:=bN A;have T:L[j]∈q.toList:=by
      have:L[j]∈L:=Array.getElem_mem O;have:=(Array.mem_filter.1 this).1
      simpa using this
    have B:(q.toList.filter λe=> !(u.push L[j].born).contains e.born)=L.toList.eraseIdx j:=by
      rw[<-pV (·.born) (x:=L[j]) (by rw[E];exact xQ _ _ Z.2) (j:=j) (by rw[Array.getElem?_toList];exact hLj),E,List.filter_filter];refine List.filter_congr λe M=>?_;simp only[Array.contains_push];cases u.contains e.born<;>simp[Bool.and_comm,eq_comm]<;>(try(by_cases hx:e.born=L[j].born<;>simp[hx]))
    obtain⟨q1,q2,q3,q4⟩:=gZ (o':= .iter (some (k,p)) (left.eraseIdx j)) (w':={C with heap:=C.heap.setIfInBounds b (.mapIter (some D) a (u.push L[j].born) a)}) m1 (by rw[W];simp) hblk A rfl
      (λi hi=>by simp only[aZ,A];simp[hlt]) (λh=>by obtain⟨a1,a2,a3,_⟩:=hm.fmm b h;rw[Y]at a3;cases a3) (λhle=>by
        simp only[ObjOK]
        refine⟨b,n,cap,D,q,a,u.push L[j].born,N,h2,by simp[hlt],h4,?_,Z,?_,λk' p' e=>?_⟩
        · show(C.heap.setIfInBounds b _)[D]?=_
          rw[Array.getElem?_setIfInBounds_ne (Ne.symm U),m3];exact h5
        · rw[B];exact RepE.mono hle _ _ (RepE.erase j h7)
        · injection e with e;injection e with e4 e5;subst e4;subst e5
          exact⟨L[j],T,e2,Rep.mono hle _ _ e3,by simp⟩)
    refine⟨_,_, .inr ⟨j,(k,p),e1,rfl⟩,?_,q1,q2,m2.trans q3 λb' _ F=>F,λb' F=>by
      rcases q4 b' F with h|h
      · exact .inl h
      · right;rw[m3]at h;exact h⟩
    simp only[Rep];exact⟨[.bool true,L[j].key,L[j].val],rfl,by simp only[RepL];exact⟨_,_,rfl,by simp[Rep],_,_,rfl,trivial,_,_,rfl,trivial,rfl⟩⟩
theorem aAo{o:Oper}{s:St}{x:Operand}{id:Nat}{k:Value}{q p:PV}{left:List (Value×PV)}(ho:o.op= .entry x)(hx:opd s x=some (.ref id 0))(B:s.st id=some (.iter (some (k,p)) left))(hq:∀g,Rep g q k):OpV P o s (.tup [q,p]):=by
 refine aJ λw g ρ hm hρ=>?_;have E:=hρ x (by rw[ho];simp[Op.operands]) _ hx;simp only[Rep]at E;obtain⟨b,n,cap,A,C⟩:=E;have u:=hm.obj id _ B;simp only[ObjOK]at u;obtain⟨b',n',cap',N,m,v,F,i,T,D,h4,h5,M,U,h8⟩:=u;rw[A]at i;injection i with i;injection i with i h1';subst i
 rw[hm.heap]at D h5;obtain⟨e,J,O,S,L⟩:=h8 k p rfl;have a:m.find? (λx=>x.born==e.born)=some e:=by
  rw[<-Array.find?_toList];have:∀{l:List MapEntry},(l.map (·.born)).Nodup->e∈l->l.find? (λx=>x.born==e.born)=some e:=by
   intro l
   induction l with
   |nil=>intro _ h;cases h
   |cons y l ih=>
    grind
  exact this M.2 J
 refine⟨.tuple #[e.key,e.val],?_,by simp only[Rep];exact⟨[e.key,e.val],rfl,by simp only[RepL];grind⟩⟩;simp[execOp,ho,Instr.entry,C,getObj,Sem.run,D,h5,L,a]
end
end
section
section
variable{P:Program}{tt:TT}
def PY(P:Program)(idl:Nat)(args:List PV)(st:aD)(R:PV->aD->Prop):Prop:=
 ∀w g b vs,MemOK P st w g->(∃n cap,g.io idl=some (b,n,cap))->RepL g args vs->
  OpRes P (λv w'=>∃r st' g',R r st'/\Rep g' r v/\MemOK P st' w' g'/\Le g g'/\Frame (Blocks st g) w g w' g'/\∀b,Blocks st' g' b->Blocks st g b\/w.heap.size<=b) ((Instr.yield b vs.toArray).run P w)
theorem PY.mono{idl:Nat}{args:List PV}{st:aD}{R R':PV->aD->Prop}(h:PY P idl args st R)(i:∀r S,R r S->R' r S):PY P idl args st R':=λw g b vs hm hb hv=>
 (h w g b _ hm hb hv).mono λ_ _ ⟨r,st',g',a,e⟩=>⟨r,st',g',i _ _ a,e⟩
theorem aB1{w:World}{ρ:Operand->Value}{o:Oper}{f:Operand}{args:Array Operand}{a:Array TypeId}{b:Nat}(ho:o.op= .call ⟨.value f,args,a⟩)(hf:ρ f= .func (.yield b) #[] #[]):
  (execOp ρ o).run P w=(Instr.yield b (args.map ρ)).run P w:=by
 simp[execOp,ho,resolve,hf,Deferred.ofValue,invoke]
theorem aBB{dst:Option Nat}{ty:TypeId}{pos:String}{after:Array Edge}{s:St}{f:Operand}{args:Array Operand}{q:Array TypeId}{idl:Nat}{ps:List PV}(qs:List PV){R:PV->aD->Prop}(hf:opd s f=some (.yld idl))(a:mZ s args.toList=some ps)(hw:WkL ps qs)(h:PY P idl qs s.st R):
  OpZ P ⟨dst, .call ⟨.value f,args,q⟩,ty,pos,after,none⟩ s λx=>R x.2 x.1:=by
 intro w g ρ hm hρ
 have o:=hρ f (by simp[Op.operands,Call.operands]) _ hf
 have m:=kI a (g:=g) λx hx=>hρ x (by simp[Op.operands,Call.operands];grind)
 obtain⟨b,n,cap,e,i⟩:=o
 rw[aB1 rfl i,show args.map ρ=(args.toList.map ρ).toArray from by grind]
 refine(h w g b _ hm ⟨n,cap,e⟩ (hw.rep m)).mono ?_
 rintro v w' ⟨r,st',g',hR,h3,h4,h5,h6,h7⟩
 exact⟨g',(st',r),hR,h3,h4,h5,h6,h7⟩
def St.nilR(i n:Nat)(st:aD):St:=⟨λ_=>(true, .pv .und),λ_=>none,λ_=>false,st,n,some i⟩
def aFB :List (Nat×PV)->(Nat->PV)->Nat->PV
 |[],f=>f
 |x::l,f=>aFB l (upd f x.1 x.2)
def agO(l:List (Nat×PV)):Nat->PV:=aFB l λ_=> .und
def kG :List (Nat×PV)->St->St
 |[],s=>s
 |x::l,s=>kG l (s.pv x.1 x.2)
def aDz(i n:Nat)(st:aD)(l:List (Nat×PV))(t0:Nat)(p:PV):St:=(kG l (St.nilR i n st)).pv t0 p
def aEg(s:St):List (Nat×PV)->Prop
 |[]=>True
 |x::l=>s.env x.1=(true, .pv x.2)/\aEg s l
theorem zL :∀(l:List (Nat×PV))(s:St)(f:Nat->PV),(∀t,s.env t=(true, .pv (f t)))->∀t,(kG l s).env t=(true, .pv (aFB l f t))
 |[],_,_,h,t=>h t
 |x::l,s,f,h,t=>zL l _ _ (λu=>by
   show upd _ _ _ u=_
   by_cases hu:u=x.1
   ·subst hu;rw[aA,aA]
   ·rw[aB hu,aB hu];exact h u) t
theorem aeQ :∀(l:List (Nat×PV))(s:St),(kG l s).L=s.L/\(kG l s).ad=s.ad/\(kG l s).st=s.st/\(kG l s).n=s.n/\(kG l s).top=s.top
 |[],_=>⟨rfl,rfl,rfl,rfl,rfl⟩
 |x::l,s=>aeQ l _
theorem azZ{s:St}{g:G}{tmps:Array Value}:∀(l:List (Nat×PV))(f:Nat->PV),(∀t,Rep g (f t) (tmps.getD t undef))->(∀x∈l,Rep g x.2 (tmps.getD x.1 undef))->∀t,Rep g (aFB l f t) (tmps.getD t undef)
 |[],_,h,_,t=>h t
 |x::l,f,h,hl,t=>azZ (s:=s) l _ (λu=>by
   by_cases hu:u=x.1
   ·subst hu;rw[aA];grind
   ·rw[aB hu];exact h u) (λy hy=>hl y (List.mem_cons_of_mem _ hy)) t
theorem ahA{s:St}:∀{l:List (Nat×PV)},aEg s l->∀x∈l,s.env x.1=(true, .pv x.2)
 |_::_,h,x,hx=>by
  rcases zmc.1 hx with rfl|hx
  ·exact h.1
  ·exact ahA h.2 x hx
theorem SI.act{c:Ctx}{s:St}{a b:Act}{w:World}{g:G}{lam:Nat->Nat}(hs:SI P c s a w g lam)(ht:b.tmps=a.tmps)(hd:DfOK c b g):SI P c s b w g lam:=
 ⟨hs.mem,hs.le,hs.frame,hs.blk,λt=>by rw[ht];exact hs.env t,hs.box,hs.inj,hs.ad,hs.adL,hd,by rw[ht];exact hs.n,hs.top⟩
theorem vU{st:aD}{w:World}{g:G}(hm:MemOK P st w g){idl b n m cap:Nat}{env:Nat->PV}{ps:Array Nat}{assign body:Code}{q q':LoopState}(A:st idl=some (.loop q n env ps assign body))(a:g.io idl=some (b,m,cap)):
  ∃r:Loop,w.heap[b]?=some (.loop r)/\r.state=q/\r.pending=none/\r.params=ps/\r.assign=assign/\r.body=body/\r.tmps.size=n/\(∀t,Rep g (env t) (r.tmps.getD t undef))/\(let w':=w.putObj b (.loop {r with state:=q'})
  MemOK P (upd st idl (some (.loop q' n env ps assign body))) w' {g with heap:=w'.heap}/\Le g {g with heap:=w'.heap}/\Frame (Blocks st g) w g w' {g with heap:=w'.heap}/\(∀b',Blocks (upd st idl (some (.loop q' n env ps assign body))) {g with heap:=w'.heap} b'->Blocks st g b'\/w.heap.size<=b')):=by
 have y:=hm.obj idl _ A
 obtain⟨b',F,cap',fn,tmps,v,e,B,o,h4,h5⟩:=y
 rw[a]at e;injection e with e;injection e with e h1';injection h1' with h1' h1'';subst e;subst h1''
 rw[hm.heap]at o
 refine⟨_,o,rfl,rfl,rfl,rfl,rfl,h4,h5,?_⟩
 have u:=bN o
 exact gZ hm (by grind) (by simp[Go.Abs.blk,a,B]) o rfl (λi hi=>by simp only[World.putObj,aZ,o];simp[u]) (λh=>by obtain⟨C,D,E,_⟩:=hm.fmm b h;grind) λx=>by
  exact⟨b,m,cap,fn,tmps,v,a,B,by simp[World.putObj,u],h4,λt=>Rep.mono x _ _ (h5 t)⟩
theorem aKM{idl n t0:Nat}{l:List (Nat×PV)}{assign body:Code}{st:aD}{p:PV}{R:aD->Prop}(F:st idl=some (.loop .ready n (agO l) #[t0] assign body))(A:t0<n)
  (h:PWp P assign (λe C=>e= .normal/\C.st idl=some (.loop .ready n (agO l) #[t0] assign body)/\PWp P body (λe B=>e= .normal/\∃st2,StSub st2 B.st/\st2 idl=some (.loop .busy n (agO l) #[t0] assign body)/\R (upd st2 idl (some (.loop .ready n (agO l) #[t0] assign body)))) (C.sst (upd C.st idl (some (.loop .busy n (agO l) #[t0] assign body))))) (aDz idl n st l t0 p)):
  PY P idl [p] st λr S=>r= .val (.bool true)/\R S:=by
 rintro w g b vs hm ⟨m,cap,hio⟩ hr
 simp only[RepL]at hr
 obtain⟨v,vs',rfl,hv,rfl⟩:=hr
 obtain⟨r,k1,k2,k3,W,k5,k6,X,k8,_⟩:=vU (q':= .busy) hm F hio
 rw[run_yield k1 (by rw[W];rfl)]
 simp only[OpRes]
 rw[W,k5,k6]
 have J:(#[t0].zip [v].toArray).foldl (λtmps (x:Nat×Value)=>tmps.setIfInBounds x.1 x.2) r.tmps=r.tmps.setIfInBounds t0 v:=by simp
 rw[J]
 obtain⟨M,i2,U,Z,i5⟩:=aeQ l (St.nilR idl n st)
 have E:SI P ⟨w,g,Blocks st g,some b⟩ (aDz idl n st l t0 p) {tmps:=r.tmps.setIfInBounds t0 v,defers:=[]} w g (λ_=>0):={
  mem:=by show MemOK P (kG l (St.nilR idl n st)).st w g;rw[U];exact hm
  le:=Le.refl g
  frame:=Frame.refl _ w g
  blk:=λb' hb=>by
   have hb:Blocks (kG l (St.nilR idl n st)).st g b':=hb
   rw[U]at hb;exact .inl hb
  env:=λt=>by
   show EntOK g _ (upd (kG l (St.nilR idl n st)).env t0 (true, .pv p) t) _
   by_cases ht:t=t0
   ·subst ht
    rw[aA];simp only[EntOK];rw[<-X]at A
    simpa[Array.getElem?_setIfInBounds,A]using hv
   ·rw[aB ht,zL l (St.nilR idl n st) (λ_=> .und) (λ_=>rfl) t]
    have:=k8 t;unfold agO at this;simp only[EntOK]
    simpa[Array.getElem?_setIfInBounds_ne (Ne.symm ht)]using this
  box:=λt T cs e=>by
   have e:(kG l (St.nilR idl n st)).L t=some (T,cs):=e
   rw[M]at e;cases e
  inj:=λt t' e=>by
   have e:(kG l (St.nilR idl n st)).L t≠none:=e
   rw[M]at e;exact absurd rfl e
  ad:=λt b' u off e=>by
   have e:upd (kG l (St.nilR idl n st)).env t0 (true, .pv p) t=(b', .adr u off):=e
   by_cases ht:t=t0
   ·rw[ht,aA]at e;cases e
   ·rw[aB ht,zL l (St.nilR idl n st) (λ_=> .und) (λ_=>rfl) t]at e;cases e
  adL:=λt e=>by
   have e:(kG l (St.nilR idl n st)).L t≠none:=e
   rw[M]at e;exact absurd rfl e
  defers:=⟨[],rfl,List.nodup_nil,λ_ h=>by cases h⟩
  n:=by show(r.tmps.setIfInBounds t0 v).size=(kG l (St.nilR idl n st)).n;rw[Z];simp[St.nilR,X]
  top:=by
   show aIf (kG l (St.nilR idl n st)).top _;rw[i5];exact⟨b,m,cap,rfl,hio⟩}
 refine roundIn_of_wpIn trivial (wpIn_mono (h _ _ _ _ _ E) ?_)
 rintro e a₁ w₁ ⟨C,g',lam',⟨rfl,hl,hbody⟩,hs'⟩
 have y:g'.io idl=some (b,m,cap):=hs'.le.io _ _ hio
 obtain⟨r1,j1,j2,j3,j4,j5,j6,j7,j8,q1,q2,q3,q4⟩:=vU (q':= .busy) hs'.mem hl y
 refine⟨_,run_beginRound j1 j2,wpIn_mono (hbody _ _ _ _ _ (hs'.step q1 q2 q3 q4)) ?_⟩
 rintro e a₂ w₂ ⟨B,g'',lam'',⟨rfl,st2,hsub,hl2,hR⟩,hs''⟩
 have i:g''.io idl=some (b,m,cap):=hs''.le.io _ _ hio
 obtain⟨N,x1,x2,Y,x4,x5,x6,x7,x8,y1,y2,y3,y4⟩:=vU (q':= .ready) (hs''.mem.sub hsub) hl2 i
 have q:=run_endRound (P:=P) none x1
 have a:({N with state:=if(none:Option Code).isNone=true then LoopState.ready else LoopState.done,pending:=none}:Loop)={N with state:= .ready}:=by
  cases N
  simp only at Y;subst Y;rfl
 refine⟨_,_,q,_,rfl, .val (.bool true),_,_,⟨rfl,hR⟩,by simp[Rep],?_,hs''.le.trans y2,?_,λb' o=>?_⟩
 ·rw[a];exact y1
 ·refine hs''.frame.trans (B':=Blocks st2 g'') ?_ λb' o D=>(hs''.blk b' (D.sub hsub)).resolve_right (by omega)
  rw[a];exact y3
 ·rcases y4 b' o with O|O
  ·exact hs''.blk b' (O.sub hsub)
  ·right;have:w.heap.size<=w₂.heap.size:=hs''.frame.size
   omega
theorem avD{x t0:Nat}{assign body:Code}{s:St}{Q:Exit->St->Prop}(l:List (Nat×PV)){m:FuncId}{caps:List PV}(hx:s.env x=(true, .pv (.fn m caps)))(M:s.top=none)(E:aEg s l)(R:Nat->aD->Prop)
    (h:∀idl,s.st idl=none->PC P m (.yld idl::caps) (upd s.st idl (some (.loop .ready s.n (agO l) #[t0] assign body))) λ_ S=>S idl=some (.loop .ready s.n (agO l) #[t0] assign body)/\R idl S)
    (k:∀idl S,s.st idl=none->R idl S->Q .normal (s.sst (upd S idl none))):PWp P (.rangeFunc (.tmp x) #[t0] assign body) Q s:=by
  intro c a w g lam hs
  have hro:(FR c.ro).round=none:=by have:=hs.top;rw[M]at this;exact this
  have o:=hs.env x
  rw[hx]at o
  simp only[EntOK,Rep]at o
  obtain⟨i,o,W⟩:=o
  refine wpIn_rangeFunc λfn _=>?_
  rw[hro]
  obtain⟨m1,m2,m3⟩:=kF hs.mem (.deferred (some []))
  have L:=hs.world m1 m2 (m3.mono λ_ h=>h.elim)
  obtain⟨Ds,d1,d2,d3⟩:=L.defers
  have u:(w.alloc (.deferred (some []))).heap[w.heap.size]?=some (.deferred (some [])):=World.alloc_heap_new _ _
  have B:SI P c s {a with defers:=tY w.heap.size::a.defers} (w.alloc (.deferred (some []))) {g with heap:=(w.alloc (.deferred (some []))).heap} lam:=L.act rfl ⟨w.heap.size::Ds,by rw[zmp];exact congrArg _ d1,List.nodup_cons.2 ⟨λhm=>by
    obtain⟨O,e1,e2,e3⟩:=hs.defers
    have:Ds=O:=List.map_inj_right (λa b h=>by simp only[tY,Deferred.mk.injEq,Target.collected.injEq]at h;exact h.1)|>.1 (d1.symm.trans e1)
    subst this
    have:=bN (e3 _ hm).1
    rw[hs.mem.heap]at this;omega,d2⟩,λD U=>by
      rcases zmc.1 U with rfl|U
      · exact⟨u,hs.frame.size⟩
      · exact d3 D U⟩
  obtain⟨idl,g2,f1,f2,T,q1,q2,q3,q4⟩:=azR B.mem (.loop {state:= .ready,pending:=none,fn,tmps:=a.tmps,params:= #[t0],assign,body,defers:=w.heap.size}) (.loop .ready s.n (agO l) #[t0] assign body) λg' id Z hh Y hb hold hfr hfm=>by
    simp only[ObjOK]
    refine⟨_,0,1,fn,a.tmps,w.heap.size,Y,by omega,hb,hs.n,λt=>azZ (s:=s) l (λ_=> .und) (λ_=>trivial) (λy hy=>?_) t⟩
    have:=B.env y.1
    rw[ahA E y hy]at this
    exact Rep.mono Z _ _ this
  have hs3:=B.step q1 q2 q3 q4
  have hw1:(w.alloc (.deferred (some []))).heap.size=w.heap.size+1:=World.size_alloc _ _
  rw[hw1]at T
  obtain⟨hc,A⟩:=h idl f2
  have J:Le g g2:=m2.trans q2
  let N:World:=(w.alloc (.deferred (some []))).alloc (.loop {state:= .ready,pending:=none,fn,tmps:=a.tmps,params:= #[t0],assign,body,defers:=w.heap.size})
  refine⟨w.heap.size+1,[tY w.heap.size],N,{target:= .fn (.func m) i.toArray,args:= #[.func (.yield (w.heap.size+1)) #[] #[]]},N,m, #[.func (.yield (w.heap.size+1)) #[] #[]]++i.toArray,N,run_enterLoop_outer _ _ _ _ _,?_,λ_ _=>trivial,?_,λh=>by simp[FR,Fence.wide]at h,adO ?_⟩
  · have:a.eval (.tmp x)= .func (.func m) #[] i.toArray:=o
    simp only[resolve,rangeCall,this,Deferred.ofValue,Sem.run_pure];simp[Act.eval]
  · unfold iG at hc
    split at hc
    · rename_i q X
      rw[zba]at hc;have h1 :(q.name == "runtime.NumGoroutine") = false :=by simpa using hc.1
      have h2:q.body.isNone=false:=by cases hb:q.body<;>simp_all
      simp only[invoke,callFunc,Sem.run_bind,run_program,X,Result.andThen_ok,h1,h2,Bool.false_eq_true,if_false,Sem.run_pure]
    · cases hc
  · have:=A N g2 (.func (.yield (w.heap.size+1)) #[] #[]::i) q1 (by simp only[RepL];exact⟨_,i,rfl,by simp only[Rep];exact⟨_,_,_,T,rfl⟩,RepL.mono J _ _ W⟩)
    rw[show(#[.func (.yield (w.heap.size+1)) #[] #[]]++i.toArray:Array Value)=(.func (.yield (w.heap.size+1)) #[] #[]::i).toArray from by apply Array.toList_inj.1;simp];refine this.mono ?_;rintro e w₃ ⟨v,r,S,g₃,rfl,⟨hl,hR⟩,h3,h4,h5,h6,h7⟩;have hs4:=hs3.step h4 h5 h6 h7;have F:g₃.io idl=some (w.heap.size+1,0,1):=h5.io _ _ T;obtain⟨r4,x1,x2,x3,x4,x5,x6,x7,x8,y1,y2,y3,y4⟩:=vU (q':= .exhausted) h4 hl F;refine⟨r4.pending,_,run_endLoop (P:=P) x1 (by rw[x2];simp),?_⟩;have C:=hs4.step (st':=upd S idl (some (.loop .exhausted s.n (agO l) #[t0] assign body))) y1 y2 y3 y4;split
    case h_2 hh=>rw[x3]at hh;cases hh
    refine⟨s.sst (upd S idl none),_,lam,k idl S f2 hR,C.sub (s2:=s.sst (upd S idl none)) ⟨λ_=> .inr rfl,λ_ _ e=>e,λj=>by
      show upd S idl none j=none\/upd S idl none j=upd S idl _ j
      by_cases hj:j=idl
      · left;rw[hj,aA]
      · right;rw[aB hj,aB hj],rfl,rfl,C.ad,C.adL⟩⟩
end
end
section
section
variable{P:Program}{tt:TT}
variable{K V:Type}[DecidableEq K]{kt:TypeId}{enc:K->Value}{rep:K->PV}{f:V->PV}
end
section
variable{P:Program}{tt:TT}{l:List Oper}{d:Md}{r:List Oper}{s:St}{K:St->Prop}{t:Nat}{ty:TypeId}{pos:String}{after:Array Edge}
theorem SI.wkSlot{c:Ctx}{a:Act}{w:World}{g:G}{lam:Nat->Nat}(hs:SI P c s a w g lam)(u:Nat){p q:PV}(hx:s.env u=(true, .pv p))(hq:Wk p q):SI P c (s.pv u q) a w g lam:=
 ⟨hs.mem,hs.le,hs.frame,hs.blk,λt=>by
  show EntOK g _ (upd _ u _ t) _
  by_cases ht:t=u
  ·subst ht
   rw[aA];have:=hs.env t;rw[hx]at this;exact hq g _ this
  ·rw[aB ht];exact hs.env t,hs.box,hs.inj,λt b v off e=>by
  have h:upd s.env u _ t=(b, .adr v _):=e
  by_cases ht:t=u
  ·rw[ht,aA]at h;cases h
  ·rw[aB ht]at h;exact hs.ad t b v _ h,hs.adL,hs.defers,hs.n,hs.top⟩
theorem aH1{o:Oper}(u:Nat){p q:PV}(hx:s.env u=(true, .pv p))(hq:Wk p q)(k:Ev P l .seq (o::r) (s.pv u q) K):Ev P l .seq (o::r) s K:=λc a w g lam hs=>k c a w g _ (hs.wkSlot u hx hq)
end
end
section
section
variable{P:Program}{tt:TT}
theorem SI.freezeVec{c:Ctx}{s:St}{a:Act}{w:World}{g:G}{lam:Nat->Nat}(hs:SI P c s a w g lam)(u:Nat){id sz n:Nat}{T:TypeId}{rows:List (List PV)}(hx:s.env u=(true, .pv (.vec id sz 0 n)))(i:s.st id=some (.arr T rows))(hT:P.cellsOf T=sz)(hn:rows.length=n):
  ∃g',SI P c ((s.sst (upd s.st id none)).pv u (.seq rows)) a w g' lam:=by
 subst hn
 have b:∀t,((s.sst (upd s.st id none)).pv u (.seq rows)).env t=upd s.env u _ t:=λ_=>rfl
 refine hs.subF i hT ⟨λt=>?_,λt T ds e=>⟨ds,e,FzL.refl _⟩,zsr _,rfl,rfl,λt w' v off e=>?_,hs.adL⟩
 ·rw[b]
  by_cases h:t=u
  ·subst h;rw[aA];exact .inr (.inr ⟨_,_,hx,rfl, .all⟩)
  ·rw[aB h];simp
 ·rw[b]at e
  by_cases h:t=u
  ·subst h;rw[aA]at e;cases e
  ·rw[aB h]at e;exact hs.ad t _ v _ e
theorem aaT{e:Code}{Q:Exit->St->Prop}{s:St}(u:Nat){id sz n:Nat}{T:TypeId}{rows:List (List PV)}(hx:s.env u=(true, .pv (.vec id sz 0 n)))(b:s.st id=some (.arr T rows))(hT:P.cellsOf T=sz)(hn:rows.length=n)(k:PWp P e Q ((s.sst (upd s.st id none)).pv u (.seq rows))):PWp P e Q s:=by
 intro c a w g lam hs;obtain⟨g',h⟩:=hs.freezeVec u hx b hT hn;exact k c a w _ _ h
end
end
section
section
variable{P:Program}{tt:TT}{l:List Oper}
def lexO(l:List Oper)(a:Md):List Nat->Array Bool->Bool
 |[],listed=>(Region.ready .any l.toArray listed).isEmpty
 |k::ord,listed=>(Region.ready .any l.toArray listed).contains k&&(bif iP k a.z then(Region.ready .any l.toArray listed).all (λj=>Nat.beq j k)else anA l a listed k)&&lexO l a ord (listed.setIfInBounds k true)
def rY(l:List Oper):List Nat->Option (List Oper)
 |[]=>some []
 |k::ord=>match l[k]?,rY l ord with
  |some o,some r=>some (o::r)
  |_,_=>none
def axO(b a:Md):Nat->List Nat->Bool
 |_,[]=>true
 |p,k::ord=>iP p a.z==iP k b.z&&iP p a.r==iP k b.r&&axO b a (p+1) ord
theorem AAny.only{b:Md}{K:St->Prop}{i:Nat}{e:Oper}{R:aD×PV->Prop}(hi:l[i]?=some e)(hz:iP i b.z=true)(fuel:Nat)(a:Array Bool)(s:St)
  (g:(Region.ready .any l.toArray a).all (λj=>Nat.beq j i)=true) (m:i∈Region.ready .any l.toArray a) (hy:ZOp P l e s R) (H:∀x,R x->AAny P l b K fuel (a.setIfInBounds i true) (s.turn e x)):AAny P l b K (fuel+1) a s:=by
 refine⟨λh=>(by grind),λj hj=>?_⟩
 obtain rfl:j=i:=by simp_all
 unfold AOp;grind
theorem AAny.lexO{i g:Md}{K:St->Prop}:∀(b:List Nat)(r:List Oper)(p:Nat)(a:Array Bool)(s:St),rY l b=some r->l.length=p+r.length->axO i g p b=true->AdOK s->LOK l s->lexO l i b a=true->EvD P l g r s K->AAny P l i K r.length a s
 |[],r,_,_,_,hp,_,_,_,_,hB,h=>by
  simp only[rY,Option.some.injEq]at hp
  subst hp
  exact⟨by simpa[Go.Abs.lexO]using hB,h⟩
 |k::b,r,p,a,s,hp,hlen,ht,hA,hLK,hB,h=>by
  simp only[rY]at hp
  cases h0:l[k]? with
  |none=>rw[h0]at hp;cases hp
  |some o=>
   cases A:rY l b with
   |none=>grind
   |some r'=>
    rw[h0,A]at hp;injection hp with hp
    subst hp;have hk:l.length-(r'.length+1)=p:=by rw[hlen];simp
    simp only[Go.Abs.lexO,zba]at hB;obtain⟨⟨B,hf⟩,q⟩:=hB;simp only[axO,zba,beq_iff_eq]at ht;obtain⟨⟨F,E⟩,y⟩:=ht;unfold EvD at h;rw[hk,F,E]at h;have ho:o∈l:=List.mem_of_getElem? h0;have e:∀m,AdOK m->LOK l m->EvD P l g r' m K->AAny P l i K r'.length _ m:=λm n v C=>
     AAny.lexO b r' (p+1) _ _ A (by rw[hlen];simp;omega) y n v q C
    cases hz:iP k i.z with
    |true=>
     rw[hz]at h hf;obtain⟨R,D,u⟩:=h;exact AAny.only h0 hz r'.length a s hf (by simpa using B) D λx hx=>e _ hA.turn (hLK.turn ho) (u x hx)
    |false=>
     rw[hz]at h hf;obtain⟨T,hT,u⟩:=h;exact AAny.first h0 hz r'.length a s (pA h0 hf) hA hLK (by simpa using B) hT (e _ (hT.adOK hA) (hLK.step ho hT hA) u)
def aFz(l r:List Oper)(e b:Md)(a:List Nat):Bool:=Nat.beq l.length r.length&&axO e b 0 a&&lexO l e a (Array.replicate l.length false)
theorem aBK{B i:Md}{r:List Oper}{id:Nat}{Q:Exit->St->Prop}{s:St}(m:List Nat)(hm:P.follows .mixedOrders=true)(hp:rY l m=some r)(o:aFz l r B i m=true)(A:agR l s=true)(h:EvD P l i r s (Q .normal)):PWp P (.region id l.toArray true) Q s:=by
 intro c a w g lam hs;refine wpIn_region_any hm ?_;obtain⟨x,y⟩:=nT hs.mem _ (Nat.le_succ _);have n:=hs.world x (Le.refl g) (y.mono λ_ h=>h.elim);simp only[aFz,zba]at o;obtain⟨⟨b1,b2⟩,v⟩:=o;have b1:=Nat.eq_of_beq_eq_true b1;have:=AAny.lexO _ r 0 _ s hp (by grind) b2 hs.adOK (LOK.init hs.adOK A) v h;rw[<-b1]at this;have:=AAny.sound (Q:=λe u w'=>∃q g' b,Q e q/\SI P c q u w' g' b) (λs a w g lam hk hs=>⟨s,g,lam,hk,hs⟩) _ _ _ _ _ _ _ n this;omega
theorem wDO(pk:Pk P tt)(i z0 m z rd:List Nat){s:St}{id:Nat}{e:Array Oper}{r:List Oper}{k:List Fr}{Q:Exit->St->Prop}{a b g:Prop}(n:Nat.beq e.size i.length=true)(hp:rY e.toList i=some r)(hl:aFz e.toList r (.draw z0 m) (.draw z rd) i=true)(o:agR e.toList s=true)(h:akO P tt e.toList (.draw z rd) r s k Q= .mk a b g)(ha:a)(hb:b)(hg:g):PWp P (.region id e true) (dF P k Q) s:=by
 have:=goE pk h ha hb hg;have:=aBK (id:=id) (Q:=dF P k Q) _ pk.hm hp hl o ‹_›;omega
def aID(l:List Oper)(a:Md):List Nat->Array Bool->Bool
 |[],_=>true
 |k::ord,listed=>(Region.ready .any l.toArray listed).contains k&& !iP k a.z&& !iP k a.r&&anA l a listed k&&aID l a ord (listed.setIfInBounds k true)
def rH :List Nat->Array Bool->Array Bool
 |[],listed=>listed
 |k::ord,listed=>rH ord (listed.setIfInBounds k true)
theorem AAny.pre{g:Md}{K u:St->Prop}(n:Nat):∀(b:List Nat)(r:List Oper)(a:Array Bool)(s:St),rY l b=some r->AdOK s->LOK l s->aID l g b a=true->EvD P l (.draw [] []) r s u->(∀e,AdOK e->LOK l e->u e->AAny P l g K n (rH b a) e)->AAny P l g K (n+r.length) a s
 |[],r,a,s,hp,hA,hLK,_,h,hk=>by
  simp only[rY,Option.some.injEq]at hp
  subst hp
  exact hk s hA hLK h
 |k::b,r,a,s,hp,hA,hLK,hB,h,hk=>by
  simp only[rY]at hp
  cases h0:l[k]? with
  |none=>grind
  |some o=>
   cases v:rY l b with
   |none=>grind
   |some r'=>
    rw[h0,v]at hp;injection hp with hp
    subst hp;simp only[aID,zba,Bool.not_eq_true']at hB;obtain⟨⟨⟨⟨y,hz⟩,q⟩,hf⟩,i⟩:=hB;have ho:o∈l:=List.mem_of_getElem? h0;obtain⟨T,hT,x⟩:=h;have m:AStep P l o s (iP k g.r) T:=by rw[q];exact hT
    exact AAny.first h0 hz (n+r'.length) a s (pA h0 hf) hA hLK (by simpa using y) m (AAny.pre n b r' _ _ v (hT.adOK hA) (hLK.step ho hT hA) i x λe=>hk e)
end
end
section
section
variable{P:Program}{tt:TT}{l:List Oper}{d:Md}{r:List Oper}{s:St}{K:St->Prop}{t:Nat}{ty:TypeId}{pos:String}{after:Array Edge}{gd:Option (Nat×Bool)}
theorem aFk(pk:Pk P tt){T kt e:TypeId}{x:Operand}{es:List (Value×PV)}(hx:opd s x=some (.fmap es))(hT:tiK tt T=some (.map kt e))(hf:bP s [x]=true)(hd:Nat.blt t s.n=true)(ht:iQ d l r=true)
  (k:∀id,s.st id=none->Ev P l d r ((s.sst (upd s.st id (some (.iter none es)))).pv t (.ref id 0)) K):Ev P l d (⟨some t, .range T x,ty,pos,after,none⟩::r) s K:=by
 refine dX (aBQ pk.htt hx hT) (λz hz=>aK (λ_ _ _ e=>by grind) hz) hf hd ht ?_
 rintro z ⟨id,h,rfl⟩
 exact k _ h
theorem aH9{x:Operand}{id:Nat}{cur:Option (Value×PV)}{left:List (Value×PV)}(hx:opd s x=some (.ref id 0))(a:s.st id=some (.iter cur left))(hf:bP s [x]=true)(hd:Nat.blt t s.n=true)(ht:iQ d l r=true)
  (k1:left=[]->Ev P l d r ((s.sst s.st).pv t (.tup [.val (.bool false)])) K)
  (k2:∀i e,left[i]?=some e->Ev P l d r ((s.sst (upd s.st id (some (.iter (some e) (left.eraseIdx i))))).pv t (.tup [.val (.bool true), .und, .und])) K):Ev P l d (⟨some t, .next x false,ty,pos,after,none⟩::r) s K:=by
 refine dX (aCL hx a) (λz hz=>aK (λ_ _ _ e=>by grind) hz) hf hd ht ?_
 rintro z (⟨h,rfl⟩|⟨i,e,h,rfl⟩)
 ·exact k1 h
 ·exact k2 i e h
theorem aEE{w:Bool}{x:Operand}{id:Nat}{k:Value}{q p:PV}{left:List (Value×PV)}(hw:bE l ⟨some t, .entry x,ty,pos,after,gd⟩ s=some w)(hx:opd s x=some (.ref id 0))(a:s.st id=some (.iter (some (k,p)) left))(hq:∀g,Rep g q k)(hf:All (flagsI s w [x] []))(hd:Nat.blt t s.n=true)(ht:wF d l r=true)
  (b:Ev P l d r (s.put (some t) w (.pv (.tup [q,p]))) K):Ev P l d (⟨some t, .entry x,ty,pos,after,gd⟩::r) s K:=
 qL hw (λ_=>aAo rfl hx a hq) (λz hz=>aK (λ_ _ _ e=>by grind) hz) (flagsI.g hf).1 hd ht b
theorem aKA{f:Operand}{args:Array Operand}{i:Array TypeId}{a:FuncId}{caps ps:List PV}{dst:Option Nat}{R:PV->aD->Prop}(hf:opd s f=some (.fn a caps))(g:mZ s args.toList=some ps)(h:PC P a (ps++caps) s.st R)(b:bP s (f::args.toList)=true)(hd:gL ⟨dst, .call ⟨.value f,args,i⟩,ty,pos,after,none⟩ s=true)(ht:iQ d l r=true)
  (k:∀p st',R p st'->Ev P l d r ((s.sst st').put dst true (.pv p)) K):Ev P l d (⟨dst, .call ⟨.value f,args,i⟩,ty,pos,after,none⟩::r) s K:=
 dX (adK _ hf g (WkL.refl _) h) (λz hz=>aK (λ_ _ _ e=>by grind) hz) b hd ht λz hz=>k _ _ hz
theorem Rep.int{g:G}{k:IntKind}(n:Int):Rep g (.val (.int k n)) (.int k n):=rfl
end
end
section
structure KR (b:Bool):Prop where
 h:b=true
inductive Jb
 |pw (c:Code) (k:List Fr) (Q:Exit->St->Prop) (s:St)
 |ev (l:List Oper) (d:Md) (r:List Oper) (s:St) (k:List Fr) (Q:Exit->St->Prop)
 |nm (k:List Fr) (Q:Exit->St->Prop) (s:St)
 |ex (id:Nat) (k:List Fr) (Q:Exit->St->Prop) (s:St)
def Jw(P:Program):Jb->Prop
 | .pw c k Q s=>PWp P c (dF P k Q) s
 | .ev l d r s k Q=>Ev P l d r s (aaP P k Q)
 | .nm k Q s=>dF P k Q .normal s
 | .ex id k Q s=>dF P k Q (.exit id) s
class Jr (g:Prop) (P:outParam Program) (j:outParam Jb):Prop where
 ok:Jw P j->g
section
variable{P:Program}{c:Code}{k:List Fr}{Q:Exit->St->Prop}{s:St}{I:St->Prop}{id:Nat}{j:Jb}
instance : Jr (PWp P c (dF P k Q) s) P (.pw c k Q s):=⟨λh=>h⟩
instance(priority :=low):Jr (PWp P c Q s) P (.pw c [] Q s):=⟨λh=>h⟩
instance{l r:List Oper}{d:Md}:Jr (Ev P l d r s (aaP P k Q)) P (.ev l d r s k Q):=⟨λh=>h⟩
instance{l r:List Oper}{d:Md}:Jr (Ev P l d r s (dF P k Q .normal)) P (.ev l d r s k Q):=⟨λh=>h⟩
instance(priority :=low){l r:List Oper}{d:Md}:Jr (Ev P l d r s (Q .normal)) P (.ev l d r s [] Q):=⟨λh=>h⟩
instance : Jr (dF P k Q .normal s) P (.nm k Q s):=⟨λh=>h⟩
instance : Jr (dF P k Q (.exit id) s) P (.ex id k Q s):=⟨λh=>h⟩
instance[h :Jr (Q (.exit id) s) P j]:Jr (axK I Q (.exit id) s) P j:=⟨h.ok⟩
end
def asA(P:Program)(tt:TT)(l:List Oper)(d:Md)(o:Oper)(r:List Oper)(s:St)(K:St->Prop):Bx:=
  match bE l o s with
  |none=> .no
  |some w=>match o with
    |⟨dst, .call ⟨.value f,args,_⟩,_,_,_,gd⟩=>match opd s f,mZ s args.toList with
      |some (.fn fid caps),some ps=>match dst,cO d l r with
        |some t,true=>match Nat.blt t s.n with
          |true=> .mk (All (flagsI s w (f::args.toList) [])) (All []) (Cn (.c P w fid ps caps (λp=>Ev P l d r (s.put (some t) w (.pv p)) K) (gd.isNone&&(bP s (f::args.toList)&&iQ d l r)) s.st λp st'=>Ev P l d r ((s.sst st').put (some t) true (.pv p)) K))
          |false=> .no
        |dst,_=>match gL o s with
          |true=> .mk (All []) (All []) (Cn (.c P w fid ps caps (λ_=>False) (gd.isNone&&(bP s (f::args.toList)&&iQ d l r)) s.st λp st'=>Ev P l d r ((s.sst st').put dst true (.pv p)) K))
          |false=> .no
      |_,_=> .no
    |_=> .no
def avK(P:Program)(tt:TT)(l:List Oper)(d:Md)(o:Oper)(r:List Oper)(s:St)(K:St->Prop):Bx:=
  match bE l o s with
  |none=> .no
  |some w=>match o with
    |⟨some t, .indexAddr T x y,_,_,_,_⟩=>match opd s x,opd s y,tiK tt T with
      |some p,some (.val (.int _ n)),some (.slice e)=>match gB p,aN tt e,Nat.blt t s.n&&cO d l r with
        |some rows,some sz,true=> .mk (All (flagsI s w [x,y] [])) (All []) (Cn (.n w rows n sz λrow=>Ev P l d r (s.put (some t) w (.pv (.rp row))) K))
        |_,_,_=> .no
      |_,_,_=> .no
    |_=> .no
def nx(P:Program)(tt:TT):Jb->Bx
 | .pw c k Q s=>match c with
  | .ret=> .mk (All []) (All []) (dF P k Q .ret s)
  | .cond (.tmp t) x y=>match s.env t with
   |(true, .pv (.val (.bool b)))=> .mk (All []) (All []) (Cn (.b b (PWp P x (dF P k Q) s) (PWp P y (dF P k Q) s)))
   |_=> .no
  | .cond (.const (.bool b)) x y=>match b with
   |true=> .mk (All []) (All []) (PWp P x (dF P k Q) s)
   |false=> .mk (All []) (All []) (PWp P y (dF P k Q) s)
  | .region _ ops true=>match agR ops.toList s with
   |true=> .mk (KR (atG ops.toList (.draw [] []))) (All []) (Ev P ops.toList (.draw [] []) ops.toList s (aaP P k Q))
   |false=> .no
  |c=>match isW c with
   |true=>adv P tt 1000 (.code c) k Q s [] []
   |false=> .no
 | .ev l d r s k Q=>match r with
  |[]=>akO P tt l d [] s k Q
  |o::r=>match aHl tt d l (o::r) s with
   |true=>akO P tt l d (o::r) s k Q
   |false=> .no
 | .nm k Q s=>adv P tt 1000 .norm k Q s [] []
 | .ex id k Q s=>adv P tt 1000 (.out id) k Q s [] []
section
variable{P:Program}{tt:TT}
theorem alQ[pk:Pk P tt]{l:List Oper}{d:Md}{o:Oper}{r:List Oper}{s:St}{K:St->Prop}{a b g:Prop}(h:asA P tt l d o r s K= .mk a b g)(ha:a)(hg:g):Ev P l d (o::r) s K:=by
 unfold asA at h;split at h
 ·cases h
 ·rename_i w hw
  split at h
  ·rename_i dst f args u ty pos after gd
   have hz:∀{z:Bool},(gd.isNone&&(bP s (f::args.toList)&&z))=true->gd=none/\bP s (f::args.toList)=true/\z=true:=fun{z} e=>by simp_all
   split at h
   ·rename_i q caps ps hf m
    split at h
    ·rename_i t ht
     split at h
     ·rename_i hd
      injection h with h1 h2 h3;subst h1;subst h3
      cases hg.ok with
      |w qs hq hp k=>exact ayJ qs hw hf m hq hp ha hd ht k
      |p qs hz' hq hp k=>
       obtain⟨rfl,i,n⟩:=hz hz';exact dX (adK qs hf m hq hp) (λz hz=>aK (λ_ _ _ e=>by cases e) hz) i hd n λz hz=>k _ _ hz
     ·cases h
    ·split at h
     ·rename_i hd
      injection h with h1 h2 h3;subst h1;subst h3
      cases hg.ok with
      |w qs hq hp k=>exact k.elim
      |p qs hz' hq hp k=>
       obtain⟨rfl,i,n⟩:=hz hz';exact dX (adK qs hf m hq hp) (λz hz=>aK (λ_ _ _ e=>by cases e) hz) i hd n λz hz=>k _ _ hz
     ·cases h
   ·cases h
  ·cases h
theorem amB[pk:Pk P tt]{l:List Oper}{d:Md}{o:Oper}{r:List Oper}{s:St}{K:St->Prop}{a b g:Prop}(h:avK P tt l d o r s K= .mk a b g)(ha:a)(hg:g):Ev P l d (o::r) s K:=by
 unfold avK at h;split at h
 ·cases h
 ·rename_i w hw
  split at h
  ·split at h
   ·split at h
    ·rename_i hx hy hk _ _ _ _ _ hp hs ht
     injection h with e m i;subst e;subst i
     obtain⟨j,row,e,m,i,h4⟩:=hg.ok;rw[zba]at ht;exact cL pk hw hx hp hy hk hs ha ht.1 e m i ht.2 h4
    ·cases h
   ·cases h
  ·cases h
theorem aDD[pk:Pk P tt]{j:Jb}{a b g:Prop}(h:nx P tt j= .mk a b g)(ha:a)(hb:b)(hg:g):Jw P j:=by
 cases j with
 |pw c k Q s=>
  simp only[nx]at h;split at h
  ·injection h with _ _ h3;subst h3;exact abJ hg
  ·split at h
   ·rename_i e
    injection h with _ _ h3;subst h3
    exact acZ e hg.ok.1 hg.ok.2
   ·cases h
  ·split at h
   ·injection h with _ _ h3;subst h3;exact aiC hg
   ·injection h with _ _ h3;subst h3;exact aiC hg
  ·split at h
   ·rename_i i
    injection h with h1 _ h3;subst h1;subst h3
    exact pX (l:=Array.toList _) pk.hm ha.h i hg
   ·cases h
  ·split at h
   ·exact go pk h ha hb hg
   ·cases h
 |ev l d r s k Q=>
  simp only[nx]at h;split at h
  ·exact goE pk h ha hb hg
  ·split at h
   ·exact goE pk h ha hb hg
   ·cases h
 |nm k Q s=>exact goN pk h ha hb hg
 |ex id k Q s=>exact goX pk h ha hb hg
end
theorem wZ{P:Program}{tt:TT}{j:Jb}{g':Prop}[hj:Jr g' P j][pk:Pk P tt]{a b g:Prop}(h:nx P tt j= .mk a b g)(ha:a)(hb:b)(hg:g):g':=
 hj.ok (aDD h ha hb hg)
theorem wY{P:Program}{tt:TT}[pk:Pk P tt]{l:List Oper}{d:Md}{o:Oper}{r:List Oper}{s:St}{K:St->Prop}{a b g:Prop}(h:asA P tt l d o r s K= .mk a b g)(ha:a)(hg:g):Ev P l d (o::r) s K:=alQ h ha hg
theorem wI{P:Program}{tt:TT}[pk:Pk P tt]{l:List Oper}{d:Md}{o:Oper}{r:List Oper}{s:St}{K:St->Prop}{a b g:Prop}(h:avK P tt l d o r s K= .mk a b g)(ha:a)(hg:g):Ev P l d (o::r) s K:=amB h ha hg
section
variable{P:Program}{tt:TT}
def aLy(tt:TT)(xs:List ResultVar)(r:PV)(st:aD):Exit->St->Prop
 | .normal,s| .ret,s=>Cn (.e (aCa tt s xs) s.st r st)
 |_,_=>False
def aLw(tt:TT)(xs:List ResultVar)(R:PV->aD->Prop):Exit->St->Prop
 | .normal,s| .ret,s=>Cn (.r (aCa tt s xs) s.st R)
 |_,_=>False
theorem aDk[pk:Pk P tt]{f:FuncId}{fn:Func}{a:Code}(hf:P.funcs[f]?=some fn)(hb:fn.body=some a):iG P f=true:=by
 unfold iG;have:=Array.all_eq_true'.1 pk.nm _ (Array.mem_of_getElem? hf)
 grind
theorem pC[pk:Pk P tt]{f:FuncId}{fn:Func}{a:Code}{args:List PV}{st:aD}{R:PV->aD->Prop}{n:Nat}{xs:List ResultVar}(hf:P.funcs[f]?=some fn)
  (h:(fn.body,fn.ntmps,fn.results.toList,Nat.ble args.length fn.ntmps)=(some a,n,xs,true)) (k:PWp P a (aLw tt xs R) (fH 0 args (St.nil n st))):PC P f args st R:=by
 simp only[Prod.mk.injEq]at h
 obtain⟨b,g,i,h4⟩:=h
 refine aH6 pk.htt hf (aDk hf b) b g i (g▸h4) (k.mono λe s q=>?_)
 cases e<;>first|exact Cn.ok q|exact q
theorem pF[pk:Pk P tt]{f:FuncId}{fn:Func}{a:Code}{args:List PV}{r:PV}{n:Nat}{xs:List ResultVar}(hf:P.funcs[f]?=some fn)
  (h:(fn.body,fn.ntmps,fn.results.toList,Nat.ble args.length fn.ntmps)=(some a,n,xs,true)) (k:∀st,PWp P a (aLy tt xs r st) (fH 0 args (St.nil n st))):PF P f args r:=λst=>by
 simp only[Prod.mk.injEq]at h
 obtain⟨b,g,i,h4⟩:=h
 refine aH6 pk.htt hf (aDk hf b) b g i (g▸h4) ((k _).mono λe s q=>?_)
 cases e<;>first|exact Cn.ok q|exact q
theorem aC{s:St}{Q:Exit->St->Prop}{X:Type}{body:Code}(b:X->St)(m:X->Nat)(n:X)(h0:Cn (.s s (b n)))
  (round:∀x,PWp P body (axK (λi=>∃a,Cn (.s i (b a))/\m a<m x) Q) (b x)):PWp P (.loop body) Q s:=
 aDx _ m _ h0.ok λx=>(round x).mono λe s q=>by
  cases e<;>first|exact q|(obtain⟨a,g,h⟩:=q;exact⟨a,g.ok,h⟩)
end
theorem iX{α:Type}{f:α->List PV}{l:List α}{w:Bool}{n:Int}{j sz:Nat}{G:List PV->Prop}{a:α}(hj:w=true->n=(j:Int))(h:l[j]?=some a)(hl:(f a).length=sz)(k:G (f a)):Cn (.n w (l.map f) n sz G):=
 .any ⟨j,_,hj,λ_=>by grind,λ_=>hl,k⟩
theorem gE{α:Type}{l:List α}{j:Nat}(h:j<l.length):l[j]?=some l[j]:=by simp
section
variable{P:Program}{w z:Bool}{f:FuncId}{ps cs:List PV}{G:PV->Prop}{st:aD}{H:PV->aD->Prop}{p:PV}{R:PV->aD->Prop}
theorem cW(h:w=true->PF P f (ps++cs) p)(k:G p):Cn (.c P w f ps cs G z st H):= .any (.w _ (WkL.refl _) h k)
theorem cV(h:PF P f (ps.map soft++cs) p)(k:G p):Cn (.c P w f ps cs G z st H):= .any (.w _ (WkL.soft _) (λ_=>h) k)
theorem cP(hz:z=true)(h:PC P f (ps.map soft++cs) st R)(k:∀p st',R p st'->H p st'):Cn (.c P w f ps cs G z st H):= .any (.p _ hz (WkL.soft _) h k)
end
end
end Go.Abs
