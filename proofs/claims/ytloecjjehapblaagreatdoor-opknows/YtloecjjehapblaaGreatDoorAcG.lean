import Derived.Test.YtloecjjehapblaaGreatDoorAcE
set_option linter.unusedSimpArgs false
set_option linter.unusedVariables false
namespace Go.Abs
open Go
section
section
variable {P:Program} {tt:TT}
theorem asJ {st:aI} {w:World} {g:G} (hm:MemOK P st w g) (o:Obj) (o':AObj) (ho:∀g' id,Le g g'->g'.heap=(w.alloc o).heap->g'.io id=some (w.heap.size,0,1)->g'.heap[w.heap.size]?=some o->(∀b,b<w.heap.size->g'.heap[b]?=w.heap[b]?)->g'.fr w.heap.size=0->¬g'.fm w.heap.size->ObjOK P g' id o'):
  ∃id g',g.io id=none/\st id=none/\g'.io id=some (w.heap.size,0,1)/\MemOK P (upd st id (some o')) (w.alloc o) g'/\Le g g'/\Frame (Blocks st g) w g (w.alloc o) g'/\∀b',Blocks (upd st id (some o')) g' b'->Blocks st g b'\/w.heap.size<=b':=by
 obtain ⟨id,f1,f2⟩:=iV hm
 obtain ⟨m1,m2,m3⟩:=iY hm o
 let g':G:={g with heap:=(w.alloc o).heap,io:=upd g.io id (some (w.heap.size,0,1))}
 have hle:Le g g':=⟨lX f1,m2.fr,m2.cell,m2.fm⟩
 have hnb:(w.alloc o).heap[w.heap.size]?=some o:=by show (w.heap.push _)[_]?=_;simp
 have hfm:¬g.fm w.heap.size:=λh=>by
  obtain ⟨en,cl,e,_⟩:=hm.fmm _ h
  have:=bI e;omega
 have hfr:g.fr w.heap.size=0:=by
  rcases Nat.eq_zero_or_pos (g.fr w.heap.size) with h|h
  ·exact h
  ·have:=hm.lt w.heap.size (by omega);omega
 have hmem:=gI (w':=w.alloc o) (g':=g') (id:=id) (b':=w.heap.size) (n':=0) (cap':=1) (o':=o') hm f1 rfl rfl (λ_=> .inr rfl) (λb hb _=>(m3.old b hb (λh=>h)).1) (λ_ _=>rfl) rfl (λ_=>hfm) m3.size (λ_=>bI hnb) hle
  (ho g' id hle rfl (aA _ _ _) hnb (λb hb=>(m3.old b hb (λh=>h)).1) hfr hfm)
 have e1:upd (upd st id none) id (some o')=upd st id (some o'):=by
  funext j
  by_cases h:j=id
  ·rw [h,aA,aA]
  ·rw [aD h,aD h,aD h]
 rw [e1] at hmem
 refine ⟨id,g',f1,f2,aA _ _ _,hmem,hle,⟨m3.os,m3.tape,m3.output,m3.size,λb hb hn=>⟨(m3.old b hb (λh=>h)).1,rfl,Iff.rfl⟩⟩,λb' ⟨j,j1,j2⟩=> ?_⟩
 by_cases h:j=id
 ·subst h
  right
  simp [Go.Abs.blk,g',aA] at j2
  omega
 ·rw [aD h] at j1
  refine .inl ⟨j,j1, ?_⟩
  unfold Go.Abs.blk at j2⊢
  rwa [show g'.io j=g.io j from aD h] at j2
theorem awG {t:Nat} {ty:TypeId} {pos:String} {after:Array Edge} {s:St} {T kt e:TypeId} {x:Operand} {es:List (Value×PV)} (htt:bM P tt) (hx:opd s x=some (.fmap es)) (hT:tiK tt T=some (.map kt e)):
  OpZ P ⟨some t, .range T x,ty,pos,after,none⟩ s λz=>∃id,s.st id=none/\z=(upd s.st id (some (.iter none es)), .ref id 0):=by
 intro w g ρ hm hρ
 have rx:=hρ x (by simp [Op.operands]) _ hx
 simp only [Rep] at rx
 obtain ⟨bm,ents,clock,hxv,h2,h3,h4⟩:=rx
 rw [hm.heap] at h3
 have hu:=sC (aX htt hT).1
 have hrun:(execOp ρ (⟨some t, .range T x,ty,pos,after,none⟩:Oper)).run P w= .ok (.value (.pointer (some ⟨w.heap.size,0,none⟩))) (w.alloc (.mapIter (some bm) clock #[] clock)):=by
  simp [execOp,Instr.range,run_underlying hu,hxv,MapKept.run_getObj_map h3]
 rw [hrun]
 have hlt:=bI h3
 obtain ⟨ents0,clock0,e0,hst0⟩:=hm.fmm bm h2
 rw [h3] at e0;injection e0 with e0;injection e0 with e1 e2;subst e1;subst e2
 obtain ⟨id,g',f1,f2,f3,q1,q2,q3,q4⟩:=asJ hm (.mapIter (some bm) clock #[] clock) (.iter none es) (λg' id hle hh hio hb hold _ _=>by
  simp only [ObjOK]
  refine ⟨w.heap.size,0,1,bm,ents,clock, #[],hio,by omega,hb,(hle.fm bm h2).1,(hold bm hlt).trans h3,hst0, ?_,λk p e=>by cases e⟩
  have:(ents.toList.filter λe=> !(#[]:Array Nat).contains e.born)=ents.toList:=by simp
  rw [this]
  exact RepE.mono hle _ _ h4)
 exact ⟨g',_,⟨id,f2,rfl⟩,by simp only [Rep];exact ⟨w.heap.size,0,1,f3,rfl⟩,q1,q2,q3,q4⟩
theorem RepE.get {g:G}:∀{es:List (Value×PV)} {ms:List MapEntry} {j:Nat} {m:MapEntry},RepE g es ms->ms[j]?=some m->∃k p,es[j]?=some (k,p)/\m.key=k/\Rep g p m.val
  |[],ms,j,m,h,hj=>by simp only [RepE] at h;subst h;simp at hj
  |(k,p)::es,ms,j,m,h,hj=>by
    simp only [RepE] at h
    obtain ⟨m0,ms',rfl,h1,h2,h3⟩:=h
    cases j with
    |zero=>simp at hj;subst hj;exact ⟨k,p,rfl,h1,h2⟩
    |succ j=>simp at hj;simpa using RepE.get h3 hj
theorem RepE.len {g:G}:∀{es:List (Value×PV)} {ms:List MapEntry},RepE g es ms->ms.length=es.length
  |[],ms,h=>by simp only [RepE] at h;subst h;rfl
  |(k,p)::es,ms,h=>by
    simp only [RepE] at h
    obtain ⟨m0,ms',rfl,h1,h2,h3⟩:=h
    simp [RepE.len h3]
theorem RepE.erase {g:G}:∀{es:List (Value×PV)} {ms:List MapEntry} (j:Nat),RepE g es ms->RepE g (es.eraseIdx j) (ms.eraseIdx j)
  |[],ms,j,h=>by simp only [RepE] at h;subst h;simp [RepE]
  |(k,p)::es,ms,j,h=>by
    simp only [RepE] at h
    obtain ⟨m0,ms',rfl,h1,h2,h3⟩:=h
    cases j with
    |zero=>simpa using h3
    |succ j=>simp only [List.eraseIdx_cons_succ,RepE];exact ⟨m0,_,rfl,h1,h2,RepE.erase j h3⟩
theorem oI {α:Type} (f:α->Nat):∀{l:List α} {j:Nat} {x:α},(l.map f).Nodup->l[j]?=some x->l.filter (λy=>decide (f y≠f x))=l.eraseIdx j
 |[],j,x,_,h=>by simp at h
 |y::l,0,x,hn,h=>by
  simp at h;subst h
  simp only [zmp,List.nodup_cons] at hn
  rw [List.filter_cons_of_neg (by simp),List.eraseIdx_cons_zero]
  exact List.filter_eq_self.2 λz hz=>by
   simp only [ne_eq,zde]
   intro e;exact hn.1 (List.mem_map.2 ⟨z,hz,e⟩)
 |y::l,j+1,x,hn,h=>by
  simp at h
  simp only [zmp,List.nodup_cons] at hn
  have hne:f y≠f x:=λe=>hn.1 (List.mem_map.2 ⟨x,List.mem_of_getElem? h,e.symm⟩)
  rw [List.filter_cons_of_pos (by simpa using hne),List.eraseIdx_cons_succ,oI f hn.2 h]
theorem uP {α:Type} (f:α->Nat) (p:α->Bool) {l:List α} (h:(l.map f).Nodup):((l.filter p).map f).Nodup:=
 h.sublist (List.filter_sublist.map f)
theorem acF (n:Nat) (h:0<n) (w:World):∃j w1,(choose (.mapNext n)).run P w= .ok j w1/\j<n/\(w1=w\/w1={w with drawn:=w.drawn+1}):=by
 rw [run_choose_drew]
 by_cases hf:Question.forced (.mapNext n)=true
 ·rw [zp hf];exact ⟨0,w,rfl,h, .inl rfl⟩
 ·rw [zn hf];exact ⟨_,_,rfl,Nat.mod_lt _ h, .inr rfl⟩
theorem ayE {t:Nat} {ty:TypeId} {pos:String} {after:Array Edge} {s:St} {x:Operand} {id:Nat} {cur:Option (Value×PV)} {left:List (Value×PV)} (hx:opd s x=some (.ref id 0)) (hst:s.st id=some (.iter cur left)):
    OpZ P ⟨some t, .next x false,ty,pos,after,none⟩ s λz=>(left=[]/\z=(s.st, .tup [.val (.bool false)]))\/∃i e,left[i]?=some e/\z=(upd s.st id (some (.iter (some e) (left.eraseIdx i))), .tup [.val (.bool true), .und, .und]):=by
  intro w g ρ hm hρ
  have rx:=hρ x (by simp [Op.operands]) _ hx
  simp only [Rep] at rx
  obtain ⟨b,n,cap,hio,hxv⟩:=rx
  have hob:=hm.obj id _ hst
  have hblt:∀{b'},Go.Abs.blk g id=some b'->b'<w.heap.size:=λh=>axY hm (by rw [hst];simp) h
  simp only [ObjOK] at hob
  obtain ⟨b',n',cap',bm,ents,clock,seen,h1,h2,h3,h4,h5,h6,h7,h8⟩:=hob
  rw [hio] at h1;injection h1 with h1;injection h1 with h1 h1';injection h1' with h1' h1'';subst h1;subst h1''
  rw [hm.heap] at h3 h5
  have hblk:Go.Abs.blk g id=some b:=by simp [Go.Abs.blk,hio,h2]
  have hg3:(getObj b).run P w= .ok (.mapIter (some bm) clock seen clock) w:=by simp [getObj,Sem.run,h3]
  have hg5:(getObj bm).run P w= .ok (.map ents clock) w:=MapKept.run_getObj_map h5
  have hc0:(!seen.isEmpty&& !ents.isEmpty&&ents.all (λe=>decide (e.born>=clock)))=false:=by
    cases hb:ents.isEmpty with
    |true=>rw [show ents= #[] from by simpa using hb];cases seen.isEmpty<;>rfl
    |false=>
      have:ents.all (λe=>decide (e.born>=clock))=false:=by
        rw [<-Bool.not_eq_true,Array.all_eq_true']
        intro hall
        have hne:ents.toList≠[]:=λh=>by
          have:ents= #[]:=by apply Array.toList_inj.1;rw [h]
          rw [this] at hb;simp at hb
        obtain ⟨e,he⟩:=List.exists_mem_of_ne_nil _ hne
        have:=hall e (by simpa using he)
        have h':=h6.1 e he
        simp at this;omega
      rw [this];simp
  let L:=ents.filter λe=> !seen.contains e.born
  have hold:L.filter (λe=>decide (e.born<clock))=L:=by
    apply Array.toList_inj.1
    rw [Array.toList_filter]
    exact List.filter_eq_self.2 λe he=>by
      have:e∈ents.toList:=by
        have:e∈L:=by simpa using he
        have:=(Array.mem_filter.1 this).1
        simpa using this
      simpa using h6.1 e this
  have hnew:L.filter (λe=>decide (e.born>=clock))= #[]:=by
    apply Array.toList_inj.1
    rw [Array.toList_filter]
    refine List.filter_eq_nil_iff.2 λe he=> ?_
    have:e∈ents.toList:=by
      have:e∈L:=by simpa using he
      have:=(Array.mem_filter.1 this).1
      simpa using this
    have:=h6.1 e this
    simp;omega
  let cands:Array (Option MapEntry):=(if L.isEmpty then #[none] else #[])++L.map some
  have hpos:0<cands.size:=by
    show 0<((if L.isEmpty then #[none] else #[])++L.map some).size
    cases hb:L.isEmpty with
    |true=>simp;omega
    |false=>simp;exact Array.size_pos_iff.2 (by simpa using hb)
  obtain ⟨j,w1,c1,c2,c3⟩:=acF (P:=P) cands.size hpos w
  have hm1:MemOK P s.st w1 g/\Frame (Blocks s.st g) w g w1 g/\w1.heap=w.heap:=by
    rcases c3 with rfl|rfl
    · exact ⟨hm,Frame.refl _ _ _,rfl⟩
    · exact ⟨(mQ hm _ (Nat.le_succ _)).1,(mQ hm _ (Nat.le_succ _)).2.mono λ_ h=>h.elim,rfl⟩
  obtain ⟨m1,m2,m3⟩:=hm1
  have hrun:(execOp ρ (⟨some t, .next x false,ty,pos,after,none⟩:Oper)).run P w=((match cands[j]? with
      |some (some e)=>do
        setObj b (.mapIter (some bm) clock (seen.push e.born) clock)
        pure (.tuple #[.bool true,e.key,e.val])
      |some none=>pure (.tuple #[.bool false])
      | none => stuck "Next: no such candidate" : Sem Value) >>= λv => pure (.value v) : Sem Next).run P w1 := by
    simp only [execOp,Instr.next,hxv,Sem.run_bind,hg3,hg5,Result.andThen_ok,hc0,Bool.false_eq_true,if_false,Sem.run_pure]
    have e1:((if (L.filter λe=>decide (e.born<clock)).isEmpty=true then #[none] else #[])++Array.map some ((L.filter λe=>decide (e.born<clock))++L.filter λe=>decide (e.born>=clock)))=cands:=by
      rw [hold,hnew,Array.append_empty]
    simp only [L] at e1
    rw [e1,c1]
    simp only [Result.andThen_ok]
    cases hj:cands[j]? with
    |none=>rfl
    |some o=>cases o<;>rfl
  rw [hrun]
  have hLl:L.toList=ents.toList.filter λe=> !seen.contains e.born:=by rw [Array.toList_filter]
  rw [<-hLl] at h7
  by_cases hL:L= #[]
  · have hleft:left=[]:=by
      have:=RepE.len h7
      rw [hL] at this
      exact List.length_eq_zero_iff.1 (by simpa using this.symm)
    have hc:cands= #[none]:=by
      show ((if L.isEmpty then #[none] else #[])++L.map some)=_
      rw [hL];simp
    rw [hc] at c2
    have hj0:j=0:=by simpa using c2
    have hcj:cands[j]?=some none:=by rw [hc,hj0];rfl
    rw [hcj]
    simp only [Sem.run_bind,Sem.run_pure,Result.andThen_ok,OpRes]
    exact ⟨g,_, .inl ⟨hleft,rfl⟩,by simp only [Rep];exact ⟨[.bool false],rfl,by simp only [RepL];exact ⟨_,_,rfl,by simp [Rep],rfl⟩⟩,m1,Le.refl g,m2,λb hb=> .inl hb⟩
  · have hc:cands=L.map some:=by
      show ((if L.isEmpty then #[none] else #[])++L.map some)=_
      rw [zn (by simpa using hL)];simp
    have hjL:j<L.size:=by rw [hc] at c2;simpa using c2
    have hLj:L[j]?=some L[j]:=by simp [hjL]
    have hcj:cands[j]?=some (some L[j]):=by rw [hc];simp [hjL]
    obtain ⟨k,p,e1,e2,e3⟩:=RepE.get h7 (j:=j) (m:=L[j]) (by rw [Array.getElem?_toList];exact hLj)
    rw [hcj]
    have hw1b:w1.heap[b]?=some (.mapIter (some bm) clock seen clock):=by rw [m3];exact h3
    have hso:(setObj b (.mapIter (some bm) clock (seen.push L[j].born) clock)).run P w1= .ok () {w1 with heap:=w1.heap.setIfInBounds b (.mapIter (some bm) clock (seen.push L[j].born) clock)}:=by
      simp [setObj,Sem.run,hw1b]
    simp only [Sem.run_bind,hso,Sem.run_pure,Result.andThen_ok,OpRes]
    have hne:bm≠b:=λe=>by rw [e,h3] at h5;cases h5
    have hlt:=bI hw1b
    have hmemL:L[j]∈ents.toList:=by
      have:L[j]∈L:=Array.getElem_mem hjL
      have:=(Array.mem_filter.1 this).1
      simpa using this
    have hfilter:(ents.toList.filter λe=> !(seen.push L[j].born).contains e.born)=L.toList.eraseIdx j:=by
      rw [<-oI (·.born) (x:=L[j]) (by rw [hLl];exact uP _ _ h6.2) (j:=j) (by rw [Array.getElem?_toList];exact hLj),hLl,List.filter_filter]
      refine List.filter_congr λe he=> ?_
      simp only [Array.contains_push]
      cases seen.contains e.born<;>simp [Bool.and_comm,eq_comm]<;>(try (by_cases hx:e.born=L[j].born<;>simp [hx]))
    obtain ⟨q1,q2,q3,q4⟩:=gF (o':= .iter (some (k,p)) (left.eraseIdx j)) (w':={w1 with heap:=w1.heap.setIfInBounds b (.mapIter (some bm) clock (seen.push L[j].born) clock)}) m1 (by rw [hst];simp) hblk hw1b rfl
      (λi hi=>by simp only [aW,hw1b];simp [hlt]) (λh=>by obtain ⟨a1,a2,a3,_⟩:=hm.fmm b h;rw [h3] at a3;cases a3) (λhle=>by
        simp only [ObjOK]
        refine ⟨b,n,cap,bm,ents,clock,seen.push L[j].born,hio,h2,by simp [hlt],h4, ?_,h6, ?_,λk' p' e=> ?_⟩
        · show (w1.heap.setIfInBounds b _)[bm]?=_
          rw [Array.getElem?_setIfInBounds_ne (Ne.symm hne),m3];exact h5
        · rw [hfilter];exact RepE.mono hle _ _ (RepE.erase j h7)
        · injection e with e;injection e with e4 e5;subst e4;subst e5
          exact ⟨L[j],hmemL,e2,Rep.mono hle _ _ e3,by simp⟩)
    refine ⟨_,_, .inr ⟨j,(k,p),e1,rfl⟩, ?_,q1,q2,m2.trans q3 λb' _ hb'=>hb',λb' hb'=>by
      rcases q4 b' hb' with h|h
      · exact .inl h
      · right;rw [m3] at h;exact h⟩
    simp only [Rep]
    exact ⟨[.bool true,L[j].key,L[j].val],rfl,by simp only [RepL];exact ⟨_,_,rfl,by simp [Rep],_,_,rfl,trivial,_,_,rfl,trivial,rfl⟩⟩
theorem atA {o:Oper} {s:St} {x:Operand} {id:Nat} {k:Value} {q p:PV} {left:List (Value×PV)} (ho:o.op= .entry x) (hx:opd s x=some (.ref id 0)) (hst:s.st id=some (.iter (some (k,p)) left)) (hq:∀g,Rep g q k):OpV P o s (.tup [q,p]):=by
 refine aQ λw g ρ hm hρ=> ?_
 have rx:=hρ x (by rw [ho];simp [Op.operands]) _ hx
 simp only [Rep] at rx
 obtain ⟨b,n,cap,hio,hxv⟩:=rx
 have hob:=hm.obj id _ hst
 simp only [ObjOK] at hob
 obtain ⟨b',n',cap',bm,ents,clock,seen,h1,h2,h3,h4,h5,h6,h7,h8⟩:=hob
 rw [hio] at h1;injection h1 with h1;injection h1 with h1 h1';subst h1
 rw [hm.heap] at h3 h5
 obtain ⟨e,e1,e2,e3,e4⟩:=h8 k p rfl
 have hfind:ents.find? (λx=>x.born==e.born)=some e:=by
  rw [<-Array.find?_toList]
  have:∀{l:List MapEntry},(l.map (·.born)).Nodup->e∈l->l.find? (λx=>x.born==e.born)=some e:=by
   intro l
   induction l with
   |nil=>intro _ h;cases h
   |cons y l ih=>
    intro hn he
    simp only [zmp,List.nodup_cons] at hn
    rcases zmc.1 he with rfl|he
    ·simp
    ·have hne:y.born≠e.born:=λh=>hn.1 (List.mem_map.2 ⟨e,he,h.symm⟩)
     rw [List.find?_cons_of_neg (by simpa using hne)]
     exact ih hn.2 he
  exact this h6.2 e1
 refine ⟨.tuple #[e.key,e.val], ?_,by simp only [Rep];exact ⟨[e.key,e.val],rfl,by simp only [RepL];exact ⟨_,_,rfl,e2▸hq g,_,_,rfl,e3,rfl⟩⟩⟩
 simp [execOp,ho,Instr.entry,hxv,getObj,Sem.run,h3,h5,e4,hfind]
end
end
section
section
variable {P:Program} {tt:TT}
def PY (P:Program) (idl:Nat) (args:List PV) (st:aI) (R:PV->aI->Prop):Prop:=
 ∀w g b vs,MemOK P st w g->(∃n cap,g.io idl=some (b,n,cap))->RepL g args vs->
  OpRes P (λv w'=>∃r st' g',R r st'/\Rep g' r v/\MemOK P st' w' g'/\Le g g'/\Frame (Blocks st g) w g w' g'/\∀b,Blocks st' g' b->Blocks st g b\/w.heap.size<=b) ((Instr.yield b vs.toArray).run P w)
theorem PY.mono {idl:Nat} {args:List PV} {st:aI} {R R':PV->aI->Prop} (h:PY P idl args st R) (hr:∀r S,R r S->R' r S):PY P idl args st R':=λw g b vs hm hb hv=>
 (h w g b vs hm hb hv).mono λ_ _ ⟨r,st',g',h1,h2⟩=>⟨r,st',g',hr _ _ h1,h2⟩
theorem awO {w:World} {ρ:Operand->Value} {o:Oper} {f:Operand} {args:Array Operand} {ts:Array TypeId} {b:Nat} (ho:o.op= .call ⟨.value f,args,ts⟩) (hf:ρ f= .func (.yield b) #[] #[]):
  (execOp ρ o).run P w=(Instr.yield b (args.map ρ)).run P w:=by
 simp [execOp,ho,resolve,hf,Deferred.ofValue,invoke]
theorem avR {dst:Option Nat} {ty:TypeId} {pos:String} {after:Array Edge} {s:St} {f:Operand} {args:Array Operand} {ts:Array TypeId} {idl:Nat} {ps:List PV} (qs:List PV) {R:PV->aI->Prop} (hf:opd s f=some (.yld idl)) (hps:lG s args.toList=some ps) (hw:WkL ps qs) (h:PY P idl qs s.st R):
  OpZ P ⟨dst, .call ⟨.value f,args,ts⟩,ty,pos,after,none⟩ s λx=>R x.2 x.1:=by
 intro w g ρ hm hρ
 have rf:=hρ f (by simp [Op.operands,Call.operands]) _ hf
 have ra:=jC hps (g:=g) (ρ:=ρ) (λx hx=>hρ x (by simp [Op.operands,Call.operands];exact .inr (by simpa using hx)))
 simp only [Rep] at rf
 obtain ⟨b,n,cap,e1,e2⟩:=rf
 rw [awO rfl e2,show args.map ρ=(args.toList.map ρ).toArray from by apply Array.toList_inj.1;simp]
 refine (h w g b (args.toList.map ρ) hm ⟨n,cap,e1⟩ (hw.rep ra)).mono ?_
 rintro v w' ⟨r,st',g',hR,h3,h4,h5,h6,h7⟩
 exact ⟨g',(st',r),hR,h3,h4,h5,h6,h7⟩
def St.nilR (n:Nat) (st:aI):St:=⟨λ_=>(true, .pv .und),λ_=>none,λ_=>false,st,n,false⟩
def aBR :List (Nat×PV)->(Nat->PV)->Nat->PV
 |[],f=>f
 |x::l,f=>aBR l (upd f x.1 x.2)
def abZ (l:List (Nat×PV)):Nat->PV:=aBR l λ_=> .und
def jA :List (Nat×PV)->St->St
 |[],s=>s
 |x::l,s=>jA l (s.pv x.1 x.2)
def azV (n:Nat) (st:aI) (l:List (Nat×PV)) (t0:Nat) (p:PV):St:=(jA l (St.nilR n st)).pv t0 p
def aAH (s:St):List (Nat×PV)->Prop
 |[]=>True
 |x::l=>s.env x.1=(true, .pv x.2)/\aAH s l
theorem wJ :∀(l:List (Nat×PV)) (s:St) (f:Nat->PV),(∀t,s.env t=(true, .pv (f t)))->∀t,(jA l s).env t=(true, .pv (aBR l f t))
 |[],_,_,h,t=>h t
 |x::l,s,f,h,t=>wJ l (s.pv x.1 x.2) (upd f x.1 x.2) (λu=>by
   show upd s.env x.1 _ u=_
   by_cases hu:u=x.1
   ·subst hu;rw [aA,aA]
   ·rw [aD hu,aD hu];exact h u) t
theorem aaO :∀(l:List (Nat×PV)) (s:St),(jA l s).L=s.L/\(jA l s).ad=s.ad/\(jA l s).st=s.st/\(jA l s).n=s.n/\(jA l s).top=s.top
 |[],_=>⟨rfl,rfl,rfl,rfl,rfl⟩
 |x::l,s=>aaO l (s.pv x.1 x.2)
theorem asQ {s:St} {g:G} {tmps:Array Value}:∀(l:List (Nat×PV)) (f:Nat->PV),(∀t,Rep g (f t) (tmps.getD t undef))->(∀x∈l,Rep g x.2 (tmps.getD x.1 undef))->∀t,Rep g (aBR l f t) (tmps.getD t undef)
 |[],_,h,_,t=>h t
 |x::l,f,h,hl,t=>asQ (s:=s) l (upd f x.1 x.2) (λu=>by
   by_cases hu:u=x.1
   ·subst hu;rw [aA];exact hl x (by simp)
   ·rw [aD hu];exact h u) (λy hy=>hl y (List.mem_cons_of_mem _ hy)) t
theorem acP {s:St}:∀{l:List (Nat×PV)},aAH s l->∀x∈l,s.env x.1=(true, .pv x.2)
 |_::_,h,x,hx=>by
  rcases zmc.1 hx with rfl|hx
  ·exact h.1
  ·exact acP h.2 x hx
theorem SI.act {c:Ctx} {s:St} {a a':Act} {w:World} {g:G} {lam:Nat->Nat} (hs:SI P c s a w g lam) (ht:a'.tmps=a.tmps) (hd:DfOK c a' g):SI P c s a' w g lam:=
 ⟨hs.mem,hs.le,hs.frame,hs.blk,λt=>by rw [ht];exact hs.env t,hs.box,hs.inj,hs.ad,hs.adL,hd,by rw [ht];exact hs.n,hs.top⟩
theorem tE {st:aI} {w:World} {g:G} (hm:MemOK P st w g) {idl b n m cap:Nat} {env:Nat->PV} {ps:Array Nat} {assign body:Code} {q q':LoopState} (hst:st idl=some (.loop q n env ps assign body)) (hio:g.io idl=some (b,m,cap)):
  ∃r:Loop,w.heap[b]?=some (.loop r)/\r.state=q/\r.pending=none/\r.params=ps/\r.assign=assign/\r.body=body/\r.tmps.size=n/\(∀t,Rep g (env t) (r.tmps.getD t undef))/\(let w':=w.putObj b (.loop {r with state:=q'})
  MemOK P (upd st idl (some (.loop q' n env ps assign body))) w' {g with heap:=w'.heap}/\Le g {g with heap:=w'.heap}/\Frame (Blocks st g) w g w' {g with heap:=w'.heap}/\(∀b',Blocks (upd st idl (some (.loop q' n env ps assign body))) {g with heap:=w'.heap} b'->Blocks st g b'\/w.heap.size<=b')):=by
 have hob:=hm.obj idl _ hst
 simp only [ObjOK] at hob
 obtain ⟨b',m',cap',fn,tmps,dfs,h1,h2,h3,h4,h5⟩:=hob
 rw [hio] at h1;injection h1 with h1;injection h1 with h1 h1';injection h1' with h1' h1'';subst h1;subst h1''
 rw [hm.heap] at h3
 refine ⟨_,h3,rfl,rfl,rfl,rfl,rfl,h4,h5, ?_⟩
 have hlt:=bI h3
 exact gF (y:= .loop {state:=q',pending:=none,fn,tmps,params:=ps,assign,body,defers:=dfs}) hm (by rw [hst];simp) (by simp [Go.Abs.blk,hio,h2]) h3 rfl (λi hi=>by simp only [World.putObj,aW,h3];simp [hlt]) (λh=>by obtain ⟨a1,a2,a3,_⟩:=hm.fmm b h;rw [h3] at a3;cases a3) λhle=>by
  simp only [ObjOK]
  exact ⟨b,m,cap,fn,tmps,dfs,hio,h2,by simp [World.putObj,hlt],h4,λt=>Rep.mono hle _ _ (h5 t)⟩
theorem aGw {idl n t0:Nat} {l:List (Nat×PV)} {assign body:Code} {st:aI} {p:PV} {R:aI->Prop} (hst:st idl=some (.loop .ready n (abZ l) #[t0] assign body)) (ht0:t0<n)
  (h:PWp P assign (λe s'=>e= .normal/\s'.st idl=some (.loop .ready n (abZ l) #[t0] assign body)/\PWp P body (λe s''=>e= .normal/\∃st2,StSub st2 s''.st/\st2 idl=some (.loop .busy n (abZ l) #[t0] assign body)/\R (upd st2 idl (some (.loop .ready n (abZ l) #[t0] assign body)))) (s'.sst (upd s'.st idl (some (.loop .busy n (abZ l) #[t0] assign body))))) (azV n st l t0 p)):
  PY P idl [p] st λr S=>r= .val (.bool true)/\R S:=by
 rintro w g b vs hm ⟨m,cap,hio⟩ hr
 simp only [RepL] at hr
 obtain ⟨v,vs',rfl,hv,rfl⟩:=hr
 obtain ⟨r,k1,k2,k3,k4,k5,k6,k7,k8,_⟩:=tE (q':= .busy) hm hst hio
 rw [run_yield k1 (by rw [k4];rfl)]
 simp only [OpRes]
 rw [k4,k5,k6]
 have htm:(#[t0].zip [v].toArray).foldl (λtmps (x:Nat×Value)=>tmps.setIfInBounds x.1 x.2) r.tmps=r.tmps.setIfInBounds t0 v:=by simp
 rw [htm]
 obtain ⟨i1,i2,i3,i4,i5⟩:=aaO l (St.nilR n st)
 have hsi:SI P ⟨w,g,Blocks st g,some b⟩ (azV n st l t0 p) {tmps:=r.tmps.setIfInBounds t0 v,defers:=[]} w g (λ_=>0):={
  mem:=by show MemOK P (jA l (St.nilR n st)).st w g;rw [i3];exact hm
  le:=Le.refl g
  frame:=Frame.refl _ w g
  blk:=λb' hb=>by
   have hb:Blocks (jA l (St.nilR n st)).st g b':=hb
   rw [i3] at hb;exact .inl hb
  env:=λt=>by
   show EntOK g _ (upd (jA l (St.nilR n st)).env t0 (true, .pv p) t) _
   by_cases ht:t=t0
   ·subst ht
    rw [aA]
    simp only [EntOK]
    rw [<-k7] at ht0
    simpa [Array.getElem?_setIfInBounds,ht0] using hv
   ·rw [aD ht,wJ l (St.nilR n st) (λ_=> .und) (λ_=>rfl) t]
    have:=k8 t
    unfold abZ at this
    simp only [EntOK]
    simpa [Array.getElem?_setIfInBounds_ne (Ne.symm ht)] using this
  box:=λt T cs e=>by
   have e:(jA l (St.nilR n st)).L t=some (T,cs):=e
   rw [i1] at e;cases e
  inj:=λt t' e=>by
   have e:(jA l (St.nilR n st)).L t≠none:=e
   rw [i1] at e;exact absurd rfl e
  ad:=λt b' u off e=>by
   have e:upd (jA l (St.nilR n st)).env t0 (true, .pv p) t=(b', .adr u off):=e
   by_cases ht:t=t0
   ·rw [ht,aA] at e;cases e
   ·rw [aD ht,wJ l (St.nilR n st) (λ_=> .und) (λ_=>rfl) t] at e;cases e
  adL:=λt e=>by
   have e:(jA l (St.nilR n st)).L t≠none:=e
   rw [i1] at e;exact absurd rfl e
  defers:=⟨[],rfl,List.nodup_nil,λ_ h=>by cases h⟩
  n:=by show (r.tmps.setIfInBounds t0 v).size=(jA l (St.nilR n st)).n;rw [i4];simp [St.nilR,k7]
  top:=λe=>by
   have e:(jA l (St.nilR n st)).top=true:=e
   rw [i5] at e;cases e}
 refine roundIn_of_wpIn trivial (wpIn_mono (h _ _ _ _ _ hsi) ?_)
 rintro e a₁ w₁ ⟨s',g',lam',⟨rfl,hl,hbody⟩,hs'⟩
 have hio':g'.io idl=some (b,m,cap):=hs'.le.io _ _ hio
 obtain ⟨r1,j1,j2,j3,j4,j5,j6,j7,j8,q1,q2,q3,q4⟩:=tE (q':= .busy) hs'.mem hl hio'
 refine ⟨_,run_beginRound j1 j2,wpIn_mono (hbody _ _ _ _ _ (hs'.step q1 q2 q3 q4)) ?_⟩
 rintro e a₂ w₂ ⟨s'',g'',lam'',⟨rfl,st2,hsub,hl2,hR⟩,hs''⟩
 have hio'':g''.io idl=some (b,m,cap):=hs''.le.io _ _ hio
 obtain ⟨r2,x1,x2,x3,x4,x5,x6,x7,x8,y1,y2,y3,y4⟩:=tE (q':= .ready) (hs''.mem.sub hsub) hl2 hio''
 have hend:=run_endRound (P:=P) none x1
 have hrec:({r2 with state:=if (none:Option Code).isNone=true then LoopState.ready else LoopState.done,pending:=none}:Loop)={r2 with state:= .ready}:=by
  cases r2
  simp only at x3
  subst x3
  rfl
 refine ⟨_,_,hend,_,rfl, .val (.bool true),_,_,⟨rfl,hR⟩,by simp [Rep], ?_,hs''.le.trans y2, ?_,λb' hb'=> ?_⟩
 ·rw [hrec];exact y1
 ·refine hs''.frame.trans (B':=Blocks st2 g'') ?_ λb' hb' hbb=>(hs''.blk b' (hbb.sub hsub)).resolve_right (by omega)
  rw [hrec];exact y3
 ·rcases y4 b' hb' with h'|h'
  ·exact hs''.blk b' (h'.sub hsub)
  ·right;have:w.heap.size<=w₂.heap.size:=hs''.frame.size
   omega
theorem aoS {x t0:Nat} {assign body:Code} {s:St} {Q:Exit->St->Prop} (l:List (Nat×PV)) {fid:FuncId} {caps:List PV} (hx:s.env x=(true, .pv (.fn fid caps))) (htop:s.top=true) (henv:aAH s l) (R:Nat->aI->Prop)
    (h:∀idl,s.st idl=none->PC P fid (.yld idl::caps) (upd s.st idl (some (.loop .ready s.n (abZ l) #[t0] assign body))) λ_ S=>S idl=some (.loop .ready s.n (abZ l) #[t0] assign body)/\R idl S)
    (k:∀idl S,s.st idl=none->R idl S->Q .normal (s.sst (upd S idl none))):PWp P (.rangeFunc (.tmp x) #[t0] assign body) Q s:=by
  intro c a w g lam hs
  have hro:(FR c.ro).round=none:=hs.top htop
  have hax:=hs.env x
  rw [hx] at hax
  simp only [EntOK,Rep] at hax
  obtain ⟨cvs,hax,hcv⟩:=hax
  refine wpIn_rangeFunc λfn _=> ?_
  rw [hro]
  obtain ⟨m1,m2,m3⟩:=iY hs.mem (.deferred (some []))
  have hs1:=hs.world m1 m2 (m3.mono λ_ h=>h.elim)
  obtain ⟨Ds,d1,d2,d3⟩:=hs1.defers
  have hDnew:(w.alloc (.deferred (some []))).heap[w.heap.size]?=some (.deferred (some [])):=World.alloc_heap_new _ _
  have hs2:SI P c s {a with defers:=pW w.heap.size::a.defers} (w.alloc (.deferred (some []))) {g with heap:=(w.alloc (.deferred (some []))).heap} lam:=hs1.act rfl ⟨w.heap.size::Ds,by rw [zmp];exact congrArg _ d1,List.nodup_cons.2 ⟨λhm=>by
    obtain ⟨Ds',e1,e2,e3⟩:=hs.defers
    have:Ds=Ds':=List.map_inj_right (λa b h=>by simp only [pW,Deferred.mk.injEq,Target.collected.injEq] at h;exact h.1)|>.1 (d1.symm.trans e1)
    subst this
    have:=bI (e3 _ hm).1
    rw [hs.mem.heap] at this;omega,d2⟩,λD hD=>by
      rcases zmc.1 hD with rfl|hD
      · exact ⟨hDnew,hs.frame.size⟩
      · exact d3 D hD⟩
  obtain ⟨idl,g2,f1,f2,f3,q1,q2,q3,q4⟩:=asJ hs2.mem (.loop {state:= .ready,pending:=none,fn,tmps:=a.tmps,params:= #[t0],assign,body,defers:=w.heap.size}) (.loop .ready s.n (abZ l) #[t0] assign body) λg' id hle hh hio hb hold hfr hfm=>by
    simp only [ObjOK]
    refine ⟨_,0,1,fn,a.tmps,w.heap.size,hio,by omega,hb,hs.n,λt=>asQ (s:=s) l (λ_=> .und) (λ_=>trivial) (λy hy=> ?_) t⟩
    have:=hs2.env y.1
    rw [acP henv y hy] at this
    exact Rep.mono hle _ _ this
  have hs3:=hs2.step q1 q2 q3 q4
  have hw1:(w.alloc (.deferred (some []))).heap.size=w.heap.size+1:=World.size_alloc _ _
  rw [hw1] at f3
  obtain ⟨hc,hcall⟩:=h idl f2
  have hle0:Le g g2:=m2.trans q2
  let W1:World:=(w.alloc (.deferred (some []))).alloc (.loop {state:= .ready,pending:=none,fn,tmps:=a.tmps,params:= #[t0],assign,body,defers:=w.heap.size})
  refine ⟨w.heap.size+1,[pW w.heap.size],W1,{target:= .fn (.func fid) cvs.toArray,args:= #[.func (.yield (w.heap.size+1)) #[] #[]]},W1,fid, #[.func (.yield (w.heap.size+1)) #[] #[]]++cvs.toArray,W1,run_enterLoop_outer _ _ _ _ _, ?_,λ_ _=>trivial, ?_,λh=>by simp [FR,Fence.wide] at h,zV ?_⟩
  · have:a.eval (.tmp x)= .func (.func fid) #[] cvs.toArray:=hax
    simp only [resolve,rangeCall,this,Deferred.ofValue,Sem.run_pure]
    simp [Act.eval]
  · unfold gY at hc
    split at hc
    · rename_i fnn hfn
      rw [zba] at hc
      have h1 : (fnn.name == "runtime.NumGoroutine") = false := by simpa using hc.1
      have h2:fnn.body.isNone=false:=by cases hb:fnn.body<;>simp_all
      simp only [invoke,callFunc,Sem.run_bind,run_program,hfn,Result.andThen_ok,h1,h2,Bool.false_eq_true,if_false,Sem.run_pure]
    · cases hc
  · have:=hcall W1 g2 (.func (.yield (w.heap.size+1)) #[] #[]::cvs) q1 (by simp only [RepL];exact ⟨_,cvs,rfl,by simp only [Rep];exact ⟨_,_,_,f3,rfl⟩,RepL.mono hle0 _ _ hcv⟩)
    rw [show (#[.func (.yield (w.heap.size+1)) #[] #[]]++cvs.toArray:Array Value)=(.func (.yield (w.heap.size+1)) #[] #[]::cvs).toArray from by apply Array.toList_inj.1;simp]
    refine this.mono ?_
    rintro e w₃ ⟨v,r,S,g₃,rfl,⟨hl,hR⟩,h3,h4,h5,h6,h7⟩
    have hs4:=hs3.step h4 h5 h6 h7
    have hio4:g₃.io idl=some (w.heap.size+1,0,1):=h5.io _ _ f3
    obtain ⟨r4,x1,x2,x3,x4,x5,x6,x7,x8,y1,y2,y3,y4⟩:=tE (q':= .exhausted) h4 hl hio4
    refine ⟨r4.pending,_,run_endLoop (P:=P) x1 (by rw [x2];simp), ?_⟩
    have hs5:=hs4.step (st':=upd S idl (some (.loop .exhausted s.n (abZ l) #[t0] assign body))) y1 y2 y3 y4
    split
    case h_2 hh=>rw [x3] at hh;cases hh
    refine ⟨s.sst (upd S idl none),_,lam,k idl S f2 hR,hs5.sub (s2:=s.sst (upd S idl none)) ⟨λ_=> .inr rfl,λ_ _ e=>e,λj=>by
      show upd S idl none j=none\/upd S idl none j=upd S idl _ j
      by_cases hj:j=idl
      · left;rw [hj,aA]
      · right;rw [aD hj,aD hj],rfl,λe=>e,hs5.ad,hs5.adL⟩⟩
end
end
section
section
variable {P:Program} {tt:TT}
variable {K V:Type} [DecidableEq K] {kt:TypeId} {enc:K->Value} {rep:K->PV} {f:V->PV}
theorem Stamps.erase {ents:List MapEntry} {clock:Nat} (h:qT ents clock) (j:Nat):qT (ents.eraseIdx j) clock:=
 ⟨λe he=>h.1 e (List.mem_of_mem_eraseIdx he),h.2.sublist ((List.eraseIdx_sublist ents j).map _)⟩
end
section
variable {P:Program} {tt:TT} {l:List Oper} {d:Md} {r:List Oper} {s:St} {K:St->Prop} {t:Nat} {ty:TypeId} {pos:String} {after:Array Edge}
theorem tT {f:Operand} {args:Array Operand} {ts:Array TypeId} {gd:Option (Nat×Bool)} {fid:FuncId} {caps ps:List PV} {w:Bool} {p:PV} (hw:bJ l ⟨some t, .call ⟨.value f,args,ts⟩,ty,pos,after,gd⟩ s=some w) (hf:opd s f=some (.fn fid caps)) (hps:lG s args.toList=some ps) (h:w=true->PF P fid (ps.map soft++caps) p) (hfl:All (flagsI s w (f::args.toList) [])) (hd:Nat.blt t s.n=true)
  (ht:cQ d l r=true) (k:Ev P l d r (s.put (some t) w (.pv p)) K):Ev P l d (⟨some t, .call ⟨.value f,args,ts⟩,ty,pos,after,gd⟩::r) s K:=
 arG (ps.map soft) hw hf hps (WkL.soft ps) h hfl hd ht k
theorem SI.wkSlot {c:Ctx} {a:Act} {w:World} {g:G} {lam:Nat->Nat} (hs:SI P c s a w g lam) (u:Nat) {p q:PV} (hx:s.env u=(true, .pv p)) (hq:Wk p q):SI P c (s.pv u q) a w g lam:=
 ⟨hs.mem,hs.le,hs.frame,hs.blk,λt=>by
  show EntOK g lam (upd s.env u _ t) _
  by_cases ht:t=u
  ·subst ht
   rw [aA]
   have:=hs.env t
   rw [hx] at this
   exact hq g _ this
  ·rw [aD ht];exact hs.env t,hs.box,hs.inj,λt b v off e=>by
  have e':upd s.env u (true, .pv q) t=(b, .adr v off):=e
  by_cases ht:t=u
  ·rw [ht,aA] at e';cases e'
  ·rw [aD ht] at e';exact hs.ad t b v off e',hs.adL,hs.defers,hs.n,hs.top⟩
theorem aDU {o:Oper} (u:Nat) {p q:PV} (hx:s.env u=(true, .pv p)) (hq:Wk p q) (k:Ev P l .seq (o::r) (s.pv u q) K):Ev P l .seq (o::r) s K:=λc a w g lam hs=>k c a w g lam (hs.wkSlot u hx hq)
end
end
section
section
variable {P:Program} {tt:TT}
end
end
section
section
variable {P:Program} {tt:TT} {l:List Oper}
def lexO (l:List Oper) (md:Md):List Nat->Array Bool->Bool
 |[],listed=>(Region.ready .any l.toArray listed).isEmpty
 |k::ord,listed=>(Region.ready .any l.toArray listed).contains k&&(bif gH k md.z then (Region.ready .any l.toArray listed).all (λj=>Nat.beq j k) else ahT l md listed k)&&lexO l md ord (listed.setIfInBounds k true)
def qL (l:List Oper):List Nat->Option (List Oper)
 |[]=>some []
 |k::ord=>match l[k]?,qL l ord with
  |some o,some r=>some (o::r)
  |_,_=>none
def aqR (md md':Md):Nat->List Nat->Bool
 |_,[]=>true
 |p,k::ord=>gH p md'.z==gH k md.z&&gH p md'.r==gH k md.r&&aqR md md' (p+1) ord
theorem AAny.only {md:Md} {K:St->Prop} {i:Nat} {oi:Oper} {R:aI×PV->Prop} (hi:l[i]?=some oi) (hz:gH i md.z=true) (fuel:Nat) (listed:Array Bool) (s:St)
  (hall:(Region.ready .any l.toArray listed).all (λj=>Nat.beq j i)=true) (hr:i∈Region.ready .any l.toArray listed) (hy:ZOp P l oi s R) (H:∀x,R x->AAny P l md K fuel (listed.setIfInBounds i true) (s.turn oi x)):AAny P l md K (fuel+1) listed s:=by
 refine ⟨λh=>(by rw [h] at hr;cases hr),λj hj=> ?_⟩
 obtain rfl:j=i:=by
  have:=zal.1 hall j hj
  exact Nat.eq_of_beq_eq_true this
 unfold AOp;rw [hi];simp only [hz];exact ⟨R,hy,H⟩
theorem AAny.lexO {md md':Md} {K:St->Prop}:∀(ord:List Nat) (r:List Oper) (p:Nat) (listed:Array Bool) (s:St),qL l ord=some r->l.length=p+r.length->aqR md md' p ord=true->AdOK s->LOK l s->lexO l md ord listed=true->EvD P l md' r s K->AAny P l md K r.length listed s
 |[],r,_,_,_,hp,_,_,_,_,hB,h=>by
  simp only [qL,Option.some.injEq] at hp
  subst hp
  exact ⟨by simpa [Go.Abs.lexO] using hB,h⟩
 |k::ord,r,p,listed,s,hp,hlen,ht,hA,hLK,hB,h=>by
  simp only [qL] at hp
  cases h0:l[k]? with
  |none=>rw [h0] at hp;cases hp
  |some o=>
   cases h1:qL l ord with
   |none=>rw [h0,h1] at hp;cases hp
   |some r'=>
    rw [h0,h1] at hp
    injection hp with hp
    subst hp
    have hk:l.length-(r'.length+1)=p:=by rw [hlen];simp
    simp only [Go.Abs.lexO,zba] at hB
    obtain ⟨⟨hr,hf⟩,hB'⟩:=hB
    simp only [aqR,zba,beq_iff_eq] at ht
    obtain ⟨⟨tz,tr⟩,ht'⟩:=ht
    unfold EvD at h
    rw [hk,tz,tr] at h
    have ho:o∈l:=List.mem_of_getElem? h0
    have rest:∀s',AdOK s'->LOK l s'->EvD P l md' r' s' K->AAny P l md K r'.length (listed.setIfInBounds k true) s':=λs' hA' hL' h'=>
     AAny.lexO ord r' (p+1) _ _ h1 (by rw [hlen];simp;omega) ht' hA' hL' hB' h'
    cases hz:gH k md.z with
    |true=>
     rw [hz] at h hf
     obtain ⟨R,hR,hK⟩:=h
     exact AAny.only h0 hz r'.length listed s hf (by simpa using hr) hR λx hx=>rest _ hA.turn (hLK.turn ho) (hK x hx)
    |false=>
     rw [hz] at h hf
     obtain ⟨T,hT,hK⟩:=h
     exact AAny.first h0 hz r'.length listed s (nU h0 hf) hA hLK (by simpa using hr) hT (rest _ (hT.adOK hA) (hLK.step ho hT hA) hK)
def aBQ (l r:List Oper) (md md':Md) (ord:List Nat):Bool:=Nat.beq l.length r.length&&aqR md md' 0 ord&&lexO l md ord (Array.replicate l.length false)
theorem avZ {md md':Md} {r:List Oper} {id:Nat} {Q:Exit->St->Prop} {s:St} (ord:List Nat) (hm:P.follows .mixedOrders=true) (hp:qL l ord=some r) (hB:aBQ l r md md' ord=true) (hF:agG l s=true) (h:EvD P l md' r s (Q .normal)):PWp P (.region id l.toArray true) Q s:=by
 intro c a w g lam hs
 refine wpIn_region_any hm ?_
 obtain ⟨h1,h2⟩:=mQ hs.mem (w.drawn+1) (Nat.le_succ _)
 have hs':=hs.world h1 (Le.refl g) (h2.mono λ_ h=>h.elim)
 simp only [aBQ,zba] at hB
 obtain ⟨⟨b1,b2⟩,b3⟩:=hB
 have b1:l.length=r.length:=Nat.eq_of_beq_eq_true b1
 have:=AAny.lexO ord r 0 (Array.replicate l.length false) s hp (by rw [b1];simp) b2 hs.adOK (LOK.init hs.adOK hF) b3 h
 rw [<-b1] at this
 have:=AAny.sound (Q:=λe a' w'=>∃s' g' lam',Q e s'/\SI P c s' a' w' g' lam') (λs a w g lam hk hs=>⟨s,g,lam,hk,hs⟩) _ _ _ _ _ _ _ hs' this
 simpa using this
theorem wDO (pk:Pk P tt) (ord z0 rd0 z rd:List Nat) {s:St} {id:Nat} {ops:Array Oper} {r:List Oper} {k:List Fr} {Q:Exit->St->Prop} {a b g:Prop} (_hsz:Nat.beq ops.size ord.length=true) (hp:qL ops.toList ord=some r) (hl:aBQ ops.toList r (.draw z0 rd0) (.draw z rd) ord=true) (hF:agG ops.toList s=true) (h:aiS P tt ops.toList (.draw z rd) r s k Q= .mk a b g) (ha:a) (hb:b) (hg:g):PWp P (.region id ops true) (jD P k Q) s:=by
 have:=goE pk h ha hb hg
 have:=avZ (l:=ops.toList) (id:=id) (Q:=jD P k Q) ord pk.hm hp hl hF (by
  have e:=this
  exact e)
 simpa using this
def aEl (l:List Oper) (md:Md):List Nat->Array Bool->Bool
 |[],_=>true
 |k::ord,listed=>(Region.ready .any l.toArray listed).contains k&& !gH k md.z&& !gH k md.r&&ahT l md listed k&&aEl l md ord (listed.setIfInBounds k true)
def pS :List Nat->Array Bool->Array Bool
 |[],listed=>listed
 |k::ord,listed=>pS ord (listed.setIfInBounds k true)
theorem AAny.pre {md:Md} {K K':St->Prop} (n:Nat):∀(ord:List Nat) (r:List Oper) (listed:Array Bool) (s:St),qL l ord=some r->AdOK s->LOK l s->aEl l md ord listed=true->EvD P l (.draw [] []) r s K'->(∀s',AdOK s'->LOK l s'->K' s'->AAny P l md K n (pS ord listed) s')->AAny P l md K (n+r.length) listed s
 |[],r,listed,s,hp,hA,hLK,_,h,hk=>by
  simp only [qL,Option.some.injEq] at hp
  subst hp
  exact hk s hA hLK h
 |k::ord,r,listed,s,hp,hA,hLK,hB,h,hk=>by
  simp only [qL] at hp
  cases h0:l[k]? with
  |none=>rw [h0] at hp;cases hp
  |some o=>
   cases h1:qL l ord with
   |none=>rw [h0,h1] at hp;cases hp
   |some r'=>
    rw [h0,h1] at hp
    injection hp with hp
    subst hp
    simp only [aEl,zba,Bool.not_eq_true'] at hB
    obtain ⟨⟨⟨⟨hr,hz⟩,hrd⟩,hf⟩,hB'⟩:=hB
    have ho:o∈l:=List.mem_of_getElem? h0
    unfold EvD at h
    have e0:∀x,gH x (Md.draw [] []).z=false:=λ_=>rfl
    have e1:∀x,gH x (Md.draw [] []).r=false:=λ_=>rfl
    rw [e0,e1] at h
    obtain ⟨T,hT,hK⟩:=h
    have hT':AStep P l o s (gH k md.r) T:=by rw [hrd];exact hT
    exact AAny.first h0 hz (n+r'.length) listed s (nU h0 hf) hA hLK (by simpa using hr) hT' (AAny.pre n ord r' _ _ h1 (hT.adOK hA) (hLK.step ho hT hA) hB' hK λs'=>hk s')
end
end
section
section
variable {P:Program} {tt:TT} {l:List Oper} {d:Md} {r:List Oper} {s:St} {K:St->Prop} {t:Nat} {ty:TypeId} {pos:String} {after:Array Edge} {gd:Option (Nat×Bool)}
theorem aFx (pk:Pk P tt) {T kt e:TypeId} {x:Operand} {es:List (Value×PV)} (hx:opd s x=some (.fmap es)) (hT:tiK tt T=some (.map kt e)) (hf:bT s [x]=true) (hd:Nat.blt t s.n=true) (ht:kS d l r=true)
  (k:∀id,s.st id=none->Ev P l d r ((s.sst (upd s.st id (some (.iter none es)))).pv t (.ref id 0)) K):Ev P l d (⟨some t, .range T x,ty,pos,after,none⟩::r) s K:=by
 refine eT (awG pk.htt hx hT) (λz hz=>aR (λ_ _ _ e=>by cases e) hz) hf hd ht ?_
 rintro z ⟨id,h,rfl⟩
 exact k id h
theorem aGs {x:Operand} {id:Nat} {cur:Option (Value×PV)} {left:List (Value×PV)} (hx:opd s x=some (.ref id 0)) (hst:s.st id=some (.iter cur left)) (hf:bT s [x]=true) (hd:Nat.blt t s.n=true) (ht:kS d l r=true)
  (k1:left=[]->Ev P l d r ((s.sst s.st).pv t (.tup [.val (.bool false)])) K)
  (k2:∀i e,left[i]?=some e->Ev P l d r ((s.sst (upd s.st id (some (.iter (some e) (left.eraseIdx i))))).pv t (.tup [.val (.bool true), .und, .und])) K):Ev P l d (⟨some t, .next x false,ty,pos,after,none⟩::r) s K:=by
 refine eT (ayE hx hst) (λz hz=>aR (λ_ _ _ e=>by cases e) hz) hf hd ht ?_
 rintro z (⟨h,rfl⟩|⟨i,e,h,rfl⟩)
 ·exact k1 h
 ·exact k2 i e h
theorem aFg {w:Bool} {x:Operand} {id:Nat} {k:Value} {q p:PV} {left:List (Value×PV)} (hw:bJ l ⟨some t, .entry x,ty,pos,after,gd⟩ s=some w) (hx:opd s x=some (.ref id 0)) (hst:s.st id=some (.iter (some (k,p)) left)) (hq:∀g,Rep g q k) (hf:All (flagsI s w [x] [])) (hd:Nat.blt t s.n=true) (ht:tL d l r=true)
  (kk:Ev P l d r (s.put (some t) w (.pv (.tup [q,p]))) K):Ev P l d (⟨some t, .entry x,ty,pos,after,gd⟩::r) s K:=
 oZ hw (λ_=>atA rfl hx hst hq) (λz hz=>aR (λ_ _ _ e=>by cases e) hz) (flagsI.g hf).1 hd ht kk
theorem Rep.int {g:G} {k:IntKind} (n:Int):Rep g (.val (.int k n)) (.int k n):=by simp [Rep]
end
end
end Go.Abs
