import Derived.Test.YtfablfldonhkiaaGreatDoorAbsE
set_option linter.unusedSimpArgs false
set_option linter.unusedVariables false
namespace Go.Abs
open Go
section
section
variable {P:Program} {tt:TT}
theorem awG {st:aD} {w:World} {g:G} (hm:MemOK P st w g) (o:Obj) (o':AObj) (ho:∀g' id,Le g g'->g'.heap=(w.alloc o).heap->g'.io id=some (w.heap.size,0,1)->g'.heap[w.heap.size]?=some o->(∀b,b<w.heap.size->g'.heap[b]?=w.heap[b]?)->g'.fr w.heap.size=0->¬g'.fm w.heap.size->ObjOK P g' id o'):
  ∃id g',g.io id=none/\st id=none/\g'.io id=some (w.heap.size,0,1)/\MemOK P (upd st id (some o')) (w.alloc o) g'/\Le g g'/\Frame (Blocks st g) w g (w.alloc o) g'/\∀b',Blocks (upd st id (some o')) g' b'->Blocks st g b'\/w.heap.size<=b':=by
 obtain ⟨id,f1,f2⟩:=iW hm
 obtain ⟨m1,m2,m3⟩:=jA hm o
 let g':G:={g with heap:=(w.alloc o).heap,io:=upd g.io id (some (w.heap.size,0,1))}
 have hle:Le g g':=⟨mA f1,m2.fr,m2.cell,m2.fm⟩
 have hnb:(w.alloc o).heap[w.heap.size]?=some o:=by show (w.heap.push _)[_]?=_;simp
 have hfm:¬g.fm w.heap.size:=λh=>by
  obtain ⟨en,cl,e,_⟩:=hm.fmm _ h
  have:=bB e;omega
 have hfr:g.fr w.heap.size=0:=by
  rcases Nat.eq_zero_or_pos (g.fr w.heap.size) with h|h
  ·exact h
  ·have:=hm.lt w.heap.size (by omega);omega
 have hmem:=gH (w':=w.alloc o) (g':=g') (id:=id) (b':=w.heap.size) (n':=0) (cap':=1) (o':=o') hm f1 rfl rfl (λ_=> .inr rfl) (λb hb _=>(m3.old b hb (λh=>h)).1) (λ_ _=>rfl) rfl (λ_=>hfm) m3.size (λ_=>bB hnb) hle
  (ho g' id hle rfl (aA _ _ _) hnb (λb hb=>(m3.old b hb (λh=>h)).1) hfr hfm)
 have e1:upd (upd st id none) id (some o')=upd st id (some o'):=by
  funext j
  by_cases h:j=id
  ·rw [h,aA,aA]
  ·rw [aB h,aB h,aB h]
 rw [e1] at hmem
 refine ⟨id,g',f1,f2,aA _ _ _,hmem,hle,⟨m3.os,m3.tape,m3.output,m3.size,λb hb hn=>⟨(m3.old b hb (λh=>h)).1,rfl,Iff.rfl⟩⟩,λb' ⟨j,j1,j2⟩=> ?_⟩
 by_cases h:j=id
 ·subst h
  right
  simp [Go.Abs.blk,g',aA] at j2
  omega
 ·rw [aB h] at j1
  refine .inl ⟨j,j1, ?_⟩
  unfold Go.Abs.blk at j2⊢
  rwa [show g'.io j=g.io j from aB h] at j2
theorem aAe {t:Nat} {ty:TypeId} {pos:String} {after:Array Edge} {s:St} {T kt e:TypeId} {x:Operand} {es:List (Value×PV)} (htt:bD P tt) (hx:opd s x=some (.fmap es)) (hT:tiK tt T=some (.map kt e)):
  OpZ P ⟨some t, .range T x,ty,pos,after,none⟩ s λz=>∃id,s.st id=none/\z=(upd s.st id (some (.iter none es)), .ref id 0):=by
 intro w g ρ hm hρ
 have rx:=hρ x (by simp [Op.operands]) _ hx
 simp only [Rep] at rx
 obtain ⟨bm,ents,clock,hxv,h2,h3,h4⟩:=rx
 rw [hm.heap] at h3
 have hu:=sL (aK htt hT).1
 have hrun:(execOp ρ (⟨some t, .range T x,ty,pos,after,none⟩:Oper)).run P w= .ok (.value (.pointer (some ⟨w.heap.size,0,none⟩))) (w.alloc (.mapIter (some bm) clock #[] clock)):=by
  simp [execOp,Instr.range,run_underlying hu,hxv,MapKept.run_getObj_map h3]
 rw [hrun]
 have hlt:=bB h3
 obtain ⟨ents0,clock0,e0,hst0⟩:=hm.fmm bm h2
 rw [h3] at e0;injection e0 with e0;injection e0 with e1 e2;subst e1;subst e2
 obtain ⟨id,g',f1,f2,f3,q1,q2,q3,q4⟩:=awG hm (.mapIter (some bm) clock #[] clock) (.iter none es) (λg' id hle hh hio hb hold _ _=>by
  simp only [ObjOK]
  refine ⟨w.heap.size,0,1,bm,ents,clock, #[],hio,by omega,hb,(hle.fm bm h2).1,(hold bm hlt).trans h3,hst0, ?_,λk p e=>by cases e⟩
  have:(ents.toList.filter λe=> !(#[]:Array Nat).contains e.born)=ents.toList:=by simp
  rw [this]
  exact RepE.mono hle _ _ h4)
 exact ⟨g',_,⟨id,f2,rfl⟩,by simp only [Rep];exact ⟨w.heap.size,0,1,f3,rfl⟩,q1,q2,q3,q4⟩
theorem RepE.get {g:G}:∀{es:List (Value×PV)} {ms:List MapEntry} {j:Nat} {m:MapEntry},RepE g es ms->ms[j]?=some m->∃k p,es[j]?=some (k,p)/\m.key=k/\Rep g p m.val
  |[],ms,j,m,h,hj=>by simp only [RepE] at h;subst h;simp at hj
  |(k,p)::es,ms,j,m,h,hj=>by
    simp only [RepE] at h
    obtain ⟨m0,ms',rfl,h1,h2,h3⟩:=h
    cases j with
    |zero=>simp at hj;subst hj;exact ⟨k,p,rfl,h1,h2⟩
    |succ j=>simp at hj;simpa using RepE.get h3 hj
theorem RepE.len {g:G}:∀{es:List (Value×PV)} {ms:List MapEntry},RepE g es ms->ms.length=es.length
  |[],ms,h=>by simp only [RepE] at h;subst h;rfl
  |(k,p)::es,ms,h=>by
    simp only [RepE] at h
    obtain ⟨m0,ms',rfl,h1,h2,h3⟩:=h
    simp [RepE.len h3]
theorem RepE.erase {g:G}:∀{es:List (Value×PV)} {ms:List MapEntry} (j:Nat),RepE g es ms->RepE g (es.eraseIdx j) (ms.eraseIdx j)
  |[],ms,j,h=>by simp only [RepE] at h;subst h;simp [RepE]
  |(k,p)::es,ms,j,h=>by
    simp only [RepE] at h
    obtain ⟨m0,ms',rfl,h1,h2,h3⟩:=h
    cases j with
    |zero=>simpa using h3
    |succ j=>simp only [List.eraseIdx_cons_succ,RepE];exact ⟨m0,_,rfl,h1,h2,RepE.erase j h3⟩
theorem oR {α:Type} (f:α->Nat):∀{l:List α} {j:Nat} {x:α},(l.map f).Nodup->l[j]?=some x->l.filter (λy=>decide (f y≠f x))=l.eraseIdx j
 |[],j,x,_,h=>by simp at h
 |y::l,0,x,hn,h=>by
  simp at h;subst h
  simp only [zmp,List.nodup_cons] at hn
  rw [List.filter_cons_of_neg (by simp),List.eraseIdx_cons_zero]
  exact List.filter_eq_self.2 λz hz=>by
   simp only [ne_eq,zde]
   intro e;exact hn.1 (List.mem_map.2 ⟨z,hz,e⟩)
 |y::l,j+1,x,hn,h=>by
  simp at h
  simp only [zmp,List.nodup_cons] at hn
  have hne:f y≠f x:=λe=>hn.1 (List.mem_map.2 ⟨x,List.mem_of_getElem? h,e.symm⟩)
  rw [List.filter_cons_of_pos (by simpa using hne),List.eraseIdx_cons_succ,oR f hn.2 h]
theorem vC {α:Type} (f:α->Nat) (p:α->Bool) {l:List α} (h:(l.map f).Nodup):((l.filter p).map f).Nodup:=
 h.sublist (List.filter_sublist.map f)
theorem adP (n:Nat) (h:0<n) (w:World):∃j w1,(choose (.mapNext n)).run P w= .ok j w1/\j<n/\(w1=w\/w1={w with drawn:=w.drawn+1}):=by
 rw [run_choose_drew]
 by_cases hf:Question.forced (.mapNext n)=true
 ·rw [zp hf];exact ⟨0,w,rfl,h, .inl rfl⟩
 ·rw [zn hf];exact ⟨_,_,rfl,Nat.mod_lt _ h, .inr rfl⟩
theorem aA6 {t:Nat} {ty:TypeId} {pos:String} {after:Array Edge} {s:St} {x:Operand} {id:Nat} {cur:Option (Value×PV)} {left:List (Value×PV)} (hx:opd s x=some (.ref id 0)) (hst:s.st id=some (.iter cur left)):
    OpZ P ⟨some t, .next x false,ty,pos,after,none⟩ s λz=>(left=[]/\z=(s.st, .tup [.val (.bool false)]))\/∃i e,left[i]?=some e/\z=(upd s.st id (some (.iter (some e) (left.eraseIdx i))), .tup [.val (.bool true), .und, .und]):=by
  intro w g ρ hm hρ
  have rx:=hρ x (by simp [Op.operands]) _ hx
  simp only [Rep] at rx
  obtain ⟨b,n,cap,hio,hxv⟩:=rx
  have hob:=hm.obj id _ hst
  have hblt:∀{b'},Go.Abs.blk g id=some b'->b'<w.heap.size:=λh=>aAY hm (by rw [hst];simp) h
  simp only [ObjOK] at hob
  obtain ⟨b',n',cap',bm,ents,clock,seen,h1,h2,h3,h4,h5,h6,h7,h8⟩:=hob
  rw [hio] at h1;injection h1 with h1;injection h1 with h1 h1';injection h1' with h1' h1'';subst h1;subst h1''
  rw [hm.heap] at h3 h5
  have hblk:Go.Abs.blk g id=some b:=by simp [Go.Abs.blk,hio,h2]
  have hg3:(getObj b).run P w= .ok (.mapIter (some bm) clock seen clock) w:=by simp [getObj,Sem.run,h3]
  have hg5:(getObj bm).run P w= .ok (.map ents clock) w:=MapKept.run_getObj_map h5
  have hc0:(!seen.isEmpty&& !ents.isEmpty&&ents.all (λe=>decide (e.born>=clock)))=false:=by
    cases hb:ents.isEmpty with
    |true=>rw [show ents= #[] from by simpa using hb];cases seen.isEmpty<;>rfl
    |false=>
      have:ents.all (λe=>decide (e.born>=clock))=false:=by
        rw [<-Bool.not_eq_true,Array.all_eq_true']
        intro hall
        have hne:ents.toList≠[]:=λh=>by
          have:ents= #[]:=by apply Array.toList_inj.1;rw [h]
          rw [this] at hb;simp at hb
        obtain ⟨e,he⟩:=List.exists_mem_of_ne_nil _ hne
        have:=hall e (by simpa using he)
        have h':=h6.1 e he
        simp at this;omega
      rw [this];simp
  let L:=ents.filter λe=> !seen.contains e.born
  have hold:L.filter (λe=>decide (e.born<clock))=L:=by
    apply Array.toList_inj.1
    rw [Array.toList_filter]
    exact List.filter_eq_self.2 λe he=>by
      have:e∈ents.toList:=by
        have:e∈L:=by simpa using he
        have:=(Array.mem_filter.1 this).1
        simpa using this
      simpa using h6.1 e this
  have hnew:L.filter (λe=>decide (e.born>=clock))= #[]:=by
    apply Array.toList_inj.1
    rw [Array.toList_filter]
    refine List.filter_eq_nil_iff.2 λe he=> ?_
    have:e∈ents.toList:=by
      have:e∈L:=by simpa using he
      have:=(Array.mem_filter.1 this).1
      simpa using this
    have:=h6.1 e this
    simp;omega
  let cands:Array (Option MapEntry):=(if L.isEmpty then #[none] else #[])++L.map some
  have hpos:0<cands.size:=by
    show 0<((if L.isEmpty then #[none] else #[])++L.map some).size
    cases hb:L.isEmpty with
    |true=>simp;omega
    |false=>simp;exact Array.size_pos_iff.2 (by simpa using hb)
  obtain ⟨j,w1,c1,c2,c3⟩:=adP (P:=P) cands.size hpos w
  have hm1:MemOK P s.st w1 g/\Frame (Blocks s.st g) w g w1 g/\w1.heap=w.heap:=by
    rcases c3 with rfl|rfl
    · exact ⟨hm,Frame.refl _ _ _,rfl⟩
    · exact ⟨(mV hm _ (Nat.le_succ _)).1,(mV hm _ (Nat.le_succ _)).2.mono λ_ h=>h.elim,rfl⟩
  obtain ⟨m1,m2,m3⟩:=hm1
  have hrun:(execOp ρ (⟨some t, .next x false,ty,pos,after,none⟩:Oper)).run P w=((match cands[j]? with
      |some (some e)=>do
        setObj b (.mapIter (some bm) clock (seen.push e.born) clock)
        pure (.tuple #[.bool true,e.key,e.val])
      |some none=>pure (.tuple #[.bool false])
      | none => stuck "Next: no such candidate" : Sem Value) >>= λv => pure (.value v) : Sem Next).run P w1 := by
    simp only [execOp,Instr.next,hxv,Sem.run_bind,hg3,hg5,Result.andThen_ok,hc0,Bool.false_eq_true,if_false,Sem.run_pure]
    have e1:((if (L.filter λe=>decide (e.born<clock)).isEmpty=true then #[none] else #[])++Array.map some ((L.filter λe=>decide (e.born<clock))++L.filter λe=>decide (e.born>=clock)))=cands:=by
      rw [hold,hnew,Array.append_empty]
    simp only [L] at e1
    rw [e1,c1]
    simp only [Result.andThen_ok]
    cases hj:cands[j]? with
    |none=>rfl
    |some o=>cases o<;>rfl
  rw [hrun]
  have hLl:L.toList=ents.toList.filter λe=> !seen.contains e.born:=by rw [Array.toList_filter]
  rw [<-hLl] at h7
  by_cases hL:L= #[]
  · have hleft:left=[]:=by
      have:=RepE.len h7
      rw [hL] at this
      exact List.length_eq_zero_iff.1 (by simpa using this.symm)
    have hc:cands= #[none]:=by
      show ((if L.isEmpty then #[none] else #[])++L.map some)=_
      rw [hL];simp
    rw [hc] at c2
    have hj0:j=0:=by simpa using c2
    have hcj:cands[j]?=some none:=by rw [hc,hj0];rfl
    rw [hcj]
    simp only [Sem.run_bind,Sem.run_pure,Result.andThen_ok,OpRes]
    exact ⟨g,_, .inl ⟨hleft,rfl⟩,by simp only [Rep];exact ⟨[.bool false],rfl,by simp only [RepL];exact ⟨_,_,rfl,by simp [Rep],rfl⟩⟩,m1,Le.refl g,m2,λb hb=> .inl hb⟩
  · have hc:cands=L.map some:=by
      show ((if L.isEmpty then #[none] else #[])++L.map some)=_
      rw [zn (by simpa using hL)];simp
    have hjL:j<L.size:=by rw [hc] at c2;simpa using c2
    have hLj:L[j]?=some L[j]:=by simp [hjL]
    have hcj:cands[j]?=some (some L[j]):=by rw [hc];simp [hjL]
    obtain ⟨k,p,e1,e2,e3⟩:=RepE.get h7 (j:=j) (m:=L[j]) (by rw [Array.getElem?_toList];exact hLj)
    rw [hcj]
    have hw1b:w1.heap[b]?=some (.mapIter (some bm) clock seen clock):=by rw [m3];exact h3
    have hso:(setObj b (.mapIter (some bm) clock (seen.push L[j].born) clock)).run P w1= .ok () {w1 with heap:=w1.heap.setIfInBounds b (.mapIter (some bm) clock (seen.push L[j].born) clock)}:=by
      simp [setObj,Sem.run,hw1b]
    simp only [Sem.run_bind,hso,Sem.run_pure,Result.andThen_ok,OpRes]
    have hne:bm≠b:=λe=>by rw [e,h3] at h5;cases h5
    have hlt:=bB hw1b
    have hmemL:L[j]∈ents.toList:=by
      have:L[j]∈L:=Array.getElem_mem hjL
      have:=(Array.mem_filter.1 this).1
      simpa using this
    have hfilter:(ents.toList.filter λe=> !(seen.push L[j].born).contains e.born)=L.toList.eraseIdx j:=by
      rw [<-oR (·.born) (x:=L[j]) (by rw [hLl];exact vC _ _ h6.2) (j:=j) (by rw [Array.getElem?_toList];exact hLj),hLl,List.filter_filter]
      refine List.filter_congr λe he=> ?_
      simp only [Array.contains_push]
      cases seen.contains e.born<;>simp [Bool.and_comm,eq_comm]<;>(try (by_cases hx:e.born=L[j].born<;>simp [hx]))
    obtain ⟨q1,q2,q3,q4⟩:=gC (o':= .iter (some (k,p)) (left.eraseIdx j)) (w':={w1 with heap:=w1.heap.setIfInBounds b (.mapIter (some bm) clock (seen.push L[j].born) clock)}) m1 (by rw [hst];simp) hblk hw1b rfl
      (λi hi=>by simp only [aT,hw1b];simp [hlt]) (λh=>by obtain ⟨a1,a2,a3,_⟩:=hm.fmm b h;rw [h3] at a3;cases a3) (λhle=>by
        simp only [ObjOK]
        refine ⟨b,n,cap,bm,ents,clock,seen.push L[j].born,hio,h2,by simp [hlt],h4, ?_,h6, ?_,λk' p' e=> ?_⟩
        · show (w1.heap.setIfInBounds b _)[bm]?=_
          rw [Array.getElem?_setIfInBounds_ne (Ne.symm hne),m3];exact h5
        · rw [hfilter];exact RepE.mono hle _ _ (RepE.erase j h7)
        · injection e with e;injection e with e4 e5;subst e4;subst e5
          exact ⟨L[j],hmemL,e2,Rep.mono hle _ _ e3,by simp⟩)
    refine ⟨_,_, .inr ⟨j,(k,p),e1,rfl⟩, ?_,q1,q2,m2.trans q3 λb' _ hb'=>hb',λb' hb'=>by
      rcases q4 b' hb' with h|h
      · exact .inl h
      · right;rw [m3] at h;exact h⟩
    simp only [Rep]
    exact ⟨[.bool true,L[j].key,L[j].val],rfl,by simp only [RepL];exact ⟨_,_,rfl,by simp [Rep],_,_,rfl,trivial,_,_,rfl,trivial,rfl⟩⟩
theorem axB {o:Oper} {s:St} {x:Operand} {id:Nat} {k:Value} {q p:PV} {left:List (Value×PV)} (ho:o.op= .entry x) (hx:opd s x=some (.ref id 0)) (hst:s.st id=some (.iter (some (k,p)) left)) (hq:∀g,Rep g q k):OpV P o s (.tup [q,p]):=by
 refine aI λw g ρ hm hρ=> ?_
 have rx:=hρ x (by rw [ho];simp [Op.operands]) _ hx
 simp only [Rep] at rx
 obtain ⟨b,n,cap,hio,hxv⟩:=rx
 have hob:=hm.obj id _ hst
 simp only [ObjOK] at hob
 obtain ⟨b',n',cap',bm,ents,clock,seen,h1,h2,h3,h4,h5,h6,h7,h8⟩:=hob
 rw [hio] at h1;injection h1 with h1;injection h1 with h1 h1';subst h1
 rw [hm.heap] at h3 h5
 obtain ⟨e,e1,e2,e3,e4⟩:=h8 k p rfl
 have hfind:ents.find? (λx=>x.born==e.born)=some e:=by
  rw [<-Array.find?_toList]
  have:∀{l:List MapEntry},(l.map (·.born)).Nodup->e∈l->l.find? (λx=>x.born==e.born)=some e:=by
   intro l
   induction l with
   |nil=>intro _ h;cases h
   |cons y l ih=>
    intro hn he
    simp only [zmp,List.nodup_cons] at hn
    rcases zmc.1 he with rfl|he
    ·simp
    ·have hne:y.born≠e.born:=λh=>hn.1 (List.mem_map.2 ⟨e,he,h.symm⟩)
     rw [List.find?_cons_of_neg (by simpa using hne)]
     exact ih hn.2 he
  exact this h6.2 e1
 refine ⟨.tuple #[e.key,e.val], ?_,by simp only [Rep];exact ⟨[e.key,e.val],rfl,by simp only [RepL];exact ⟨_,_,rfl,e2▸hq g,_,_,rfl,e3,rfl⟩⟩⟩
 simp [execOp,ho,Instr.entry,hxv,getObj,Sem.run,h3,h5,e4,hfind]
end
end
section
section
variable {P:Program} {tt:TT}
def PY (P:Program) (idl:Nat) (args:List PV) (st:aD) (R:PV->aD->Prop):Prop:=
 ∀w g b vs,MemOK P st w g->(∃n cap,g.io idl=some (b,n,cap))->RepL g args vs->
  OpRes P (λv w'=>∃r st' g',R r st'/\Rep g' r v/\MemOK P st' w' g'/\Le g g'/\Frame (Blocks st g) w g w' g'/\∀b,Blocks st' g' b->Blocks st g b\/w.heap.size<=b) ((Instr.yield b vs.toArray).run P w)
theorem aAm {w:World} {ρ:Operand->Value} {o:Oper} {f:Operand} {args:Array Operand} {ts:Array TypeId} {b:Nat} (ho:o.op= .call ⟨.value f,args,ts⟩) (hf:ρ f= .func (.yield b) #[] #[]):
  (execOp ρ o).run P w=(Instr.yield b (args.map ρ)).run P w:=by
 simp [execOp,ho,resolve,hf,Deferred.ofValue,invoke]
theorem azS {dst:Option Nat} {ty:TypeId} {pos:String} {after:Array Edge} {s:St} {f:Operand} {args:Array Operand} {ts:Array TypeId} {idl:Nat} {ps:List PV} (qs:List PV) {R:PV->aD->Prop} (hf:opd s f=some (.yld idl)) (hps:mB s args.toList=some ps) (hw:WkL ps qs) (h:PY P idl qs s.st R):
  OpZ P ⟨dst, .call ⟨.value f,args,ts⟩,ty,pos,after,none⟩ s λx=>R x.2 x.1:=by
 intro w g ρ hm hρ
 have rf:=hρ f (by simp [Op.operands,Call.operands]) _ hf
 have ra:=jD hps (g:=g) (ρ:=ρ) (λx hx=>hρ x (by simp [Op.operands,Call.operands];exact .inr (by simpa using hx)))
 simp only [Rep] at rf
 obtain ⟨b,n,cap,e1,e2⟩:=rf
 rw [aAm rfl e2,show args.map ρ=(args.toList.map ρ).toArray from by apply Array.toList_inj.1;simp]
 refine (h w g b (args.toList.map ρ) hm ⟨n,cap,e1⟩ (hw.rep ra)).mono ?_
 rintro v w' ⟨r,st',g',hR,h3,h4,h5,h6,h7⟩
 exact ⟨g',(st',r),hR,h3,h4,h5,h6,h7⟩
def St.nilR (n:Nat) (st:aD):St:=⟨λ_=>(true, .pv .und),λ_=>none,λ_=>false,st,n,false⟩
def aEc :List (Nat×PV)->(Nat->PV)->Nat->PV
 |[],f=>f
 |x::l,f=>aEc l (upd f x.1 x.2)
def adH (l:List (Nat×PV)):Nat->PV:=aEc l λ_=> .und
def jB :List (Nat×PV)->St->St
 |[],s=>s
 |x::l,s=>jB l (s.pv x.1 x.2)
def aB1 (n:Nat) (st:aD) (l:List (Nat×PV)) (t0:Nat) (p:PV):St:=(jB l (St.nilR n st)).pv t0 p
def aCP (s:St):List (Nat×PV)->Prop
 |[]=>True
 |x::l=>s.env x.1=(true, .pv x.2)/\aCP s l
theorem xC :∀(l:List (Nat×PV)) (s:St) (f:Nat->PV),(∀t,s.env t=(true, .pv (f t)))->∀t,(jB l s).env t=(true, .pv (aEc l f t))
 |[],_,_,h,t=>h t
 |x::l,s,f,h,t=>xC l (s.pv x.1 x.2) (upd f x.1 x.2) (λu=>by
   show upd s.env x.1 _ u=_
   by_cases hu:u=x.1
   ·subst hu;rw [aA,aA]
   ·rw [aB hu,aB hu];exact h u) t
theorem abO :∀(l:List (Nat×PV)) (s:St),(jB l s).L=s.L/\(jB l s).ad=s.ad/\(jB l s).st=s.st/\(jB l s).n=s.n/\(jB l s).top=s.top
 |[],_=>⟨rfl,rfl,rfl,rfl,rfl⟩
 |x::l,s=>abO l (s.pv x.1 x.2)
theorem awO {s:St} {g:G} {tmps:Array Value}:∀(l:List (Nat×PV)) (f:Nat->PV),(∀t,Rep g (f t) (tmps.getD t undef))->(∀x∈l,Rep g x.2 (tmps.getD x.1 undef))->∀t,Rep g (aEc l f t) (tmps.getD t undef)
 |[],_,h,_,t=>h t
 |x::l,f,h,hl,t=>awO (s:=s) l (upd f x.1 x.2) (λu=>by
   by_cases hu:u=x.1
   ·subst hu;rw [aA];exact hl x (by simp)
   ·rw [aB hu];exact h u) (λy hy=>hl y (List.mem_cons_of_mem _ hy)) t
theorem adX {s:St}:∀{l:List (Nat×PV)},aCP s l->∀x∈l,s.env x.1=(true, .pv x.2)
 |_::_,h,x,hx=>by
  rcases zmc.1 hx with rfl|hx
  ·exact h.1
  ·exact adX h.2 x hx
theorem SI.act {c:Ctx} {s:St} {a a':Act} {w:World} {g:G} {lam:Nat->Nat} (hs:SI P c s a w g lam) (ht:a'.tmps=a.tmps) (hd:DfOK c a' g):SI P c s a' w g lam:=
 ⟨hs.mem,hs.le,hs.frame,hs.blk,λt=>by rw [ht];exact hs.env t,hs.box,hs.inj,hs.ad,hs.adL,hd,by rw [ht];exact hs.n,hs.top⟩
theorem tT {st:aD} {w:World} {g:G} (hm:MemOK P st w g) {idl b n m cap:Nat} {env:Nat->PV} {ps:Array Nat} {assign body:Code} {q q':LoopState} (hst:st idl=some (.loop q n env ps assign body)) (hio:g.io idl=some (b,m,cap)):
  ∃r:Loop,w.heap[b]?=some (.loop r)/\r.state=q/\r.pending=none/\r.params=ps/\r.assign=assign/\r.body=body/\r.tmps.size=n/\(∀t,Rep g (env t) (r.tmps.getD t undef))/\(let w':=w.putObj b (.loop {r with state:=q'})
  MemOK P (upd st idl (some (.loop q' n env ps assign body))) w' {g with heap:=w'.heap}/\Le g {g with heap:=w'.heap}/\Frame (Blocks st g) w g w' {g with heap:=w'.heap}/\(∀b',Blocks (upd st idl (some (.loop q' n env ps assign body))) {g with heap:=w'.heap} b'->Blocks st g b'\/w.heap.size<=b')):=by
 have hob:=hm.obj idl _ hst
 simp only [ObjOK] at hob
 obtain ⟨b',m',cap',fn,tmps,dfs,h1,h2,h3,h4,h5⟩:=hob
 rw [hio] at h1;injection h1 with h1;injection h1 with h1 h1';injection h1' with h1' h1'';subst h1;subst h1''
 rw [hm.heap] at h3
 refine ⟨_,h3,rfl,rfl,rfl,rfl,rfl,h4,h5, ?_⟩
 have hlt:=bB h3
 exact gC (y:= .loop {state:=q',pending:=none,fn,tmps,params:=ps,assign,body,defers:=dfs}) hm (by rw [hst];simp) (by simp [Go.Abs.blk,hio,h2]) h3 rfl (λi hi=>by simp only [World.putObj,aT,h3];simp [hlt]) (λh=>by obtain ⟨a1,a2,a3,_⟩:=hm.fmm b h;rw [h3] at a3;cases a3) λhle=>by
  simp only [ObjOK]
  exact ⟨b,m,cap,fn,tmps,dfs,hio,h2,by simp [World.putObj,hlt],h4,λt=>Rep.mono hle _ _ (h5 t)⟩
theorem aIC {idl n t0:Nat} {l:List (Nat×PV)} {assign body:Code} {st:aD} {p:PV} {R:aD->Prop} (hst:st idl=some (.loop .ready n (adH l) #[t0] assign body)) (ht0:t0<n)
  (h:PWp P assign (λe s'=>e= .normal/\s'.st idl=some (.loop .ready n (adH l) #[t0] assign body)/\PWp P body (λe s''=>e= .normal/\∃st2,StSub st2 s''.st/\st2 idl=some (.loop .busy n (adH l) #[t0] assign body)/\R (upd st2 idl (some (.loop .ready n (adH l) #[t0] assign body)))) (s'.sst (upd s'.st idl (some (.loop .busy n (adH l) #[t0] assign body))))) (aB1 n st l t0 p)):
  PY P idl [p] st λr S=>r= .val (.bool true)/\R S:=by
 rintro w g b vs hm ⟨m,cap,hio⟩ hr
 simp only [RepL] at hr
 obtain ⟨v,vs',rfl,hv,rfl⟩:=hr
 obtain ⟨r,k1,k2,k3,k4,k5,k6,k7,k8,_⟩:=tT (q':= .busy) hm hst hio
 rw [run_yield k1 (by rw [k4];rfl)]
 simp only [OpRes]
 rw [k4,k5,k6]
 have htm:(#[t0].zip [v].toArray).foldl (λtmps (x:Nat×Value)=>tmps.setIfInBounds x.1 x.2) r.tmps=r.tmps.setIfInBounds t0 v:=by simp
 rw [htm]
 obtain ⟨i1,i2,i3,i4,i5⟩:=abO l (St.nilR n st)
 have hsi:SI P ⟨w,g,Blocks st g,some b⟩ (aB1 n st l t0 p) {tmps:=r.tmps.setIfInBounds t0 v,defers:=[]} w g (λ_=>0):={
  mem:=by show MemOK P (jB l (St.nilR n st)).st w g;rw [i3];exact hm
  le:=Le.refl g
  frame:=Frame.refl _ w g
  blk:=λb' hb=>by
   have hb:Blocks (jB l (St.nilR n st)).st g b':=hb
   rw [i3] at hb;exact .inl hb
  env:=λt=>by
   show EntOK g _ (upd (jB l (St.nilR n st)).env t0 (true, .pv p) t) _
   by_cases ht:t=t0
   ·subst ht
    rw [aA]
    simp only [EntOK]
    rw [<-k7] at ht0
    simpa [Array.getElem?_setIfInBounds,ht0] using hv
   ·rw [aB ht,xC l (St.nilR n st) (λ_=> .und) (λ_=>rfl) t]
    have:=k8 t
    unfold adH at this
    simp only [EntOK]
    simpa [Array.getElem?_setIfInBounds_ne (Ne.symm ht)] using this
  box:=λt T cs e=>by
   have e:(jB l (St.nilR n st)).L t=some (T,cs):=e
   rw [i1] at e;cases e
  inj:=λt t' e=>by
   have e:(jB l (St.nilR n st)).L t≠none:=e
   rw [i1] at e;exact absurd rfl e
  ad:=λt b' u off e=>by
   have e:upd (jB l (St.nilR n st)).env t0 (true, .pv p) t=(b', .adr u off):=e
   by_cases ht:t=t0
   ·rw [ht,aA] at e;cases e
   ·rw [aB ht,xC l (St.nilR n st) (λ_=> .und) (λ_=>rfl) t] at e;cases e
  adL:=λt e=>by
   have e:(jB l (St.nilR n st)).L t≠none:=e
   rw [i1] at e;exact absurd rfl e
  defers:=⟨[],rfl,List.nodup_nil,λ_ h=>by cases h⟩
  n:=by show (r.tmps.setIfInBounds t0 v).size=(jB l (St.nilR n st)).n;rw [i4];simp [St.nilR,k7]
  top:=λe=>by
   have e:(jB l (St.nilR n st)).top=true:=e
   rw [i5] at e;cases e}
 refine roundIn_of_wpIn trivial (wpIn_mono (h _ _ _ _ _ hsi) ?_)
 rintro e a₁ w₁ ⟨s',g',lam',⟨rfl,hl,hbody⟩,hs'⟩
 have hio':g'.io idl=some (b,m,cap):=hs'.le.io _ _ hio
 obtain ⟨r1,j1,j2,j3,j4,j5,j6,j7,j8,q1,q2,q3,q4⟩:=tT (q':= .busy) hs'.mem hl hio'
 refine ⟨_,run_beginRound j1 j2,wpIn_mono (hbody _ _ _ _ _ (hs'.step q1 q2 q3 q4)) ?_⟩
 rintro e a₂ w₂ ⟨s'',g'',lam'',⟨rfl,st2,hsub,hl2,hR⟩,hs''⟩
 have hio'':g''.io idl=some (b,m,cap):=hs''.le.io _ _ hio
 obtain ⟨r2,x1,x2,x3,x4,x5,x6,x7,x8,y1,y2,y3,y4⟩:=tT (q':= .ready) (hs''.mem.sub hsub) hl2 hio''
 have hend:=run_endRound (P:=P) none x1
 have hrec:({r2 with state:=if (none:Option Code).isNone=true then LoopState.ready else LoopState.done,pending:=none}:Loop)={r2 with state:= .ready}:=by
  cases r2
  simp only at x3
  subst x3
  rfl
 refine ⟨_,_,hend,_,rfl, .val (.bool true),_,_,⟨rfl,hR⟩,by simp [Rep], ?_,hs''.le.trans y2, ?_,λb' hb'=> ?_⟩
 ·rw [hrec];exact y1
 ·refine hs''.frame.trans (B':=Blocks st2 g'') ?_ λb' hb' hbb=>(hs''.blk b' (hbb.sub hsub)).resolve_right (by omega)
  rw [hrec];exact y3
 ·rcases y4 b' hb' with h'|h'
  ·exact hs''.blk b' (h'.sub hsub)
  ·right;have:w.heap.size<=w₂.heap.size:=hs''.frame.size
   omega
theorem arQ {x t0:Nat} {assign body:Code} {s:St} {Q:Exit->St->Prop} (l:List (Nat×PV)) {fid:FuncId} {caps:List PV} (hx:s.env x=(true, .pv (.fn fid caps))) (htop:s.top=true) (henv:aCP s l) (R:Nat->aD->Prop)
    (h:∀idl,s.st idl=none->PC P fid (.yld idl::caps) (upd s.st idl (some (.loop .ready s.n (adH l) #[t0] assign body))) λ_ S=>S idl=some (.loop .ready s.n (adH l) #[t0] assign body)/\R idl S)
    (k:∀idl S,s.st idl=none->R idl S->Q .normal (s.sst (upd S idl none))):PWp P (.rangeFunc (.tmp x) #[t0] assign body) Q s:=by
  intro c a w g lam hs
  have hro:(FR c.ro).round=none:=hs.top htop
  have hax:=hs.env x
  rw [hx] at hax
  simp only [EntOK,Rep] at hax
  obtain ⟨cvs,hax,hcv⟩:=hax
  refine wpIn_rangeFunc λfn _=> ?_
  rw [hro]
  obtain ⟨m1,m2,m3⟩:=jA hs.mem (.deferred (some []))
  have hs1:=hs.world m1 m2 (m3.mono λ_ h=>h.elim)
  obtain ⟨Ds,d1,d2,d3⟩:=hs1.defers
  have hDnew:(w.alloc (.deferred (some []))).heap[w.heap.size]?=some (.deferred (some [])):=World.alloc_heap_new _ _
  have hs2:SI P c s {a with defers:=qF w.heap.size::a.defers} (w.alloc (.deferred (some []))) {g with heap:=(w.alloc (.deferred (some []))).heap} lam:=hs1.act rfl ⟨w.heap.size::Ds,by rw [zmp];exact congrArg _ d1,List.nodup_cons.2 ⟨λhm=>by
    obtain ⟨Ds',e1,e2,e3⟩:=hs.defers
    have:Ds=Ds':=List.map_inj_right (λa b h=>by simp only [qF,Deferred.mk.injEq,Target.collected.injEq] at h;exact h.1)|>.1 (d1.symm.trans e1)
    subst this
    have:=bB (e3 _ hm).1
    rw [hs.mem.heap] at this;omega,d2⟩,λD hD=>by
      rcases zmc.1 hD with rfl|hD
      · exact ⟨hDnew,hs.frame.size⟩
      · exact d3 D hD⟩
  obtain ⟨idl,g2,f1,f2,f3,q1,q2,q3,q4⟩:=awG hs2.mem (.loop {state:= .ready,pending:=none,fn,tmps:=a.tmps,params:= #[t0],assign,body,defers:=w.heap.size}) (.loop .ready s.n (adH l) #[t0] assign body) λg' id hle hh hio hb hold hfr hfm=>by
    simp only [ObjOK]
    refine ⟨_,0,1,fn,a.tmps,w.heap.size,hio,by omega,hb,hs.n,λt=>awO (s:=s) l (λ_=> .und) (λ_=>trivial) (λy hy=> ?_) t⟩
    have:=hs2.env y.1
    rw [adX henv y hy] at this
    exact Rep.mono hle _ _ this
  have hs3:=hs2.step q1 q2 q3 q4
  have hw1:(w.alloc (.deferred (some []))).heap.size=w.heap.size+1:=World.size_alloc _ _
  rw [hw1] at f3
  obtain ⟨hc,hcall⟩:=h idl f2
  have hle0:Le g g2:=m2.trans q2
  let W1:World:=(w.alloc (.deferred (some []))).alloc (.loop {state:= .ready,pending:=none,fn,tmps:=a.tmps,params:= #[t0],assign,body,defers:=w.heap.size})
  refine ⟨w.heap.size+1,[qF w.heap.size],W1,{target:= .fn (.func fid) cvs.toArray,args:= #[.func (.yield (w.heap.size+1)) #[] #[]]},W1,fid, #[.func (.yield (w.heap.size+1)) #[] #[]]++cvs.toArray,W1,run_enterLoop_outer _ _ _ _ _, ?_,λ_ _=>trivial, ?_,λh=>by simp [FR,Fence.wide] at h,aaS ?_⟩
  · have:a.eval (.tmp x)= .func (.func fid) #[] cvs.toArray:=hax
    simp only [resolve,rangeCall,this,Deferred.ofValue,Sem.run_pure]
    simp [Act.eval]
  · unfold gI at hc
    split at hc
    · rename_i fnn hfn
      rw [zba] at hc
      have h1 : (fnn.name == "runtime.NumGoroutine") = false := by simpa using hc.1
      have h2:fnn.body.isNone=false:=by cases hb:fnn.body<;>simp_all
      simp only [invoke,callFunc,Sem.run_bind,run_program,hfn,Result.andThen_ok,h1,h2,Bool.false_eq_true,if_false,Sem.run_pure]
    · cases hc
  · have:=hcall W1 g2 (.func (.yield (w.heap.size+1)) #[] #[]::cvs) q1 (by simp only [RepL];exact ⟨_,cvs,rfl,by simp only [Rep];exact ⟨_,_,_,f3,rfl⟩,RepL.mono hle0 _ _ hcv⟩)
    rw [show (#[.func (.yield (w.heap.size+1)) #[] #[]]++cvs.toArray:Array Value)=(.func (.yield (w.heap.size+1)) #[] #[]::cvs).toArray from by apply Array.toList_inj.1;simp]
    refine this.mono ?_
    rintro e w₃ ⟨v,r,S,g₃,rfl,⟨hl,hR⟩,h3,h4,h5,h6,h7⟩
    have hs4:=hs3.step h4 h5 h6 h7
    have hio4:g₃.io idl=some (w.heap.size+1,0,1):=h5.io _ _ f3
    obtain ⟨r4,x1,x2,x3,x4,x5,x6,x7,x8,y1,y2,y3,y4⟩:=tT (q':= .exhausted) h4 hl hio4
    refine ⟨r4.pending,_,run_endLoop (P:=P) x1 (by rw [x2];simp), ?_⟩
    have hs5:=hs4.step (st':=upd S idl (some (.loop .exhausted s.n (adH l) #[t0] assign body))) y1 y2 y3 y4
    split
    case h_2 hh=>rw [x3] at hh;cases hh
    refine ⟨s.sst (upd S idl none),_,lam,k idl S f2 hR,hs5.sub (s2:=s.sst (upd S idl none)) ⟨λ_=> .inr rfl,λ_ _ e=>e,λj=>by
      show upd S idl none j=none\/upd S idl none j=upd S idl _ j
      by_cases hj:j=idl
      · left;rw [hj,aA]
      · right;rw [aB hj,aB hj],rfl,λe=>e,hs5.ad,hs5.adL⟩⟩
end
end
section
section
variable {P:Program} {tt:TT}
variable {K V:Type} [DecidableEq K] {kt:TypeId} {enc:K->Value} {rep:K->PV} {f:V->PV}
end
section
variable {P:Program} {tt:TT} {l:List Oper} {d:Md} {r:List Oper} {s:St} {K:St->Prop} {t:Nat} {ty:TypeId} {pos:String} {after:Array Edge}
theorem SI.wkSlot {c:Ctx} {a:Act} {w:World} {g:G} {lam:Nat->Nat} (hs:SI P c s a w g lam) (u:Nat) {p q:PV} (hx:s.env u=(true, .pv p)) (hq:Wk p q):SI P c (s.pv u q) a w g lam:=
 ⟨hs.mem,hs.le,hs.frame,hs.blk,λt=>by
  show EntOK g lam (upd s.env u _ t) _
  by_cases ht:t=u
  ·subst ht
   rw [aA]
   have:=hs.env t
   rw [hx] at this
   exact hq g _ this
  ·rw [aB ht];exact hs.env t,hs.box,hs.inj,λt b v off e=>by
  have e':upd s.env u (true, .pv q) t=(b, .adr v off):=e
  by_cases ht:t=u
  ·rw [ht,aA] at e';cases e'
  ·rw [aB ht] at e';exact hs.ad t b v off e',hs.adL,hs.defers,hs.n,hs.top⟩
theorem aGB {o:Oper} (u:Nat) {p q:PV} (hx:s.env u=(true, .pv p)) (hq:Wk p q) (k:Ev P l .seq (o::r) (s.pv u q) K):Ev P l .seq (o::r) s K:=λc a w g lam hs=>k c a w g lam (hs.wkSlot u hx hq)
end
end
section
section
variable {P:Program} {tt:TT}
theorem SI.freezeVec {c:Ctx} {s:St} {a:Act} {w:World} {g:G} {lam:Nat->Nat} (hs:SI P c s a w g lam) (u:Nat) {id sz n:Nat} {T:TypeId} {rows:List (List PV)} (hx:s.env u=(true, .pv (.vec id sz 0 n))) (hst:s.st id=some (.arr T rows)) (hT:P.cellsOf T=sz) (hn:rows.length=n):
  ∃g',SI P c ((s.sst (upd s.st id none)).pv u (.seq rows)) a w g' lam:=by
 subst hn
 have henv:∀t,((s.sst (upd s.st id none)).pv u (.seq rows)).env t=upd s.env u (true, .pv (.seq rows)) t:=λ_=>rfl
 refine hs.subF hst hT ⟨λt=> ?_,λt T ds e=>⟨ds,e,FzL.refl _⟩,zsr _,rfl,λh=>h,λt w' v off e=> ?_,hs.adL⟩
 ·rw [henv]
  by_cases h:t=u
  ·subst h;rw [aA];exact .inr (.inr ⟨_,_,hx,rfl, .all⟩)
  ·rw [aB h];exact .inr (.inl rfl)
 ·rw [henv] at e
  by_cases h:t=u
  ·subst h;rw [aA] at e;cases e
  ·rw [aB h] at e;exact hs.ad t w' v off e
theorem yJ {cd:Code} {Q:Exit->St->Prop} {s:St} (u:Nat) {id sz n:Nat} {T:TypeId} {rows:List (List PV)} (hx:s.env u=(true, .pv (.vec id sz 0 n))) (hst:s.st id=some (.arr T rows)) (hT:P.cellsOf T=sz) (hn:rows.length=n) (k:PWp P cd Q ((s.sst (upd s.st id none)).pv u (.seq rows))):PWp P cd Q s:=by
 intro c a w g lam hs
 obtain ⟨g',h⟩:=hs.freezeVec u hx hst hT hn
 exact k c a w g' lam h
end
end
section
section
variable {P:Program} {tt:TT} {l:List Oper}
def lexO (l:List Oper) (md:Md):List Nat->Array Bool->Bool
 |[],listed=>(Region.ready .any l.toArray listed).isEmpty
 |k::ord,listed=>(Region.ready .any l.toArray listed).contains k&&(bif jI k md.z then (Region.ready .any l.toArray listed).all (λj=>Nat.beq j k) else atZ l md listed k)&&lexO l md ord (listed.setIfInBounds k true)
def acV (l:List Oper):List Nat->Option (List Oper)
 |[]=>some []
 |k::ord=>match l[k]?,acV l ord with
  |some o,some r=>some (o::r)
  |_,_=>none
def auF (md md':Md):Nat->List Nat->Bool
 |_,[]=>true
 |p,k::ord=>jI p md'.z==jI k md.z&&jI p md'.r==jI k md.r&&auF md md' (p+1) ord
theorem AAny.only {md:Md} {K:St->Prop} {i:Nat} {oi:Oper} {R:aD×PV->Prop} (hi:l[i]?=some oi) (hz:jI i md.z=true) (fuel:Nat) (listed:Array Bool) (s:St)
  (hall:(Region.ready .any l.toArray listed).all (λj=>Nat.beq j i)=true) (hr:i∈Region.ready .any l.toArray listed) (hy:ZOp P l oi s R) (H:∀x,R x->AAny P l md K fuel (listed.setIfInBounds i true) (s.turn oi x)):AAny P l md K (fuel+1) listed s:=by
 refine ⟨λh=>(by rw [h] at hr;cases hr),λj hj=> ?_⟩
 obtain rfl:j=i:=by
  have:=zal.1 hall j hj
  exact Nat.eq_of_beq_eq_true this
 unfold AOp;rw [hi];simp only [hz];exact ⟨R,hy,H⟩
theorem AAny.lexO {md md':Md} {K:St->Prop}:∀(ord:List Nat) (r:List Oper) (p:Nat) (listed:Array Bool) (s:St),acV l ord=some r->l.length=p+r.length->auF md md' p ord=true->AdOK s->LOK l s->lexO l md ord listed=true->EvD P l md' r s K->AAny P l md K r.length listed s
 |[],r,_,_,_,hp,_,_,_,_,hB,h=>by
  simp only [acV,Option.some.injEq] at hp
  subst hp
  exact ⟨by simpa [Go.Abs.lexO] using hB,h⟩
 |k::ord,r,p,listed,s,hp,hlen,ht,hA,hLK,hB,h=>by
  simp only [acV] at hp
  cases h0:l[k]? with
  |none=>rw [h0] at hp;cases hp
  |some o=>
   cases h1:acV l ord with
   |none=>rw [h0,h1] at hp;cases hp
   |some r'=>
    rw [h0,h1] at hp
    injection hp with hp
    subst hp
    have hk:l.length-(r'.length+1)=p:=by rw [hlen];simp
    simp only [Go.Abs.lexO,zba] at hB
    obtain ⟨⟨hr,hf⟩,hB'⟩:=hB
    simp only [auF,zba,beq_iff_eq] at ht
    obtain ⟨⟨tz,tr⟩,ht'⟩:=ht
    unfold EvD at h
    rw [hk,tz,tr] at h
    have ho:o∈l:=List.mem_of_getElem? h0
    have rest:∀s',AdOK s'->LOK l s'->EvD P l md' r' s' K->AAny P l md K r'.length (listed.setIfInBounds k true) s':=λs' hA' hL' h'=>
     AAny.lexO ord r' (p+1) _ _ h1 (by rw [hlen];simp;omega) ht' hA' hL' hB' h'
    cases hz:jI k md.z with
    |true=>
     rw [hz] at h hf
     obtain ⟨R,hR,hK⟩:=h
     exact AAny.only h0 hz r'.length listed s hf (by simpa using hr) hR λx hx=>rest _ hA.turn (hLK.turn ho) (hK x hx)
    |false=>
     rw [hz] at h hf
     obtain ⟨T,hT,hK⟩:=h
     exact AAny.first h0 hz r'.length listed s (sS h0 hf) hA hLK (by simpa using hr) hT (rest _ (hT.adOK hA) (hLK.step ho hT hA) hK)
def aEb (l r:List Oper) (md md':Md) (ord:List Nat):Bool:=Nat.beq l.length r.length&&auF md md' 0 ord&&lexO l md ord (Array.replicate l.length false)
theorem azY {md md':Md} {r:List Oper} {id:Nat} {Q:Exit->St->Prop} {s:St} (ord:List Nat) (hm:P.follows .mixedOrders=true) (hp:acV l ord=some r) (hB:aEb l r md md' ord=true) (hF:adN l s=true) (h:EvD P l md' r s (Q .normal)):PWp P (.region id l.toArray true) Q s:=by
 intro c a w g lam hs
 refine wpIn_region_any hm ?_
 obtain ⟨h1,h2⟩:=mV hs.mem (w.drawn+1) (Nat.le_succ _)
 have hs':=hs.world h1 (Le.refl g) (h2.mono λ_ h=>h.elim)
 simp only [aEb,zba] at hB
 obtain ⟨⟨b1,b2⟩,b3⟩:=hB
 have b1:l.length=r.length:=Nat.eq_of_beq_eq_true b1
 have:=AAny.lexO ord r 0 (Array.replicate l.length false) s hp (by rw [b1];simp) b2 hs.adOK (LOK.init hs.adOK hF) b3 h
 rw [<-b1] at this
 have:=AAny.sound (Q:=λe a' w'=>∃s' g' lam',Q e s'/\SI P c s' a' w' g' lam') (λs a w g lam hk hs=>⟨s,g,lam,hk,hs⟩) _ _ _ _ _ _ _ hs' this
 simpa using this
theorem wDO (pk:Pk P tt) (ord z0 rd0 z rd:List Nat) {s:St} {id:Nat} {ops:Array Oper} {r:List Oper} {k:List Fr} {Q:Exit->St->Prop} {a b g:Prop} (_hsz:Nat.beq ops.size ord.length=true) (hp:acV ops.toList ord=some r) (hl:aEb ops.toList r (.draw z0 rd0) (.draw z rd) ord=true) (hF:adN ops.toList s=true) (h:ahH P tt ops.toList (.draw z rd) r s k Q= .mk a b g) (ha:a) (hb:b) (hg:g):PWp P (.region id ops true) (eY P k Q) s:=by
 have:=goE pk h ha hb hg
 have:=azY (l:=ops.toList) (id:=id) (Q:=eY P k Q) ord pk.hm hp hl hF (by
  have e:=this
  exact e)
 simpa using this
def rK :List Nat->Array Bool->Array Bool
 |[],listed=>listed
 |k::ord,listed=>rK ord (listed.setIfInBounds k true)
end
end
section
section
variable {P:Program} {tt:TT} {l:List Oper} {d:Md} {r:List Oper} {s:St} {K:St->Prop} {t:Nat} {ty:TypeId} {pos:String} {after:Array Edge} {gd:Option (Nat×Bool)}
theorem aDW (pk:Pk P tt) {T kt e:TypeId} {x:Operand} {es:List (Value×PV)} (hx:opd s x=some (.fmap es)) (hT:tiK tt T=some (.map kt e)) (hf:bM s [x]=true) (hd:Nat.blt t s.n=true) (ht:iJ d l r=true)
  (k:∀id,s.st id=none->Ev P l d r ((s.sst (upd s.st id (some (.iter none es)))).pv t (.ref id 0)) K):Ev P l d (⟨some t, .range T x,ty,pos,after,none⟩::r) s K:=by
 refine dU (aAe pk.htt hx hT) (λz hz=>aO (λ_ _ _ e=>by cases e) hz) hf hd ht ?_
 rintro z ⟨id,h,rfl⟩
 exact k id h
theorem aGI {x:Operand} {id:Nat} {cur:Option (Value×PV)} {left:List (Value×PV)} (hx:opd s x=some (.ref id 0)) (hst:s.st id=some (.iter cur left)) (hf:bM s [x]=true) (hd:Nat.blt t s.n=true) (ht:iJ d l r=true)
  (k1:left=[]->Ev P l d r ((s.sst s.st).pv t (.tup [.val (.bool false)])) K)
  (k2:∀i e,left[i]?=some e->Ev P l d r ((s.sst (upd s.st id (some (.iter (some e) (left.eraseIdx i))))).pv t (.tup [.val (.bool true), .und, .und])) K):Ev P l d (⟨some t, .next x false,ty,pos,after,none⟩::r) s K:=by
 refine dU (aA6 hx hst) (λz hz=>aO (λ_ _ _ e=>by cases e) hz) hf hd ht ?_
 rintro z (⟨h,rfl⟩|⟨i,e,h,rfl⟩)
 ·exact k1 h
 ·exact k2 i e h
theorem aDe {w:Bool} {x:Operand} {id:Nat} {k:Value} {q p:PV} {left:List (Value×PV)} (hw:bG l ⟨some t, .entry x,ty,pos,after,gd⟩ s=some w) (hx:opd s x=some (.ref id 0)) (hst:s.st id=some (.iter (some (k,p)) left)) (hq:∀g,Rep g q k) (hf:All (flagsI s w [x] [])) (hd:Nat.blt t s.n=true) (ht:tZ d l r=true)
  (kk:Ev P l d r (s.put (some t) w (.pv (.tup [q,p]))) K):Ev P l d (⟨some t, .entry x,ty,pos,after,gd⟩::r) s K:=
 pH hw (λ_=>axB rfl hx hst hq) (λz hz=>aO (λ_ _ _ e=>by cases e) hz) (flagsI.g hf).1 hd ht kk
theorem aIt {f:Operand} {args:Array Operand} {ts:Array TypeId} {fid:FuncId} {caps ps:List PV} {dst:Option Nat} {R:PV->aD->Prop} (hf:opd s f=some (.fn fid caps)) (hps:mB s args.toList=some ps) (h:PC P fid (ps++caps) s.st R) (hfl:bM s (f::args.toList)=true) (hd:fU ⟨dst, .call ⟨.value f,args,ts⟩,ty,pos,after,none⟩ s=true) (ht:iJ d l r=true)
  (k:∀p st',R p st'->Ev P l d r ((s.sst st').put dst true (.pv p)) K):Ev P l d (⟨dst, .call ⟨.value f,args,ts⟩,ty,pos,after,none⟩::r) s K:=
 dU (aaO ps hf hps (WkL.refl ps) h) (λz hz=>aO (λ_ _ _ e=>by cases e) hz) hfl hd ht λz hz=>k _ _ hz
theorem Rep.int {g:G} {k:IntKind} (n:Int):Rep g (.val (.int k n)) (.int k n):=by simp [Rep]
end
end
section
structure KR (b:Bool):Prop where
 h:b=true
inductive Jb
 |pw (c:Code) (k:List Fr) (Q:Exit->St->Prop) (s:St)
 |ev (l:List Oper) (d:Md) (r:List Oper) (s:St) (k:List Fr) (Q:Exit->St->Prop)
 |nm (k:List Fr) (Q:Exit->St->Prop) (s:St)
 |ex (id:Nat) (k:List Fr) (Q:Exit->St->Prop) (s:St)
def Jw (P:Program):Jb->Prop
 | .pw c k Q s=>PWp P c (eY P k Q) s
 | .ev l d r s k Q=>Ev P l d r s (yF P k Q)
 | .nm k Q s=>eY P k Q .normal s
 | .ex id k Q s=>eY P k Q (.exit id) s
class Jr (g:Prop) (P:outParam Program) (j:outParam Jb):Prop where
 ok:Jw P j->g
section
variable {P:Program} {c:Code} {k:List Fr} {Q:Exit->St->Prop} {s:St} {I:St->Prop} {id:Nat} {j:Jb}
instance : Jr (PWp P c (eY P k Q) s) P (.pw c k Q s):=⟨λh=>h⟩
instance (priority :=low):Jr (PWp P c Q s) P (.pw c [] Q s):=⟨λh=>h⟩
instance {l r:List Oper} {d:Md}:Jr (Ev P l d r s (yF P k Q)) P (.ev l d r s k Q):=⟨λh=>h⟩
instance {l r:List Oper} {d:Md}:Jr (Ev P l d r s (eY P k Q .normal)) P (.ev l d r s k Q):=⟨λh=>h⟩
instance (priority :=low) {l r:List Oper} {d:Md}:Jr (Ev P l d r s (Q .normal)) P (.ev l d r s [] Q):=⟨λh=>h⟩
instance : Jr (eY P k Q .normal s) P (.nm k Q s):=⟨λh=>h⟩
instance : Jr (eY P k Q (.exit id) s) P (.ex id k Q s):=⟨λh=>h⟩
instance [h :Jr (Q (.exit id) s) P j]:Jr (aBl I Q (.exit id) s) P j:=⟨h.ok⟩
end
def anX (P:Program) (tt:TT) (l:List Oper) (d:Md) (o:Oper) (r:List Oper) (s:St) (K:St->Prop):Bx:=
  match bG l o s with
  |none=> .no
  |some w=>match o with
    |⟨dst, .call ⟨.value f,args,_⟩,_,_,_,gd⟩=>match opd s f,mB s args.toList with
      |some (.fn fid caps),some ps=>match dst,cO d l r with
        |some t,true=>match Nat.blt t s.n with
          |true=> .mk (All (flagsI s w (f::args.toList) [])) (All []) (Cn (.c P w fid ps caps (λp=>Ev P l d r (s.put (some t) w (.pv p)) K) (gd.isNone&&(bM s (f::args.toList)&&iJ d l r)) s.st λp st'=>Ev P l d r ((s.sst st').put (some t) true (.pv p)) K))
          |false=> .no
        |dst,_=>match fU o s with
          |true=> .mk (All []) (All []) (Cn (.c P w fid ps caps (λ_=>False) (gd.isNone&&(bM s (f::args.toList)&&iJ d l r)) s.st λp st'=>Ev P l d r ((s.sst st').put dst true (.pv p)) K))
          |false=> .no
      |_,_=> .no
    |_=> .no
def arY (P:Program) (tt:TT) (l:List Oper) (d:Md) (o:Oper) (r:List Oper) (s:St) (K:St->Prop):Bx:=
  match bG l o s with
  |none=> .no
  |some w=>match o with
    |⟨some t, .indexAddr T x y,_,_,_,_⟩=>match opd s x,opd s y,tiK tt T with
      |some p,some (.val (.int _ n)),some (.slice e)=>match fO p,aN tt e,Nat.blt t s.n&&cO d l r with
        |some rows,some sz,true=> .mk (All (flagsI s w [x,y] [])) (All []) (Cn (.n w rows n sz λrow=>Ev P l d r (s.put (some t) w (.pv (.rp row))) K))
        |_,_,_=> .no
      |_,_,_=> .no
    |_=> .no
def nx (P:Program) (tt:TT):Jb->Bx
 | .pw c k Q s=>match c with
  | .ret=> .mk (All []) (All []) (eY P k Q .ret s)
  | .cond (.tmp t) x y=>match s.env t with
   |(true, .pv (.val (.bool b)))=> .mk (All []) (All []) (Cn (.b b (PWp P x (eY P k Q) s) (PWp P y (eY P k Q) s)))
   |_=> .no
  | .cond (.const (.bool b)) x y=>match b with
   |true=> .mk (All []) (All []) (PWp P x (eY P k Q) s)
   |false=> .mk (All []) (All []) (PWp P y (eY P k Q) s)
  | .region _ ops true=>match adN ops.toList s with
   |true=> .mk (KR (apG ops.toList (.draw [] []))) (All []) (Ev P ops.toList (.draw [] []) ops.toList s (yF P k Q))
   |false=> .no
  |c=>match isW c with
   |true=>adv P tt 1000 (.code c) k Q s [] []
   |false=> .no
 | .ev l d r s k Q=>match r with
  |[]=>ahH P tt l d [] s k Q
  |o::r=>match aFT tt d l (o::r) s with
   |true=>ahH P tt l d (o::r) s k Q
   |false=> .no
 | .nm k Q s=>adv P tt 1000 .norm k Q s [] []
 | .ex id k Q s=>adv P tt 1000 (.out id) k Q s [] []
section
variable {P:Program} {tt:TT}
theorem aiG [pk:Pk P tt] {l:List Oper} {d:Md} {o:Oper} {r:List Oper} {s:St} {K:St->Prop} {a b g:Prop} (h:anX P tt l d o r s K= .mk a b g) (ha:a) (hg:g):Ev P l d (o::r) s K:=by
 unfold anX at h
 split at h
 ·cases h
 ·rename_i w hw
  split at h
  ·rename_i dst f args ts ty pos after gd
   have hz:∀{z:Bool},(gd.isNone&&(bM s (f::args.toList)&&z))=true->gd=none/\bM s (f::args.toList)=true/\z=true:=fun {z} e=>by
    simp only [zba,Option.isNone_iff_eq_none] at e;exact e
   split at h
   ·rename_i fid caps ps hf hps
    split at h
    ·rename_i t ht
     split at h
     ·rename_i hd
      injection h with h1 h2 h3;subst h1;subst h3
      cases hg.ok with
      |w qs hq hp k=>exact auW qs hw hf hps hq hp ha hd ht k
      |p qs hz' hq hp k=>
       obtain ⟨rfl,hfl,hz2⟩:=hz hz'
       exact dU (aaO qs hf hps hq hp) (λz hz=>aO (λ_ _ _ e=>by cases e) hz) hfl hd hz2 λz hz=>k _ _ hz
     ·cases h
    ·split at h
     ·rename_i hd
      injection h with h1 h2 h3;subst h1;subst h3
      cases hg.ok with
      |w qs hq hp k=>exact k.elim
      |p qs hz' hq hp k=>
       obtain ⟨rfl,hfl,hz2⟩:=hz hz'
       exact dU (aaO qs hf hps hq hp) (λz hz=>aO (λ_ _ _ e=>by cases e) hz) hfl hd hz2 λz hz=>k _ _ hz
     ·cases h
   ·cases h
  ·cases h
theorem aiQ [pk:Pk P tt] {l:List Oper} {d:Md} {o:Oper} {r:List Oper} {s:St} {K:St->Prop} {a b g:Prop} (h:arY P tt l d o r s K= .mk a b g) (ha:a) (hg:g):Ev P l d (o::r) s K:=by
 unfold arY at h
 split at h
 ·cases h
 ·rename_i w hw
  split at h
  ·split at h
   ·split at h
    ·rename_i hx hy hk _ _ _ _ _ hp hs ht
     injection h with h1 h2 h3;subst h1;subst h3
     obtain ⟨j,row,h1,h2,h3,h4⟩:=hg.ok
     rw [zba] at ht
     exact cN pk hw hx hp hy hk hs ha ht.1 h1 h2 h3 ht.2 h4
    ·cases h
   ·cases h
  ·cases h
theorem aB7 [pk:Pk P tt] {j:Jb} {a b g:Prop} (h:nx P tt j= .mk a b g) (ha:a) (hb:b) (hg:g):Jw P j:=by
 cases j with
 |pw c k Q s=>
  show PWp P c (eY P k Q) s
  simp only [nx] at h
  split at h
  ·injection h with _ _ h3;subst h3;exact yX hg
  ·split at h
   ·rename_i e
    injection h with _ _ h3;subst h3
    exact aBJ e hg.ok.1 hg.ok.2
   ·cases h
  ·split at h
   ·injection h with _ _ h3;subst h3;exact aeT hg
   ·injection h with _ _ h3;subst h3;exact aeT hg
  ·split at h
   ·rename_i hF
    injection h with h1 _ h3;subst h1;subst h3
    exact oT (l:=Array.toList _) pk.hm ha.h hF hg
   ·cases h
  ·split at h
   ·exact go pk h ha hb hg
   ·cases h
 |ev l d r s k Q=>
  simp only [nx] at h
  split at h
  ·exact goE pk h ha hb hg
  ·split at h
   ·exact goE pk h ha hb hg
   ·cases h
 |nm k Q s=>exact goN pk h ha hb hg
 |ex id k Q s=>exact goX pk h ha hb hg
end
theorem wZ {P:Program} {tt:TT} {j:Jb} {g':Prop} [hj:Jr g' P j] [pk:Pk P tt] {a b g:Prop} (h:nx P tt j= .mk a b g) (ha:a) (hb:b) (hg:g):g':=
 hj.ok (aB7 h ha hb hg)
theorem wY {P:Program} {tt:TT} [pk:Pk P tt] {l:List Oper} {d:Md} {o:Oper} {r:List Oper} {s:St} {K:St->Prop} {a b g:Prop} (h:anX P tt l d o r s K= .mk a b g) (ha:a) (hg:g):Ev P l d (o::r) s K:=aiG h ha hg
theorem wI {P:Program} {tt:TT} [pk:Pk P tt] {l:List Oper} {d:Md} {o:Oper} {r:List Oper} {s:St} {K:St->Prop} {a b g:Prop} (h:arY P tt l d o r s K= .mk a b g) (ha:a) (hg:g):Ev P l d (o::r) s K:=aiQ h ha hg
section
variable {P:Program} {tt:TT}
def aJg (tt:TT) (xs:List ResultVar) (r:PV) (st:aD):Exit->St->Prop
 | .normal,s| .ret,s=>Cn (.e (aAu tt s xs) s.st r st)
 |_,_=>False
def aJe (tt:TT) (xs:List ResultVar) (R:PV->aD->Prop):Exit->St->Prop
 | .normal,s| .ret,s=>Cn (.r (aAu tt s xs) s.st R)
 |_,_=>False
theorem aBK [pk:Pk P tt] {f:FuncId} {fn:Func} {cd:Code} (hf:P.funcs[f]?=some fn) (hb:fn.body=some cd):gI P f=true:=by
 unfold gI
 rw [hf]
 have:=Array.all_eq_true'.1 pk.nm fn (Array.mem_of_getElem? hf)
 simp [hb] at this⊢
 exact this
theorem pC [pk:Pk P tt] {f:FuncId} {fn:Func} {cd:Code} {args:List PV} {st:aD} {R:PV->aD->Prop} {n:Nat} {xs:List ResultVar} (hf:P.funcs[f]?=some fn)
  (h:(fn.body,fn.ntmps,fn.results.toList,Nat.ble args.length fn.ntmps)=(some cd,n,xs,true)) (k:PWp P cd (aJe tt xs R) (eJ 0 args (St.nil n st))):PC P f args st R:=by
 simp only [Prod.mk.injEq] at h
 obtain ⟨h1,h2,h3,h4⟩:=h
 refine aGF pk.htt hf (aBK hf h1) h1 h2 h3 (h2▸h4) (k.mono λe s q=> ?_)
 cases e<;>first|exact Cn.ok q|exact q
theorem pF [pk:Pk P tt] {f:FuncId} {fn:Func} {cd:Code} {args:List PV} {r:PV} {n:Nat} {xs:List ResultVar} (hf:P.funcs[f]?=some fn)
  (h:(fn.body,fn.ntmps,fn.results.toList,Nat.ble args.length fn.ntmps)=(some cd,n,xs,true)) (k:∀st,PWp P cd (aJg tt xs r st) (eJ 0 args (St.nil n st))):PF P f args r:=λst=>by
 simp only [Prod.mk.injEq] at h
 obtain ⟨h1,h2,h3,h4⟩:=h
 refine aGF pk.htt hf (aBK hf h1) h1 h2 h3 (h2▸h4) ((k st).mono λe s q=> ?_)
 cases e<;>first|exact Cn.ok q|exact q
theorem aC {s:St} {Q:Exit->St->Prop} {X:Type} {body:Code} (sh:X->St) (m:X->Nat) (x0:X) (h0:Cn (.s s (sh x0)))
  (round:∀x,PWp P body (aBl (λs'=>∃x',Cn (.s s' (sh x'))/\m x'<m x) Q) (sh x)):PWp P (.loop body) Q s:=
 aBZ sh m x0 h0.ok λx=>(round x).mono λe s q=>by
  cases e<;>first|exact q|(obtain ⟨x',h1,h2⟩:=q;exact ⟨x',h1.ok,h2⟩)
end
theorem iX {α:Type} {f:α->List PV} {l:List α} {w:Bool} {n:Int} {j sz:Nat} {G:List PV->Prop} {a:α} (hj:w=true->n=(j:Int)) (h:l[j]?=some a) (hl:(f a).length=sz) (k:G (f a)):Cn (.n w (l.map f) n sz G):=
 .any ⟨j,_,hj,λ_=>by simp [h],λ_=>hl,k⟩
theorem gE {α:Type} {l:List α} {j:Nat} (h:j<l.length):l[j]?=some l[j]:=by simp [h]
section
variable {P:Program} {w z:Bool} {f:FuncId} {ps cs:List PV} {G:PV->Prop} {st:aD} {H:PV->aD->Prop} {p:PV} {R:PV->aD->Prop}
theorem cW (h:w=true->PF P f (ps++cs) p) (k:G p):Cn (.c P w f ps cs G z st H):= .any (.w _ (WkL.refl ps) h k)
theorem cV (h:PF P f (ps.map soft++cs) p) (k:G p):Cn (.c P w f ps cs G z st H):= .any (.w _ (WkL.soft ps) (λ_=>h) k)
theorem cP (hz:z=true) (h:PC P f (ps.map soft++cs) st R) (k:∀p st',R p st'->H p st'):Cn (.c P w f ps cs G z st H):= .any (.p _ hz (WkL.soft ps) h k)
end
end
end Go.Abs
