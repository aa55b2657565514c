import Derived.Test.YtcglimangneafaaGreatDoorAbsE
set_option linter.unusedSimpArgs false
set_option linter.unusedVariables false
namespace Go.Abs
open Go
section
variable {P:Program} {tt:TT}
theorem awY {st:aL} {w:World} {g:G} (hm:MemOK P st w g) (o:Obj) (o':AObj) (ho:∀g' id,Le g g'→g'.heap=(w.alloc o).heap→g'.io id=some (w.heap.size,0,1)→g'.heap[w.heap.size]?=some o→(∀b,b<w.heap.size→g'.heap[b]?=w.heap[b]?)→g'.fr w.heap.size=0→¬g'.fm w.heap.size→ObjOK P g' id o'):
    ∃id g',g.io id=none∧st id=none∧g'.io id=some (w.heap.size,0,1)∧MemOK P (upd st id (some o')) (w.alloc o) g'∧Le g g'∧Frame (Blocks st g) w g (w.alloc o) g'∧∀b',Blocks (upd st id (some o')) g' b'→Blocks st g b'∨w.heap.size≤b':=by
  obtain ⟨id,f1,f2⟩:=gV hm
  obtain ⟨m1,m2,m3⟩:=iX hm o
  let g':G:={g with heap:=(w.alloc o).heap,io:=upd g.io id (some (w.heap.size,0,1))}
  have hle:Le g g':=⟨kD f1,m2.fr,m2.cell,m2.fm⟩
  have hnb:(w.alloc o).heap[w.heap.size]?=some o:=by show (w.heap.push _)[_]?=_;simp
  have hfm:¬g.fm w.heap.size:=fun h=>by
    obtain ⟨en,cl,e,_⟩:=hm.fmm _ h
    have:=bE e;omega
  have hfr:g.fr w.heap.size=0:=by
    rcases Nat.eq_zero_or_pos (g.fr w.heap.size) with h|h
    · exact h
    · have:=hm.lt w.heap.size (by omega);omega
  have hmem:=fN (w':=w.alloc o) (g':=g') (id:=id) (b':=w.heap.size) (n':=0) (cap':=1) (o':=o') hm f1 rfl rfl (fun _=> .inr rfl) (fun b hb _=>(m3.old b hb (fun h=>h)).1) (fun _ _=>rfl) rfl (fun _=>hfm) m3.size (fun _=>bE hnb) hle
    (ho g' id hle rfl (aC _ _ _) hnb (fun b hb=>(m3.old b hb (fun h=>h)).1) hfr hfm)
  have e1:upd (upd st id none) id (some o')=upd st id (some o'):=by
    funext j
    by_cases h:j=id
    · rw [h,aC,aC]
    · rw [aG h,aG h,aG h]
  rw [e1] at hmem
  refine ⟨id,g',f1,f2,aC _ _ _,hmem,hle,⟨m3.os,m3.tape,m3.output,m3.size,fun b hb hn=>⟨(m3.old b hb (fun h=>h)).1,rfl,Iff.rfl⟩⟩,fun b' ⟨j,j1,j2⟩=> ?_⟩
  by_cases h:j=id
  · subst h
    right
    simp [Go.Abs.blk,g',aC] at j2
    omega
  · rw [aG h] at j1
    refine .inl ⟨j,j1, ?_⟩
    unfold Go.Abs.blk at j2⊢
    rwa [show g'.io j=g.io j from aG h] at j2
theorem anM {t:Nat} {ty:TypeId} {pos:String} {after:Array Edge} {s:St} {T kt e:TypeId} {x:Operand} {es:List (Value×PV)} (htt:bI P tt) (hx:opd s x=some (.fmap es)) (hT:tiK tt T=some (.map kt e)):
    OpZ P ⟨some t, .range T x,ty,pos,after,none⟩ s fun z=>∃id,s.st id=none∧z=(upd s.st id (some (.iter none es)), .ref id 0):=by
  intro w g ρ hm hρ
  have rx:=hρ x (by simp [Op.operands]) _ hx
  simp only [Rep] at rx
  obtain ⟨bm,ents,clock,hxv,h2,h3,h4⟩:=rx
  rw [hm.heap] at h3
  have hu:=rH (aT htt hT).1
  have hrun:(execOp ρ (⟨some t, .range T x,ty,pos,after,none⟩:Oper)).run P w= .ok (.value (.pointer (some ⟨w.heap.size,0,none⟩))) (w.alloc (.mapIter (some bm) clock #[] clock)):=by
    simp [execOp,Instr.range,run_underlying hu,hxv,MapKept.run_getObj_map h3]
  rw [hrun]
  have hlt:=bE h3
  obtain ⟨ents0,clock0,e0,hst0⟩:=hm.fmm bm h2
  rw [h3] at e0;injection e0 with e0;injection e0 with e1 e2;subst e1;subst e2
  obtain ⟨id,g',f1,f2,f3,q1,q2,q3,q4⟩:=awY hm (.mapIter (some bm) clock #[] clock) (.iter none es) (fun g' id hle hh hio hb hold _ _=>by
    simp only [ObjOK]
    refine ⟨w.heap.size,0,1,bm,ents,clock, #[],hio,by omega,hb,(hle.fm bm h2).1,(hold bm hlt).trans h3,hst0, ?_,fun k p e=>by cases e⟩
    have:(ents.toList.filter fun e=> !(#[]:Array Nat).contains e.born)=ents.toList:=by simp
    rw [this]
    exact RepE.mono hle _ _ h4)
  exact ⟨g',_,⟨id,f2,rfl⟩,by simp only [Rep];exact ⟨w.heap.size,0,1,f3,rfl⟩,q1,q2,q3,q4⟩
theorem RepE.get {g:G}:∀{es:List (Value×PV)} {ms:List MapEntry} {j:Nat} {m:MapEntry},RepE g es ms→ms[j]?=some m→∃k p,es[j]?=some (k,p)∧m.key=k∧Rep g p m.val
  |[],ms,j,m,h,hj=>by simp only [RepE] at h;subst h;simp at hj
  |(k,p)::es,ms,j,m,h,hj=>by
    simp only [RepE] at h
    obtain ⟨m0,ms',rfl,h1,h2,h3⟩:=h
    cases j with
    |zero=>simp at hj;subst hj;exact ⟨k,p,rfl,h1,h2⟩
    |succ j=>simp at hj;simpa using RepE.get h3 hj
theorem RepE.len {g:G}:∀{es:List (Value×PV)} {ms:List MapEntry},RepE g es ms→ms.length=es.length
  |[],ms,h=>by simp only [RepE] at h;subst h;rfl
  |(k,p)::es,ms,h=>by
    simp only [RepE] at h
    obtain ⟨m0,ms',rfl,h1,h2,h3⟩:=h
    simp [RepE.len h3]
theorem RepE.erase {g:G}:∀{es:List (Value×PV)} {ms:List MapEntry} (j:Nat),RepE g es ms→RepE g (es.eraseIdx j) (ms.eraseIdx j)
  |[],ms,j,h=>by simp only [RepE] at h;subst h;simp [RepE]
  |(k,p)::es,ms,j,h=>by
    simp only [RepE] at h
    obtain ⟨m0,ms',rfl,h1,h2,h3⟩:=h
    cases j with
    |zero=>simpa using h3
    |succ j=>simp only [List.eraseIdx_cons_succ,RepE];exact ⟨m0,_,rfl,h1,h2,RepE.erase j h3⟩
theorem lN {α:Type} (f:α→Nat):∀{l:List α} {j:Nat} {x:α},(l.map f).Nodup→l[j]?=some x→l.filter (fun y=>decide (f y≠f x))=l.eraseIdx j
  |[],j,x,_,h=>by simp at h
  |y::l,0,x,hn,h=>by
    simp at h;subst h
    simp only [List.map_cons,List.nodup_cons] at hn
    rw [List.filter_cons_of_neg (by simp),List.eraseIdx_cons_zero]
    exact List.filter_eq_self.2 fun z hz=>by
      simp only [ne_eq,decide_eq_true_eq]
      intro e;exact hn.1 (List.mem_map.2 ⟨z,hz,e⟩)
  |y::l,j+1,x,hn,h=>by
    simp at h
    simp only [List.map_cons,List.nodup_cons] at hn
    have hne:f y≠f x:=fun e=>hn.1 (List.mem_map.2 ⟨x,List.mem_of_getElem? h,e.symm⟩)
    rw [List.filter_cons_of_pos (by simpa using hne),List.eraseIdx_cons_succ,lN f hn.2 h]
theorem qS {α:Type} (f:α→Nat) (p:α→Bool) {l:List α} (h:(l.map f).Nodup):((l.filter p).map f).Nodup:=
  h.sublist (List.filter_sublist.map f)
theorem yC (n:Nat) (h:0<n) (w:World):∃j w1,(choose (.mapNext n)).run P w= .ok j w1∧j<n∧(w1=w∨w1={w with drawn:=w.drawn+1}):=by
  rw [run_choose_drew]
  by_cases hf:Question.forced (.mapNext n)=true
  · rw [if_pos hf];exact ⟨0,w,rfl,h, .inl rfl⟩
  · rw [if_neg hf];exact ⟨_,_,rfl,Nat.mod_lt _ h, .inr rfl⟩
theorem aoY {t:Nat} {ty:TypeId} {pos:String} {after:Array Edge} {s:St} {x:Operand} {id:Nat} {cur:Option (Value×PV)} {left:List (Value×PV)} (hx:opd s x=some (.ref id 0)) (hst:s.st id=some (.iter cur left)):
    OpZ P ⟨some t, .next x false,ty,pos,after,none⟩ s fun z=>(left=[]∧z=(s.st, .tup [.val (.bool false)]))∨∃i e,left[i]?=some e∧z=(upd s.st id (some (.iter (some e) (left.eraseIdx i))), .tup [.val (.bool true), .und, .und]):=by
  intro w g ρ hm hρ
  have rx:=hρ x (by simp [Op.operands]) _ hx
  simp only [Rep] at rx
  obtain ⟨b,n,cap,hio,hxv⟩:=rx
  have hob:=hm.obj id _ hst
  have hblt:∀{b'},Go.Abs.blk g id=some b'→b'<w.heap.size:=fun h=>axX hm (by rw [hst];simp) h
  simp only [ObjOK] at hob
  obtain ⟨b',n',cap',bm,ents,clock,seen,h1,h2,h3,h4,h5,h6,h7,h8⟩:=hob
  rw [hio] at h1;injection h1 with h1;injection h1 with h1 h1';injection h1' with h1' h1'';subst h1;subst h1''
  rw [hm.heap] at h3 h5
  have hblk:Go.Abs.blk g id=some b:=by simp [Go.Abs.blk,hio,h2]
  have hg3:(getObj b).run P w= .ok (.mapIter (some bm) clock seen clock) w:=by simp [getObj,Sem.run,h3]
  have hg5:(getObj bm).run P w= .ok (.map ents clock) w:=MapKept.run_getObj_map h5
  have hc0:(!seen.isEmpty&& !ents.isEmpty&&ents.all (fun e=>decide (e.born≥clock)))=false:=by
    cases hb:ents.isEmpty with
    |true=>rw [show ents= #[] from by simpa using hb];cases seen.isEmpty<;>rfl
    |false=>
      have:ents.all (fun e=>decide (e.born≥clock))=false:=by
        rw [←Bool.not_eq_true,Array.all_eq_true']
        intro hall
        have hne:ents.toList≠[]:=fun h=>by
          have:ents= #[]:=by apply Array.toList_inj.1;rw [h]
          rw [this] at hb;simp at hb
        obtain ⟨e,he⟩:=List.exists_mem_of_ne_nil _ hne
        have:=hall e (by simpa using he)
        have h':=h6.1 e he
        simp at this;omega
      rw [this];simp
  let L:=ents.filter fun e=> !seen.contains e.born
  have hold:L.filter (fun e=>decide (e.born<clock))=L:=by
    apply Array.toList_inj.1
    rw [Array.toList_filter]
    exact List.filter_eq_self.2 fun e he=>by
      have:e∈ents.toList:=by
        have:e∈L:=by simpa using he
        have:=(Array.mem_filter.1 this).1
        simpa using this
      simpa using h6.1 e this
  have hnew:L.filter (fun e=>decide (e.born≥clock))= #[]:=by
    apply Array.toList_inj.1
    rw [Array.toList_filter]
    refine List.filter_eq_nil_iff.2 fun e he=> ?_
    have:e∈ents.toList:=by
      have:e∈L:=by simpa using he
      have:=(Array.mem_filter.1 this).1
      simpa using this
    have:=h6.1 e this
    simp;omega
  let cands:Array (Option MapEntry):=(if L.isEmpty then #[none] else #[])++L.map some
  have hpos:0<cands.size:=by
    show 0<((if L.isEmpty then #[none] else #[])++L.map some).size
    cases hb:L.isEmpty with
    |true=>simp;omega
    |false=>simp;exact Array.size_pos_iff.2 (by simpa using hb)
  obtain ⟨j,w1,c1,c2,c3⟩:=yC (P:=P) cands.size hpos w
  have hm1:MemOK P s.st w1 g∧Frame (Blocks s.st g) w g w1 g∧w1.heap=w.heap:=by
    rcases c3 with rfl|rfl
    · exact ⟨hm,Frame.refl _ _ _,rfl⟩
    · exact ⟨(mS hm _ (Nat.le_succ _)).1,(mS hm _ (Nat.le_succ _)).2.mono fun _ h=>h.elim,rfl⟩
  obtain ⟨m1,m2,m3⟩:=hm1
  have hrun:(execOp ρ (⟨some t, .next x false,ty,pos,after,none⟩:Oper)).run P w=((match cands[j]? with
      |some (some e)=>do
        setObj b (.mapIter (some bm) clock (seen.push e.born) clock)
        pure (.tuple #[.bool true,e.key,e.val])
      |some none=>pure (.tuple #[.bool false])
      | none => stuck "Next: no such candidate" : Sem Value) >>= fun v => pure (.value v) : Sem Next).run P w1 := by
    simp only [execOp,Instr.next,hxv,Sem.run_bind,hg3,hg5,Result.andThen_ok,hc0,Bool.false_eq_true,if_false,Sem.run_pure]
    have e1:((if (L.filter fun e=>decide (e.born<clock)).isEmpty=true then #[none] else #[])++Array.map some ((L.filter fun e=>decide (e.born<clock))++L.filter fun e=>decide (e.born≥clock)))=cands:=by
      rw [hold,hnew,Array.append_empty]
    simp only [L] at e1
    rw [e1,c1]
    simp only [Result.andThen_ok]
    cases hj:cands[j]? with
    |none=>rfl
    |some o=>cases o<;>rfl
  rw [hrun]
  have hLl:L.toList=ents.toList.filter fun e=> !seen.contains e.born:=by rw [Array.toList_filter]
  rw [←hLl] at h7
  by_cases hL:L= #[]
  · have hleft:left=[]:=by
      have:=RepE.len h7
      rw [hL] at this
      exact List.length_eq_zero_iff.1 (by simpa using this.symm)
    have hc:cands= #[none]:=by
      show ((if L.isEmpty then #[none] else #[])++L.map some)=_
      rw [hL];simp
    rw [hc] at c2
    have hj0:j=0:=by simpa using c2
    have hcj:cands[j]?=some none:=by rw [hc,hj0];rfl
    rw [hcj]
    simp only [Sem.run_bind,Sem.run_pure,Result.andThen_ok,OpRes]
    exact ⟨g,_, .inl ⟨hleft,rfl⟩,by simp only [Rep];exact ⟨[.bool false],rfl,by simp only [RepL];exact ⟨_,_,rfl,by simp [Rep],rfl⟩⟩,m1,Le.refl g,m2,fun b hb=> .inl hb⟩
  · have hc:cands=L.map some:=by
      show ((if L.isEmpty then #[none] else #[])++L.map some)=_
      rw [if_neg (by simpa using hL)];simp
    have hjL:j<L.size:=by rw [hc] at c2;simpa using c2
    have hLj:L[j]?=some L[j]:=by simp [hjL]
    have hcj:cands[j]?=some (some L[j]):=by rw [hc];simp [hjL]
    obtain ⟨k,p,e1,e2,e3⟩:=RepE.get h7 (j:=j) (m:=L[j]) (by rw [Array.getElem?_toList];exact hLj)
    rw [hcj]
    have hw1b:w1.heap[b]?=some (.mapIter (some bm) clock seen clock):=by rw [m3];exact h3
    have hso:(setObj b (.mapIter (some bm) clock (seen.push L[j].born) clock)).run P w1= .ok () {w1 with heap:=w1.heap.setIfInBounds b (.mapIter (some bm) clock (seen.push L[j].born) clock)}:=by
      simp [setObj,Sem.run,hw1b]
    simp only [Sem.run_bind,hso,Sem.run_pure,Result.andThen_ok,OpRes]
    have hne:bm≠b:=fun e=>by rw [e,h3] at h5;cases h5
    have hlt:=bE hw1b
    have hmemL:L[j]∈ents.toList:=by
      have:L[j]∈L:=Array.getElem_mem hjL
      have:=(Array.mem_filter.1 this).1
      simpa using this
    have hfilter:(ents.toList.filter fun e=> !(seen.push L[j].born).contains e.born)=L.toList.eraseIdx j:=by
      rw [←lN (·.born) (x:=L[j]) (by rw [hLl];exact qS _ _ h6.2) (j:=j) (by rw [Array.getElem?_toList];exact hLj),hLl,List.filter_filter]
      refine List.filter_congr fun e he=> ?_
      simp only [Array.contains_push]
      cases seen.contains e.born<;>simp [Bool.and_comm,eq_comm]<;>(try (by_cases hx:e.born=L[j].born<;>simp [hx]))
    obtain ⟨q1,q2,q3,q4⟩:=gZ (o':= .iter (some (k,p)) (left.eraseIdx j)) (w':={w1 with heap:=w1.heap.setIfInBounds b (.mapIter (some bm) clock (seen.push L[j].born) clock)}) m1 (by rw [hst];simp) hblk hw1b rfl
      (fun i hi=>by simp only [aU,hw1b];simp [hlt]) (fun h=>by obtain ⟨a1,a2,a3,_⟩:=hm.fmm b h;rw [h3] at a3;cases a3) (fun hle=>by
        simp only [ObjOK]
        refine ⟨b,n,cap,bm,ents,clock,seen.push L[j].born,hio,h2,by simp [hlt],h4, ?_,h6, ?_,fun k' p' e=> ?_⟩
        · show (w1.heap.setIfInBounds b _)[bm]?=_
          rw [Array.getElem?_setIfInBounds_ne (Ne.symm hne),m3];exact h5
        · rw [hfilter];exact RepE.mono hle _ _ (RepE.erase j h7)
        · injection e with e;injection e with e4 e5;subst e4;subst e5
          exact ⟨L[j],hmemL,e2,Rep.mono hle _ _ e3,by simp⟩)
    refine ⟨_,_, .inr ⟨j,(k,p),e1,rfl⟩, ?_,q1,q2,m2.trans q3 fun b' _ hb'=>hb',fun b' hb'=>by
      rcases q4 b' hb' with h|h
      · exact .inl h
      · right;rw [m3] at h;exact h⟩
    simp only [Rep]
    exact ⟨[.bool true,L[j].key,L[j].val],rfl,by simp only [RepL];exact ⟨_,_,rfl,by simp [Rep],_,_,rfl,trivial,_,_,rfl,trivial,rfl⟩⟩
theorem alI {o:Oper} {s:St} {x:Operand} {id:Nat} {k:Value} {q p:PV} {left:List (Value×PV)} (ho:o.op= .entry x) (hx:opd s x=some (.ref id 0)) (hst:s.st id=some (.iter (some (k,p)) left)) (hq:∀g,Rep g q k):OpV P o s (.tup [q,p]):=by
  refine aQ fun w g ρ hm hρ=> ?_
  have rx:=hρ x (by rw [ho];simp [Op.operands]) _ hx
  simp only [Rep] at rx
  obtain ⟨b,n,cap,hio,hxv⟩:=rx
  have hob:=hm.obj id _ hst
  simp only [ObjOK] at hob
  obtain ⟨b',n',cap',bm,ents,clock,seen,h1,h2,h3,h4,h5,h6,h7,h8⟩:=hob
  rw [hio] at h1;injection h1 with h1;injection h1 with h1 h1';subst h1
  rw [hm.heap] at h3 h5
  obtain ⟨e,e1,e2,e3,e4⟩:=h8 k p rfl
  have hfind:ents.find? (fun x=>x.born==e.born)=some e:=by
    rw [←Array.find?_toList]
    have:∀{l:List MapEntry},(l.map (·.born)).Nodup→e∈l→l.find? (fun x=>x.born==e.born)=some e:=by
      intro l
      induction l with
      |nil=>intro _ h;cases h
      |cons y l ih=>
        intro hn he
        simp only [List.map_cons,List.nodup_cons] at hn
        rcases List.mem_cons.1 he with rfl|he
        · simp
        · have hne:y.born≠e.born:=fun h=>hn.1 (List.mem_map.2 ⟨e,he,h.symm⟩)
          rw [List.find?_cons_of_neg (by simpa using hne)]
          exact ih hn.2 he
    exact this h6.2 e1
  refine ⟨.tuple #[e.key,e.val], ?_,by simp only [Rep];exact ⟨[e.key,e.val],rfl,by simp only [RepL];exact ⟨_,_,rfl,e2▸hq g,_,_,rfl,e3,rfl⟩⟩⟩
  simp [execOp,ho,Instr.entry,hxv,getObj,Sem.run,h3,h5,e4,hfind]
end
end Go.Abs
namespace Go.Abs
open Go
section
variable {P:Program} {tt:TT}
def PY (P:Program) (idl:Nat) (args:List PV) (st:aL) (R:PV→aL→Prop):Prop:=
  ∀w g b vs,MemOK P st w g→(∃n cap,g.io idl=some (b,n,cap))→RepL g args vs→
    OpRes P (fun v w'=>∃r st' g',R r st'∧Rep g' r v∧MemOK P st' w' g'∧Le g g'∧Frame (Blocks st g) w g w' g'∧∀b,Blocks st' g' b→Blocks st g b∨w.heap.size≤b) ((Instr.yield b vs.toArray).run P w)
theorem PY.mono {idl:Nat} {args:List PV} {st:aL} {R R':PV→aL→Prop} (h:PY P idl args st R) (hr:∀r S,R r S→R' r S):PY P idl args st R':=fun w g b vs hm hb hv=>
  (h w g b vs hm hb hv).mono fun _ _ ⟨r,st',g',h1,h2⟩=>⟨r,st',g',hr _ _ h1,h2⟩
theorem SI.act {c:Ctx} {s:St} {a a':Act} {w:World} {g:G} {lam:Nat→Nat} (hs:SI P c s a w g lam) (ht:a'.tmps=a.tmps) (hd:DfOK c a' g):SI P c s a' w g lam:=
  ⟨hs.mem,hs.le,hs.frame,hs.blk,fun t=>by rw [ht];exact hs.env t,hs.box,hs.inj,hs.ad,hs.adL,hd,by rw [ht];exact hs.n,hs.top⟩
end
end Go.Abs
namespace Go.Abs
open Go
section
variable {P:Program} {tt:TT}
variable {K V:Type} [DecidableEq K] {kt:TypeId} {enc:K→Value} {rep:K→PV} {f:V→PV}
theorem Stamps.erase {ents:List MapEntry} {clock:Nat} (h:nM ents clock) (j:Nat):nM (ents.eraseIdx j) clock:=
  ⟨fun e he=>h.1 e (List.mem_of_mem_eraseIdx he),h.2.sublist ((List.eraseIdx_sublist ents j).map _)⟩
end
section
variable {P:Program} {tt:TT} {l:List Oper} {d:Md} {r:List Oper} {s:St} {K:St→Prop} {t:Nat} {ty:TypeId} {pos:String} {after:Array Edge}
theorem kK {f:Operand} {args:Array Operand} {ts:Array TypeId} {gd:Option (Nat×Bool)} {fid:FuncId} {caps ps:List PV} {w:Bool} {p:PV} (hw:bH l ⟨some t, .call ⟨.value f,args,ts⟩,ty,pos,after,gd⟩ s=some w) (hf:opd s f=some (.fn fid caps)) (hps:lK s args.toList=some ps) (h:w=true→PF P fid (ps.map soft++caps) p) (hfl:All (flagsI s w (f::args.toList) [])) (hd:Nat.blt t s.n=true)
    (ht:cI d l r=true) (k:Ev P l d r (s.put (some t) w (.pv p)) K):Ev P l d (⟨some t, .call ⟨.value f,args,ts⟩,ty,pos,after,gd⟩::r) s K:=
  aAi (ps.map soft) hw hf hps (WkL.soft ps) h hfl hd ht k
end
end Go.Abs
namespace Go.Abs
open Go
section
variable {P:Program} {tt:TT}
end
end Go.Abs
namespace Go.Abs
open Go
section
variable {P:Program} {tt:TT} {l:List Oper}
def afZ (l:List Oper):List Nat→Option (List Oper)
  |[]=>some []
  |k::ord=>match l[k]?,afZ l ord with
    |some o,some r=>some (o::r)
    |_,_=>none
theorem AAny.only {md:Md} {K:St→Prop} {i:Nat} {oi:Oper} {R:aL×PV→Prop} (hi:l[i]?=some oi) (hz:iC i md.z=true) (fuel:Nat) (listed:Array Bool) (s:St)
    (hall:(Region.ready .any l.toArray listed).all (fun j=>Nat.beq j i)=true) (hr:i∈Region.ready .any l.toArray listed) (hy:ZOp P l oi s R) (H:∀x,R x→AAny P l md K fuel (listed.setIfInBounds i true) (s.turn oi x)):AAny P l md K (fuel+1) listed s:=by
  refine ⟨fun h=>(by rw [h] at hr;cases hr),fun j hj=> ?_⟩
  obtain rfl:j=i:=by
    have:=List.all_eq_true.1 hall j hj
    exact Nat.eq_of_beq_eq_true this
  unfold AOp;rw [hi];simp only [hz];exact ⟨R,hy,H⟩
def ayA (l:List Oper) (md:Md):List Nat→Array Bool→Bool
  |[],_=>true
  |k::ord,listed=>(Region.ready .any l.toArray listed).contains k&& !iC k md.z&& !iC k md.r&&ajK l md listed k&&ayA l md ord (listed.setIfInBounds k true)
def aAo :List Nat→Array Bool→Array Bool
  |[],listed=>listed
  |k::ord,listed=>aAo ord (listed.setIfInBounds k true)
theorem AAny.pre {md:Md} {K K':St→Prop} (n:Nat):∀(ord:List Nat) (r:List Oper) (listed:Array Bool) (s:St),afZ l ord=some r→AdOK s→LOK l s→ayA l md ord listed=true→EvD P l (.draw [] []) r s K'→(∀s',AdOK s'→LOK l s'→K' s'→AAny P l md K n (aAo ord listed) s')→AAny P l md K (n+r.length) listed s
  |[],r,listed,s,hp,hA,hLK,_,h,hk=>by
    simp only [afZ,Option.some.injEq] at hp
    subst hp
    exact hk s hA hLK h
  |k::ord,r,listed,s,hp,hA,hLK,hB,h,hk=>by
    simp only [afZ] at hp
    cases h0:l[k]? with
    |none=>rw [h0] at hp;cases hp
    |some o=>
      cases h1:afZ l ord with
      |none=>rw [h0,h1] at hp;cases hp
      |some r'=>
        rw [h0,h1] at hp
        injection hp with hp
        subst hp
        simp only [ayA,Bool.and_eq_true,Bool.not_eq_true'] at hB
        obtain ⟨⟨⟨⟨hr,hz⟩,hrd⟩,hf⟩,hB'⟩:=hB
        have ho:o∈l:=List.mem_of_getElem? h0
        unfold EvD at h
        have e0:∀x,iC x (Md.draw [] []).z=false:=fun _=>rfl
        have e1:∀x,iC x (Md.draw [] []).r=false:=fun _=>rfl
        rw [e0,e1] at h
        obtain ⟨T,hT,hK⟩:=h
        have hT':AStep P l o s (iC k md.r) T:=by rw [hrd];exact hT
        exact AAny.first h0 hz (n+r'.length) listed s (pF h0 hf) hA hLK (by simpa using hr) hT' (AAny.pre n ord r' _ _ h1 (hT.adOK hA) (hLK.step ho hT hA) hB' hK fun s'=>hk s')
end
end Go.Abs
namespace Go.Abs
open Go
section
variable {P:Program} {tt:TT} {l:List Oper} {d:Md} {r:List Oper} {s:St} {K:St→Prop} {t:Nat} {ty:TypeId} {pos:String} {after:Array Edge} {gd:Option (Nat×Bool)}
theorem azE (pk:Pk P tt) {T kt e:TypeId} {x:Operand} {es:List (Value×PV)} (hx:opd s x=some (.fmap es)) (hT:tiK tt T=some (.map kt e)) (hf:bM s [x]=true) (hd:Nat.blt t s.n=true) (ht:jY d l r=true)
    (k:∀id,s.st id=none→Ev P l d r ((s.sst (upd s.st id (some (.iter none es)))).pv t (.ref id 0)) K):Ev P l d (⟨some t, .range T x,ty,pos,after,none⟩::r) s K:=by
  refine eE (anM pk.htt hx hT) (fun z hz=>aW (fun _ _ _ e=>by cases e) hz) hf hd ht ?_
  rintro z ⟨id,h,rfl⟩
  exact k id h
theorem aAr {x:Operand} {id:Nat} {cur:Option (Value×PV)} {left:List (Value×PV)} (hx:opd s x=some (.ref id 0)) (hst:s.st id=some (.iter cur left)) (hf:bM s [x]=true) (hd:Nat.blt t s.n=true) (ht:jY d l r=true)
    (k1:left=[]→Ev P l d r ((s.sst s.st).pv t (.tup [.val (.bool false)])) K)
    (k2:∀i e,left[i]?=some e→Ev P l d r ((s.sst (upd s.st id (some (.iter (some e) (left.eraseIdx i))))).pv t (.tup [.val (.bool true), .und, .und])) K):Ev P l d (⟨some t, .next x false,ty,pos,after,none⟩::r) s K:=by
  refine eE (aoY hx hst) (fun z hz=>aW (fun _ _ _ e=>by cases e) hz) hf hd ht ?_
  rintro z (⟨h,rfl⟩|⟨i,e,h,rfl⟩)
  · exact k1 h
  · exact k2 i e h
theorem ayT {w:Bool} {x:Operand} {id:Nat} {k:Value} {q p:PV} {left:List (Value×PV)} (hw:bH l ⟨some t, .entry x,ty,pos,after,gd⟩ s=some w) (hx:opd s x=some (.ref id 0)) (hst:s.st id=some (.iter (some (k,p)) left)) (hq:∀g,Rep g q k) (hf:All (flagsI s w [x] [])) (hd:Nat.blt t s.n=true) (ht:tW d l r=true)
    (kk:Ev P l d r (s.put (some t) w (.pv (.tup [q,p]))) K):Ev P l d (⟨some t, .entry x,ty,pos,after,gd⟩::r) s K:=
  oV hw (fun _=>alI rfl hx hst hq) (fun z hz=>aW (fun _ _ _ e=>by cases e) hz) (flagsI.g hf).1 hd ht kk
theorem Rep.int {g:G} {k:IntKind} (n:Int):Rep g (.val (.int k n)) (.int k n):=by simp [Rep]
end
end Go.Abs
