import Derived.Test.YtcglimangneafaaGreatDoorBsCell
set_option linter.unusedSimpArgs false
set_option linter.unusedVariables false
namespace Go.Proofs.YtcglimangneafaaGreatDoor
open Go Go.Abs
attribute [local irreducible] Ev PWp
set_option maxRecDepth 10000
set_option maxHeartbeats 4000000
section
variable {P:Program} {tt:TT} {l:List Oper} {d:Md} {r:List Oper} {s:St} {K:St→Prop} {t:Nat} {ty:TypeId} {pos:String} {after:Array Edge}
theorem aAf {α:Type} {f:α→List PV} (pk:Pk P tt) (z0:α) {T e:TypeId} {x y:Operand} {kx ky:IntKind} {n B sz:Nat} {z:List Value} {a b:Int} (hx:opd s x=some (.val (.int kx a))) (hy:opd s y=some (.val (.int ky b))) (hk:tiK tt T=some (.slice e)) (hs:aW tt e=some sz) (hz:tiZ tt e=some z) (hzl:z.length=sz) (hpos:Nat.blt 0 sz=true) (hf0:z.map .val=f z0) (hf:bT s [x,y]=true) (hd:Nat.blt t s.n=true) (ht:jU d l r=true)
    (ha:a=n) (hb':b=n) (hB:P.bytesOf e=B) (hb:n*B≤140737488355328) (h62:n<4611686018427387904) (k:∀id,s.st id=none→Ev P l d r ((s.sst (upd s.st id (some (.arr e ((List.replicate n z0).map f))))).pv t (.vec id sz 0 n)) K):Ev P l d (⟨some t, .makeSlice T x y,ty,pos,after,none⟩::r) s K:=by
  subst ha hb'
  refine eC (wA pk.htt hx hy hk hs hz hzl (by simpa [Nat.blt_eq] using hpos) hB hb h62) (fun z hz=>aZ (fun _ _ _ e=>by cases e) hz) hf hd ht fun zz hzz=> ?_
  obtain ⟨id,h1,rfl⟩:=hzz
  have:=k id h1
  rw [List.map_replicate,←hf0] at this
  exact this
end
theorem lF {α:Type} {f:α→List PV} {id sz n:Nat} {l:List α} (hn:l.length=n):Fz id sz (l.map f) (.vec id sz 0 n) (.seq (l.map f)):=by
  have e:(l.map f).length=n:=(zql _).trans hn
  rw [←e];exact .all
theorem azS {f:FuncId} {args:List PV} {st:aO} {R R':PV→aO→Prop} (h:PC Tryz.prog f args st R) (hr:∀p st',R p st'→∃q,Wk p q∧R' q st'):PC Tryz.prog f args st R':=
  ⟨h.1,fun w g vs hm hv=>(h.2 w g vs hm hv).mono fun e w' ⟨v,r,st',g',h1,h2,h3,h4⟩=>by
    obtain ⟨q,k1,k2⟩:=hr _ _ h2
    exact ⟨v,q,st',g',h1,k2,k1 _ _ h3,h4⟩⟩
theorem RepA.wk {g:G} {b:Nat} {ps qs:List PV} (h:WkL ps qs):∀{off:Nat},RepA g b off ps→RepA g b off qs:=by
  induction h with
  |nil=>exact fun h=>h
  |cons h _ ih=>
    intro off e
    simp only [RepA] at e⊢
    obtain ⟨⟨v,e1,e2,e3⟩,e4⟩:=e
    exact ⟨⟨v,e1,e2,h _ _ e3⟩,ih e4⟩
theorem auC {ps qs:List PV} (h:WkL ps qs):ps.length=qs.length:=by
  induction h with
  |nil=>rfl
  |cons _ _ ih=>simp [ih]
theorem RepR.wk {α:Type} {f k:α→List PV} {g:G} {b sz:Nat}:∀{l:List α} (_:∀x∈l,WkL (f x) (k x)) {off:Nat},RepR g b off sz (l.map f)→RepR g b off sz (l.map k)
  |[],_,_,e=>e
  |x::l,h,off,e=>by
    simp only [List.map_cons,RepR] at e⊢
    exact ⟨auC (h x (by simp))▸e.1,RepA.wk (h x (by simp)) e.2.1,RepR.wk (fun y hy=>h y (by simp [hy])) e.2.2⟩
theorem Wk.rows {α:Type} {f k:α→List PV} {l:List α} (h:∀x∈l,WkL (f x) (k x)):Wk (.seq (l.map f)) (.seq (l.map k)):=fun g v e=>by
  unfold Rep at e⊢
  obtain ⟨a,cap,h1,h2,h3,h4⟩:=e
  rw [zql] at h1 h2 h3
  refine ⟨a,cap,by rw [zql];exact h1,by rw [zql];exact h2,by rw [zql];exact h3, ?_⟩
  rcases h4 with h4|⟨b,off,sz,q1,q2⟩
  · exact .inl (by rw [List.map_eq_nil_iff] at h4⊢;exact h4)
  · exact .inr ⟨b,off,sz,q1,RepR.wk h q2⟩
def akJ (_:Unit):List PV:=[.val (.slice none 0 0)]
def lH (s:Sc):Bs:=List.replicate s.length ⟨[]⟩
theorem awY (n:Nat):Wk (.agg [.seq ((List.replicate n ()).map akJ)]) (.agg (bsC (List.replicate n ⟨[]⟩))):=by
  refine Wk.agg (.cons ?_ .nil)
  have:=Wk.rows (f:=akJ) (k:=fun _=>Da.cells ⟨[]⟩) (l:=List.replicate n ()) fun _ _=> .cons Wk.nil .nil
  rwa [List.map_replicate (f:=fun _=>Da.cells ⟨[]⟩),←List.map_replicate (f:=Da.cells)] at this
theorem arY (s:Sc) (hl:s.length<2000000000000):PF Tryz.prog 21 [.agg (scC s)] (.agg (bsC (lH s))):=fun st=>
  azS (pA (sz:=1) (R:=fun r S=>∃id,r= .agg [.vec id 1 0 s.length]∧st id=none∧S=upd st id (some (.arr 108 ((List.replicate s.length ()).map akJ)))) (R':=fun r S=>r= .agg [.seq ((List.replicate s.length ()).map akJ)]∧S=st) (by
    refine eD aG Tryz.func21 (by kernel_rfl) rfl rfl rfl rfl ?_
    (try (apply wO pk;exact rfl));(repeat' (first|(show All _;constructor)|(show Imp _ _;constructor)|(show ImpX _ _ _ _;constructor)|(apply wC pk;(iterate 2 exact rfl))|(apply wE pk;(iterate 2 exact rfl))|(apply wX pk;exact rfl)|(apply wN pk;exact rfl)|(apply wDx pk;exact rfl;kernel_rfl;exact rfl;exact rfl)|(apply aB;simp only [zqt,zqf])|(refine aC rfl (fun h=> ?_) (fun h=> ?_)<;>(try simp at h)<;>try (exfalso;omega))|((try refine aD ?_);(first|(refine ⟨_,_,_,rfl,Wk.refl _,StSub.refl _, ?_⟩;(exact ⟨id,rfl,hid,rfl⟩);done)|(refine ⟨_,_, ?zs,rfl,Wk.refl _, ?zh, ?zr⟩;(case zh=>(refine aI ?_ (by assumption);(repeat refine aI ?_ (by assumption));exact StSub.refl _));(case zr=>(exact ⟨id,rfl,hid,rfl⟩)))|refine ⟨_,_,_,rfl,Wk.refl _,StSub.refl _, ?_⟩))|(apply ncA;(iterate 3 exact rfl);rotate_left;exact rfl;exact rfl)|(apply ldR pk;exact rfl;exact rfl;rotate_left;exact rfl;(focus ((repeat (first|exact aA _ _ _|assumption|refine (aF (by assumption)).trans ?_));done));exact rfl;exact rfl)|(apply stR pk;exact rfl;exact rfl;(focus ((repeat (first|exact aA _ _ _|assumption|refine (aF (by assumption)).trans ?_));done));exact rfl;exact rfl)|(apply aAf pk () (f:=akJ) (n:=s.length) (B:=24);(iterate 11 exact rfl);(focus (simp;done));(focus (simp;done));exact yY;omega;omega;intro id hid)|(intros;(try simp only [zql]);omega)))) fun p st' h=>by
    obtain ⟨id,rfl,h3,rfl⟩:=h
    exact .inl ⟨id,108,(List.replicate s.length ()).map akJ,_,st,aA _ _ _,zB, .agg (.cons (lF (by simp)) .nil),eO h3,rfl,rfl⟩) fun p st' h=>⟨_,h.1▸awY _,rfl,h.2⟩
variable (sh:Cl→Vl)
def aoU (c:Cl):Prop:=PF Tryz.prog 55 [.agg c.cells] (.agg (sh c).cells)
theorem awT (l:Ln) (hl:l.cells_.length<1000000000000) (hs:∀c∈l.cells_,aoU sh c) (st:aO):PC Tryz.prog 25 [.agg l.cells] st fun r S=>∃id,r= .vec id 3 0 l.cells_.length∧st id=none∧S=upd st id (some (.arr 47 ((l.cells_.map sh).map Vl.cells))):=by
  refine eD aG Tryz.func25 (by kernel_rfl) rfl rfl rfl rfl ?_
  (try (apply wO pk;exact rfl));(repeat' (first|(show All _;constructor)|(show Imp _ _;constructor)|(show ImpX _ _ _ _;constructor)|(apply wC pk;(iterate 2 exact rfl))|(apply wE pk;(iterate 2 exact rfl))|(apply wX pk;exact rfl)|(apply wN pk;exact rfl)|(apply wD pk [] [];kernel_rfl;exact rfl;exact rfl)|(apply aB;simp only [zqt,zqf])|(refine aC rfl (fun h=> ?_) (fun h=> ?_)<;>(try simp at h)<;>try (exfalso;omega))|(refine aD ?_;refine ⟨_,_,_,rfl,Wk.refl _,StSub.refl _, ?_,rfl⟩;try rfl)|(intros;(try simp only [zql]);omega)))
  refine kT 3 47 3 rfl rfl rfl (fun id hid=> ?_)
  refine aP (X:={x:Nat×Nat//x.1≤l.cells_.length∧st x.2=none}) (fun i=>(((((St.nil 20 (upd st i.1.2 (some (.arr 47 (((l.cells_.map sh).take i.1.1).map Vl.cells))))).pv 3 (.vec i.1.2 3 0 i.1.1)).pv 7 (.seq (l.cells_.map Cl.cells))).pv 8 ((PV.val (Value.int .i64 (((l.cells_.map Cl.cells).length:Nat)))))).pv 9 ((PV.val (Value.int .i64 ((i.1.1:Nat))))))) (fun i=>l.cells_.length-i.1.1) ⟨(0,id),by simp,hid⟩ ?_ (fun i=> ?_)
  · dsimp only
    (first|exact Sub.nil _ _ _ (StSub.refl _) rfl|((repeat (first|refine Sub.pv ?_ rfl|refine Sub.var ?_ rfl rfl));(first|exact Sub.nil _ _ _ (StSub.refl _) rfl|exact Sub.nil _ _ _ (aQ (by assumption)) rfl|exact Sub.nil _ _ _ (aJ (by first|rfl|exact aV (by assumption)|((simp only [St.pv,St.put,St.sst,St.setv,St.nil,St.var,aN]);first|done|rfl))) rfl|(refine Sub.nil _ _ _ (aJ ?_) rfl;(simp only [St.pv,St.put,St.sst,St.setv,St.nil,St.var,aN]);(rw [cX (by assumption)]);first|done|rfl))))
  obtain ⟨⟨i,id⟩,hi,hid⟩:=i
  simp only at hi hid
  dsimp only
  by_cases hend:l.cells_.length≤i
  · have e:(l.cells_.map sh).take i=l.cells_.map sh:=List.take_of_length_le (by simp;omega)
    obtain rfl:i=l.cells_.length:=by omega
    (try (apply wO pk;exact rfl));(repeat' (first|(show All _;constructor)|(show Imp _ _;constructor)|(show ImpX _ _ _ _;constructor)|(apply wC pk;(iterate 2 exact rfl))|(apply wE pk;(iterate 2 exact rfl))|(apply wX pk;exact rfl)|(apply wN pk;exact rfl)|(apply wDx pk;exact rfl;kernel_rfl;exact rfl;exact rfl)|(apply aB;simp only [zqt,zqf])|(refine aC rfl (fun h=> ?_) (fun h=> ?_)<;>(try simp at h)<;>try (exfalso;omega))|((try refine aD ?_);(first|(refine ⟨_,_,_,rfl,Wk.refl _,StSub.refl _, ?_⟩;(exact ⟨id,rfl,hid,by rw [e];rfl⟩);done)|(refine ⟨_,_, ?zs,rfl,Wk.refl _, ?zh, ?zr⟩;(case zh=>(refine aI ?_ (by assumption);(repeat refine aI ?_ (by assumption));exact StSub.refl _));(case zr=>(exact ⟨id,rfl,hid,by rw [e];rfl⟩)))|refine ⟨_,_,_,rfl,Wk.refl _,StSub.refl _, ?_⟩))|(apply ncA;(iterate 3 exact rfl);rotate_left;exact rfl;exact rfl)|(apply ldR pk;exact rfl;exact rfl;rotate_left;exact rfl;(focus ((repeat (first|exact aA _ _ _|assumption|refine (aF (by assumption)).trans ?_));done));exact rfl;exact rfl)|(apply stR pk;exact rfl;exact rfl;(focus ((repeat (first|exact aA _ _ _|assumption|refine (aF (by assumption)).trans ?_));done));exact rfl;exact rfl)|(intros;(try simp only [zql]);omega)))
  have h1:i<l.cells_.length:=by omega
  have hc:PF Tryz.prog 55 [.agg l.cells_[i].cells] (.agg (sh l.cells_[i]).cells):=hs _ (List.getElem_mem h1)
  have e:(l.cells_.map sh).take (i+1)=(l.cells_.map sh).take i++[sh l.cells_[i]]:=by rw [List.take_succ_eq_append_getElem (by simpa using h1)];simp
  (try (apply wO pk;exact rfl));(repeat' (first|(show All _;constructor)|(show Imp _ _;constructor)|(show ImpX _ _ _ _;constructor)|(apply wC pk;(iterate 2 exact rfl))|(apply wE pk;(iterate 2 exact rfl))|(apply wX pk;exact rfl)|(apply wN pk;exact rfl)|(apply wD pk [] [];kernel_rfl;exact rfl;exact rfl)|(apply aB;simp only [zqt,zqf])|(refine aC rfl (fun h=> ?_) (fun h=> ?_)<;>(try simp at h)<;>try (exfalso;omega))|(refine aD ?_;first|(refine ⟨_,_,_,rfl,Wk.refl _,StSub.refl _, ?_,rfl⟩;(first|rfl))|(refine ⟨_,_,_,rfl,Wk.refl _,aH (by assumption), ?_,rfl⟩;(first|rfl))|(refine ⟨_,_,_,rfl,Wk.soft _,StSub.refl _, ?_,rfl⟩;(first|rfl))|(refine ⟨_,_,_,rfl,Wk.soft _,aH (by assumption), ?_,rfl⟩;(first|rfl))|(refine ⟨_,_,_,rfl,Wk.refl _,StSub.refl _, ?_,rfl⟩)|(refine ⟨_,_,_,rfl,Wk.soft _,aH (by assumption), ?_,rfl⟩))|(apply aL;(iterate 3 exact rfl);(intro _;apply hc<;>first|assumption|omega);rotate_left;(iterate 2 exact rfl))|(apply bC pk;(iterate 6 exact rfl);rotate_left;exact rfl;(intro hw;exact rfl);(intro hw;apply aM<;>omega);(intro _;exact rfl);exact rfl)|(apply apV pk (f:=Vl.cells) [sh l.cells_[i]] 32;(iterate 9 exact rfl);(focus ((repeat (first|exact aA _ _ _|assumption|refine (aF (by assumption)).trans ?_));done));(first|omega|assumption|(focus (simp;done))|(focus (simp;omega))|(focus (simp at*;omega)));exact fun _=>rfl;exact fun _=>rfl;exact aaM;(first|omega|assumption|(focus (simp;done))|(focus (simp;omega))|(focus (simp at*;omega)));(first|omega|assumption|(focus (simp;done))|(focus (simp;omega))|(focus (simp at*;omega)));exact rfl;intro id' hid')|(apply ap0 pk (f:=Vl.cells) [sh l.cells_[i]] 32;(iterate 10 exact rfl);exact fun _=>rfl;exact fun _=>rfl;exact aaM;(first|omega|assumption|(focus (simp;done))|(focus (simp;omega))|(focus (simp at*;omega)));(first|omega|assumption|(focus (simp;done))|(focus (simp;omega))|(focus (simp at*;omega)));exact rfl;intro id' hid')|(refine ⟨⟨(i+1,id'),by simp only;omega,iZ hid'⟩, ?_,by simp only;omega⟩;((dsimp only;try rw [e]));(first|exact Sub.nil _ _ _ (StSub.refl _) rfl|((repeat (first|refine Sub.pv ?_ rfl|refine Sub.var ?_ rfl rfl|refine Sub.pv' ?_ rfl (by (first|rfl|simp))|refine Sub.var' ?_ rfl rfl (by (first|rfl|simp))));(first|exact Sub.nil _ _ _ (StSub.refl _) rfl|exact Sub.nil _ _ _ (aQ (by assumption)) rfl|exact Sub.nil _ _ _ (aJ (by first|rfl|exact aV (by assumption)|((simp only [St.pv,St.put,St.sst,St.setv,St.nil,St.var,aN]);first|done|rfl))) rfl|(refine Sub.nil _ _ _ (aJ ?_) rfl;(simp only [St.pv,St.put,St.sst,St.setv,St.nil,St.var,aN]);(rw [cX (by assumption)]);first|done|rfl)))))|(intros;(try simp only [zql]);omega)))
theorem adB (l:Ln) (hl:l.cells_.length<1000000000000) (hs:∀c∈l.cells_,aoU sh c):PF Tryz.prog 25 [.agg l.cells] (.seq ((l.cells_.map sh).map Vl.cells)):=fun st=>
  pA (sz:=3) (awT sh l hl hs st) fun p st' h=>by
    obtain ⟨id,rfl,h3,rfl⟩:=h
    exact .inl ⟨id,47,(l.cells_.map sh).map Vl.cells,_,st,aA _ _ _,qH,lF (by simp),eO h3,rfl,rfl⟩
def roC (r:List Vl):List PV:=[.seq (r.map Vl.cells)]
theorem roC.elem :Elem tt 45 roC (fun a=> .seq (a.map Vl.cells)) 1:=⟨rfl,fun _=>rfl,fun _=>rfl,fun _=>rfl,fun _=>rfl⟩
theorem ahH :Tryz.prog.bytesOf 45=24:=by kernel_rfl
theorem anH :Tryz.prog.cellsOf 45=1:=by kernel_rfl
def vW (l:Ln):List Vl:=l.cells_.map sh
theorem amQ (b:Bs) (k:Nat) (hk:k<b.length) (hl:b[k].lines.length<1000000000000) (hs:∀l∈b[k].lines,l.cells_.length<1000000000000∧∀c∈l.cells_,aoU sh c) (st:aO):PC Tryz.prog 17 [.agg (bsC b),(PV.val (Value.int .i64 ((k:Nat))))] st fun r S=>∃id,r= .vec id 1 0 b[k].lines.length∧st id=none∧S=upd st id (some (.arr 45 ((b[k].lines.map (vW sh)).map roC))):=by
  have ho:=qF b k hk
  generalize b[k].lines=L at*
  refine eD aG Tryz.func17 (by kernel_rfl) rfl rfl rfl rfl ?_
  (try (apply wO pk;exact rfl));(repeat' (first|(show All _;constructor)|(show Imp _ _;constructor)|(show ImpX _ _ _ _;constructor)|(apply wC pk;(iterate 2 exact rfl))|(apply wE pk;(iterate 2 exact rfl))|(apply wX pk;exact rfl)|(apply wN pk;exact rfl)|(apply wD pk [] [];kernel_rfl;exact rfl;exact rfl)|(apply aB;simp only [zqt,zqf])|(refine aC rfl (fun h=> ?_) (fun h=> ?_)<;>(try simp at h)<;>try (exfalso;omega))|(refine aD ?_;refine ⟨_,_,_,rfl,Wk.refl _,StSub.refl _, ?_,rfl⟩;try rfl)|(apply aL;(iterate 3 exact rfl);(intro _;apply ho<;>first|assumption|omega);rotate_left;(iterate 2 exact rfl))|(intros;(try simp only [zql]);omega)))
  refine kT 7 45 1 rfl rfl rfl (fun id hid=> ?_)
  refine aP (X:={x:Nat×Nat//x.1≤L.length∧st x.2=none}) (fun i=>(((((St.nil 30 (upd st i.1.2 (some (.arr 45 (((L.map (vW sh)).take i.1.1).map roC))))).pv 7 (.vec i.1.2 1 0 i.1.1)).pv 17 (.seq (L.map Ln.cells))).pv 18 ((PV.val (Value.int .i64 (((L.map Ln.cells).length:Nat)))))).pv 19 ((PV.val (Value.int .i64 ((i.1.1:Nat))))))) (fun i=>L.length-i.1.1) ⟨(0,id),by simp,hid⟩ ?_ (fun i=> ?_)
  · dsimp only
    (first|exact Sub.nil _ _ _ (StSub.refl _) rfl|((repeat (first|refine Sub.pv ?_ rfl|refine Sub.var ?_ rfl rfl));(first|exact Sub.nil _ _ _ (StSub.refl _) rfl|exact Sub.nil _ _ _ (aQ (by assumption)) rfl|exact Sub.nil _ _ _ (aJ (by first|rfl|exact aV (by assumption)|((simp only [St.pv,St.put,St.sst,St.setv,St.nil,St.var,aN]);first|done|rfl))) rfl|(refine Sub.nil _ _ _ (aJ ?_) rfl;(simp only [St.pv,St.put,St.sst,St.setv,St.nil,St.var,aN]);(rw [cX (by assumption)]);first|done|rfl))))
  obtain ⟨⟨i,id⟩,hi,hid⟩:=i
  simp only at hi hid
  dsimp only
  by_cases hend:L.length≤i
  · have e:(L.map (vW sh)).take i=L.map (vW sh):=List.take_of_length_le (by simp;omega)
    obtain rfl:i=L.length:=by omega
    (try (apply wO pk;exact rfl));(repeat' (first|(show All _;constructor)|(show Imp _ _;constructor)|(show ImpX _ _ _ _;constructor)|(apply wC pk;(iterate 2 exact rfl))|(apply wE pk;(iterate 2 exact rfl))|(apply wX pk;exact rfl)|(apply wN pk;exact rfl)|(apply wDx pk;exact rfl;kernel_rfl;exact rfl;exact rfl)|(apply aB;simp only [zqt,zqf])|(refine aC rfl (fun h=> ?_) (fun h=> ?_)<;>(try simp at h)<;>try (exfalso;omega))|((try refine aD ?_);(first|(refine ⟨_,_,_,rfl,Wk.refl _,StSub.refl _, ?_⟩;(exact ⟨id,rfl,hid,by rw [e];rfl⟩);done)|(refine ⟨_,_, ?zs,rfl,Wk.refl _, ?zh, ?zr⟩;(case zh=>(refine aI ?_ (by assumption);(repeat refine aI ?_ (by assumption));exact StSub.refl _));(case zr=>(exact ⟨id,rfl,hid,by rw [e];rfl⟩)))|refine ⟨_,_,_,rfl,Wk.refl _,StSub.refl _, ?_⟩))|(apply ncA;(iterate 3 exact rfl);rotate_left;exact rfl;exact rfl)|(apply ldR pk;exact rfl;exact rfl;rotate_left;exact rfl;(focus ((repeat (first|exact aA _ _ _|assumption|refine (aF (by assumption)).trans ?_));done));exact rfl;exact rfl)|(apply stR pk;exact rfl;exact rfl;(focus ((repeat (first|exact aA _ _ _|assumption|refine (aF (by assumption)).trans ?_));done));exact rfl;exact rfl)|(intros;(try simp only [zql]);omega)))
  have h1:i<L.length:=by omega
  have hc:=adB sh L[i] (hs _ (List.getElem_mem h1)).1 (hs _ (List.getElem_mem h1)).2
  have e:(L.map (vW sh)).take (i+1)=(L.map (vW sh)).take i++[L[i].cells_.map sh]:=by rw [List.take_succ_eq_append_getElem (by simpa using h1)];simp [vW]
  (try (apply wO pk;exact rfl));(repeat' (first|(show All _;constructor)|(show Imp _ _;constructor)|(show ImpX _ _ _ _;constructor)|(apply wC pk;(iterate 2 exact rfl))|(apply wE pk;(iterate 2 exact rfl))|(apply wX pk;exact rfl)|(apply wN pk;exact rfl)|(apply wD pk [] [];kernel_rfl;exact rfl;exact rfl)|(apply aB;simp only [zqt,zqf])|(refine aC rfl (fun h=> ?_) (fun h=> ?_)<;>(try simp at h)<;>try (exfalso;omega))|(refine aD ?_;first|(refine ⟨_,_,_,rfl,Wk.refl _,StSub.refl _, ?_,rfl⟩;(first|rfl))|(refine ⟨_,_,_,rfl,Wk.refl _,aH (by assumption), ?_,rfl⟩;(first|rfl))|(refine ⟨_,_,_,rfl,Wk.soft _,StSub.refl _, ?_,rfl⟩;(first|rfl))|(refine ⟨_,_,_,rfl,Wk.soft _,aH (by assumption), ?_,rfl⟩;(first|rfl))|(refine ⟨_,_,_,rfl,Wk.refl _,StSub.refl _, ?_,rfl⟩)|(refine ⟨_,_,_,rfl,Wk.soft _,aH (by assumption), ?_,rfl⟩))|(apply aL;(iterate 3 exact rfl);(intro _;apply hc<;>first|assumption|omega);rotate_left;(iterate 2 exact rfl))|(apply bC pk;(iterate 6 exact rfl);rotate_left;exact rfl;(intro hw;exact rfl);(intro hw;apply aM<;>omega);(intro _;exact rfl);exact rfl)|(apply apV pk (f:=roC) [L[i].cells_.map sh] 24;(iterate 9 exact rfl);(focus ((repeat (first|exact aA _ _ _|assumption|refine (aF (by assumption)).trans ?_));done));(first|omega|assumption|(focus (simp;done))|(focus (simp;omega))|(focus (simp at*;omega)));exact fun _=>rfl;exact fun _=>rfl;exact ahH;(first|omega|assumption|(focus (simp;done))|(focus (simp;omega))|(focus (simp at*;omega)));(first|omega|assumption|(focus (simp;done))|(focus (simp;omega))|(focus (simp at*;omega)));exact rfl;intro id' hid')|(apply ap0 pk (f:=roC) [L[i].cells_.map sh] 24;(iterate 10 exact rfl);exact fun _=>rfl;exact fun _=>rfl;exact ahH;(first|omega|assumption|(focus (simp;done))|(focus (simp;omega))|(focus (simp at*;omega)));(first|omega|assumption|(focus (simp;done))|(focus (simp;omega))|(focus (simp at*;omega)));exact rfl;intro id' hid')|(refine ⟨⟨(i+1,id'),by simp only;omega,iZ hid'⟩, ?_,by simp only;omega⟩;((dsimp only;try rw [e]));(first|exact Sub.nil _ _ _ (StSub.refl _) rfl|((repeat (first|refine Sub.pv ?_ rfl|refine Sub.var ?_ rfl rfl|refine Sub.pv' ?_ rfl (by (first|rfl|simp))|refine Sub.var' ?_ rfl rfl (by (first|rfl|simp))));(first|exact Sub.nil _ _ _ (StSub.refl _) rfl|exact Sub.nil _ _ _ (aQ (by assumption)) rfl|exact Sub.nil _ _ _ (aJ (by first|rfl|exact aV (by assumption)|((simp only [St.pv,St.put,St.sst,St.setv,St.nil,St.var,aN]);first|done|rfl))) rfl|(refine Sub.nil _ _ _ (aJ ?_) rfl;(simp only [St.pv,St.put,St.sst,St.setv,St.nil,St.var,aN]);(rw [cX (by assumption)]);first|done|rfl)))))|(intros;(try simp only [zql]);omega)))
theorem afC (b:Bs) (k:Nat) (hk:k<b.length) (hl:b[k].lines.length<1000000000000) (hs:∀l∈b[k].lines,l.cells_.length<1000000000000∧∀c∈l.cells_,aoU sh c):PF Tryz.prog 17 [.agg (bsC b),(PV.val (Value.int .i64 ((k:Nat))))] (.seq ((b[k].lines.map (vW sh)).map roC)):=fun st=>
  pA (sz:=1) (amQ sh b k hk hl hs st) fun p st' h=>by
    obtain ⟨id,rfl,h3,rfl⟩:=h
    exact .inl ⟨id,45,(b[k].lines.map (vW sh)).map roC,_,st,aA _ _ _,anH,lF (by simp),eO h3,rfl,rfl⟩
end Go.Proofs.YtcglimangneafaaGreatDoor
namespace Go.Proofs.YtcglimangneafaaGreatDoor
open Go Go.Abs
attribute [local irreducible] Ev PWp
set_option maxRecDepth 10000
set_option maxHeartbeats 4000000
end Go.Proofs.YtcglimangneafaaGreatDoor
