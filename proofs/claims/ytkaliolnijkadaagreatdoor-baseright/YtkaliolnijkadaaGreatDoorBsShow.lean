import Derived.Test.YtkaliolnijkadaaGreatDoorBsCell
set_option linter.unusedSimpArgs false
set_option linter.unusedVariables false
namespace Go.Proofs.YtkaliolnijkadaaGreatDoor
open Go Go.Abs
attribute [local irreducible] Ev PWp
set_option maxRecDepth 10000
set_option maxHeartbeats 4000000
section
variable {P:Program} {tt:TT} {l:List Oper} {d:Md} {r:List Oper} {s:St} {K:St→Prop} {t:Nat} {ty:TypeId} {pos:String} {after:Array Edge}
theorem akY {α:Type} {f:α→List PV} (pk:Pk P tt) (z0:α) {T e:TypeId} {x y:Operand} {kx ky:IntKind} {n B sz:Nat} {z:List Value} {a b:Int} (hx:opd s x=some (.val (.int kx a))) (hy:opd s y=some (.val (.int ky b))) (hk:tiK tt T=some (.slice e)) (hs:aU tt e=some sz) (hz:tiZ tt e=some z) (hzl:z.length=sz) (hpos:Nat.blt 0 sz=true) (hf0:z.map .val=f z0) (hf:bO s [x,y]=true) (hd:Nat.blt t s.n=true) (ht:gL d l r=true)
    (ha:a=n) (hb':b=n) (hB:P.bytesOf e=B) (hb:n*B≤140737488355328) (h62:n<4611686018427387904) (k:∀id,s.st id=none→Ev P l d r ((s.sst (upd s.st id (some (.arr e ((List.replicate n z0).map f))))).pv t (.vec id sz 0 n)) K):Ev P l d (⟨some t, .makeSlice T x y,ty,pos,after,none⟩::r) s K:=by
  subst ha hb'
  refine dT (kM pk.htt hx hy hk hs hz hzl (by simpa [Nat.blt_eq] using hpos) hB hb h62) (fun z hz=>aW (fun _ _ _ e=>by cases e) hz) hf hd ht fun zz hzz=> ?_
  obtain ⟨id,h1,rfl⟩:=hzz
  have:=k id h1
  rw [List.map_replicate,←hf0] at this
  exact this
end
theorem oT {α:Type} {f:α→List PV} {id sz n:Nat} {l:List α} (hn:l.length=n):Fz id sz (l.map f) (.vec id sz 0 n) (.seq (l.map f)):=by
  have e:(l.map f).length=n:=(List.length_map _).trans hn
  rw [←e];exact .all
theorem amB {f:FuncId} {args:List PV} {st:aK} {R R':PV→aK→Prop} (h:PC Tryz.prog f args st R) (hr:∀p st',R p st'→∃q,Wk p q∧R' q st'):PC Tryz.prog f args st R':=
  ⟨h.1,fun w g vs hm hv=>(h.2 w g vs hm hv).mono fun e w' ⟨v,r,st',g',h1,h2,h3,h4⟩=>by
    obtain ⟨q,k1,k2⟩:=hr _ _ h2
    exact ⟨v,q,st',g',h1,k2,k1 _ _ h3,h4⟩⟩
theorem RepA.wk {g:G} {b:Nat} {ps qs:List PV} (h:WkL ps qs):∀{off:Nat},RepA g b off ps→RepA g b off qs:=by
  induction h with
  |nil=>exact fun h=>h
  |cons h _ ih=>
    intro off e
    simp only [RepA] at e⊢
    obtain ⟨⟨v,e1,e2,e3⟩,e4⟩:=e
    exact ⟨⟨v,e1,e2,h _ _ e3⟩,ih e4⟩
theorem ajI {ps qs:List PV} (h:WkL ps qs):ps.length=qs.length:=by
  induction h with
  |nil=>rfl
  |cons _ _ ih=>simp [ih]
theorem RepR.wk {α:Type} {f k:α→List PV} {g:G} {b sz:Nat}:∀{l:List α} (_:∀x∈l,WkL (f x) (k x)) {off:Nat},RepR g b off sz (l.map f)→RepR g b off sz (l.map k)
  |[],_,_,e=>e
  |x::l,h,off,e=>by
    simp only [List.map_cons,RepR] at e⊢
    exact ⟨ajI (h x (by simp))▸e.1,RepA.wk (h x (by simp)) e.2.1,RepR.wk (fun y hy=>h y (by simp [hy])) e.2.2⟩
theorem Wk.rows {α:Type} {f k:α→List PV} {l:List α} (h:∀x∈l,WkL (f x) (k x)):Wk (.seq (l.map f)) (.seq (l.map k)):=fun g v e=>by
  unfold Rep at e⊢
  obtain ⟨a,cap,h1,h2,h3,h4⟩:=e
  rw [List.length_map] at h1 h2 h3
  refine ⟨a,cap,by rw [List.length_map];exact h1,by rw [List.length_map];exact h2,by rw [List.length_map];exact h3, ?_⟩
  rcases h4 with h4|⟨b,off,sz,q1,q2⟩
  · exact .inl (by rw [List.map_eq_nil_iff] at h4⊢;exact h4)
  · exact .inr ⟨b,off,sz,q1,RepR.wk h q2⟩
def oK (_:Unit):List PV:=[.val (.slice none 0 0)]
def abN (s:Sc):Bs:=List.replicate s.length ⟨[]⟩
theorem agN (n:Nat):Wk (.agg [.seq ((List.replicate n ()).map oK)]) (.agg (bsC (List.replicate n ⟨[]⟩))):=by
  refine Wk.agg (.cons ?_ .nil)
  have:=Wk.rows (f:=oK) (k:=fun _=>Da.cells ⟨[]⟩) (l:=List.replicate n ()) fun _ _=> .cons Wk.nil .nil
  rwa [List.map_replicate (f:=fun _=>Da.cells ⟨[]⟩),←List.map_replicate (f:=Da.cells)] at this
theorem uR (s:Sc) (hl:s.length<1000000000000):PF Tryz.prog 15 [.agg (scC s)] (.agg (bsC (abN s))):=fun st=>
  amB (jA (sz:=1) (R:=fun r S=>∃id,r= .agg [.vec id 1 0 s.length]∧st id=none∧S=upd st id (some (.arr 57 ((List.replicate s.length ()).map oK)))) (R':=fun r S=>r= .agg [.seq ((List.replicate s.length ()).map oK)]∧S=st) (by
    refine dG aG Tryz.func15 (by kernel_rfl) rfl rfl rfl rfl ?_
    (try (apply wO pk;exact rfl));(repeat' (first|(show All _;constructor)|(show Imp _ _;constructor)|(show ImpX _ _ _ _;constructor)|(apply wC pk;(iterate 2 exact rfl))|(apply wE pk;(iterate 2 exact rfl))|(apply wX pk;exact rfl)|(apply wN pk;exact rfl)|(apply wDx pk;exact rfl;kernel_rfl;exact rfl;exact rfl)|(apply aB;simp only [cond_true,cond_false])|(refine aC rfl (fun h=> ?_) (fun h=> ?_)<;>(try simp at h)<;>try (exfalso;omega))|((try refine aF ?_);(first|(refine ⟨_,_,_,rfl,Wk.refl _,StSub.refl _, ?_⟩;(exact ⟨id,rfl,hid,rfl⟩);done)|(refine ⟨_,_, ?zs,rfl,Wk.refl _, ?zh, ?zr⟩;(case zh=>(refine aH ?_ (by assumption);(repeat refine aH ?_ (by assumption));exact StSub.refl _));(case zr=>(exact ⟨id,rfl,hid,rfl⟩)))|refine ⟨_,_,_,rfl,Wk.refl _,StSub.refl _, ?_⟩))|(apply ncA;(iterate 3 exact rfl);rotate_left;exact rfl;exact rfl)|(apply ldR pk;exact rfl;exact rfl;rotate_left;exact rfl;(first|exact aA _ _ _|assumption|(focus ((repeat (first|exact aA _ _ _|assumption|refine (aD (by assumption)).trans ?_));done)));exact rfl;exact rfl)|(apply stR pk;exact rfl;exact rfl;(first|exact aA _ _ _|assumption|(focus ((repeat (first|exact aA _ _ _|assumption|refine (aD (by assumption)).trans ?_));done)));exact rfl;exact rfl)|(apply akY pk () (f:=oK) (n:=s.length) (B:=24);(iterate 11 exact rfl);(focus (simp;done));(focus (simp;done));exact mN;omega;omega;intro id hid)|(intros;(try simp only [List.length_map]);omega)))) fun p st' h=>by
    obtain ⟨id,rfl,h3,rfl⟩:=h
    exact .inl ⟨id,57,(List.replicate s.length ()).map oK,_,st,aA _ _ _,uC, .agg (.cons (oT (by simp)) .nil),cJ h3,rfl,rfl⟩) fun p st' h=>⟨_,h.1▸agN _,rfl,h.2⟩
variable (sh:Cl→Vl)
def aeQ (c:Cl):Prop:=PF Tryz.prog 27 [.agg c.cells] (.agg (sh c).cells)
theorem akR (l:Ln) (hl:l.cells_.length<1000000000000) (hs:∀c∈l.cells_,aeQ sh c) (st:aK):PC Tryz.prog 53 [.agg l.cells] st fun r S=>∃id,r= .vec id 3 0 l.cells_.length∧st id=none∧S=upd st id (some (.arr 68 ((l.cells_.map sh).map Vl.cells))):=by
  refine dG aG Tryz.func53 (by kernel_rfl) rfl rfl rfl rfl ?_
  (try (apply wO pk;exact rfl));(repeat' (first|(show All _;constructor)|(show Imp _ _;constructor)|(show ImpX _ _ _ _;constructor)|(apply wC pk;(iterate 2 exact rfl))|(apply wE pk;(iterate 2 exact rfl))|(apply wX pk;exact rfl)|(apply wN pk;exact rfl)|(apply wD pk [] [];kernel_rfl;exact rfl;exact rfl)|(apply aB;simp only [cond_true,cond_false])|(refine aC rfl (fun h=> ?_) (fun h=> ?_)<;>(try simp at h)<;>try (exfalso;omega))|(refine aF ?_;refine ⟨_,_,_,rfl,Wk.refl _,StSub.refl _, ?_,rfl⟩;try rfl)|(intros;(try simp only [List.length_map]);omega)))
  refine qJ 3 68 3 rfl rfl rfl (fun id hid=> ?_)
  refine aM (X:={x:Nat×Nat//x.1≤l.cells_.length∧st x.2=none}) (fun i=>(((((St.nil 20 (upd st i.1.2 (some (.arr 68 (((l.cells_.map sh).take i.1.1).map Vl.cells))))).pv 3 (.vec i.1.2 3 0 i.1.1)).pv 7 (.seq (l.cells_.map Cl.cells))).pv 8 ((PV.val (Value.int .i64 (((l.cells_.map Cl.cells).length:Nat)))))).pv 9 ((PV.val (Value.int .i64 ((i.1.1:Nat))))))) (fun i=>l.cells_.length-i.1.1) ⟨(0,id),by simp,hid⟩ ?_ (fun i=> ?_)
  · dsimp only
    (first|exact Sub.nil _ _ _ (StSub.refl _) rfl|((repeat (first|refine Sub.pv ?_ rfl|refine Sub.var ?_ rfl rfl));(first|exact Sub.nil _ _ _ (StSub.refl _) rfl|exact Sub.nil _ _ _ (bE (by assumption)) rfl|exact Sub.nil _ _ _ (aS (by first|rfl|exact bX (by assumption)|((simp only [St.pv,St.put,St.sst,St.setv,St.nil,St.var,aV]);first|done|rfl))) rfl|(refine Sub.nil _ _ _ (aS ?_) rfl;(simp only [St.pv,St.put,St.sst,St.setv,St.nil,St.var,aV]);(rw [fW (by assumption)]);first|done|rfl))))
  obtain ⟨⟨i,id⟩,hi,hid⟩:=i
  simp only at hi hid
  dsimp only
  by_cases hend:l.cells_.length≤i
  · have e:(l.cells_.map sh).take i=l.cells_.map sh:=List.take_of_length_le (by simp;omega)
    obtain rfl:i=l.cells_.length:=by omega
    (try (apply wO pk;exact rfl));(repeat' (first|(show All _;constructor)|(show Imp _ _;constructor)|(show ImpX _ _ _ _;constructor)|(apply wC pk;(iterate 2 exact rfl))|(apply wE pk;(iterate 2 exact rfl))|(apply wX pk;exact rfl)|(apply wN pk;exact rfl)|(apply wDx pk;exact rfl;kernel_rfl;exact rfl;exact rfl)|(apply aB;simp only [cond_true,cond_false])|(refine aC rfl (fun h=> ?_) (fun h=> ?_)<;>(try simp at h)<;>try (exfalso;omega))|((try refine aF ?_);(first|(refine ⟨_,_,_,rfl,Wk.refl _,StSub.refl _, ?_⟩;(exact ⟨id,rfl,hid,by rw [e];rfl⟩);done)|(refine ⟨_,_, ?zs,rfl,Wk.refl _, ?zh, ?zr⟩;(case zh=>(refine aH ?_ (by assumption);(repeat refine aH ?_ (by assumption));exact StSub.refl _));(case zr=>(exact ⟨id,rfl,hid,by rw [e];rfl⟩)))|refine ⟨_,_,_,rfl,Wk.refl _,StSub.refl _, ?_⟩))|(apply ncA;(iterate 3 exact rfl);rotate_left;exact rfl;exact rfl)|(apply ldR pk;exact rfl;exact rfl;rotate_left;exact rfl;(first|exact aA _ _ _|assumption|(focus ((repeat (first|exact aA _ _ _|assumption|refine (aD (by assumption)).trans ?_));done)));exact rfl;exact rfl)|(apply stR pk;exact rfl;exact rfl;(first|exact aA _ _ _|assumption|(focus ((repeat (first|exact aA _ _ _|assumption|refine (aD (by assumption)).trans ?_));done)));exact rfl;exact rfl)|(intros;(try simp only [List.length_map]);omega)))
  have h1:i<l.cells_.length:=by omega
  have hc:PF Tryz.prog 27 [.agg l.cells_[i].cells] (.agg (sh l.cells_[i]).cells):=hs _ (List.getElem_mem h1)
  have e:(l.cells_.map sh).take (i+1)=(l.cells_.map sh).take i++[sh l.cells_[i]]:=by rw [List.take_succ_eq_append_getElem (by simpa using h1)];simp
  (try (apply wO pk;exact rfl));(repeat' (first|(show All _;constructor)|(show Imp _ _;constructor)|(show ImpX _ _ _ _;constructor)|(apply wC pk;(iterate 2 exact rfl))|(apply wE pk;(iterate 2 exact rfl))|(apply wX pk;exact rfl)|(apply wN pk;exact rfl)|(apply wD pk [] [];kernel_rfl;exact rfl;exact rfl)|(apply aB;simp only [cond_true,cond_false])|(refine aC rfl (fun h=> ?_) (fun h=> ?_)<;>(try simp at h)<;>try (exfalso;omega))|(refine aF ?_;first|(refine ⟨_,_,_,rfl,Wk.refl _,StSub.refl _, ?_,rfl⟩;(first|rfl))|(refine ⟨_,_,_,rfl,Wk.refl _,bH (by assumption), ?_,rfl⟩;(first|rfl))|(refine ⟨_,_,_,rfl,Wk.soft _,StSub.refl _, ?_,rfl⟩;(first|rfl))|(refine ⟨_,_,_,rfl,Wk.soft _,bH (by assumption), ?_,rfl⟩;(first|rfl))|(refine ⟨_,_,_,rfl,Wk.refl _,StSub.refl _, ?_,rfl⟩)|(refine ⟨_,_,_,rfl,Wk.soft _,bH (by assumption), ?_,rfl⟩))|(apply aL;(iterate 3 exact rfl);(intro _;apply hc<;>first|assumption|omega);rotate_left;(iterate 2 exact rfl))|(apply bC pk;(iterate 6 exact rfl);rotate_left;exact rfl;(intro hw;exact rfl);(intro hw;apply aI<;>omega);(intro _;exact rfl);exact rfl)|(apply apV pk (f:=Vl.cells) [sh l.cells_[i]] 32;(iterate 9 exact rfl);(first|exact aA _ _ _|assumption|(focus ((repeat (first|exact aA _ _ _|assumption|refine (aD (by assumption)).trans ?_));done)));(first|omega|assumption|(focus (simp;done))|(focus (simp;omega))|(focus (simp at*;omega)));exact fun _=>rfl;exact fun _=>rfl;exact aaW;(first|omega|assumption|(focus (simp;done))|(focus (simp;omega))|(focus (simp at*;omega)));(first|omega|assumption|(focus (simp;done))|(focus (simp;omega))|(focus (simp at*;omega)));exact rfl;intro id' hid')|(apply ap0 pk (f:=Vl.cells) [sh l.cells_[i]] 32;(iterate 10 exact rfl);exact fun _=>rfl;exact fun _=>rfl;exact aaW;(first|omega|assumption|(focus (simp;done))|(focus (simp;omega))|(focus (simp at*;omega)));(first|omega|assumption|(focus (simp;done))|(focus (simp;omega))|(focus (simp at*;omega)));exact rfl;intro id' hid')|(refine ⟨⟨(i+1,id'),by simp only;omega,hJ hid'⟩, ?_,by simp only;omega⟩;((dsimp only;try rw [e]));(first|exact Sub.nil _ _ _ (StSub.refl _) rfl|((repeat (first|refine Sub.pv ?_ rfl|refine Sub.var ?_ rfl rfl|refine Sub.pv' ?_ rfl (by (first|rfl|simp))|refine Sub.var' ?_ rfl rfl (by (first|rfl|simp))));(first|exact Sub.nil _ _ _ (StSub.refl _) rfl|exact Sub.nil _ _ _ (bE (by assumption)) rfl|exact Sub.nil _ _ _ (aS (by first|rfl|exact bX (by assumption)|((simp only [St.pv,St.put,St.sst,St.setv,St.nil,St.var,aV]);first|done|rfl))) rfl|(refine Sub.nil _ _ _ (aS ?_) rfl;(simp only [St.pv,St.put,St.sst,St.setv,St.nil,St.var,aV]);(rw [fW (by assumption)]);first|done|rfl)))))|(intros;(try simp only [List.length_map]);omega)))
theorem agS (l:Ln) (hl:l.cells_.length<1000000000000) (hs:∀c∈l.cells_,aeQ sh c):PF Tryz.prog 53 [.agg l.cells] (.seq ((l.cells_.map sh).map Vl.cells)):=fun st=>
  jA (sz:=3) (akR sh l hl hs st) fun p st' h=>by
    obtain ⟨id,rfl,h3,rfl⟩:=h
    exact .inl ⟨id,68,(l.cells_.map sh).map Vl.cells,_,st,aA _ _ _,ajC,oT (by simp),cJ h3,rfl,rfl⟩
def roC (r:List Vl):List PV:=[.seq (r.map Vl.cells)]
theorem roC.elem :Elem tt 59 roC (fun a=> .seq (a.map Vl.cells)) 1:=⟨rfl,fun _=>rfl,fun _=>rfl,fun _=>rfl,fun _=>rfl⟩
theorem aaG :Tryz.prog.bytesOf 59=24:=by kernel_rfl
theorem afA :Tryz.prog.cellsOf 59=1:=by kernel_rfl
def sS (l:Ln):List Vl:=l.cells_.map sh
theorem aeL (b:Bs) (k:Nat) (hk:k<b.length) (hl:b[k].lines.length<1000000000000) (hs:∀l∈b[k].lines,l.cells_.length<1000000000000∧∀c∈l.cells_,aeQ sh c) (st:aK):PC Tryz.prog 26 [.agg (bsC b),(PV.val (Value.int .i64 ((k:Nat))))] st fun r S=>∃id,r= .vec id 1 0 b[k].lines.length∧st id=none∧S=upd st id (some (.arr 59 ((b[k].lines.map (sS sh)).map roC))):=by
  have ho:=lZ b k hk
  generalize b[k].lines=L at*
  refine dG aG Tryz.func26 (by kernel_rfl) rfl rfl rfl rfl ?_
  (try (apply wO pk;exact rfl));(repeat' (first|(show All _;constructor)|(show Imp _ _;constructor)|(show ImpX _ _ _ _;constructor)|(apply wC pk;(iterate 2 exact rfl))|(apply wE pk;(iterate 2 exact rfl))|(apply wX pk;exact rfl)|(apply wN pk;exact rfl)|(apply wD pk [] [];kernel_rfl;exact rfl;exact rfl)|(apply aB;simp only [cond_true,cond_false])|(refine aC rfl (fun h=> ?_) (fun h=> ?_)<;>(try simp at h)<;>try (exfalso;omega))|(refine aF ?_;refine ⟨_,_,_,rfl,Wk.refl _,StSub.refl _, ?_,rfl⟩;try rfl)|(apply aL;(iterate 3 exact rfl);(intro _;apply ho<;>first|assumption|omega);rotate_left;(iterate 2 exact rfl))|(intros;(try simp only [List.length_map]);omega)))
  refine qJ 7 59 1 rfl rfl rfl (fun id hid=> ?_)
  refine aM (X:={x:Nat×Nat//x.1≤L.length∧st x.2=none}) (fun i=>(((((St.nil 30 (upd st i.1.2 (some (.arr 59 (((L.map (sS sh)).take i.1.1).map roC))))).pv 7 (.vec i.1.2 1 0 i.1.1)).pv 17 (.seq (L.map Ln.cells))).pv 18 ((PV.val (Value.int .i64 (((L.map Ln.cells).length:Nat)))))).pv 19 ((PV.val (Value.int .i64 ((i.1.1:Nat))))))) (fun i=>L.length-i.1.1) ⟨(0,id),by simp,hid⟩ ?_ (fun i=> ?_)
  · dsimp only
    (first|exact Sub.nil _ _ _ (StSub.refl _) rfl|((repeat (first|refine Sub.pv ?_ rfl|refine Sub.var ?_ rfl rfl));(first|exact Sub.nil _ _ _ (StSub.refl _) rfl|exact Sub.nil _ _ _ (bE (by assumption)) rfl|exact Sub.nil _ _ _ (aS (by first|rfl|exact bX (by assumption)|((simp only [St.pv,St.put,St.sst,St.setv,St.nil,St.var,aV]);first|done|rfl))) rfl|(refine Sub.nil _ _ _ (aS ?_) rfl;(simp only [St.pv,St.put,St.sst,St.setv,St.nil,St.var,aV]);(rw [fW (by assumption)]);first|done|rfl))))
  obtain ⟨⟨i,id⟩,hi,hid⟩:=i
  simp only at hi hid
  dsimp only
  by_cases hend:L.length≤i
  · have e:(L.map (sS sh)).take i=L.map (sS sh):=List.take_of_length_le (by simp;omega)
    obtain rfl:i=L.length:=by omega
    (try (apply wO pk;exact rfl));(repeat' (first|(show All _;constructor)|(show Imp _ _;constructor)|(show ImpX _ _ _ _;constructor)|(apply wC pk;(iterate 2 exact rfl))|(apply wE pk;(iterate 2 exact rfl))|(apply wX pk;exact rfl)|(apply wN pk;exact rfl)|(apply wDx pk;exact rfl;kernel_rfl;exact rfl;exact rfl)|(apply aB;simp only [cond_true,cond_false])|(refine aC rfl (fun h=> ?_) (fun h=> ?_)<;>(try simp at h)<;>try (exfalso;omega))|((try refine aF ?_);(first|(refine ⟨_,_,_,rfl,Wk.refl _,StSub.refl _, ?_⟩;(exact ⟨id,rfl,hid,by rw [e];rfl⟩);done)|(refine ⟨_,_, ?zs,rfl,Wk.refl _, ?zh, ?zr⟩;(case zh=>(refine aH ?_ (by assumption);(repeat refine aH ?_ (by assumption));exact StSub.refl _));(case zr=>(exact ⟨id,rfl,hid,by rw [e];rfl⟩)))|refine ⟨_,_,_,rfl,Wk.refl _,StSub.refl _, ?_⟩))|(apply ncA;(iterate 3 exact rfl);rotate_left;exact rfl;exact rfl)|(apply ldR pk;exact rfl;exact rfl;rotate_left;exact rfl;(first|exact aA _ _ _|assumption|(focus ((repeat (first|exact aA _ _ _|assumption|refine (aD (by assumption)).trans ?_));done)));exact rfl;exact rfl)|(apply stR pk;exact rfl;exact rfl;(first|exact aA _ _ _|assumption|(focus ((repeat (first|exact aA _ _ _|assumption|refine (aD (by assumption)).trans ?_));done)));exact rfl;exact rfl)|(intros;(try simp only [List.length_map]);omega)))
  have h1:i<L.length:=by omega
  have hc:=agS sh L[i] (hs _ (List.getElem_mem h1)).1 (hs _ (List.getElem_mem h1)).2
  have e:(L.map (sS sh)).take (i+1)=(L.map (sS sh)).take i++[L[i].cells_.map sh]:=by rw [List.take_succ_eq_append_getElem (by simpa using h1)];simp [sS]
  (try (apply wO pk;exact rfl));(repeat' (first|(show All _;constructor)|(show Imp _ _;constructor)|(show ImpX _ _ _ _;constructor)|(apply wC pk;(iterate 2 exact rfl))|(apply wE pk;(iterate 2 exact rfl))|(apply wX pk;exact rfl)|(apply wN pk;exact rfl)|(apply wD pk [] [];kernel_rfl;exact rfl;exact rfl)|(apply aB;simp only [cond_true,cond_false])|(refine aC rfl (fun h=> ?_) (fun h=> ?_)<;>(try simp at h)<;>try (exfalso;omega))|(refine aF ?_;first|(refine ⟨_,_,_,rfl,Wk.refl _,StSub.refl _, ?_,rfl⟩;(first|rfl))|(refine ⟨_,_,_,rfl,Wk.refl _,bH (by assumption), ?_,rfl⟩;(first|rfl))|(refine ⟨_,_,_,rfl,Wk.soft _,StSub.refl _, ?_,rfl⟩;(first|rfl))|(refine ⟨_,_,_,rfl,Wk.soft _,bH (by assumption), ?_,rfl⟩;(first|rfl))|(refine ⟨_,_,_,rfl,Wk.refl _,StSub.refl _, ?_,rfl⟩)|(refine ⟨_,_,_,rfl,Wk.soft _,bH (by assumption), ?_,rfl⟩))|(apply aL;(iterate 3 exact rfl);(intro _;apply hc<;>first|assumption|omega);rotate_left;(iterate 2 exact rfl))|(apply bC pk;(iterate 6 exact rfl);rotate_left;exact rfl;(intro hw;exact rfl);(intro hw;apply aI<;>omega);(intro _;exact rfl);exact rfl)|(apply apV pk (f:=roC) [L[i].cells_.map sh] 24;(iterate 9 exact rfl);(first|exact aA _ _ _|assumption|(focus ((repeat (first|exact aA _ _ _|assumption|refine (aD (by assumption)).trans ?_));done)));(first|omega|assumption|(focus (simp;done))|(focus (simp;omega))|(focus (simp at*;omega)));exact fun _=>rfl;exact fun _=>rfl;exact aaG;(first|omega|assumption|(focus (simp;done))|(focus (simp;omega))|(focus (simp at*;omega)));(first|omega|assumption|(focus (simp;done))|(focus (simp;omega))|(focus (simp at*;omega)));exact rfl;intro id' hid')|(apply ap0 pk (f:=roC) [L[i].cells_.map sh] 24;(iterate 10 exact rfl);exact fun _=>rfl;exact fun _=>rfl;exact aaG;(first|omega|assumption|(focus (simp;done))|(focus (simp;omega))|(focus (simp at*;omega)));(first|omega|assumption|(focus (simp;done))|(focus (simp;omega))|(focus (simp at*;omega)));exact rfl;intro id' hid')|(refine ⟨⟨(i+1,id'),by simp only;omega,hJ hid'⟩, ?_,by simp only;omega⟩;((dsimp only;try rw [e]));(first|exact Sub.nil _ _ _ (StSub.refl _) rfl|((repeat (first|refine Sub.pv ?_ rfl|refine Sub.var ?_ rfl rfl|refine Sub.pv' ?_ rfl (by (first|rfl|simp))|refine Sub.var' ?_ rfl rfl (by (first|rfl|simp))));(first|exact Sub.nil _ _ _ (StSub.refl _) rfl|exact Sub.nil _ _ _ (bE (by assumption)) rfl|exact Sub.nil _ _ _ (aS (by first|rfl|exact bX (by assumption)|((simp only [St.pv,St.put,St.sst,St.setv,St.nil,St.var,aV]);first|done|rfl))) rfl|(refine Sub.nil _ _ _ (aS ?_) rfl;(simp only [St.pv,St.put,St.sst,St.setv,St.nil,St.var,aV]);(rw [fW (by assumption)]);first|done|rfl)))))|(intros;(try simp only [List.length_map]);omega)))
theorem yJ (b:Bs) (k:Nat) (hk:k<b.length) (hl:b[k].lines.length<1000000000000) (hs:∀l∈b[k].lines,l.cells_.length<1000000000000∧∀c∈l.cells_,aeQ sh c):PF Tryz.prog 26 [.agg (bsC b),(PV.val (Value.int .i64 ((k:Nat))))] (.seq ((b[k].lines.map (sS sh)).map roC)):=fun st=>
  jA (sz:=1) (aeL sh b k hk hl hs st) fun p st' h=>by
    obtain ⟨id,rfl,h3,rfl⟩:=h
    exact .inl ⟨id,59,(b[k].lines.map (sS sh)).map roC,_,st,aA _ _ _,afA,oT (by simp),cJ h3,rfl,rfl⟩
end Go.Proofs.YtkaliolnijkadaaGreatDoor
namespace Go.Proofs.YtkaliolnijkadaaGreatDoor
open Go Go.Abs
attribute [local irreducible] Ev PWp
set_option maxRecDepth 10000
set_option maxHeartbeats 4000000
theorem pN (c:Cl) (h:c.kind=0):PF Tryz.prog 27 [.agg c.cells] (.agg c.val.cells):=by
  refine aJ aG Tryz.func27 (by kernel_rfl) rfl rfl rfl rfl (fun st=> ?_)
  (try (apply wO pk;exact rfl));(repeat' (first|(show All _;constructor)|(show Imp _ _;constructor)|(show ImpX _ _ _ _;constructor)|(apply wC pk;(iterate 2 exact rfl))|(apply wE pk;(iterate 2 exact rfl))|(apply wX pk;exact rfl)|(apply wN pk;exact rfl)|(apply wD pk [] [];kernel_rfl;exact rfl;exact rfl)|(apply aB;simp only [cond_true,cond_false])|(refine aC rfl (fun h=> ?_) (fun h=> ?_)<;>(try simp at h)<;>try (exfalso;omega))|(refine aF ?_;refine ⟨_,_,_,rfl,Wk.refl _,StSub.refl _, ?_,rfl⟩;try rfl)|(intros;(try simp only [List.length_map]);omega)))
theorem yQ (c:Cl) (p:Pt) (h:c.kind=3) (hc:c.parts=[p]):PF Tryz.prog 27 [.agg c.cells] (.agg (Vl.mk 1 1 e0).cells):=by
  have hs:=uX c p hc
  refine aJ aG Tryz.func27 (by kernel_rfl) rfl rfl rfl rfl (fun st=> ?_)
  (try (apply wO pk;exact rfl));(repeat' (first|(show All _;constructor)|(show Imp _ _;constructor)|(show ImpX _ _ _ _;constructor)|(apply wC pk;(iterate 2 exact rfl))|(apply wE pk;(iterate 2 exact rfl))|(apply wX pk;exact rfl)|(apply wN pk;exact rfl)|(apply wD pk [] [];kernel_rfl;exact rfl;exact rfl)|(apply aB;simp only [cond_true,cond_false])|(refine aC rfl (fun h=> ?_) (fun h=> ?_)<;>(try simp at h)<;>try (exfalso;omega))|(refine aF ?_;refine ⟨_,_,_,rfl,Wk.refl _,StSub.refl _, ?_,rfl⟩;try rfl)|(apply aL;(iterate 3 exact rfl);(intro _;apply hs<;>first|assumption|omega);rotate_left;(iterate 2 exact rfl))|(intros;(try simp only [List.length_map]);omega)))
def colId :Co:=⟨⟨#[105,100]⟩,0,1,false⟩
def colS :Co:=⟨⟨#[115]⟩,3,1,false⟩
def jV :Sc:=[⟨⟨#[97]⟩,[colId,colS],[],[],[],[]⟩]
def ptO (n:Int):Pt:=⟨⟨1,n,e0⟩,⟨1,1⟩,0,0,Dt.zero,0,false⟩
def aiI (key:Int):Cl:=⟨0,⟨1,key,e0⟩,[]⟩
def adG (n:Int):Cl:=⟨3,Vl.zero,[ptO n]⟩
def lnO (key n:Int):Ln:=⟨key,[aiI key,adG n],[⟨1,1⟩]⟩
theorem aiP :Wk (.agg [.seq [[.val (.string ⟨#[97]⟩), .seq [colId.cells,colS.cells], .val (.slice none 0 0), .val (.slice none 0 0), .val (.slice none 0 0), .val (.slice none 0 0)]]]) (.agg (scC jV)):=
  Wk.agg (.cons (Wk.rows (l:=[()]) (f:=fun _=>[.val (.string ⟨#[97]⟩), .seq [colId.cells,colS.cells], .val (.slice none 0 0), .val (.slice none 0 0), .val (.slice none 0 0), .val (.slice none 0 0)]) (k:=fun _=>(Tb.mk ⟨#[97]⟩ [colId,colS] [] [] [] []).cells) fun _ _=> .cons (Wk.refl _) (.cons (Wk.refl _) (.cons Wk.nil (.cons Wk.nil (.cons Wk.nil (.cons Wk.nil .nil)))))) .nil)
theorem abG :PF Tryz.prog 29 [] (.agg (scC jV)):=by
  refine aJ aG Tryz.func29 (by kernel_rfl) rfl rfl rfl rfl (fun st=> ?_)
  (try (apply wO pk;exact rfl));(repeat' (first|((refine aF ?_;exact ⟨_,_,_,rfl,aiP,StSub.refl _,rfl,rfl⟩))|(show All _;constructor)|(show Imp _ _;constructor)|(show ImpX _ _ _ _;constructor)|(apply wC pk;(iterate 2 exact rfl))|(apply wE pk;(iterate 2 exact rfl))|(apply wX pk;exact rfl)|(apply wN pk;exact rfl)|(apply wDx pk;exact rfl;kernel_rfl;exact rfl;exact rfl)|(apply aB;simp only [cond_true,cond_false])|(refine aC rfl (fun h=> ?_) (fun h=> ?_)<;>(try simp at h)<;>try (exfalso;omega))|((try refine aF ?_);(first|(refine ⟨_,_,_,rfl,Wk.refl _,StSub.refl _, ?_⟩;((fail));done)|(refine ⟨_,_, ?zs,rfl,Wk.refl _, ?zh, ?zr⟩;(case zh=>(refine aH ?_ (by assumption);(repeat refine aH ?_ (by assumption));exact StSub.refl _));(case zr=>((fail))))|refine ⟨_,_,_,rfl,Wk.refl _,StSub.refl _, ?_⟩))|(apply ncA;(iterate 3 exact rfl);rotate_left;exact rfl;exact rfl)|(apply ldR pk;exact rfl;exact rfl;rotate_left;exact rfl;(first|exact aA _ _ _|assumption|(focus ((repeat (first|exact aA _ _ _|assumption|refine (aD (by assumption)).trans ?_));done)));exact rfl;exact rfl)|(apply stR pk;exact rfl;exact rfl;(first|exact aA _ _ _|assumption|(focus ((repeat (first|exact aA _ _ _|assumption|refine (aD (by assumption)).trans ?_));done)));exact rfl;exact rfl)|(intros;(try simp only [List.length_map]);omega)))
theorem alM (key n:Int):Wk (.agg [(PV.val (Value.int .i64 (key))), .seq [[(PV.val (Value.int .i64 (0))),(PV.val (Value.int .i64 (1))),(PV.val (Value.int .i64 (key))), .val (.string e0), .val (.slice none 0 0)],(adG n).cells], .seq [Dt.cells ⟨1,1⟩]]) (.agg (lnO key n).cells):=
  Wk.agg (.cons (Wk.refl _) (.cons (Wk.rows (l:=[([(PV.val (Value.int .i64 (0))),(PV.val (Value.int .i64 (1))),(PV.val (Value.int .i64 (key))), .val (.string e0), .val (.slice none 0 0)],(aiI key).cells),((adG n).cells,(adG n).cells)]) (f:=Prod.fst) (k:=Prod.snd) fun x hx=>by
    rcases List.mem_cons.1 hx with rfl|hx
    · exact .cons (Wk.refl _) (.cons (Wk.refl _) (.cons (Wk.refl _) (.cons (Wk.refl _) (.cons Wk.nil .nil))))
    · rw [List.mem_singleton.1 hx];exact WkL.refl _) (.cons (Wk.refl _) .nil)))
theorem vJ (key n:Int):PF Tryz.prog 30 [(PV.val (Value.int .i64 (key))),(PV.val (Value.int .i64 (n)))] (.agg (lnO key n).cells):=by
  refine aJ aG Tryz.func30 (by kernel_rfl) rfl rfl rfl rfl (fun st=> ?_)
  (try (apply wO pk;exact rfl));(repeat' (first|((refine aF ?_;exact ⟨_,_,_,rfl,alM key n,StSub.refl _,rfl,rfl⟩))|(show All _;constructor)|(show Imp _ _;constructor)|(show ImpX _ _ _ _;constructor)|(apply wC pk;(iterate 2 exact rfl))|(apply wE pk;(iterate 2 exact rfl))|(apply wX pk;exact rfl)|(apply wN pk;exact rfl)|(apply wDx pk;exact rfl;kernel_rfl;exact rfl;exact rfl)|(apply aB;simp only [cond_true,cond_false])|(refine aC rfl (fun h=> ?_) (fun h=> ?_)<;>(try simp at h)<;>try (exfalso;omega))|((try refine aF ?_);(first|(refine ⟨_,_,_,rfl,Wk.refl _,StSub.refl _, ?_⟩;((fail));done)|(refine ⟨_,_, ?zs,rfl,Wk.refl _, ?zh, ?zr⟩;(case zh=>(refine aH ?_ (by assumption);(repeat refine aH ?_ (by assumption));exact StSub.refl _));(case zr=>((fail))))|refine ⟨_,_,_,rfl,Wk.refl _,StSub.refl _, ?_⟩))|(apply ncA;(iterate 3 exact rfl);rotate_left;exact rfl;exact rfl)|(apply ldR pk;exact rfl;exact rfl;rotate_left;exact rfl;(first|exact aA _ _ _|assumption|(focus ((repeat (first|exact aA _ _ _|assumption|refine (aD (by assumption)).trans ?_));done)));exact rfl;exact rfl)|(apply stR pk;exact rfl;exact rfl;(first|exact aA _ _ _|assumption|(focus ((repeat (first|exact aA _ _ _|assumption|refine (aD (by assumption)).trans ?_));done)));exact rfl;exact rfl)|(intros;(try simp only [List.length_map]);omega)))
def shA (c:Cl):Vl:=if c.kind=0 then c.val else ⟨1,1,e0⟩
def txA (_:Cl):Int:=0
def bO0 :Bs:=[⟨[]⟩]
def bO1 :Bs:=[⟨[lnO 5 7]⟩]
def bO2 :Bs:=[⟨[lnO 3 7,lnO 5 7]⟩]
def wrO :Ln:=⟨5,[aiI 5,adG 7],[⟨1,1⟩,⟨1,2⟩]⟩
theorem agD (key n:Int):amK txA (lnO key n):=⟨show 2<1000000000000∧1<1000000000000 by decide,fun c hc=>by
  rcases List.mem_cons.1 hc with rfl|hc
  · exact ⟨show 0<1000000000000 by decide,fun h=>by cases h⟩
  · rw [List.mem_singleton.1 hc];exact ⟨show 1<1000000000000 by decide,fun h=>by cases h⟩⟩
theorem afL (key n:Int):∀c∈(lnO key n).cells_,aeQ shA c:=fun c hc=>by
  rcases List.mem_cons.1 hc with rfl|hc
  · exact pN (aiI key) rfl
  · rw [List.mem_singleton.1 hc];exact yQ (adG n) (ptO n) rfl rfl
theorem abE {L:Ln} (h:L∈[lnO 3 7,lnO 5 7]):L=lnO 3 7∨L=lnO 5 7:=by simpa using h
theorem aaT :∀t∈jV,TbB t:=fun t ht=>by
  rw [List.mem_singleton.1 ht]
  exact ⟨by decide,by decide,by decide,by decide,by decide⟩
theorem zL :PF Tryz.prog 11 [] (PV.val (Value.bool (true))):=by
  have h1:=abG
  have h2:PF Tryz.prog 15 [.agg (scC jV)] (.agg (bsC bO0)):=uR jV (by decide)
  have h3:=vJ 5 7
  have h4:=vJ 3 7
  have h5:PF Tryz.prog 18 [.agg (bsC bO0),(PV.val (Value.int .i64 (0))), .agg (lnO 5 7).cells] (.agg (bsC bO1)):=(show yC bO0 0 (lnO 5 7)=bO1 from by kernel_rfl)▸vY bO0 0 (lnO 5 7) (by decide) (by simp [bO0])
  have h6:PF Tryz.prog 18 [.agg (bsC bO1),(PV.val (Value.int .i64 (0))), .agg (lnO 3 7).cells] (.agg (bsC bO2)):=(show yC bO1 0 (lnO 3 7)=bO2 from by kernel_rfl)▸vY bO1 0 (lnO 3 7) (by decide) (by simp [bO1])
  have hB2:∀d∈bO2,d.lines.length<100000000000:=by simp [bO2]
  have h7:PF Tryz.prog 25 [.agg (bsC bO2),(PV.val (Value.int .i64 (0))),(PV.val (Value.int .i64 (5)))] (.tup [.agg (lnO 5 7).cells,(PV.val (Value.bool (true)))]):=uD bO2 0 5 hB2
  have h8:PF Tryz.prog 25 [.agg (bsC bO2),(PV.val (Value.int .i64 (0))),(PV.val (Value.int .i64 (4)))] (.tup [.agg Ln.zero.cells,(PV.val (Value.bool (false)))]):=uD bO2 0 4 hB2
  have h9:PF Tryz.prog 26 [.agg (bsC bO2),(PV.val (Value.int .i64 (0)))] (.seq (([[⟨1,3,e0⟩,⟨1,1,e0⟩],[⟨1,5,e0⟩,⟨1,1,e0⟩]]:List (List Vl)).map roC)):=yJ shA bO2 0 (by decide) (by decide) fun l hl=>by
    rcases abE hl with rfl|rfl
    · exact ⟨by decide,afL 3 7⟩
    · exact ⟨by decide,afL 5 7⟩
  have h10:PF Tryz.prog 20 [.agg (bsC bO2),(PV.val (Value.int .i64 (0))),(PV.val (Value.int .i64 (3)))] (.agg (bsC bO1)):=(show rO bO2 0 3=bO1 from by kernel_rfl)▸adE bO2 0 3 (by decide) hB2
  have h11:PF Tryz.prog 23 [.agg (lnO 5 7).cells, .agg (Dt.mk 1 2).cells] (.agg wrO.cells):=(show sJ (lnO 5 7) ⟨1,2⟩=wrO from by kernel_rfl)▸xS (lnO 5 7) ⟨1,2⟩ (by decide)
  have h12:PF Tryz.prog 12 [.agg (scC jV), .agg (bsC bO2)] (PV.val (Value.bool (true))):=(show gD txA jV bO2=true from by kernel_rfl)▸kX txA jV bO2 (by decide) aaT (by decide) fun d hd=>by
    rw [List.mem_singleton.1 hd]
    refine ⟨by decide,fun l hl=> ?_⟩
    rcases abE hl with rfl|rfl
    · exact agD 3 7
    · exact agD 5 7
  have h13:PF Tryz.prog 12 [.agg (scC jV), .agg (bsC [])] (PV.val (Value.bool (false))):=(show gD txA jV []=false from by kernel_rfl)▸kX txA jV [] (by decide) aaT (by decide) fun d hd=>by cases hd
  have h14:PF Tryz.prog 31 [.seq (wrO.by_.map Dt.cells), .seq ([⟨1,1⟩,⟨1,2⟩].map Dt.cells)] (PV.val (Value.bool (true))):=sC wrO.by_ [⟨1,1⟩,⟨1,2⟩] (by decide)
  have h15:PF Tryz.prog 27 [.agg (Cl.mk 0 ⟨1,4,e0⟩ []).cells] (.agg (Vl.mk 1 4 e0).cells):=pN ⟨0,⟨1,4,e0⟩,[]⟩ rfl
  refine aJ aG Tryz.func11 (by kernel_rfl) rfl rfl rfl rfl (fun st=> ?_)
  (try (apply wO pk;exact rfl));(repeat' (first|(show All _;constructor)|(show Imp _ _;constructor)|(show ImpX _ _ _ _;constructor)|(apply wC pk;(iterate 2 exact rfl))|(apply wE pk;(iterate 2 exact rfl))|(apply wX pk;exact rfl)|(apply wN pk;exact rfl)|(apply wD pk [] [];kernel_rfl;exact rfl;exact rfl)|(apply aB;simp only [cond_true,cond_false])|(refine aC rfl (fun h=> ?_) (fun h=> ?_)<;>(try simp at h)<;>try (exfalso;omega))|(refine aF ?_;refine ⟨_,_,_,rfl,Wk.refl _,StSub.refl _, ?_,rfl⟩;try rfl)|(apply aL;(iterate 3 exact rfl);(intro _;(first|apply h1|apply h2|apply h3|apply h4|apply h5|apply h6|apply h7|apply h8|apply h9|apply h10|apply h11|apply h12|apply h13|apply h14|apply h15)<;>first|assumption|omega);rotate_left;(iterate 2 exact rfl))|(apply fB;(iterate 3 exact rfl);(intro _;(first|apply h1|apply h2|apply h3|apply h4|apply h5|apply h6|apply h7|apply h8|apply h9|apply h10|apply h11|apply h12|apply h13|apply h14|apply h15)<;>first|assumption|omega);rotate_left;(iterate 2 exact rfl))|(apply bC pk;(iterate 6 exact rfl);rotate_left;exact rfl;(intro hw;exact rfl);(intro hw;apply aI<;>first|omega|(decide));(intro _;exact rfl);exact rfl)|(decide)|(intros;(try simp only [List.length_map]);omega)))
end Go.Proofs.YtkaliolnijkadaaGreatDoor
