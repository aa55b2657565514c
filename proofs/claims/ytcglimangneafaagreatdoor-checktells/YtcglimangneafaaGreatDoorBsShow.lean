import Derived.Test.YtcglimangneafaaGreatDoorBsCell
set_option linter.unusedSimpArgs false
set_option linter.unusedVariables false
namespace Go.Proofs.YtcglimangneafaaGreatDoor
open Go Go.Abs
attribute [local irreducible] Ev PWp
set_option maxRecDepth 10000
set_option maxHeartbeats 4000000
section
variable {P:Program} {tt:TT} {l:List Oper} {d:Md} {r:List Oper} {s:St} {K:St→Prop} {t:Nat} {ty:TypeId} {pos:String} {after:Array Edge}
theorem aAk {α:Type} {f:α→List PV} (pk:Pk P tt) (z0:α) {T e:TypeId} {x y:Operand} {kx ky:IntKind} {n B sz:Nat} {z:List Value} {a b:Int} (hx:opd s x=some (.val (.int kx a))) (hy:opd s y=some (.val (.int ky b))) (hk:tiK tt T=some (.slice e)) (hs:aS tt e=some sz) (hz:tiZ tt e=some z) (hzl:z.length=sz) (hpos:Nat.blt 0 sz=true) (hf0:z.map .val=f z0) (hf:bM s [x,y]=true) (hd:Nat.blt t s.n=true) (ht:jY d l r=true)
    (ha:a=n) (hb':b=n) (hB:P.bytesOf e=B) (hb:n*B≤140737488355328) (h62:n<4611686018427387904) (k:∀id,s.st id=none→Ev P l d r ((s.sst (upd s.st id (some (.arr e ((List.replicate n z0).map f))))).pv t (.vec id sz 0 n)) K):Ev P l d (⟨some t, .makeSlice T x y,ty,pos,after,none⟩::r) s K:=by
  subst ha hb'
  refine eE (oH pk.htt hx hy hk hs hz hzl (by simpa [Nat.blt_eq] using hpos) hB hb h62) (fun z hz=>aW (fun _ _ _ e=>by cases e) hz) hf hd ht fun zz hzz=> ?_
  obtain ⟨id,h1,rfl⟩:=hzz
  have:=k id h1
  rw [List.map_replicate,←hf0] at this
  exact this
end
theorem uC {α:Type} {f:α→List PV} {id sz n:Nat} {l:List α} (hn:l.length=n):Fz id sz (l.map f) (.vec id sz 0 n) (.seq (l.map f)):=by
  have e:(l.map f).length=n:=(zql _).trans hn
  rw [←e];exact .all
theorem RepA.wk {g:G} {b:Nat} {ps qs:List PV} (h:WkL ps qs):∀{off:Nat},RepA g b off ps→RepA g b off qs:=by
  induction h with
  |nil=>exact fun h=>h
  |cons h _ ih=>
    intro off e
    simp only [RepA] at e⊢
    obtain ⟨⟨v,e1,e2,e3⟩,e4⟩:=e
    exact ⟨⟨v,e1,e2,h _ _ e3⟩,ih e4⟩
theorem avZ {ps qs:List PV} (h:WkL ps qs):ps.length=qs.length:=by
  induction h with
  |nil=>rfl
  |cons _ _ ih=>simp [ih]
theorem RepR.wk {α:Type} {f k:α→List PV} {g:G} {b sz:Nat}:∀{l:List α} (_:∀x∈l,WkL (f x) (k x)) {off:Nat},RepR g b off sz (l.map f)→RepR g b off sz (l.map k)
  |[],_,_,e=>e
  |x::l,h,off,e=>by
    simp only [List.map_cons,RepR] at e⊢
    exact ⟨avZ (h x (by simp))▸e.1,RepA.wk (h x (by simp)) e.2.1,RepR.wk (fun y hy=>h y (by simp [hy])) e.2.2⟩
theorem Wk.rows {α:Type} {f k:α→List PV} {l:List α} (h:∀x∈l,WkL (f x) (k x)):Wk (.seq (l.map f)) (.seq (l.map k)):=fun g v e=>by
  unfold Rep at e⊢
  obtain ⟨a,cap,h1,h2,h3,h4⟩:=e
  rw [zql] at h1 h2 h3
  refine ⟨a,cap,by rw [zql];exact h1,by rw [zql];exact h2,by rw [zql];exact h3, ?_⟩
  rcases h4 with h4|⟨b,off,sz,q1,q2⟩
  · exact .inl (by rw [List.map_eq_nil_iff] at h4⊢;exact h4)
  · exact .inr ⟨b,off,sz,q1,RepR.wk h q2⟩
def aAe (s:Sc):Bs:=List.replicate s.length ⟨[]⟩
variable (sh:Cl→Vl)
def aqP (c:Cl):Prop:=PF Tryz.prog 55 [.agg c.cells] (.agg (sh c).cells)
theorem ayG (l:Ln) (hl:l.cells_.length<1000000000000) (hs:∀c∈l.cells_,aqP sh c) (st:aL):PC Tryz.prog 25 [.agg l.cells] st fun r S=>∃id,r= .vec id 3 0 l.cells_.length∧st id=none∧S=upd st id (some (.arr 47 ((l.cells_.map sh).map Vl.cells))):=by
  refine eH aD Tryz.func25 (by kernel_rfl) rfl rfl rfl rfl ?_
  (try (apply wO pk;exact rfl));(repeat' ((show All _;constructor)))
  refine jH 3 47 3 rfl rfl rfl (fun id hid=> ?_)
  refine aJ (X:={x:Nat×Nat//x.1≤l.cells_.length∧st x.2=none}) (fun i=>(((((St.nil 20 (upd st i.1.2 (some (.arr 47 (((l.cells_.map sh).take i.1.1).map Vl.cells))))).pv 3 (.vec i.1.2 3 0 i.1.1)).pv 7 (.seq (l.cells_.map Cl.cells))).pv 8 ((PV.val (Value.int .i64 (((l.cells_.map Cl.cells).length:Nat)))))).pv 9 ((PV.val (Value.int .i64 ((i.1.1:Nat))))))) (fun i=>l.cells_.length-i.1.1) ⟨(0,id),by simp,hid⟩ ?_ (fun i=> ?_)
  · dsimp only
    (((repeat (refine Sub.pv ?_ rfl));(exact Sub.nil _ _ _ (StSub.refl _) rfl)))
  obtain ⟨⟨i,id⟩,hi,hid⟩:=i
  simp only at hi hid
  dsimp only
  by_cases hend:l.cells_.length≤i
  · have e:(l.cells_.map sh).take i=l.cells_.map sh:=List.take_of_length_le (by simp;omega)
    obtain rfl:i=l.cells_.length:=by omega
    (try (apply wO pk;exact rfl));(repeat' (first|(show All _;constructor)|(apply wC pk;(iterate 2 exact rfl))|(refine aA rfl (fun h=> ?_) (fun h=> ?_)<;>(try simp at h)<;>try (exfalso;omega))|((try refine aB ?_);((refine ⟨_,_,_,rfl,Wk.refl _,StSub.refl _, ?_⟩;(exact ⟨id,rfl,hid,by rw [e];rfl⟩);done)))))
  have h1:i<l.cells_.length:=by omega
  have hc:PF Tryz.prog 55 [.agg l.cells_[i].cells] (.agg (sh l.cells_[i]).cells):=hs _ (List.getElem_mem h1)
  have e:(l.cells_.map sh).take (i+1)=(l.cells_.map sh).take i++[sh l.cells_[i]]:=by rw [List.take_succ_eq_append_getElem (by simpa using h1)];simp
  (try (apply wO pk;exact rfl));(repeat' (first|(show All _;constructor)|(show Imp _ _;constructor)|(apply wC pk;(iterate 2 exact rfl))|(apply wE pk;(iterate 2 exact rfl))|(refine aA rfl (fun h=> ?_) (fun h=> ?_)<;>(try simp at h)<;>try (exfalso;omega))|(apply aI;(iterate 3 exact rfl);(intro _;apply hc<;>first|assumption|omega);rotate_left;(iterate 2 exact rfl))|(apply aM pk;(iterate 6 exact rfl);rotate_left;exact rfl;(intro hw;exact rfl);(intro hw;apply aF<;>omega);(intro _;exact rfl);exact rfl)|(apply apV pk (f:=Vl.cells) [sh l.cells_[i]] 32;(iterate 9 exact rfl);(exact aC _ _ _);((focus (simp;omega)));exact fun _=>rfl;exact fun _=>rfl;exact abU;((focus (simp;omega)));((focus (simp;omega)));exact rfl;intro id' hid')|(refine ⟨⟨(i+1,id'),by simp only;omega,gJ hid'⟩, ?_,by simp only;omega⟩;((dsimp only;try rw [e]));(((repeat (refine Sub.pv ?_ rfl));(exact Sub.nil _ _ _ (cE (by assumption)) rfl))))|(intros;(try simp only [zql]);omega)))
theorem asW (l:Ln) (hl:l.cells_.length<1000000000000) (hs:∀c∈l.cells_,aqP sh c):PF Tryz.prog 25 [.agg l.cells] (.seq ((l.cells_.map sh).map Vl.cells)):=fun st=>
  wG (sz:=3) (ayG sh l hl hs st) fun p st' h=>by
    obtain ⟨id,rfl,h3,rfl⟩:=h
    exact .inl ⟨id,47,(l.cells_.map sh).map Vl.cells,_,st,aC _ _ _,nP,uC (by simp),kE h3,rfl,rfl⟩
def roC (r:List Vl):List PV:=[.seq (r.map Vl.cells)]
theorem roC.elem :Elem tt 45 roC (fun a=> .seq (a.map Vl.cells)) 1:=⟨rfl,fun _=>rfl,fun _=>rfl,fun _=>rfl,fun _=>rfl⟩
theorem ajG :Tryz.prog.bytesOf 45=24:=by kernel_rfl
theorem acD :Tryz.prog.cellsOf 45=1:=by kernel_rfl
def xT (l:Ln):List Vl:=l.cells_.map sh
theorem aoN (b:Bs) (k:Nat) (hk:k<b.length) (hl:b[k].lines.length<1000000000000) (hs:∀l∈b[k].lines,l.cells_.length<1000000000000∧∀c∈l.cells_,aqP sh c) (st:aL):PC Tryz.prog 17 [.agg (bsC b),(PV.val (Value.int .i64 ((k:Nat))))] st fun r S=>∃id,r= .vec id 1 0 b[k].lines.length∧st id=none∧S=upd st id (some (.arr 45 ((b[k].lines.map (xT sh)).map roC))):=by
  have ho:=aeI b k hk
  generalize b[k].lines=L at*
  refine eH aD Tryz.func17 (by kernel_rfl) rfl rfl rfl rfl ?_
  (try (apply wO pk;exact rfl));(repeat' (first|(show All _;constructor)|(show Imp _ _;constructor)|(apply wE pk;(iterate 2 exact rfl))|(apply aI;(iterate 3 exact rfl);(intro _;apply ho<;>first|assumption|omega);rotate_left;(iterate 2 exact rfl))))
  refine jH 7 45 1 rfl rfl rfl (fun id hid=> ?_)
  refine aJ (X:={x:Nat×Nat//x.1≤L.length∧st x.2=none}) (fun i=>(((((St.nil 30 (upd st i.1.2 (some (.arr 45 (((L.map (xT sh)).take i.1.1).map roC))))).pv 7 (.vec i.1.2 1 0 i.1.1)).pv 17 (.seq (L.map Ln.cells))).pv 18 ((PV.val (Value.int .i64 (((L.map Ln.cells).length:Nat)))))).pv 19 ((PV.val (Value.int .i64 ((i.1.1:Nat))))))) (fun i=>L.length-i.1.1) ⟨(0,id),by simp,hid⟩ ?_ (fun i=> ?_)
  · dsimp only
    (((repeat (refine Sub.pv ?_ rfl));(exact Sub.nil _ _ _ (StSub.refl _) rfl)))
  obtain ⟨⟨i,id⟩,hi,hid⟩:=i
  simp only at hi hid
  dsimp only
  by_cases hend:L.length≤i
  · have e:(L.map (xT sh)).take i=L.map (xT sh):=List.take_of_length_le (by simp;omega)
    obtain rfl:i=L.length:=by omega
    (try (apply wO pk;exact rfl));(repeat' (first|(show All _;constructor)|(apply wC pk;(iterate 2 exact rfl))|(refine aA rfl (fun h=> ?_) (fun h=> ?_)<;>(try simp at h)<;>try (exfalso;omega))|((try refine aB ?_);((refine ⟨_,_,_,rfl,Wk.refl _,StSub.refl _, ?_⟩;(exact ⟨id,rfl,hid,by rw [e];rfl⟩);done)))))
  have h1:i<L.length:=by omega
  have hc:=asW sh L[i] (hs _ (List.getElem_mem h1)).1 (hs _ (List.getElem_mem h1)).2
  have e:(L.map (xT sh)).take (i+1)=(L.map (xT sh)).take i++[L[i].cells_.map sh]:=by rw [List.take_succ_eq_append_getElem (by simpa using h1)];simp [xT]
  (try (apply wO pk;exact rfl));(repeat' (first|(show All _;constructor)|(show Imp _ _;constructor)|(apply wC pk;(iterate 2 exact rfl))|(apply wE pk;(iterate 2 exact rfl))|(refine aA rfl (fun h=> ?_) (fun h=> ?_)<;>(try simp at h)<;>try (exfalso;omega))|(apply aI;(iterate 3 exact rfl);(intro _;apply hc<;>first|assumption|omega);rotate_left;(iterate 2 exact rfl))|(apply aM pk;(iterate 6 exact rfl);rotate_left;exact rfl;(intro hw;exact rfl);(intro hw;apply aF<;>omega);(intro _;exact rfl);exact rfl)|(apply apV pk (f:=roC) [L[i].cells_.map sh] 24;(iterate 9 exact rfl);(exact aC _ _ _);((focus (simp;omega)));exact fun _=>rfl;exact fun _=>rfl;exact ajG;((focus (simp;omega)));((focus (simp;omega)));exact rfl;intro id' hid')|(refine ⟨⟨(i+1,id'),by simp only;omega,gJ hid'⟩, ?_,by simp only;omega⟩;((dsimp only;try rw [e]));(((repeat (refine Sub.pv ?_ rfl));(exact Sub.nil _ _ _ (cE (by assumption)) rfl))))|(intros;(try simp only [zql]);omega)))
theorem ahC (b:Bs) (k:Nat) (hk:k<b.length) (hl:b[k].lines.length<1000000000000) (hs:∀l∈b[k].lines,l.cells_.length<1000000000000∧∀c∈l.cells_,aqP sh c):PF Tryz.prog 17 [.agg (bsC b),(PV.val (Value.int .i64 ((k:Nat))))] (.seq ((b[k].lines.map (xT sh)).map roC)):=fun st=>
  wG (sz:=1) (aoN sh b k hk hl hs st) fun p st' h=>by
    obtain ⟨id,rfl,h3,rfl⟩:=h
    exact .inl ⟨id,45,(b[k].lines.map (xT sh)).map roC,_,st,aC _ _ _,acD,uC (by simp),kE h3,rfl,rfl⟩
end Go.Proofs.YtcglimangneafaaGreatDoor
namespace Go.Proofs.YtcglimangneafaaGreatDoor
open Go Go.Abs
attribute [local irreducible] Ev PWp
set_option maxRecDepth 10000
set_option maxHeartbeats 4000000
end Go.Proofs.YtcglimangneafaaGreatDoor
