import Derived.Test.YtddmbnddgiebgaaGreatDoorAbsE
import Derived.Test.YtddmbnddgiebgaaGreatDoorAbsG
import Derived.Test.YtddmbnddgiebgaaGreatDoorAbsI
set_option linter.unusedSimpArgs false
set_option linter.unusedVariables false
namespace Go.Abs
open Go
variable {P:Program} {tt:TT}
theorem aoF (htt:bL P tt) {kt e:TypeId} (hT:tiK tt kt=some (.arr 2 e)) (hE:tiK tt e=some (.int .i64)) (hs:aW tt e=some 1) (ha:kQ tt e=some false) (a b:Int) (q:Bool) (w:World):(Instr.checkKey q 10000 kt (.agg #[.int .i64 a, .int .i64 b])).run P w= .ok () w:=by
  have hu:=iQ (aY htt hT).1
  have hsz:=(aQ htt hs).1
  have hck:∀v,ckV tt 8 e v=true:=fun v=>by simp [ckV,hE]
  rw [show (10000:Nat)=9999+1 from rfl,Instr.checkKey]
  simp only [Sem.run_bind,run_underlying hu,Result.andThen_ok]
  rw [Std.Legacy.Range.forIn_eq_forIn_range']
  rw [show List.range' [:2].start [:2].size [:2].step=[0,1] from rfl]
  have hp:∀i,i=0∨i=1→∃v,(part e #[.int .i64 a, .int .i64 b] (i*1)).run P w= .ok v w∧(Instr.checkKey q 9999 e v).run P w= .ok () w:=fun i hi=>by
    obtain ⟨v,h1,h2⟩:=qP htt (w:=w) (t:=e) (off:=i*1) (xs:= #[.int .i64 a, .int .i64 b]) (d:=8) (by
      rw [ha,hs]
      rcases hi with rfl|rfl<;>exact hck _)
    exact ⟨v,h1,acL htt 8 9999 (by omega) e v (hck v)⟩
  obtain ⟨v0,p0,c0⟩:=hp 0 (.inl rfl)
  obtain ⟨v1,p1,c1⟩:=hp 1 (.inr rfl)
  simp only [List.forIn_cons,List.forIn_nil,Sem.run_bind,aZ hsz,Result.andThen_ok,p0,c0,p1,c1,Sem.run_pure]
def qV (k:Int×Int):List Value:=[.int .i64 k.1, .int .i64 k.2]
theorem adJ (htt:bL P tt) {kt e:TypeId} (hT:tiK tt kt=some (.arr 2 e)) (hE:tiK tt e=some (.int .i64)) (hs:aW tt e=some 1) (ha:kQ tt e=some false)
    (he:∀a b:Int×Int,peq tt 8 kt ((qV a).map .val) ((qV b).map .val)=some (decide (a=b))) (hcm:kT P 8 kt=true):KeyOK P kt (fun k=> .agg (qV k).toArray) (fun k=> .agg ((qV k).map .val)) where
  und:=by have hu:=iQ (aY htt hT).1;simp [hu]
  chk k b w:=aoF htt hT hE hs ha k.1 k.2 b w
  now kd _ a b:= .inl (by cases kd<;>rfl)
  eq a b w:=by
    have hu:=iQ (aY htt hT).1
    have ha:bD P kt=true:=by simp [bD,hu]
    have g:G:=⟨#[],fun _=>none,fun _=>0,fun _=>False⟩
    exact gO htt (g:=g) 8 Op.maxDepth (by decide) kt _ _ _ _ _ (he a b) hcm (pI (by simp only [Rep];exact ⟨_,rfl,vJ g _⟩) ha) (pI (by simp only [Rep];exact ⟨_,rfl,vJ g _⟩) ha)
  rp k g v h:=by
    simp only [Rep] at h
    obtain ⟨vs,rfl,h⟩:=h
    rw [sK h]
  bits k:=yH (vs:=qV k) rfl
section
variable {l:List Oper} {d:Md} {r:List Oper} {s:St} {Kt:St→Prop} {t:Nat} {op:Op} {ty:TypeId} {pos:String} {after:Array Edge} {gd:Option (Nat×Bool)}
variable {K V:Type} [DecidableEq K] {kt:TypeId} {enc:K→Value} {rep:K→PV} {f:V→PV}
theorem auK (pk:Pk P tt) (hk:KeyOK P kt enc rep) {T e:TypeId} {x y:Operand} {ok w:Bool} {id:Nat} {z:PV} {es:List (K×V)} {k:K} {v:Option V} (hw:bO l ⟨some t, .lookup T x y ok,ty,pos,after,gd⟩ s=some w) (hx:opd s x=some (.mref id)) (hy:opd s y=some (rep k)) (hT:tiK tt T=some (.map kt e)) (hz:pzv tt e=some z) (hf:All (flagsI s w [x,y] [])) (hd:Nat.blt t s.n=true)
    (hst:s.st id=some (.map (aV enc f es))) (ht:pF d l r=true) (hv:dH k es=v) (kk:Ev P l d r (s.put (some t) w (.pv (hZ z f ok v))) Kt):Ev P l d (⟨some t, .lookup T x y ok,ty,pos,after,gd⟩::r) s Kt:=
  lkM pk hk hw hx hy hT hz hf hd hst ht (hv.symm▸kk)
theorem auZ (pk:Pk P tt) (hk:KeyOK P kt enc rep) {T e:TypeId} {x y:Operand} {ok w:Bool} {z:PV} {es:List (K×V)} {k:K} {v:Option V} (hw:bO l ⟨some t, .lookup T x y ok,ty,pos,after,gd⟩ s=some w) (hx:opd s x=some (.fmap (aV enc f es))) (hy:opd s y=some (rep k)) (hT:tiK tt T=some (.map kt e)) (hz:pzv tt e=some z) (hf:All (flagsI s w [x,y] [])) (hd:Nat.blt t s.n=true)
    (ht:cP d l r=true) (hv:dH k es=v) (kk:Ev P l d r (s.put (some t) w (.pv (hZ z f ok v))) Kt):Ev P l d (⟨some t, .lookup T x y ok,ty,pos,after,gd⟩::r) s Kt:=
  dE hw (fun _ _=>zM pk.htt hk rfl hx hy hT hz) (fun z hz=>aX (fun _ _ _ e=>by cases e) hz) (flagsI.g hf).1 hd ht (hv.symm▸kk)
end
theorem ajE (htt:bL P tt) {o:Oper} {s:St} {T kt e:TypeId} {x:Operand} {es:List (Value×PV)} (ho:o.op= .call ⟨.builtin .len, #[x], #[T]⟩) (hx:opd s x=some (.fmap es)) (hT:tiK tt T=some (.map kt e)):OpV P o s (.val (.int .i64 es.length)):=by
  refine aU fun w g ρ hm hρ=> ?_
  have rx:=hρ x (by rw [ho];simp [Op.operands,Call.operands]) _ hx
  have hu:=sL (aY htt hT).1
  simp only [Rep] at rx
  obtain ⟨b,ents,clock,hxv,h2,h3,h4⟩:=rx
  rw [hm.heap] at h3
  have hl:=h4.len
  refine ⟨.int .i64 es.length,cK ho ?_,by simp [Rep]⟩
  simp [builtin,Builtin.len_,run_underlying hu,hxv,MapKept.run_getObj_map h3,goInt,←hl]
theorem lnF {l:List Oper} {d:Md} {r:List Oper} {s:St} {Kt:St→Prop} {t:Nat} {ty:TypeId} {pos:String} {after:Array Edge} {gd:Option (Nat×Bool)} (pk:Pk P tt) {T kt e:TypeId} {x:Operand} {w:Bool} {es:List (Value×PV)} (hw:bO l ⟨some t, .call ⟨.builtin .len, #[x], #[T]⟩,ty,pos,after,gd⟩ s=some w) (hx:opd s x=some (.fmap es)) (hT:tiK tt T=some (.map kt e)) (hf:All (flagsI s w [x] [])) (hd:Nat.blt t s.n=true) (ht:cP d l r=true) (kk:Ev P l d r (s.put (some t) w (.pv (.val (.int .i64 es.length)))) Kt):Ev P l d (⟨some t, .call ⟨.builtin .len, #[x], #[T]⟩,ty,pos,after,gd⟩::r) s Kt:=
  dE hw (fun _ _=>ajE pk.htt rfl hx hT) (fun z hz=>aX (fun _ _ _ e=>by cases e) hz) (flagsI.g hf).1 hd ht kk
end Go.Abs
namespace Go.Abs
open Go
def vS :Nat→PV→PV→Bool
  |0,_,_=>false
  |n+1,p,q=>match p,q with
    | .val (.int _ _), .seq _| .seq _, .val (.int _ _)| .val (.string _), .seq _| .seq _, .val (.string _)| .val (.bool _), .seq _| .seq _, .val (.bool _)=>true
    | .val (.int _ _), .val (.string _)| .val (.string _), .val (.int _ _)| .val (.bool _), .val (.string _)| .val (.string _), .val (.bool _)=>true
    | .val (.int _ _), .val (.slice _ _ _)| .val (.string _), .val (.slice _ _ _)| .val (.bool _), .val (.slice _ _ _)=>true
    | .seq a, .val (.slice _ n _)=> !Nat.beq a.length n
    | .seq a, .seq b=> !Nat.beq a.length b.length||((a.headD []).zip (b.headD [])).any fun x=>vS n x.1 x.2
    |_,_=>false
theorem nZ {g:G} {b:Nat}:∀{ps:List PV} {off:Nat},RepA g b off ps→∀{j:Nat} {p:PV},ps[j]?=some p→∃v,bB g.heap b (off+j)=some v∧off+j<g.fr b∧Rep g p v
  |[],_,_,_,_,h=>by simp at h
  |q::ps,off,h,0,p,hp=>by
    simp only [RepA] at h
    simp only [List.getElem?_cons_zero,Option.some.injEq] at hp
    subst hp;exact h.1
  |q::ps,off,h,j+1,p,hp=>by
    simp only [RepA] at h
    have:=nZ h.2 (j:=j) (p:=p) (by simpa using hp)
    rwa [show off+1+j=off+(j+1) by omega] at this
theorem sX {g:G} {b sz:Nat}:∀{rows:List (List PV)} {off:Nat},RepR g b off sz rows→RepA g b off rows.flatten
  |[],_,_=>by simp [RepA]
  |r::rs,off,h=>by
    simp only [RepR] at h
    obtain ⟨h1,h2,h3⟩:=h
    rw [List.flatten_cons]
    have key:∀(r:List PV) (o:Nat),RepA g b o r→RepA g b (o+r.length) rs.flatten→RepA g b o (r++rs.flatten):=by
      intro r
      induction r with
      |nil=>intro o _ h;simpa using h
      |cons p r ih=>
        intro o h1 h2
        simp only [List.cons_append,RepA] at h1⊢
        refine ⟨h1.1,ih (o+1) h1.2 ?_⟩
        rwa [show o+1+r.length=o+(p::r).length by simp;omega]
    exact key r off h2 (by rw [h1];exact sX h3)
theorem zB {g:G}:∀(n:Nat) {p q:PV} {v:Value},vS n p q=true→Rep g p v→Rep g q v→False
  |0,_,_,_,h,_,_=>by simp [vS] at h
  |n+1,p,q,v,h,hp,hq=>by
    unfold vS at h
    split at h
    all_goals first
      |(cases h;done)
      |(simp only [Rep] at hp hq;obtain ⟨_,_,e,_⟩:=hq;rw [e] at hp;cases hp;done)
      |(simp only [Rep] at hp hq;obtain ⟨_,_,e,_⟩:=hp;rw [e] at hq;cases hq;done)
      |(simp only [Rep] at hp hq;rw [hp] at hq;cases hq;done)
      |skip
    · rename_i a _ m _
      simp only [Rep] at hp hq
      obtain ⟨x,cap,e1,_⟩:=hp
      rw [e1] at hq
      injection hq with _ h2 _
      rw [h2,Nat.beq_refl] at h;cases h
    rename_i a b
    simp only [Rep] at hp hq
    obtain ⟨x,cap,e1,_,_,p4⟩:=hp
    obtain ⟨y,cap',e2,_,_,q4⟩:=hq
    rw [e1] at e2
    injection e2 with e2 e3 e4
    rw [Bool.or_eq_true] at h
    rcases h with h|h
    · rw [e3,Nat.beq_refl] at h;cases h
    · obtain ⟨z,hz,hc⟩:=List.any_eq_true.1 h
      cases a with
      |nil=>simp at hz
      |cons r1 t1=>
        cases b with
        |nil=>simp at hz
        |cons r2 t2=>
          rcases p4 with p4|⟨bb,off,sz,f1,f2⟩
          · cases p4
          rcases q4 with q4|⟨bb',off',sz',g1,g2⟩
          · cases q4
          rw [f1] at e2
          rw [g1] at e2
          injection e2 with e2
          injection e2 with e2 e5
          subst e2;subst e5
          simp only [List.headD_cons] at hz
          obtain ⟨j,hj,hjz⟩:=List.getElem_of_mem hz
          rw [List.getElem_zip] at hjz
          rw [List.length_zip] at hj
          simp only [RepR] at f2 g2
          obtain ⟨v1,k1,_,k2⟩:=nZ f2.2.1 (List.getElem?_eq_getElem (show j<r1.length by omega))
          obtain ⟨v2,k3,_,k4⟩:=nZ g2.2.1 (List.getElem?_eq_getElem (show j<r2.length by omega))
          rw [k1] at k3
          injection k3 with k3
          subst k3
          rw [←hjz] at hc
          exact zB n hc k2 k4
def ajV (n:Nat) (C R:List PV) (off:Nat):Bool:=(List.range R.length).all fun j=>Nat.blt (off+j) C.length&& !vS n (R[j]!) (C[off+j]!)
def apQ (n:Nat) (C R:List PV):Bool:=R.isEmpty||(List.range C.length).all fun off=> !ajV n C R off
mutual
def apart (n:Nat) (C:List PV):PV→Bool
  | .und| .val _| .emp=>true
  | .agg cs=>kV n C cs
  | .tup cs=>kV n C cs
  | .seq rows=>apQ n C rows.flatten&&xW n C rows
  |_=>false
def kV (n:Nat) (C:List PV):List PV→Bool
  |[]=>true
  |p::ps=>apart n C p&&kV n C ps
def xW (n:Nat) (C:List PV):List (List PV)→Bool
  |[]=>true
  |r::rs=>kV n C r&&xW n C rs
end
section
variable {g:G} {b n:Nat} {C:List PV}
theorem zG {g:G} {b:Nat}:∀{rows:List (List PV)} {off sz:Nat},rows.flatten=[]→RepR g b off sz rows→∀{g':G},RepR g' b off sz rows
  |[],_,_,_,_,_=>by simp [RepR]
  |r::rs,off,sz,h,hr,g'=>by
    rw [List.flatten_cons,List.append_eq_nil_iff] at h
    simp only [RepR] at hr⊢
    refine ⟨hr.1, ?_,zG h.2 hr.2.2⟩
    rw [h.1];simp [RepA]
theorem auJ (hC:RepA g b 0 C) (hf:g.fr b=C.length) {R:List PV} (h:apQ n C R=true) (hne:R≠[]) {off:Nat} (hr:RepA g b off R):False:=by
  unfold apQ at h
  rw [Bool.or_eq_true] at h
  rcases h with h|h
  · exact hne (by simpa using h)
  have hR0:0<R.length:=List.length_pos_iff.2 hne
  have hat:∀j,j<R.length→off+j<C.length∧vS n R[j]! C[off+j]! =false:=fun j hj=>by
    obtain ⟨v,k1,k2,k3⟩:=nZ hr (List.getElem?_eq_getElem hj)
    rw [hf] at k2
    refine ⟨k2, ?_⟩
    obtain ⟨v',m1,_,m3⟩:=nZ hC (List.getElem?_eq_getElem k2)
    rw [Nat.zero_add,k1] at m1
    injection m1 with m1
    subst m1
    rw [getElem!_pos R j hj,getElem!_pos C (off+j) k2,←Bool.not_eq_true]
    exact fun hc=>zB n hc k3 m3
  have h1:=List.all_eq_true.1 h off (List.mem_range.2 (by have:=(hat 0 hR0).1;omega))
  have h2:ajV n C R off=true:=by
    unfold ajV
    rw [List.all_eq_true]
    intro j hj
    obtain ⟨k1,k2⟩:=hat j (List.mem_range.1 hj)
    rw [k2,show Nat.blt (off+j) C.length=true from by rw [Nat.blt_eq];exact k1];rfl
  rw [h2] at h1;cases h1
def nA (g:G) (b:Nat):G:={g with fr:=upd g.fr b 0}
mutual
theorem Rep.thaw (hC:RepA g b 0 C) (hf:g.fr b=C.length):∀(p:PV) (v:Value),apart n C p=true→Rep g p v→Rep (nA g b) p v
  | .und,_,_,_=>by simp [Rep]
  | .val _,_,_,e=>by simpa only [Rep] using e
  | .emp,_,_,e=>by simpa only [Rep] using e
  | .agg cs,x,h,e=>by
    simp only [apart] at h
    simp only [Rep] at e⊢
    obtain ⟨vs,e1,e2⟩:=e
    exact ⟨vs,e1,RepL.thaw hC hf cs vs h e2⟩
  | .tup cs,x,h,e=>by
    simp only [apart] at h
    simp only [Rep] at e⊢
    obtain ⟨vs,e1,e2⟩:=e
    exact ⟨vs,e1,RepL.thaw hC hf cs vs h e2⟩
  | .seq rows,x,h,e=>by
    simp only [apart,Bool.and_eq_true] at h
    simp only [Rep] at e⊢
    obtain ⟨a,cap,e1,e2,e3,e4⟩:=e
    refine ⟨a,cap,e1,e2,e3, ?_⟩
    rcases e4 with e4|⟨b',off,sz,e4,e5⟩
    · exact .inl e4
    · refine .inr ⟨b',off,sz,e4, ?_⟩
      by_cases hn:rows.flatten=[]
      · exact zG hn e5
      · have hb:b'≠b:=fun hb=>by
          subst hb
          exact auJ hC hf h.1 hn (sX e5)
        exact RepR.thaw hC hf b' off sz hb rows h.2 e5
  | .own ..,_,h,_=>by simp [apart] at h
  | .rp ..,_,h,_=>by simp [apart] at h
  | .fn ..,_,h,_=>by simp [apart] at h
  | .fmap ..,_,h,_=>by simp [apart] at h
  | .ref ..,_,h,_=>by simp [apart] at h
  | .vec ..,_,h,_=>by simp [apart] at h
  | .el ..,_,h,_=>by simp [apart] at h
  | .mref ..,_,h,_=>by simp [apart] at h
  | .yld ..,_,h,_=>by simp [apart] at h
theorem RepL.thaw (hC:RepA g b 0 C) (hf:g.fr b=C.length):∀(ps:List PV) (vs:List Value),kV n C ps=true→RepL g ps vs→RepL (nA g b) ps vs
  |[],_,_,e=>by simpa [RepL] using e
  |p::ps,vs,h,e=>by
    simp only [kV,Bool.and_eq_true] at h
    simp only [RepL] at e⊢
    obtain ⟨v,vs',e1,e2,e3⟩:=e
    exact ⟨v,vs',e1,Rep.thaw hC hf p v h.1 e2,RepL.thaw hC hf ps vs' h.2 e3⟩
theorem RepA.thaw (hC:RepA g b 0 C) (hf:g.fr b=C.length) (b' off:Nat) (hb:b'≠b):∀(ps:List PV),kV n C ps=true→RepA g b' off ps→RepA (nA g b) b' off ps
  |[],_,_=>by simp [RepA]
  |p::ps,h,e=>by
    simp only [kV,Bool.and_eq_true] at h
    simp only [RepA] at e⊢
    obtain ⟨⟨v,e1,e2,e3⟩,e4⟩:=e
    exact ⟨⟨v,e1,by show off<upd g.fr b 0 b';rw [aB hb];exact e2,Rep.thaw hC hf p v h.1 e3⟩,RepA.thaw hC hf b' (off+1) hb ps h.2 e4⟩
theorem RepR.thaw (hC:RepA g b 0 C) (hf:g.fr b=C.length) (b' off sz:Nat) (hb:b'≠b):∀(rs:List (List PV)),xW n C rs=true→RepR g b' off sz rs→RepR (nA g b) b' off sz rs
  |[],_,_=>by simp [RepR]
  |r::rs,h,e=>by
    simp only [xW,Bool.and_eq_true] at h
    simp only [RepR] at e⊢
    exact ⟨e.1,RepA.thaw hC hf b' off hb r h.1 e.2.1,RepR.thaw hC hf b' (off+sz) sz hb rs h.2 e.2.2⟩
end
end
theorem PC.borrow {P:Program} {f:FuncId} {id sz:Nat} {T:TypeId} {rows:List (List PV)} {st:aI} {ps qs qs':List PV} {r:PV} (n:Nat) (hst:st id=some (.arr T rows)) (hT:P.cellsOf T=sz) (h0:0<rows.length) (hz:FzL id sz rows ps qs) (hw:WkL qs qs') (h:PF P f qs' r) (ha:apart n rows.flatten r=true):PC P f ps st fun r' S=>r'=r∧S=st:=by
  have h:=h fun _=>none
  refine ⟨h.1,fun w g vs hm hr=> ?_⟩
  have hob:=hm.obj id _ hst
  simp only [ObjOK] at hob
  obtain ⟨b,cap,h1,⟨_,h2⟩|⟨h2,us,sp,h3,h4,h5,h6,h7,h8⟩⟩:=hob
  · rw [h2] at h0;simp at h0
  have hbl:Go.Abs.blk g id=some b:=by simp [Go.Abs.blk,h1,h2]
  have hblt:b<w.heap.size:=by have:=bN h4;rwa [hm.heap] at this
  have hlen:=h7.length
  obtain ⟨l1,l2,l3⟩:=zS hm hst hT h1 h2 h3 h4 h6 h7 h8
  generalize hgf:({g with fr:=upd g.fr b us.length}:G)=gf at l1 l2 l3
  have hfb:gf.fr b=us.length:=by subst hgf;exact aA _ _ _
  have hfo:∀b',b'≠b→gf.fr b'=g.fr b':=fun b' hb=>by subst hgf;exact aB hb
  have hhp:gf.heap=g.heap:=by subst hgf;rfl
  have hfm:∀b',gf.fm b'↔g.fm b':=fun b'=>by subst hgf;exact Iff.rfl
  have hC:RepA gf b 0 rows.flatten:=sX (RepR.mk (vs:=us) h6 (RepL.mono l2 _ _ h7) fun j v hj=>by
    have hjv:=(List.getElem?_eq_some_iff.1 hj).1
    rw [Nat.zero_add,hfb,hhp]
    refine ⟨?_,hjv⟩
    simp only [bB,h4,List.getElem?_toArray]
    rw [List.getElem?_append_left hjv];exact hj)
  have hE:∀x y,¬Blocks (fun _=>none) x y:=fun x y ⟨j,hj,_⟩=>hj rfl
  refine (h.2 w gf vs (l1.sub fun _=> .inl rfl) (hw.rep (FzL.rep l3 hz vs (RepL.mono l2 _ _ hr)))).mono ?_
  rintro e w' ⟨v2,r',st',g',he,⟨rfl,rfl⟩,hrep,hmem,hle,hfr,hb⟩
  have hold:∀b',b'<w.heap.size→w'.heap[b']?=w.heap[b']?∧g'.fr b'=gf.fr b'∧(g'.fm b'↔gf.fm b'):=fun b' hb'=>hfr.old b' hb' (hE _ _)
  have hfb':g'.fr b=rows.flatten.length:=by rw [(hold b hblt).2.1,hfb,hlen]
  have hLe:Le g (nA g' b):=by
    have h':=l2.trans hle
    refine ⟨h'.io,fun b'=> ?_,h'.cell,h'.fm⟩
    show g.fr b'≤upd g'.fr b 0 b'
    by_cases e:b'=b
    · rw [e,h8];exact Nat.zero_le _
    · rw [aB e];exact h'.fr b'
  have hio:∀j,st j≠none→Go.Abs.blk (nA g' b) j=Go.Abs.blk g j:=fun j hj=>by
    cases hs:st j with
    |none=>exact absurd hs hj
    |some o=>
      obtain ⟨x,hx⟩:=sD (hm.obj j o hs)
      unfold Go.Abs.blk
      rw [hx,hLe.io j x hx]
  have hkeep:∀b',b'<w.heap.size→(nA g' b).heap[b']?=g.heap[b']?∧(nA g' b).fr b'=g.fr b'∧((nA g' b).fm b'↔g.fm b'):=fun b' hb'=>by
    obtain ⟨k1,k2,k3⟩:=hold b' hb'
    refine ⟨?_, ?_,k3.trans (hfm b')⟩
    · show g'.heap[b']?=_
      rw [hmem.heap,k1,hm.heap]
    · show upd g'.fr b 0 b'=_
      by_cases e:b'=b
      · rw [e,aA,h8]
      · rw [aB e,k2,hfo b' e]
  refine ⟨v2,r',st,nA g' b,he,⟨rfl,rfl⟩,Rep.thaw (RepA.mono hle b 0 _ hC) hfb' r' v2 ha hrep,⟨hmem.heap,fun j o hj=> ?_,fun j j' b' e e' k k'=>hm.inj j j' b' e e' (by rw [←hio j e];exact k) (by rw [←hio j' e'];exact k'),fun b' hb'=> ?_,hmem.fmm,hmem.fin⟩,hLe,⟨hfr.os,hfr.tape,hfr.output,hfr.size,fun b' hb' _=> ?_⟩,fun b' ⟨j,j1,j2⟩=> .inl ⟨j,j1,by rw [←hio j j1];exact j2⟩⟩
  · refine (hm.obj j o hj).keep hLe fun b' hb'=>hkeep b' (ajJ hm (by rw [hj];simp) hb')
  · have hb2:upd g'.fr b 0 b'≠0:=hb'
    by_cases e:b'=b
    · rw [e,aA] at hb2;exact absurd rfl hb2
    · rw [aB e] at hb2;exact hmem.lt b' hb2
  · obtain ⟨k1,k2,k3⟩:=hkeep b' hb'
    exact ⟨(hold b' hb').1,k2,k3⟩
theorem PC.freezeZ {P:Program} {f:FuncId} {id sz:Nat} {T:TypeId} {rows:List (List PV)} {st:aI} {ps qs:List PV} {R:PV→aI→Prop} (hst:st id=some (.arr T rows)) (hT:P.cellsOf T=sz) (hz:FzL id sz rows ps qs) (h:PC P f qs (upd st id none) R):PC P f ps st R:=by
  refine ⟨h.1,fun w g vs hm hr=> ?_⟩
  obtain ⟨g1,m1,m2,m3,m4,m5,m6⟩:=jW hm hst hT
  have hsub:∀b,Blocks (upd st id none) g1 b→Blocks st g b:=fun b ⟨j,j1,j2⟩=>⟨j,(cZ j1).2,by rw [←m6];exact j2⟩
  refine (h.2 w g1 vs m1 (FzL.rep m3 hz vs (RepL.mono m2 _ _ hr))).mono ?_
  rintro e w' ⟨v2,r,st',g',he,hR,hrep,hmem,hle,hfr,hb⟩
  refine ⟨v2,r,st',g',he,hR,hrep,hmem,m2.trans hle,⟨hfr.os,hfr.tape,hfr.output,hfr.size,fun b hb' hn'=> ?_⟩,fun b hb'=>(hb b hb').imp (hsub b) fun h=>h⟩
  obtain ⟨f1,f2,f3⟩:=hfr.old b hb' fun q=>hn' (hsub b q)
  obtain ⟨k1,k2⟩:=m5 b hn'
  exact ⟨f1,f2.trans k1,f3.trans k2⟩
theorem PC.wkArgs {P:Program} {f:FuncId} {st:aI} {ps qs:List PV} {R:PV→aI→Prop} (hw:WkL ps qs) (h:PC P f qs st R):PC P f ps st R:=⟨h.1,fun w g vs hm hr=>h.2 w g vs hm (hw.rep hr)⟩
end Go.Abs
namespace Go.Abs
open Go
variable {P:Program}
theorem zT {g g':G} {q q':PV} (hl:∀(ps:List PV) vs,RepL g ps vs→RepL g' ps vs) (hq:∀v,Rep g' q v→Rep g' q' v):∀{rows:List (List PV)} {k:Nat} {vs:List Value},rows[k]?=some [q]→RepL g rows.flatten vs→RepL g' (rows.set k [q']).flatten vs
  |[],_,_,h,_=>by simp at h
  |r::rs,0,vs,h,e=>by
    simp only [List.getElem?_cons_zero,Option.some.injEq] at h
    subst h
    simp only [List.set_cons_zero,List.flatten_cons,List.singleton_append] at e⊢
    have e:=hl _ _ e
    simp only [RepL] at e⊢
    obtain ⟨v,vs',e1,e2,e3⟩:=e
    exact ⟨v,vs',e1,hq v e2,e3⟩
  |r::rs,k+1,vs,h,e=>by
    simp only [List.getElem?_cons_succ] at h
    simp only [List.set_cons_succ,List.flatten_cons] at e⊢
    have key:∀(r:List PV) (vs:List Value),RepL g (r++rs.flatten) vs→RepL g' (r++(rs.set k [q']).flatten) vs:=by
      intro r
      induction r with
      |nil=>intro vs e;exact zT hl hq h e
      |cons p r ih=>
        intro vs e
        have e1:=hl [p]
        simp only [List.cons_append,RepL] at e e1⊢
        obtain ⟨v,vs',rfl,e2,e3⟩:=e
        obtain ⟨v2,vs2,q1,q2,q3⟩:=e1 [v] ⟨v,[],rfl,e2,rfl⟩
        injection q1 with q1
        exact ⟨v,vs',rfl,q1▸q2,ih vs' e3⟩
    exact key r vs e
theorem MemOK.setRow {st:aI} {w:World} {g:G} (hm:MemOK P st w g) {id:Nat} {T:TypeId} {rows:List (List PV)} {k:Nat} {q q':PV} (hst:st id=some (.arr T rows)) (hk:rows[k]?=some [q]) (hq:∀v,Rep g q v→Rep g q' v):MemOK P (upd st id (some (.arr T (rows.set k [q'])))) w g where
  heap:=hm.heap
  obj j o e:=by
    by_cases h:j=id
    · subst h
      rw [aA] at e
      injection e with e
      subst e
      have:=hm.obj j _ hst
      simp only [ObjOK] at this⊢
      obtain ⟨b,cap,h1,⟨h0,h2⟩|⟨h2,vs,sp,h3,h4,h5,h6,h7,h8⟩⟩:=this
      · rw [h2] at hk;simp at hk
      · refine ⟨b,cap,by rw [List.length_set];exact h1, .inr ⟨h2,vs,sp,by rw [List.length_set];exact h3,h4,h5,fun r hr=> ?_,zT (fun _ _ h=>h) hq hk h7,h8⟩⟩
        rcases List.mem_or_eq_of_mem_set hr with hr|rfl
        · exact h6 r hr
        · exact h6 [q] (List.mem_of_getElem? hk)
    · rw [aB h] at e;exact hm.obj j o e
  inj j j' b e e':=hm.inj j j' b (by by_cases h:j=id;(rw [h,hst];simp);(rwa [aB h] at e)) (by by_cases h:j'=id;(rw [h,hst];simp);(rwa [aB h] at e'))
  lt:=hm.lt
  fmm:=hm.fmm
  fin:=hm.fin
theorem Blocks.set {st:aI} {g:G} {id:Nat} {o o':AObj} (hst:st id=some o) {b:Nat} (h:Blocks (upd st id (some o')) g b):Blocks st g b:=by
  obtain ⟨j,h1,h2⟩:=h
  refine ⟨j, ?_,h2⟩
  by_cases e:j=id
  · rw [e,hst];simp
  · rwa [aB e] at h1
section
variable {cd:Code} {Q:Exit→St→Prop} {s:St}
theorem aaV {id k:Nat} {T':TypeId} {rows:List (List PV)} {q:PV} (T sz:Nat) (hst:s.st id=some (.arr T' rows)) (hk:rows[k]?=some [q]) (hq:isEmp q=true) (kk:∀id',s.st id'=none→PWp P cd Q (s.sst (upd (upd s.st id' (some (.arr T []))) id (some (.arr T' (rows.set k [.vec id' sz 0 0])))))):PWp P cd Q s:=by
  intro c a w g lam hs
  obtain ⟨id',g',f1,f2,f3,m1,m2,m3,m4⟩:=lJ hs.mem T
  have hne:id≠id':=fun e=>by rw [←e,hst] at f2;cases f2
  have hst':upd s.st id' (some (.arr T [])) id=some (.arr T' rows):=(aB hne).trans hst
  have m1':=m1.setRow (q':= .vec id' sz 0 0) hst' hk fun v hv=>by
    obtain ⟨b,rfl⟩:=lV hq hv
    exact f3 sz b
  exact kk id' f2 c a w g' lam (hs.step m1' m2 m3 fun b hb=>m4 b (hb.set hst'))
theorem acM {id idL k sz n:Nat} {T T':TypeId} {rows rl:List (List PV)} (hst:s.st id=some (.arr T' rows)) (hk:rows[k]?=some [.vec idL sz 0 n]) (hL:s.st idL=some (.arr T rl)) (hT:P.cellsOf T=sz) (hn:rl.length=n) (hne:id≠idL) (kk:PWp P cd Q (s.sst (upd (upd s.st idL none) id (some (.arr T' (rows.set k [.seq rl])))))):PWp P cd Q s:=by
  intro c a w g lam hs
  obtain ⟨g',m1,m2,m3,m4,m5,m6⟩:=jW hs.mem hL hT
  have hst':upd s.st idL none id=some (.arr T' rows):=(aB hne).trans hst
  have m1':=m1.setRow (q':= .seq rl) hst' hk fun v hv=>by
    have:=m3 0 n v hv
    rwa [List.drop_zero,←hn,List.take_length] at this
  refine kk c a w g' lam (hs.step m1' m2 ⟨rfl,⟨rfl,Nat.le_refl _⟩,rfl,Nat.le_refl _,fun b _ hb=> ?_⟩ fun b hb=> ?_)
  · exact ⟨rfl,m5 b hb⟩
  · obtain ⟨j,j1,j2⟩:=hb.set hst'
    exact .inl ⟨j,(cZ j1).2,by rw [←m6];exact j2⟩
end
section
variable {tt:TT} {l:List Oper} {d:Md} {r:List Oper} {s:St} {K:St→Prop} {t:Nat} {ty:TypeId} {pos:String} {after:Array Edge} {gd:Option (Nat×Bool)}
theorem ldX (pk:Pk P tt) {T T':TypeId} {x:Operand} {id sz j off:Nat} {w:Bool} {rows:List (List PV)} {row:List PV} {p:PV} (hw:bO l ⟨some t, .load T x,ty,pos,after,gd⟩ s=some w) (hx:opd s x=some (.el id sz j off)) (hf:All (flagsI s w [x] [])) (hd:Nat.blt t s.n=true) (hst:s.st id=some (.arr T' rows)) (hs:aW tt T'=some sz) (hr:rows[j]?=some row) (hp:gV tt T row off=some p) (ht:pF d l r=true) (k:Ev P l d r (s.put (some t) w (.pv p)) K):Ev P l d (⟨some t, .load T x,ty,pos,after,gd⟩::r) s K:=
  kX hw (fun _=>nD pk.htt rfl hx hst hs hr hp) (fun z hz=>aX (fun _ _ _ e=>by cases e) hz) (flagsI.g hf).1 hd ht k
theorem stX (pk:Pk P tt) {T T':TypeId} {x y:Operand} {id sz j off:Nat} {rows:List (List PV)} {row row':List PV} (hx:opd s x=some (.el id sz j off)) (hf:bX s [x,y]=true) (hst:s.st id=some (.arr T' rows)) (hs:aW tt T'=some sz) (hr:rows[j]?=some row) (hp:gW tt s T y row off=some row') (ht:iO d l r=true) (k:Ev P l d r (s.sst (upd s.st id (some (.arr T' (rows.set j row'))))) K):Ev P l d (⟨none, .store T x y,ty,pos,after,none⟩::r) s K:=
  eB (qR pk.htt hx hst hs hr hp) (fun z hz=>aX (fun _ _ _ e=>by cases e) hz) hf rfl ht fun z hz=>by subst hz;exact k
end
end Go.Abs
namespace Go.Abs
open Go
section
variable {P:Program} {tt:TT}
theorem adM (htt:bL P tt) {dst:Option Nat} {ty:TypeId} {pos:String} {after:Array Edge} {s:St} {T e0:TypeId} {len sz0:Nat} {ps:List (Nat×Operand)} {rows:List (List PV)} (h:iR tt s T len ps=some (.seq rows)) (hk0:tiK tt T=some (.slice e0)) (hs0:aW tt e0=some sz0) (hn0:rows.length=len):
    OpZ P ⟨dst, .buildSlice T len ps.toArray,ty,pos,after,none⟩ s fun zz=>∃id',s.st id'=none∧zz=(upd s.st id' (some (.arr e0 rows)), .vec id' sz0 0 len):=by
  intro w g ρ hm hρ
  have ho:(⟨dst, .buildSlice T len ps.toArray,ty,pos,after,none⟩:Oper).op= .buildSlice T len ps.toArray:=rfl
  have hops:∀x∈ps.map (·.2),fI g s x (ρ x):=fun x hx=>hρ x (by rw [ho];simpa [Op.operands] using hx)
  unfold iR at h
  split at h
  case h_2=>cases h
  rename_i e hk
  split at h
  case h_2=>cases h
  rename_i sz z hsz hz
  cases hb:(Nat.beq z.length (sz+1)&&Nat.ble (len*(sz+1)) 16777216) with
  |false=>rw [hb] at h;simp at h
  |true=>
    rw [hb] at h
    simp only [zqt] at h
    rw [Bool.and_eq_true] at hb
    have hb1:=Nat.eq_of_beq_eq_true hb.1
    have hb2:=Nat.le_of_ble_eq_true hb.2
    split at h
    case h_2=>cases h
    rename_i cs hcs
    cases hb3:Nat.beq cs.length (len*(sz+1)) with
    |false=>rw [hb3] at h;simp at h
    |true=>
      rw [hb3] at h
      have hb3:=Nat.eq_of_beq_eq_true hb3
      simp only [zqt,oR] at h
      have hu:=cI (aY htt hk).1
      obtain ⟨zv,hz1,hz2⟩:=jY htt hz
      have hzne:z≠[]:=by intro h0;rw [h0] at hb1;simp at hb1
      have hzs:zv.cells.size=sz+1:=by rw [←hb1,←hz2];simp
      let base:Array Value:=(Array.range (len*(sz+1))).map (zv.cells[· %zv.cells.size]!)
      have hbase:base.toList=(List.replicate len z).flatten:=by
        rw [←iG z hzne len,hb1]
        have hze:zv.cells=z.toArray:=by apply Array.toList_inj.1;simp [hz2]
        simp only [base,hze]
        simp [hb1]
      obtain ⟨us,h1,h2⟩:=lL (place':=fun i=>some (i*(sz+1),sz+1)) (fun i x hx=>hx) (ρ:=ρ) ps _ cs base hcs (by rw [hbase,pV];exact RepL.vals _) hops
      have hus:us.size=len*(sz+1):=by rw [←hb3,←h2.length];simp
      obtain ⟨c1,c2,c3⟩:=jX (sz+1) len cs hb3
      have hrun:(execOp ρ (⟨dst, .buildSlice T len ps.toArray,ty,pos,after,none⟩:Oper)).run P w= .ok (.value (.slice (some ⟨w.heap.size,0,none⟩) len len)) (w.alloc (.cells us e (0,0))):=by
        by_cases hl:len*(sz+1)=0
        · have hl0:len=0:=by rcases Nat.mul_eq_zero.1 hl with h|h<;>omega
          subst hl0
          have h1':Instr.fill (fun i=>some (i*(sz+1),sz+1)) base (ps.map fun x=>(x.fst,ρ x.snd))=some us:=h1
          have r0:Array.range 0=(#[]:Array Nat):=rfl
          simp only [base,Nat.zero_mul,r0,List.map_toArray,List.map_nil] at h1'
          simp only [execOp,ho,Instr.buildSlice,Sem.run_bind,run_underlying hu,Result.andThen_ok,aZ (aQ htt hsz).1,Sem.run_pure]
          simp [r0,h1',newRow,newObj]
          try rfl
        · have hgt:¬(len*(sz+1)>2^24):=by omega
          have h1':Instr.fill (fun i=>some (i*(sz+1),sz+1)) base (ps.map fun x=>(x.fst,ρ x.snd))=some us:=h1
          simp only [execOp,ho,Instr.buildSlice,Sem.run_bind,run_underlying hu,Result.andThen_ok,aZ (aQ htt hsz).1,Sem.run_pure,if_neg hgt,if_neg hl,cQ hz1]
          simp only [base] at h1'
          simp [h1',newRow,newObj]
          try rfl
      rw [hrun]
      rw [hk0] at hk
      injection hk with hk
      injection hk with hk
      subst hk
      rw [hs0] at hsz
      injection hsz with hsz'
      have hrows:rows=gJ (sz+1) len cs:=by
        split at h
        · cases h
        · rename_i e;injection h with h;injection h with h;rw [←h,←e]
      have hlen0:len≠0:=fun e=>by
        subst e
        split at h
        · cases h
        · rename_i e;rw [hrows] at hn0;rw [e] at c2;simp at c2
      obtain ⟨id,g',f1,f2,f3,q1,q2,q3,q4⟩:=iA (w0:=w) (o:= .cells us e0 (0,0)) (n:=len) (cap:=len) (o':= .arr e0 rows) hm hlen0 ⟨rfl,rfl,⟨rfl,Nat.le_refl _⟩,rfl⟩ (fun g' id hle i1 i2 i3 _=>by
        simp only [ObjOK]
        refine ⟨w.heap.size,len,by rw [hn0];exact i1, .inr ⟨hlen0,us.toList,[],by omega,by simpa using i2, ?_,fun r hr=> ?_, ?_,i3⟩⟩
        · rw [List.append_nil,Array.length_toList,hus,(aQ htt hs0).2,hsz']
        · rw [(aQ htt hs0).2,hsz'];exact c3 r (hrows▸hr)
        · rw [hrows,c1];exact RepL.mono hle _ _ h2)
      refine ⟨g',_,⟨id,f2,rfl⟩, ?_,q1,q2,q3,q4⟩
      simp only [Rep]
      have hl62:len<2^62:=by
        have:len*1≤len*(sz+1):=Nat.mul_le_mul_left _ (by omega)
        omega
      exact ⟨_,_,_,f3,by omega,by omega,hl62, .inr ⟨hlen0,by simp⟩⟩
end
section
variable {P:Program} {tt:TT} {l:List Oper} {d:Md} {r:List Oper} {s:St} {K:St→Prop} {t:Nat} {ty:TypeId} {pos:String} {after:Array Edge}
theorem atO (pk:Pk P tt) {T e:TypeId} {len sz:Nat} {ps:Array (Nat×Operand)} {rows:List (List PV)} (h:iR tt s T len ps.toList=some (.seq rows)) (hk:tiK tt T=some (.slice e)) (hs:aW tt e=some sz) (hn:rows.length=len) (hf:bX s (opl (.buildSlice T len ps))=true) (hd:Nat.blt t s.n=true) (ht:iO d l r=true)
    (k:∀id',s.st id'=none→Ev P l d r ((s.sst (upd s.st id' (some (.arr e rows)))).pv t (.vec id' sz 0 len)) K):Ev P l d (⟨some t, .buildSlice T len ps,ty,pos,after,none⟩::r) s K:=
  eB (adM pk.htt (ps:=ps.toList) h hk hs hn) (fun z hz=>aX (fun _ _ _ e=>by cases e) hz) hf hd ht fun z hz=>by
    obtain ⟨id',h1,rfl⟩:=hz
    exact k id' h1
end
section
variable {P:Program} {tt:TT} {d:Md} {l:List Oper} {K:St→Prop}
def ahG (tt:TT) (d:Md) (l:List Oper):Nat→List Oper→St→List Prop→List Prop→Rn
  |0,r,s,A,B=> .mk s r A B
  |_,[],s,A,B=> .mk s [] A B
  |n+1,o::r,s,A,B=>match cP d l r with
    |true=>match aaG tt l o s A B with
      |some ⟨s',A',B'⟩=>ahG tt d l n r s' A' B'
      |none=> .mk s (o::r) A B
    |false=> .mk s (o::r) A B
theorem sV (htt:bL P tt):∀(n:Nat) {r:List Oper} {s:St} {A B:List Prop} {s':St} {r':List Oper} {A' B':List Prop},ahG tt d l n r s A B= .mk s' r' A' B'→All A'→All B'→Ev P l d r' s' K→Ev P l d r s K∧All A∧All B
  |0,r,_,_,_,_,_,_,_,e,ha,hb,h=>by
    simp only [ahG] at e
    injection e with e1 e2 e3 e4
    subst e1;subst e2;subst e3;subst e4
    exact ⟨h,ha,hb⟩
  |n+1,[],_,_,_,_,_,_,_,e,ha,hb,h=>by
    simp only [ahG] at e
    injection e with e1 e2 e3 e4
    subst e1;subst e2;subst e3;subst e4
    exact ⟨h,ha,hb⟩
  |n+1,o::r,s,A,B,s',r',A',B',e,ha,hb,h=>by
    simp only [ahG] at e
    split at e
    · rename_i ht
      split at e
      · rename_i s1 A1 B1 hs
        obtain ⟨h1,h2,h3⟩:=sV htt n e ha hb h
        exact qT htt hs h2 h3 ht h1
      · injection e with e1 e2 e3 e4
        subst e1;subst e2;subst e3;subst e4
        exact ⟨h,ha,hb⟩
    · injection e with e1 e2 e3 e4
      subst e1;subst e2;subst e3;subst e4
      exact ⟨h,ha,hb⟩
theorem avI (pk:Pk P tt) (n:Nat) {id:Nat} {ops:Array Oper} {k:List Fr} {Q:Exit→St→Prop} {s s':St} {r':List Oper} {A' B':List Prop} (h:ahG tt .seq ops.toList n ops.toList s [] []= .mk s' r' A' B') (ha:All A') (hb:All B') (kk:Ev P ops.toList .seq r' s' (tH P k Q)):PWp P (.region id ops false) (fG P k Q) s:=
  rZ (Q:=fG P k Q) (l:=Array.toList _) (sV pk.htt n h ha hb kk).1
end
end Go.Abs
