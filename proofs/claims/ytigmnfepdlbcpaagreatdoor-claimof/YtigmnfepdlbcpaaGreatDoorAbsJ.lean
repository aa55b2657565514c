import Derived.Test.YtigmnfepdlbcpaaGreatDoorAbsI
set_option linter.all false
namespace Go.Abs
open Go
variable{e sz ty:TypeId}{x y:Operand}{ok w:Bool}{id j m t:Nat}{p z:PV}{o:Oper}{s:St}{l r:List Oper}{pos:String}{after:Array Edge}{cs:List PV}{b kn kq q:IntKind}{i:Int}{rows:List (List PV)}
section
variable{P:Program}{tt:TT}
theorem aI8(htt:bI P tt){kt:TypeId}(hT:tiK tt kt=some (.arr 2 e))(j:tiK tt e=some (.int .i64))(hs:aP tt e=some 1)(ha:lO tt e=some false)(a b:Int)(q:Bool)(w:World):(Instr.checkKey q 10000 kt (.agg #[.int .i64 a, .int .i64 b])).run P w= .ok () w:=by
 have hu:=jN (aR htt hT).1;have g:=(aQ htt hs).1;have c:∀v,ckV tt 8 e v=true:=λv=>by simp[ckV,j]
 rw[Instr.checkKey];simp only[Sem.run_bind,run_underlying hu,Result.andThen_ok];rw[Std.Legacy.Range.forIn_eq_forIn_range'];rw[show List.range' [:2].start [:2].size [:2].step=[0,1]from rfl];have hp:∀i,i=0\/i=1->∃v,(part e _ (i*1)).run P w= .ok v w/\(Instr.checkKey q 9999 e v).run P w= .ok () w:=λi hi=>by
  have⟨v,h,n⟩:=uE htt (w:=w) (t:=e) (off:=i*1) (xs:= #[.int .i64 a, .int .i64 b]) (d:=8) (by grind)
  exact⟨v,h,apR htt 8 9999 (by omega) e v (c v)⟩
 have⟨v0,k,c0⟩:=hp 0 (.inl rfl);have⟨o,m,c1⟩:=hp 1 (.inr rfl);simp only[List.forIn_cons,List.forIn_nil,Sem.run_bind,aZ g,Result.andThen_ok,k,c0,m,c1,Sem.run_pure]
def axA(k:Int×Int):List Value:=[.int .i64 k.1, .int .i64 k.2]
theorem aAV(htt:bI P tt){kt:TypeId}(hT:tiK tt kt=some (.arr 2 e))(i:tiK tt e=some (.int .i64))(hs:aP tt e=some 1)(ha:lO tt e=some false)(j:∀a b:Int×Int,peq tt 8 kt ((axA a).map .val) ((axA b).map .val)=some (decide (a=b)))(c:rP P 8 kt=true):KeyOK P kt (λk=> .agg (axA k).toArray) (λk=> .agg ((axA k).map .val)) where
 und:=by have hu:=jN (aR htt hT).1;simp[hu]
 chk k b w:=aI8 htt hT i hs ha _ k.2 b w
 now kd _ a b:= .inl (by cases kd<;>rfl)
 eq a b w:=by
  have hu:=jN (aR htt hT).1;have ha:bK P kt=true:=by simp[bK,hu]
  have g:G:=⟨#[],λ_=>none,λ_=>0,λ_=>False⟩;exact lD htt 8 _ (by decide) kt _ _ _ _ _ (j a b) c (tW (by exact⟨_,rfl,adA g _⟩) ha) (tW (by exact⟨_,rfl,adA g _⟩) ha)
 rp k g v h:=by
  obtain⟨vs,rfl,h⟩:=h;rw[yZ h]
 bits k:=afT rfl
section
variable{l:List Oper}{d:Md}{r:List Oper}{s:St}{Kt:St->Prop}{t:Nat}{op:Op}{ty:TypeId}{pos:String}{after:Array Edge}{gd:Option (Nat×Bool)}
variable{K V:Type}[DecidableEq K]{kt:TypeId}{enc:K->Value}{rep:K->PV}{f:V->PV}
theorem aNR(pk:Pk P tt)(hk:KeyOK P kt enc rep){T:TypeId}{es:List (K×V)}{k:K}{v:Option V}(hw:bG l ⟨some t, .lookup T x y ok,ty,pos,after,gd⟩ s=some w)(hx:opd s x=some (.mref id))(hy:opd s y=some (rep k))(hT:tiK tt T=some (.map kt e))(hz:pzv tt e=some z)(hf:All (flagsI s w [x,y] []))(hd:Nat.blt t s.n=true)(a:s.st id=some (.map (aY enc f es)))(ht:zG d l r=true)(hv:cK k es=v)(b:Ev P l d r (s.put (some t) w (.pv (nT z f ok v))) Kt):Ev P l d (⟨some t, .lookup T x y ok,ty,pos,after,gd⟩::r) s Kt:=
 lkM pk hk hw hx hy hT hz hf hd a ht (hv.symm▸b)
theorem aNl(pk:Pk P tt)(hk:KeyOK P kt enc rep){T:TypeId}{es:List (K×V)}{k:K}{v:Option V}(hw:bG l ⟨some t, .lookup T x y ok,ty,pos,after,gd⟩ s=some w)(hx:opd s x=some (.fmap (aY enc f es)))(hy:opd s y=some (rep k))(hT:tiK tt T=some (.map kt e))(hz:pzv tt e=some z)(hf:All (flagsI s w [x,y] []))(hd:Nat.blt t s.n=true)(ht:cX d l r=true)(hv:cK k es=v)(a:Ev P l d r (s.put (some t) w (.pv (nT z f ok v))) Kt):Ev P l d (⟨some t, .lookup T x y ok,ty,pos,after,gd⟩::r) s Kt:=
 dC hw (λ_ _=>auH pk.htt hk rfl hx hy hT hz) (λz hz=>aO (λ_ _ _ e=>by grind) hz) (flagsI.g hf).1 hd ht (hv.symm▸a)
end
theorem aFi(htt:bI P tt){T kt:TypeId}{es:List (Value×PV)}(ho:o.op= .call ⟨.builtin .len, #[x], #[T]⟩)(hx:opd s x=some (.fmap es))(hT:tiK tt T=some (.map kt e)):OpV P o s (.val (.int .i64 es.length)):=by
 refine aN λw g ρ hm hρ=>?_;have j:=hρ x (by rw[ho];simp[Op.operands,Call.operands]) _ hx;have hu:=xJ (aR htt hT).1;have⟨b,h,a,c,k,i,h4⟩:=j;rw[hm.heap]at i;have hl:=h4.len;refine⟨.int _ _,cE ho ?_,rfl⟩;simp[builtin,Builtin.len_,run_underlying hu,c,MapKept.run_getObj_map i,goInt,<-hl]
theorem lnF{d:Md}{Kt:St->Prop}{gd:Option (Nat×Bool)}(pk:Pk P tt){T kt:TypeId}{es:List (Value×PV)}(hw:bG l ⟨some t, .call ⟨.builtin .len, #[x], #[T]⟩,ty,pos,after,gd⟩ s=some w)(hx:opd s x=some (.fmap es))(hT:tiK tt T=some (.map kt e))(hf:All (flagsI s w [x] []))(hd:Nat.blt t s.n=true)(ht:cX d l r=true)(a:Ev P l d r (s.put (some t) w (.pv (.val (.int .i64 es.length)))) Kt):Ev P l d (⟨some t, .call ⟨.builtin .len, #[x], #[T]⟩,ty,pos,after,gd⟩::r) s Kt:=
 dC hw (λ_ _=>aFi pk.htt rfl hx hT) (λz hz=>aO (λ_ _ _ e=>by grind) hz) (flagsI.g hf).1 hd ht a
end
section
variable{P:Program}{tt:TT}
theorem aGV(htt:bI P tt){T:TypeId}(ho:o.op= .index T x y)(hx:opd s x=some (.agg cs))(hy:opd s y=some (.val (.int q i)))(hT:tiK tt T=some (.arr m e))(hs:aP tt e=some 1)(ha:lO tt e=some false)(hi:i=j)(hj:j<m)(hp:cs[j]?=some p):OpV P o s p:=by
 refine aN λw g ρ _ hρ=>?_;have u:=hρ x (by rw[ho];simp[Op.operands]) _ hx;have c:=aL (hρ y (by rw[ho];simp[Op.operands]) _ hy);have hu:=jN (aR htt hT).1;have b:=(aQ htt hs).1;have a:=cH htt ha;have⟨vs,hv,n⟩:=u;have⟨v,h,k⟩:=n.get hp;subst hi;refine⟨v,?_,k⟩;have h0:(0:Int)<=(j:Int)/\(j:Int)<(m:Int):=by omega
 simp only[execOp,ho,hv,c,Instr.index,asIntOf,Sem.run_bind,Sem.run_pure,Result.andThen_ok,run_underlying hu];rw[zp h0];simp only[Sem.run_bind,aZ b,Nat.mul_one];simp[part,eB a.1 (by grind),h]
section
variable{l:List Oper}{d:Md}{r:List Oper}{s:St}{Kt:St->Prop}{t:Nat}{op:Op}{ty:TypeId}{pos:String}{after:Array Edge}{gd:Option (Nat×Bool)}
theorem ixV(pk:Pk P tt){T:TypeId}(j:Nat)(hw:bG l ⟨some t, .index T x y,ty,pos,after,gd⟩ s=some w)(hx:opd s x=some (.agg cs))(hy:opd s y=some (.val (.int b i)))(hT:tiK tt T=some (.arr m e))(hs:aP tt e=some 1)(ha:lO tt e=some false)(hf:All (flagsI s w [x,y] []))(hd:Nat.blt t s.n=true)(hi:w=true->i=j)(hj:w=true->j<m)(hp:w=true->cs[j]?=some p)(ht:cX d l r=true)(k:Ev P l d r (s.put (some t) w (.pv p)) Kt):Ev P l d (⟨some t, .index T x y,ty,pos,after,gd⟩::r) s Kt:=
 dC hw (λa st'=>aGV pk.htt rfl ((cA x).trans hx) ((cA y).trans hy) hT hs ha (hi a) (hj a) (hp a)) (λz hz=>aO (λ_ _ _ e=>by grind) hz) (flagsI.g hf).1 hd ht k
variable{K V:Type}[DecidableEq K]{kt:TypeId}{enc:K->Value}{rep:K->PV}{f:V->PV}
theorem lkD(pk:Pk P tt)(hk:KeyOK P kt enc rep){T:TypeId}{z n:V}{es:List (K×V)}{k:K}(hw:bG l ⟨some t, .lookup T x y false,ty,pos,after,gd⟩ s=some w)(hx:opd s x=some (.mref id))(hy:opd s y=some (rep k))(hT:tiK tt T=some (.map kt e))(hz:pzv tt e=some (f z))(hf:All (flagsI s w [x,y] []))(hd:Nat.blt t s.n=true)(b:s.st id=some (.map (aY enc f es)))(ht:zG d l r=true)(hn:(cK k es).getD z=n)(a:Ev P l d r (s.put (some t) w (.pv (f n))) Kt):Ev P l d (⟨some t, .lookup T x y false,ty,pos,after,gd⟩::r) s Kt:=by
 refine lkM pk hk hw hx hy hT hz hf hd b ht ?_
 subst hn
 cases h:cK k _ with
 |none=>rw[h]at a;exact a
 |some v=>rw[h]at a;exact a
theorem aOs(pk:Pk P tt)(hk:KeyOK P kt enc rep){T:TypeId}{z n:V}{es:List (K×V)}{k:K}(hw:bG l ⟨some t, .lookup T x y false,ty,pos,after,gd⟩ s=some w)(hx:opd s x=some (.fmap (aY enc f es)))(hy:opd s y=some (rep k))(hT:tiK tt T=some (.map kt e))(hz:pzv tt e=some (f z))(hf:All (flagsI s w [x,y] []))(hd:Nat.blt t s.n=true)(ht:cX d l r=true)(hn:(cK k es).getD z=n)(a:Ev P l d r (s.put (some t) w (.pv (f n))) Kt):Ev P l d (⟨some t, .lookup T x y false,ty,pos,after,gd⟩::r) s Kt:=by
 refine aNl pk hk hw hx hy hT hz hf hd ht rfl ?_
 subst hn
 cases h:cK k _ with
 |none=>rw[h]at a;exact a
 |some v=>rw[h]at a;exact a
end
end
section
variable{P:Program}{tt:TT}
theorem aIU(htt:bI P tt){kt:TypeId}(hT:tiK tt kt=some (.arr 4 e))(m:tiK tt e=some (.int .i64))(hs:aP tt e=some 1)(ha:lO tt e=some false)(a b c d:Int)(q:Bool)(w:World):(Instr.checkKey q 10000 kt (.agg #[.int .i64 a, .int .i64 b, .int .i64 c, .int .i64 d])).run P w= .ok () w:=by
 have hu:=jN (aR htt hT).1;have h:=(aQ htt hs).1;have g:∀v,ckV tt 8 e v=true:=λv=>by simp[ckV,m]
 rw[show(10000:Nat)=9999+1 from rfl,Instr.checkKey];simp only[Sem.run_bind,run_underlying hu,Result.andThen_ok];rw[Std.Legacy.Range.forIn_eq_forIn_range'];rw[show List.range' [:4].start [:4].size [:4].step=[0,1,2,3]from rfl];have hp:∀i,i=0\/i=1\/i=2\/i=3->∃v,(part e _ (i*1)).run P w= .ok v w/\(Instr.checkKey q 9999 e v).run P w= .ok () w:=λi hi=>by
  have⟨v,k,x⟩:=uE htt (w:=w) (t:=e) (off:=i*1) (xs:= #[.int .i64 a, .int .i64 b, .int .i64 c, .int .i64 d]) (d:=8) (by grind)
  exact⟨v,k,apR htt 8 9999 (by omega) e v (g v)⟩
 have⟨v0,n,c0⟩:=hp 0 (.inl rfl);have⟨y,o,c1⟩:=hp 1 (.inr (.inl rfl));have⟨z,p,c2⟩:=hp 2 (.inr (.inr (.inl rfl)));have⟨A,u,j⟩:=hp 3 (.inr (.inr (.inr rfl)));simp only[List.forIn_cons,List.forIn_nil,Sem.run_bind,aZ h,Result.andThen_ok,n,c0,o,c1,p,c2,u,j,Sem.run_pure]
def afO(k:Int×Int×Int×Int):List Value:=[.int .i64 k.1, .int .i64 k.2.1, .int .i64 k.2.2.1, .int .i64 k.2.2.2]
theorem azB(htt:bI P tt){kt:TypeId}(hT:tiK tt kt=some (.arr 4 e))(i:tiK tt e=some (.int .i64))(hs:aP tt e=some 1)(ha:lO tt e=some false)(j:∀a b:Int×Int×Int×Int,peq tt 8 kt ((afO a).map .val) ((afO b).map .val)=some (decide (a=b)))(c:rP P 8 kt=true):KeyOK P kt (λk=> .agg (afO k).toArray) (λk=> .agg ((afO k).map .val)) where
 und:=by have hu:=jN (aR htt hT).1;simp[hu]
 chk k b w:=aIU htt hT i hs ha k.1 k.2.1 _ k.2.2.2 b w
 now kd _ a b:= .inl (by cases kd<;>rfl)
 eq a b w:=by
  have hu:=jN (aR htt hT).1;have ha:bK P kt=true:=by simp[bK,hu]
  have g:G:=⟨#[],λ_=>none,λ_=>0,λ_=>False⟩;exact lD htt 8 _ (by decide) kt _ _ _ _ _ (j a b) c (tW (by exact⟨_,rfl,adA g _⟩) ha) (tW (by exact⟨_,rfl,adA g _⟩) ha)
 rp k g v h:=by
  obtain⟨vs,rfl,h⟩:=h;rw[yZ h]
 bits k:=afT rfl
theorem axI(htt:bI P tt){dst:Option Nat}{T T2:TypeId}{sz:Nat}(B:Nat)(hx:opd s x=some (.val (.slice none 0 0)))(hy:opd s y=some (.val (.int kq (m:Nat))))(hk:tiK tt T=some (.slice e))(I:P.underlying T2=some (.int kn))(hs:aP tt e=some sz)(hz:(tiZ tt e).map List.length=some sz)(Q:0<m)(O:P.bytesOf e=B)(hb:m*B<=140737488355328)(F:m<2^62)(C:0<sz):
  OpZ P ⟨dst, .call ⟨.builtin .append, #[x,y], #[T,T2]⟩,ty,pos,after,none⟩ s λz=>∃b,s.st b=none/\z=(upd s.st b (some (.arr e (aX m sz))), .vec b sz 0 m):=by
 intro w g ρ hm hρ
 have rx:=aL (hρ x (by simp[Op.operands,Call.operands]) _ hx)
 have ry:=aL (hρ y (by simp[Op.operands,Call.operands]) _ hy)
 have hu:=cD (aR htt hk).1
 have⟨k1,k2⟩:=aQ htt hs
 cases a:P.info? e with
 |none=>rw[a]at k1;cases k1
 |some ii=>
  have J:ii.size=sz:=by rw[a]at k1;simpa using k1
  have G:ii.bytes=B:=by rw[<-O];simp[Program.bytesOf,a]
  subst J;subst G;cases i:tiZ tt e with
  |none=>rw[i]at hz;cases hz
  |some zl=>
   rw[i]at hz;simp only[Option.map_some,Option.some.injEq]at hz;have⟨z,z1,z2⟩:=nH htt i;have H:ii.zero=some z:=by rw[a]at z1;simpa using z1
   have E:z.cells.size=ii.size:=by rw[<-hz,<-z2];simp
   have k:0<0+m:=by omega
   have j:=growslice_fits k (show(0+m)*ii.bytes<=140737488355328 by simpa using hb);have u:(Builtin.firstCells ii.size 0 (.slice none 0 0)).run P w.drew= .ok ([]:List Value).toArray w.drew:=by simp[Builtin.firstCells]
   have h:=Go.Lib.run_append_grow_zeros w T T2 ty e ii z kq kn hu I a H none 0 0 [] u m (by omega) C k (by omega) (by omega) j
   let c:=grownCap w (0+m) 0 e
   have q:m<=c:=by show _<=grownCap _ _ _ _;simp only[grownCap,Question.cut];omega
   have p:(Builtin.zeroCells z.cells (c-(0+m))).size=(c-m)*ii.size:=by rw[size_zeroCells,E];simp
   have hq:(Builtin.zeroCells z.cells (c-(0+m))).toList.length=(c-m)*ii.size:=by rw[<-p];exact Array.length_toList
   have v:(Builtin.zeroCells z.cells m).toList.length=m*ii.size:=by rw[Array.length_toList,size_zeroCells,E]
   have D:(aX m ii.size).length=m:=by unfold aX;rw[List.length_replicate]
   have⟨b,g',f1,M,N,m1,X,Y,Z⟩:=nX (w0:=w.drew) (o:= .cells (([]:List Value).toArray++Builtin.zeroCells z.cells m++Builtin.zeroCells z.cells (c-(0+m))) e) (n:=m) (cap:=c) (o':= .arr e (aX m ii.size)) hm (by omega) ⟨rfl,rfl,⟨rfl,Nat.le_succ _⟩,rfl⟩ (λg' id R S U W _=>by
    simp only[ObjOK]
    refine⟨w.heap.size,c,by rw[D];exact S, .inr ⟨by omega,(Builtin.zeroCells z.cells m).toList,(Builtin.zeroCells z.cells (c-(0+m))).toList,by rw[D];exact q,?_,?_,λr L=>?_,?_,W⟩⟩
    ·rw[U];congr 2;apply Array.toList_inj.1;simp
    ·rw[zla,v,hq,k2,<-Nat.add_mul];congr 1;omega
    ·rw[k2];unfold aX at L;rw[List.eq_of_mem_replicate L,List.length_replicate]
    ·rw[pL,<-v];exact pT _)
   have A:(execOp ρ (⟨dst, .call ⟨.builtin .append, #[x,y], #[T,T2]⟩,ty,pos,after,none⟩:Oper)).run P w=_:=cE rfl (by
    simp only[builtin,List.map_toArray,zmp,List.map_nil]
    rw[rx,ry]
    simp only[Sem.run_bind,h,Result.andThen_ok,Sem.run_pure];rfl)
   rw[A];refine⟨g',_,⟨b,M,rfl⟩,?_,m1,X,Y,Z⟩;simp only[Rep];exact⟨_,_,_,N,by omega,q,F, .inr ⟨by omega,by simp[c]⟩⟩
theorem SI.freezeT{c:Ctx}{a:Act}{w:World}{g:G}{lam:Nat->Nat}(hs:SI P c s a w g lam)(u:Nat){sz:Nat}{T:TypeId}{q:List (List PV)}(hx:s.env u=(true, .pv (.vec id sz 0 m)))(i:s.st id=some (.arr T rows))(hT:P.cellsOf T=sz)(hq:rows.take m=q):
  ∃g',SI P c ((s.sst (upd s.st id none)).pv u (.seq q)) a w g' lam:=by
 subst hq
 have b:∀t,((s.sst (upd s.st id none)).pv u (.seq (rows.take m))).env t=upd s.env u _ t:=λ_=>rfl
 refine hs.subF i hT ⟨λt=>?_,λt T ds e=>⟨ds,e,FzL.refl _⟩,zsr _,rfl,rfl,λt w' v off e=>?_,hs.adL⟩
 ·rw[b]
  by_cases h:t=u
  ·subst h;rw[aA];exact .inr (.inr ⟨_,_,hx,rfl, .vec⟩)
  ·rw[aB h];simp
 ·rw[b]at e
  by_cases h:t=u
  ·subst h;rw[aA]at e;cases e
  ·rw[aB h]at e;exact hs.ad t _ v _ e
theorem atK{e:Code}{Q:Exit->St->Prop}(u:Nat){sz:Nat}{T:TypeId}{q:List (List PV)}(hx:s.env u=(true, .pv (.vec id sz 0 m)))(b:s.st id=some (.arr T rows))(hT:P.cellsOf T=sz)(hq:rows.take m=q)(k:PWp P e Q ((s.sst (upd s.st id none)).pv u (.seq q))):PWp P e Q s:=by
 intro c a w g lam hs;have⟨g',h⟩:=hs.freezeT u hx b hT hq;exact k c a w _ _ h
theorem aIn(htt:bI P tt){T:TypeId}(ho:o.op= .call ⟨.builtin .cap, #[x], #[T]⟩)(hx:opd s x=some (.val (.slice none 0 0)))(hk:tiK tt T=some (.slice e)):OpV P o s (.val (.int .i64 0)):=by
 refine aN λw g ρ hm hρ=>?_;have a:=aL (hρ x (by rw[ho];simp[Op.operands,Call.operands]) _ hx);have hu:=cD (aR htt hk).1;refine⟨.int _ 0,cE ho ?_,rfl⟩;simp[builtin,Builtin.cap_,run_underlying hu,a,goInt]
theorem aIH(htt:bI P tt){T:TypeId}(ho:o.op= .slice T x none (some y) none)(hx:opd s x=some (.val (.slice none 0 0)))(hy:opd s y=some (.val (.int .i64 0)))(hk:tiK tt T=some (.slice e))(hs:aP tt e=some sz):OpV P o s (.val (.slice none 0 0)):=by
 refine aN λw g ρ hm hρ=>?_;have b:=aL (hρ x (by rw[ho];simp[Op.operands]) _ hx);have hb:∀z,(none)=some z\/some y=some z->kC g s z (ρ z):=λz hz=>by
  rcases hz with hz|hz
  ·cases hz
  ·cases hz
   exact hρ y (by rw[ho];simp[Op.operands])
 have hu:=cD (aR htt hk).1;have a:(Instr.sliceBounds true 0 0 none (some (ρ y)) none).run P w= .ok (0,0,0) w:=kU (P:=P) (w:=w) (sl:=true) (len:=0) (cap:=0) (lo:=none) (i:=0) (j:=0) bZ (bC hy rfl) hb (znr 0) (znr 0);refine⟨.slice none 0 0,?_,by simp[Rep]⟩;simp only[execOp,ho,Instr.sliceAt,Instr.slice,b,Sem.run_bind,Sem.run_pure,Result.andThen_ok,run_underlying hu,aZ (aQ htt hs).1,Option.map_none,Option.map_some,a];simp
section
variable{l:List Oper}{d:Md}{r:List Oper}{s:St}{K:St->Prop}{t:Nat}{ty:TypeId}{pos:String}{after:Array Edge}{gd:Option (Nat×Bool)}
theorem aOC(pk:Pk P tt){T:TypeId}(hw:bG l ⟨some t, .call ⟨.builtin .cap, #[x], #[T]⟩,ty,pos,after,gd⟩ s=some w)(hx:opd s x=some (.val (.slice none 0 0)))(hk:tiK tt T=some (.slice e))(hf:All (flagsI s w (opl (.call ⟨.builtin .cap, #[x], #[T]⟩)) []))(hd:Nat.blt t s.n=true)(ht:cX d l r=true)(k:Ev P l d r (s.put (some t) w (.pv (.val (.int .i64 0)))) K):Ev P l d (⟨some t, .call ⟨.builtin .cap, #[x], #[T]⟩,ty,pos,after,gd⟩::r) s K:=
 dC hw (λ_ st'=>aIn pk.htt rfl ((cA x).trans hx) hk) (λz hz=>aO (λ_ _ _ e=>by grind) hz) (flagsI.g hf).1 hd ht k
theorem slN(pk:Pk P tt){T:TypeId}(hw:bG l ⟨some t, .slice T x none (some y) none,ty,pos,after,gd⟩ s=some w)(hx:opd s x=some (.val (.slice none 0 0)))(hy:opd s y=some (.val (.int .i64 0)))(hk:tiK tt T=some (.slice e))(hs:aP tt e=some sz)(hf:All (flagsI s w (opl (.slice T x none (some y) none)) []))(hd:Nat.blt t s.n=true)(ht:cX d l r=true)(k:Ev P l d r (s.put (some t) w (.pv (.val (.slice none 0 0)))) K):Ev P l d (⟨some t, .slice T x none (some y) none,ty,pos,after,gd⟩::r) s K:=
 dC hw (λ_ st'=>aIH pk.htt rfl ((cA x).trans hx) ((cA y).trans hy) hk hs) (λz hz=>aO (λ_ _ _ e=>by grind) hz) (flagsI.g hf).1 hd ht k
theorem apN(pk:Pk P tt){T T2:TypeId}{sz:Nat}(B:Nat)(hx:opd s x=some (.val (.slice none 0 0)))(hy:opd s y=some (.val (.int kq (m:Nat))))(hk:tiK tt T=some (.slice e))(i:P.underlying T2=some (.int kn))(hs:aP tt e=some sz)(hz:(tiZ tt e).map List.length=some sz)(hf:bS s [x,y]=true)(hd:Nat.blt t s.n=true)(g:0<m)(j:P.bytesOf e=B)(hb:m*B<=140737488355328)(c:m<2^62)(b:0<sz)(ht:jU d l r=true)(k:∀a,s.st a=none->Ev P l d r ((s.sst (upd s.st a (some (.arr e (aX m sz))))).pv t (.vec a sz 0 m)) K):Ev P l d (⟨some t, .call ⟨.builtin .append, #[x,y], #[T,T2]⟩,ty,pos,after,none⟩::r) s K:=by
 refine eM (axI pk.htt B hx hy hk i hs hz g j hb c b) (λz hz=>aO (λ_ _ _ e=>by grind) hz) hf hd ht λz hz=>?_
 obtain⟨a,h,rfl⟩:=hz
 exact k _ h
theorem ldZ(pk:Pk P tt){T:TypeId}(h:ahS tt s (.load T x)=some p)(hf:bS s (opl (.load T x))=true)(hd:Nat.blt t s.n=true)(ht:jU d l r=true)(k:Ev P l d r ((s.sst s.st).pv t p) K):Ev P l d (⟨some t, .load T x,ty,pos,after,none⟩::r) s K:=
 eM (λw g ρ hm hρ=>(xK pk.htt h w g _ hm hρ).mono λv w' ⟨g',c,i,a,h4⟩=>⟨g',(s.st,p),rfl,c,i,a,h4,λb hb=> .inl ((kM hm a b).1 hb)⟩) (λz hz=>aO (λ_ _ _ e=>by grind) hz) hf hd ht λz hz=>by subst hz;exact k
end
end
end Go.Abs
