import Derived.Test.YtigmnfepdlbcpaaGreatDoorAbsI
import Derived.Test.YtigmnfepdlbcpaaGreatDoorAbsSort
set_option linter.all false
namespace Go.Abs
open Go
variable{st:aD}{w:World}{g:G}{id k off sz:Nat}{f rows:List (List PV)}{p q q' r:PV}{o':AObj}{x y:Operand}{a ps qs row:List PV}{P:Program}{R:PV->aD->Prop}{xs:List Value}{o:Oper}{args:Array Operand}{i j m:Array TypeId}{c:FuncId}
section
variable{P:Program}
theorem auV{g g':G}{q q':PV}(hl:∀(ps:List PV) vs,RepL g ps vs->RepL g' ps vs)(hq:∀v,Rep g' q v->Rep g' q' v):∀{rows:List (List PV)}{k:Nat}{vs:List Value},rows[k]?=some [q]->RepL g rows.flatten vs->RepL g' (rows.set k [q']).flatten vs
 |[],_,_,h,_=>by simp at h
 |r::rs,0,vs,h,e=>by
  simp only[List.getElem?_cons_zero,Option.some.injEq]at h
  subst h
  simp at e⊢
  have e:=hl _ _ e
  simp only[RepL]at e⊢
  grind
 |r::rs,k+1,vs,h,e=>by
  simp only[List.getElem?_cons_succ]at h
  simp only[List.set_cons_succ,List.flatten_cons]at e⊢
  have key:∀(r:List PV)(vs:List Value),RepL g (r++rs.flatten) vs->RepL g' (r++(rs.set k [q']).flatten) vs:=by
   intro r
   induction r with
   |nil=>intro vs e;exact auV hl hq h e
   |cons p r ih=>
    intro vs e;have a:=hl [p];simp only[List.cons_append,RepL]at e a⊢;obtain⟨v,f,rfl,c,j⟩:=e;have⟨w,i,m,o,u⟩:=a [v] ⟨v,[],rfl,c,rfl⟩
    grind
  exact key r vs e
theorem MemOK.setRow(hm:MemOK P st w g){T:TypeId}(a:st id=some (.arr T rows))(hk:rows[k]?=some [q])(hq:∀v,Rep g q v->Rep g q' v):MemOK P (upd st id (some (.arr T (rows.set k [q'])))) w g where
 heap:=hm.heap
 obj j o e:=by
  by_cases h:j=id
  ·subst h
   rw[aA]at e;injection e with e
   subst e;have:=hm.obj j _ a;obtain⟨b,cap,u,⟨h0,c⟩|⟨c,vs,sp,m,h4,h5,i,p,h8⟩⟩:=this
   ·rw[c]at hk;simp at hk
   ·refine⟨b,cap,by grind, .inr ⟨c,vs,sp,by rw[List.length_set];exact m,h4,h5,λr f=>?_,auV (λ_ _ h=>h) hq hk p,h8⟩⟩
    rcases List.mem_or_eq_of_mem_set f with f|rfl
    ·exact i r f
    ·exact i [q] (List.mem_of_getElem? hk)
  ·rw[aB h]at e;exact hm.obj j o e
 inj j j' b e e':=hm.inj j j' b (by by_cases h:j=id;rw[h,a];simp;(rwa[aB h]at e)) (by by_cases h:j'=id;rw[h,a];simp;(rwa[aB h]at e'))
 lt:=hm.lt
 fmm:=hm.fmm
 fin:=hm.fin
theorem Blocks.set{o:AObj}(f:st id=some o){b:Nat}(h:Blocks (upd st id (some o')) g b):Blocks st g b:=by
 have⟨j,a,c⟩:=h;refine⟨j,?_,c⟩;by_cases e:j=id
 ·grind
 ·rwa[aB e]at a
section
variable{cd:Code}{Q:Exit->St->Prop}{s:St}
theorem adR{T':TypeId}(T sz:Nat)(j:s.st id=some (.arr T' rows))(hk:rows[k]?=some [q])(hq:isEmp q=true)(u:∀f,s.st f=none->PWp P cd Q (s.sst (upd (upd s.st f (some (.arr T []))) id (some (.arr T' (rows.set k [.vec f sz 0 0])))))):PWp P cd Q s:=by
 intro c a w g lam hs;have⟨f,g',A,o,p,m1,x,y,z⟩:=qE hs.mem T;have i:id≠f:=λe=>by grind
 have h:upd s.st _ (some (.arr T [])) id=some _:=(aB i).trans j;have m:=m1.setRow h hk λv hv=>by
  obtain⟨b,rfl⟩:=qO hq hv
  exact p sz b
 exact u _ o c a w _ _ (hs.step m x y λb hb=>z b (hb.set h))
theorem ahN{idL n:Nat}{T T':TypeId}(i:s.st id=some (.arr T' rows))(hk:rows[k]?=some [.vec idL sz 0 n])(hL:s.st idL=some (.arr T f))(hT:P.cellsOf T=sz)(hn:f.length=n)(h:id≠idL)(p:PWp P cd Q (s.sst (upd (upd s.st idL none) id (some (.arr T' (rows.set k [.seq f])))))):PWp P cd Q s:=by
 intro c a w g lam hs;have⟨g',m1,q,u,y,z,A⟩:=kO hs.mem hL hT;have e:upd _ idL none id=some _:=(aB h).trans i;have m:=m1.setRow (q':= .seq f) e hk λv hv=>by
  have:=u 0 n v hv
  grind
 refine p c a w g' lam (hs.step m q ⟨rfl,⟨rfl,znr _⟩,rfl,znr _,λb _ hb=>?_⟩ λb hb=>?_)
 ·grind
 ·have⟨j,o,x⟩:=hb.set e
  exact .inl ⟨j,(dP o).2,by grind⟩
end
section
variable{tt:TT}{l:List Oper}{d:Md}{r:List Oper}{s:St}{K:St->Prop}{t:Nat}{ty:TypeId}{pos:String}{after:Array Edge}{gd:Option (Nat×Bool)}
theorem ldX(pk:Pk P tt){T T':TypeId}{j:Nat}{w:Bool}(hw:bG l ⟨some t, .load T x,ty,pos,after,gd⟩ s=some w)(hx:opd s x=some (.el id sz j off))(hf:All (flagsI s w [x] []))(hd:Nat.blt t s.n=true)(a:s.st id=some (.arr T' rows))(hs:aP tt T'=some sz)(c:rows[j]?=some row)(hp:nJ tt T row off=some p)(ht:zG d l r=true)(k:Ev P l d r (s.put (some t) w (.pv p)) K):Ev P l d (⟨some t, .load T x,ty,pos,after,gd⟩::r) s K:=
 tE hw (λ_=>wW pk.htt rfl hx a hs c hp) (λz hz=>aO (λ_ _ _ e=>by grind) hz) (flagsI.g hf).1 hd ht k
theorem stX(pk:Pk P tt){T T':TypeId}{j:Nat}(hx:opd s x=some (.el id sz j off))(hf:bS s [x,y]=true)(c:s.st id=some (.arr T' rows))(hs:aP tt T'=some sz)(f:rows[j]?=some row)(hp:mI tt s T y row off=some a)(ht:jU d l r=true)(k:Ev P l d r (s.sst (upd s.st id (some (.arr T' (rows.set j a))))) K):Ev P l d (⟨none, .store T x y,ty,pos,after,none⟩::r) s K:=
 eM (uH pk.htt hx c hs f hp) (λz hz=>aO (λ_ _ _ e=>by grind) hz) hf rfl ht λz hz=>by subst hz;exact k
end
end
section
def qJ :Nat->PV->PV->Bool
 |0,_,_=>false
 |n+1,p,q=>match p,q with
  | .val (.int _ _), .seq _| .seq _, .val (.int _ _)| .val (.string _), .seq _| .seq _, .val (.string _)| .val (.bool _), .seq _| .seq _, .val (.bool _)=>true
  | .val (.int _ _), .val (.string _)| .val (.string _), .val (.int _ _)| .val (.bool _), .val (.string _)| .val (.string _), .val (.bool _)=>true
  | .val (.int _ _), .val (.slice _ _ _)| .val (.string _), .val (.slice _ _ _)| .val (.bool _), .val (.slice _ _ _)=>true
  | .seq a, .val (.slice _ n _)=> !Nat.beq a.length n
  | .seq a, .seq b=> !Nat.beq a.length b.length||((a.headD []).zip (b.headD [])).any λx=>qJ n x.1 x.2
  |_,_=>false
theorem yS{g:G}{b:Nat}:∀{ps:List PV}{off:Nat},RepA g b off ps->∀{j:Nat}{p:PV},ps[j]?=some p->∃v,bB g.heap b (off+j)=some v/\off+j<g.fr b/\Rep g p v
 |[],_,_,_,_,h=>by grind
 |q::ps,off,h,0,p,hp=>by
  simp only[RepA]at h
  grind
 |q::ps,off,h,j+1,p,hp=>by
  have:=yS h.2 ‹_›
  grind
theorem ahX{g:G}{b sz:Nat}:∀{rows:List (List PV)}{off:Nat},RepR g b off sz rows->RepA g b off rows.flatten
 |[],_,_=>‹_›
 |r::rs,off,h=>by
  have⟨a,c,e⟩:=h
  have key:∀(r:List PV)(o:Nat),RepA g b o r->RepA g b (o+r.length) rs.flatten->RepA g b o (r++rs.flatten):=by
   intro r
   induction r with
   |nil=>simp
   |cons p r ih=>
    simp only[List.cons_append,RepA]at a⊢
    grind
  exact key r _ c (by rw[a];exact ahX e)
theorem atL{g:G}:∀(n:Nat){p q:PV}{v:Value},qJ n p q=true->Rep g p v->Rep g q v->False
 |0,_,_,_,h,_,_=>by simp[qJ]at h
 |n+1,p,q,v,h,hp,hq=>by
  unfold qJ at h
  split at h
  all_goals first
   |(cases h;done)
   |(simp only[Rep]at hp hq;have⟨_,_,e,_⟩:=hq;rw[e]at hp;cases hp;done)
   |(simp only[Rep]at hp hq;have⟨_,_,e,_⟩:=hp;rw[e]at hq;cases hq;done)
   |(simp only[Rep]at hp hq;rw[hp]at hq;cases hq;done)
   |skip
  ·rename_i a _ m _
   simp only[Rep]at hp hq;have⟨x,cap,k,_⟩:=hp;rw[k]at hq;injection hq with _ h2 _
   rw[h2,Nat.beq_refl]at h;cases h
  rename_i a b
  simp only[Rep]at hp hq
  have⟨x,cap,k,_,_,o⟩:=hp
  have⟨y,cap',c,_,_,u⟩:=hq
  rw[k]at c
  injection c with c e3 e4
  rw[Bool.or_eq_true]at h
  rcases h with h|h
  ·rw[e3,Nat.beq_refl]at h;cases h
  ·have⟨z,hz,hc⟩:=zay.1 h
   cases a with
   |nil=>simp at hz
   |cons r1 t1=>
    cases b with
    |nil=>simp at hz
    |cons r2 t2=>
     rcases o with o|⟨bb,off,sz,E,w⟩
     ·cases o
     rcases u with u|⟨D,B,I,F,A⟩
     ·cases u
     rw[E]at c;rw[F]at c;injection c with c
     injection c with c e5
     subst c;subst e5;simp only[List.headD_cons]at hz;have⟨j,hj,f⟩:=zgo hz;rw[List.getElem_zip]at f;rw[List.length_zip]at hj;simp only[RepR]at w A;have⟨J,k1,_,k2⟩:=yS w.2.1 (zgg (show j<r1.length by omega));have⟨L,i,_,H⟩:=yS A.2.1 (zgg (show j<r2.length by omega));rw[k1]at i;injection i with i
     subst i;rw[<-f]at hc;exact atL n hc k2 H
def aFL(n:Nat)(C R:List PV)(off:Nat):Bool:=(List.range R.length).all λj=>Nat.blt (off+j) C.length&& !qJ n (R[j]!) (C[off+j]!)
def apQ(n:Nat)(C R:List PV):Bool:=R.isEmpty||(List.range C.length).all λoff=> !aFL n C R off
mutual
def apart(n:Nat)(C:List PV):PV->Bool
 | .und| .val _| .emp=>true
 | .agg cs=>tC n C cs
 | .tup cs=>tC n C cs
 | .seq rows=>apQ n C rows.flatten&&aqY n C rows
 |_=>false
def tC(n:Nat)(C:List PV):List PV->Bool
 |[]=>true
 |p::ps=>apart n C p&&tC n C ps
def aqY(n:Nat)(C:List PV):List (List PV)->Bool
 |[]=>true
 |r::rs=>tC n C r&&aqY n C rs
end
section
variable{g:G}{b n:Nat}{C:List PV}
theorem atX{g:G}{b:Nat}:∀{rows:List (List PV)}{off sz:Nat},rows.flatten=[]->RepR g b off sz rows->∀{g':G},RepR g' b off sz rows
 |[],_,_,_,_,_=>‹_›
 |r::rs,off,sz,h,hr,g'=>by
  rw[List.flatten_cons,List.append_eq_nil_iff]at h
  refine⟨hr.1,?_,atX h.2 hr.2.2⟩
  rw[h.1];simp[RepA]
theorem aNP(i:RepA g b 0 C)(hf:g.fr b=C.length){R:List PV}(h:apQ n C R=true)(c:R≠[])(m:RepA g b off R):False:=by
 unfold apQ at h;rw[Bool.or_eq_true]at h;rcases h with h|h
 ·grind
 have k:0<R.length:=List.length_pos_iff.2 c;have a:∀j,j<R.length->off+j<C.length/\qJ n R[j]! C[off+j]! =false:=λj hj=>by
  have⟨v,k1,k2,o⟩:=yS m (zgg hj)
  rw[hf]at k2
  refine⟨k2,?_⟩
  have⟨q,m1,_,p⟩:=yS i (zgg k2)
  rw[Nat.zero_add,k1]at m1
  injection m1 with m1
  subst m1
  rw[getElem!_pos R j hj,getElem!_pos C (off+j) k2,<-znt]
  exactλhc=>atL n hc o p
 have e:=zal.1 h off (zmr.2 (by grind));have f:aFL n C R off=true:=by
  unfold aFL;rw[zal];intro j hj;have⟨k1,k2⟩:=a j (zmr.1 hj);simp_all
 rw[f]at e;cases e
def wP(g:G)(b:Nat):G:={g with fr:=upd g.fr b 0}
mutual
theorem Rep.thaw(j:RepA g b 0 C)(hf:g.fr b=C.length):∀(p:PV)(v:Value),apart n C p=true->Rep g p v->Rep (wP g b) p v
 | .und,_,_,_=>by simp[Rep]
 | .val _,_,_,e=>by simpa only[Rep]using e
 | .emp,_,_,e=>by simpa only[Rep]using e
 | .agg cs,x,h,e=>by
  simp only[apart]at h
  simp only[Rep]at e⊢
  have⟨vs,c,f⟩:=e
  exact⟨vs,c,RepL.thaw j hf cs vs h f⟩
 | .tup cs,x,h,e=>by
  simp only[apart]at h
  simp only[Rep]at e⊢
  have⟨vs,c,f⟩:=e
  exact⟨vs,c,RepL.thaw j hf cs vs h f⟩
 | .seq rows,x,h,e=>by
  simp only[apart,zba]at h
  simp only[Rep]at e⊢
  have⟨a,cap,c,f,m,i⟩:=e
  refine⟨a,cap,c,f,m,?_⟩
  rcases i with i|⟨b',off,sz,i,k⟩
  ·exact .inl i
  ·refine .inr ⟨b',off,sz,i,?_⟩
   by_cases hn:rows.flatten=[]
   ·exact atX hn k
   ·have hb:b'≠b:=λhb=>by
     subst hb;exact aNP j hf h.1 hn (ahX k)
    exact RepR.thaw j hf b' off sz hb rows h.2 k
 | .own ..,_,h,_=>by simp[apart]at h
 | .rp ..,_,h,_=>by simp[apart]at h
 | .fn ..,_,h,_=>by simp[apart]at h
 | .fmap ..,_,h,_=>by simp[apart]at h
 | .ref ..,_,h,_=>by simp[apart]at h
 | .vec ..,_,h,_=>by simp[apart]at h
 | .el ..,_,h,_=>by simp[apart]at h
 | .mref ..,_,h,_=>by simp[apart]at h
 | .yld ..,_,h,_=>by simp[apart]at h
theorem RepL.thaw(c:RepA g b 0 C)(hf:g.fr b=C.length):∀(ps:List PV)(vs:List Value),tC n C ps=true->RepL g ps vs->RepL (wP g b) ps vs
 |[],_,_,e=>by simpa[RepL]using e
 |p::ps,vs,h,e=>by
  simp only[tC,zba]at h
  simp only[RepL]at e⊢
  have⟨v,a,f,i,j⟩:=e
  exact⟨v,a,f,Rep.thaw c hf p v h.1 i,RepL.thaw c hf ps a h.2 j⟩
theorem RepA.thaw(a:RepA g b 0 C)(hf:g.fr b=C.length)(b' off:Nat)(hb:b'≠b):∀(ps:List PV),tC n C ps=true->RepA g b' off ps->RepA (wP g b) b' off ps
 |[],_,_=>by simp[RepA]
 |p::ps,h,e=>by
  simp only[tC,zba]at h
  simp only[RepA]at e⊢
  obtain⟨⟨v,c,f,i⟩,j⟩:=e
  exact⟨⟨v,c,by show off<upd g.fr b 0 b';rw[aB hb];exact f,Rep.thaw a hf p v h.1 i⟩,RepA.thaw a hf b' (off+1) hb ps h.2 j⟩
theorem RepR.thaw(a:RepA g b 0 C)(hf:g.fr b=C.length)(b' off sz:Nat)(hb:b'≠b):∀(rs:List (List PV)),aqY n C rs=true->RepR g b' off sz rs->RepR (wP g b) b' off sz rs
 |[],_,_=>by simp[RepR]
 |r::rs,h,e=>by
  simp only[aqY,zba]at h
  simp only[RepR]at e⊢
  exact⟨e.1,RepA.thaw a hf b' off hb r h.1 e.2.1,RepR.thaw a hf b' (off+sz) sz hb rs h.2 e.2.2⟩
end
end
theorem PC.borrow{f:FuncId}{T:TypeId}{I:List PV}(n:Nat)(H:st id=some (.arr T rows))(hT:P.cellsOf T=sz)(h0:0<rows.length)(hz:FzL id sz rows ps qs)(hw:WkL qs I)(h:PF P f I r)(ha:apart n rows.flatten r=true):PC P f ps st λN S=>N=r/\S=st:=by
 have h:=h λ_=>none;refine⟨h.1,λw g vs hm hr=>?_⟩;have F:=hm.obj id _ H;simp only[ObjOK]at F;obtain⟨b,cap,Z,⟨_,L⟩|⟨L,X,sp,h3,h4,h5,h6,O,h8⟩⟩:=F
 ·rw[L]at h0;simp at h0
 have hbl:Go.Abs.blk g id=some b:=by simp[Go.Abs.blk,Z,L]
 have z:b<w.heap.size:=by have:=bQ h4;rwa[hm.heap]at this
 have E:=O.length;have⟨l1,M,l3⟩:=auU hm H hT Z L h3 h4 h6 O h8;generalize p:({g with fr:=upd g.fr b X.length}:G)=gf at l1 M l3;have A:gf.fr b=X.length:=by subst p;exact aA _ _ _
 have U:∀b',b'≠b->gf.fr b'=g.fr b':=λb' hb=>by subst p;exact aB hb
 have V:gf.heap=g.heap:=by subst p;rfl
 have R:∀b',gf.fm b'↔g.fm b':=λb'=>by subst p;exact Iff.rfl
 have hC:RepA gf b 0 rows.flatten:=ahX (RepR.mk (vs:=X) h6 (RepL.mono M _ _ O) λj v hj=>by
  have D:=(zge.1 hj).1
  rw[Nat.zero_add,A,V]
  refine⟨?_,D⟩
  simp only[bB,h4,List.getElem?_toArray]
  rw[List.getElem?_append_left D];exact hj)
 have hE:∀x y,¬Blocks (λ_=>none) x y:=λx y ⟨j,hj,_⟩=>hj rfl;refine(h.2 w gf vs (l1.sub λ_=> .inl rfl) (hw.rep (FzL.rep l3 hz vs (RepL.mono M _ _ hr)))).mono ?_;rintro e w' ⟨v2,N,st',g',he,⟨rfl,rfl⟩,hrep,hmem,hle,hfr,hb⟩;have i:∀b',b'<w.heap.size->w'.heap[b']?=w.heap[b']?/\g'.fr b'=gf.fr b'/\(g'.fm b'↔gf.fm b'):=λb' a=>hfr.old b' a (hE _ _);have B:g'.fr b=rows.flatten.length:=by rw[(i b z).2.1,A,E]
 have q:Le g (wP g' b):=by
  have J:=M.trans hle;refine⟨J.io,λb'=>?_,J.cell,J.fm⟩;show g.fr b'<=upd g'.fr b 0 b';by_cases e:b'=b
  ·rw[e,h8];exact Nat.zero_le _
  ·rw[aB e];exact J.fr b'
 have u:∀j,st j≠none->Go.Abs.blk (wP g' b) j=Go.Abs.blk g j:=λj hj=>by
  cases hs:st j with
  |none=>exact absurd hs hj
  |some o=>
   have⟨x,hx⟩:=aaN (hm.obj j o hs);unfold Go.Abs.blk;rw[hx,q.io j x hx]
 have c:∀b',b'<w.heap.size->(wP g' b).heap[b']?=g.heap[b']?/\(wP g' b).fr b'=g.fr b'/\((wP g' b).fm b'↔g.fm b'):=λb' a=>by
  have⟨k1,k2,W⟩:=i b' a
  refine⟨?_,?_,W.trans (R b')⟩
  ·show g'.heap[b']?=_
   rw[hmem.heap,k1,hm.heap]
  ·show upd g'.fr b 0 b'=_
   by_cases e:b'=b
   ·rw[e,aA,h8]
   ·rw[aB e,k2,U b' e]
 refine⟨v2,N,st,wP g' b,he,⟨rfl,rfl⟩,Rep.thaw (RepA.mono hle b 0 _ hC) B N v2 ha hrep,⟨hmem.heap,λj o hj=>?_,λj j' b' e Y k k'=>hm.inj j j' b' e Y (by rw[<-u j e];exact k) (by rw[<-u j' Y];exact k'),λb' a=>?_,hmem.fmm,hmem.fin⟩,q,⟨hfr.os,hfr.tape,hfr.output,hfr.size,λb' a _=>?_⟩,λb' ⟨j,j1,j2⟩=> .inl ⟨j,j1,by rw[<-u j j1];exact j2⟩⟩
 ·refine(hm.obj j o hj).keep q λb' a=>c b' (aFq hm (by rw[hj];simp) a)
 ·have m:upd g'.fr b 0 b'≠0:=a
  by_cases e:b'=b
  ·rw[e,aA]at m;exact absurd rfl m
  ·rw[aB e]at m;exact hmem.lt b' m
 ·have⟨k1,k2,W⟩:=c b' a
  exact⟨(i b' a).1,k2,W⟩
theorem PC.freezeZ{f:FuncId}{T:TypeId}(k:st id=some (.arr T rows))(hT:P.cellsOf T=sz)(hz:FzL id sz rows ps qs)(h:PC P f qs (upd st id none) R):PC P f ps st R:=by
 refine⟨h.1,λw g vs hm p=>?_⟩;have⟨o,m1,m,v,B,D,E⟩:=kO hm k hT;have a:∀b,Blocks (upd _ id _) o b->Blocks st g b:=λb ⟨j,u,A⟩=>⟨j,(dP u).2,by grind⟩;refine(h.2 w _ _ m1 (FzL.rep v hz _ (RepL.mono m _ _ p))).mono ?_;rintro e w' ⟨v2,r,st',g',he,hR,hrep,hmem,hle,hfr,hb⟩;refine⟨v2,r,st',g',he,hR,hrep,hmem,m.trans hle,⟨hfr.os,hfr.tape,hfr.output,hfr.size,λb c i=>?_⟩,λb c=>(hb b c).imp (a b) λh=>h⟩;have⟨x,y,z⟩:=hfr.old b c λq=>i (a b q)
 grind
theorem aKT{cd:Code}{Q:Exit->St->Prop}{s:St}(u:Nat){T:TypeId}{cs e:List PV}(hL:s.L u=some (T,cs))(f:WkL cs e)(k:PWp P cd Q (s.setv u T e)):PWp P cd Q s:=λc a w g lam hs=>k c a w g _ (hs.wkVar u hL λ_ h=>f.rep h)
theorem PC.wkArgs{f:FuncId}(hw:WkL ps qs)(h:PC P f qs st R):PC P f ps st R:=⟨h.1,λw g vs hm a=>h.2 w g _ hm (hw.rep a)⟩
end
section
section
variable{P:Program}{tt:TT}{l:List Oper}{d:Md}{r:List Oper}{s:St}{K:St->Prop}{t:Nat}{ty:TypeId}{pos:String}{after:Array Edge}
def asS(f:FuncId)(xs:List Value):Value:= .func (.func f) #[.agg xs.toArray] #[]
theorem mkB{f:FuncId}(hx:opd s x=some (.agg (xs.map .val)))(hf:kE s x=true)(hd:Nat.blt t s.n=true)(ht:cX d l r=true)(k:Ev P l d r (s.pv t (.val (asS f xs))) K):Ev P l d (⟨some t, .makeFunc (.func f) #[x] #[],ty,pos,after,none⟩::r) s K:=
 fQ (.val false true _ rfl hd (λ_ y hy=>by
  have:y=x:=by simpa[Op.operands]using hy
  subst this;exact gB.2 hf) (λ_ st'=>aN λw g ρ hm hρ=>by
  have⟨vs,e,a⟩:=(show Rep g (.agg (xs.map .val)) (ρ x)from hρ x (by simp[Op.operands]) _ (by rw[cA];exact hx))
  obtain rfl:=acC a
  exact⟨asS f vs,by simp[execOp,Instr.makeFunc,asS,e],rfl⟩)) ht k
theorem aEs{ρ:Operand->Value}{f:Operand}{a:FuncId}(ho:o.op= .call ⟨.value f,args,i⟩)(hf:ρ f=asS a xs)(hc:jB P a=true):
    (execOp ρ o).run P w= .ok (.enter a (#[.agg xs.toArray]++args.map ρ)) w:=by
  unfold jB at hc
  split at hc
  · rename_i fn c
    rw[zba]at hc;have e :(fn.name == "runtime.NumGoroutine") = false :=by simpa using hc.1
    have h:fn.body.isNone=false:=by cases hb:fn.body<;>simp_all
    simp only[execOp,ho,resolve,hf,asS,Deferred.ofValue,Sem.run_bind,Sem.run_pure,Result.andThen_ok,invoke,callFunc,run_program,c,e,h,Bool.false_eq_true,if_false];simp
  · cases hc
theorem alA{g:G}:∀(xs:List Value),RepL g (xs.map PV.val) xs
 |[]=>rfl
 |x::xs=>⟨x,xs,rfl,rfl,alA xs⟩
theorem aD4{f:Operand}(ho:o.op= .call ⟨.value f,args,m⟩)(hf:opd s f=some (.val (asS c xs)))(i:pH s args.toList=some ps)(h:PF P c (.agg (xs.map .val)::ps) p):OpV P o s p:=by
 intro w g ρ hm hρ;have k:=hρ f (by rw[ho];simp[Op.operands,Call.operands]) _ hf;have j:=lY i (g:=g) (ρ:=ρ) (λx hx=>hρ x (by rw[ho];simp[Op.operands,Call.operands];exact .inr (by simpa using hx)));have e:=aL k;have⟨hc,a⟩:=h s.st;rw[aEs ho e hc];simp only[OpRes];have:=a w g (.agg xs.toArray::args.toList.map ρ) hm ⟨_,_,rfl,⟨xs,rfl,alA xs⟩,j⟩;rw[show(#[Value.agg xs.toArray]++args.map ρ)=(Value.agg xs.toArray::args.toList.map ρ).toArray from by apply Array.toList_inj.1;simp];refine this.mono ?_;rintro q w' ⟨v,r,st',g',rfl,⟨rfl,rfl⟩,h3,h4,h5,h6,h7⟩;exact⟨v,rfl,g',h3,h4,h5,h6⟩
theorem aNh{f:Operand}{a:FuncId}(hf:opd s f=some (.val (asS a xs)))(i:pH s args.toList=some ps)(h:PF P a (.agg (xs.map .val)::ps) p)(c:bS s (f::args.toList)=true)(hd:Nat.blt t s.n=true)(ht:cX d l r=true)(k:Ev P l d r (s.pv t p) K):Ev P l d (⟨some t, .call ⟨.value f,args,j⟩,ty,pos,after,none⟩::r) s K:=
 xD (λ_=>aD4 rfl hf ((yB _).trans i) h) (λx hx=>aO (λ_ _ _ e=>by cases e) hx) c hd ht k
theorem aJ7{R:aD×PV->Prop}(hg:bG l o s=some true)(hd:iA o s=true)(hf:∀x∈o.op.operands,eQ s x)(h:OpZ P o s R):ZOp P l o s R:=by
 intro j k f hn c a w g lam hs u Q q;have i:∀x∈o.op.operands,opd j x=opd s x/\(eQ j x↔eQ s x):=λx hx=>aBk λt ht=>k t (qG (ht▸hx));unfold yV;rw[kQ hs ((nP k).trans hg)];simp only[if_true];have m:=h w g a.eval (f▸hs.mem) (λx hx p hp=>nN hs ((i x hx).2.2 (hf x hx)) p (by rw[(i x hx).1];exact hp));refine dO m ?_;rintro v w' ⟨g',x,hR,h3,h4,h5,h6,h7⟩;refine q (j.turn o x) _ w' g' lam ⟨x,hR,rfl⟩ ?_;exact(hs.step h4 h5 (f▸h6) (f▸h7)).put (d:=o.dst) (b:=true) (e:= .pv x.2) (λt ht=>by
  have:=rV hd t ht
  show t<j.n
  rw[hn];exact this) h3 λ_ _ e=>by cases e
theorem aLJ{f:Operand}{idl:Nat}{dst:Option Nat}{gd:Option (Nat×Bool)}(hw:bG l ⟨dst, .call ⟨.value f,args,i⟩,ty,pos,after,gd⟩ s=some true)(hf:opd s f=some (.yld idl))(c:pH s args.toList=some ps)(h:PY P idl (ps.map soft) s.st R)(a:bS s (f::args.toList)=true)(hd:iA ⟨dst, .call ⟨.value f,args,i⟩,ty,pos,after,gd⟩ s=true)(ht:jU d l r=true)(k:∀p st',R p st'->Ev P l d r ((s.sst st').put dst true (.pv p)) K):Ev P l d (⟨dst, .call ⟨.value f,args,i⟩,ty,pos,after,gd⟩::r) s K:=
 aNv (R:=λx=>R x.2 x.1) (aJ7 hw hd (λx hx=>kZ a x (aO (λ_ _ _ e=>by cases e) hx)) λw g ρ hm hρ=>aEi (ty:=ty) (pos:=pos) (after:=after) (dst:=dst) (ps.map soft) hf c (WkL.soft ps) h w g ρ hm hρ) ht λz hz=>k _ _ hz
theorem aNC{op:Op}{gd:Option (Nat×Bool)}(p:PV)(hw:bG l ⟨some t,op,ty,pos,after,gd⟩ s=some false)(hd:iA ⟨some t,op,ty,pos,after,gd⟩ s=true)(ht:cX d l r=true)(k:Ev P l d r (s.put (some t) false (.pv p)) K):Ev P l d (⟨some t,op,ty,pos,after,gd⟩::r) s K:=
 fQ (.val false false p hw hd (λe=>by cases e) λe=>by cases e) ht k
end
end
end Go.Abs
