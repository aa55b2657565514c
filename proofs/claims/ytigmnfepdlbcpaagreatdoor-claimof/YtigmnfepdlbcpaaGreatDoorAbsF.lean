import Derived.Test.YtigmnfepdlbcpaaGreatDoorAbsC
import Derived.Carry
import Derived.ChangeArms
import Derived.ChangeSame
import Derived.WalkKit
import Derived.ProofKit
import Derived.OpenShut
import Derived.JoinedCond
set_option linter.all false
namespace Go.Abs
open Go Go.ChangeShapes Go.WideShapes Go.RowKit
variable{W w:World}{N fuel m n:Nat}{cs:List Value}{α β γ:Type}{e t tb:TypeId}{c q:List MemPlace}
def G0(w:World):G where
 heap:=w.heap
 io:=λ_=>none
 fr:=λb=>match w.heap[b]? with|some (.cells c _ _)=>c.size|_=>0
 fm:=λb=>∃e c,w.heap[b]?=some (.map e c)/\aeV e.toList c
def st0 :aD:=λ_=>none
theorem aN4(P:Program)(w:World):MemOK P st0 w (G0 w) where
 heap:=rfl
 obj:=λ_ _ e=>by cases e
 inj:=λ_ _ _ e=>absurd rfl e
 lt:=λb h=>by
  simp only[G0]at h
  grind
 fmm:=λ_ h=>h
 fin:=⟨0,λ_ _=>rfl⟩
inductive All2 {α β:Type} (R:α->β->Prop):List α->List β->Prop
 |nil:All2 R [] []
 |cons {a:α} {b:β} {as:List α} {bs:List β} (h:R a b) (t:All2 R as bs):All2 R (a::as) (b::bs)
def bU(P:Program)(N:Nat):Nat->TypeId->List PV->Prop
 |0,_,_=>False
 |n+1,t,ps=>match P.underlying t with
  |some .bool=>∃b,ps=[.val (.bool b)]
  |some (.int k)=>∃x,ps=[.val (.int k x)]/\(Lit.int k x).wf=true
  |some .string=>∃s,ps=[.val (.string s)]/\s.size<=N
  |some (.slice e)=>∃rows,ps=[.seq rows]/\(rows.length<=N/\rows.length*P.bytesOf e<=N)/\∀r∈rows,bU P N n e r
  |some (.pointer e)=>ps=[.val (.pointer none)]\/(∃cs,ps=[.rp cs]/\bU P N n e cs)\/(P.cellsOf e=0/\ps.length=1)
  |some (.struct fs)=>∃a:List (List PV),ps=a.flatten/\All2 (λf r=>bU P N n f.type r) fs.toList a
  |some (.array m e)=>∃a:List (List PV),ps=a.flatten/\a.length=m/\∀r∈a,bU P N n e r
  |_=>True
structure Bnd (P:Program) {H:Type} (B:TypeId->DataW H->Prop) (N:Nat):Prop where
 str:∀t b,P.underlying t=some .string->B t (.lit (.string b))->b.length<=N
 slice:∀t e ds sp,t<P.types.size->P.underlying t=some (.slice e)->B t (.slice ds sp)->(ds.length<=N/\ds.length*P.bytesOf e<=N)/\∀d∈ds,B e d
 ptr:∀t e d,P.underlying t=some (.pointer e)->B t (.ptr d)->B e d
 struct:∀t fs ds,P.underlying t=some (.struct fs)->B t (.agg ds)->∀(i:Nat) f d,fs.toList[i]?=some f->ds[i]?=some d->B f.type d
 array:∀t m e ds,P.underlying t=some (.array m e)->B t (.agg ds)->∀d∈ds,B e d
section
variable{P:Program}{H:Type}{enc:TypeId×Value->H}
theorem agV{a:Addr}(h:w.cells? 0 a n=some cs)(hn:0<n):
  a.spot=none/\cs.length=n/\∀i v,cs[i]?=some v->bB w.heap a.block (a.off+i)=some v/\a.off+i<(G0 w).fr a.block:=by
 have⟨_,f,j⟩:=World.cells?_some h
 have key:∀i v,cs[i]?=some v->w.cell? (a.add i)=some v:=λi v hv=>by grind
 have d:a.spot=none:=by
  obtain⟨v,hv⟩:∃v,cs[0]?=some v:=⟨cs[0]'(by omega),by simp⟩;have:=key 0 v hv;simp only[Addr.add,if_true,World.cell?]at this;split at this
  ·simp_all
  ·cases this
 refine⟨d,f,λi v hv=>?_⟩
 have:=key i v hv
 have⟨b,off,e⟩:=a
 simp only at d
 subst d
 rw[dA]at this
 simp only[World.cell?]at this
 split at this
 ·rename_i c T g hb
  simp at this;refine⟨by simp only[bB,hb];exact this,?_⟩;simp only[G0,hb];exact(Array.getElem?_eq_some_iff.1 this).1
 ·cases this
theorem aoV{g:G}{b:Nat}:∀{ps:List PV}{off:Nat}{a:List Value},RepL g ps a->(∀j v,a[j]?=some v->bB g.heap b (off+j)=some v/\off+j<g.fr b)->RepA g b off ps
 |[],_,_,_,_=>by simp[RepA]
 |p::ps,off,a,h,hc=>by
  obtain⟨v,e,rfl,c,d⟩:=h
  refine⟨⟨v,by simpa using(hc 0 v rfl).1,by simpa using(hc 0 v rfl).2,c⟩,aoV d λj x hj=>?_⟩
  have:=hc (j+1) x ‹_›
  grind
theorem abO{g:G}:∀{pss:List (List PV)}{vss:List (List Value)},All2 (λp v=>RepL g p v) pss vss->RepL g pss.flatten vss.flatten
 |_,_, .nil=>rfl
 |_,_, .cons h t=>by exact h.append (abO t)
theorem uS{α:Type}:∀(ns:List Nat)(cs:List α)(off:Nat),cs.length=off+ns.sum->((List.range ns.length).map λi=>(cs.drop (off+(ns.take i).sum)).take (ns.getD i 0)).flatten=cs.drop off
 |[],cs,off,h=>by simp at h⊢;omega
 |n::ns,cs,off,h=>by
  simp at h
  have b:=uS ns cs (off+n) (by omega)
  rw[zlc,List.range_succ_eq_map,zmp,List.flatten_cons,List.map_map]
  have a:((λi=>(cs.drop (off+((n::ns).take i).sum)).take ((n::ns).getD i 0))∘Nat.succ)=λi=>(cs.drop (off+n+(ns.take i).sum)).take (ns.getD i 0):=by grind
  rw[a,b]
  simp
  rw[<-List.drop_drop]
  exact List.take_append_drop _ _
theorem All2.length{R:α->β->Prop}{as:List α}{bs:List β}(h:All2 R as bs):as.length=bs.length:=by
 induction h with
 |nil=>rfl
 |cons _ _ ih=>simp[ih]
theorem All2.map_left{R:γ->β->Prop}{f:α->γ}{as:List α}{bs:List β}(h:All2 (λa b=>R (f a) b) as bs):All2 R (as.map f) bs:=by
 induction h with
 |nil=>exact .nil
 |cons h _ ih=>exact .cons h ih
theorem azM{x:DataW H×List MemPlace}(ht:P.underlying t=some (.array m e))(h:DataW.trod enc P w 0 (λ_=>true) true fuel t cs=some x):
  ∃n ds,fuel=n+1/\cs.length=P.cellsOf t/\x.1= .agg ds/\∀i,i<m->∃y,DataW.trod enc P w 0 (λ_=>true) true n e ((cs.drop (i*P.cellsOf e)).take (P.cellsOf e))=some y/\y.1∈ds:=by
 cases fuel with
 |zero=>trivial
 |succ n=>
  unfold DataW.trod at h;split at h<;>simp_all;have⟨hl,xs,hp,hd⟩:=h;refine⟨xs.map (·.1),by rw[<-hd],?_⟩;intro i hi;have:=mapM_some_get hp i i (by simp[hi]);have a:=mapM_some_length hp
  grind
theorem aeS{α β:Type}{R:α->β->Prop}:∀{as:List α}{bs:List β},as.length=bs.length->(∀(i:Nat) a b,as[i]?=some a->bs[i]?=some b->R a b)->All2 R as bs
 |[],[],_,_=> .nil
 |a::as,b::bs,h,hr=> .cons (hr 0 a b rfl rfl) (aeS (by grind) λi x y hx hy=>hr (i+1) x y ‹_› ‹_›)
theorem tJ(n:Nat)(Q:Nat->α->Prop)(h:∀i,i<n->∃a,Q i a):∃l:List α,l.length=n/\∀i a,l[i]?=some a->Q i a:=by
 induction n with
 |zero=>simp
 |succ n ih=>
  have⟨l,c,d⟩:=ih λi hi=>h i (by omega);have⟨a,ha⟩:=h n (by simp);refine⟨l++[a],by grind,λi b hb=>?_⟩
  grind
theorem aOn(hl:laidOutB P=true)(hz:∀t e,t<P.types.size->P.underlying t=some (.slice e)->0<P.cellsOf e){B:TypeId->DataW H->Prop}(S:Bnd P B N)(hN:N<2^62):
  ∀(fuel:Nat)(t:TypeId)(cs:List Value)(x:DataW H×List MemPlace),t<P.types.size->DataW.trod enc P w 0 (λ_=>true) true fuel t cs=some x->B t x.1->∃ps,RepL (G0 w) ps cs/\bU P N fuel t ps:=by
 intro fuel
 induction fuel with
 |zero=>intro t cs x _ h;simp[DataW.trod]at h
 |succ n ih=>
  intro t cs x q h hx;have C:(∀ps,bU P N (n+1) t ps=True)->∃ps,RepL (G0 w) ps cs/\bU P N (n+1) t ps:=λht=>⟨cs.map .val,RepL.vals cs,by rw[ht];trivial⟩;cases hu:P.underlying t with
  |none=>exact C λps=>by simp[bU,hu]
  |some d=>
   cases d with
   |bool=>
    obtain⟨b,rfl,_⟩:=DataW.trod_bool hu h;exact⟨[.val (.bool b)],by simp[RepL,Rep],by simp only[bU,hu];exact⟨b,rfl⟩⟩
   |int k=>
    obtain⟨z,rfl,_,hz⟩:=DataW.trod_int hu h;exact⟨[.val (.int k z)],by simp[RepL,Rep],by simp only[bU,hu];exact⟨z,rfl,hz⟩⟩
   |string=>
    obtain⟨s,rfl,rfl,hs⟩:=DataW.trod_string hu h;have:=S.str t _ hu hx;exact⟨[.val (.string s)],by simp[RepL,Rep],by simp only[bU,hu];exact⟨s,rfl,by simpa using this⟩⟩
   |slice e=>
    have M:=kid_slice hl q hu;rcases DataW.trod_slice hu h with⟨rfl,_⟩|⟨a,len,cap,K,rest,n',hn,rfl,rfl,_,X,Y,Q,h4,_,_⟩
    ·refine⟨[.seq []],?_,by simp only[bU,hu];exact⟨[],rfl,by simp,by simp⟩⟩
     simp only[RepL];exact⟨_,[],rfl,by simp only[Rep];exact⟨none,0,rfl,by simp,by simp, .inl (by simp)⟩,rfl⟩
    ·have o:n'=n:=by omega
     subst o;have⟨G,hb2⟩:=S.slice t e _ _ q hu hx;simp only[zql,Q]at G;have hb3:=G
     replace G:=G.1
     have J:=hz t e q hu;have⟨rows,I,p⟩:=tJ len (λi r=>∃c,w.cells? 0 (a.add (i*P.cellsOf e)) (P.cellsOf e)=some c/\RepL (G0 w) r c/\bU P N n' e r) λi hi=>by
      have:=h4 i hi
      have T:i<K.length:=by omega
      rw[zgg T,Option.bind_eq_some_iff]at this
      have⟨c,c1,c2⟩:=this
      have⟨r,r1,r2⟩:=ih e c _ M c2 (hb2 _ (List.mem_map_of_mem (zgm T)))
      exact⟨r,c,c1,r1,r2⟩
     refine⟨[.seq rows],?_,by simp only[bU,hu];exact⟨rows,rfl,by rw[I];exact hb3,λr F=>by have⟨i,hi⟩:=List.mem_iff_getElem?.1 F;have⟨_,_,_,h⟩:=p i r hi;exact h⟩⟩;simp only[RepL];refine⟨_,[],rfl,?_,rfl⟩;simp only[Rep];refine⟨some a,cap,by rw[I],by omega,by omega,?_⟩;by_cases h0:rows=[]
     ·exact .inl h0
     ·right
      have A:a.spot=none:=by
       have hl0:0<rows.length:=List.length_pos_iff.2 h0;have⟨c,c1,_⟩:=p 0 rows[0] (by simp);have:=(agV c1 J).1
       simpa[Addr.add]using this
      have⟨b,off,V⟩:=a;simp only at A;subst A;refine⟨b,off,P.cellsOf e,rfl,?_⟩;have key:∀(l:List (List PV))(k:Nat),(∀i r,l[i]?=some r->∃c,w.cells? 0 ((⟨b,off,none⟩:Addr).add ((k+i)*P.cellsOf e)) (P.cellsOf e)=some c/\RepL (G0 w) r c/\bU P N n' e r)->RepR (G0 w) b (off+k*P.cellsOf e) (P.cellsOf e) l:=by
       intro l
       induction l with
       |nil=>intro k _;simp[RepR]
       |cons r l ihr=>
        intro k hk;have⟨c,c1,c2,_⟩:=hk 0 r (by simp);rw[dA]at c1;have⟨_,d1,W⟩:=agV c1 J;simp only[RepR];simp only[Nat.add_zero]at W;refine⟨by rw[<-c2.length];exact d1,aoV c2 W,?_⟩;have:=ihr (k+1) λi r' hr'=>by
         have:=hk (i+1) r' (by simpa using hr')
         rwa[show k+(i+1)=k+1+i from by omega]at this
        rwa[show off+(k+1)*P.cellsOf e=off+k*P.cellsOf e+P.cellsOf e from by rw[Nat.add_mul];omega]at this
      have:=key rows 0 (by simpa using p)
      simpa using this
   |pointer e=>
    have M:=kid_pointer hl q hu;rcases DataW.trod_pointer hu h with⟨rfl,_⟩|⟨a,c,y,n',hn,rfl,rfl,c1,c2⟩
    ·exact⟨[.val (.pointer none)],by simp[RepL,Rep],by simp[bU,hu]⟩
    ·have o:n'=n:=by omega
     subst o;have⟨ps,p1,p2⟩:=ih e c _ M c2 (S.ptr t e _ hu hx);by_cases hp0:P.cellsOf e=0
     ·exact⟨[.val (.pointer (some a))],by simp[RepL,Rep],by simp only[bU,hu];exact .inr (.inr ⟨hp0,rfl⟩)⟩
     have⟨A,d1,W⟩:=agV c1 (by omega);have⟨b,off,V⟩:=a;simp only at A;subst A;refine⟨[.rp ps],?_,by simp only[bU,hu];exact .inr (.inl ⟨ps,rfl,p2⟩)⟩;simp only[RepL];exact⟨_,[],rfl,by simp only[Rep];exact⟨b,off,rfl,aoV p1 W⟩,rfl⟩
   |struct fs=>
    have⟨hk1,L,hk3⟩:=kid_struct hl q hu;obtain⟨xs,n',hn,rfl,X,Y,Q⟩:=DataW.trod_struct hu h;have o:n'=n:=by omega
    subst o;have hst:=S.struct t fs _ hu hx;have⟨D,u,j⟩:=tJ fs.toList.length (λi r=>∃f,fs.toList[i]?=some f/\RepL (G0 w) r ((cs.drop f.offset).take (P.cellsOf f.type))/\bU P N n' f.type r) λi hi=>by
     have hf:fs.toList[i]?=some fs.toList[i]:=zgg hi
     have hfs:fs[i]?=some fs.toList[i]:=by rw[<-Array.getElem?_toList];exact hf
     have U:i<xs.length:=by rw[Y];simpa using hi
     have R:=Q i _ hfs
     rw[zgg U]at R
     have⟨r,r1,r2⟩:=ih _ _ _ (hk1 _ (List.mem_of_getElem? hf)) R (hst i _ _ hf (by simp[U]))
     exact⟨r,_,hf,r1,r2⟩
    refine⟨D.flatten,?_,by simp only[bU,hu];exact⟨D,rfl,aeS u.symm λi f r hf F=>by have⟨f',E,_,O⟩:=j i r F;rw[hf]at E;injection E with E;subst E;exact O⟩⟩
    let ns:=fs.toList.map λf=>P.cellsOf f.type
    have g:=uS ns cs 0 (by rw[X,L];simp[ns]);simp only[Nat.zero_add,List.drop_zero]at g;rw[<-g];refine abO (aeS (by simp[ns,u]) λi r v F hv=>?_);have⟨f,E,O,_⟩:=j i r F;rw[List.getElem?_map]at hv;have hi:i<fs.toList.length:=(zge.1 E).1;have hi':i<ns.length:=by simpa[ns]using hi
    rw[List.getElem?_range hi']at hv;simp only[Option.map_some]at hv;injection hv with hv
    rw[<-hv];have eo:f.offset=(ns.take i).sum:=by rw[hk3 i f E];simp[ns,List.map_take]
    have en:P.cellsOf f.type=ns.getD i 0:=by
     simp only[ns,List.getD_eq_getElem?_getD,List.getElem?_map,E];rfl
    rw[<-eo,<-en];exact O
   |array m e=>
    have⟨hke,L⟩:=kid_array hl q hu;have⟨n',ds,hn,X,Y,Q⟩:=azM hu h;have o:n'=n:=by omega
    subst o;rw[Y]at hx;have Z:=S.array t m e _ hu hx;have⟨D,u,j⟩:=tJ m (λi r=>RepL (G0 w) r ((cs.drop (i*P.cellsOf e)).take (P.cellsOf e))/\bU P N n' e r) λi hi=>by
     have⟨y,y1,y2⟩:=Q i hi
     exact ih _ _ _ hke y1 (Z _ y2)
    refine⟨D.flatten,?_,by simp only[bU,hu];exact⟨D,rfl,u,λr F=>by have⟨i,hi⟩:=List.mem_iff_getElem?.1 F;exact(j i r hi).2⟩⟩
    let ns:=List.replicate m (P.cellsOf e)
    have g:=uS ns cs 0 (by rw[X,L];simp[ns]);simp only[Nat.zero_add,List.drop_zero]at g;rw[<-g];refine abO (aeS (by simp[ns,u]) λi r v F hv=>?_);have hi:i<m:=by rw[<-u];exact(zge.1 F).1
    rw[List.getElem?_map,List.getElem?_range (by simpa[ns]using hi)]at hv;simp only[Option.map_some]at hv;injection hv with hv
    rw[<-hv];have E:(ns.take i).sum=i*P.cellsOf e:=by simp[ns,Nat.min_eq_left (Nat.le_of_lt hi)]
    have O:ns.getD i 0=P.cellsOf e:=by simp[ns,hi]
    rw[E,O];exact(j i r F).1
   |_=>exact C λps=>by simp[bU,hu]
def uM(P:Program)(N:Nat)(t:TypeId)(p:PV):Prop:=
 ∃n,(bK P t=true/\∃cs,p= .agg cs/\bU P N n t cs)\/(bK P t=false/\bU P N n t [p])
theorem tG(hl:laidOutB P=true)(hz:∀t e,t<P.types.size->P.underlying t=some (.slice e)->0<P.cellsOf e){B:TypeId->DataW H->Prop}(o:Bnd P B N)(r:N<2^62){b:Nat}{v:Value}{d:DataW H}(ht:t<P.types.size)(hf:(match P.underlying t with|some .bool|some (.int _)|some .string|some (.slice _)|some (.struct _)|some (.array _ _)=>true|_=>false)=true)(h:DataW.Trod enc P w 0 (λ_=>true) true t v d q)(hv:Value.okWide P w .any b t v)(hd:B t d):∃p,Rep (G0 w) p v/\uM P N t p:=by
 have⟨n,hn⟩:=h
 have⟨ps,f,g⟩:=aOn hl hz o r n t _ _ ht hn hd
 cases hu:P.underlying t with
 |none=>rw[hu]at hf;cases hf
 |some k=>
  rw[hu]at hf;simp only[Value.okWide,hu]at hv;have one:(∀c,v≠ .agg c)->bK P t=false->(ps.length=1->∃p,Rep (G0 w) p v/\uM P N t p):=λj ha l=>by
   match ps,l with
   |[p],_=>
    have hc:v.cells.toList=[v]:=by cases v<;>first|rfl|exact absurd rfl (j _)
    rw[hc]at f;simp only[RepL]at f;have⟨x,s,i,m,u⟩:=f;injection i with i e4
    subst i;exact⟨p,m,n, .inr ⟨ha,g⟩⟩
  have agg:(∃cs,v= .agg cs)->bK P t=true->∃p,Rep (G0 w) p v/\uM P N t p:=λ⟨cs,hc⟩ ha=>by
   subst hc
   exact⟨.agg ps,by simp only[Rep];exact⟨cs.toList,by simp,f⟩,n, .inl ⟨ha,ps,rfl,g⟩⟩
  have a:∀{k},P.underlying t=some k->(match k with| .bool| .int _| .string| .slice _=>True|_=>False)->ps.length=1:=fun{k} hk hm=>by
   cases n with
   |zero=>simp[bU]at g
   |succ n=>
    simp only[bU,hk]at g
    grind
  cases k<;>simp only at hf hv<;>try(cases hf;done)
  ·exact one (λc e=>by subst e;simp[Cell.okWide,Cell.ok,hu]at hv) (by simp[bK,hu]) (a hu trivial)
  ·exact one (λc e=>by subst e;simp[Cell.okWide,Cell.ok,hu]at hv) (by simp[bK,hu]) (a hu trivial)
  ·exact one (λc e=>by subst e;simp[Cell.okWide,Cell.ok,hu]at hv) (by simp[bK,hu]) (a hu trivial)
  ·exact one (λc e=>by subst e;simp[Cell.okWide,Cell.ok,hu]at hv) (by simp[bK,hu]) (a hu trivial)
  ·have⟨cs,hc,_⟩:=hv;exact agg ⟨cs,hc⟩ (by simp[bK,hu])
  ·have⟨cs,hc,_⟩:=hv;exact agg ⟨cs,hc⟩ (by simp[bK,hu])
theorem aHh{f:Func}{s:ChangeSpec}{apart fresh e n:Bool}{args:Array Value}{ds L:List (DataW H)}(I:DataW.Whole enc P f.params.toList s.vars apart W args.toList ds L c)(k:s.vars=[])(hl:laidOutB P=true)(l:s.fn H (ds++L)={results:=[.lit (.bool true)],args:=ds})(C:f.resultTypes= #[tb])(D:P.underlying tb=some .bool)(i:∀t∈f.params.toList,P.readableRec t=true/\t<P.types.size)(hb:Below W.heap.size W w):
  s.post enc P f apart fresh e n W args (.bool true) w:=by
 have o:=I.lt
 have z:∀p∈c,(λb=>decide (b<W.heap.size)) p.block=true:=λp hp=>by simpa using o p hp
 have J:=I
 have⟨S,pv,Q,M,B,hz,hn⟩:=I
 rw[k]at M
 obtain⟨rfl,rfl⟩:=trodVars_none M
 simp only[List.append_nil]at B l
 subst B
 have u:∀{y:List TypeId}{vs:List Value}{ds:List (DataW H)}{q:List MemPlace},(∀t∈y,P.readableRec t=true/\t<P.types.size)->DataW.TrodAll enc P W 0 (λ_=>true) true y vs ds q->(∀p∈q,p.block<W.heap.size)->∀sp:Nat->Bool,(∀p∈q,sp p.block=true)->DataW.TrodAll enc P w 0 sp true y vs ds q:=by
  intro y
  induction y with
  |nil=>
   intro vs ds q _ h _ sp _;obtain⟨rfl,rfl,rfl⟩:=trodAll_nil h;rfl
  |cons t y ih=>
   intro vs ds q i h hq sp hs;obtain⟨v,R,d,O,a,b,rfl,rfl,rfl,F,G⟩:=trodAll_cons h;refine⟨a,b,WideElems.Trod_stays hl (i t (by simp)).1 (i t (by simp)).2 F (λx hx=>hb.same (hq x (by simp[hx]))) (λx hx=>hs x (by simp[hx])),ih (λt ht=>i t (by simp[ht])) G (λx hx=>hq x (by simp[hx])) sp (λx hx=>hs x (by simp[hx])),rfl⟩
 have g:=u i Q o
 have m:∀(b:Nat)(sp:Nat->Bool)(hd:Bool),DataW.TrodAll enc P w b sp hd f.resultTypes.toList ((Value.bool true).resultList f.resultTypes.size) [.lit (.bool true)] []:=λb sp hd=>by
  rw[C]
  exact trodAll_cons_mk (shut_bool D true) trodAll_mk0
 have E:∀sp:Nat->Bool,DataW.TrodVars enc P w sp s.vars ([]:List (DataW H)) []:=λsp=>by rw[k];rfl
 have K:∀(j:Nat)(t:TypeId)(r:Value),f.resultTypes[j]?=some t->((Value.bool true).resultList f.resultTypes.size)[j]?=some r->Value.okWide P w .any 0 t r:=by
  rw[C];exactλj t r F G=>ok_one (f:=f) C rfl (okWide_bool_mk D true) j t r (by rw[C];exact F) (by rw[C];exact G)
 refine⟨ds,[],c,[],c,[],J,?_,?_,?_,World.keptBut_mono (λp hp=>hp.elim) (hb.frame λ_=>False),λ_=>?_⟩
 ·simp only[List.append_nil];rw[l];exact m _ _ _
 ·simp only[List.append_nil];rw[l];exact g _ z
 ·simp only[List.append_nil];rw[l];exact E _
 ·refine⟨K,_,_,([]++c)++[],⟨[]++c,[],trodAll_append (g _ λ_ _=>rfl) (m _ _ _),E _,rfl,?_,?_⟩,?_⟩
  ·intro b off hp
   have A:MemPlace.cell b off∈c:=by simpa using hp
   rw[hb.frozen (p:=⟨b,off,none⟩) (o _ A)];exact hz b off A
  ·intro ha
   simpa using hn ha
  ·intro p hp _
   simpa using hp
theorem aEK{a:FuncId}{vs:List Value}{ps:List PV}(f:RepL (G0 W) ps vs)(h:PF P a ps (.val (.bool true))):Calls P a vs.toArray W λe c=>e= .returned (.bool true)/\Below W.heap.size W c:=by
 refine((h _).2 W _ _ (aN4 P W) f).mono ?_;rintro e w' ⟨v,r,st',g',rfl,⟨rfl,rfl⟩,h3,h4,h5,h6,h7⟩;refine⟨by simpa,h6.os,h6.tape.1,h6.output,h6.size,λb hb=>?_⟩;exact(h6.old b hb λ⟨id,d,_⟩=>d rfl).1
end
end Go.Abs
namespace Go.Abs
open Go
variable{e t:TypeId}{n:Nat}{ps:List PV}{H α:Type}{rows:List (List PV)}
section
variable{P:Program}{tt:TT}{N:Nat}
theorem aKm(h:jT P t= .bool):P.underlying t=some .bool:=by
 unfold jT at h;grind
theorem bR(htt:bI P tt){k:IntKind}(hk:tiK tt t=some (.int k))(h:bU P N n t ps):∃x,ps=[.val (.int k x)]/\(Lit.int k x).wf=true:=by
 cases n with
 |zero=>trivial
 |succ n=>simpa only[bU,sX (aR htt hk).1]using h
theorem aiA(htt:bI P tt)(hk:tiK tt t=some .bool)(h:bU P N n t ps):∃x,ps=[.val (.bool x)]:=by
 cases n with
 |zero=>trivial
 |succ n=>simpa only[bU,aKm (aR htt hk).1]using h
theorem acG(htt:bI P tt)(hk:tiK tt t=some .str)(h:bU P N n t ps):∃x,ps=[.val (.string x)]/\x.size<=N:=by
 cases n with
 |zero=>trivial
 |succ n=>simpa only[bU,pA (aR htt hk).1]using h
theorem cQ(htt:bI P tt)(hk:tiK tt t=some (.slice e))(h:bU P N n t ps):∃m rows,n=m+1/\ps=[.seq rows]/\rows.length<=N/\∀r∈rows,bU P N m e r:=by
 cases n with
 |zero=>simpa
 |succ n=>
  simp only[bU,cD (aR htt hk).1]at h
  grind
theorem anZ(htt:bI P tt)(hk:tiK tt t=some (.slice e))(h:bU P N n t ps):∃m rows,n=m+1/\ps=[.seq rows]/\rows.length*P.bytesOf e<=N/\∀r∈rows,bU P N m e r:=by
 cases n with
 |zero=>simpa
 |succ n=>
  simp only[bU,cD (aR htt hk).1]at h
  grind
theorem cG(htt:bI P tt){fs:List (TypeId×Nat)}(hk:tiK tt t=some (.struct fs))(h:bU P N n t ps):∃(m:Nat) (a:List (List PV)),n=m+1/\ps=a.flatten/\All2 (λf r=>bU P N m f r) (fs.map (·.1)) a:=by
 cases n with
 |zero=>simpa
 |succ n=>
  have⟨b,hu,c⟩:=fJ (aR htt hk).1;simp only[bU,hu]at h;have⟨a,d,e⟩:=h;refine⟨n,a,rfl,d,?_⟩;rw[<-c,List.map_map];exact e.map_left
theorem vR{f:α->List PV}(h:∀r∈rows,∃a,r=f a):∃l:List α,rows=l.map f:=by
 induction rows with
 |nil=>simp
 |cons r rs ih=>
  obtain⟨a,rfl⟩:=h r (by simp);obtain⟨l,rfl⟩:=ih λr b=>h r (by grind);exact⟨a::l,rfl⟩
theorem aGR{f:α->List PV}{Q:α->Prop}(h:∀r∈rows,∃a,r=f a/\Q a):∃l:List α,rows=l.map f/\∀a∈l,Q a:=by
 induction rows with
 |nil=>simp
 |cons r rs ih=>
  obtain⟨a,rfl,hq⟩:=h r (by simp);obtain⟨l,rfl,hl⟩:=ih λr c=>h r (by grind);refine⟨a::l,rfl,λb hb=>?_⟩
  grind
def wB(P:Program){H:Type}(t:TypeId)(d:DataW H):Prop:=∀n∈d.weights P t,n<=reachBytes
theorem nR{H:Type}{e:TypeId}:∀{ds:List (DataW H)}{d:DataW H},d∈ds->∀n∈d.weights P e,n∈DataW.weightsAll P e ds
 |[],_,h,_,_=>by grind
 |x::ds,d,h,n,hn=>by
  simp only[DataW.weightsAll,zma]
  rcases zmc.1 h with rfl|h
  ·grind
  ·exact .inr (nR h n hn)
theorem eD{H:Type}:∀{a:List TypeId}{ds:List (DataW H)}{i:Nat}{t:TypeId}{d:DataW H},a[i]?=some t->ds[i]?=some d->∀n∈d.weights P t,n∈DataW.weightsEach P a ds
 |[],_,_,_,_,h,_,_,_=>by grind
 |_::_,[],_,_,_,_,h,_,_=>by grind
 |t0::a,d0::ds,0,t,d,h1,h2,n,hn=>by
  simp only[DataW.weightsEach,zma];grind
 |t0::a,d0::ds,i+1,t,d,h1,h2,n,hn=>by
  simp at h1 h2
  simp only[DataW.weightsEach,zma];exact .inr (eD h1 h2 n hn)
theorem aMM(hb:∀t e,t<P.types.size->P.underlying t=some (.slice e)->1<=P.bytesOf e):Bnd P (wB P (H:=H)) reachBytes where
 str t b _ h:=h _ (by simp[DataW.weights])
 slice t e ds sp hlt hu h:=by
  simp only[wB,DataW.weights,hu]at h;refine⟨?_,λd hd n hn=>h n (by simp;exact .inr (.inl (nR hd n hn)))⟩;have c:=h _ (List.mem_cons_self);have a:=hb t e hlt hu;have g:ds.length*1<=(ds.length+sp.length)*P.bytesOf e:=Nat.mul_le_mul (by omega) a
  grind
 ptr t e d hu h n hn:=h n (by simp only[DataW.weights,hu];exact hn)
 struct t fs ds hu h i f d hf hd n hn:=h n (by
  simp only[DataW.weights,hu]
  exact eD (by grind) hd n hn)
 array t m e ds hu h d hd n hn:=h n (by simp only[DataW.weights,hu];exact nR hd n hn)
theorem alU(f:TypeId->TypeId->Bool)(h:((List.range P.types.size).all λt=>match P.underlying t with|some (.slice e)=>f t e|_=>true)=true):∀t e,t<P.types.size->P.underlying t=some (.slice e)->f t e=true:=by grind
end
end Go.Abs
