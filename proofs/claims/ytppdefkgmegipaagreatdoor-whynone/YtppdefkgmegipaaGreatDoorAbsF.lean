import Derived.Test.YtppdefkgmegipaaGreatDoorAbsC
import Derived.Carry
import Derived.ChangeArms
import Derived.ChangeSame
import Derived.WalkKit
import Derived.ProofKit
import Derived.OpenShut
import Derived.JoinedCond
set_option linter.unusedSimpArgs false
set_option linter.unusedVariables false
namespace Go.Abs
open Go Go.ChangeShapes Go.WideShapes Go.RowKit
def G0 (w:World):G where
 heap:=w.heap
 io:=λ_=>none
 fr:=λb=>match w.heap[b]? with|some (.cells c _ _)=>c.size|_=>0
 fm:=λb=>∃e c,w.heap[b]?=some (.map e c)/\uF e.toList c
def st0 :aD:=λ_=>none
theorem aCL (P:Program) (w:World):MemOK P st0 w (G0 w) where
 heap:=rfl
 obj:=λ_ _ e=>by cases e
 inj:=λ_ _ _ e=>absurd rfl e
 lt:=λb h=>by
  simp only [G0] at h
  split at h
  ·rename_i e;exact aZ e
  ·exact absurd rfl h
 fmm:=λ_ h=>h
 fin:=⟨0,λ_ _=>rfl⟩
inductive All2 {α β:Type} (R:α->β->Prop):List α->List β->Prop
 |nil:All2 R [] []
 |cons {a:α} {b:β} {as:List α} {bs:List β} (h:R a b) (t:All2 R as bs):All2 R (a::as) (b::bs)
def aW (P:Program) (N:Nat):Nat->TypeId->List PV->Prop
 |0,_,_=>False
 |n+1,t,ps=>match P.underlying t with
  |some .bool=>∃b,ps=[.val (.bool b)]
  |some (.int k)=>∃x,ps=[.val (.int k x)]/\(Lit.int k x).wf=true
  |some .string=>∃s,ps=[.val (.string s)]/\s.size<=N
  |some (.slice e)=>∃rows,ps=[.seq rows]/\(rows.length<=N/\rows.length*P.bytesOf e<=N)/\∀r∈rows,aW P N n e r
  |some (.pointer e)=>ps=[.val (.pointer none)]\/(∃cs,ps=[.rp cs]/\aW P N n e cs)\/(P.cellsOf e=0/\ps.length=1)
  |some (.struct fs)=>∃pss:List (List PV),ps=pss.flatten/\All2 (λf r=>aW P N n f.type r) fs.toList pss
  |some (.array m e)=>∃pss:List (List PV),ps=pss.flatten/\pss.length=m/\∀r∈pss,aW P N n e r
  |_=>True
structure Bnd (P:Program) {H:Type} (B:TypeId->DataW H->Prop) (N:Nat):Prop where
 str:∀t b,P.underlying t=some .string->B t (.lit (.string b))->b.length<=N
 slice:∀t e ds sp,t<P.types.size->P.underlying t=some (.slice e)->B t (.slice ds sp)->(ds.length<=N/\ds.length*P.bytesOf e<=N)/\∀d∈ds,B e d
 ptr:∀t e d,P.underlying t=some (.pointer e)->B t (.ptr d)->B e d
 struct:∀t fs ds,P.underlying t=some (.struct fs)->B t (.agg ds)->∀(i:Nat) f d,fs.toList[i]?=some f->ds[i]?=some d->B f.type d
 array:∀t m e ds,P.underlying t=some (.array m e)->B t (.agg ds)->∀d∈ds,B e d
section
variable {P:Program} {H:Type} {enc:TypeId×Value->H}
theorem vO {w:World} {a:Addr} {n:Nat} {cs:List Value} (h:w.cells? 0 a n=some cs) (hn:0<n):
  a.spot=none/\cs.length=n/\∀i v,cs[i]?=some v->aS w.heap a.block (a.off+i)=some v/\a.off+i<(G0 w).fr a.block:=by
 obtain ⟨_,h1,h2⟩:=World.cells?_some h
 have key:∀i v,cs[i]?=some v->w.cell? (a.add i)=some v:=λi v hv=>by
  have hi:=(zge.1 hv).1
  rw [h2 i (by omega),hv]
 have hsp:a.spot=none:=by
  obtain ⟨v,hv⟩:∃v,cs[0]?=some v:=⟨cs[0]'(by omega),by simp⟩
  have:=key 0 v hv
  simp only [Addr.add,if_true,World.cell?] at this
  split at this
  ·cases hs:a.spot with
   |none=>rfl
   |some x=>rw [hs] at this;simp at this
  ·cases this
 refine ⟨hsp,h1,λi v hv=> ?_⟩
 have:=key i v hv
 obtain ⟨b,off,spot⟩:=a
 simp only at hsp
 subst hsp
 rw [cE] at this
 simp only [World.cell?] at this
 split at this
 ·rename_i c T fz hb
  simp at this
  refine ⟨by simp only [aS,hb];exact this, ?_⟩
  simp only [G0,hb]
  exact (Array.getElem?_eq_some_iff.1 this).1
 ·cases this
theorem abH {g:G} {b:Nat}:∀{ps:List PV} {off:Nat} {us:List Value},RepL g ps us->(∀j v,us[j]?=some v->aS g.heap b (off+j)=some v/\off+j<g.fr b)->RepA g b off ps
 |[],_,_,_,_=>by simp [RepA]
 |p::ps,off,us,h,hc=>by
  simp only [RepL] at h
  obtain ⟨v,us',rfl,e1,e2⟩:=h
  simp only [RepA]
  refine ⟨⟨v,by simpa using (hc 0 v (by simp)).1,by simpa using (hc 0 v (by simp)).2,e1⟩,abH e2 λj x hj=> ?_⟩
  have:=hc (j+1) x (by simpa using hj)
  rwa [show off+(j+1)=off+1+j from by omega] at this
theorem sA {g:G}:∀{pss:List (List PV)} {vss:List (List Value)},All2 (λp v=>RepL g p v) pss vss->RepL g pss.flatten vss.flatten
 |_,_, .nil=>by simp [RepL]
 |_,_, .cons h t=>by simp only [List.flatten_cons];exact h.append (sA t)
theorem nG {α:Type}:∀(ns:List Nat) (cs:List α) (off:Nat),cs.length=off+ns.sum->((List.range ns.length).map λi=>(cs.drop (off+(ns.take i).sum)).take (ns.getD i 0)).flatten=cs.drop off
 |[],cs,off,h=>by simp at h⊢;omega
 |n::ns,cs,off,h=>by
  simp only [List.sum_cons] at h
  have ih:=nG ns cs (off+n) (by omega)
  rw [zlc,List.range_succ_eq_map,zmp,List.flatten_cons,List.map_map]
  have e1:((λi=>(cs.drop (off+((n::ns).take i).sum)).take ((n::ns).getD i 0))∘Nat.succ)=λi=>(cs.drop (off+n+(ns.take i).sum)).take (ns.getD i 0):=by
   funext i
   simp [Nat.add_assoc]
  rw [e1,ih]
  simp only [List.take_zero,List.sum_nil,Nat.add_zero,List.getD_cons_zero]
  rw [<-List.drop_drop]
  exact List.take_append_drop _ _
theorem All2.length {α β:Type} {R:α->β->Prop} {as:List α} {bs:List β} (h:All2 R as bs):as.length=bs.length:=by
 induction h with
 |nil=>rfl
 |cons _ _ ih=>simp [ih]
theorem All2.imp {α β:Type} {R S:α->β->Prop} (hi:∀a b,R a b->S a b) {as:List α} {bs:List β} (h:All2 R as bs):All2 S as bs:=by
 induction h with
 |nil=>exact .nil
 |cons h _ ih=>exact .cons (hi _ _ h) ih
theorem All2.right {α β:Type} {R:α->β->Prop} {S:β->Prop} (hi:∀a b,R a b->S b) {as:List α} {bs:List β} (h:All2 R as bs):∀b∈bs,S b:=by
 induction h with
 |nil=>simp
 |cons h _ ih=>
  intro b hb
  rcases zmc.1 hb with rfl|hb
  ·exact hi _ _ h
  ·exact ih b hb
theorem All2.map_left {α β γ:Type} {R:γ->β->Prop} {f:α->γ} {as:List α} {bs:List β} (h:All2 (λa b=>R (f a) b) as bs):All2 R (as.map f) bs:=by
 induction h with
 |nil=>exact .nil
 |cons h _ ih=>exact .cons h ih
theorem All2.swap {α β:Type} {R:α->β->Prop} {as:List α} {bs:List β} (h:All2 R as bs):All2 (λb a=>R a b) bs as:=by
 induction h with
 |nil=>exact .nil
 |cons h _ ih=>exact .cons h ih
theorem aiA {w:World} {t e:TypeId} {m fuel:Nat} {cs:List Value} {x:DataW H×List MemPlace} (ht:P.underlying t=some (.array m e)) (h:DataW.trod enc P w 0 (λ_=>true) true fuel t cs=some x):
  ∃n ds,fuel=n+1/\cs.length=P.cellsOf t/\x.1= .agg ds/\∀i,i<m->∃y,DataW.trod enc P w 0 (λ_=>true) true n e ((cs.drop (i*P.cellsOf e)).take (P.cellsOf e))=some y/\y.1∈ds:=by
 cases fuel with
 |zero=>simp [DataW.trod] at h
 |succ n=>
  unfold DataW.trod at h
  rw [ht] at h
  split at h<;>simp_all
  obtain ⟨hl,xs,hp,hd⟩:=h
  refine ⟨xs.map (·.1),by rw [<-hd], ?_⟩
  intro i hi
  have:=mapM_some_get hp i i (by simp [hi])
  have hxl:=mapM_some_length hp
  have hi2:i<xs.length:=by rw [hxl];simpa using hi
  rw [this]
  exact ⟨xs[i].1,⟨xs[i].2,by simp [hi2]⟩,List.mem_map_of_mem (zgm hi2)⟩
theorem uC {α β:Type} {R:α->β->Prop}:∀{as:List α} {bs:List β},as.length=bs.length->(∀(i:Nat) a b,as[i]?=some a->bs[i]?=some b->R a b)->All2 R as bs
 |[],[],_,_=> .nil
 |a::as,b::bs,h,hr=> .cons (hr 0 a b (by simp) (by simp)) (uC (by simpa using h) λi x y hx hy=>hr (i+1) x y (by simpa using hx) (by simpa using hy))
theorem All2.get {α β:Type} {R:α->β->Prop} {as:List α} {bs:List β} (h:All2 R as bs):∀{i:Nat} {a:α},as[i]?=some a->∃b,bs[i]?=some b/\R a b:=by
 induction h with
 |nil=>intro i a e;simp at e
 |cons h _ ih=>
  intro i a e
  cases i with
  |zero=>simp at e;subst e;exact ⟨_,by simp,h⟩
  |succ i=>simp at e;simpa using ih e
theorem mC {α:Type} (n:Nat) (Q:Nat->α->Prop) (h:∀i,i<n->∃a,Q i a):∃l:List α,l.length=n/\∀i a,l[i]?=some a->Q i a:=by
 induction n with
 |zero=>exact ⟨[],rfl,by simp⟩
 |succ n ih=>
  obtain ⟨l,h1,h2⟩:=ih λi hi=>h i (by omega)
  obtain ⟨a,ha⟩:=h n (by omega)
  refine ⟨l++[a],by simp [h1],λi b hb=> ?_⟩
  rcases Nat.lt_or_ge i l.length with hi|hi
  ·rw [List.getElem?_append_left hi] at hb;exact h2 i b hb
  ·rw [List.getElem?_append_right hi] at hb
   have:i=n:=by
    rcases Nat.lt_or_ge (i-l.length) 1 with h3|h3
    ·omega
    ·rw [List.getElem?_eq_none (by simpa using h3)] at hb;cases hb
   subst this
   simp [h1] at hb
   subst hb;exact ha
theorem aC4 (hl:laidOutB P=true) (hz:∀t e,t<P.types.size->P.underlying t=some (.slice e)->0<P.cellsOf e) {B:TypeId->DataW H->Prop} {N:Nat} (hB:Bnd P B N) (hN:N<2^62) {w:World}:
  ∀(fuel:Nat) (t:TypeId) (cs:List Value) (x:DataW H×List MemPlace),t<P.types.size->DataW.trod enc P w 0 (λ_=>true) true fuel t cs=some x->B t x.1->∃ps,RepL (G0 w) ps cs/\aW P N fuel t ps:=by
 intro fuel
 induction fuel with
 |zero=>intro t cs x _ h;simp [DataW.trod] at h
 |succ n ih=>
  intro t cs x hlt h hx
  have plain:(∀ps,aW P N (n+1) t ps=True)->∃ps,RepL (G0 w) ps cs/\aW P N (n+1) t ps:=λht=>⟨cs.map .val,RepL.vals cs,by rw [ht];trivial⟩
  cases hu:P.underlying t with
  |none=>exact plain λps=>by simp [aW,hu]
  |some d=>
   cases d with
   |bool=>
    obtain ⟨b,rfl,_⟩:=DataW.trod_bool hu h
    exact ⟨[.val (.bool b)],by simp [RepL,Rep],by simp only [aW,hu];exact ⟨b,rfl⟩⟩
   |int k=>
    obtain ⟨z,rfl,_,hz⟩:=DataW.trod_int hu h
    exact ⟨[.val (.int k z)],by simp [RepL,Rep],by simp only [aW,hu];exact ⟨z,rfl,hz⟩⟩
   |string=>
    obtain ⟨s,rfl,rfl,hs⟩:=DataW.trod_string hu h
    have:=hB.str t _ hu hx
    exact ⟨[.val (.string s)],by simp [RepL,Rep],by simp only [aW,hu];exact ⟨s,rfl,by simpa using this⟩⟩
   |slice e=>
    have hle:=kid_slice hl hlt hu
    rcases DataW.trod_slice hu h with ⟨rfl,_⟩|⟨a,len,cap,elems,rest,n',hn,rfl,rfl,_,h1,h2,h3,h4,_,_⟩
    ·refine ⟨[.seq []], ?_,by simp only [aW,hu];exact ⟨[],rfl,by simp,by simp⟩⟩
     simp only [RepL]
     exact ⟨_,[],rfl,by simp only [Rep];exact ⟨none,0,rfl,by simp,by simp, .inl (by simp)⟩,rfl⟩
    ·have hn':n'=n:=by omega
     subst hn'
     obtain ⟨hb1,hb2⟩:=hB.slice t e _ _ hlt hu hx
     simp only [zql,h3] at hb1
     have hb3:=hb1
     replace hb1:=hb1.1
     have hpos:=hz t e hlt hu
     obtain ⟨rows,hlen,hrows⟩:=mC len (λi r=>∃cs',w.cells? 0 (a.add (i*P.cellsOf e)) (P.cellsOf e)=some cs'/\RepL (G0 w) r cs'/\aW P N n' e r) λi hi=>by
      have:=h4 i hi
      have hi2:i<elems.length:=by omega
      rw [zgg hi2,Option.bind_eq_some_iff] at this
      obtain ⟨cs',c1,c2⟩:=this
      obtain ⟨r,r1,r2⟩:=ih e cs' _ hle c2 (hb2 _ (List.mem_map_of_mem (zgm hi2)))
      exact ⟨r,cs',c1,r1,r2⟩
     refine ⟨[.seq rows], ?_,by simp only [aW,hu];exact ⟨rows,rfl,by rw [hlen];exact hb3,λr hr=>by obtain ⟨i,hi⟩:=List.mem_iff_getElem?.1 hr;obtain ⟨_,_,_,h⟩:=hrows i r hi;exact h⟩⟩
     simp only [RepL]
     refine ⟨_,[],rfl, ?_,rfl⟩
     simp only [Rep]
     refine ⟨some a,cap,by rw [hlen],by omega,by omega, ?_⟩
     by_cases h0:rows=[]
     ·exact .inl h0
     ·right
      have hsp:a.spot=none:=by
       have hl0:0<rows.length:=List.length_pos_iff.2 h0
       obtain ⟨cs',c1,_⟩:=hrows 0 rows[0] (by simp)
       have:=(vO c1 hpos).1
       simpa [Addr.add] using this
      obtain ⟨b,off,spot⟩:=a
      simp only at hsp
      subst hsp
      refine ⟨b,off,P.cellsOf e,rfl, ?_⟩
      have key:∀(l:List (List PV)) (k:Nat),(∀i r,l[i]?=some r->∃cs',w.cells? 0 ((⟨b,off,none⟩:Addr).add ((k+i)*P.cellsOf e)) (P.cellsOf e)=some cs'/\RepL (G0 w) r cs'/\aW P N n' e r)->RepR (G0 w) b (off+k*P.cellsOf e) (P.cellsOf e) l:=by
       intro l
       induction l with
       |nil=>intro k _;simp [RepR]
       |cons r l ihr=>
        intro k hk
        obtain ⟨cs',c1,c2,_⟩:=hk 0 r (by simp)
        rw [cE] at c1
        obtain ⟨_,d1,d2⟩:=vO c1 hpos
        simp only [RepR]
        simp only [Nat.add_zero] at d2
        refine ⟨by rw [<-c2.length];exact d1,abH c2 d2, ?_⟩
        have:=ihr (k+1) λi r' hr'=>by
         have:=hk (i+1) r' (by simpa using hr')
         rwa [show k+(i+1)=k+1+i from by omega] at this
        rwa [show off+(k+1)*P.cellsOf e=off+k*P.cellsOf e+P.cellsOf e from by rw [Nat.add_mul];omega] at this
      have:=key rows 0 (by simpa using hrows)
      simpa using this
   |pointer e=>
    have hle:=kid_pointer hl hlt hu
    rcases DataW.trod_pointer hu h with ⟨rfl,_⟩|⟨a,cs',y,n',hn,rfl,rfl,c1,c2⟩
    ·exact ⟨[.val (.pointer none)],by simp [RepL,Rep],by simp [aW,hu]⟩
    ·have hn':n'=n:=by omega
     subst hn'
     obtain ⟨ps,p1,p2⟩:=ih e cs' _ hle c2 (hB.ptr t e _ hu hx)
     by_cases hp0:P.cellsOf e=0
     ·exact ⟨[.val (.pointer (some a))],by simp [RepL,Rep],by simp only [aW,hu];exact .inr (.inr ⟨hp0,rfl⟩)⟩
     obtain ⟨hsp,d1,d2⟩:=vO c1 (by omega)
     obtain ⟨b,off,spot⟩:=a
     simp only at hsp
     subst hsp
     refine ⟨[.rp ps], ?_,by simp only [aW,hu];exact .inr (.inl ⟨ps,rfl,p2⟩)⟩
     simp only [RepL]
     exact ⟨_,[],rfl,by simp only [Rep];exact ⟨b,off,rfl,abH p1 d2⟩,rfl⟩
   |struct fs=>
    obtain ⟨hk1,hk2,hk3⟩:=kid_struct hl hlt hu
    obtain ⟨xs,n',hn,rfl,h1,h2,h3⟩:=DataW.trod_struct hu h
    have hn':n'=n:=by omega
    subst hn'
    have hst:=hB.struct t fs _ hu hx
    obtain ⟨pss,hpl,hpss⟩:=mC fs.toList.length (λi r=>∃f,fs.toList[i]?=some f/\RepL (G0 w) r ((cs.drop f.offset).take (P.cellsOf f.type))/\aW P N n' f.type r) λi hi=>by
     have hf:fs.toList[i]?=some fs.toList[i]:=zgg hi
     have hfs:fs[i]?=some fs.toList[i]:=by rw [<-Array.getElem?_toList];exact hf
     have hxi:i<xs.length:=by rw [h2];simpa using hi
     have h3i:=h3 i _ hfs
     rw [zgg hxi] at h3i
     obtain ⟨r,r1,r2⟩:=ih _ _ _ (hk1 _ (List.mem_of_getElem? hf)) h3i (hst i _ _ hf (by simp [hxi]))
     exact ⟨r,_,hf,r1,r2⟩
    refine ⟨pss.flatten, ?_,by simp only [aW,hu];exact ⟨pss,rfl,uC hpl.symm λi f r hf hr=>by obtain ⟨f',e1,_,e2⟩:=hpss i r hr;rw [hf] at e1;injection e1 with e1;subst e1;exact e2⟩⟩
    let ns:=fs.toList.map λf=>P.cellsOf f.type
    have hflat:=nG ns cs 0 (by rw [h1,hk2];simp [ns])
    simp only [Nat.zero_add,List.drop_zero] at hflat
    rw [<-hflat]
    refine sA (uC (by simp [ns,hpl]) λi r v hr hv=> ?_)
    obtain ⟨f,e1,e2,_⟩:=hpss i r hr
    rw [List.getElem?_map] at hv
    have hi:i<fs.toList.length:=(zge.1 e1).1
    have hi':i<ns.length:=by simpa [ns] using hi
    rw [List.getElem?_range hi'] at hv
    simp only [Option.map_some] at hv
    injection hv with hv
    rw [<-hv]
    have eo:f.offset=(ns.take i).sum:=by rw [hk3 i f e1];simp [ns,List.map_take]
    have en:P.cellsOf f.type=ns.getD i 0:=by
     simp only [ns,List.getD_eq_getElem?_getD,List.getElem?_map,e1]
     rfl
    rw [<-eo,<-en]
    exact e2
   |array m e=>
    obtain ⟨hke,hk2⟩:=kid_array hl hlt hu
    obtain ⟨n',ds,hn,h1,h2,h3⟩:=aiA hu h
    have hn':n'=n:=by omega
    subst hn'
    rw [h2] at hx
    have har:=hB.array t m e _ hu hx
    obtain ⟨pss,hpl,hpss⟩:=mC m (λi r=>RepL (G0 w) r ((cs.drop (i*P.cellsOf e)).take (P.cellsOf e))/\aW P N n' e r) λi hi=>by
     obtain ⟨y,y1,y2⟩:=h3 i hi
     exact ih _ _ _ hke y1 (har _ y2)
    refine ⟨pss.flatten, ?_,by simp only [aW,hu];exact ⟨pss,rfl,hpl,λr hr=>by obtain ⟨i,hi⟩:=List.mem_iff_getElem?.1 hr;exact (hpss i r hi).2⟩⟩
    let ns:=List.replicate m (P.cellsOf e)
    have hflat:=nG ns cs 0 (by rw [h1,hk2];simp [ns])
    simp only [Nat.zero_add,List.drop_zero] at hflat
    rw [<-hflat]
    refine sA (uC (by simp [ns,hpl]) λi r v hr hv=> ?_)
    have hi:i<m:=by rw [<-hpl];exact (zge.1 hr).1
    rw [List.getElem?_map,List.getElem?_range (by simpa [ns] using hi)] at hv
    simp only [Option.map_some] at hv
    injection hv with hv
    rw [<-hv]
    have e1:(ns.take i).sum=i*P.cellsOf e:=by simp [ns,Nat.min_eq_left (Nat.le_of_lt hi)]
    have e2:ns.getD i 0=P.cellsOf e:=by simp [ns,hi]
    rw [e1,e2]
    exact (hpss i r hr).1
   |_=>exact plain λps=>by simp [aW,hu]
def nC (P:Program) (N:Nat) (t:TypeId) (p:PV):Prop:=
 ∃n,(bD P t=true/\∃cs,p= .agg cs/\aW P N n t cs)\/(bD P t=false/\aW P N n t [p])
theorem kC (hl:laidOutB P=true) (hz:∀t e,t<P.types.size->P.underlying t=some (.slice e)->0<P.cellsOf e) {B:TypeId->DataW H->Prop} {N:Nat} (hB:Bnd P B N) (hN:N<2^62) {w:World} {base:Nat} {t:TypeId} {v:Value} {d:DataW H} {q:List MemPlace}
  (ht:t<P.types.size) (hf:(match P.underlying t with|some .bool|some (.int _)|some .string|some (.slice _)|some (.struct _)|some (.array _ _)=>true|_=>false)=true) (h:DataW.Trod enc P w 0 (λ_=>true) true t v d q) (hv:Value.okWide P w .any base t v) (hd:B t d):∃p,Rep (G0 w) p v/\nC P N t p:=by
 obtain ⟨n,hn⟩:=h
 obtain ⟨ps,h1,h2⟩:=aC4 hl hz hB hN n t _ _ ht hn hd
 cases hu:P.underlying t with
 |none=>rw [hu] at hf;cases hf
 |some k=>
  rw [hu] at hf
  simp only [Value.okWide,hu] at hv
  have one:(∀c,v≠ .agg c)->bD P t=false->(ps.length=1->∃p,Rep (G0 w) p v/\nC P N t p):=λhne ha hps=>by
   match ps,hps with
   |[p],_=>
    have hc:v.cells.toList=[v]:=by cases v<;>first|rfl|exact absurd rfl (hne _)
    rw [hc] at h1
    simp only [RepL] at h1
    obtain ⟨v',vs',e1,e2,e3⟩:=h1
    injection e1 with e1 e4
    subst e1
    exact ⟨p,e2,n, .inr ⟨ha,h2⟩⟩
  have agg:(∃cs,v= .agg cs)->bD P t=true->∃p,Rep (G0 w) p v/\nC P N t p:=λ⟨cs,hc⟩ ha=>by
   subst hc
   exact ⟨.agg ps,by simp only [Rep];exact ⟨cs.toList,by simp,h1⟩,n, .inl ⟨ha,ps,rfl,h2⟩⟩
  have hlen:∀{k},P.underlying t=some k->(match k with| .bool| .int _| .string| .slice _=>True|_=>False)->ps.length=1:=fun {k} hk hm=>by
   cases n with
   |zero=>simp [aW] at h2
   |succ n=>
    simp only [aW,hk] at h2
    cases k<;>simp only at hm h2<;>try exact hm.elim
    ·obtain ⟨_,rfl⟩:=h2;rfl
    ·obtain ⟨_,rfl,_⟩:=h2;rfl
    ·obtain ⟨_,rfl,_⟩:=h2;rfl
    ·obtain ⟨_,rfl,_⟩:=h2;rfl
  cases k<;>simp only at hf hv<;>try (cases hf;done)
  ·exact one (λc e=>by subst e;simp [Cell.okWide,Cell.ok,hu] at hv) (by simp [bD,hu]) (hlen hu trivial)
  ·exact one (λc e=>by subst e;simp [Cell.okWide,Cell.ok,hu] at hv) (by simp [bD,hu]) (hlen hu trivial)
  ·exact one (λc e=>by subst e;simp [Cell.okWide,Cell.ok,hu] at hv) (by simp [bD,hu]) (hlen hu trivial)
  ·exact one (λc e=>by subst e;simp [Cell.okWide,Cell.ok,hu] at hv) (by simp [bD,hu]) (hlen hu trivial)
  ·obtain ⟨cs,hc,_⟩:=hv;exact agg ⟨cs,hc⟩ (by simp [bD,hu])
  ·obtain ⟨cs,hc,_⟩:=hv;exact agg ⟨cs,hc⟩ (by simp [bD,hu])
theorem auV {f:Func} {s:ChangeSpec} {apart fresh handsOn again:Bool} {W W':World} {args:Array Value} {ds gs:List (DataW H)} {before:List MemPlace} {tb:TypeId} (hW:DataW.Whole enc P f.params.toList s.vars apart W args.toList ds gs before) (hvars:s.vars=[]) (hl:laidOutB P=true)
  (hfn:s.fn H (ds++gs)={results:=[.lit (.bool true)],args:=ds}) (hr:f.resultTypes= #[tb]) (htb:P.underlying tb=some .bool) (hts:∀t∈f.params.toList,P.readableRec t=true/\t<P.types.size) (hb:Below W.heap.size W W'):
  s.post enc P f apart fresh handsOn again W args (.bool true) W':=by
 have hlt:=hW.lt
 have hold:∀p∈before,(λb=>decide (b<W.heap.size)) p.block=true:=λp hp=>by simpa using hlt p hp
 have hW':=hW
 obtain ⟨pa,pv,hA,hV,hps,hz,hn⟩:=hW
 rw [hvars] at hV
 obtain ⟨rfl,rfl⟩:=trodVars_none hV
 simp only [List.append_nil] at hps hfn
 subst hps
 have stays:∀{ts:List TypeId} {vs:List Value} {ds:List (DataW H)} {q:List MemPlace},(∀t∈ts,P.readableRec t=true/\t<P.types.size)->DataW.TrodAll enc P W 0 (λ_=>true) true ts vs ds q->(∀p∈q,p.block<W.heap.size)->∀sp:Nat->Bool,(∀p∈q,sp p.block=true)->DataW.TrodAll enc P W' 0 sp true ts vs ds q:=by
  intro ts
  induction ts with
  |nil=>
   intro vs ds q _ h _ sp _
   obtain ⟨rfl,rfl,rfl⟩:=trodAll_nil h
   rfl
  |cons t ts ih=>
   intro vs ds q hts h hq sp hs
   obtain ⟨v,vs1,d,ds1,a,b,rfl,rfl,rfl,h1,h2⟩:=trodAll_cons h
   refine ⟨a,b,WideElems.Trod_stays hl (hts t (by simp)).1 (hts t (by simp)).2 h1 (λx hx=>hb.same (hq x (by simp [hx]))) (λx hx=>hs x (by simp [hx])),ih (λt ht=>hts t (by simp [ht])) h2 (λx hx=>hq x (by simp [hx])) sp (λx hx=>hs x (by simp [hx])),rfl⟩
 have hargs:∀sp:Nat->Bool,(∀p∈before,sp p.block=true)->DataW.TrodAll enc P W' 0 sp true f.params.toList args.toList ds before:=stays hts hA hlt
 have hres:∀(b:Nat) (sp:Nat->Bool) (hd:Bool),DataW.TrodAll enc P W' b sp hd f.resultTypes.toList ((Value.bool true).resultList f.resultTypes.size) [.lit (.bool true)] []:=λb sp hd=>by
  rw [hr]
  exact trodAll_cons_mk (shut_bool htb true) trodAll_mk0
 have hvs:∀sp:Nat->Bool,DataW.TrodVars enc P W' sp s.vars ([]:List (DataW H)) []:=λsp=>by rw [hvars];rfl
 have hok:∀(j:Nat) (t:TypeId) (r:Value),f.resultTypes[j]?=some t->((Value.bool true).resultList f.resultTypes.size)[j]?=some r->Value.okWide P W' .any 0 t r:=by
  rw [hr];exact λj t r h1 h2=>ok_one (f:=f) hr rfl (okWide_bool_mk htb true) j t r (by rw [hr];exact h1) (by rw [hr];exact h2)
 refine ⟨ds,[],before,[],before,[],hW', ?_, ?_, ?_,World.keptBut_mono (λp hp=>hp.elim) (hb.frame (λ_=>False)),λ_=> ?_⟩
 ·simp only [List.append_nil];rw [hfn];exact hres _ _ _
 ·simp only [List.append_nil];rw [hfn];exact hargs _ hold
 ·simp only [List.append_nil];rw [hfn];exact hvs _
 ·refine ⟨hok,_,_,([]++before)++[],⟨[]++before,[],trodAll_append (hargs _ (λ_ _=>rfl)) (hres _ _ _),hvs _,rfl, ?_, ?_⟩, ?_⟩
  ·intro b off hp
   have hp':MemPlace.cell b off∈before:=by simpa using hp
   rw [hb.frozen (p:=⟨b,off,none⟩) (hlt _ hp')]
   exact hz b off hp'
  ·intro ha
   simpa using hn ha
  ·intro p hp _
   simpa using hp
theorem apP {fid:FuncId} {W:World} {vs:List Value} {ps:List PV} (hr:RepL (G0 W) ps vs) (h:PF P fid ps (.val (.bool true))):Calls P fid vs.toArray W λe W'=>e= .returned (.bool true)/\Below W.heap.size W W':=by
 refine ((h st0).2 W (G0 W) vs (aCL P W) hr).mono ?_
 rintro e w' ⟨v,r,st',g',rfl,⟨rfl,rfl⟩,h3,h4,h5,h6,h7⟩
 refine ⟨by rw [aK h3],h6.os,h6.tape.1,h6.output,h6.size,λb hb=> ?_⟩
 exact (h6.old b hb (λ⟨id,h1,_⟩=>h1 rfl)).1
end
end Go.Abs
namespace Go.Abs
open Go
section
variable {P:Program} {tt:TT} {N:Nat}
theorem azM {t:TypeId} (h:fM P t= .bool):P.underlying t=some .bool:=by
 unfold fM at h;split at h<;>simp_all
theorem bI (htt:bC P tt) {t:TypeId} {k:IntKind} (hk:tiK tt t=some (.int k)) {n:Nat} {ps:List PV} (h:aW P N n t ps):∃x,ps=[.val (.int k x)]/\(Lit.int k x).wf=true:=by
 cases n with
 |zero=>simp [aW] at h
 |succ n=>simpa only [aW,lX (aP htt hk).1] using h
theorem wN (htt:bC P tt) {t:TypeId} (hk:tiK tt t=some .bool) {n:Nat} {ps:List PV} (h:aW P N n t ps):∃x,ps=[.val (.bool x)]:=by
 cases n with
 |zero=>simp [aW] at h
 |succ n=>simpa only [aW,azM (aP htt hk).1] using h
theorem sN (htt:bC P tt) {t:TypeId} (hk:tiK tt t=some .str) {n:Nat} {ps:List PV} (h:aW P N n t ps):∃x,ps=[.val (.string x)]/\x.size<=N:=by
 cases n with
 |zero=>simp [aW] at h
 |succ n=>simpa only [aW,jQ (aP htt hk).1] using h
theorem bG (htt:bC P tt) {t e:TypeId} (hk:tiK tt t=some (.slice e)) {n:Nat} {ps:List PV} (h:aW P N n t ps):∃m rows,n=m+1/\ps=[.seq rows]/\rows.length<=N/\∀r∈rows,aW P N m e r:=by
 cases n with
 |zero=>simp [aW] at h
 |succ n=>
  simp only [aW,bP (aP htt hk).1] at h
  obtain ⟨rows,h1,h2,h3⟩:=h
  exact ⟨n,rows,rfl,h1,h2.1,h3⟩
theorem aaO (htt:bC P tt) {t e:TypeId} (hk:tiK tt t=some (.slice e)) {n:Nat} {ps:List PV} (h:aW P N n t ps):∃m rows,n=m+1/\ps=[.seq rows]/\rows.length*P.bytesOf e<=N/\∀r∈rows,aW P N m e r:=by
 cases n with
 |zero=>simp [aW] at h
 |succ n=>
  simp only [aW,bP (aP htt hk).1] at h
  obtain ⟨rows,h1,h2,h3⟩:=h
  exact ⟨n,rows,rfl,h1,h2.2,h3⟩
theorem bQ (htt:bC P tt) {t:TypeId} {fs:List (TypeId×Nat)} (hk:tiK tt t=some (.struct fs)) {n:Nat} {ps:List PV} (h:aW P N n t ps):∃(m:Nat) (pss:List (List PV)),n=m+1/\ps=pss.flatten/\All2 (λf r=>aW P N m f r) (fs.map (·.1)) pss:=by
 cases n with
 |zero=>simp [aW] at h
 |succ n=>
  obtain ⟨fields,hu,hfs⟩:=dM (aP htt hk).1
  simp only [aW,hu] at h
  obtain ⟨pss,h1,h2⟩:=h
  refine ⟨n,pss,rfl,h1, ?_⟩
  rw [<-hfs,List.map_map]
  exact h2.map_left
theorem anE (htt:bC P tt) {t e:TypeId} {k:Nat} (hk:tiK tt t=some (.arr k e)) {n:Nat} {ps:List PV} (h:aW P N n t ps):∃(m:Nat) (pss:List (List PV)),n=m+1/\ps=pss.flatten/\pss.length=k/\∀r∈pss,aW P N m e r:=by
 cases n with
 |zero=>simp [aW] at h
 |succ n=>
  simp only [aW,pK (aP htt hk).1] at h
  obtain ⟨pss,h1,h2,h3⟩:=h
  exact ⟨n,pss,rfl,h1,h2,h3⟩
theorem gI {α:Type} {f:α->List PV} {rows:List (List PV)} (h:∀r∈rows,∃a,r=f a):∃l:List α,rows=l.map f:=by
 induction rows with
 |nil=>exact ⟨[],rfl⟩
 |cons r rs ih=>
  obtain ⟨a,rfl⟩:=h r (by simp)
  obtain ⟨l,rfl⟩:=ih λr hr=>h r (by simp [hr])
  exact ⟨a::l,rfl⟩
theorem auA {α:Type} {f:α->List PV} {Q:α->Prop} {rows:List (List PV)} (h:∀r∈rows,∃a,r=f a/\Q a):∃l:List α,rows=l.map f/\∀a∈l,Q a:=by
 induction rows with
 |nil=>exact ⟨[],rfl,by simp⟩
 |cons r rs ih=>
  obtain ⟨a,rfl,hq⟩:=h r (by simp)
  obtain ⟨l,rfl,hl⟩:=ih λr hr=>h r (by simp [hr])
  refine ⟨a::l,rfl,λb hb=> ?_⟩
  rcases zmc.1 hb with rfl|hb
  ·exact hq
  ·exact hl b hb
def wB (P:Program) {H:Type} (t:TypeId) (d:DataW H):Prop:=∀n∈d.weights P t,n<=reachBytes
theorem iT {H:Type} {e:TypeId}:∀{ds:List (DataW H)} {d:DataW H},d∈ds->∀n∈d.weights P e,n∈DataW.weightsAll P e ds
 |[],_,h,_,_=>by cases h
 |x::ds,d,h,n,hn=>by
  simp only [DataW.weightsAll,zma]
  rcases zmc.1 h with rfl|h
  ·exact .inl hn
  ·exact .inr (iT h n hn)
theorem cH {H:Type}:∀{ts:List TypeId} {ds:List (DataW H)} {i:Nat} {t:TypeId} {d:DataW H},ts[i]?=some t->ds[i]?=some d->∀n∈d.weights P t,n∈DataW.weightsEach P ts ds
 |[],_,_,_,_,h,_,_,_=>by simp at h
 |_::_,[],_,_,_,_,h,_,_=>by simp at h
 |t0::ts,d0::ds,0,t,d,h1,h2,n,hn=>by
  simp at h1 h2;subst h1;subst h2
  simp only [DataW.weightsEach,zma];exact .inl hn
 |t0::ts,d0::ds,i+1,t,d,h1,h2,n,hn=>by
  simp at h1 h2
  simp only [DataW.weightsEach,zma];exact .inr (cH h1 h2 n hn)
theorem aBx {H:Type} (hb:∀t e,t<P.types.size->P.underlying t=some (.slice e)->1<=P.bytesOf e):Bnd P (wB P (H:=H)) reachBytes where
 str t b _ h:=h _ (by simp [DataW.weights])
 slice t e ds sp hlt hu h:=by
  simp only [wB,DataW.weights,hu] at h
  refine ⟨?_,λd hd n hn=>h n (by simp only [zmc,zma];exact .inr (.inl (iT hd n hn)))⟩
  have h1:=h _ (List.mem_cons_self)
  have h2:=hb t e hlt hu
  have h3:ds.length*1<=(ds.length+sp.length)*P.bytesOf e:=Nat.mul_le_mul (by omega) h2
  exact ⟨by omega,Nat.le_trans (Nat.mul_le_mul_right _ (Nat.le_add_right _ _)) h1⟩
 ptr t e d hu h n hn:=h n (by simp only [DataW.weights,hu];exact hn)
 struct t fs ds hu h i f d hf hd n hn:=h n (by
  simp only [DataW.weights,hu]
  exact cH (by rw [List.getElem?_map,hf];rfl) hd n hn)
 array t m e ds hu h d hd n hn:=h n (by simp only [DataW.weights,hu];exact iT hd n hn)
theorem yX (f:TypeId->TypeId->Bool) (h:((List.range P.types.size).all λt=>match P.underlying t with|some (.slice e)=>f t e|_=>true)=true):∀t e,t<P.types.size->P.underlying t=some (.slice e)->f t e=true:=by
 intro t e hlt ht
 have:=zal.1 h t (List.mem_range.2 hlt)
 rw [ht] at this
 exact this
end
end Go.Abs
