import Derived.Test.YtppdefkgmegipaaGreatDoorClAe
import Derived.Test.YtppdefkgmegipaaGreatDoorAbsE
set_option linter.unusedSimpArgs false
set_option linter.unusedVariables false
namespace Go.Proofs.YtppdefkgmegipaaGreatDoor.T
open Go Go.Abs
section
attribute [local irreducible] Ev PWp
set_option maxRecDepth 10000
set_option maxHeartbeats 4000000
instance (a b:Pt):Decidable (fI a b):=by unfold fI;infer_instance
def ahG (p:Pt):List Pt->List Pt
 |[]=>[p]
 |q::r=>if fI q p then q::ahG p r else p::q::r
def cB (l:List Pt) (k:Nm):List Pt:=(eJ l k).foldr ahG []
def dF (l:List Pt):Nat->Nm->List Pt
 |0,_=>[]
 |n+1,k=>(cB l k).flatMap λp=>p::dF l n (aV p)
def ajA (l:List Pt):Nat->Nm->Prop
 |0,k=>eJ l k=[]
 |n+1,k=>∀p∈eJ l k,ajA l n (aV p)
theorem uniq {α:Type} {r:α->α->Prop}:∀{l m:List α},l.Perm m->l.Pairwise r->m.Pairwise r->(∀a∈l,∀b∈l,r a b->r b a->a=b)->l=m
 |[],m,h,_,_,_=>(List.Perm.nil_eq h)
 |a::l,[],h,_,_,_=>(by cases List.Perm.eq_nil h)
 |a::l,b::m,h,h1,h2,ha=>by
  have hab:a=b:=by
   rcases zmc.1 (h.symm.subset (List.mem_cons_self:b∈b::m)) with e|e
   ·exact e.symm
   ·rcases zmc.1 (h.subset (List.mem_cons_self:a∈a::l)) with e'|e'
    ·exact e'
    ·exact ha a List.mem_cons_self b (List.mem_cons_of_mem _ e) ((List.pairwise_cons.1 h1).1 b e) ((List.pairwise_cons.1 h2).1 a e')
  subst hab
  rw [uniq ((List.perm_cons a).1 h) (List.pairwise_cons.1 h1).2 (List.pairwise_cons.1 h2).2 λx hx y hy=>ha x (List.mem_cons_of_mem _ hx) y (List.mem_cons_of_mem _ hy)]
theorem sJ (p:Pt):∀(l:List Pt),(ahG p l).Perm (p::l)
 |[]=> .refl _
 |q::r=>by
  unfold ahG
  split
  ·exact ((sJ p r).cons q).trans (.swap p q r)
  ·exact .refl _
theorem sX (p:Pt):∀(l:List Pt),(l.Pairwise λx y=>¬fI y x)->(ahG p l).Pairwise λx y=>¬fI y x
 |[],_=>by simp [ahG]
 |q::r,h=>by
  obtain ⟨h1,h2⟩:=List.pairwise_cons.1 h
  unfold ahG
  split
  ·rename_i hk
   refine List.pairwise_cons.2 ⟨λx hx=> ?_,sX p r h2⟩
   rcases zmc.1 ((sJ p r).subset hx) with rfl|hx
   ·rw [fT] at hk⊢;omega
   ·exact h1 x hx
  ·rename_i hk
   refine List.pairwise_cons.2 ⟨λx hx=> ?_,h⟩
   rcases zmc.1 hx with rfl|hx
   ·exact hk
   ·have:=h1 x hx
    rw [fT] at hk this⊢;omega
theorem gA (l:List Pt) (k:Nm):(cB l k).Perm (eJ l k):=by
 unfold cB
 generalize eJ l k=m
 induction m with
 |nil=>exact .refl _
 |cons p r ih=>exact (sJ p _).trans (ih.cons p)
theorem qA (l:List Pt) (k:Nm):(cB l k).Pairwise λx y=>¬fI y x:=by
 unfold cB
 generalize eJ l k=m
 induction m with
 |nil=>exact List.Pairwise.nil
 |cons p r ih=>exact sX p _ ih
def named (l:List Pt):Prop:=∀a∈l,∀b∈l,aV a=aV b->a=b
theorem alD {l:List Pt} (hn:named l) {a b:Pt} (ha:a∈l) (hb:b∈l) (h1:¬fI a b) (h2:¬fI b a):a=b:=by
 refine hn a ha b hb ?_
 rw [fT] at h1 h2
 rw [aV,aV,Nm.mk.injEq,Dt.ext_iff]
 omega
theorem arU {l R:List Pt} {k:Nm} (hn:named l) (hp:R.Perm (eJ l k)) (hs:R.Pairwise λx y=>¬fI y x):R=cB l k:=by
 refine uniq (hp.trans (gA l k).symm) hs (qA l k) λa ha b hb h1 h2=> ?_
 have hm:∀x∈R,x∈l:=λx hx=>(List.mem_filter.1 (hp.subset hx)).1
 exact alD hn (hm a ha) (hm b hb) h2 h1
structure HS (st:aD) (l:List Pt) (id5 id8 id9 idm:Nat) (K:List (Nm×(Nat×Nat))) (S:aD) (A:Nm->List Pt) (out:List Pt):Prop where
 old:∀j,st j≠none->S j=st j
 f5:st id5=none
 f8:st id8=none
 f9:st id9=none
 fm:st idm=none
 h5:S id5=some (.cells 304 [.mref idm])
 h9:S id9=some (.cells 305 [.fn 233 [.ref id5 0, .ref id8 0, .ref id9 0]])
 hm:S idm=some (.map (aY Nm.enc vI K))
 arr:∀k id n,(k,(id,n))∈K->S id=some (.arr 237 ((A k).map Pt.cells))/\n=(eJ l k).length/\st id=none
 ids:(K.map (·.2.1)).Nodup
 keys:(K.map (·.1)).Nodup
 non:∀k,dK k K=none->eJ l k=[]
 perm:∀k,(A k).Perm (eJ l k)
 h8:(S id8=some (.cells 91 [.val (.slice none 0 0)])/\out=[])\/∃ido,S id8=some (.cells 91 [.vec ido 11 0 out.length])/\S ido=some (.arr 237 (out.map Pt.cells))/\st ido=none/\∀k n,(k,(ido,n))∉K
section
variable {st S:aD} {l:List Pt} {id5 id8 id9 idm:Nat} {K:List (Nm×(Nat×Nat))} {A:Nm->List Pt} {out:List Pt}
theorem HS.sorted (h:HS st l id5 id8 id9 idm K S A out) {k:Nm} {id n:Nat} (hk:(k,(id,n))∈K) {R:List Pt} (hR:R.Perm (A k)):
  HS st l id5 id8 id9 idm K (upd S id (some (.arr 237 (R.map Pt.cells)))) (λk'=>if k'=k then R else A k') out:=by
 obtain ⟨a1,a2,a3⟩:=h.arr k id n hk
 have n5:id5≠id:=λe=>by rw [<-e,h.h5] at a1;cases a1
 have n9:id9≠id:=λe=>by rw [<-e,h.h9] at a1;cases a1
 have nm:idm≠id:=λe=>by rw [<-e,h.hm] at a1;cases a1
 have n8:id8≠id:=λe=>by rcases h.h8 with ⟨h8,_⟩|⟨ido,h8,_⟩<;>rw [<-e,h8] at a1<;>cases a1
 refine ⟨λj hj=> ?_,h.f5,h.f8,h.f9,h.fm,(aC n5).trans h.h5,(aC n9).trans h.h9,(aC nm).trans h.hm,λk' j m hk'=> ?_,h.ids,h.keys,h.non,λk'=> ?_, ?_⟩
 ·rw [aC (λe=>by subst e;exact hj a3)];exact h.old j hj
 ·obtain ⟨b1,b2,b3⟩:=h.arr k' j m hk'
  by_cases hj:j=id
  ·subst hj
   have:=rK h.ids hk hk' rfl
   simp only [Prod.mk.injEq] at this
   obtain ⟨rfl,_⟩:=this
   exact ⟨by rw [aA,zp rfl],b2,b3⟩
  ·refine ⟨?_,b2,b3⟩
   rw [aC hj,b1,zn]
   intro e
   subst e
   have hkk:∀{K:List (Nm×(Nat×Nat))},(K.map (·.1)).Nodup->(k',(id,n))∈K->(k',(j,m))∈K->id=j:=by
    intro K hn
    induction K with
    |nil=>intro h;cases h
    |cons x K ih=>
     intro h1 h2
     simp only [zmp,List.nodup_cons] at hn
     rcases zmc.1 h1 with e1|e1<;>rcases zmc.1 h2 with e2|e2
     ·rw [<-e1] at e2;exact (Prod.mk.inj (Prod.mk.inj e2).2).1.symm
     ·exact (hn.1 (List.mem_map.2 ⟨_,e2,by rw [<-e1]⟩)).elim
     ·exact (hn.1 (List.mem_map.2 ⟨_,e1,by rw [<-e2]⟩)).elim
     ·exact ih hn.2 e1 e2
   exact hj (hkk h.keys hk hk').symm
 ·by_cases hk':k'=k
  ·subst hk';simp only [if_true];exact hR.trans (h.perm k')
  ·simp only [zn hk'];exact h.perm k'
 ·rcases h.h8 with ⟨h8,e⟩|⟨ido,h8,b1,b2,b3⟩
  ·exact .inl ⟨(aC n8).trans h8,e⟩
  ·exact .inr ⟨ido,(aC n8).trans h8,(aC λe=>b3 k n (by rw [e];exact hk)).trans b1,b2,b3⟩
theorem HS.push (h:HS st l id5 id8 id9 idm K S A out) {S1:aD} {id':Nat} (p:Pt) (hid:S id'=none) (hS:∀j,S1 j=S j\/st j=none/\j≠id5/\j≠id9/\j≠idm/\∀k n,(k,(j,n))∉K):
  HS st l id5 id8 id9 idm K (upd (upd S1 id' (some (.arr 237 ((out++[p]).map Pt.cells)))) id8 (some (.cells 91 [.vec id' 11 0 (out.length+1)]))) A (out++[p]):=by
 have n5:id5≠id':=λe=>by rw [<-e,h.h5] at hid;cases hid
 have n9:id9≠id':=λe=>by rw [<-e,h.h9] at hid;cases hid
 have nm:idm≠id':=λe=>by rw [<-e,h.hm] at hid;cases hid
 have n8:id8≠id':=λe=>by rcases h.h8 with ⟨h8,_⟩|⟨ido,h8,_⟩<;>rw [<-e,h8] at hid<;>cases hid
 have m5:id5≠id8:=λe=>by have:=h.h5;rcases h.h8 with ⟨h8,_⟩|⟨ido,h8,_⟩<;>rw [e,h8] at this<;>cases this
 have m9:id9≠id8:=λe=>by have:=h.h9;rcases h.h8 with ⟨h8,_⟩|⟨ido,h8,_⟩<;>rw [e,h8] at this<;>cases this
 have mm:idm≠id8:=λe=>by have:=h.hm;rcases h.h8 with ⟨h8,_⟩|⟨ido,h8,_⟩<;>rw [e,h8] at this<;>cases this
 have hi:st id'=none:=by
  cases hs:st id' with
  |none=>rfl
  |some o=>have:=h.old id' (by rw [hs];simp);rw [hid,hs] at this;cases this
 have g:∀j,j≠id8->j≠id'->(∀h:st j=none/\j≠id5/\j≠id9/\j≠idm/\∀k n,(k,(j,n))∉K,False)->upd (upd S1 id' (some (.arr 237 ((out++[p]).map Pt.cells)))) id8 (some (.cells 91 [.vec id' 11 0 (out.length+1)])) j=S j:=λj h1 h2 h3=>by
  rw [aC h1,aC h2]
  rcases hS j with e|e
  ·exact e
  ·exact (h3 e).elim
 refine ⟨λj hj=> ?_,h.f5,h.f8,h.f9,h.fm,(g id5 m5 n5 λe=>e.2.1 rfl).trans h.h5,(g id9 m9 n9 λe=>e.2.2.1 rfl).trans h.h9,(g idm mm nm λe=>e.2.2.2.1 rfl).trans h.hm,λk j n hk=> ?_,h.ids,h.keys,h.non,h.perm, ?_⟩
 ·rw [g j (λe=>by subst e;exact hj h.f8) (λe=>by subst e;exact hj hi) λe=>hj e.1];exact h.old j hj
 ·obtain ⟨b1,b2,b3⟩:=h.arr k j n hk
  have e8:j≠id8:=λe=>by rcases h.h8 with ⟨h8,_⟩|⟨ido,h8,_⟩<;>rw [e,h8] at b1<;>cases b1
  have e':j≠id':=λe=>by rw [e,hid] at b1;cases b1
  rw [g j e8 e' λe=>e.2.2.2.2 k n hk]
  exact ⟨b1,b2,b3⟩
 ·refine .inr ⟨id',by rw [aA];simp,by rw [aC (Ne.symm n8),aA],hi,λk n hk=> ?_⟩
  have:=(h.arr k id' n hk).1
  rw [hid] at this;cases this
theorem fU {k:Nm} {p:Pt} (h:p∈cB l k):p∈l/\p∈eJ l k:=by
 have:=(gA l k).subset h
 exact ⟨(List.mem_filter.1 this).1,this⟩
theorem amS (hn:named l) (hf:∀p∈l,cU p=true) (h62:l.length<4611686018427387904):∀(n:Nat) (up:Nm) (S:aD) (A:Nm->List Pt) (out:List Pt),ajA l n up->out.length+(dF l n up).length<=1000000->HS st l id5 id8 id9 idm K S A out->
  PC Tryz.prog 233 [.agg up.cells, .ref id5 0, .ref id8 0, .ref id9 0] S λ_ S'=>∃A',HS st l id5 id8 id9 idm K S' A' (out++dF l n up)/\∀k,A k=cB l k->A' k=cB l k:=by
 intro n
 induction n using Nat.strongRecOn with
 |ind n ih=> ?_
 intro up S A out hd hB h
 have hk:∀p∈eJ l up,n≠0/\ajA l (n-1) (aV p):=λp hp=>by
  cases n with
  |zero=>rw [show eJ l up=[] from hd] at hp;cases hp
  |succ n=>exact ⟨by omega,hd p hp⟩
 have hh:dF l n up=(cB l up).flatMap λp=>p::dF l (n-1) (aV p):=by
  cases n with
  |zero=>rw [show cB l up=[] from List.Perm.eq_nil ((gA l up).trans (by rw [show eJ l up=[] from hd]))];rfl
  |succ n=>rfl
 rw [hh] at hB
 rw [hh]
 clear hh hd
 have hh5:=h.h5
 have hhm:=h.hm
 refine pC Tryz.func233 rfl ?_
 (repeat' first|apply wZ;rfl|show Cn _;constructor|apply ldR pk;rfl;rfl;rotate_left;rfl;(assumption);rfl;rfl|(apply auD pk Nm.key (f:=vI);(iterate 5 rfl);rotate_left;rfl;(assumption);rfl;intro v hv;rotate_left;intro hv;rotate_left))
 ·obtain ⟨id,m⟩:=v
  have hmem:=mR hv
  obtain ⟨a1,a2,a3⟩:=h.arr _ _ _ hmem
  have hlen:(A up).length=m:=by rw [(h.perm up).length_eq,a2]
  have hAf:∀p∈A up,cU p=true:=λp hp=>hf p (List.mem_filter.1 ((h.perm up).subset hp)).1
  have h62':m<4611686018427387904:=by have:=afQ l up;omega
  (repeat' first|(apply cP;rfl;(apply (aiW (l:=A up) hAf)<;>(assumption));rintro _ st' (⟨R,rfl,hR1,hR2⟩))|apply wZ;rfl|show Cn _;constructor|apply wY;rfl)
  obtain rfl:R=cB l up:=arU hn (hR1.trans (h.perm up)) hR2
  have h:=h.sorted hmem hR1
  have hm':(cB l up).length=m:=by rw [hR1.length_eq,hlen]
  have hA0:∀k,A k=cB l k->(if k=up then cB l up else A k)=cB l k:=λk hk=>by
   by_cases e:k=up
   ·rw [zp e,e]
   ·rw [zn e,hk]
  obtain ⟨A1,h,hA1,hA2⟩:∃A1,HS st l id5 id8 id9 idm K (upd S id (some (.arr 237 ((cB l up).map Pt.cells)))) A1 out/\A1 up=cB l up/\∀k,A k=cB l k->A1 k=cB l k:=⟨_,h,by simp,hA0⟩
  clear hA0 hAf hR1 hR2 hlen a1 a3 hh5 hhm
  refine aG (X:={x:Nat×aD×(Nm->List Pt)//x.1<=m/\HS st l id5 id8 id9 idm K x.2.1 x.2.2 (out++((cB l up).take x.1).flatMap λp=>p::dF l (n-1) (aV p))/\x.2.2 up=cB l up/\∀k,A k=cB l k->x.2.2 k=cB l k}) (λi=>((((((St.nil 28 (i.1.2.1)).pv 2 (.ref id8 0)).pv 3 (.ref id9 0)).pv 13 (.vec id 11 0 m)).pv 14 ((vi ((m:Nat))))).pv 15 ((vi ((i.1.1:Nat)))))) (λi=>m-i.1.1) ⟨(0,_,A1),by simp,by simpa using h,hA1,hA2⟩ ?_ (λi=> ?_)
  ·(repeat' first|show Cn (.t _ _);exact Cn.t0|show Cn _;constructor|exact rfl)
  clear h hA1 hA2
  obtain ⟨⟨i,S1,A1⟩,hi,h,hA1,hA2⟩:=i
  simp only at hi h hA1 hA2
  dsimp only
  have b1:=(h.arr _ _ _ hmem).1
  rw [hA1] at b1
  generalize ho:(out++((cB l up).take i).flatMap λp=>p::dF l (n-1) (aV p))=o1 at h
  have hg:i<m->∃p,(cB l up)[i]?=some p:=λhi=>⟨_,zgg (by omega)⟩
  have hh8:=h.h8
  have hH:=h
  by_cases him:i<m
  ·obtain ⟨p,hp⟩:=hg him
   have hp1:=fU (List.mem_of_getElem? hp)
   obtain ⟨hn0,hdp⟩:=hk p hp1.2
   have hsplit:(cB l up).take (i+1)=(cB l up).take i++[p]:=by rw [List.take_add_one,hp];rfl
   have ho2:(o1++[p])++dF l (n-1) (aV p)=out++((cB l up).take (i+1)).flatMap λp=>p::dF l (n-1) (aV p):=by
    rw [hsplit,<-ho];simp
   have hlen:o1.length+1+(dF l (n-1) (aV p)).length<=1000000:=by
    have e1:=congrArg List.length ho2
    have e2:cB l up=(cB l up).take (i+1)++(cB l up).drop (i+1):=(List.take_append_drop _ _).symm
    rw [e2,List.flatMap_append,zla] at hB
    simp only [zla,List.length_singleton] at e1
    omega
   rcases hh8 with ⟨h8,e8⟩|⟨ido,h8,c1,c2,c3⟩
   ·subst e8
    (repeat' first|apply wZ;rfl|show Cn _;constructor|apply ldR pk;rfl;rfl;rotate_left;rfl;(assumption);rfl;rfl|apply ldL pk Pt.elem (a:=p);rfl;rfl;rotate_left;rfl;(assumption);(intro _;exact hp);rfl|(apply ap0 pk (f:=Pt.cells) [p] 96;(iterate 10 rfl);exact λ_=>rfl;exact λ_=>rfl;exact abA;((focus (simp;done)));((focus (simp;done)));rfl;intro id' hid')|apply ixA pk;(iterate 5 rfl);rotate_left;rfl;(intro hw;(exact (show _=((i:Nat):Int) from by omega)));(intro hw;(omega));rfl;(exact Nat.zero_add _)|omega|(intro h;simp at h))
    have hid'':S1 id'=none:=hid'
    have n8:id8≠id':=λe=>by rw [<-e,h8] at hid'';cases hid''
    have q:=hH.push p hid'' (S1:=S1) λj=> .inl rfl
    have q9:=q.h9
    apply stR pk;rfl;rfl;exact (aC n8).trans h8;rfl;rfl
    (repeat' first|apply wD pk [3] [0];kernel_rfl;rfl;rfl|(apply Cn.cf;focus ((apply kR);done))|(apply cP;rfl;(apply (ih (n-1) (by omega) (aV p) _ _ _ hdp (by simp only [zla,List.length_singleton] at hlen⊢;omega) q));rintro _ st' (⟨A2,hA3,hA4⟩))|(refine ⟨⟨(i+1,st',A2),by simp only;omega,by simp only;rw [<-ho2];exact hA3,hA4 up hA1,λk e=>hA4 k (hA2 k e)⟩, ?_, ?_⟩)|show Cn (.t _ _);exact Cn.t0|apply wZ;rfl|show Cn _;constructor|exact rfl|apply ldR pk;rfl;rfl;rotate_left;rfl;(assumption);rfl;rfl|apply wY;rfl|omega|simp only [zql];omega)
   ·(repeat' first|apply wZ;rfl|show Cn _;constructor|apply ldR pk;rfl;rfl;rotate_left;rfl;(assumption);rfl;rfl|apply ldL pk Pt.elem (a:=p);rfl;rfl;rotate_left;rfl;(assumption);(intro _;exact hp);rfl|(apply apV pk (f:=Pt.cells) [p] 96;(iterate 9 rfl);(assumption);(omega);exact λ_=>rfl;exact λ_=>rfl;exact abA;((focus (simp;omega)));((focus (simp;omega)));rfl;intro id' hid')|apply ixA pk;(iterate 5 rfl);rotate_left;rfl;(intro hw;(exact (show _=((i:Nat):Int) from by omega)));(intro hw;(omega));rfl;(exact Nat.zero_add _)|omega|(intro h;simp at h))
    have hid'':S1 id'=none:=hid'
    have n8:id8≠id':=λe=>by rw [<-e,h8] at hid'';cases hid''
    have m8:id8≠ido:=λe=>by rw [<-e,h8] at c1;cases c1
    have q:=hH.push p hid'' (S1:=upd S1 ido none) λj=>by
     by_cases e:j=ido
     ·subst e
      exact .inr ⟨c2,(λe=>by rw [e,hH.h5] at c1;cases c1),(λe=>by rw [e,hH.h9] at c1;cases c1),(λe=>by rw [e,hH.hm] at c1;cases c1),c3⟩
     ·exact .inl (aC e)
    have q9:=q.h9
    apply stR pk;rfl;rfl;exact (aC n8).trans ((aC m8).trans h8);rfl;rfl
    (repeat' first|apply wD pk [3] [0];kernel_rfl;rfl;rfl|(apply Cn.cf;focus ((apply kR);done))|(apply cP;rfl;(apply (ih (n-1) (by omega) (aV p) _ _ _ hdp (by simp only [zla,List.length_singleton] at hlen⊢;omega) q));rintro _ st' (⟨A2,hA3,hA4⟩))|(refine ⟨⟨(i+1,st',A2),by simp only;omega,by simp only;rw [<-ho2];exact hA3,hA4 up hA1,λk e=>hA4 k (hA2 k e)⟩, ?_, ?_⟩)|show Cn (.t _ _);exact Cn.t0|apply wZ;rfl|show Cn _;constructor|exact rfl|apply ldR pk;rfl;rfl;rotate_left;rfl;(assumption);rfl;rfl|apply wY;rfl|omega|simp only [zql];omega)
  ·have hfin:HS st l id5 id8 id9 idm K S1 A1 (out++(cB l up).flatMap λp=>p::dF l (n-1) (aV p)):=by
    rw [ztl (by omega)] at ho;rw [ho];exact h
   (repeat' first|show Cn (.r _ _ _);refine .rr ?_;((exact ⟨A1,hfin,hA2⟩));done|apply wZ;rfl|show Cn _;constructor|omega|(intro h;simp at h))
 ·have hk0:=h.non _ hv
  have hs0:cB l up=[]:=List.Perm.eq_nil ((gA l up).trans (by rw [hk0]))
  have hfin:HS st l id5 id8 id9 idm K S A (out++(cB l up).flatMap λp=>p::dF l (n-1) (aV p)):=by
   rw [hs0];simpa using h
  (repeat' first|(apply cP;rfl;((apply arN));(rintro _ st' rfl))|apply wZ;rfl|show Cn _;constructor|apply wY;rfl)
  refine aG (X:=Unit) (λi=>((((((St.nil 28 (st')).pv 2 (.ref id8 0)).pv 3 (.ref id9 0)).pv 13 (.val (.slice none 0 0))).pv 14 ((vi (((([]:List (List PV)).length:Nat):Int))))).pv 15 ((vi (0))))) (λi=>0) () ?_ (λi=> ?_)
  ·(repeat' first|show Cn (.t _ _);exact Cn.t0|show Cn _;constructor|exact rfl)
  have hfin':HS st l id5 id8 id9 idm K st' A (out++(cB l up).flatMap λp=>p::dF l (n-1) (aV p)):=hfin
  (repeat' first|show Cn (.r _ _ _);refine .rr ?_;((exact ⟨A,hfin',λ_ h=>h⟩));done|apply wZ;rfl|show Cn _;constructor)
end
end
section
set_option maxRecDepth 10000
set_option maxHeartbeats 4000000
structure Inv (l:List Pt):Prop where
 formed:∀p∈l,cU p=true
 nodup:(l.map aV).Nodup
 times:∀p∈l,∀q∈l,p.dot=q.dot->p.time=q.time
theorem pV {α β:Type} {g:α->β}:∀{l:List α},(l.map g).Nodup->∀{a b},a∈l->b∈l->g a=g b->a=b
 |[],_,_,_,h,_,_=>by cases h
 |x::l,hn,a,b,ha,hb,e=>by
  simp only [zmp,List.nodup_cons] at hn
  rcases zmc.1 ha with ha|ha<;>rcases zmc.1 hb with hb|hb
  ·rw [ha,hb]
  ·exact (hn.1 (List.mem_map.2 ⟨b,hb,by rw [<-e,ha]⟩)).elim
  ·exact (hn.1 (List.mem_map.2 ⟨a,ha,by rw [e,hb]⟩)).elim
  ·exact pV hn.2 ha hb e
theorem Inv.named {l:List Pt} (h:Inv l):named l:=λ_ ha _ hb e=>pV h.nodup ha hb e
theorem ayI {α:Type} {C:List α->Prop} (h0:C []) (h1:∀l p,C l->C (l++[p])) (l:List α):C l:=by
 have:∀r,C (List.reverse r):=λr=>by
  induction r with
  |nil=>exact h0
  |cons p r ih=>rw [List.reverse_cons];exact h1 _ p ih
 have:=this l.reverse
 rwa [List.reverse_reverse] at this
theorem sD {K V:Type} [DecidableEq K] (f:Pt->K) (g:Pt->V) (l:List Pt) (p:Pt):(l++[p]).foldl (λm p=>cX (f p) (g p) m) []=cX (f p) (g p) (l.foldl (λm p=>cX (f p) (g p) m) []):=by
 rw [List.foldl_append];rfl
theorem adD {K V:Type} [DecidableEq K] (f:Pt->K) (g:Pt->V) (k:K) (l:List Pt):
  (∀v,dK k (l.foldl (λm p=>cX (f p) (g p) m) [])=some v->∃q∈l,f q=k/\g q=v)/\(dK k (l.foldl (λm p=>cX (f p) (g p) m) [])=none->∀q∈l,f q≠k):=by
 induction l using ayI with
 |h0=>exact ⟨λv h=>(by cases h),λ_ q h=>(by cases h)⟩
 |h1 l p ih=>
  rw [sD]
  refine ⟨λv h=> ?_,λh q hq=> ?_⟩
  ·rw [nR] at h
   split at h
   ·rename_i e;injection h with h;exact ⟨p,by simp,e.symm,h⟩
   ·obtain ⟨q,hq,h2⟩:=ih.1 v h;exact ⟨q,by simp [hq],h2⟩
  ·rw [nR] at h
   split at h
   ·cases h
   ·rename_i e
    rcases zma.1 hq with hq|hq
    ·exact ih.2 h q hq
    ·rw [zms.1 hq];exact λe'=>e e'.symm
theorem yS (l:List Pt) (k:Nm):(∀v,dK k (cR l)=some v->v∈l/\aV v=k)/\(dK k (cR l)=none->∀q∈l,aV q≠k):=by
 obtain ⟨h1,h2⟩:=adD aV id k l
 exact ⟨λv hv=>by obtain ⟨q,a,b,c⟩:=h1 v hv;exact ⟨c▸a,c▸b⟩,h2⟩
theorem amR (l:List Pt) (k:Dt):(∀v,dK k (dG l)=some v->∃q∈l,q.dot=k/\q.time=v)/\(dK k (dG l)=none->∀q∈l,q.dot≠k):=adD (·.dot) (·.time) k l
theorem aiU {d:List Pt} (h:Inv d) (p:Pt):pB (cR d) (dG d) p=true↔(∀q∈d,aV q≠aV p)/\cU p=true/\∀q∈d,q.dot=p.dot->q.time=p.time:=by
 obtain ⟨a1,a2⟩:=yS d (aV p)
 obtain ⟨b1,b2⟩:=amR d p.dot
 unfold pB
 simp only [Bool.not_eq_true',Bool.or_eq_false_iff]
 constructor
 ·rintro ⟨⟨h1,h2⟩,h3⟩
  refine ⟨a2 (by simpa using h1),by simpa using h2,λq hq e=> ?_⟩
  cases ht:dK p.dot (dG d) with
  |none=>exact absurd e (b2 ht q hq)
  |some t=>
   rw [ht] at h3
   obtain ⟨r,hr,r1,r2⟩:=b1 t ht
   have:t=p.time:=by simpa using h3
   rw [<-this,<-r2]
   exact h.times q hq r hr (by rw [e,r1])
 ·rintro ⟨h1,h2,h3⟩
  refine ⟨⟨?_,by simpa using h2⟩, ?_⟩
  ·cases hm:dK (aV p) (cR d) with
   |none=>rfl
   |some v=>obtain ⟨c1,c2⟩:=a1 v hm;exact absurd c2 (h1 v c1)
  ·cases ht:dK p.dot (dG d) with
   |none=>rfl
   |some t=>obtain ⟨r,hr,r1,r2⟩:=b1 t ht;simp [<-r2,h3 r hr r1]
theorem Inv.snoc_iff {d:List Pt} (h:Inv d) (p:Pt):Inv (d++[p])↔(∀q∈d,aV q≠aV p)/\cU p=true/\∀q∈d,q.dot=p.dot->q.time=p.time:=by
 constructor
 ·intro k
  have hn:=k.nodup
  rw [List.map_append,List.nodup_append] at hn
  exact ⟨λq hq e=>hn.2.2 _ (List.mem_map.2 ⟨q,hq,rfl⟩) _ (by simp) e,k.formed p (by simp),λq hq e=>k.times q (by simp [hq]) p (by simp) e⟩
 ·rintro ⟨h1,h2,h3⟩
  refine ⟨λq hq=> ?_, ?_,λa ha b hb e=> ?_⟩
  ·rcases zma.1 hq with hq|hq
   ·exact h.formed q hq
   ·rw [zms.1 hq];exact h2
  ·rw [List.map_append,List.nodup_append]
   refine ⟨h.nodup,by simp,λa ha b hb e=> ?_⟩
   obtain ⟨q,hq,rfl⟩:=List.mem_map.1 ha
   simp only [zmp,List.map_nil,zms] at hb
   exact h1 q hq (e.trans hb)
  ·rcases zma.1 ha with ha|ha<;>rcases zma.1 hb with hb|hb
   ·exact h.times a ha b hb e
   ·rw [zms.1 hb] at e⊢;exact h3 a ha e
   ·rw [zms.1 ha] at e⊢;exact (h3 b hb e.symm).symm
   ·rw [zms.1 ha,zms.1 hb]
theorem Inv.pre {d r:List Pt} (h:Inv (d++r)):Inv d:=by
 refine ⟨λp hp=>h.formed p (by simp [hp]), ?_,λp hp q hq=>h.times p (by simp [hp]) q (by simp [hq])⟩
 have:=h.nodup
 rw [List.map_append,List.nodup_append] at this
 exact this.1
theorem oR :∀(r d:List Pt),Inv d->(gO r (cR d) (dG d)=true↔Inv (d++r))
 |[],d,h=>by simp [gO,h]
 |p::r,d,h=>by
  have e1:cX (aV p) p (cR d)=cR (d++[p]):=(sD aV id d p).symm
  have e2:cX p.dot p.time (dG d)=dG (d++[p]):=(sD (·.dot) (·.time) d p).symm
  rw [gO,zba,aiU h,<-h.snoc_iff,e1,e2]
  have e3:d++p::r=(d++[p])++r:=by simp
  constructor
  ·rintro ⟨h1,h2⟩
   rw [e3];exact (oR r _ h1).1 h2
  ·intro h1
   rw [e3] at h1
   exact ⟨h1.pre,(oR r _ h1.pre).2 h1⟩
structure Whole (l:List Pt):Prop extends Inv l where
 up:∀p∈l,bB p=Nm.zero\/∃u∈l,aV u=bB p/\eR u p=true
theorem gD (l:List Pt):fA l=true↔Whole l:=by
 have h0:Inv []:=⟨λ_ h=>(by cases h),List.nodup_nil,λ_ h=>(by cases h)⟩
 unfold fA
 rw [zba,show gO l [] []=gO l (cR []) (dG []) from rfl,oR l [] h0,List.nil_append,zal]
 have hup:∀p,Inv l->(aoF (cR l) p=true↔(bB p=Nm.zero\/∃u∈l,aV u=bB p/\eR u p=true)):=λp hI=>by
  obtain ⟨a1,a2⟩:=yS l (bB p)
  unfold aoF
  rw [Bool.or_eq_true,zde]
  refine or_congr Iff.rfl ?_
  cases hm:dK (bB p) (cR l) with
  |none=>simp only [Bool.false_eq_true,false_iff];rintro ⟨u,hu,e,_⟩;exact a2 hm u hu e
  |some v=>
   obtain ⟨c1,c2⟩:=a1 v hm
   constructor
   ·intro h;exact ⟨v,c1,c2,h⟩
   ·rintro ⟨u,hu,e,h⟩
    rw [hI.named v c1 u hu (by rw [c2,e])];exact h
 constructor
 ·rintro ⟨h1,h2⟩;exact ⟨h1,λp hp=>(hup p h1).1 (h2 p hp)⟩
 ·intro h;exact ⟨h.toInv,λp hp=>(hup p h.toInv).2 (h.up p hp)⟩
instance (l :List Pt):Decidable (Whole l):=decidable_of_iff _ (gD l)
theorem kE (p q:Pt):eR p q=true↔p.time<q.time\/p.time=q.time/\(p.dot.dev<q.dot.dev\/p.dot.dev=q.dot.dev/\(p.dot.seq<q.dot.seq\/p.dot.seq=q.dot.seq/\p.at_<q.at_)):=by
 unfold eR
 rw [Bool.or_eq_true,yN,zba,zde,zde,Sp.ext_iff]
 simp only [cJ]
 omega
theorem tO {p:Pt} (h:cU p=true):aV p≠Nm.zero:=by
 intro e
 simp only [cU,atC,gY,zba,zde] at h
 have h1:=h.1.2.1.1.1
 rw [e] at h1
 have h2:(1:Int)<=0:=h1
 omega
theorem auZ {l:List Pt} (h:Whole l) {u p:Pt} (hu:u∈l) (hp:p∈eJ l (aV u)):p∈l/\eR u p=true:=by
 obtain ⟨h1,h2⟩:=List.mem_filter.1 hp
 have h2:bB p=aV u:=by simpa using h2
 refine ⟨h1, ?_⟩
 rcases h.up p h1 with e|⟨v,hv,e,ha⟩
 ·exact absurd (h2.symm.trans e) (tO (h.formed u hu))
 ·rw [h.named u hu v hv (by rw [e,h2])];exact ha
theorem rM {l:List Pt} {f g:Pt->Bool} {a:Pt} (ha:a∈l) (hg:g a=true) (hf:f a=false) (hfg:∀q∈l,f q=true->g q=true):(l.filter f).length<(l.filter g).length:=by
 induction l with
 |nil=>cases ha
 |cons x l ih=>
  have hle:(l.filter f).length<=(l.filter g).length:=by
   clear ih ha
   induction l with
   |nil=>simp
   |cons y l ih=>
    have:=ih λq hq=>hfg q (by rcases zmc.1 hq with h|h<;>simp [h])
    rw [List.filter_cons,List.filter_cons]
    by_cases h1:f y=true
    ·rw [zp h1,zp (hfg y (by simp) h1)];simp;omega
    ·rw [zn h1];split<;>simp<;>omega
  rw [List.filter_cons,List.filter_cons]
  rcases zmc.1 ha with e|ha
  ·subst e;rw [zp hg,zn (by simp [hf])];simp;omega
  ·have:=ih ha λq hq=>hfg q (by simp [hq])
   by_cases h1:f x=true
   ·rw [zp h1,zp (hfg x (by simp) h1)];simp;omega
   ·rw [zn h1];split<;>simp<;>omega
theorem alO {l:List Pt} (h:Whole l):∀(n:Nat) (u:Pt),u∈l->(l.filter (eR u)).length<=n->ajA l n (aV u)
 |0,u,hu,hn=>by
  show eJ l (aV u)=[]
  cases hk:eJ l (aV u) with
  |nil=>rfl
  |cons p r=>
   obtain ⟨h1,h2⟩:=auZ h hu (p:=p) (by rw [hk];simp)
   have:p∈l.filter (eR u):=List.mem_filter.2 ⟨h1,h2⟩
   rw [List.length_eq_zero_iff.1 (Nat.le_zero.1 hn)] at this
   cases this
 |n+1,u,hu,hn=>λp hp=>by
  obtain ⟨h1,h2⟩:=auZ h hu hp
  refine alO h n p h1 ?_
  have:(l.filter (eR p)).length<(l.filter (eR u)).length:=rM (a:=p) h1 h2 (by rw [<-Bool.not_eq_true,kE];omega) λq _ hq=>by
   rw [kE] at h2 hq⊢;omega
  omega
theorem aeK {l:List Pt} (h:Whole l):ajA l l.length Nm.zero:=by
 cases hl:l.length with
 |zero=>rw [List.length_eq_zero_iff.1 hl];rfl
 |succ n=>
   intro p hp
   have hp:=(List.mem_filter.1 hp).1
   refine alO h n p hp ?_
   have:(l.filter (eR p)).length<(l.filter λ_=>true).length:=rM hp rfl (by rw [<-Bool.not_eq_true,kE];omega) λ_ _ _=>rfl
   have e:(l.filter λ_=>true)=l:=List.filter_eq_self.2 λ_ _=>rfl
   rw [e] at this
   omega
end
section
attribute [local irreducible] Ev PWp
set_option maxRecDepth 10000
set_option maxHeartbeats 4000000
theorem FamB.toHS {st S:aD} {l:List Pt} {idm id5 id8 id9:Nat} {K:List (Nm×(Nat×Nat))} (h:FamB st l idm K S) {c5 c8 c9 c9':AObj} (h5:S id5=none) (h8:upd S id5 (some c5) id8=none) (h9:upd (upd S id5 (some c5)) id8 (some c8) id9=none)
  (e5:c5= .cells 304 [.mref idm]) (e8:c8= .cells 91 [.val (.slice none 0 0)]) (e9:c9'= .cells 305 [.fn 233 [.ref id5 0, .ref id8 0, .ref id9 0]]):
  HS st l id5 id8 id9 idm K (upd (upd (upd (upd S id5 (some c5)) id8 (some c8)) id9 (some c9)) id9 (some c9')) (eJ l) []:=by
 subst e5 e8 e9
 have n85:id8≠id5:=λe=>by rw [e,aA] at h8;cases h8
 rw [aC n85] at h8
 have n98:id9≠id8:=λe=>by rw [e,aA] at h9;cases h9
 rw [aC n98] at h9
 have n95:id9≠id5:=λe=>by rw [e,aA] at h9;cases h9
 rw [aC n95] at h9
 have g:∀j,S j≠none->j≠id5/\j≠id8/\j≠id9:=λj hj=>⟨λe=>hj (e▸h5),λe=>hj (e▸h8),λe=>hj (e▸h9)⟩
 have gg:∀j,S j≠none->(upd (upd (upd (upd S id5 (some (.cells 304 [.mref idm]))) id8 (some (.cells 91 [.val (.slice none 0 0)]))) id9 (some c9)) id9 (some (.cells 305 [.fn 233 [.ref id5 0, .ref id8 0, .ref id9 0]]))) j=S j:=λj hj=>by
  obtain ⟨a,b,c⟩:=g j hj
  rw [aC c,aC c,aC b,aC a]
 refine ⟨λj hj=> ?_,(h.fresh h5).1,(h.fresh h8).1,(h.fresh h9).1,h.mf, ?_,aA _ _ _,(gg idm (by rw [h.hm];simp)).trans h.hm,λk id n hk=> ?_,h.ids,h.keys,h.non,λk=> .refl _, .inl ⟨?_,rfl⟩⟩
 ·have:=h.old j hj
  rw [gg j (by rw [this];exact hj)];exact this
 ·rw [aC (Ne.symm n95),aC (Ne.symm n95),aC (Ne.symm n85),aA]
 ·obtain ⟨a1,a2,a3⟩:=h.arr k id n hk
  exact ⟨(gg id (by rw [a1];simp)).trans a1,a2,a3⟩
 ·rw [aC (Ne.symm n98),aC (Ne.symm n98),aA]
def eQ (l:List Pt):List Pt:=if fA l=true/\l.length<=2000 then dF l l.length Nm.zero else []
theorem arW (l:List Pt) (st:aD) (hl:l.length<4611686018427387904) (hlen:fA l=true->(dF l l.length Nm.zero).length=l.length):PC Tryz.prog 191 [.seq (l.map Pt.cells)] st (LR 237 11 st ((eQ l).map Pt.cells)):=by
 refine pC Tryz.func191 rfl ?_
 (repeat' first|(apply Cn.cf;focus ((apply (uK l hl));done))|show Cn (.r _ _ _);refine .rr ?_;((have e:eQ l=[]:=(by unfold eQ;rw [zn];rintro ⟨q1,q2⟩;rcases ‹_\/_›with q|q;(rw [q1] at q;cases q);omega);exact .inr ⟨rfl,by rw [e];rfl,zsr _⟩));done|apply wZ;rfl|show Cn _;constructor|apply wY;rfl|(intro h;simp at h))
 have hW:fA l=true/\l.length<=2000:=⟨h.1,by omega⟩
 have hWh:=(gD l).1 hW.1
 have hlen:=hlen hW.1
 have hord:eQ l=dF l l.length Nm.zero:=by unfold eQ;rw [zp hW]
 refine mkM (enc:=Nm.enc) (f:=vI) rfl (λidm hidm=> ?_)
 have hidm:st idm=none:=hidm
 (repeat' first|apply wZ;rfl|show Cn _;constructor)
 refine aG (X:={x:Nat×aD×List (Nm×(Nat×Nat))//x.1<=l.length/\FamB st (l.take x.1) idm x.2.2 x.2.1}) (λi=>(((((St.nil 45 (i.1.2.1)).var 5 304 ([.mref idm])).pv 23 (.seq (l.map Pt.cells))).pv 24 ((vi ((((l.map Pt.cells)).length:Nat))))).pv 25 ((vi ((i.1.1:Nat)))))) (λi=>l.length-i.1.1) ⟨(0,upd st idm (some (.map (aY Nm.enc vI []))),[]),by simp,FamB.nil hidm⟩ ?_ (λi=> ?_)
 ·(repeat' first|show Cn (.t _ _);exact Cn.t0|show Cn _;constructor|exact rfl)
 obtain ⟨⟨i,S,K⟩,hi,hF⟩:=i
 simp only at hi hF
 dsimp only
 have hm:=hF.hm
 have hkl:=λh:i<l.length=>afQ (l.take i) (bB (l[i]'h))
 have hkt:(l.take i).length<=l.length:=by rw [zlt];omega
 (repeat' first|apply wDm pk;rfl;kernel_rfl;rfl;rfl|(apply Cn.cf;focus ((apply mK);done))|apply wZ;rfl|show Cn _;constructor|exact rfl|(apply auD pk Nm.key (f:=vI);(iterate 5 rfl);rotate_left;rfl;(assumption);rfl;intro v hv;rotate_left;intro hv;rotate_left)|apply wY;rfl|apply wI;rfl|apply gE;omega|(intro h;simp at h))
 ·skip
  obtain ⟨a1,a2,a3⟩:=hF.arr _ _ _ (mR hv)
  have hkl:=hkl h
  (repeat' ((apply apV pk (f:=Pt.cells) [l[i]'‹_›] 96;(iterate 9 rfl);(assumption);(omega);exact λ_=>rfl;exact λ_=>rfl;exact abA;((focus (simp;omega)));((focus (simp;omega)));rfl;intro id' hid')))
  have hid':S id'=none:=hid'
  obtain ⟨f1,f2,f3⟩:=hF.fresh hid'
  have f2':=Ne.symm f2
  have f4:=Ne.symm (hF.notm (mR hv))
  apply muA pk Nm.key (f:=vI) (k:=bB (l[i]'h)) (v:=(id',v.2+1));exact .inr rfl;rfl;rfl;rfl;rfl;rfl;exact (aC f2').trans ((aC f4).trans hm);rfl
  (repeat' first|(refine ⟨⟨(i+1,_,_),by simp only;omega,hF.step (S1:=upd S v.1 none) (m:=v.2+1) h hid' (by omega) (λj hj=>aC λe=>hj v.2 (by subst e;exact mR hv))⟩, ?_, ?_⟩)|show Cn (.t _ _);exact Cn.t0|apply wZ;rfl|show Cn _;constructor|exact rfl|omega|simp only [zql];omega)
 ·skip
  have hk0:=hF.non _ hv
  (repeat' ((apply ap0 pk (f:=Pt.cells) [l[i]'‹_›] 96;(iterate 10 rfl);exact λ_=>rfl;exact λ_=>rfl;exact abA;((focus (simp;done)));((focus (simp;done)));rfl;intro id' hid')))
  have hid':S id'=none:=hid'
  obtain ⟨f1,f2,f3⟩:=hF.fresh hid'
  have f2':=Ne.symm f2
  apply muA pk Nm.key (f:=vI) (k:=bB (l[i]'h)) (v:=(id',1));exact .inr rfl;rfl;rfl;rfl;rfl;rfl;exact (aC f2').trans hm;rfl
  (repeat' first|(refine ⟨⟨(i+1,upd (upd S id' (some (.arr 237 ([l[i]'h].map Pt.cells)))) idm (some (.map (aY Nm.enc vI (cX (bB (l[i]'h)) (id',1) K)))),cX (bB (l[i]'h)) (id',1) K),by simp only;omega,by have q:=hF.step (S1:=S) (m:=1) h hid' (by rw [hk0];rfl) (λj hj=>rfl);rw [hk0] at q;exact q⟩, ?_, ?_⟩)|show Cn (.t _ _);exact Cn.t0|apply wZ;rfl|show Cn _;constructor|exact rfl|omega|simp only [zql];omega)
 have e1:l.take i=l:=ztl (by omega)
 rw [e1] at hF
 clear hkl hkt
 (repeat' first|apply wZ;rfl|show Cn _;constructor|apply ldR pk;rfl;rfl;rotate_left;rfl;(exact aA _ _ _);rfl;rfl|apply stR pk;rfl;rfl;(exact aA _ _ _);rfl;rfl|(apply qG 5;rfl;rfl;intro id5 hid5)|(apply qG 8;rfl;rfl;intro id8 hid8)|(apply qG 9;rfl;rfl;intro id9 hid9))
 have q:=hF.toHS (c8:= .cells 91 [.val (.slice none 0 0)]) (c5:= .cells 304 [.mref idm]) (c9:= .cells 305 [.val .nilFunc]) hid5 hid8 hid9 rfl rfl rfl
 (repeat' first|(apply cP;rfl;(apply (amS hWh.named hWh.formed hl l.length Nm.zero _ _ _ (aeK hWh) (by rw [hlen];simp;omega) q));rintro _ st' (⟨A2,hA3,hA4⟩))|apply wZ;rfl|show Cn _;constructor|apply wY;rfl)
 rw [List.nil_append] at hA3
 have hold:=hA3.old
 have hsub:∀ido,st ido=none->StSub st (upd st' ido none):=λido hn j=>by
  by_cases hj:st j=none
  ·exact .inl hj
  ·right;rw [aC (λe=>by subst e;exact hj hn)];exact (hold j hj).symm
 have hsub0:StSub st st':=λj=>by
  by_cases hj:st j=none
  ·exact .inl hj
  ·right;exact (hold j hj).symm
 rcases hA3.h8 with ⟨h8,e8⟩|⟨ido,h8,c1,c2,c3⟩
 ·(repeat' first|show Cn (.r _ _ _);refine .rr ?_;((exact .inr ⟨rfl,by rw [hord,e8];rfl,hsub0⟩));done|apply wZ;rfl|show Cn _;constructor|apply ldR pk;rfl;rfl;rotate_left;rfl;(assumption);rfl;rfl)
 ·(repeat' first|show Cn (.r _ _ _);refine .rr ?_;((exact .inl ⟨ido,by rw [hord,zql],c2,by rw [hord];exact c1,hsub ido c2⟩));done|apply wZ;rfl|show Cn _;constructor|apply ldR pk;rfl;rfl;rotate_left;rfl;(assumption);rfl;rfl)
theorem aAT :Tryz.prog.cellsOf 237=11:=(aN aT (t:=237) (n:=11) rfl).2
theorem acO (l:List Pt) (hl:l.length<4611686018427387904) (hlen:fA l=true->(dF l l.length Nm.zero).length=l.length):PF Tryz.prog 191 [.seq (l.map Pt.cells)] (.seq ((eQ l).map Pt.cells)):=
 azW aAT λst=>arW l st hl hlen
end
section
set_option maxRecDepth 10000
set_option maxHeartbeats 4000000
inductive Anc (l:List Pt):Pt->List Pt->Prop
 |root {p:Pt} (hp:p∈l) (h0:bB p=Nm.zero):Anc l p [p]
 |step {p u:Pt} {s:List Pt} (hp:p∈l) (hu:u∈l) (e:aV u=bB p) (h0:bB p≠Nm.zero) (h:Anc l u s):Anc l p (s++[p])
theorem Anc.mem {l:List Pt} {p:Pt} {s:List Pt} (h:Anc l p s):p∈l:=by cases h<;>assumption
theorem Anc.all {l:List Pt} {p:Pt} {s:List Pt} (h:Anc l p s):∀q∈s,q∈l:=by
 induction h with
 |root hp _=>intro q hq;rw [zms.1 hq];exact hp
 |step hp _ _ _ _ ih=>
  intro q hq
  rcases zma.1 hq with hq|hq
  ·exact ih q hq
  ·rw [zms.1 hq];exact hp
theorem Anc.fn {l:List Pt} (hn:named l) {p:Pt} {s:List Pt} (h:Anc l p s):∀{t:List Pt},Anc l p t->s=t:=by
 induction h with
 |root hp h0=>intro t ht;cases ht with
  |root=>rfl
  |step _ _ _ h0' _=>exact absurd h0 h0'
 |step hp hu e h0 _ ih=>intro t ht;cases ht with
  |root _ h0'=>exact absurd h0' h0
  |step _ hu' e' _ h'=>
   have:=hn _ hu _ hu' (by rw [e,e'])
   subst this
   rw [ih h']
theorem Anc.last {l:List Pt} {p:Pt} {s:List Pt} (h:Anc l p s):∃r,s=r++[p]:=by
 cases h with
 |root=>exact ⟨[],rfl⟩
 |step=>exact ⟨_,rfl⟩
theorem Anc.ex {l:List Pt} (hW:Whole l):∀(n:Nat) (p:Pt),p∈l->(l.filter λq=>eR q p).length<=n->∃s,Anc l p s
 |n,p,hp,hn=>by
  by_cases h0:bB p=Nm.zero
  ·exact ⟨_, .root hp h0⟩
  ·obtain ⟨u,hu,e,ha⟩:=(hW.up p hp).resolve_left h0
   have hlt:(l.filter λq=>eR q u).length<(l.filter λq=>eR q p).length:=rM (a:=u) hu ha (by rw [<-Bool.not_eq_true,kE];omega) λq _ hq=>by
    rw [kE] at ha hq⊢;omega
   cases n with
   |zero=>omega
   |succ n=>
    obtain ⟨s,hs⟩:=Anc.ex hW n u hu (by omega)
    exact ⟨_, .step hp hu e h0 hs⟩
def agN :List Pt->List Pt->Prop
 |_,[]=>False
 |[],_::_=>True
 |a::s,b::t=>a=b/\agN s t\/fI a b
theorem anS (a:Pt):¬fI a a:=by rw [fT];omega
theorem zB :∀(s:List Pt),¬agN s s
 |[],h=>h
 |a::s,h=>by rcases h with ⟨_,h⟩|h;exact zB s h;exact anS a h
theorem rN :∀(P:List Pt) {s t:List Pt},agN s t->agN (P++s) (P++t)
 |[],_,_,h=>h
 |a::P,_,_,h=> .inl ⟨rfl,rN P h⟩
def ltP (l:List Pt) (p q:Pt):Prop:=∃s t,Anc l p s/\Anc l q t/\agN s t
theorem ayC {l:List Pt} (hn:named l) (p:Pt):¬ltP l p p:=λ⟨s,t,h1,h2,h⟩=>by rw [h1.fn hn h2] at h;exact zB _ h
theorem qF {l:List Pt} (h:(l.map aV).Nodup):l.Nodup:=by
 induction l with
 |nil=>exact List.nodup_nil
 |cons a l ih=>
  simp only [zmp,List.nodup_cons] at h
  exact List.nodup_cons.2 ⟨λhm=>h.1 (List.mem_map.2 ⟨a,hm,rfl⟩),ih h.2⟩
theorem mV {l:List Pt} (hW:Whole l):∀(n:Nat) (k:Nm) (P:List Pt),(∀p∈eJ l k,Anc l p (P++[p]))->
  (∀x∈dF l n k,∃q s,q∈cB l k/\Anc l x (P++q::s))/\(dF l n k).Pairwise (ltP l)
 |0,_,_,_=>⟨λx h=>(by cases h),List.Pairwise.nil⟩
 |n+1,k,P,hP=>by
  have hq:∀q∈cB l k,Anc l q (P++[q]):=λq hq=>hP q (fU hq).2
  have hc:∀q∈cB l k,∀p∈eJ l (aV q),Anc l p ((P++[q])++[p]):=λq hq' p hp=>by
   obtain ⟨h1,h2⟩:=List.mem_filter.1 hp
   have h2:bB p=aV q:=by simpa using h2
   have hql:=(fU hq').1
   exact .step h1 hql h2.symm (by rw [h2];exact tO (hW.formed q hql)) (hq q hq')
  have key:∀q∈cB l k,∀x∈q::dF l n (aV q),∃s,Anc l x (P++q::s):=λq hq' x hx=>by
   rcases zmc.1 hx with rfl|hx
   ·exact ⟨[],hq x hq'⟩
   ·obtain ⟨r,s,_,h⟩:=(mV hW n (aV q) (P++[q]) (hc q hq')).1 x hx
    exact ⟨r::s,by simpa using h⟩
  constructor
  ·intro x hx
   obtain ⟨q,hq',hx⟩:=List.mem_flatMap.1 hx
   obtain ⟨s,h⟩:=key q hq' x hx
   exact ⟨q,s,hq',h⟩
  ·rw [dF,List.pairwise_flatMap]
   refine ⟨λq hq'=> ?_, ?_⟩
   ·have ih:=mV hW n (aV q) (P++[q]) (hc q hq')
    rw [List.pairwise_cons]
    refine ⟨λx hx=> ?_,ih.2⟩
    obtain ⟨r,s,_,h⟩:=ih.1 x hx
    refine ⟨_,_,hq q hq',h, ?_⟩
    have:=rN (P++[q]) (s:=[]) (t:=r::s) trivial
    simpa using this
   ·have hs:=qA l k
    have hnd:(cB l k).Nodup:=by
     have:=hW.nodup
     have h1:(eJ l k).Nodup:=(List.Pairwise.filter _ (qF this))
     exact (gA l k).nodup_iff.2 h1
    refine (hs.and hnd).imp_of_mem fun {a b} ha hb hab x hx y hy=> ?_
    obtain ⟨s,h1⟩:=key a ha x hx
    obtain ⟨t,h2⟩:=key b hb y hy
    refine ⟨_,_,h1,h2,rN P (.inr ?_)⟩
    by_cases hk:fI a b
    ·exact hk
    ·exact absurd (alD hW.named (fU ha).1 (fU hb).1 hk hab.1) hab.2
theorem amH {l:List Pt} {n:Nat} {k:Nm} {p:Pt} (hd:ajA l n k) (hp:p∈eJ l k):p∈dF l n k:=by
 cases n with
 |zero=>rw [show eJ l k=[] from hd] at hp;cases hp
 |succ n=>exact List.mem_flatMap.2 ⟨p,(gA l k).symm.subset hp,by simp⟩
theorem afX {l:List Pt} {p u:Pt} (hp:p∈eJ l (aV u)):∀{n:Nat} {k:Nm},ajA l n k->u∈dF l n k->p∈dF l n k
 |0,_,_,hu=>(by cases hu)
 |n+1,k,hd,hu=>by
  obtain ⟨q,hq,hu⟩:=List.mem_flatMap.1 hu
  have hdq:=hd q (fU hq).2
  refine List.mem_flatMap.2 ⟨q,hq, ?_⟩
  rcases zmc.1 hu with rfl|hu
  ·exact List.mem_cons_of_mem _ (amH hdq hp)
  ·exact List.mem_cons_of_mem _ (afX hp hdq hu)
theorem adO {l:List Pt}:∀{n:Nat} {k:Nm} {p:Pt},p∈dF l n k->p∈l
 |0,_,_,h=>(by cases h)
 |n+1,k,p,h=>by
  obtain ⟨q,hq,h⟩:=List.mem_flatMap.1 h
  rcases zmc.1 h with rfl|h
  ·exact (fU hq).1
  ·exact adO h
theorem aBD {l:List Pt} (hW:Whole l) {p:Pt} {s:List Pt} (h:Anc l p s):p∈dF l l.length Nm.zero:=by
 have hd:=aeK hW
 induction h with
 |root hp h0=>exact amH hd (List.mem_filter.2 ⟨hp,by simpa using h0⟩)
 |step hp hu e h0 _ ih=>exact afX (List.mem_filter.2 ⟨hp,by simpa using e.symm⟩) hd ih
theorem yF {l m:List Pt} (h1:l.Nodup) (h2:m.Nodup) (h:∀a,a∈l↔a∈m):l.Perm m:=by
 rw [List.perm_iff_count]
 intro a
 rw [h1.count,h2.count]
 simp [h a]
theorem aeC {l:List Pt} (hW:Whole l):(dF l l.length Nm.zero).Perm l/\(dF l l.length Nm.zero).Pairwise (ltP l):=by
 have hs:=(mV hW l.length Nm.zero [] λp hp=>by
  obtain ⟨h1,h2⟩:=List.mem_filter.1 hp
  exact .root h1 (by simpa using h2)).2
 refine ⟨yF ?_ (qF hW.nodup) λa=>⟨adO,λha=> ?_⟩,hs⟩
 ·exact hs.imp fun {a b} h e=>by subst e;exact ayC hW.named _ h
 ·obtain ⟨s,hs⟩:=Anc.ex hW _ a ha (Nat.le_refl _)
  exact aBD hW hs
theorem pN (l:List Pt) (hl:l.length<4611686018427387904):PF Tryz.prog 191 [.seq (l.map Pt.cells)] (.seq ((eQ l).map Pt.cells)):=
 acO l hl λh=>(aeC ((gD l).1 h)).1.length_eq
theorem abZ {l:List Pt} (hW:Whole l) (hl:l.length<=2000):(eQ l).Perm l/\(eQ l).Pairwise (ltP l):=by
 unfold eQ
 rw [zp ⟨(gD l).2 hW,hl⟩]
 exact aeC hW
theorem ahZ {l:List Pt} (h:¬(Whole l/\l.length<=2000)):eQ l=[]:=by
 unfold eQ
 rw [zn λ⟨a,b⟩=>h ⟨(gD l).1 a,b⟩]
theorem Inv.perm {l m:List Pt} (hp:l.Perm m) (h:Inv l):Inv m:=
 ⟨λp hm=>h.formed p (hp.symm.subset hm),(hp.map aV).nodup_iff.1 h.nodup,λa ha b hb=>h.times a (hp.symm.subset ha) b (hp.symm.subset hb)⟩
theorem Whole.perm {l m:List Pt} (hp:l.Perm m) (h:Whole l):Whole m where
 toInv:=h.toInv.perm hp
 up p hm:=by
  rcases h.up p (hp.symm.subset hm) with e|⟨u,hu,e⟩
  ·exact .inl e
  ·exact .inr ⟨u,hp.subset hu,e⟩
theorem Anc.perm {l m:List Pt} (hp:∀a,a∈l->a∈m) {p:Pt} {s:List Pt} (h:Anc l p s):Anc m p s:=by
 induction h with
 |root h h0=>exact .root (hp _ h) h0
 |step h hu e h0 _ ih=>exact .step (hp _ h) (hp _ hu) e h0 ih
theorem ltP.perm {l m:List Pt} (hp:∀a,a∈l->a∈m) {p q:Pt} (h:ltP l p q):ltP m p q:=by
 obtain ⟨s,t,h1,h2,h3⟩:=h
 exact ⟨s,t,h1.perm hp,h2.perm hp,h3⟩
end
section
attribute [local irreducible] Ev PWp
set_option maxRecDepth 10000
set_option maxHeartbeats 4000000
theorem acI {l m:List Pt} {i:Nat} (h:l.take i=m.take i) (h1:i<l.length) (h2:i<m.length) (e:l[i]=m[i]):l.take (i+1)=m.take (i+1):=by
 rw [List.take_succ_eq_append_getElem h1,List.take_succ_eq_append_getElem h2,h,e]
theorem aoY {l m:List Pt} {i:Nat} (h1:i<l.length) (h2:i<m.length) (e:l[i]≠m[i]):decide (l=m)=false:=decide_eq_false λh=>by subst h;exact e rfl
theorem ahU {l m:List Pt} {i:Nat} (h:l.take i=m.take i) (h1:l.length<=i) (h2:m.length<=i):decide (l=m)=true:=by
 rw [ztl h1,ztl h2] at h;exact decide_eq_true h
theorem ahX (l m:List Pt) (hl:l.length<4611686018427387904):PF Tryz.prog 190 [.seq (l.map Pt.cells), .seq (m.map Pt.cells)] (vb (decide (l=m))):=by
 refine pF Tryz.func190 rfl (λst=> ?_)
 (repeat' first|apply wZ;rfl|show Cn _;constructor|exact rfl|show (_:PV)=_;(rw [decide_eq_false (λe:l=m=>by subst e;simp at*)]);done|(intro h;simp at h))
 refine aG (X:={x:Nat//x<=l.length/\l.take x=m.take x}) (λi=>(((((St.nil 26 st).pv 0 (.seq (l.map Pt.cells))).pv 1 (.seq (m.map Pt.cells))).pv 12 ((vi ((((l.map Pt.cells)).length:Nat))))).pv 13 ((vi ((i.1:Nat)))))) (λi=>l.length-i.1) ⟨0,by omega,rfl⟩ ?_ (λi=> ?_)
 ·(repeat' first|show Cn _;constructor|exact rfl)
 obtain ⟨i,hi,hinv⟩:=i
 dsimp only
 have hlm:l.length=m.length:=by omega
 (repeat' first|(refine ⟨⟨i+1,by omega,acI hinv (by omega) (by omega) (by rw [Pt.ext_iff,Vl.ext_iff,Dt.ext_iff,Dt.ext_iff];simpa [and_assoc] using h)⟩, ?_, ?_⟩)|apply wZ;rfl|show Cn _;constructor|exact rfl|apply KR.mk;kernel_rfl|show (_:PV)=_;(first|rw [aoY (i:=i) (by omega) (by omega) (λe=>by simp [e] at h)];done|rw [ahU hinv (by omega) (by omega)]);done|apply wI;rfl|apply gE;omega|omega|simp only [zql];omega|(intro h;simp at h))
def rightP (c:Cl):Int:=if c.kind≠4 then 6 else if c.val≠Vl.zero\/fA c.parts=false then 1 else if 2000<c.parts.length then 2 else if eQ c.parts≠c.parts then 3 else 0
theorem aoT (l:List Pt):(eQ l).length<=l.length:=by
 by_cases h:Whole l/\l.length<=2000
 ·exact Nat.le_of_eq (abZ h.1 h.2).1.length_eq
 ·rw [ahZ h];simp
theorem right_spec (c:Cl) (hl:c.parts.length<4611686018427387904):PF Tryz.prog 153 [.agg c.cells] (vi (rightP c)):=by
 have:=aoT c.parts
 have hc:(2000<((c.parts.length:Nat):Int))↔2000<c.parts.length:=by omega
 have hc2:(((c.parts.length:Nat):Int)<=2000)↔¬2000<c.parts.length:=by omega
 refine pF Tryz.func153 rfl (λst=> ?_)
 (repeat' first|apply wZ;rfl|show Cn _;constructor|exact rfl|apply KR.mk;kernel_rfl|((first|apply (uK c.parts hl)|apply (pN c.parts hl)|apply (ahX (eQ c.parts) c.parts))<;>(omega))|show (_:PV)=_;(first|(simp only [rightP,Vl.ext_iff,Vl.zero,e0];grind)|(obtain ⟨⟨q1,q2,q3⟩,q4⟩:=‹(_/\_/\_)/\_›;have e1:c.val=Vl.zero:=(Vl.ext_iff _ _).2 ⟨q1,q2,q3⟩;simp only [rightP,e1,q4];grind));done|apply wY;rfl|(intro h;simp at h)|intro h)
end
end Go.Proofs.YtppdefkgmegipaaGreatDoor.T
