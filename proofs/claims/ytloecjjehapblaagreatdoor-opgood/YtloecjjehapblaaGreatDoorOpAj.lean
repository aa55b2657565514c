import Derived.Test.YtloecjjehapblaaGreatDoorOpAi
set_option linter.unusedSimpArgs false
set_option linter.unusedVariables false
namespace Go.Proofs.YtloecjjehapblaaGreatDoor.T
open Go Go.Abs
attribute [local irreducible] Ev PWp
set_option maxRecDepth 10000
set_option maxHeartbeats 4000000
instance (a b:Pt):Decidable (fP a b):=by unfold fP;infer_instance
def amJ (p:Pt):List Pt->List Pt
 |[]=>[p]
 |q::r=>if fP q p then q::amJ p r else p::q::r
def cN (l:List Pt) (k:Nm):List Pt:=(fN l k).foldr amJ []
def eJ (l:List Pt):Nat->Nm->List Pt
 |0,_=>[]
 |n+1,k=>(cN l k).flatMap λp=>p::eJ l n (aM p)
def aoM (l:List Pt):Nat->Nm->Prop
 |0,k=>fN l k=[]
 |n+1,k=>∀p∈fN l k,aoM l n (aM p)
theorem uniq {α:Type} {r:α->α->Prop}:∀{l m:List α},l.Perm m->l.Pairwise r->m.Pairwise r->(∀a∈l,∀b∈l,r a b->r b a->a=b)->l=m
 |[],m,h,_,_,_=>(List.Perm.nil_eq h)
 |a::l,[],h,_,_,_=>(by cases List.Perm.eq_nil h)
 |a::l,b::m,h,h1,h2,ha=>by
  have hab:a=b:=by
   rcases zmc.1 (h.symm.subset (List.mem_cons_self:b∈b::m)) with e|e
   ·exact e.symm
   ·rcases zmc.1 (h.subset (List.mem_cons_self:a∈a::l)) with e'|e'
    ·exact e'
    ·exact ha a List.mem_cons_self b (List.mem_cons_of_mem _ e) ((List.pairwise_cons.1 h1).1 b e) ((List.pairwise_cons.1 h2).1 a e')
  subst hab
  rw [uniq ((List.perm_cons a).1 h) (List.pairwise_cons.1 h1).2 (List.pairwise_cons.1 h2).2 λx hx y hy=>ha x (List.mem_cons_of_mem _ hx) y (List.mem_cons_of_mem _ hy)]
theorem vT (p:Pt):∀(l:List Pt),(amJ p l).Perm (p::l)
 |[]=> .refl _
 |q::r=>by
  unfold amJ
  split
  ·exact ((vT p r).cons q).trans (.swap p q r)
  ·exact .refl _
theorem wZ (p:Pt):∀(l:List Pt),(l.Pairwise λx y=>¬fP y x)->(amJ p l).Pairwise λx y=>¬fP y x
 |[],_=>by simp [amJ]
 |q::r,h=>by
  obtain ⟨h1,h2⟩:=List.pairwise_cons.1 h
  unfold amJ
  split
  ·rename_i hk
   refine List.pairwise_cons.2 ⟨λx hx=> ?_,wZ p r h2⟩
   rcases zmc.1 ((vT p r).subset hx) with rfl|hx
   ·rw [fB] at hk⊢;omega
   ·exact h1 x hx
  ·rename_i hk
   refine List.pairwise_cons.2 ⟨λx hx=> ?_,h⟩
   rcases zmc.1 hx with rfl|hx
   ·exact hk
   ·have:=h1 x hx
    rw [fB] at hk this⊢;omega
theorem iF (l:List Pt) (k:Nm):(cN l k).Perm (fN l k):=by
 unfold cN
 generalize fN l k=m
 induction m with
 |nil=>exact .refl _
 |cons p r ih=>exact (vT p _).trans (ih.cons p)
theorem sW (l:List Pt) (k:Nm):(cN l k).Pairwise λx y=>¬fP y x:=by
 unfold cN
 generalize fN l k=m
 induction m with
 |nil=>exact List.Pairwise.nil
 |cons p r ih=>exact wZ p _ ih
def named (l:List Pt):Prop:=∀a∈l,∀b∈l,aM a=aM b->a=b
theorem arI {l:List Pt} (hn:named l) {a b:Pt} (ha:a∈l) (hb:b∈l) (h1:¬fP a b) (h2:¬fP b a):a=b:=by
 refine hn a ha b hb ?_
 rw [fB] at h1 h2
 rw [aM,aM,Nm.mk.injEq,Dt.ext_iff]
 omega
theorem ayR {l R:List Pt} {k:Nm} (hn:named l) (hp:R.Perm (fN l k)) (hs:R.Pairwise λx y=>¬fP y x):R=cN l k:=by
 refine uniq (hp.trans (iF l k).symm) hs (sW l k) λa ha b hb h1 h2=> ?_
 have hm:∀x∈R,x∈l:=λx hx=>(List.mem_filter.1 (hp.subset hx)).1
 exact arI hn (hm a ha) (hm b hb) h2 h1
structure HS (st:aJ) (l:List Pt) (id5 id8 id9 idm:Nat) (K:List (Nm×(Nat×Nat))) (S:aJ) (A:Nm->List Pt) (out:List Pt):Prop where
 old:∀j,st j≠none->S j=st j
 f5:st id5=none
 f8:st id8=none
 f9:st id9=none
 fm:st idm=none
 h5:S id5=some (.cells 355 [.mref idm])
 h9:S id9=some (.cells 356 [.fn 286 [.ref id5 0, .ref id8 0, .ref id9 0]])
 hm:S idm=some (.map (aY Nm.enc zP K))
 arr:∀k id n,(k,(id,n))∈K->S id=some (.arr 190 ((A k).map Pt.cells))/\n=(fN l k).length/\st id=none
 ids:(K.map (·.2.1)).Nodup
 keys:(K.map (·.1)).Nodup
 non:∀k,bX k K=none->fN l k=[]
 perm:∀k,(A k).Perm (fN l k)
 h8:(S id8=some (.cells 78 [.val (.slice none 0 0)])/\out=[])\/∃ido,S id8=some (.cells 78 [.vec ido 11 0 out.length])/\S ido=some (.arr 190 (out.map Pt.cells))/\st ido=none/\∀k n,(k,(ido,n))∉K
section
variable {st S:aJ} {l:List Pt} {id5 id8 id9 idm:Nat} {K:List (Nm×(Nat×Nat))} {A:Nm->List Pt} {out:List Pt}
theorem HS.sorted (h:HS st l id5 id8 id9 idm K S A out) {k:Nm} {id n:Nat} (hk:(k,(id,n))∈K) {R:List Pt} (hR:R.Perm (A k)):
  HS st l id5 id8 id9 idm K (upd S id (some (.arr 190 (R.map Pt.cells)))) (λk'=>if k'=k then R else A k') out:=by
 obtain ⟨a1,a2,a3⟩:=h.arr k id n hk
 have n5:id5≠id:=λe=>by rw [<-e,h.h5] at a1;cases a1
 have n9:id9≠id:=λe=>by rw [<-e,h.h9] at a1;cases a1
 have nm:idm≠id:=λe=>by rw [<-e,h.hm] at a1;cases a1
 have n8:id8≠id:=λe=>by rcases h.h8 with ⟨h8,_⟩|⟨ido,h8,_⟩<;>rw [<-e,h8] at a1<;>cases a1
 refine ⟨λj hj=> ?_,h.f5,h.f8,h.f9,h.fm,(aD n5).trans h.h5,(aD n9).trans h.h9,(aD nm).trans h.hm,λk' j m hk'=> ?_,h.ids,h.keys,h.non,λk'=> ?_, ?_⟩
 ·rw [aD (λe=>by subst e;exact hj a3)];exact h.old j hj
 ·obtain ⟨b1,b2,b3⟩:=h.arr k' j m hk'
  by_cases hj:j=id
  ·subst hj
   have:=uN h.ids hk hk' rfl
   simp only [Prod.mk.injEq] at this
   obtain ⟨rfl,_⟩:=this
   exact ⟨by rw [aB,if_pos rfl],b2,b3⟩
  ·refine ⟨?_,b2,b3⟩
   rw [aD hj,b1,if_neg]
   intro e
   subst e
   have hkk:∀{K:List (Nm×(Nat×Nat))},(K.map (·.1)).Nodup->(k',(id,n))∈K->(k',(j,m))∈K->id=j:=by
    intro K hn
    induction K with
    |nil=>intro h;cases h
    |cons x K ih=>
     intro h1 h2
     simp only [List.map_cons,List.nodup_cons] at hn
     rcases zmc.1 h1 with e1|e1<;>rcases zmc.1 h2 with e2|e2
     ·rw [<-e1] at e2;exact (Prod.mk.inj (Prod.mk.inj e2).2).1.symm
     ·exact (hn.1 (List.mem_map.2 ⟨_,e2,by rw [<-e1]⟩)).elim
     ·exact (hn.1 (List.mem_map.2 ⟨_,e1,by rw [<-e2]⟩)).elim
     ·exact ih hn.2 e1 e2
   exact hj (hkk h.keys hk hk').symm
 ·by_cases hk':k'=k
  ·subst hk';simp only [if_true];exact hR.trans (h.perm k')
  ·simp only [if_neg hk'];exact h.perm k'
 ·rcases h.h8 with ⟨h8,e⟩|⟨ido,h8,b1,b2,b3⟩
  ·exact .inl ⟨(aD n8).trans h8,e⟩
  ·exact .inr ⟨ido,(aD n8).trans h8,(aD λe=>b3 k n (by rw [e];exact hk)).trans b1,b2,b3⟩
theorem HS.push (h:HS st l id5 id8 id9 idm K S A out) {S1:aJ} {id':Nat} (p:Pt) (hid:S id'=none) (hS:∀j,S1 j=S j\/st j=none/\j≠id5/\j≠id9/\j≠idm/\∀k n,(k,(j,n))∉K):
  HS st l id5 id8 id9 idm K (upd (upd S1 id' (some (.arr 190 ((out++[p]).map Pt.cells)))) id8 (some (.cells 78 [.vec id' 11 0 (out.length+1)]))) A (out++[p]):=by
 have n5:id5≠id':=λe=>by rw [<-e,h.h5] at hid;cases hid
 have n9:id9≠id':=λe=>by rw [<-e,h.h9] at hid;cases hid
 have nm:idm≠id':=λe=>by rw [<-e,h.hm] at hid;cases hid
 have n8:id8≠id':=λe=>by rcases h.h8 with ⟨h8,_⟩|⟨ido,h8,_⟩<;>rw [<-e,h8] at hid<;>cases hid
 have m5:id5≠id8:=λe=>by have:=h.h5;rcases h.h8 with ⟨h8,_⟩|⟨ido,h8,_⟩<;>rw [e,h8] at this<;>cases this
 have m9:id9≠id8:=λe=>by have:=h.h9;rcases h.h8 with ⟨h8,_⟩|⟨ido,h8,_⟩<;>rw [e,h8] at this<;>cases this
 have mm:idm≠id8:=λe=>by have:=h.hm;rcases h.h8 with ⟨h8,_⟩|⟨ido,h8,_⟩<;>rw [e,h8] at this<;>cases this
 have hi:st id'=none:=by
  cases hs:st id' with
  |none=>rfl
  |some o=>have:=h.old id' (by rw [hs];simp);rw [hid,hs] at this;cases this
 have g:∀j,j≠id8->j≠id'->(∀h:st j=none/\j≠id5/\j≠id9/\j≠idm/\∀k n,(k,(j,n))∉K,False)->upd (upd S1 id' (some (.arr 190 ((out++[p]).map Pt.cells)))) id8 (some (.cells 78 [.vec id' 11 0 (out.length+1)])) j=S j:=λj h1 h2 h3=>by
  rw [aD h1,aD h2]
  rcases hS j with e|e
  ·exact e
  ·exact (h3 e).elim
 refine ⟨λj hj=> ?_,h.f5,h.f8,h.f9,h.fm,(g id5 m5 n5 λe=>e.2.1 rfl).trans h.h5,(g id9 m9 n9 λe=>e.2.2.1 rfl).trans h.h9,(g idm mm nm λe=>e.2.2.2.1 rfl).trans h.hm,λk j n hk=> ?_,h.ids,h.keys,h.non,h.perm, ?_⟩
 ·rw [g j (λe=>by subst e;exact hj h.f8) (λe=>by subst e;exact hj hi) λe=>hj e.1];exact h.old j hj
 ·obtain ⟨b1,b2,b3⟩:=h.arr k j n hk
  have e8:j≠id8:=λe=>by rcases h.h8 with ⟨h8,_⟩|⟨ido,h8,_⟩<;>rw [e,h8] at b1<;>cases b1
  have e':j≠id':=λe=>by rw [e,hid] at b1;cases b1
  rw [g j e8 e' λe=>e.2.2.2.2 k n hk]
  exact ⟨b1,b2,b3⟩
 ·refine .inr ⟨id',by rw [aB];simp,by rw [aD (Ne.symm n8),aB],hi,λk n hk=> ?_⟩
  have:=(h.arr k id' n hk).1
  rw [hid] at this;cases this
theorem gW {k:Nm} {p:Pt} (h:p∈cN l k):p∈l/\p∈fN l k:=by
 have:=(iF l k).subset h
 exact ⟨(List.mem_filter.1 this).1,this⟩
theorem atI (hn:named l) (hf:∀p∈l,bT p=true) (h62:l.length<4611686018427387904):∀(n:Nat) (up:Nm) (S:aJ) (A:Nm->List Pt) (out:List Pt),aoM l n up->out.length+(eJ l n up).length<=1000000->HS st l id5 id8 id9 idm K S A out->
  PC Tryz.prog 286 [.agg up.cells, .ref id5 0, .ref id8 0, .ref id9 0] S λ_ S'=>∃A',HS st l id5 id8 id9 idm K S' A' (out++eJ l n up)/\∀k,A k=cN l k->A' k=cN l k:=by
 intro n
 induction n using Nat.strongRecOn with
 |ind n ih=> ?_
 intro up S A out hd hB h
 have hk:∀p∈fN l up,n≠0/\aoM l (n-1) (aM p):=λp hp=>by
  cases n with
  |zero=>rw [show fN l up=[] from hd] at hp;cases hp
  |succ n=>exact ⟨by omega,hd p hp⟩
 have hh:eJ l n up=(cN l up).flatMap λp=>p::eJ l (n-1) (aM p):=by
  cases n with
  |zero=>rw [show cN l up=[] from List.Perm.eq_nil ((iF l up).trans (by rw [show fN l up=[] from hd]))];rfl
  |succ n=>rfl
 rw [hh] at hB
 rw [hh]
 clear hh hd
 have hh5:=h.h5
 have hhm:=h.hm
 refine bZ aF Tryz.func286 (by kernel_rfl) rfl rfl rfl rfl ?_
 (try apply wO pk;rfl);(repeat' first|show All _;constructor|show Imp _ _;constructor|apply wE pk;rfl;rfl|apply ldR pk;rfl;rfl;rotate_left;rfl;(assumption);rfl;rfl|(apply aAz pk Nm.key (f:=zP);(iterate 5 rfl);rotate_left;rfl;(assumption);rfl;intro v hv;rotate_left;intro hv;rotate_left))
 ·obtain ⟨id,m⟩:=v
  have hmem:=pK hv
  obtain ⟨a1,a2,a3⟩:=h.arr _ _ _ hmem
  have hlen:(A up).length=m:=by rw [(h.perm up).length_eq,a2]
  have hAf:∀p∈A up,bT p=true:=λp hp=>hf p (List.mem_filter.1 ((h.perm up).subset hp)).1
  have h62':m<4611686018427387904:=by have:=akN l up;omega
  (try apply wO pk;rfl);(repeat' first|show All _;constructor|apply wE pk;rfl;rfl|(apply cB;rfl;rfl;(apply (aoI (l:=A up) hAf)<;>first|exact aB _ _ _|assumption|omega|(fail));rfl;rfl;rfl;intro _ st' hR;obtain ⟨R,rfl,hR1,hR2⟩:=hR))
  obtain rfl:R=cN l up:=ayR hn (hR1.trans (h.perm up)) hR2
  have h:=h.sorted hmem hR1
  have hm':(cN l up).length=m:=by rw [hR1.length_eq,hlen]
  have hA0:∀k,A k=cN l k->(if k=up then cN l up else A k)=cN l k:=λk hk=>by
   by_cases e:k=up
   ·rw [if_pos e,e]
   ·rw [if_neg e,hk]
  obtain ⟨A1,h,hA1,hA2⟩:∃A1,HS st l id5 id8 id9 idm K (upd S id (some (.arr 190 ((cN l up).map Pt.cells)))) A1 out/\A1 up=cN l up/\∀k,A k=cN l k->A1 k=cN l k:=⟨_,h,by simp,hA0⟩
  clear hA0 hAf hR1 hR2 hlen a1 a3 hh5 hhm
  refine aK (X:={x:Nat×aJ×(Nm->List Pt)//x.1<=m/\HS st l id5 id8 id9 idm K x.2.1 x.2.2 (out++((cN l up).take x.1).flatMap λp=>p::eJ l (n-1) (aM p))/\x.2.2 up=cN l up/\∀k,A k=cN l k->x.2.2 k=cN l k}) (λi=>((((((St.nil 28 (i.1.2.1)).pv 2 (.ref id8 0)).pv 3 (.ref id9 0)).pv 13 (.vec id 11 0 m)).pv 14 ((PV.val (Value.int .i64 ((m:Nat)))))).pv 15 ((PV.val (Value.int .i64 ((i.1.1:Nat))))))) (λi=>m-i.1.1) ⟨(0,_,A1),by simp,by simpa using h,hA1,hA2⟩ ?_ (λi=> ?_)
  ·(((repeat refine Sub.pv ?_ rfl);(exact Sub.nil _ _ _ (zsr _) rfl)))
  clear h hA1 hA2
  obtain ⟨⟨i,S1,A1⟩,hi,h,hA1,hA2⟩:=i
  simp only at hi h hA1 hA2
  dsimp only
  have b1:=(h.arr _ _ _ hmem).1
  rw [hA1] at b1
  generalize ho:(out++((cN l up).take i).flatMap λp=>p::eJ l (n-1) (aM p))=o1 at h
  have hg:i<m->∃p,(cN l up)[i]?=some p:=λhi=>⟨_,List.getElem?_eq_getElem (by omega)⟩
  have hh8:=h.h8
  have hH:=h
  by_cases him:i<m
  ·obtain ⟨p,hp⟩:=hg him
   have hp1:=gW (List.mem_of_getElem? hp)
   obtain ⟨hn0,hdp⟩:=hk p hp1.2
   have hsplit:(cN l up).take (i+1)=(cN l up).take i++[p]:=by rw [List.take_add_one,hp];rfl
   have ho2:(o1++[p])++eJ l (n-1) (aM p)=out++((cN l up).take (i+1)).flatMap λp=>p::eJ l (n-1) (aM p):=by
    rw [hsplit,<-ho];simp
   have hlen:o1.length+1+(eJ l (n-1) (aM p)).length<=1000000:=by
    have e1:=congrArg List.length ho2
    have e2:cN l up=(cN l up).take (i+1)++(cN l up).drop (i+1):=(List.take_append_drop _ _).symm
    rw [e2,List.flatMap_append,zla] at hB
    simp only [zla,List.length_singleton] at e1
    omega
   rcases hh8 with ⟨h8,e8⟩|⟨ido,h8,c1,c2,c3⟩
   ·subst e8
    (try apply wO pk;rfl);(repeat' first|show All _;constructor|show Imp _ _;constructor|apply wC pk;rfl;rfl|apply wE pk;rfl;rfl|refine aA rfl ?_ ?_<;>intro h<;>(try simp at h)<;>try omega|apply ldR pk;rfl;rfl;rotate_left;rfl;(assumption);rfl;rfl|apply ldL pk Pt.elem (a:=p);rfl;rfl;rotate_left;rfl;(assumption);(intro _;exact hp);rfl|(apply ap0 pk (f:=Pt.cells) [p] 96;(iterate 10 rfl);exact λ_=>rfl;exact λ_=>rfl;exact zF;((focus (simp;done)));((focus (simp;done)));rfl;intro id' hid')|apply ixA pk;(iterate 5 rfl);rotate_left;rfl;(intro hw;(exact (show _=((i:Nat):Int) from by omega)));(intro hw;(omega));rfl;(exact Nat.zero_add _))
    have hid'':S1 id'=none:=hid'
    have n8:id8≠id':=λe=>by rw [<-e,h8] at hid'';cases hid''
    have q:=hH.push p hid'' (S1:=S1) λj=> .inl rfl
    have q9:=q.h9
    apply stR pk;rfl;rfl;exact (aD n8).trans h8;rfl;rfl
    (try apply wO pk;rfl);(repeat' first|apply wD pk [3] [0];kernel_rfl;rfl;rfl|show All _;constructor|show Imp _ _;constructor|apply wE pk;rfl;rfl|(apply aH;rfl;rfl;rfl;(intro _;apply nB<;>first|assumption|omega);rotate_left;rfl;rfl)|apply ldR pk;rfl;rfl;rotate_left;rfl;(assumption);rfl;rfl|(apply cB;rfl;rfl;(apply (ih (n-1) (by omega) (aM p) _ _ _ hdp (by simp only [zla,List.length_singleton] at hlen⊢;omega) q)<;>first|exact aB _ _ _|assumption|omega|(fail));rfl;rfl;rfl;intro _ st' hR;obtain ⟨A2,hA3,hA4⟩:=hR)|refine ⟨⟨(i+1,st',A2),by simp only;omega,by simp only;rw [<-ho2];exact hA3,hA4 up hA1,λk e=>hA4 k (hA2 k e)⟩, ?_,by simp only;omega⟩;(((repeat refine Sub.pv ?_ rfl);(exact Sub.nil _ _ _ (zsr _) rfl)))|intros;(try simp only [zql]);omega)
   ·(try apply wO pk;rfl);(repeat' first|show All _;constructor|show Imp _ _;constructor|apply wC pk;rfl;rfl|apply wE pk;rfl;rfl|refine aA rfl ?_ ?_<;>intro h<;>(try simp at h)<;>try omega|apply ldR pk;rfl;rfl;rotate_left;rfl;(assumption);rfl;rfl|apply ldL pk Pt.elem (a:=p);rfl;rfl;rotate_left;rfl;(assumption);(intro _;exact hp);rfl|(apply apV pk (f:=Pt.cells) [p] 96;(iterate 9 rfl);(assumption);(omega);exact λ_=>rfl;exact λ_=>rfl;exact zF;((focus (simp;omega)));((focus (simp;omega)));rfl;intro id' hid')|apply ixA pk;(iterate 5 rfl);rotate_left;rfl;(intro hw;(exact (show _=((i:Nat):Int) from by omega)));(intro hw;(omega));rfl;(exact Nat.zero_add _))
    have hid'':S1 id'=none:=hid'
    have n8:id8≠id':=λe=>by rw [<-e,h8] at hid'';cases hid''
    have m8:id8≠ido:=λe=>by rw [<-e,h8] at c1;cases c1
    have q:=hH.push p hid'' (S1:=upd S1 ido none) λj=>by
     by_cases e:j=ido
     ·subst e
      exact .inr ⟨c2,(λe=>by rw [e,hH.h5] at c1;cases c1),(λe=>by rw [e,hH.h9] at c1;cases c1),(λe=>by rw [e,hH.hm] at c1;cases c1),c3⟩
     ·exact .inl (aD e)
    have q9:=q.h9
    apply stR pk;rfl;rfl;exact (aD n8).trans ((aD m8).trans h8);rfl;rfl
    (try apply wO pk;rfl);(repeat' first|apply wD pk [3] [0];kernel_rfl;rfl;rfl|show All _;constructor|show Imp _ _;constructor|apply wE pk;rfl;rfl|(apply aH;rfl;rfl;rfl;(intro _;apply nB<;>first|assumption|omega);rotate_left;rfl;rfl)|apply ldR pk;rfl;rfl;rotate_left;rfl;(assumption);rfl;rfl|(apply cB;rfl;rfl;(apply (ih (n-1) (by omega) (aM p) _ _ _ hdp (by simp only [zla,List.length_singleton] at hlen⊢;omega) q)<;>first|exact aB _ _ _|assumption|omega|(fail));rfl;rfl;rfl;intro _ st' hR;obtain ⟨A2,hA3,hA4⟩:=hR)|refine ⟨⟨(i+1,st',A2),by simp only;omega,by simp only;rw [<-ho2];exact hA3,hA4 up hA1,λk e=>hA4 k (hA2 k e)⟩, ?_,by simp only;omega⟩;(((repeat refine Sub.pv ?_ rfl);(exact Sub.nil _ _ _ (zsr _) rfl)))|intros;(try simp only [zql]);omega)
  ·have hfin:HS st l id5 id8 id9 idm K S1 A1 (out++(cN l up).flatMap λp=>p::eJ l (n-1) (aM p)):=by
    rw [List.take_of_length_le (by omega)] at ho;rw [ho];exact h
   (try apply wO pk;rfl);(repeat' first|show All _;constructor|apply wC pk;rfl;rfl|apply wX pk;rfl|refine aA rfl ?_ ?_<;>intro h<;>(try simp at h)<;>try omega|(try refine aC ?_);((refine ⟨_,_,_,rfl,zwr _,zsr _, ?_⟩;((exact ⟨A1,hfin,hA2⟩));done)))
 ·have hk0:=h.non _ hv
  have hs0:cN l up=[]:=List.Perm.eq_nil ((iF l up).trans (by rw [hk0]))
  have hfin:HS st l id5 id8 id9 idm K S A (out++(cN l up).flatMap λp=>p::eJ l (n-1) (aM p)):=by
   rw [hs0];simpa using h
  (try apply wO pk;rfl);(repeat' first|show All _;constructor|apply wE pk;rfl;rfl|(apply cB;rfl;rfl;((apply ayM<;>first|exact aB _ _ _|assumption|omega|simp only [zqs];omega|(fail)));rfl;rfl;rfl;intro _ st' hR;(subst hR)))
  refine aK (X:=Unit) (λi=>((((((St.nil 28 (st')).pv 2 (.ref id8 0)).pv 3 (.ref id9 0)).pv 13 (.val (.slice none 0 0))).pv 14 ((PV.val (Value.int .i64 (((([]:List (List PV)).length:Nat):Int)))))).pv 15 ((PV.val (Value.int .i64 (0)))))) (λi=>0) () ?_ (λi=> ?_)
  ·(((repeat refine Sub.pv ?_ rfl);(exact Sub.nil _ _ _ (zsr _) rfl)))
  have hfin':HS st l id5 id8 id9 idm K st' A (out++(cN l up).flatMap λp=>p::eJ l (n-1) (aM p)):=hfin
  (try apply wO pk;rfl);(repeat' first|show All _;constructor|apply wC pk;rfl;rfl|apply wX pk;rfl|refine aA rfl ?_ ?_<;>intro h<;>(try simp at h)<;>try omega|((try refine aC ?_);((refine ⟨_,_,_,rfl,zwr _,zsr _, ?_⟩;((exact ⟨A,hfin',λ_ h=>h⟩));done))))
end
end Go.Proofs.YtloecjjehapblaaGreatDoor.T
namespace Go.Proofs.YtloecjjehapblaaGreatDoor.T
open Go Go.Abs
set_option maxRecDepth 10000
set_option maxHeartbeats 4000000
structure Inv (l:List Pt):Prop where
 formed:∀p∈l,bT p=true
 nodup:(l.map aM).Nodup
 times:∀p∈l,∀q∈l,p.dot=q.dot->p.time=q.time
theorem sN {α β:Type} {g:α->β}:∀{l:List α},(l.map g).Nodup->∀{a b},a∈l->b∈l->g a=g b->a=b
 |[],_,_,_,h,_,_=>by cases h
 |x::l,hn,a,b,ha,hb,e=>by
  simp only [List.map_cons,List.nodup_cons] at hn
  rcases zmc.1 ha with ha|ha<;>rcases zmc.1 hb with hb|hb
  ·rw [ha,hb]
  ·exact (hn.1 (List.mem_map.2 ⟨b,hb,by rw [<-e,ha]⟩)).elim
  ·exact (hn.1 (List.mem_map.2 ⟨a,ha,by rw [e,hb]⟩)).elim
  ·exact sN hn.2 ha hb e
theorem Inv.named {l:List Pt} (h:Inv l):named l:=λ_ ha _ hb e=>sN h.nodup ha hb e
theorem aCp {α:Type} {C:List α->Prop} (h0:C []) (h1:∀l p,C l->C (l++[p])) (l:List α):C l:=by
 have:∀r,C (List.reverse r):=λr=>by
  induction r with
  |nil=>exact h0
  |cons p r ih=>rw [List.reverse_cons];exact h1 _ p ih
 have:=this l.reverse
 rwa [List.reverse_reverse] at this
theorem jR {K V:Type} [DecidableEq K] (f:Pt->K) (g:Pt->V) (l:List Pt) (p:Pt):(l++[p]).foldl (λm p=>cW (f p) (g p) m) []=cW (f p) (g p) (l.foldl (λm p=>cW (f p) (g p) m) []):=by
 rw [List.foldl_append];rfl
theorem ahT {K V:Type} [DecidableEq K] (f:Pt->K) (g:Pt->V) (k:K) (l:List Pt):
  (∀v,bX k (l.foldl (λm p=>cW (f p) (g p) m) [])=some v->∃q∈l,f q=k/\g q=v)/\(bX k (l.foldl (λm p=>cW (f p) (g p) m) [])=none->∀q∈l,f q≠k):=by
 induction l using aCp with
 |h0=>exact ⟨λv h=>(by cases h),λ_ q h=>(by cases h)⟩
 |h1 l p ih=>
  rw [jR]
  refine ⟨λv h=> ?_,λh q hq=> ?_⟩
  ·rw [qJ] at h
   split at h
   ·rename_i e;injection h with h;exact ⟨p,by simp,e.symm,h⟩
   ·obtain ⟨q,hq,h2⟩:=ih.1 v h;exact ⟨q,by simp [hq],h2⟩
  ·rw [qJ] at h
   split at h
   ·cases h
   ·rename_i e
    rcases zma.1 hq with hq|hq
    ·exact ih.2 h q hq
    ·rw [List.mem_singleton.1 hq];exact λe'=>e e'.symm
theorem acY (l:List Pt) (k:Nm):(∀v,bX k (dT l)=some v->v∈l/\aM v=k)/\(bX k (dT l)=none->∀q∈l,aM q≠k):=by
 obtain ⟨h1,h2⟩:=ahT aM id k l
 exact ⟨λv hv=>by obtain ⟨q,a,b,c⟩:=h1 v hv;exact ⟨c▸a,c▸b⟩,h2⟩
theorem atG (l:List Pt) (k:Dt):(∀v,bX k (eK l)=some v->∃q∈l,q.dot=k/\q.time=v)/\(bX k (eK l)=none->∀q∈l,q.dot≠k):=ahT (·.dot) (·.time) k l
theorem aoG {d:List Pt} (h:Inv d) (p:Pt):rP (dT d) (eK d) p=true↔(∀q∈d,aM q≠aM p)/\bT p=true/\∀q∈d,q.dot=p.dot->q.time=p.time:=by
 obtain ⟨a1,a2⟩:=acY d (aM p)
 obtain ⟨b1,b2⟩:=atG d p.dot
 unfold rP
 simp only [Bool.not_eq_true',Bool.or_eq_false_iff]
 constructor
 ·rintro ⟨⟨h1,h2⟩,h3⟩
  refine ⟨a2 (by simpa using h1),by simpa using h2,λq hq e=> ?_⟩
  cases ht:bX p.dot (eK d) with
  |none=>exact absurd e (b2 ht q hq)
  |some t=>
   rw [ht] at h3
   obtain ⟨r,hr,r1,r2⟩:=b1 t ht
   have:t=p.time:=by simpa using h3
   rw [<-this,<-r2]
   exact h.times q hq r hr (by rw [e,r1])
 ·rintro ⟨h1,h2,h3⟩
  refine ⟨⟨?_,by simpa using h2⟩, ?_⟩
  ·cases hm:bX (aM p) (dT d) with
   |none=>rfl
   |some v=>obtain ⟨c1,c2⟩:=a1 v hm;exact absurd c2 (h1 v c1)
  ·cases ht:bX p.dot (eK d) with
   |none=>rfl
   |some t=>obtain ⟨r,hr,r1,r2⟩:=b1 t ht;simp [<-r2,h3 r hr r1]
theorem Inv.snoc_iff {d:List Pt} (h:Inv d) (p:Pt):Inv (d++[p])↔(∀q∈d,aM q≠aM p)/\bT p=true/\∀q∈d,q.dot=p.dot->q.time=p.time:=by
 constructor
 ·intro k
  have hn:=k.nodup
  rw [List.map_append,List.nodup_append] at hn
  exact ⟨λq hq e=>hn.2.2 _ (List.mem_map.2 ⟨q,hq,rfl⟩) _ (by simp) e,k.formed p (by simp),λq hq e=>k.times q (by simp [hq]) p (by simp) e⟩
 ·rintro ⟨h1,h2,h3⟩
  refine ⟨λq hq=> ?_, ?_,λa ha b hb e=> ?_⟩
  ·rcases zma.1 hq with hq|hq
   ·exact h.formed q hq
   ·rw [List.mem_singleton.1 hq];exact h2
  ·rw [List.map_append,List.nodup_append]
   refine ⟨h.nodup,by simp,λa ha b hb e=> ?_⟩
   obtain ⟨q,hq,rfl⟩:=List.mem_map.1 ha
   simp only [List.map_cons,List.map_nil,List.mem_singleton] at hb
   exact h1 q hq (e.trans hb)
  ·rcases zma.1 ha with ha|ha<;>rcases zma.1 hb with hb|hb
   ·exact h.times a ha b hb e
   ·rw [List.mem_singleton.1 hb] at e⊢;exact h3 a ha e
   ·rw [List.mem_singleton.1 ha] at e⊢;exact (h3 b hb e.symm).symm
   ·rw [List.mem_singleton.1 ha,List.mem_singleton.1 hb]
theorem Inv.pre {d r:List Pt} (h:Inv (d++r)):Inv d:=by
 refine ⟨λp hp=>h.formed p (by simp [hp]), ?_,λp hp q hq=>h.times p (by simp [hp]) q (by simp [hq])⟩
 have:=h.nodup
 rw [List.map_append,List.nodup_append] at this
 exact this.1
theorem rI :∀(r d:List Pt),Inv d->(jG r (dT d) (eK d)=true↔Inv (d++r))
 |[],d,h=>by simp [jG,h]
 |p::r,d,h=>by
  have e1:cW (aM p) p (dT d)=dT (d++[p]):=(jR aM id d p).symm
  have e2:cW p.dot p.time (eK d)=eK (d++[p]):=(jR (·.dot) (·.time) d p).symm
  rw [jG,zba,aoG h,<-h.snoc_iff,e1,e2]
  have e3:d++p::r=(d++[p])++r:=by simp
  constructor
  ·rintro ⟨h1,h2⟩
   rw [e3];exact (rI r _ h1).1 h2
  ·intro h1
   rw [e3] at h1
   exact ⟨h1.pre,(rI r _ h1.pre).2 h1⟩
structure Whole (l:List Pt):Prop extends Inv l where
 up:∀p∈l,bE p=Nm.zero\/∃u∈l,aM u=bE p/\eN u p=true
theorem fV (l:List Pt):fW l=true↔Whole l:=by
 have h0:Inv []:=⟨λ_ h=>(by cases h),List.nodup_nil,λ_ h=>(by cases h)⟩
 unfold fW
 rw [zba,show jG l [] []=jG l (dT []) (eK []) from rfl,rI l [] h0,List.nil_append,zal]
 have hup:∀p,Inv l->(avL (dT l) p=true↔(bE p=Nm.zero\/∃u∈l,aM u=bE p/\eN u p=true)):=λp hI=>by
  obtain ⟨a1,a2⟩:=acY l (bE p)
  unfold avL
  rw [Bool.or_eq_true,zde]
  refine or_congr Iff.rfl ?_
  cases hm:bX (bE p) (dT l) with
  |none=>simp only [Bool.false_eq_true,false_iff];rintro ⟨u,hu,e,_⟩;exact a2 hm u hu e
  |some v=>
   obtain ⟨c1,c2⟩:=a1 v hm
   constructor
   ·intro h;exact ⟨v,c1,c2,h⟩
   ·rintro ⟨u,hu,e,h⟩
    rw [hI.named v c1 u hu (by rw [c2,e])];exact h
 constructor
 ·rintro ⟨h1,h2⟩;exact ⟨h1,λp hp=>(hup p h1).1 (h2 p hp)⟩
 ·intro h;exact ⟨h.toInv,λp hp=>(hup p h.toInv).2 (h.up p hp)⟩
instance (l :List Pt):Decidable (Whole l):=decidable_of_iff _ (fV l)
theorem mB (p q:Pt):eN p q=true↔p.time<q.time\/p.time=q.time/\(p.dot.dev<q.dot.dev\/p.dot.dev=q.dot.dev/\(p.dot.seq<q.dot.seq\/p.dot.seq=q.dot.seq/\p.at_<q.at_)):=by
 unfold eN
 rw [Bool.or_eq_true,acO,zba,zde,zde,Sp.ext_iff]
 simp only [bK]
 omega
theorem xM {p:Pt} (h:bT p=true):aM p≠Nm.zero:=by
 intro e
 simp only [bT,mayN,withinB,zba,zde] at h
 have h1:=h.1.2.1.1.1
 rw [e] at h1
 have h2:(1:Int)<=0:=h1
 omega
theorem aAV {l:List Pt} (h:Whole l) {u p:Pt} (hu:u∈l) (hp:p∈fN l (aM u)):p∈l/\eN u p=true:=by
 obtain ⟨h1,h2⟩:=List.mem_filter.1 hp
 have h2:bE p=aM u:=by simpa using h2
 refine ⟨h1, ?_⟩
 rcases h.up p h1 with e|⟨v,hv,e,ha⟩
 ·exact absurd (h2.symm.trans e) (xM (h.formed u hu))
 ·rw [h.named u hu v hv (by rw [e,h2])];exact ha
theorem uQ {l:List Pt} {f g:Pt->Bool} {a:Pt} (ha:a∈l) (hg:g a=true) (hf:f a=false) (hfg:∀q∈l,f q=true->g q=true):(l.filter f).length<(l.filter g).length:=by
 induction l with
 |nil=>cases ha
 |cons x l ih=>
  have hle:(l.filter f).length<=(l.filter g).length:=by
   clear ih ha
   induction l with
   |nil=>simp
   |cons y l ih=>
    have:=ih λq hq=>hfg q (by rcases zmc.1 hq with h|h<;>simp [h])
    rw [List.filter_cons,List.filter_cons]
    by_cases h1:f y=true
    ·rw [if_pos h1,if_pos (hfg y (by simp) h1)];simp;omega
    ·rw [if_neg h1];split<;>simp<;>omega
  rw [List.filter_cons,List.filter_cons]
  rcases zmc.1 ha with e|ha
  ·subst e;rw [if_pos hg,if_neg (by simp [hf])];simp;omega
  ·have:=ih ha λq hq=>hfg q (by simp [hq])
   by_cases h1:f x=true
   ·rw [if_pos h1,if_pos (hfg x (by simp) h1)];simp;omega
   ·rw [if_neg h1];split<;>simp<;>omega
theorem arT {l:List Pt} (h:Whole l):∀(n:Nat) (u:Pt),u∈l->(l.filter (eN u)).length<=n->aoM l n (aM u)
 |0,u,hu,hn=>by
  show fN l (aM u)=[]
  cases hk:fN l (aM u) with
  |nil=>rfl
  |cons p r=>
   obtain ⟨h1,h2⟩:=aAV h hu (p:=p) (by rw [hk];simp)
   have:p∈l.filter (eN u):=List.mem_filter.2 ⟨h1,h2⟩
   rw [List.length_eq_zero_iff.1 (Nat.le_zero.1 hn)] at this
   cases this
 |n+1,u,hu,hn=>λp hp=>by
  obtain ⟨h1,h2⟩:=aAV h hu hp
  refine arT h n p h1 ?_
  have:(l.filter (eN p)).length<(l.filter (eN u)).length:=uQ (a:=p) h1 h2 (by rw [<-Bool.not_eq_true,mB];omega) λq _ hq=>by
   rw [mB] at h2 hq⊢;omega
  omega
theorem ajE {l:List Pt} (h:Whole l):aoM l l.length Nm.zero:=by
 cases hl:l.length with
 |zero=>rw [List.length_eq_zero_iff.1 hl];rfl
 |succ n=>
   intro p hp
   have hp:=(List.mem_filter.1 hp).1
   refine arT h n p hp ?_
   have:(l.filter (eN p)).length<(l.filter λ_=>true).length:=uQ hp rfl (by rw [<-Bool.not_eq_true,mB];omega) λ_ _ _=>rfl
   have e:(l.filter λ_=>true)=l:=List.filter_eq_self.2 λ_ _=>rfl
   rw [e] at this
   omega
end Go.Proofs.YtloecjjehapblaaGreatDoor.T
namespace Go.Proofs.YtloecjjehapblaaGreatDoor.T
open Go Go.Abs
attribute [local irreducible] Ev PWp
set_option maxRecDepth 10000
set_option maxHeartbeats 4000000
theorem FamB.toHS {st S:aJ} {l:List Pt} {idm id5 id8 id9:Nat} {K:List (Nm×(Nat×Nat))} (h:FamB st l idm K S) {c5 c8 c9 c9':AObj} (h5:S id5=none) (h8:upd S id5 (some c5) id8=none) (h9:upd (upd S id5 (some c5)) id8 (some c8) id9=none)
  (e5:c5= .cells 355 [.mref idm]) (e8:c8= .cells 78 [.val (.slice none 0 0)]) (e9:c9'= .cells 356 [.fn 286 [.ref id5 0, .ref id8 0, .ref id9 0]]):
  HS st l id5 id8 id9 idm K (upd (upd (upd (upd S id5 (some c5)) id8 (some c8)) id9 (some c9)) id9 (some c9')) (fN l) []:=by
 subst e5 e8 e9
 have n85:id8≠id5:=λe=>by rw [e,aB] at h8;cases h8
 rw [aD n85] at h8
 have n98:id9≠id8:=λe=>by rw [e,aB] at h9;cases h9
 rw [aD n98] at h9
 have n95:id9≠id5:=λe=>by rw [e,aB] at h9;cases h9
 rw [aD n95] at h9
 have g:∀j,S j≠none->j≠id5/\j≠id8/\j≠id9:=λj hj=>⟨λe=>hj (e▸h5),λe=>hj (e▸h8),λe=>hj (e▸h9)⟩
 have gg:∀j,S j≠none->(upd (upd (upd (upd S id5 (some (.cells 355 [.mref idm]))) id8 (some (.cells 78 [.val (.slice none 0 0)]))) id9 (some c9)) id9 (some (.cells 356 [.fn 286 [.ref id5 0, .ref id8 0, .ref id9 0]]))) j=S j:=λj hj=>by
  obtain ⟨a,b,c⟩:=g j hj
  rw [aD c,aD c,aD b,aD a]
 refine ⟨λj hj=> ?_,(h.fresh h5).1,(h.fresh h8).1,(h.fresh h9).1,h.mf, ?_,aB _ _ _,(gg idm (by rw [h.hm];simp)).trans h.hm,λk id n hk=> ?_,h.ids,h.keys,h.non,λk=> .refl _, .inl ⟨?_,rfl⟩⟩
 ·have:=h.old j hj
  rw [gg j (by rw [this];exact hj)];exact this
 ·rw [aD (Ne.symm n95),aD (Ne.symm n95),aD (Ne.symm n85),aB]
 ·obtain ⟨a1,a2,a3⟩:=h.arr k id n hk
  exact ⟨(gg id (by rw [a1];simp)).trans a1,a2,a3⟩
 ·rw [aD (Ne.symm n98),aD (Ne.symm n98),aB]
def dH (l:List Pt):List Pt:=if fW l=true/\l.length<=2000 then eJ l l.length Nm.zero else []
theorem ayT (l:List Pt) (st:aJ) (hl:l.length<4611686018427387904) (hlen:fW l=true->(eJ l l.length Nm.zero).length=l.length):PC Tryz.prog 187 [.seq (l.map Pt.cells)] st (LR 190 11 st ((dH l).map Pt.cells)):=by
 refine bZ aF Tryz.func187 (by kernel_rfl) rfl rfl rfl rfl ?_
 (try apply wO pk;rfl);(repeat' first|show All _;constructor|show Imp _ _;constructor|show ImpX _ _ _ _;constructor|apply wC pk;rfl;rfl|apply wE pk;rfl;rfl|refine aA rfl ?_ ?_<;>intro h<;>(try simp at h)<;>try omega|((try refine aC ?_);((refine ⟨_,_,_,rfl,zwr _,zsr _, ?_⟩;((have e:dH l=[]:=(by unfold dH;rw [if_neg];rintro ⟨q1,q2⟩;rcases ‹_\/_›with q|q;(rw [q1] at q;cases q);omega);exact .inr ⟨rfl,by rw [e];rfl,zsr _⟩));done)))|(apply aH;rfl;rfl;rfl;(intro _;apply (yM l hl)<;>first|assumption|omega);rotate_left;rfl;rfl))
 have hW:fW l=true/\l.length<=2000:=⟨h.1,by omega⟩
 have hWh:=(fV l).1 hW.1
 have hlen:=hlen hW.1
 have hord:dH l=eJ l l.length Nm.zero:=by unfold dH;rw [if_pos hW]
 refine mkM (enc:=Nm.enc) (f:=zP) rfl (λidm hidm=> ?_)
 have hidm:st idm=none:=hidm
 (try apply wO pk;rfl);(repeat' first|show All _;constructor|apply wE pk;rfl;rfl)
 refine aK (X:={x:Nat×aJ×List (Nm×(Nat×Nat))//x.1<=l.length/\FamB st (l.take x.1) idm x.2.2 x.2.1}) (λi=>(((((St.nil 45 (i.1.2.1)).var 5 355 ([.mref idm])).pv 23 (.seq (l.map Pt.cells))).pv 24 ((PV.val (Value.int .i64 ((((l.map Pt.cells)).length:Nat)))))).pv 25 ((PV.val (Value.int .i64 ((i.1.1:Nat))))))) (λi=>l.length-i.1.1) ⟨(0,upd st idm (some (.map (aY Nm.enc zP []))),[]),by simp,FamB.nil hidm⟩ ?_ (λi=> ?_)
 ·(((repeat (first|refine Sub.pv ?_ rfl|refine Sub.var ?_ rfl rfl));(exact Sub.nil _ _ _ (zsr _) rfl)))
 obtain ⟨⟨i,S,K⟩,hi,hF⟩:=i
 simp only at hi hF
 dsimp only
 have hm:=hF.hm
 have hkl:=λh:i<l.length=>akN (l.take i) (bE (l[i]'h))
 have hkt:(l.take i).length<=l.length:=by rw [zlt];omega
 (try apply wO pk;rfl);(repeat' first|show All _;constructor|show Imp _ _;constructor|apply wC pk;rfl;rfl|apply wE pk;rfl;rfl|apply wDm pk;rfl;kernel_rfl;rfl;rfl|refine aA rfl ?_ ?_<;>intro h<;>(try simp at h)<;>try omega|(apply aH;rfl;rfl;rfl;(intro _;apply pF<;>first|assumption|omega);rotate_left;rfl;rfl)|apply aN pk;(iterate 6 rfl);rotate_left;rfl;(intro hw;rfl);(intro hw;apply aI<;>omega);(intro _;rfl);rfl|(apply aAz pk Nm.key (f:=zP);(iterate 5 rfl);rotate_left;rfl;(assumption);rfl;intro v hv;rotate_left;intro hv;rotate_left)|intros;(try simp only [zql]);omega)
 ·skip
  obtain ⟨a1,a2,a3⟩:=hF.arr _ _ _ (pK hv)
  have hkl:=hkl h
  (try apply wO pk;rfl);(repeat' ((apply apV pk (f:=Pt.cells) [l[i]'‹_›] 96;(iterate 9 rfl);(assumption);(omega);exact λ_=>rfl;exact λ_=>rfl;exact zF;((focus (simp;omega)));((focus (simp;omega)));rfl;intro id' hid')))
  have hid':S id'=none:=hid'
  obtain ⟨f1,f2,f3⟩:=hF.fresh hid'
  have f2':=Ne.symm f2
  have f4:=Ne.symm (hF.notm (pK hv))
  apply muA pk Nm.key (f:=zP) (k:=bE (l[i]'h)) (v:=(id',v.2+1));exact .inr rfl;rfl;rfl;rfl;rfl;rfl;exact (aD f2').trans ((aD f4).trans hm);rfl
  (try apply wO pk;rfl);(repeat' first|show All _;constructor|apply wE pk;rfl;rfl|(refine ⟨⟨(i+1,_,_),by simp only;omega,hF.step (S1:=upd S v.1 none) (m:=v.2+1) h hid' (by omega) (λj hj=>aD λe=>hj v.2 (by subst e;exact pK hv))⟩, ?_,by simp only;omega⟩;(((repeat (first|refine Sub.pv ?_ rfl|refine Sub.var ?_ rfl rfl));(exact Sub.nil _ _ _ (zsr _) rfl))))|intros;(try simp only [zql]);omega)
 ·skip
  have hk0:=hF.non _ hv
  (try apply wO pk;rfl);(repeat' ((apply ap0 pk (f:=Pt.cells) [l[i]'‹_›] 96;(iterate 10 rfl);exact λ_=>rfl;exact λ_=>rfl;exact zF;((focus (simp;done)));((focus (simp;done)));rfl;intro id' hid')))
  have hid':S id'=none:=hid'
  obtain ⟨f1,f2,f3⟩:=hF.fresh hid'
  have f2':=Ne.symm f2
  apply muA pk Nm.key (f:=zP) (k:=bE (l[i]'h)) (v:=(id',1));exact .inr rfl;rfl;rfl;rfl;rfl;rfl;exact (aD f2').trans hm;rfl
  (try apply wO pk;rfl);(repeat' first|show All _;constructor|apply wE pk;rfl;rfl|(refine ⟨⟨(i+1,upd (upd S id' (some (.arr 190 ([l[i]'h].map Pt.cells)))) idm (some (.map (aY Nm.enc zP (cW (bE (l[i]'h)) (id',1) K)))),cW (bE (l[i]'h)) (id',1) K),by simp only;omega,by have q:=hF.step (S1:=S) (m:=1) h hid' (by rw [hk0];rfl) (λj hj=>rfl);rw [hk0] at q;exact q⟩, ?_,by simp only;omega⟩;(((repeat (first|refine Sub.pv ?_ rfl|refine Sub.var ?_ rfl rfl));(exact Sub.nil _ _ _ (zsr _) rfl))))|intros;(try simp only [zql]);omega)
 have e1:l.take i=l:=List.take_of_length_le (by omega)
 rw [e1] at hF
 clear hkl hkt
 (try apply wO pk;rfl);(repeat' first|show All _;constructor|show Imp _ _;constructor|apply wE pk;rfl;rfl|apply ldR pk;rfl;rfl;rotate_left;rfl;(exact aB _ _ _);rfl;rfl|apply stR pk;rfl;rfl;(exact aB _ _ _);rfl;rfl|(apply fK 5;rfl;rfl;intro id5 hid5)|(apply fK 8;rfl;rfl;intro id8 hid8)|(apply fK 9;rfl;rfl;intro id9 hid9))
 have q:=hF.toHS (c8:= .cells 78 [.val (.slice none 0 0)]) (c5:= .cells 355 [.mref idm]) (c9:= .cells 356 [.val .nilFunc]) hid5 hid8 hid9 rfl rfl rfl
 (try apply wO pk;rfl);(repeat' first|show All _;constructor|apply wE pk;rfl;rfl|(apply cB;rfl;rfl;(apply (atI hWh.named hWh.formed hl l.length Nm.zero _ _ _ (ajE hWh) (by rw [hlen];simp;omega) q)<;>first|exact aB _ _ _|assumption|omega|(fail));rfl;rfl;rfl;intro _ st' hR;obtain ⟨A2,hA3,hA4⟩:=hR))
 rw [List.nil_append] at hA3
 have hold:=hA3.old
 have hsub:∀ido,st ido=none->StSub st (upd st' ido none):=λido hn j=>by
  by_cases hj:st j=none
  ·exact .inl hj
  ·right;rw [aD (λe=>by subst e;exact hj hn)];exact (hold j hj).symm
 have hsub0:StSub st st':=λj=>by
  by_cases hj:st j=none
  ·exact .inl hj
  ·right;exact (hold j hj).symm
 rcases hA3.h8 with ⟨h8,e8⟩|⟨ido,h8,c1,c2,c3⟩
 ·(try apply wO pk;rfl);(repeat' first|show All _;constructor|show Imp _ _;constructor|apply wE pk;rfl;rfl|(try refine aC ?_);((refine ⟨_,_,_,rfl,zwr _,zsr _, ?_⟩;((exact .inr ⟨rfl,by rw [hord,e8];rfl,hsub0⟩));done))|apply ldR pk;rfl;rfl;rotate_left;rfl;(assumption);rfl;rfl)
 ·(try apply wO pk;rfl);(repeat' first|show All _;constructor|show Imp _ _;constructor|apply wE pk;rfl;rfl|(try refine aC ?_);((refine ⟨_,_,_,rfl,zwr _,zsr _, ?_⟩;((exact .inl ⟨ido,by rw [hord,zql],c2,by rw [hord];exact c1,hsub ido c2⟩));done))|apply ldR pk;rfl;rfl;rotate_left;rfl;(assumption);rfl;rfl)
theorem amZ :Tryz.prog.cellsOf 190=11:=(aR aF (t:=190) (n:=11) rfl).2
theorem ahB (l:List Pt) (hl:l.length<4611686018427387904) (hlen:fW l=true->(eJ l l.length Nm.zero).length=l.length):PF Tryz.prog 187 [.seq (l.map Pt.cells)] (.seq ((dH l).map Pt.cells)):=
 aDz amZ λst=>ayT l st hl hlen
end Go.Proofs.YtloecjjehapblaaGreatDoor.T
