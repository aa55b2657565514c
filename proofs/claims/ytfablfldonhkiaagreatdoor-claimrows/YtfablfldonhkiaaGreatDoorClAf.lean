import Derived.Test.YtfablfldonhkiaaGreatDoorClAe
import Derived.Test.YtfablfldonhkiaaGreatDoorAbsE
import Derived.Sort.LotD5
set_option linter.unusedSimpArgs false
set_option linter.unusedVariables false
namespace Go.Proofs.YtfablfldonhkiaaGreatDoor.T
open Go Go.Abs
section
attribute [local irreducible] Ev PWp
set_option maxRecDepth 10000
set_option maxHeartbeats 4000000
theorem aEK :PF Tryz.prog 106 [(vu ((0:Nat)))] (vi ((0:Nat))):=by
 refine pF Tryz.func106 rfl (λst=> ?_)
 (repeat' first|show Cn (.e _ _ _ _);refine .any ?_;((refine ⟨_,_,_,rfl,zwr _,zsr _, ?_,rfl⟩;(rfl)))|apply wZ;rfl|show Cn _;constructor|apply cvA pk.htt;(iterate 5 rfl);(refine ⟨?_, ?_⟩<;>(first|omega|decide));rfl|apply sxA pk.htt 0 0;(iterate 6 rfl);kernel_rfl;rfl|exact ⟨by decide,by decide⟩)
theorem aHZ {y:Int} (hy:y=0):PF Tryz.prog 65 [(vu (y))] (vi ((0:Nat))):=by
 subst hy
 refine pF Tryz.func65 rfl (λst=> ?_)
 (repeat' first|apply wZ;rfl|show Cn _;constructor|exact rfl|(apply aEK)|apply wY;rfl)
section
variable {fid:FuncId} {caps:List PV} {st:aD}
theorem aEZ :PC Tryz.prog 327 [.seq [],(vi (0)),(vi (0)), .fn fid caps] st λ_ st'=>st'=st:=by
 refine pC Tryz.func327 rfl ?_
 (repeat' first|apply wZ;rfl|show Cn _;constructor|omega)
 refine aC (X:=Unit) (λi=>((((((St.nil 53 st).pv 0 (.seq [])).pv 1 ((vi (0)))).pv 2 ((vi (0)))).pv 3 (.fn fid caps)).pv 8 ((vi (1))))) (λi=>0) () ?_ (λi=> ?_)
 ·(repeat' first|show Cn _;constructor|exact rfl)
 (repeat' first|show Cn (.r _ _ _);refine .rr ?_;((rfl));done|apply wZ;rfl|show Cn _;constructor)
theorem aEw {lim:Int}:PC Tryz.prog 307 [.seq [],(vi (0)),(vi (0)),(vi (lim)), .fn fid caps] st λ_ st'=>st'=st:=by
 refine pC Tryz.func307 rfl ?_
 (repeat' first|apply wZ;rfl|show Cn _;constructor)
 refine aC (X:=Unit) (λi=>((((((((St.nil 148 st).pv 0 (.seq [])).pv 1 ((vi (0)))).pv 2 ((vi (0)))).pv 3 ((vi (lim)))).pv 4 (.fn fid caps)).pv 10 ((vb (true)))).pv 11 ((vb (true))))) (λi=>0) () ?_ (λi=> ?_)
 ·(repeat' first|show Cn _;constructor|exact rfl)
 (repeat' first|(apply cP;rfl;((apply aEZ));(rintro _ st' rfl))|show Cn (.r _ _ _);refine .rr ?_;((rfl));done|apply wZ;rfl|show Cn _;constructor|apply wY;rfl|omega)
theorem aBf :PC Tryz.prog 263 [.seq [], .fn fid caps] st λ_ st'=>st'=st:=by
 refine pC Tryz.func263 rfl ?_
 (repeat' first|(apply Cn.cf;focus ((apply (aHZ rfl));done))|(apply cP;rfl;((apply aEw));(rintro _ st' rfl))|show Cn (.r _ _ _);refine .rr ?_;((rfl));done|apply wZ;rfl|show Cn _;constructor|apply cvA pk.htt;(iterate 5 rfl);(refine ⟨?_, ?_⟩<;>(first|omega|decide));rfl|apply wY;rfl)
end
theorem arJ {S:aD} {l:List Pt} {id n:Nat} (hf:∀p∈l,bV p=true) (hst:S id=some (.arr 149 (l.map Pt.cells))) (hn:l.length=n) (h62:n<4611686018427387904):
  PC Tryz.prog 263 [.vec id 11 0 n, .fn 264 []] S λ_ S'=>∃R:List Pt,S'=upd S id (some (.arr 149 (R.map Pt.cells)))/\R.Perm l/\R.Pairwise λx y=>¬fQ y x:=by
 have e:(l.attach.map λx=>(⟨x.1,hf x.1 x.2⟩:Fp)).map (λx=>([.int .i64 x.1.val.kind, .int .i64 x.1.val.n, .string x.1.val.s, .int .i64 x.1.dot.dev, .int .i64 x.1.dot.seq, .int .i64 x.1.at_, .int .i64 x.1.time, .int .i64 x.1.after.dev, .int .i64 x.1.after.seq, .int .i64 x.1.afterAt, .bool x.1.gone]:List Value).map PV.val)=l.map Pt.cells:=by
  rw [List.map_map]
  show l.attach.map (λx=>Pt.cells x.1)=_
  rw [List.attach_map_val]
 have:=amI (P:=Tryz.prog) aJb (by kernel_rfl) (k:=11) Tryz.isAgg149 Tryz.sizeOf149 (enc:=λx:Fp=>[.int .i64 x.1.val.kind, .int .i64 x.1.val.n, .string x.1.val.s, .int .i64 x.1.dot.dev, .int .i64 x.1.dot.seq, .int .i64 x.1.at_, .int .i64 x.1.time, .int .i64 x.1.after.dev, .int .i64 x.1.after.seq, .int .i64 x.1.afterAt, .bool x.1.gone]) (λ_=>rfl) (λx v hv=>by simp only [zmc,List.not_mem_nil,or_false] at hv;rcases hv with rfl|rfl|rfl|rfl|rfl|rfl|rfl|rfl|rfl|rfl|rfl<;>rfl) (cmp:=aBc) aAr
  (gf:=264) (by kernel_rfl) (λx y=>iA x.1 y.1 x.2 y.2) (st:=S) (id:=id) (n:=n) (d:=l.attach.map λx=>⟨x.1,hf x.1 x.2⟩) (e:=149) (by kernel_rfl) (by rw [e];exact hst) (by simpa using hn) h62
 refine ⟨this.1,λw g vs h1 h2=>(this.2 w g vs h1 h2).mono ?_⟩
 rintro e w' ⟨v,q,S',g',h3,⟨r,hS,hp,hw⟩,h4⟩
 refine ⟨v,q,S',g',h3,⟨r.map (·.1), ?_, ?_, ?_⟩,h4⟩
 ·rw [hS,List.map_map];rfl
 ·have:=hp.map (·.1)
  rwa [List.map_map,show ((λx:Fp=>x.1)∘λx:{x//x∈l}=>(⟨x.1,hf x.1 x.2⟩:Fp))=Subtype.val from rfl,List.attach_map_subtype_val] at this
 ·rw [List.pairwise_map]
  exact hw.imp fun {a b} h=>by rwa [aBc,aeX] at h
end
section
attribute [local irreducible] Ev PWp
set_option maxRecDepth 10000
set_option maxHeartbeats 4000000
instance (a b:Pt):Decidable (fQ a b):=by unfold fQ;infer_instance
def aoM (p:Pt):List Pt->List Pt
 |[]=>[p]
 |q::r=>if fQ q p then q::aoM p r else p::q::r
def cM (l:List Pt) (k:Nm):List Pt:=(fN l k).foldr aoM []
def eD (l:List Pt):Nat->Nm->List Pt
 |0,_=>[]
 |n+1,k=>(cM l k).flatMap λp=>p::eD l n (aH p)
def arN (l:List Pt):Nat->Nm->Prop
 |0,k=>fN l k=[]
 |n+1,k=>∀p∈fN l k,arN l n (aH p)
theorem aFs {α:Type} {r:α->α->Prop}:∀{l m:List α},l.Perm m->l.Pairwise r->m.Pairwise r->(∀a∈l,∀b∈l,r a b->r b a->a=b)->l=m
 |[],m,h,_,_,_=>(List.Perm.nil_eq h)
 |a::l,[],h,_,_,_=>(by cases List.Perm.eq_nil h)
 |a::l,b::m,h,h1,h2,ha=>by
  have hab:a=b:=by
   rcases zmc.1 (h.symm.subset (List.mem_cons_self:b∈b::m)) with e|e
   ·exact e.symm
   ·rcases zmc.1 (h.subset (List.mem_cons_self:a∈a::l)) with e'|e'
    ·exact e'
    ·exact ha a List.mem_cons_self b (List.mem_cons_of_mem _ e) ((List.pairwise_cons.1 h1).1 b e) ((List.pairwise_cons.1 h2).1 a e')
  subst hab
  rw [aFs ((List.perm_cons a).1 h) (List.pairwise_cons.1 h1).2 (List.pairwise_cons.1 h2).2 λx hx y hy=>ha x (List.mem_cons_of_mem _ hx) y (List.mem_cons_of_mem _ hy)]
theorem wW (p:Pt):∀(l:List Pt),(aoM p l).Perm (p::l)
 |[]=> .refl _
 |q::r=>by
  unfold aoM
  split
  ·exact ((wW p r).cons q).trans (.swap p q r)
  ·exact .refl _
theorem yB (p:Pt):∀(l:List Pt),(l.Pairwise λx y=>¬fQ y x)->(aoM p l).Pairwise λx y=>¬fQ y x
 |[],_=>by simp [aoM]
 |q::r,h=>by
  obtain ⟨h1,h2⟩:=List.pairwise_cons.1 h
  unfold aoM
  split
  ·rename_i hk
   refine List.pairwise_cons.2 ⟨λx hx=> ?_,yB p r h2⟩
   rcases zmc.1 ((wW p r).subset hx) with rfl|hx
   ·rw [eT] at hk⊢;omega
   ·exact h1 x hx
  ·rename_i hk
   refine List.pairwise_cons.2 ⟨λx hx=> ?_,h⟩
   rcases zmc.1 hx with rfl|hx
   ·exact hk
   ·have:=h1 x hx
    rw [eT] at hk this⊢;omega
theorem iG (l:List Pt) (k:Nm):(cM l k).Perm (fN l k):=by
 unfold cM
 generalize fN l k=m
 induction m with
 |nil=>exact .refl _
 |cons p r ih=>exact (wW p _).trans (ih.cons p)
theorem tU (l:List Pt) (k:Nm):(cM l k).Pairwise λx y=>¬fQ y x:=by
 unfold cM
 generalize fN l k=m
 induction m with
 |nil=>exact List.Pairwise.nil
 |cons p r ih=>exact yB p _ ih
def named (l:List Pt):Prop:=∀a∈l,∀b∈l,aH a=aH b->a=b
theorem auY {l:List Pt} (hn:named l) {a b:Pt} (ha:a∈l) (hb:b∈l) (h1:¬fQ a b) (h2:¬fQ b a):a=b:=by
 refine hn a ha b hb ?_
 rw [eT] at h1 h2
 rw [aH,aH,Nm.mk.injEq,Dt.ext_iff]
 omega
theorem aBn {l R:List Pt} {k:Nm} (hn:named l) (hp:R.Perm (fN l k)) (hs:R.Pairwise λx y=>¬fQ y x):R=cM l k:=by
 refine aFs (hp.trans (iG l k).symm) hs (tU l k) λa ha b hb h1 h2=> ?_
 have hm:∀x∈R,x∈l:=λx hx=>(List.mem_filter.1 (hp.subset hx)).1
 exact auY hn (hm a ha) (hm b hb) h2 h1
structure HS (st:aD) (l:List Pt) (id5 id8 id9 idm:Nat) (K:List (Nm×(Nat×Nat))) (S:aD) (A:Nm->List Pt) (out:List Pt):Prop where
 old:∀j,st j≠none->S j=st j
 f5:st id5=none
 f8:st id8=none
 f9:st id9=none
 fm:st idm=none
 h5:S id5=some (.cells 313 [.mref idm])
 h9:S id9=some (.cells 314 [.fn 262 [.ref id5 0, .ref id8 0, .ref id9 0]])
 hm:S idm=some (.map (aM Nm.enc aaN K))
 arr:∀k id n,(k,(id,n))∈K->S id=some (.arr 149 ((A k).map Pt.cells))/\n=(fN l k).length/\st id=none
 ids:(K.map (·.2.1)).Nodup
 keys:(K.map (·.1)).Nodup
 non:∀k,bY k K=none->fN l k=[]
 perm:∀k,(A k).Perm (fN l k)
 h8:(S id8=some (.cells 108 [.val (.slice none 0 0)])/\out=[])\/∃ido,S id8=some (.cells 108 [.vec ido 11 0 out.length])/\S ido=some (.arr 149 (out.map Pt.cells))/\st ido=none/\∀k n,(k,(ido,n))∉K
section
variable {st S:aD} {l:List Pt} {id5 id8 id9 idm:Nat} {K:List (Nm×(Nat×Nat))} {A:Nm->List Pt} {out:List Pt}
theorem HS.sorted (h:HS st l id5 id8 id9 idm K S A out) {k:Nm} {id n:Nat} (hk:(k,(id,n))∈K) {R:List Pt} (hR:R.Perm (A k)):
  HS st l id5 id8 id9 idm K (upd S id (some (.arr 149 (R.map Pt.cells)))) (λk'=>if k'=k then R else A k') out:=by
 obtain ⟨a1,a2,a3⟩:=h.arr k id n hk
 have n5:id5≠id:=λe=>by rw [<-e,h.h5] at a1;cases a1
 have n9:id9≠id:=λe=>by rw [<-e,h.h9] at a1;cases a1
 have nm:idm≠id:=λe=>by rw [<-e,h.hm] at a1;cases a1
 have n8:id8≠id:=λe=>by rcases h.h8 with ⟨h8,_⟩|⟨ido,h8,_⟩<;>rw [<-e,h8] at a1<;>cases a1
 refine ⟨λj hj=> ?_,h.f5,h.f8,h.f9,h.fm,(aB n5).trans h.h5,(aB n9).trans h.h9,(aB nm).trans h.hm,λk' j m hk'=> ?_,h.ids,h.keys,h.non,λk'=> ?_, ?_⟩
 ·rw [aB (λe=>by subst e;exact hj a3)];exact h.old j hj
 ·obtain ⟨b1,b2,b3⟩:=h.arr k' j m hk'
  by_cases hj:j=id
  ·subst hj
   have:=vM h.ids hk hk' rfl
   simp only [Prod.mk.injEq] at this
   obtain ⟨rfl,_⟩:=this
   exact ⟨by rw [aA,zp rfl],b2,b3⟩
  ·refine ⟨?_,b2,b3⟩
   rw [aB hj,b1,zn]
   intro e
   subst e
   have hkk:∀{K:List (Nm×(Nat×Nat))},(K.map (·.1)).Nodup->(k',(id,n))∈K->(k',(j,m))∈K->id=j:=by
    intro K hn
    induction K with
    |nil=>intro h;cases h
    |cons x K ih=>
     intro h1 h2
     simp only [zmp,List.nodup_cons] at hn
     rcases zmc.1 h1 with e1|e1<;>rcases zmc.1 h2 with e2|e2
     ·rw [<-e1] at e2;exact (Prod.mk.inj (Prod.mk.inj e2).2).1.symm
     ·exact (hn.1 (List.mem_map.2 ⟨_,e2,by rw [<-e1]⟩)).elim
     ·exact (hn.1 (List.mem_map.2 ⟨_,e1,by rw [<-e2]⟩)).elim
     ·exact ih hn.2 e1 e2
   exact hj (hkk h.keys hk hk').symm
 ·by_cases hk':k'=k
  ·subst hk';simp only [if_true];exact hR.trans (h.perm k')
  ·simp only [zn hk'];exact h.perm k'
 ·rcases h.h8 with ⟨h8,e⟩|⟨ido,h8,b1,b2,b3⟩
  ·exact .inl ⟨(aB n8).trans h8,e⟩
  ·exact .inr ⟨ido,(aB n8).trans h8,(aB λe=>b3 k n (by rw [e];exact hk)).trans b1,b2,b3⟩
theorem HS.push (h:HS st l id5 id8 id9 idm K S A out) {S1:aD} {id':Nat} (p:Pt) (hid:S id'=none) (hS:∀j,S1 j=S j\/st j=none/\j≠id5/\j≠id9/\j≠idm/\∀k n,(k,(j,n))∉K):
  HS st l id5 id8 id9 idm K (upd (upd S1 id' (some (.arr 149 ((out++[p]).map Pt.cells)))) id8 (some (.cells 108 [.vec id' 11 0 (out.length+1)]))) A (out++[p]):=by
 have n5:id5≠id':=λe=>by rw [<-e,h.h5] at hid;cases hid
 have n9:id9≠id':=λe=>by rw [<-e,h.h9] at hid;cases hid
 have nm:idm≠id':=λe=>by rw [<-e,h.hm] at hid;cases hid
 have n8:id8≠id':=λe=>by rcases h.h8 with ⟨h8,_⟩|⟨ido,h8,_⟩<;>rw [<-e,h8] at hid<;>cases hid
 have m5:id5≠id8:=λe=>by have:=h.h5;rcases h.h8 with ⟨h8,_⟩|⟨ido,h8,_⟩<;>rw [e,h8] at this<;>cases this
 have m9:id9≠id8:=λe=>by have:=h.h9;rcases h.h8 with ⟨h8,_⟩|⟨ido,h8,_⟩<;>rw [e,h8] at this<;>cases this
 have mm:idm≠id8:=λe=>by have:=h.hm;rcases h.h8 with ⟨h8,_⟩|⟨ido,h8,_⟩<;>rw [e,h8] at this<;>cases this
 have hi:st id'=none:=by
  cases hs:st id' with
  |none=>rfl
  |some o=>have:=h.old id' (by rw [hs];simp);rw [hid,hs] at this;cases this
 have g:∀j,j≠id8->j≠id'->(∀h:st j=none/\j≠id5/\j≠id9/\j≠idm/\∀k n,(k,(j,n))∉K,False)->upd (upd S1 id' (some (.arr 149 ((out++[p]).map Pt.cells)))) id8 (some (.cells 108 [.vec id' 11 0 (out.length+1)])) j=S j:=λj h1 h2 h3=>by
  rw [aB h1,aB h2]
  rcases hS j with e|e
  ·exact e
  ·exact (h3 e).elim
 refine ⟨λj hj=> ?_,h.f5,h.f8,h.f9,h.fm,(g id5 m5 n5 λe=>e.2.1 rfl).trans h.h5,(g id9 m9 n9 λe=>e.2.2.1 rfl).trans h.h9,(g idm mm nm λe=>e.2.2.2.1 rfl).trans h.hm,λk j n hk=> ?_,h.ids,h.keys,h.non,h.perm, ?_⟩
 ·rw [g j (λe=>by subst e;exact hj h.f8) (λe=>by subst e;exact hj hi) λe=>hj e.1];exact h.old j hj
 ·obtain ⟨b1,b2,b3⟩:=h.arr k j n hk
  have e8:j≠id8:=λe=>by rcases h.h8 with ⟨h8,_⟩|⟨ido,h8,_⟩<;>rw [e,h8] at b1<;>cases b1
  have e':j≠id':=λe=>by rw [e,hid] at b1;cases b1
  rw [g j e8 e' λe=>e.2.2.2.2 k n hk]
  exact ⟨b1,b2,b3⟩
 ·refine .inr ⟨id',by rw [aA];simp,by rw [aB (Ne.symm n8),aA],hi,λk n hk=> ?_⟩
  have:=(h.arr k id' n hk).1
  rw [hid] at this;cases this
theorem gX {k:Nm} {p:Pt} (h:p∈cM l k):p∈l/\p∈fN l k:=by
 have:=(iG l k).subset h
 exact ⟨(List.mem_filter.1 this).1,this⟩
theorem axL (hn:named l) (hf:∀p∈l,bV p=true) (h62:l.length<4611686018427387904):∀(n:Nat) (up:Nm) (S:aD) (A:Nm->List Pt) (out:List Pt),arN l n up->out.length+(eD l n up).length<=1000000->HS st l id5 id8 id9 idm K S A out->
  PC Tryz.prog 262 [.agg up.cells, .ref id5 0, .ref id8 0, .ref id9 0] S λ_ S'=>∃A',HS st l id5 id8 id9 idm K S' A' (out++eD l n up)/\∀k,A k=cM l k->A' k=cM l k:=by
 intro n
 induction n using Nat.strongRecOn with
 |ind n ih=> ?_
 intro up S A out hd hB h
 have hk:∀p∈fN l up,n≠0/\arN l (n-1) (aH p):=λp hp=>by
  cases n with
  |zero=>rw [show fN l up=[] from hd] at hp;cases hp
  |succ n=>exact ⟨by omega,hd p hp⟩
 have hh:eD l n up=(cM l up).flatMap λp=>p::eD l (n-1) (aH p):=by
  cases n with
  |zero=>rw [show cM l up=[] from List.Perm.eq_nil ((iG l up).trans (by rw [show fN l up=[] from hd]))];rfl
  |succ n=>rfl
 rw [hh] at hB
 rw [hh]
 clear hh hd
 have hh5:=h.h5
 have hhm:=h.hm
 refine pC Tryz.func262 rfl ?_
 (repeat' first|apply wZ;rfl|show Cn _;constructor|apply ldR pk;rfl;rfl;rotate_left;rfl;(assumption);rfl;rfl|(apply aCD pk Nm.key (f:=aaN);(iterate 5 rfl);rotate_left;rfl;(assumption);rfl;intro v hv;rotate_left;intro hv;rotate_left))
 ·obtain ⟨id,m⟩:=v
  have hmem:=qB hv
  obtain ⟨a1,a2,a3⟩:=h.arr _ _ _ hmem
  have hlen:(A up).length=m:=by rw [(h.perm up).length_eq,a2]
  have hAf:∀p∈A up,bV p=true:=λp hp=>hf p (List.mem_filter.1 ((h.perm up).subset hp)).1
  have h62':m<4611686018427387904:=by have:=amF l up;omega
  (repeat' first|(apply cP;rfl;(apply (arJ (l:=A up) hAf)<;>(assumption));rintro _ st' (⟨R,rfl,hR1,hR2⟩))|apply wZ;rfl|show Cn _;constructor|apply wY;rfl)
  obtain rfl:R=cM l up:=aBn hn (hR1.trans (h.perm up)) hR2
  have h:=h.sorted hmem hR1
  have hm':(cM l up).length=m:=by rw [hR1.length_eq,hlen]
  have hA0:∀k,A k=cM l k->(if k=up then cM l up else A k)=cM l k:=λk hk=>by
   by_cases e:k=up
   ·rw [zp e,e]
   ·rw [zn e,hk]
  obtain ⟨A1,h,hA1,hA2⟩:∃A1,HS st l id5 id8 id9 idm K (upd S id (some (.arr 149 ((cM l up).map Pt.cells)))) A1 out/\A1 up=cM l up/\∀k,A k=cM l k->A1 k=cM l k:=⟨_,h,by simp,hA0⟩
  clear hA0 hAf hR1 hR2 hlen a1 a3 hh5 hhm
  refine aC (X:={x:Nat×aD×(Nm->List Pt)//x.1<=m/\HS st l id5 id8 id9 idm K x.2.1 x.2.2 (out++((cM l up).take x.1).flatMap λp=>p::eD l (n-1) (aH p))/\x.2.2 up=cM l up/\∀k,A k=cM l k->x.2.2 k=cM l k}) (λi=>((((((St.nil 28 (i.1.2.1)).pv 2 (.ref id8 0)).pv 3 (.ref id9 0)).pv 13 (.vec id 11 0 m)).pv 14 ((vi ((m:Nat))))).pv 15 ((vi ((i.1.1:Nat)))))) (λi=>m-i.1.1) ⟨(0,_,A1),by simp,by simpa using h,hA1,hA2⟩ ?_ (λi=> ?_)
  ·(repeat' first|show Cn (.t _ _);exact Cn.t0|show Cn _;constructor|exact rfl)
  clear h hA1 hA2
  obtain ⟨⟨i,S1,A1⟩,hi,h,hA1,hA2⟩:=i
  simp only at hi h hA1 hA2
  dsimp only
  have b1:=(h.arr _ _ _ hmem).1
  rw [hA1] at b1
  generalize ho:(out++((cM l up).take i).flatMap λp=>p::eD l (n-1) (aH p))=o1 at h
  have hg:i<m->∃p,(cM l up)[i]?=some p:=λhi=>⟨_,zgg (by omega)⟩
  have hh8:=h.h8
  have hH:=h
  by_cases him:i<m
  ·obtain ⟨p,hp⟩:=hg him
   have hp1:=gX (List.mem_of_getElem? hp)
   obtain ⟨hn0,hdp⟩:=hk p hp1.2
   have hsplit:(cM l up).take (i+1)=(cM l up).take i++[p]:=by rw [List.take_add_one,hp];rfl
   have ho2:(o1++[p])++eD l (n-1) (aH p)=out++((cM l up).take (i+1)).flatMap λp=>p::eD l (n-1) (aH p):=by
    rw [hsplit,<-ho];simp
   have hlen:o1.length+1+(eD l (n-1) (aH p)).length<=1000000:=by
    have e1:=congrArg List.length ho2
    have e2:cM l up=(cM l up).take (i+1)++(cM l up).drop (i+1):=(List.take_append_drop _ _).symm
    rw [e2,List.flatMap_append,zla] at hB
    simp only [zla,List.length_singleton] at e1
    omega
   rcases hh8 with ⟨h8,e8⟩|⟨ido,h8,c1,c2,c3⟩
   ·subst e8
    (repeat' first|apply wZ;rfl|show Cn _;constructor|apply ldR pk;rfl;rfl;rotate_left;rfl;(assumption);rfl;rfl|apply ldL pk Pt.elem (a:=p);rfl;rfl;rotate_left;rfl;(assumption);(intro _;exact hp);rfl|(apply ap0 pk (f:=Pt.cells) [p] 96;(iterate 10 rfl);exact λ_=>rfl;exact λ_=>rfl;exact aaD;((focus (simp;done)));((focus (simp;done)));rfl;intro id' hid')|apply ixA pk;(iterate 5 rfl);rotate_left;rfl;(intro hw;(exact (show _=((i:Nat):Int) from by omega)));(intro hw;(omega));rfl;(exact Nat.zero_add _)|omega|(intro h;simp at h))
    have hid'':S1 id'=none:=hid'
    have n8:id8≠id':=λe=>by rw [<-e,h8] at hid'';cases hid''
    have q:=hH.push p hid'' (S1:=S1) λj=> .inl rfl
    have q9:=q.h9
    apply stR pk;rfl;rfl;exact (aB n8).trans h8;rfl;rfl
    (repeat' first|apply wD pk [3] [0];kernel_rfl;rfl;rfl|(apply Cn.cf;focus ((apply nM);done))|(apply cP;rfl;(apply (ih (n-1) (by omega) (aH p) _ _ _ hdp (by simp only [zla,List.length_singleton] at hlen⊢;omega) q));rintro _ st' (⟨A2,hA3,hA4⟩))|(refine ⟨⟨(i+1,st',A2),by simp only;omega,by simp only;rw [<-ho2];exact hA3,hA4 up hA1,λk e=>hA4 k (hA2 k e)⟩, ?_, ?_⟩)|show Cn (.t _ _);exact Cn.t0|apply wZ;rfl|show Cn _;constructor|exact rfl|apply ldR pk;rfl;rfl;rotate_left;rfl;(assumption);rfl;rfl|apply wY;rfl|omega|simp only [zql];omega)
   ·(repeat' first|apply wZ;rfl|show Cn _;constructor|apply ldR pk;rfl;rfl;rotate_left;rfl;(assumption);rfl;rfl|apply ldL pk Pt.elem (a:=p);rfl;rfl;rotate_left;rfl;(assumption);(intro _;exact hp);rfl|(apply apV pk (f:=Pt.cells) [p] 96;(iterate 9 rfl);(assumption);(omega);exact λ_=>rfl;exact λ_=>rfl;exact aaD;((focus (simp;omega)));((focus (simp;omega)));rfl;intro id' hid')|apply ixA pk;(iterate 5 rfl);rotate_left;rfl;(intro hw;(exact (show _=((i:Nat):Int) from by omega)));(intro hw;(omega));rfl;(exact Nat.zero_add _)|omega|(intro h;simp at h))
    have hid'':S1 id'=none:=hid'
    have n8:id8≠id':=λe=>by rw [<-e,h8] at hid'';cases hid''
    have m8:id8≠ido:=λe=>by rw [<-e,h8] at c1;cases c1
    have q:=hH.push p hid'' (S1:=upd S1 ido none) λj=>by
     by_cases e:j=ido
     ·subst e
      exact .inr ⟨c2,(λe=>by rw [e,hH.h5] at c1;cases c1),(λe=>by rw [e,hH.h9] at c1;cases c1),(λe=>by rw [e,hH.hm] at c1;cases c1),c3⟩
     ·exact .inl (aB e)
    have q9:=q.h9
    apply stR pk;rfl;rfl;exact (aB n8).trans ((aB m8).trans h8);rfl;rfl
    (repeat' first|apply wD pk [3] [0];kernel_rfl;rfl;rfl|(apply Cn.cf;focus ((apply nM);done))|(apply cP;rfl;(apply (ih (n-1) (by omega) (aH p) _ _ _ hdp (by simp only [zla,List.length_singleton] at hlen⊢;omega) q));rintro _ st' (⟨A2,hA3,hA4⟩))|(refine ⟨⟨(i+1,st',A2),by simp only;omega,by simp only;rw [<-ho2];exact hA3,hA4 up hA1,λk e=>hA4 k (hA2 k e)⟩, ?_, ?_⟩)|show Cn (.t _ _);exact Cn.t0|apply wZ;rfl|show Cn _;constructor|exact rfl|apply ldR pk;rfl;rfl;rotate_left;rfl;(assumption);rfl;rfl|apply wY;rfl|omega|simp only [zql];omega)
  ·have hfin:HS st l id5 id8 id9 idm K S1 A1 (out++(cM l up).flatMap λp=>p::eD l (n-1) (aH p)):=by
    rw [ztl (by omega)] at ho;rw [ho];exact h
   (repeat' first|show Cn (.r _ _ _);refine .rr ?_;((exact ⟨A1,hfin,hA2⟩));done|apply wZ;rfl|show Cn _;constructor|omega|(intro h;simp at h))
 ·have hk0:=h.non _ hv
  have hs0:cM l up=[]:=List.Perm.eq_nil ((iG l up).trans (by rw [hk0]))
  have hfin:HS st l id5 id8 id9 idm K S A (out++(cM l up).flatMap λp=>p::eD l (n-1) (aH p)):=by
   rw [hs0];simpa using h
  (repeat' first|(apply cP;rfl;((apply aBf));(rintro _ st' rfl))|apply wZ;rfl|show Cn _;constructor|apply wY;rfl)
  refine aC (X:=Unit) (λi=>((((((St.nil 28 (st')).pv 2 (.ref id8 0)).pv 3 (.ref id9 0)).pv 13 (.val (.slice none 0 0))).pv 14 ((vi (((([]:List (List PV)).length:Nat):Int))))).pv 15 ((vi (0))))) (λi=>0) () ?_ (λi=> ?_)
  ·(repeat' first|show Cn (.t _ _);exact Cn.t0|show Cn _;constructor|exact rfl)
  have hfin':HS st l id5 id8 id9 idm K st' A (out++(cM l up).flatMap λp=>p::eD l (n-1) (aH p)):=hfin
  (repeat' first|show Cn (.r _ _ _);refine .rr ?_;((exact ⟨A,hfin',λ_ h=>h⟩));done|apply wZ;rfl|show Cn _;constructor)
end
end
section
set_option maxRecDepth 10000
set_option maxHeartbeats 4000000
structure Inv (l:List Pt):Prop where
 formed:∀p∈l,bV p=true
 nodup:(l.map aH).Nodup
 times:∀p∈l,∀q∈l,p.dot=q.dot->p.time=q.time
theorem tI {α β:Type} {g:α->β}:∀{l:List α},(l.map g).Nodup->∀{a b},a∈l->b∈l->g a=g b->a=b
 |[],_,_,_,h,_,_=>by cases h
 |x::l,hn,a,b,ha,hb,e=>by
  simp only [zmp,List.nodup_cons] at hn
  rcases zmc.1 ha with ha|ha<;>rcases zmc.1 hb with hb|hb
  ·rw [ha,hb]
  ·exact (hn.1 (List.mem_map.2 ⟨b,hb,by rw [<-e,ha]⟩)).elim
  ·exact (hn.1 (List.mem_map.2 ⟨a,ha,by rw [e,hb]⟩)).elim
  ·exact tI hn.2 ha hb e
theorem Inv.named {l:List Pt} (h:Inv l):named l:=λ_ ha _ hb e=>tI h.nodup ha hb e
theorem aEN {α:Type} {C:List α->Prop} (h0:C []) (h1:∀l p,C l->C (l++[p])) (l:List α):C l:=by
 have:∀r,C (List.reverse r):=λr=>by
  induction r with
  |nil=>exact h0
  |cons p r ih=>rw [List.reverse_cons];exact h1 _ p ih
 have:=this l.reverse
 rwa [List.reverse_reverse] at this
theorem jX {K V:Type} [DecidableEq K] (f:Pt->K) (g:Pt->V) (l:List Pt) (p:Pt):(l++[p]).foldl (λm p=>cL (f p) (g p) m) []=cL (f p) (g p) (l.foldl (λm p=>cL (f p) (g p) m) []):=by
 rw [List.foldl_append];rfl
theorem ajJ {K V:Type} [DecidableEq K] (f:Pt->K) (g:Pt->V) (k:K) (l:List Pt):
  (∀v,bY k (l.foldl (λm p=>cL (f p) (g p) m) [])=some v->∃q∈l,f q=k/\g q=v)/\(bY k (l.foldl (λm p=>cL (f p) (g p) m) [])=none->∀q∈l,f q≠k):=by
 induction l using aEN with
 |h0=>exact ⟨λv h=>(by cases h),λ_ q h=>(by cases h)⟩
 |h1 l p ih=>
  rw [jX]
  refine ⟨λv h=> ?_,λh q hq=> ?_⟩
  ·rw [rB] at h
   split at h
   ·rename_i e;injection h with h;exact ⟨p,by simp,e.symm,h⟩
   ·obtain ⟨q,hq,h2⟩:=ih.1 v h;exact ⟨q,by simp [hq],h2⟩
  ·rw [rB] at h
   split at h
   ·cases h
   ·rename_i e
    rcases zma.1 hq with hq|hq
    ·exact ih.2 h q hq
    ·rw [zms.1 hq];exact λe'=>e e'.symm
theorem aeD (l:List Pt) (k:Nm):(∀v,bY k (dO l)=some v->v∈l/\aH v=k)/\(bY k (dO l)=none->∀q∈l,aH q≠k):=by
 obtain ⟨h1,h2⟩:=ajJ aH id k l
 exact ⟨λv hv=>by obtain ⟨q,a,b,c⟩:=h1 v hv;exact ⟨c▸a,c▸b⟩,h2⟩
theorem axJ (l:List Pt) (k:Dt):(∀v,bY k (eE l)=some v->∃q∈l,q.dot=k/\q.time=v)/\(bY k (eE l)=none->∀q∈l,q.dot≠k):=ajJ (·.dot) (·.time) k l
theorem arE {d:List Pt} (h:Inv d) (p:Pt):sK (dO d) (eE d) p=true↔(∀q∈d,aH q≠aH p)/\bV p=true/\∀q∈d,q.dot=p.dot->q.time=p.time:=by
 obtain ⟨a1,a2⟩:=aeD d (aH p)
 obtain ⟨b1,b2⟩:=axJ d p.dot
 unfold sK
 simp only [Bool.not_eq_true',Bool.or_eq_false_iff]
 constructor
 ·rintro ⟨⟨h1,h2⟩,h3⟩
  refine ⟨a2 (by simpa using h1),by simpa using h2,λq hq e=> ?_⟩
  cases ht:bY p.dot (eE d) with
  |none=>exact absurd e (b2 ht q hq)
  |some t=>
   rw [ht] at h3
   obtain ⟨r,hr,r1,r2⟩:=b1 t ht
   have:t=p.time:=by simpa using h3
   rw [<-this,<-r2]
   exact h.times q hq r hr (by rw [e,r1])
 ·rintro ⟨h1,h2,h3⟩
  refine ⟨⟨?_,by simpa using h2⟩, ?_⟩
  ·cases hm:bY (aH p) (dO d) with
   |none=>rfl
   |some v=>obtain ⟨c1,c2⟩:=a1 v hm;exact absurd c2 (h1 v c1)
  ·cases ht:bY p.dot (eE d) with
   |none=>rfl
   |some t=>obtain ⟨r,hr,r1,r2⟩:=b1 t ht;simp [<-r2,h3 r hr r1]
theorem Inv.snoc_iff {d:List Pt} (h:Inv d) (p:Pt):Inv (d++[p])↔(∀q∈d,aH q≠aH p)/\bV p=true/\∀q∈d,q.dot=p.dot->q.time=p.time:=by
 constructor
 ·intro k
  have hn:=k.nodup
  rw [List.map_append,List.nodup_append] at hn
  exact ⟨λq hq e=>hn.2.2 _ (List.mem_map.2 ⟨q,hq,rfl⟩) _ (by simp) e,k.formed p (by simp),λq hq e=>k.times q (by simp [hq]) p (by simp) e⟩
 ·rintro ⟨h1,h2,h3⟩
  refine ⟨λq hq=> ?_, ?_,λa ha b hb e=> ?_⟩
  ·rcases zma.1 hq with hq|hq
   ·exact h.formed q hq
   ·rw [zms.1 hq];exact h2
  ·rw [List.map_append,List.nodup_append]
   refine ⟨h.nodup,by simp,λa ha b hb e=> ?_⟩
   obtain ⟨q,hq,rfl⟩:=List.mem_map.1 ha
   simp only [zmp,List.map_nil,zms] at hb
   exact h1 q hq (e.trans hb)
  ·rcases zma.1 ha with ha|ha<;>rcases zma.1 hb with hb|hb
   ·exact h.times a ha b hb e
   ·rw [zms.1 hb] at e⊢;exact h3 a ha e
   ·rw [zms.1 ha] at e⊢;exact (h3 b hb e.symm).symm
   ·rw [zms.1 ha,zms.1 hb]
theorem Inv.pre {d r:List Pt} (h:Inv (d++r)):Inv d:=by
 refine ⟨λp hp=>h.formed p (by simp [hp]), ?_,λp hp q hq=>h.times p (by simp [hp]) q (by simp [hq])⟩
 have:=h.nodup
 rw [List.map_append,List.nodup_append] at this
 exact this.1
theorem sE :∀(r d:List Pt),Inv d->(jJ r (dO d) (eE d)=true↔Inv (d++r))
 |[],d,h=>by simp [jJ,h]
 |p::r,d,h=>by
  have e1:cL (aH p) p (dO d)=dO (d++[p]):=(jX aH id d p).symm
  have e2:cL p.dot p.time (eE d)=eE (d++[p]):=(jX (·.dot) (·.time) d p).symm
  rw [jJ,zba,arE h,<-h.snoc_iff,e1,e2]
  have e3:d++p::r=(d++[p])++r:=by simp
  constructor
  ·rintro ⟨h1,h2⟩
   rw [e3];exact (sE r _ h1).1 h2
  ·intro h1
   rw [e3] at h1
   exact ⟨h1.pre,(sE r _ h1.pre).2 h1⟩
structure Whole (l:List Pt):Prop extends Inv l where
 up:∀p∈l,aZ p=Nm.zero\/∃u∈l,aH u=aZ p/\eI u p=true
theorem fW (l:List Pt):fX l=true↔Whole l:=by
 have h0:Inv []:=⟨λ_ h=>(by cases h),List.nodup_nil,λ_ h=>(by cases h)⟩
 unfold fX
 rw [zba,show jJ l [] []=jJ l (dO []) (eE []) from rfl,sE l [] h0,List.nil_append,zal]
 have hup:∀p,Inv l->(azN (dO l) p=true↔(aZ p=Nm.zero\/∃u∈l,aH u=aZ p/\eI u p=true)):=λp hI=>by
  obtain ⟨a1,a2⟩:=aeD l (aZ p)
  unfold azN
  rw [Bool.or_eq_true,zde]
  refine or_congr Iff.rfl ?_
  cases hm:bY (aZ p) (dO l) with
  |none=>simp only [Bool.false_eq_true,false_iff];rintro ⟨u,hu,e,_⟩;exact a2 hm u hu e
  |some v=>
   obtain ⟨c1,c2⟩:=a1 v hm
   constructor
   ·intro h;exact ⟨v,c1,c2,h⟩
   ·rintro ⟨u,hu,e,h⟩
    rw [hI.named v c1 u hu (by rw [c2,e])];exact h
 constructor
 ·rintro ⟨h1,h2⟩;exact ⟨h1,λp hp=>(hup p h1).1 (h2 p hp)⟩
 ·intro h;exact ⟨h.toInv,λp hp=>(hup p h.toInv).2 (h.up p hp)⟩
instance (l :List Pt):Decidable (Whole l):=decidable_of_iff _ (fW l)
theorem mL (p q:Pt):eI p q=true↔p.time<q.time\/p.time=q.time/\(p.dot.dev<q.dot.dev\/p.dot.dev=q.dot.dev/\(p.dot.seq<q.dot.seq\/p.dot.seq=q.dot.seq/\p.at_<q.at_)):=by
 unfold eI
 rw [Bool.or_eq_true,adU,zba,zde,zde,Sp.ext_iff]
 simp only [bJ]
 omega
theorem yM {p:Pt} (h:bV p=true):aH p≠Nm.zero:=by
 intro e
 simp only [bV,mayN,withinB,zba,zde] at h
 have h1:=h.1.2.1.1.1
 rw [e] at h1
 have h2:(1:Int)<=0:=h1
 omega
theorem aCY {l:List Pt} (h:Whole l) {u p:Pt} (hu:u∈l) (hp:p∈fN l (aH u)):p∈l/\eI u p=true:=by
 obtain ⟨h1,h2⟩:=List.mem_filter.1 hp
 have h2:aZ p=aH u:=by simpa using h2
 refine ⟨h1, ?_⟩
 rcases h.up p h1 with e|⟨v,hv,e,ha⟩
 ·exact absurd (h2.symm.trans e) (yM (h.formed u hu))
 ·rw [h.named u hu v hv (by rw [e,h2])];exact ha
theorem vP {l:List Pt} {f g:Pt->Bool} {a:Pt} (ha:a∈l) (hg:g a=true) (hf:f a=false) (hfg:∀q∈l,f q=true->g q=true):(l.filter f).length<(l.filter g).length:=by
 induction l with
 |nil=>cases ha
 |cons x l ih=>
  have hle:(l.filter f).length<=(l.filter g).length:=by
   clear ih ha
   induction l with
   |nil=>simp
   |cons y l ih=>
    have:=ih λq hq=>hfg q (by rcases zmc.1 hq with h|h<;>simp [h])
    rw [List.filter_cons,List.filter_cons]
    by_cases h1:f y=true
    ·rw [zp h1,zp (hfg y (by simp) h1)];simp;omega
    ·rw [zn h1];split<;>simp<;>omega
  rw [List.filter_cons,List.filter_cons]
  rcases zmc.1 ha with e|ha
  ·subst e;rw [zp hg,zn (by simp [hf])];simp;omega
  ·have:=ih ha λq hq=>hfg q (by simp [hq])
   by_cases h1:f x=true
   ·rw [zp h1,zp (hfg x (by simp) h1)];simp;omega
   ·rw [zn h1];split<;>simp<;>omega
theorem avN {l:List Pt} (h:Whole l):∀(n:Nat) (u:Pt),u∈l->(l.filter (eI u)).length<=n->arN l n (aH u)
 |0,u,hu,hn=>by
  show fN l (aH u)=[]
  cases hk:fN l (aH u) with
  |nil=>rfl
  |cons p r=>
   obtain ⟨h1,h2⟩:=aCY h hu (p:=p) (by rw [hk];simp)
   have:p∈l.filter (eI u):=List.mem_filter.2 ⟨h1,h2⟩
   rw [List.length_eq_zero_iff.1 (Nat.le_zero.1 hn)] at this
   cases this
 |n+1,u,hu,hn=>λp hp=>by
  obtain ⟨h1,h2⟩:=aCY h hu hp
  refine avN h n p h1 ?_
  have:(l.filter (eI p)).length<(l.filter (eI u)).length:=vP (a:=p) h1 h2 (by rw [<-Bool.not_eq_true,mL];omega) λq _ hq=>by
   rw [mL] at h2 hq⊢;omega
  omega
theorem akR {l:List Pt} (h:Whole l):arN l l.length Nm.zero:=by
 cases hl:l.length with
 |zero=>rw [List.length_eq_zero_iff.1 hl];rfl
 |succ n=>
   intro p hp
   have hp:=(List.mem_filter.1 hp).1
   refine avN h n p hp ?_
   have:(l.filter (eI p)).length<(l.filter λ_=>true).length:=vP hp rfl (by rw [<-Bool.not_eq_true,mL];omega) λ_ _ _=>rfl
   have e:(l.filter λ_=>true)=l:=List.filter_eq_self.2 λ_ _=>rfl
   rw [e] at this
   omega
end
section
attribute [local irreducible] Ev PWp
set_option maxRecDepth 10000
set_option maxHeartbeats 4000000
theorem FamB.toHS {st S:aD} {l:List Pt} {idm id5 id8 id9:Nat} {K:List (Nm×(Nat×Nat))} (h:FamB st l idm K S) {c5 c8 c9 c9':AObj} (h5:S id5=none) (h8:upd S id5 (some c5) id8=none) (h9:upd (upd S id5 (some c5)) id8 (some c8) id9=none)
  (e5:c5= .cells 313 [.mref idm]) (e8:c8= .cells 108 [.val (.slice none 0 0)]) (e9:c9'= .cells 314 [.fn 262 [.ref id5 0, .ref id8 0, .ref id9 0]]):
  HS st l id5 id8 id9 idm K (upd (upd (upd (upd S id5 (some c5)) id8 (some c8)) id9 (some c9)) id9 (some c9')) (fN l) []:=by
 subst e5 e8 e9
 have n85:id8≠id5:=λe=>by rw [e,aA] at h8;cases h8
 rw [aB n85] at h8
 have n98:id9≠id8:=λe=>by rw [e,aA] at h9;cases h9
 rw [aB n98] at h9
 have n95:id9≠id5:=λe=>by rw [e,aA] at h9;cases h9
 rw [aB n95] at h9
 have g:∀j,S j≠none->j≠id5/\j≠id8/\j≠id9:=λj hj=>⟨λe=>hj (e▸h5),λe=>hj (e▸h8),λe=>hj (e▸h9)⟩
 have gg:∀j,S j≠none->(upd (upd (upd (upd S id5 (some (.cells 313 [.mref idm]))) id8 (some (.cells 108 [.val (.slice none 0 0)]))) id9 (some c9)) id9 (some (.cells 314 [.fn 262 [.ref id5 0, .ref id8 0, .ref id9 0]]))) j=S j:=λj hj=>by
  obtain ⟨a,b,c⟩:=g j hj
  rw [aB c,aB c,aB b,aB a]
 refine ⟨λj hj=> ?_,(h.fresh h5).1,(h.fresh h8).1,(h.fresh h9).1,h.mf, ?_,aA _ _ _,(gg idm (by rw [h.hm];simp)).trans h.hm,λk id n hk=> ?_,h.ids,h.keys,h.non,λk=> .refl _, .inl ⟨?_,rfl⟩⟩
 ·have:=h.old j hj
  rw [gg j (by rw [this];exact hj)];exact this
 ·rw [aB (Ne.symm n95),aB (Ne.symm n95),aB (Ne.symm n85),aA]
 ·obtain ⟨a1,a2,a3⟩:=h.arr k id n hk
  exact ⟨(gg id (by rw [a1];simp)).trans a1,a2,a3⟩
 ·rw [aB (Ne.symm n98),aB (Ne.symm n98),aA]
def dE (l:List Pt):List Pt:=if fX l=true/\l.length<=2000 then eD l l.length Nm.zero else []
theorem aBq (l:List Pt) (st:aD) (hl:l.length<4611686018427387904) (hlen:fX l=true->(eD l l.length Nm.zero).length=l.length):PC Tryz.prog 201 [.seq (l.map Pt.cells)] st (LR 149 11 st ((dE l).map Pt.cells)):=by
 refine pC Tryz.func201 rfl ?_
 (repeat' first|(apply Cn.cf;focus ((apply (zJ l hl));done))|show Cn (.r _ _ _);refine .rr ?_;((have e:dE l=[]:=(by unfold dE;rw [zn];rintro ⟨q1,q2⟩;rcases ‹_\/_›with q|q;(rw [q1] at q;cases q);omega);exact .inr ⟨rfl,by rw [e];rfl,zsr _⟩));done|apply wZ;rfl|show Cn _;constructor|apply wY;rfl|(intro h;simp at h))
 have hW:fX l=true/\l.length<=2000:=⟨h.1,by omega⟩
 have hWh:=(fW l).1 hW.1
 have hlen:=hlen hW.1
 have hord:dE l=eD l l.length Nm.zero:=by unfold dE;rw [zp hW]
 refine mkM (enc:=Nm.enc) (f:=aaN) rfl (λidm hidm=> ?_)
 have hidm:st idm=none:=hidm
 (repeat' first|apply wZ;rfl|show Cn _;constructor)
 refine aC (X:={x:Nat×aD×List (Nm×(Nat×Nat))//x.1<=l.length/\FamB st (l.take x.1) idm x.2.2 x.2.1}) (λi=>(((((St.nil 45 (i.1.2.1)).var 5 313 ([.mref idm])).pv 23 (.seq (l.map Pt.cells))).pv 24 ((vi ((((l.map Pt.cells)).length:Nat))))).pv 25 ((vi ((i.1.1:Nat)))))) (λi=>l.length-i.1.1) ⟨(0,upd st idm (some (.map (aM Nm.enc aaN []))),[]),by simp,FamB.nil hidm⟩ ?_ (λi=> ?_)
 ·(repeat' first|show Cn (.t _ _);exact Cn.t0|show Cn _;constructor|exact rfl)
 obtain ⟨⟨i,S,K⟩,hi,hF⟩:=i
 simp only at hi hF
 dsimp only
 have hm:=hF.hm
 have hkl:=λh:i<l.length=>amF (l.take i) (aZ (l[i]'h))
 have hkt:(l.take i).length<=l.length:=by rw [zlt];omega
 (repeat' first|apply wDm pk;rfl;kernel_rfl;rfl;rfl|(apply Cn.cf;focus ((apply pV);done))|apply wZ;rfl|show Cn _;constructor|exact rfl|(apply aCD pk Nm.key (f:=aaN);(iterate 5 rfl);rotate_left;rfl;(assumption);rfl;intro v hv;rotate_left;intro hv;rotate_left)|apply wY;rfl|apply wI;rfl|apply gE;omega|(intro h;simp at h))
 ·skip
  obtain ⟨a1,a2,a3⟩:=hF.arr _ _ _ (qB hv)
  have hkl:=hkl h
  (repeat' ((apply apV pk (f:=Pt.cells) [l[i]'‹_›] 96;(iterate 9 rfl);(assumption);(omega);exact λ_=>rfl;exact λ_=>rfl;exact aaD;((focus (simp;omega)));((focus (simp;omega)));rfl;intro id' hid')))
  have hid':S id'=none:=hid'
  obtain ⟨f1,f2,f3⟩:=hF.fresh hid'
  have f2':=Ne.symm f2
  have f4:=Ne.symm (hF.notm (qB hv))
  apply muA pk Nm.key (f:=aaN) (k:=aZ (l[i]'h)) (v:=(id',v.2+1));exact .inr rfl;rfl;rfl;rfl;rfl;rfl;exact (aB f2').trans ((aB f4).trans hm);rfl
  (repeat' first|(refine ⟨⟨(i+1,_,_),by simp only;omega,hF.step (S1:=upd S v.1 none) (m:=v.2+1) h hid' (by omega) (λj hj=>aB λe=>hj v.2 (by subst e;exact qB hv))⟩, ?_, ?_⟩)|show Cn (.t _ _);exact Cn.t0|apply wZ;rfl|show Cn _;constructor|exact rfl|omega|simp only [zql];omega)
 ·skip
  have hk0:=hF.non _ hv
  (repeat' ((apply ap0 pk (f:=Pt.cells) [l[i]'‹_›] 96;(iterate 10 rfl);exact λ_=>rfl;exact λ_=>rfl;exact aaD;((focus (simp;done)));((focus (simp;done)));rfl;intro id' hid')))
  have hid':S id'=none:=hid'
  obtain ⟨f1,f2,f3⟩:=hF.fresh hid'
  have f2':=Ne.symm f2
  apply muA pk Nm.key (f:=aaN) (k:=aZ (l[i]'h)) (v:=(id',1));exact .inr rfl;rfl;rfl;rfl;rfl;rfl;exact (aB f2').trans hm;rfl
  (repeat' first|(refine ⟨⟨(i+1,upd (upd S id' (some (.arr 149 ([l[i]'h].map Pt.cells)))) idm (some (.map (aM Nm.enc aaN (cL (aZ (l[i]'h)) (id',1) K)))),cL (aZ (l[i]'h)) (id',1) K),by simp only;omega,by have q:=hF.step (S1:=S) (m:=1) h hid' (by rw [hk0];rfl) (λj hj=>rfl);rw [hk0] at q;exact q⟩, ?_, ?_⟩)|show Cn (.t _ _);exact Cn.t0|apply wZ;rfl|show Cn _;constructor|exact rfl|omega|simp only [zql];omega)
 have e1:l.take i=l:=ztl (by omega)
 rw [e1] at hF
 clear hkl hkt
 (repeat' first|apply wZ;rfl|show Cn _;constructor|apply ldR pk;rfl;rfl;rotate_left;rfl;(exact aA _ _ _);rfl;rfl|apply stR pk;rfl;rfl;(exact aA _ _ _);rfl;rfl|(apply fF 5;rfl;rfl;intro id5 hid5)|(apply fF 8;rfl;rfl;intro id8 hid8)|(apply fF 9;rfl;rfl;intro id9 hid9))
 have q:=hF.toHS (c8:= .cells 108 [.val (.slice none 0 0)]) (c5:= .cells 313 [.mref idm]) (c9:= .cells 314 [.val .nilFunc]) hid5 hid8 hid9 rfl rfl rfl
 (repeat' first|(apply cP;rfl;(apply (axL hWh.named hWh.formed hl l.length Nm.zero _ _ _ (akR hWh) (by rw [hlen];simp;omega) q));rintro _ st' (⟨A2,hA3,hA4⟩))|apply wZ;rfl|show Cn _;constructor|apply wY;rfl)
 rw [List.nil_append] at hA3
 have hold:=hA3.old
 have hsub:∀ido,st ido=none->StSub st (upd st' ido none):=λido hn j=>by
  by_cases hj:st j=none
  ·exact .inl hj
  ·right;rw [aB (λe=>by subst e;exact hj hn)];exact (hold j hj).symm
 have hsub0:StSub st st':=λj=>by
  by_cases hj:st j=none
  ·exact .inl hj
  ·right;exact (hold j hj).symm
 rcases hA3.h8 with ⟨h8,e8⟩|⟨ido,h8,c1,c2,c3⟩
 ·(repeat' first|show Cn (.r _ _ _);refine .rr ?_;((exact .inr ⟨rfl,by rw [hord,e8];rfl,hsub0⟩));done|apply wZ;rfl|show Cn _;constructor|apply ldR pk;rfl;rfl;rotate_left;rfl;(assumption);rfl;rfl)
 ·(repeat' first|show Cn (.r _ _ _);refine .rr ?_;((exact .inl ⟨ido,by rw [hord,zql],c2,by rw [hord];exact c1,hsub ido c2⟩));done|apply wZ;rfl|show Cn _;constructor|apply ldR pk;rfl;rfl;rotate_left;rfl;(assumption);rfl;rfl)
theorem apI :Tryz.prog.cellsOf 149=11:=(aL aQ (t:=149) (n:=11) rfl).2
theorem aiV (l:List Pt) (hl:l.length<4611686018427387904) (hlen:fX l=true->(eD l l.length Nm.zero).length=l.length):PF Tryz.prog 201 [.seq (l.map Pt.cells)] (.seq ((dE l).map Pt.cells)):=
 aF7 apI λst=>aBq l st hl hlen
end
section
set_option maxRecDepth 10000
set_option maxHeartbeats 4000000
inductive Anc (l:List Pt):Pt->List Pt->Prop
 |root {p:Pt} (hp:p∈l) (h0:aZ p=Nm.zero):Anc l p [p]
 |step {p u:Pt} {s:List Pt} (hp:p∈l) (hu:u∈l) (e:aH u=aZ p) (h0:aZ p≠Nm.zero) (h:Anc l u s):Anc l p (s++[p])
theorem Anc.all {l:List Pt} {p:Pt} {s:List Pt} (h:Anc l p s):∀q∈s,q∈l:=by
 induction h with
 |root hp _=>intro q hq;rw [zms.1 hq];exact hp
 |step hp _ _ _ _ ih=>
  intro q hq
  rcases zma.1 hq with hq|hq
  ·exact ih q hq
  ·rw [zms.1 hq];exact hp
theorem Anc.fn {l:List Pt} (hn:named l) {p:Pt} {s:List Pt} (h:Anc l p s):∀{t:List Pt},Anc l p t->s=t:=by
 induction h with
 |root hp h0=>intro t ht;cases ht with
  |root=>rfl
  |step _ _ _ h0' _=>exact absurd h0 h0'
 |step hp hu e h0 _ ih=>intro t ht;cases ht with
  |root _ h0'=>exact absurd h0' h0
  |step _ hu' e' _ h'=>
   have:=hn _ hu _ hu' (by rw [e,e'])
   subst this
   rw [ih h']
theorem Anc.ex {l:List Pt} (hW:Whole l):∀(n:Nat) (p:Pt),p∈l->(l.filter λq=>eI q p).length<=n->∃s,Anc l p s
 |n,p,hp,hn=>by
  by_cases h0:aZ p=Nm.zero
  ·exact ⟨_, .root hp h0⟩
  ·obtain ⟨u,hu,e,ha⟩:=(hW.up p hp).resolve_left h0
   have hlt:(l.filter λq=>eI q u).length<(l.filter λq=>eI q p).length:=vP (a:=u) hu ha (by rw [<-Bool.not_eq_true,mL];omega) λq _ hq=>by
    rw [mL] at ha hq⊢;omega
   cases n with
   |zero=>omega
   |succ n=>
    obtain ⟨s,hs⟩:=Anc.ex hW n u hu (by omega)
    exact ⟨_, .step hp hu e h0 hs⟩
def qR :List Pt->List Pt->Prop
 |_,[]=>False
 |[],_::_=>True
 |a::s,b::t=>a=b/\qR s t\/fQ a b
theorem ayY (a:Pt):¬fQ a a:=by rw [eT];omega
theorem aBy {a b c:Pt} (h1:fQ a b) (h2:fQ b c):fQ a c:=by rw [eT] at h1 h2⊢;omega
theorem vU :∀(s:List Pt),¬qR s s
 |[],h=>h
 |a::s,h=>by rcases h with ⟨_,h⟩|h;exact vU s h;exact ayY a h
theorem ajF :∀{s t u:List Pt},qR s t->qR t u->qR s u
 |_,_,[],_,h=>(by cases ‹List Pt› <;>exact h.elim)
 |s,[],_::_,h,_=>(by cases s<;>simp [qR] at h)
 |[],_::_,_::_,_,_=>trivial
 |a::s,b::t,c::u,h1,h2=>by
  rcases h1 with ⟨rfl,h1⟩|h1<;>rcases h2 with ⟨rfl,h2⟩|h2
  ·exact .inl ⟨rfl,ajF h1 h2⟩
  ·exact .inr h2
  ·exact .inr h1
  ·exact .inr (aBy h1 h2)
theorem vQ :∀(P:List Pt) {s t:List Pt},qR s t->qR (P++s) (P++t)
 |[],_,_,h=>h
 |a::P,_,_,h=> .inl ⟨rfl,vQ P h⟩
def ltP (l:List Pt) (p q:Pt):Prop:=∃s t,Anc l p s/\Anc l q t/\qR s t
theorem aEE {l:List Pt} (hn:named l) (p:Pt):¬ltP l p p:=λ⟨s,t,h1,h2,h⟩=>by rw [h1.fn hn h2] at h;exact vU _ h
theorem aCZ {l:List Pt} (hn:named l) {p q:Pt} (h:ltP l p q) (h':ltP l q p):False:=by
 obtain ⟨s,t,h1,h2,h3⟩:=h
 obtain ⟨t',s',h4,h5,h6⟩:=h'
 rw [<-h1.fn hn h5,<-h2.fn hn h4] at h6
 exact vU _ (ajF h3 h6)
theorem uC {l:List Pt} (h:(l.map aH).Nodup):l.Nodup:=by
 induction l with
 |nil=>exact List.nodup_nil
 |cons a l ih=>
  simp only [zmp,List.nodup_cons] at h
  exact List.nodup_cons.2 ⟨λhm=>h.1 (List.mem_map.2 ⟨a,hm,rfl⟩),ih h.2⟩
theorem qH {l:List Pt} (hW:Whole l):∀(n:Nat) (k:Nm) (P:List Pt),(∀p∈fN l k,Anc l p (P++[p]))->
  (∀x∈eD l n k,∃q s,q∈cM l k/\Anc l x (P++q::s))/\(eD l n k).Pairwise (ltP l)
 |0,_,_,_=>⟨λx h=>(by cases h),List.Pairwise.nil⟩
 |n+1,k,P,hP=>by
  have hq:∀q∈cM l k,Anc l q (P++[q]):=λq hq=>hP q (gX hq).2
  have hc:∀q∈cM l k,∀p∈fN l (aH q),Anc l p ((P++[q])++[p]):=λq hq' p hp=>by
   obtain ⟨h1,h2⟩:=List.mem_filter.1 hp
   have h2:aZ p=aH q:=by simpa using h2
   have hql:=(gX hq').1
   exact .step h1 hql h2.symm (by rw [h2];exact yM (hW.formed q hql)) (hq q hq')
  have key:∀q∈cM l k,∀x∈q::eD l n (aH q),∃s,Anc l x (P++q::s):=λq hq' x hx=>by
   rcases zmc.1 hx with rfl|hx
   ·exact ⟨[],hq x hq'⟩
   ·obtain ⟨r,s,_,h⟩:=(qH hW n (aH q) (P++[q]) (hc q hq')).1 x hx
    exact ⟨r::s,by simpa using h⟩
  constructor
  ·intro x hx
   obtain ⟨q,hq',hx⟩:=List.mem_flatMap.1 hx
   obtain ⟨s,h⟩:=key q hq' x hx
   exact ⟨q,s,hq',h⟩
  ·rw [eD,List.pairwise_flatMap]
   refine ⟨λq hq'=> ?_, ?_⟩
   ·have ih:=qH hW n (aH q) (P++[q]) (hc q hq')
    rw [List.pairwise_cons]
    refine ⟨λx hx=> ?_,ih.2⟩
    obtain ⟨r,s,_,h⟩:=ih.1 x hx
    refine ⟨_,_,hq q hq',h, ?_⟩
    have:=vQ (P++[q]) (s:=[]) (t:=r::s) trivial
    simpa using this
   ·have hs:=tU l k
    have hnd:(cM l k).Nodup:=by
     have:=hW.nodup
     have h1:(fN l k).Nodup:=(List.Pairwise.filter _ (uC this))
     exact (iG l k).nodup_iff.2 h1
    refine (hs.and hnd).imp_of_mem fun {a b} ha hb hab x hx y hy=> ?_
    obtain ⟨s,h1⟩:=key a ha x hx
    obtain ⟨t,h2⟩:=key b hb y hy
    refine ⟨_,_,h1,h2,vQ P (.inr ?_)⟩
    by_cases hk:fQ a b
    ·exact hk
    ·exact absurd (auY hW.named (gX ha).1 (gX hb).1 hk hab.1) hab.2
theorem awM {l:List Pt} {n:Nat} {k:Nm} {p:Pt} (hd:arN l n k) (hp:p∈fN l k):p∈eD l n k:=by
 cases n with
 |zero=>rw [show fN l k=[] from hd] at hp;cases hp
 |succ n=>exact List.mem_flatMap.2 ⟨p,(iG l k).symm.subset hp,by simp⟩
theorem amN {l:List Pt} {p u:Pt} (hp:p∈fN l (aH u)):∀{n:Nat} {k:Nm},arN l n k->u∈eD l n k->p∈eD l n k
 |0,_,_,hu=>(by cases hu)
 |n+1,k,hd,hu=>by
  obtain ⟨q,hq,hu⟩:=List.mem_flatMap.1 hu
  have hdq:=hd q (gX hq).2
  refine List.mem_flatMap.2 ⟨q,hq, ?_⟩
  rcases zmc.1 hu with rfl|hu
  ·exact List.mem_cons_of_mem _ (awM hdq hp)
  ·exact List.mem_cons_of_mem _ (amN hp hdq hu)
theorem ajP {l:List Pt}:∀{n:Nat} {k:Nm} {p:Pt},p∈eD l n k->p∈l
 |0,_,_,h=>(by cases h)
 |n+1,k,p,h=>by
  obtain ⟨q,hq,h⟩:=List.mem_flatMap.1 h
  rcases zmc.1 h with rfl|h
  ·exact (gX hq).1
  ·exact ajP h
theorem aHQ {l:List Pt} (hW:Whole l) {p:Pt} {s:List Pt} (h:Anc l p s):p∈eD l l.length Nm.zero:=by
 have hd:=akR hW
 induction h with
 |root hp h0=>exact awM hd (List.mem_filter.2 ⟨hp,by simpa using h0⟩)
 |step hp hu e h0 _ ih=>exact amN (List.mem_filter.2 ⟨hp,by simpa using e.symm⟩) hd ih
theorem adK {l m:List Pt} (h1:l.Nodup) (h2:m.Nodup) (h:∀a,a∈l↔a∈m):l.Perm m:=by
 rw [List.perm_iff_count]
 intro a
 rw [h1.count,h2.count]
 simp [h a]
theorem akH {l:List Pt} (hW:Whole l):(eD l l.length Nm.zero).Perm l/\(eD l l.length Nm.zero).Pairwise (ltP l):=by
 have hs:=(qH hW l.length Nm.zero [] λp hp=>by
  obtain ⟨h1,h2⟩:=List.mem_filter.1 hp
  exact .root h1 (by simpa using h2)).2
 refine ⟨adK ?_ (uC hW.nodup) λa=>⟨ajP,λha=> ?_⟩,hs⟩
 ·exact hs.imp fun {a b} h e=>by subst e;exact aEE hW.named _ h
 ·obtain ⟨s,hs⟩:=Anc.ex hW _ a ha (Nat.le_refl _)
  exact aHQ hW hs
theorem acC (l:List Pt) (hl:l.length<4611686018427387904):PF Tryz.prog 201 [.seq (l.map Pt.cells)] (.seq ((dE l).map Pt.cells)):=
 aiV l hl λh=>(akH ((fW l).1 h)).1.length_eq
theorem gN {l:List Pt} (hW:Whole l) (hl:l.length<=2000):(dE l).Perm l/\(dE l).Pairwise (ltP l):=by
 unfold dE
 rw [zp ⟨(fW l).2 hW,hl⟩]
 exact akH hW
theorem kL {l:List Pt} (h:¬(Whole l/\l.length<=2000)):dE l=[]:=by
 unfold dE
 rw [zn λ⟨a,b⟩=>h ⟨(fW l).1 a,b⟩]
theorem yC {l m:List Pt} (hW:Whole l) (hl:l.length<=2000) (hp:m.Perm l) (hs:m.Pairwise (ltP l)):dE l=m:=by
 obtain ⟨h1,h2⟩:=gN hW hl
 exact aFs (h1.trans hp.symm) h2 hs λa _ b _ h h'=>(aCZ hW.named h h').elim
theorem Inv.perm {l m:List Pt} (hp:l.Perm m) (h:Inv l):Inv m:=
 ⟨λp hm=>h.formed p (hp.symm.subset hm),(hp.map aH).nodup_iff.1 h.nodup,λa ha b hb=>h.times a (hp.symm.subset ha) b (hp.symm.subset hb)⟩
theorem Whole.perm {l m:List Pt} (hp:l.Perm m) (h:Whole l):Whole m where
 toInv:=h.toInv.perm hp
 up p hm:=by
  rcases h.up p (hp.symm.subset hm) with e|⟨u,hu,e⟩
  ·exact .inl e
  ·exact .inr ⟨u,hp.subset hu,e⟩
theorem Anc.perm {l m:List Pt} (hp:∀a,a∈l->a∈m) {p:Pt} {s:List Pt} (h:Anc l p s):Anc m p s:=by
 induction h with
 |root h h0=>exact .root (hp _ h) h0
 |step h hu e h0 _ ih=>exact .step (hp _ h) (hp _ hu) e h0 ih
theorem ltP.perm {l m:List Pt} (hp:∀a,a∈l->a∈m) {p q:Pt} (h:ltP l p q):ltP m p q:=by
 obtain ⟨s,t,h1,h2,h3⟩:=h
 exact ⟨s,t,h1.perm hp,h2.perm hp,h3⟩
theorem xT {l m:List Pt} (hp:l.Perm m):dE l=dE m:=by
 by_cases h:Whole l/\l.length<=2000
 ·have hm:Whole m:=h.1.perm hp
  have hml:m.length<=2000:=by rw [<-hp.length_eq];exact h.2
  obtain ⟨h1,h2⟩:=gN hm hml
  exact yC h.1 h.2 (h1.trans hp.symm) (h2.imp λk=>k.perm λa ha=>hp.symm.subset ha)
 ·rw [kL h,kL λk=>h ⟨k.1.perm hp.symm,by rw [hp.length_eq];exact k.2⟩]
end
end Go.Proofs.YtfablfldonhkiaaGreatDoor.T
