import Derived.Test.YtfablfldonhkiaaGreatDoorClAe
import Derived.Test.YtfablfldonhkiaaGreatDoorAbsE
import Derived.Sort.LotD5
set_option linter.unusedSimpArgs false
set_option linter.unusedVariables false
namespace Go.Proofs.YtfablfldonhkiaaGreatDoor.T
open Go Go.Abs
section
attribute [local irreducible] Ev PWp
set_option maxRecDepth 10000
set_option maxHeartbeats 4000000
theorem aFP :PF Tryz.prog 106 [(vu ((0:Nat)))] (vi ((0:Nat))):=by
 refine pF Tryz.func106 rfl (λst=> ?_)
 (repeat' first|show Cn (.e _ _ _ _);refine .any ?_;((refine ⟨_,_,_,rfl,zwr _,zsr _, ?_,rfl⟩;(rfl)))|apply wZ;rfl|show Cn _;constructor|apply cvA pk.htt;(iterate 5 rfl);(refine ⟨?_, ?_⟩<;>(first|omega|decide));rfl|apply sxA pk.htt 0 0;(iterate 6 rfl);kernel_rfl;rfl|exact ⟨by decide,by decide⟩)
theorem aJJ {y:Int} (hy:y=0):PF Tryz.prog 65 [(vu (y))] (vi ((0:Nat))):=by
 subst hy;refine pF Tryz.func65 rfl (λst=> ?_)
 (repeat' first|apply wZ;rfl|show Cn _;constructor|exact rfl|(apply aFP)|apply wY;rfl)
section
variable {fid:FuncId} {caps:List PV} {st:aD}
theorem aF4 :PC Tryz.prog 327 [.seq [],(vi (0)),(vi (0)), .fn fid caps] st λ_ st'=>st'=st:=by
 refine pC Tryz.func327 rfl ?_
 (repeat' first|apply wZ;rfl|show Cn _;constructor|omega)
 refine aC (X:=Unit) (λi=>((((((St.nil 53 st).pv 0 (.seq [])).pv 1 ((vi (0)))).pv 2 ((vi (0)))).pv 3 (.fn fid caps)).pv 8 ((vi (1))))) (λi=>0) () ?_ (λi=> ?_)
 ·(repeat' first|show Cn _;constructor|exact rfl)
 (repeat' first|show Cn (.r _ _ _);refine .rr ?_;((rfl));done|apply wZ;rfl|show Cn _;constructor)
theorem aFB {lim:Int}:PC Tryz.prog 307 [.seq [],(vi (0)),(vi (0)),(vi (lim)), .fn fid caps] st λ_ st'=>st'=st:=by
 refine pC Tryz.func307 rfl ?_
 (repeat' first|apply wZ;rfl|show Cn _;constructor)
 refine aC (X:=Unit) (λi=>((((((((St.nil 148 st).pv 0 (.seq [])).pv 1 ((vi (0)))).pv 2 ((vi (0)))).pv 3 ((vi (lim)))).pv 4 (.fn fid caps)).pv 10 ((vb (true)))).pv 11 ((vb (true))))) (λi=>0) () ?_ (λi=> ?_)
 ·(repeat' first|show Cn _;constructor|exact rfl)
 (repeat' first|(apply cP;rfl;((apply aF4));(rintro _ st' rfl))|show Cn (.r _ _ _);refine .rr ?_;((rfl));done|apply wZ;rfl|show Cn _;constructor|apply wY;rfl|omega)
theorem aCm :PC Tryz.prog 263 [.seq [], .fn fid caps] st λ_ st'=>st'=st:=by
 refine pC Tryz.func263 rfl ?_
 (repeat' first|(apply Cn.cf;focus ((apply (aJJ rfl));done))|(apply cP;rfl;((apply aFB));(rintro _ st' rfl))|show Cn (.r _ _ _);refine .rr ?_;((rfl));done|apply wZ;rfl|show Cn _;constructor|apply cvA pk.htt;(iterate 5 rfl);(refine ⟨?_, ?_⟩<;>(first|omega|decide));rfl|apply wY;rfl)
end
theorem atS {S:aD} {l:List Pt} {id n:Nat} (hf:∀p∈l,bL p=true) (i:S id=some (.arr 149 (l.map Pt.cells))) (hn:l.length=n) (f:n<4611686018427387904):
  PC Tryz.prog 263 [.vec id 11 0 n, .fn 264 []] S λ_ c=>∃R:List Pt,c=upd S id (some (.arr 149 (R.map Pt.cells)))/\R.Perm l/\R.Pairwise λx y=>¬eV y x:=by
 have e:(l.attach.map λx=>(⟨x.1,hf x.1 x.2⟩:Fp)).map (λx=>([.int .i64 x.1.val.kind, .int .i64 x.1.val.n, .string x.1.val.s, .int .i64 x.1.dot.dev, .int .i64 x.1.dot.seq, .int .i64 x.1.at_, .int .i64 x.1.time, .int .i64 x.1.after.dev, .int .i64 x.1.after.seq, .int .i64 x.1.afterAt, .bool x.1.gone]:List Value).map PV.val)=l.map Pt.cells:=by
  rw [List.map_map];show l.attach.map (λx=>Pt.cells x.1)=_;rw [List.attach_map_val]
 have:=apH (P:=Tryz.prog) aLd (by kernel_rfl) (k:=11) Tryz.isAgg149 Tryz.sizeOf149 (enc:=λx:Fp=>[.int .i64 x.1.val.kind, .int .i64 x.1.val.n, .string x.1.val.s, .int .i64 x.1.dot.dev, .int .i64 x.1.dot.seq, .int .i64 x.1.at_, .int .i64 x.1.time, .int .i64 x.1.after.dev, .int .i64 x.1.after.seq, .int .i64 x.1.afterAt, .bool x.1.gone]) (λ_=>rfl) (λx v hv=>by simp only [zmc,List.not_mem_nil,or_false] at hv;rcases hv with rfl|rfl|rfl|rfl|rfl|rfl|rfl|rfl|rfl|rfl|rfl<;>rfl) (cmp:=aCi) aBw
  (gf:=264) (by kernel_rfl) (λx y=>iU x.1 y.1 x.2 y.2) (st:=S) (id:=id) (n:=n) (d:=l.attach.map λx=>⟨x.1,hf x.1 x.2⟩) (e:=149) (by kernel_rfl) (by rw [e];exact i) (by simpa using hn) f
 refine ⟨this.1,λw g vs j m=>(this.2 w g vs j m).mono ?_⟩
 rintro e w' ⟨v,q,c,g',h3,⟨r,hS,hp,hw⟩,h4⟩
 refine ⟨v,q,c,g',h3,⟨r.map (·.1), ?_, ?_, ?_⟩,h4⟩
 ·rw [hS,List.map_map];rfl
 ·have:=hp.map (·.1)
  rwa [List.map_map,show ((λx:Fp=>x.1)∘λx:{x//x∈l}=>(⟨x.1,hf x.1 x.2⟩:Fp))=Subtype.val from rfl,List.attach_map_subtype_val] at this
 ·rw [List.pairwise_map]
  exact hw.imp fun {a b} h=>by rwa [aCi,ahF] at h
end
section
attribute [local irreducible] Ev PWp
set_option maxRecDepth 10000
set_option maxHeartbeats 4000000
instance (a b:Pt):Decidable (eV a b):=by unfold eV;infer_instance
def arO (p:Pt):List Pt->List Pt
 |[]=>[p]
 |q::r=>if eV q p then q::arO p r else p::q::r
def cN (l:List Pt) (k:Nm):List Pt:=(gA l k).foldr arO []
def eQ (l:List Pt):Nat->Nm->List Pt
 |0,_=>[]
 |n+1,k=>(cN l k).flatMap λp=>p::eQ l n (aG p)
def atX (l:List Pt):Nat->Nm->Prop
 |0,k=>gA l k=[]
 |n+1,k=>∀p∈gA l k,atX l n (aG p)
theorem aI5 {α:Type} {r:α->α->Prop}:∀{l m:List α},l.Perm m->l.Pairwise r->m.Pairwise r->(∀a∈l,∀b∈l,r a b->r b a->a=b)->l=m
 |[],m,h,_,_,_=>(List.Perm.nil_eq h)
 |a::l,[],h,_,_,_=>(by cases List.Perm.eq_nil h)
 |a::l,b::m,h,h1,h2,ha=>by
  have d:a=b:=by
   rcases zmc.1 (h.symm.subset (List.mem_cons_self:b∈b::m)) with e|e
   ·exact e.symm
   ·rcases zmc.1 (h.subset (List.mem_cons_self:a∈a::l)) with c|c
    ·exact c
    ·exact ha a List.mem_cons_self b (List.mem_cons_of_mem _ e) ((List.pairwise_cons.1 h1).1 b e) ((List.pairwise_cons.1 h2).1 a c)
  subst d
  rw [aI5 ((List.perm_cons a).1 h) (List.pairwise_cons.1 h1).2 (List.pairwise_cons.1 h2).2 λx hx y hy=>ha x (List.mem_cons_of_mem _ hx) y (List.mem_cons_of_mem _ hy)]
theorem yN (p:Pt):∀(l:List Pt),(arO p l).Perm (p::l)
 |[]=> .refl _
 |q::r=>by
  unfold arO
  split
  ·exact ((yN p r).cons q).trans (.swap p q r)
  ·exact .refl _
theorem zO (p:Pt):∀(l:List Pt),(l.Pairwise λx y=>¬eV y x)->(arO p l).Pairwise λx y=>¬eV y x
 |[],_=>by simp [arO]
 |q::r,h=>by
  obtain ⟨a,b⟩:=List.pairwise_cons.1 h
  unfold arO
  split
  ·rename_i hk
   refine List.pairwise_cons.2 ⟨λx hx=> ?_,zO p r b⟩;rcases zmc.1 ((yN p r).subset hx) with rfl|hx
   ·rw [fH] at hk⊢;omega
   ·exact a x hx
  ·rename_i hk
   refine List.pairwise_cons.2 ⟨λx hx=> ?_,h⟩;rcases zmc.1 hx with rfl|hx
   ·exact hk
   ·have:=a x hx
    rw [fH] at hk this⊢;omega
theorem jC (l:List Pt) (k:Nm):(cN l k).Perm (gA l k):=by
 unfold cN;generalize gA l k=m
 induction m with
 |nil=>exact .refl _
 |cons p r ih=>exact (yN p _).trans (ih.cons p)
theorem vL (l:List Pt) (k:Nm):(cN l k).Pairwise λx y=>¬eV y x:=by
 unfold cN;generalize gA l k=m
 induction m with
 |nil=>exact List.Pairwise.nil
 |cons p r ih=>exact zO p _ ih
def named (l:List Pt):Prop:=∀a∈l,∀b∈l,aG a=aG b->a=b
theorem axD {l:List Pt} (hn:named l) {a b:Pt} (ha:a∈l) (hb:b∈l) (c:¬eV a b) (d:¬eV b a):a=b:=by
 refine hn a ha b hb ?_;rw [fH] at c d;rw [aG,aG,Nm.mk.injEq,Dt.ext_iff];omega
theorem aCs {l R:List Pt} {k:Nm} (hn:named l) (hp:R.Perm (gA l k)) (hs:R.Pairwise λx y=>¬eV y x):R=cN l k:=by
 refine aI5 (hp.trans (jC l k).symm) hs (vL l k) λa ha b hb c d=> ?_;have hm:∀x∈R,x∈l:=λx hx=>(List.mem_filter.1 (hp.subset hx)).1;exact axD hn (hm a ha) (hm b hb) d c
structure HS (st:aD) (l:List Pt) (id5 id8 id9 idm:Nat) (K:List (Nm×(Nat×Nat))) (S:aD) (A:Nm->List Pt) (out:List Pt):Prop where
 old:∀j,st j≠none->S j=st j
 f5:st id5=none
 f8:st id8=none
 f9:st id9=none
 fm:st idm=none
 h5:S id5=some (.cells 313 [.mref idm])
 h9:S id9=some (.cells 314 [.fn 262 [.ref id5 0, .ref id8 0, .ref id9 0]])
 hm:S idm=some (.map (aX Nm.enc acP K))
 arr:∀k id n,(k,(id,n))∈K->S id=some (.arr 149 ((A k).map Pt.cells))/\n=(gA l k).length/\st id=none
 ids:(K.map (·.2.1)).Nodup
 keys:(K.map (·.1)).Nodup
 non:∀k,bZ k K=none->gA l k=[]
 perm:∀k,(A k).Perm (gA l k)
 h8:(S id8=some (.cells 108 [.val (.slice none 0 0)])/\out=[])\/∃ido,S id8=some (.cells 108 [.vec ido 11 0 out.length])/\S ido=some (.arr 149 (out.map Pt.cells))/\st ido=none/\∀k n,(k,(ido,n))∉K
section
variable {st S:aD} {l:List Pt} {id5 id8 id9 idm:Nat} {K:List (Nm×(Nat×Nat))} {A:Nm->List Pt} {out:List Pt}
theorem HS.sorted (h:HS st l id5 id8 id9 idm K S A out) {k:Nm} {id n:Nat} (hk:(k,(id,n))∈K) {R:List Pt} (r:R.Perm (A k)):
  HS st l id5 id8 id9 idm K (upd S id (some (.arr 149 (R.map Pt.cells)))) (λk'=>if k'=k then R else A k') out:=by
 obtain ⟨b,s,o⟩:=h.arr k id n hk
 have n5:id5≠id:=λe=>by rw [<-e,h.h5] at b;cases b
 have n9:id9≠id:=λe=>by rw [<-e,h.h9] at b;cases b
 have nm:idm≠id:=λe=>by rw [<-e,h.hm] at b;cases b
 have i:id8≠id:=λe=>by rcases h.h8 with ⟨h8,_⟩|⟨f,h8,_⟩<;>rw [<-e,h8] at b<;>cases b
 refine ⟨λj hj=> ?_,h.f5,h.f8,h.f9,h.fm,(aB n5).trans h.h5,(aB n9).trans h.h9,(aB nm).trans h.hm,λk' j m a=> ?_,h.ids,h.keys,h.non,λk'=> ?_, ?_⟩
 ·rw [aB (λe=>by subst e;exact hj o)];exact h.old j hj
 ·obtain ⟨b1,b2,d⟩:=h.arr k' j m a
  by_cases hj:j=id
  ·subst hj
   have:=xM h.ids hk a rfl;simp only [Prod.mk.injEq] at this;obtain ⟨rfl,_⟩:=this;exact ⟨by rw [aA,zp rfl],b2,d⟩
  ·refine ⟨?_,b2,d⟩
   rw [aB hj,b1,zn];intro e;subst e;have g:∀{K:List (Nm×(Nat×Nat))},(K.map (·.1)).Nodup->(k',(id,n))∈K->(k',(j,m))∈K->id=j:=by
    intro K hn
    induction K with
    |nil=>intro h;cases h
    |cons x K ih=>
     intro p q;simp only [zmp,List.nodup_cons] at hn;rcases zmc.1 p with e1|e1<;>rcases zmc.1 q with c|c
     ·rw [<-e1] at c;exact (Prod.mk.inj (Prod.mk.inj c).2).1.symm
     ·exact (hn.1 (List.mem_map.2 ⟨_,c,by rw [<-e1]⟩)).elim
     ·exact (hn.1 (List.mem_map.2 ⟨_,e1,by rw [<-c]⟩)).elim
     ·exact ih hn.2 e1 c
   exact hj (g h.keys hk a).symm
 ·by_cases a:k'=k
  ·subst a;simp only [if_true];exact r.trans (h.perm k')
  ·simp only [zn a];exact h.perm k'
 ·rcases h.h8 with ⟨h8,e⟩|⟨f,h8,b1,b2,d⟩
  ·exact .inl ⟨(aB i).trans h8,e⟩
  ·exact .inr ⟨f,(aB i).trans h8,(aB λe=>d k n (by rw [e];exact hk)).trans b1,b2,d⟩
theorem HS.push (h:HS st l id5 id8 id9 idm K S A out) {S1:aD} {a:Nat} (p:Pt) (b:S a=none) (r:∀j,S1 j=S j\/st j=none/\j≠id5/\j≠id9/\j≠idm/\∀k n,(k,(j,n))∉K):
  HS st l id5 id8 id9 idm K (upd (upd S1 a (some (.arr 149 ((out++[p]).map Pt.cells)))) id8 (some (.cells 108 [.vec a 11 0 (out.length+1)]))) A (out++[p]):=by
 have n5:id5≠a:=λe=>by rw [<-e,h.h5] at b;cases b
 have n9:id9≠a:=λe=>by rw [<-e,h.h9] at b;cases b
 have nm:idm≠a:=λe=>by rw [<-e,h.hm] at b;cases b
 have v:id8≠a:=λe=>by rcases h.h8 with ⟨h8,_⟩|⟨ido,h8,_⟩<;>rw [<-e,h8] at b<;>cases b
 have s:id5≠id8:=λe=>by have:=h.h5;rcases h.h8 with ⟨h8,_⟩|⟨ido,h8,_⟩<;>rw [e,h8] at this<;>cases this
 have t:id9≠id8:=λe=>by have:=h.h9;rcases h.h8 with ⟨h8,_⟩|⟨ido,h8,_⟩<;>rw [e,h8] at this<;>cases this
 have u:idm≠id8:=λe=>by have:=h.hm;rcases h.h8 with ⟨h8,_⟩|⟨ido,h8,_⟩<;>rw [e,h8] at this<;>cases this
 have hi:st a=none:=by
  cases hs:st a with
  |none=>rfl
  |some o=>have:=h.old a (by rw [hs];simp);rw [b,hs] at this;cases this
 have g:∀j,j≠id8->j≠a->(∀h:st j=none/\j≠id5/\j≠id9/\j≠idm/\∀k n,(k,(j,n))∉K,False)->upd (upd S1 a (some (.arr 149 ((out++[p]).map Pt.cells)))) id8 (some (.cells 108 [.vec a 11 0 (out.length+1)])) j=S j:=λj i m q=>by
  rw [aB i,aB m]
  rcases r j with e|e
  ·exact e
  ·exact (q e).elim
 refine ⟨λj hj=> ?_,h.f5,h.f8,h.f9,h.fm,(g id5 s n5 λe=>e.2.1 rfl).trans h.h5,(g id9 t n9 λe=>e.2.2.1 rfl).trans h.h9,(g idm u nm λe=>e.2.2.2.1 rfl).trans h.hm,λk j n hk=> ?_,h.ids,h.keys,h.non,h.perm, ?_⟩
 ·rw [g j (λe=>by subst e;exact hj h.f8) (λe=>by subst e;exact hj hi) λe=>hj e.1];exact h.old j hj
 ·obtain ⟨b1,b2,c⟩:=h.arr k j n hk
  have f:j≠id8:=λe=>by rcases h.h8 with ⟨h8,_⟩|⟨ido,h8,_⟩<;>rw [e,h8] at b1<;>cases b1
  have d:j≠a:=λe=>by rw [e,b] at b1;cases b1
  rw [g j f d λe=>e.2.2.2.2 k n hk];exact ⟨b1,b2,c⟩
 ·refine .inr ⟨a,by rw [aA];simp,by rw [aB (Ne.symm v),aA],hi,λk n hk=> ?_⟩
  have:=(h.arr k a n hk).1;rw [b] at this;cases this
theorem iR {k:Nm} {p:Pt} (h:p∈cN l k):p∈l/\p∈gA l k:=by
 have:=(jC l k).subset h;exact ⟨(List.mem_filter.1 this).1,this⟩
theorem azP (hn:named l) (hf:∀p∈l,bL p=true) (h62:l.length<4611686018427387904):∀(n:Nat) (up:Nm) (S:aD) (A:Nm->List Pt) (out:List Pt),atX l n up->out.length+(eQ l n up).length<=1000000->HS st l id5 id8 id9 idm K S A out->
  PC Tryz.prog 262 [.agg up.cells, .ref id5 0, .ref id8 0, .ref id9 0] S λ_ Y=>∃T,HS st l id5 id8 id9 idm K Y T (out++eQ l n up)/\∀k,A k=cN l k->T k=cN l k:=by
 intro n
 induction n using Nat.strongRecOn with
 |ind n ih=> ?_
 intro up S A out hd V h
 have hk:∀p∈gA l up,n≠0/\atX l (n-1) (aG p):=λp hp=>by
  cases n with
  |zero=>rw [show gA l up=[] from hd] at hp;cases hp
  |succ n=>exact ⟨by omega,hd p hp⟩
 have hh:eQ l n up=(cN l up).flatMap λp=>p::eQ l (n-1) (aG p):=by
  cases n with
  |zero=>rw [show cN l up=[] from List.Perm.eq_nil ((jC l up).trans (by rw [show gA l up=[] from hd]))];rfl
  |succ n=>rfl
 rw [hh] at V
 rw [hh]
 clear hh hd
 have I:=h.h5
 have L:=h.hm
 refine pC Tryz.func262 rfl ?_
 (repeat' first|apply wZ;rfl|show Cn _;constructor|apply ldR pk;rfl;rfl;rotate_left;rfl;(assumption);rfl;rfl|(apply aDJ pk Nm.key (f:=acP);(iterate 5 rfl);rotate_left;rfl;(assumption);rfl;intro v hv;rotate_left;intro hv;rotate_left))
 ·obtain ⟨id,m⟩:=v
  have u:=qZ hv;obtain ⟨Z,a2,a3⟩:=h.arr _ _ _ u;have c:(A up).length=m:=by rw [(h.perm up).length_eq,a2]
  have F:∀p∈A up,bL p=true:=λp hp=>hf p (List.mem_filter.1 ((h.perm up).subset hp)).1;have U:m<4611686018427387904:=by have:=apD l up;omega
  (repeat' first|(apply cP;rfl;(apply (atS (l:=A up) F)<;>(assumption));rintro _ st' (⟨R,rfl,hR1,hR2⟩))|apply wZ;rfl|show Cn _;constructor|apply wY;rfl)
  obtain rfl:R=cN l up:=aCs hn (hR1.trans (h.perm up)) hR2;have h:=h.sorted u hR1;have hm':(cN l up).length=m:=by rw [hR1.length_eq,c]
  have E:∀k,A k=cN l k->(if k=up then cN l up else A k)=cN l k:=λk hk=>by
   by_cases e:k=up
   ·rw [zp e,e]
   ·rw [zn e,hk]
  obtain ⟨z,h,d,g⟩:∃z,HS st l id5 id8 id9 idm K (upd S id (some (.arr 149 ((cN l up).map Pt.cells)))) z out/\z up=cN l up/\∀k,A k=cN l k->z k=cN l k:=⟨_,h,by simp,E⟩;clear E F hR1 hR2 c Z a3 I L;refine aC (X:={x:Nat×aD×(Nm->List Pt)//x.1<=m/\HS st l id5 id8 id9 idm K x.2.1 x.2.2 (out++((cN l up).take x.1).flatMap λp=>p::eQ l (n-1) (aG p))/\x.2.2 up=cN l up/\∀k,A k=cN l k->x.2.2 k=cN l k}) (λi=>((((((St.nil 28 (i.1.2.1)).pv 2 (.ref id8 0)).pv 3 (.ref id9 0)).pv 13 (.vec id 11 0 m)).pv 14 ((vi ((m:Nat))))).pv 15 ((vi ((i.1.1:Nat)))))) (λi=>m-i.1.1) ⟨(0,_,z),by simp,by simpa using h,d,g⟩ ?_ (λi=> ?_)
  ·(repeat' first|show Cn (.t _ _);exact Cn.t0|show Cn _;constructor|exact rfl)
  clear h d g;obtain ⟨⟨i,S1,z⟩,hi,h,d,g⟩:=i;simp only at hi h d g;dsimp only;have b1:=(h.arr _ _ _ u).1;rw [d] at b1;generalize ho:(out++((cN l up).take i).flatMap λp=>p::eQ l (n-1) (aG p))=W at h;have hg:i<m->∃p,(cN l up)[i]?=some p:=λhi=>⟨_,zgg (by omega)⟩;have J:=h.h8;have G:=h;by_cases M:i<m
  ·obtain ⟨p,hp⟩:=hg M
   have O:=iR (List.mem_of_getElem? hp);obtain ⟨hn0,H⟩:=hk p O.2;have y:(cN l up).take (i+1)=(cN l up).take i++[p]:=by rw [List.take_add_one,hp];rfl
   have C:(W++[p])++eQ l (n-1) (aG p)=out++((cN l up).take (i+1)).flatMap λp=>p::eQ l (n-1) (aG p):=by
    rw [y,<-ho];simp
   have c:W.length+1+(eQ l (n-1) (aG p)).length<=1000000:=by
    have e1:=congrArg List.length C;have e2:cN l up=(cN l up).take (i+1)++(cN l up).drop (i+1):=(List.take_append_drop _ _).symm;rw [e2,List.flatMap_append,zla] at V;simp only [zla,List.length_singleton] at e1;omega
   rcases J with ⟨h8,e8⟩|⟨D,h8,c1,c2,c3⟩
   ·subst e8
    (repeat' first|apply wZ;rfl|show Cn _;constructor|apply ldR pk;rfl;rfl;rotate_left;rfl;(assumption);rfl;rfl|apply ldL pk Pt.elem (a:=p);rfl;rfl;rotate_left;rfl;(assumption);(intro _;exact hp);rfl|(apply ap0 pk (f:=Pt.cells) [p] 96;(iterate 10 rfl);exact λ_=>rfl;exact λ_=>rfl;exact xL;((focus (simp;done)));((focus (simp;done)));rfl;intro w s)|apply ixA pk;(iterate 5 rfl);rotate_left;rfl;(intro hw;(exact (show _=((i:Nat):Int) from by omega)));(intro hw;(omega));rfl;(exact Nat.zero_add _)|omega|(intro h;simp at h))
    have b:S1 w=none:=s;have Q:id8≠w:=λe=>by rw [<-e,h8] at b;cases b
    have q:=G.push p b (S1:=S1) λj=> .inl rfl;have q9:=q.h9;apply stR pk;rfl;rfl;exact (aB Q).trans h8;rfl;rfl
    (repeat' first|apply wD pk [3] [0];kernel_rfl;rfl;rfl|(apply Cn.cf;focus ((apply oM);done))|(apply cP;rfl;(apply (ih (n-1) (by omega) (aG p) _ _ _ H (by simp only [zla,List.length_singleton] at c⊢;omega) q));rintro _ st' (⟨A2,hA3,hA4⟩))|(refine ⟨⟨(i+1,st',A2),by simp only;omega,by simp only;rw [<-C];exact hA3,hA4 up d,λk e=>hA4 k (g k e)⟩, ?_, ?_⟩)|show Cn (.t _ _);exact Cn.t0|apply wZ;rfl|show Cn _;constructor|exact rfl|apply ldR pk;rfl;rfl;rotate_left;rfl;(assumption);rfl;rfl|apply wY;rfl|omega|simp only [zql];omega)
   ·(repeat' first|apply wZ;rfl|show Cn _;constructor|apply ldR pk;rfl;rfl;rotate_left;rfl;(assumption);rfl;rfl|apply ldL pk Pt.elem (a:=p);rfl;rfl;rotate_left;rfl;(assumption);(intro _;exact hp);rfl|(apply apV pk (f:=Pt.cells) [p] 96;(iterate 9 rfl);(assumption);(omega);exact λ_=>rfl;exact λ_=>rfl;exact xL;((focus (simp;omega)));((focus (simp;omega)));rfl;intro w s)|apply ixA pk;(iterate 5 rfl);rotate_left;rfl;(intro hw;(exact (show _=((i:Nat):Int) from by omega)));(intro hw;(omega));rfl;(exact Nat.zero_add _)|omega|(intro h;simp at h))
    have b:S1 w=none:=s;have Q:id8≠w:=λe=>by rw [<-e,h8] at b;cases b
    have m8:id8≠D:=λe=>by rw [<-e,h8] at c1;cases c1
    have q:=G.push p b (S1:=upd S1 D none) λj=>by
     by_cases e:j=D
     ·subst e
      exact .inr ⟨c2,(λe=>by rw [e,G.h5] at c1;cases c1),(λe=>by rw [e,G.h9] at c1;cases c1),(λe=>by rw [e,G.hm] at c1;cases c1),c3⟩
     ·exact .inl (aB e)
    have q9:=q.h9;apply stR pk;rfl;rfl;exact (aB Q).trans ((aB m8).trans h8);rfl;rfl
    (repeat' first|apply wD pk [3] [0];kernel_rfl;rfl;rfl|(apply Cn.cf;focus ((apply oM);done))|(apply cP;rfl;(apply (ih (n-1) (by omega) (aG p) _ _ _ H (by simp only [zla,List.length_singleton] at c⊢;omega) q));rintro _ st' (⟨A2,hA3,hA4⟩))|(refine ⟨⟨(i+1,st',A2),by simp only;omega,by simp only;rw [<-C];exact hA3,hA4 up d,λk e=>hA4 k (g k e)⟩, ?_, ?_⟩)|show Cn (.t _ _);exact Cn.t0|apply wZ;rfl|show Cn _;constructor|exact rfl|apply ldR pk;rfl;rfl;rotate_left;rfl;(assumption);rfl;rfl|apply wY;rfl|omega|simp only [zql];omega)
  ·have o:HS st l id5 id8 id9 idm K S1 z (out++(cN l up).flatMap λp=>p::eQ l (n-1) (aG p)):=by
    rw [ztl (by omega)] at ho;rw [ho];exact h
   (repeat' first|show Cn (.r _ _ _);refine .rr ?_;((exact ⟨z,o,g⟩));done|apply wZ;rfl|show Cn _;constructor|omega|(intro h;simp at h))
 ·have N:=h.non _ hv
  have P:cN l up=[]:=List.Perm.eq_nil ((jC l up).trans (by rw [N]));have o:HS st l id5 id8 id9 idm K S A (out++(cN l up).flatMap λp=>p::eQ l (n-1) (aG p)):=by
   rw [P];simpa using h
  (repeat' first|(apply cP;rfl;((apply aCm));(rintro _ st' rfl))|apply wZ;rfl|show Cn _;constructor|apply wY;rfl)
  refine aC (X:=Unit) (λi=>((((((St.nil 28 (st')).pv 2 (.ref id8 0)).pv 3 (.ref id9 0)).pv 13 (.val (.slice none 0 0))).pv 14 ((vi (((([]:List (List PV)).length:Nat):Int))))).pv 15 ((vi (0))))) (λi=>0) () ?_ (λi=> ?_)
  ·(repeat' first|show Cn (.t _ _);exact Cn.t0|show Cn _;constructor|exact rfl)
  have B:HS st l id5 id8 id9 idm K st' A (out++(cN l up).flatMap λp=>p::eQ l (n-1) (aG p)):=o
  (repeat' first|show Cn (.r _ _ _);refine .rr ?_;((exact ⟨A,B,λ_ h=>h⟩));done|apply wZ;rfl|show Cn _;constructor)
end
end
section
set_option maxRecDepth 10000
set_option maxHeartbeats 4000000
structure Inv (l:List Pt):Prop where
 formed:∀p∈l,bL p=true
 nodup:(l.map aG).Nodup
 times:∀p∈l,∀q∈l,p.dot=q.dot->p.time=q.time
theorem vA {α β:Type} {g:α->β}:∀{l:List α},(l.map g).Nodup->∀{a b},a∈l->b∈l->g a=g b->a=b
 |[],_,_,_,h,_,_=>by cases h
 |x::l,hn,a,b,ha,hb,e=>by
  simp only [zmp,List.nodup_cons] at hn
  rcases zmc.1 ha with ha|ha<;>rcases zmc.1 hb with hb|hb
  ·rw [ha,hb]
  ·exact (hn.1 (List.mem_map.2 ⟨b,hb,by rw [<-e,ha]⟩)).elim
  ·exact (hn.1 (List.mem_map.2 ⟨a,ha,by rw [e,hb]⟩)).elim
  ·exact vA hn.2 ha hb e
theorem Inv.named {l:List Pt} (h:Inv l):named l:=λ_ ha _ hb e=>vA h.nodup ha hb e
theorem awT {α:Type} {C:List α->Prop} (h0:C []) (h1:∀l p,C l->C (l++[p])) (l:List α):C l:=by
 have:∀r,C (List.reverse r):=λr=>by
  induction r with
  |nil=>exact h0
  |cons p r ih=>rw [List.reverse_cons];exact h1 _ p ih
 have:=this l.reverse;rwa [List.reverse_reverse] at this
theorem kS {K V:Type} [DecidableEq K] (f:Pt->K) (g:Pt->V) (l:List Pt) (p:Pt):(l++[p]).foldl (λm p=>cL (f p) (g p) m) []=cL (f p) (g p) (l.foldl (λm p=>cL (f p) (g p) m) []):=by
 rw [List.foldl_append];rfl
theorem alV {K V:Type} [DecidableEq K] (f:Pt->K) (g:Pt->V) (k:K) (l:List Pt):
  (∀v,bZ k (l.foldl (λm p=>cL (f p) (g p) m) [])=some v->∃q∈l,f q=k/\g q=v)/\(bZ k (l.foldl (λm p=>cL (f p) (g p) m) [])=none->∀q∈l,f q≠k):=by
 induction l using awT with
 |h0=>exact ⟨λv h=>(by cases h),λ_ q h=>(by cases h)⟩
 |h1 l p ih=>
  rw [kS];refine ⟨λv h=> ?_,λh q hq=> ?_⟩
  ·rw [sD] at h
   split at h
   ·rename_i e;injection h with h;exact ⟨p,by simp,e.symm,h⟩
   ·obtain ⟨q,hq,b⟩:=ih.1 v h;exact ⟨q,by simp [hq],b⟩
  ·rw [sD] at h
   split at h
   ·cases h
   ·rename_i e
    rcases zma.1 hq with hq|hq
    ·exact ih.2 h q hq
    ·rw [zms.1 hq];exact λa=>e a.symm
theorem agH (l:List Pt) (k:Nm):(∀v,bZ k (dW l)=some v->v∈l/\aG v=k)/\(bZ k (dW l)=none->∀q∈l,aG q≠k):=by
 obtain ⟨d,e⟩:=alV aG id k l;exact ⟨λv hv=>by obtain ⟨q,a,b,c⟩:=d v hv;exact ⟨c▸a,c▸b⟩,e⟩
theorem azN (l:List Pt) (k:Dt):(∀v,bZ k (eR l)=some v->∃q∈l,q.dot=k/\q.time=v)/\(bZ k (eR l)=none->∀q∈l,q.dot≠k):=alV (·.dot) (·.time) k l
theorem atM {d:List Pt} (h:Inv d) (p:Pt):tZ (dW d) (eR d) p=true↔(∀q∈d,aG q≠aG p)/\bL p=true/\∀q∈d,q.dot=p.dot->q.time=p.time:=by
 obtain ⟨j,k⟩:=agH d (aG p);obtain ⟨b1,b2⟩:=azN d p.dot;unfold tZ;simp only [Bool.not_eq_true',Bool.or_eq_false_iff];constructor
 ·rintro ⟨⟨b,c⟩,a⟩
  refine ⟨k (by simpa using b),by simpa using c,λq hq e=> ?_⟩;cases ht:bZ p.dot (eR d) with
  |none=>exact absurd e (b2 ht q hq)
  |some t=>
   rw [ht] at a;obtain ⟨r,f,g,i⟩:=b1 t ht;have:t=p.time:=by simpa using a
   rw [<-this,<-i];exact h.times q hq r f (by rw [e,g])
 ·rintro ⟨b,c,a⟩
  refine ⟨⟨?_,by simpa using c⟩, ?_⟩
  ·cases hm:bZ (aG p) (dW d) with
   |none=>rfl
   |some v=>obtain ⟨c1,c2⟩:=j v hm;exact absurd c2 (b v c1)
  ·cases ht:bZ p.dot (eR d) with
   |none=>rfl
   |some t=>obtain ⟨r,f,g,i⟩:=b1 t ht;simp [<-i,a r f g]
theorem Inv.snoc_iff {d:List Pt} (h:Inv d) (p:Pt):Inv (d++[p])↔(∀q∈d,aG q≠aG p)/\bL p=true/\∀q∈d,q.dot=p.dot->q.time=p.time:=by
 constructor
 ·intro k
  have hn:=k.nodup;rw [List.map_append,List.nodup_append] at hn;exact ⟨λq hq e=>hn.2.2 _ (List.mem_map.2 ⟨q,hq,rfl⟩) _ (by simp) e,k.formed p (by simp),λq hq e=>k.times q (by simp [hq]) p (by simp) e⟩
 ·rintro ⟨f,g,c⟩
  refine ⟨λq hq=> ?_, ?_,λa ha b hb e=> ?_⟩
  ·rcases zma.1 hq with hq|hq
   ·exact h.formed q hq
   ·rw [zms.1 hq];exact g
  ·rw [List.map_append,List.nodup_append]
   refine ⟨h.nodup,by simp,λa ha b hb e=> ?_⟩;obtain ⟨q,hq,rfl⟩:=List.mem_map.1 ha;simp only [zmp,List.map_nil,zms] at hb;exact f q hq (e.trans hb)
  ·rcases zma.1 ha with ha|ha<;>rcases zma.1 hb with hb|hb
   ·exact h.times a ha b hb e
   ·rw [zms.1 hb] at e⊢;exact c a ha e
   ·rw [zms.1 ha] at e⊢;exact (c b hb e.symm).symm
   ·rw [zms.1 ha,zms.1 hb]
theorem Inv.pre {d r:List Pt} (h:Inv (d++r)):Inv d:=by
 refine ⟨λp hp=>h.formed p (by simp [hp]), ?_,λp hp q hq=>h.times p (by simp [hp]) q (by simp [hq])⟩;have:=h.nodup;rw [List.map_append,List.nodup_append] at this;exact this.1
theorem tP :∀(r d:List Pt),Inv d->(kD r (dW d) (eR d)=true↔Inv (d++r))
 |[],d,h=>by simp [kD,h]
 |p::r,d,h=>by
  have c:cL (aG p) p (dW d)=dW (d++[p]):=(kS aG id d p).symm
  have e:cL p.dot p.time (eR d)=eR (d++[p]):=(kS (·.dot) (·.time) d p).symm
  rw [kD,zba,atM h,<-h.snoc_iff,c,e]
  have b:d++p::r=(d++[p])++r:=by simp
  constructor
  ·rintro ⟨a,f⟩
   rw [b];exact (tP r _ a).1 f
  ·intro a
   rw [b] at a;exact ⟨a.pre,(tP r _ a.pre).2 a⟩
structure Whole (l:List Pt):Prop extends Inv l where
 up:∀p∈l,aH p=Nm.zero\/∃u∈l,aG u=aH p/\dO u p=true
theorem eE (l:List Pt):eZ l=true↔Whole l:=by
 have h0:Inv []:=⟨λ_ h=>(by cases h),List.nodup_nil,λ_ h=>(by cases h)⟩;unfold eZ;rw [zba,show kD l [] []=kD l (dW []) (eR []) from rfl,tP l [] h0,List.nil_append,zal];have a:∀p,Inv l->(aAY (dW l) p=true↔(aH p=Nm.zero\/∃u∈l,aG u=aH p/\dO u p=true)):=λp g=>by
  obtain ⟨c,d⟩:=agH l (aH p)
  unfold aAY
  rw [Bool.or_eq_true,zde]
  refine or_congr Iff.rfl ?_
  cases hm:bZ (aH p) (dW l) with
  |none=>simp only [Bool.false_eq_true,false_iff];rintro ⟨u,hu,e,_⟩;exact d hm u hu e
  |some v=>
   obtain ⟨c1,c2⟩:=c v hm;constructor
   ·intro h;exact ⟨v,c1,c2,h⟩
   ·rintro ⟨u,hu,e,h⟩
    rw [g.named v c1 u hu (by rw [c2,e])];exact h
 constructor
 ·rintro ⟨b,f⟩;exact ⟨b,λp hp=>(a p b).1 (f p hp)⟩
 ·intro h;exact ⟨h.toInv,λp hp=>(a p h.toInv).2 (h.up p hp)⟩
instance (l :List Pt):Decidable (Whole l):=decidable_of_iff _ (eE l)
theorem iW (p q:Pt):dO p q=true↔p.time<q.time\/p.time=q.time/\(p.dot.dev<q.dot.dev\/p.dot.dev=q.dot.dev/\(p.dot.seq<q.dot.seq\/p.dot.seq=q.dot.seq/\p.at_<q.at_)):=by
 unfold dO;rw [Bool.or_eq_true,afX,zba,zde,zde,Sp.ext_iff];simp only [aN];omega
theorem aaB {p:Pt} (h:bL p=true):aG p≠Nm.zero:=by
 intro e;simp only [bL,mayN,withinB,zba,zde] at h;have a:=h.1.2.1.1.1;rw [e] at a;have b:(1:Int)<=0:=a;omega
theorem aD5 {l:List Pt} (h:Whole l) {u p:Pt} (hu:u∈l) (hp:p∈gA l (aG u)):p∈l/\dO u p=true:=by
 obtain ⟨b,a⟩:=List.mem_filter.1 hp;have a:aH p=aG u:=by simpa using a
 refine ⟨b, ?_⟩;rcases h.up p b with e|⟨v,hv,e,ha⟩
 ·exact absurd (a.symm.trans e) (aaB (h.formed u hu))
 ·rw [h.named u hu v hv (by rw [e,a])];exact ha
theorem rU {l:List Pt} {f g:Pt->Bool} {a:Pt} (ha:a∈l) (hg:g a=true) (hf:f a=false) (b:∀q∈l,f q=true->g q=true):(l.filter f).length<(l.filter g).length:=by
 induction l with
 |nil=>cases ha
 |cons x l ih=>
  have d:(l.filter f).length<=(l.filter g).length:=by
   clear ih ha
   induction l with
   |nil=>simp
   |cons y l ih=>
    have:=ih λq hq=>b q (by rcases zmc.1 hq with h|h<;>simp [h]);rw [List.filter_cons,List.filter_cons];by_cases c:f y=true
    ·rw [zp c,zp (b y (by simp) c)];simp;omega
    ·rw [zn c];split<;>simp<;>omega
  rw [List.filter_cons,List.filter_cons];rcases zmc.1 ha with e|ha
  ·subst e;rw [zp hg,zn (by simp [hf])];simp;omega
  ·have:=ih ha λq hq=>b q (by simp [hq])
   by_cases c:f x=true
   ·rw [zp c,zp (b x (by simp) c)];simp;omega
   ·rw [zn c];split<;>simp<;>omega
theorem axO {l:List Pt} (h:Whole l):∀(n:Nat) (u:Pt),u∈l->(l.filter (dO u)).length<=n->atX l n (aG u)
 |0,u,hu,hn=>by
  show gA l (aG u)=[]
  cases hk:gA l (aG u) with
  |nil=>rfl
  |cons p r=>
   obtain ⟨b,c⟩:=aD5 h hu (p:=p) (by rw [hk];simp);have:p∈l.filter (dO u):=List.mem_filter.2 ⟨b,c⟩;rw [List.length_eq_zero_iff.1 (Nat.le_zero.1 hn)] at this;cases this
 |n+1,u,hu,hn=>λp hp=>by
  obtain ⟨b,c⟩:=aD5 h hu hp
  refine axO h n p b ?_
  have:(l.filter (dO p)).length<(l.filter (dO u)).length:=rU (a:=p) b c (by rw [<-Bool.not_eq_true,iW];omega) λq _ hq=>by
   rw [iW] at c hq⊢;omega
  omega
theorem anL {l:List Pt} (h:Whole l):atX l l.length Nm.zero:=by
 cases hl:l.length with
 |zero=>rw [List.length_eq_zero_iff.1 hl];rfl
 |succ n=>
   intro p hp;have hp:=(List.mem_filter.1 hp).1;refine axO h n p hp ?_;have:(l.filter (dO p)).length<(l.filter λ_=>true).length:=rU hp rfl (by rw [<-Bool.not_eq_true,iW];omega) λ_ _ _=>rfl;have e:(l.filter λ_=>true)=l:=List.filter_eq_self.2 λ_ _=>rfl;rw [e] at this;omega
end
section
attribute [local irreducible] Ev PWp
set_option maxRecDepth 10000
set_option maxHeartbeats 4000000
theorem FamB.toHS {st S:aD} {l:List Pt} {idm id5 id8 id9:Nat} {K:List (Nm×(Nat×Nat))} (h:FamB st l idm K S) {c5 c8 c9 i:AObj} (h5:S id5=none) (h8:upd S id5 (some c5) id8=none) (h9:upd (upd S id5 (some c5)) id8 (some c8) id9=none)
  (s:c5= .cells 313 [.mref idm]) (t:c8= .cells 108 [.val (.slice none 0 0)]) (u:i= .cells 314 [.fn 262 [.ref id5 0, .ref id8 0, .ref id9 0]]):
  HS st l id5 id8 id9 idm K (upd (upd (upd (upd S id5 (some c5)) id8 (some c8)) id9 (some c9)) id9 (some i)) (gA l) []:=by
 subst s t u
 have m:id8≠id5:=λe=>by rw [e,aA] at h8;cases h8
 rw [aB m] at h8
 have f:id9≠id8:=λe=>by rw [e,aA] at h9;cases h9
 rw [aB f] at h9
 have d:id9≠id5:=λe=>by rw [e,aA] at h9;cases h9
 rw [aB d] at h9
 have g:∀j,S j≠none->j≠id5/\j≠id8/\j≠id9:=λj hj=>⟨λe=>hj (e▸h5),λe=>hj (e▸h8),λe=>hj (e▸h9)⟩
 have o:∀j,S j≠none->(upd (upd (upd (upd S id5 (some (.cells 313 [.mref idm]))) id8 (some (.cells 108 [.val (.slice none 0 0)]))) id9 (some c9)) id9 (some (.cells 314 [.fn 262 [.ref id5 0, .ref id8 0, .ref id9 0]]))) j=S j:=λj hj=>by
  obtain ⟨a,b,c⟩:=g j hj
  rw [aB c,aB c,aB b,aB a]
 refine ⟨λj hj=> ?_,(h.fresh h5).1,(h.fresh h8).1,(h.fresh h9).1,h.mf, ?_,aA _ _ _,(o idm (by rw [h.hm];simp)).trans h.hm,λk id n hk=> ?_,h.ids,h.keys,h.non,λk=> .refl _, .inl ⟨?_,rfl⟩⟩
 ·have:=h.old j hj
  rw [o j (by rw [this];exact hj)];exact this
 ·rw [aB (Ne.symm d),aB (Ne.symm d),aB (Ne.symm m),aA]
 ·obtain ⟨p,q,r⟩:=h.arr k id n hk
  exact ⟨(o id (by rw [p];simp)).trans p,q,r⟩
 ·rw [aB (Ne.symm f),aB (Ne.symm f),aA]
def cQ (l:List Pt):List Pt:=if eZ l=true/\l.length<=2000 then eQ l l.length Nm.zero else []
theorem aCv (l:List Pt) (st:aD) (hl:l.length<4611686018427387904) (n:eZ l=true->(eQ l l.length Nm.zero).length=l.length):PC Tryz.prog 201 [.seq (l.map Pt.cells)] st (LR 149 11 st ((cQ l).map Pt.cells)):=by
 refine pC Tryz.func201 rfl ?_
 (repeat' first|(apply Cn.cf;focus ((apply (abK l hl));done))|show Cn (.r _ _ _);refine .rr ?_;((have e:cQ l=[]:=(by unfold cQ;rw [zn];rintro ⟨O,U⟩;rcases ‹_\/_›with q|q;(rw [O] at q;cases q);omega);exact .inr ⟨rfl,by rw [e];rfl,zsr _⟩));done|apply wZ;rfl|show Cn _;constructor|apply wY;rfl|(intro h;simp at h))
 have G:eZ l=true/\l.length<=2000:=⟨h.1,by omega⟩;have u:=(eE l).1 G.1;have n:=n G.1;have o:cQ l=eQ l l.length Nm.zero:=by unfold cQ;rw [zp G]
 refine mkM (enc:=Nm.enc) (f:=acP) rfl (λidm g=> ?_);have g:st idm=none:=g
 (repeat' first|apply wZ;rfl|show Cn _;constructor)
 refine aC (X:={x:Nat×aD×List (Nm×(Nat×Nat))//x.1<=l.length/\FamB st (l.take x.1) idm x.2.2 x.2.1}) (λi=>(((((St.nil 45 (i.1.2.1)).var 5 313 ([.mref idm])).pv 23 (.seq (l.map Pt.cells))).pv 24 ((vi ((((l.map Pt.cells)).length:Nat))))).pv 25 ((vi ((i.1.1:Nat)))))) (λi=>l.length-i.1.1) ⟨(0,upd st idm (some (.map (aX Nm.enc acP []))),[]),by simp,FamB.nil g⟩ ?_ (λi=> ?_)
 ·(repeat' first|show Cn (.t _ _);exact Cn.t0|show Cn _;constructor|exact rfl)
 obtain ⟨⟨i,S,K⟩,hi,d⟩:=i;simp only at hi d;dsimp only;have hm:=d.hm;have w:=λh:i<l.length=>apD (l.take i) (aH (l[i]'h));have H:(l.take i).length<=l.length:=by rw [zlt];omega
 (repeat' first|apply wDm pk;rfl;kernel_rfl;rfl;rfl|(apply Cn.cf;focus ((apply qS);done))|apply wZ;rfl|show Cn _;constructor|exact rfl|(apply aDJ pk Nm.key (f:=acP);(iterate 5 rfl);rotate_left;rfl;(assumption);rfl;intro v hv;rotate_left;intro hv;rotate_left)|apply wY;rfl|apply wI;rfl|apply gE;omega|(intro h;simp at h))
 ·skip
  obtain ⟨P,Q,R⟩:=d.arr _ _ _ (qZ hv);have w:=w h
  (repeat' ((apply apV pk (f:=Pt.cells) [l[i]'‹_›] 96;(iterate 9 rfl);(assumption);(omega);exact λ_=>rfl;exact λ_=>rfl;exact xL;((focus (simp;omega)));((focus (simp;omega)));rfl;intro b a)))
  have a:S b=none:=a;obtain ⟨L,F,M⟩:=d.fresh a;have s:=Ne.symm F;have N:=Ne.symm (d.notm (qZ hv));apply muA pk Nm.key (f:=acP) (k:=aH (l[i]'h)) (v:=(b,v.2+1));exact .inr rfl;rfl;rfl;rfl;rfl;rfl;exact (aB s).trans ((aB N).trans hm);rfl
  (repeat' first|(refine ⟨⟨(i+1,_,_),by simp only;omega,d.step (S1:=upd S v.1 none) (m:=v.2+1) h a (by omega) (λj hj=>aB λe=>hj v.2 (by subst e;exact qZ hv))⟩, ?_, ?_⟩)|show Cn (.t _ _);exact Cn.t0|apply wZ;rfl|show Cn _;constructor|exact rfl|omega|simp only [zql];omega)
 ·skip
  have D:=d.non _ hv
  (repeat' ((apply ap0 pk (f:=Pt.cells) [l[i]'‹_›] 96;(iterate 10 rfl);exact λ_=>rfl;exact λ_=>rfl;exact xL;((focus (simp;done)));((focus (simp;done)));rfl;intro b a)))
  have a:S b=none:=a;obtain ⟨L,F,M⟩:=d.fresh a;have s:=Ne.symm F;apply muA pk Nm.key (f:=acP) (k:=aH (l[i]'h)) (v:=(b,1));exact .inr rfl;rfl;rfl;rfl;rfl;rfl;exact (aB s).trans hm;rfl
  (repeat' first|(refine ⟨⟨(i+1,upd (upd S b (some (.arr 149 ([l[i]'h].map Pt.cells)))) idm (some (.map (aX Nm.enc acP (cL (aH (l[i]'h)) (b,1) K)))),cL (aH (l[i]'h)) (b,1) K),by simp only;omega,by have q:=d.step (S1:=S) (m:=1) h a (by rw [D];rfl) (λj hj=>rfl);rw [D] at q;exact q⟩, ?_, ?_⟩)|show Cn (.t _ _);exact Cn.t0|apply wZ;rfl|show Cn _;constructor|exact rfl|omega|simp only [zql];omega)
 have I:l.take i=l:=ztl (by omega);rw [I] at d;clear w H
 (repeat' first|apply wZ;rfl|show Cn _;constructor|apply ldR pk;rfl;rfl;rotate_left;rfl;(exact aA _ _ _);rfl;rfl|apply stR pk;rfl;rfl;(exact aA _ _ _);rfl;rfl|(apply fO 5;rfl;rfl;intro id5 z)|(apply fO 8;rfl;rfl;intro id8 B)|(apply fO 9;rfl;rfl;intro id9 C))
 have q:=d.toHS (c8:= .cells 108 [.val (.slice none 0 0)]) (c5:= .cells 313 [.mref idm]) (c9:= .cells 314 [.val .nilFunc]) z B C rfl rfl rfl
 (repeat' first|(apply cP;rfl;(apply (azP u.named u.formed hl l.length Nm.zero _ _ _ (anL u) (by rw [n];simp;omega) q));rintro _ st' (⟨A2,hA3,hA4⟩))|apply wZ;rfl|show Cn _;constructor|apply wY;rfl)
 rw [List.nil_append] at hA3;have p:=hA3.old;have E:∀c,st c=none->StSub st (upd st' c none):=λc hn j=>by
  by_cases hj:st j=none
  ·exact .inl hj
  ·right;rw [aB (λe=>by subst e;exact hj hn)];exact (p j hj).symm
 have y:StSub st st':=λj=>by
  by_cases hj:st j=none
  ·exact .inl hj
  ·right;exact (p j hj).symm
 rcases hA3.h8 with ⟨h8,J⟩|⟨c,h8,c1,c2,T⟩
 ·(repeat' first|show Cn (.r _ _ _);refine .rr ?_;((exact .inr ⟨rfl,by rw [o,J];rfl,y⟩));done|apply wZ;rfl|show Cn _;constructor|apply ldR pk;rfl;rfl;rotate_left;rfl;(assumption);rfl;rfl)
 ·(repeat' first|show Cn (.r _ _ _);refine .rr ?_;((exact .inl ⟨c,by rw [o,zql],c2,by rw [o];exact c1,E c c2⟩));done|apply wZ;rfl|show Cn _;constructor|apply ldR pk;rfl;rfl;rotate_left;rfl;(assumption);rfl;rfl)
theorem ajK :Tryz.prog.cellsOf 149=11:=(aQ aS (t:=149) (n:=11) rfl).2
theorem alF (l:List Pt) (hl:l.length<4611686018427387904) (a:eZ l=true->(eQ l l.length Nm.zero).length=l.length):PF Tryz.prog 201 [.seq (l.map Pt.cells)] (.seq ((cQ l).map Pt.cells)):=
 ayH ajK λst=>aCv l st hl a
end
section
set_option maxRecDepth 10000
set_option maxHeartbeats 4000000
inductive Anc (l:List Pt):Pt->List Pt->Prop
 |root {p:Pt} (hp:p∈l) (h0:aH p=Nm.zero):Anc l p [p]
 |step {p u:Pt} {s:List Pt} (hp:p∈l) (hu:u∈l) (e:aG u=aH p) (h0:aH p≠Nm.zero) (h:Anc l u s):Anc l p (s++[p])
theorem Anc.all {l:List Pt} {p:Pt} {s:List Pt} (h:Anc l p s):∀q∈s,q∈l:=by
 induction h with
 |root hp _=>intro q hq;rw [zms.1 hq];exact hp
 |step hp _ _ _ _ ih=>
  intro q hq;rcases zma.1 hq with hq|hq
  ·exact ih q hq
  ·rw [zms.1 hq];exact hp
theorem Anc.fn {l:List Pt} (hn:named l) {p:Pt} {s:List Pt} (h:Anc l p s):∀{t:List Pt},Anc l p t->s=t:=by
 induction h with
 |root hp h0=>intro t ht;cases ht with
  |root=>rfl
  |step _ _ _ h0' _=>exact absurd h0 h0'
 |step hp hu e h0 _ ih=>intro t ht;cases ht with
  |root _ h0'=>exact absurd h0' h0
  |step _ hu' e' _ h'=>
   have:=hn _ hu _ hu' (by rw [e,e']);subst this;rw [ih h']
theorem Anc.last {l:List Pt} {p:Pt} {s:List Pt} (h:Anc l p s):∃r,s=r++[p]:=by
 cases h with
 |root=>exact ⟨[],rfl⟩
 |step=>exact ⟨_,rfl⟩
theorem Anc.ex {l:List Pt} (b:Whole l):∀(n:Nat) (p:Pt),p∈l->(l.filter λq=>dO q p).length<=n->∃s,Anc l p s
 |n,p,hp,hn=>by
  by_cases h0:aH p=Nm.zero
  ·exact ⟨_, .root hp h0⟩
  ·obtain ⟨u,hu,e,ha⟩:=(b.up p hp).resolve_left h0
   have c:(l.filter λq=>dO q u).length<(l.filter λq=>dO q p).length:=rU (a:=u) hu ha (by rw [<-Bool.not_eq_true,iW];omega) λq _ hq=>by
    rw [iW] at ha hq⊢;omega
   cases n with
   |zero=>omega
   |succ n=>
    obtain ⟨s,hs⟩:=Anc.ex b n u hu (by omega);exact ⟨_, .step hp hu e h0 hs⟩
def gD :List Pt->List Pt->Prop
 |_,[]=>False
 |[],_::_=>True
 |a::s,b::t=>a=b/\gD s t\/eV a b
theorem xU (a:Pt):¬eV a a:=by rw [fH];omega
theorem aCE {a b c:Pt} (d:eV a b) (e:eV b c):eV a c:=by rw [fH] at d e⊢;omega
theorem xS :∀(s:List Pt),¬gD s s
 |[],h=>h
 |a::s,h=>by rcases h with ⟨_,h⟩|h;exact xS s h;exact xU a h
theorem alQ :∀{s t u:List Pt},gD s t->gD t u->gD s u
 |_,_,[],_,h=>(by cases ‹List Pt› <;>exact h.elim)
 |s,[],_::_,h,_=>(by cases s<;>simp [gD] at h)
 |[],_::_,_::_,_,_=>trivial
 |a::s,b::t,c::u,h1,d=>by
  rcases h1 with ⟨rfl,h1⟩|h1<;>rcases d with ⟨rfl,d⟩|d
  ·exact .inl ⟨rfl,alQ h1 d⟩
  ·exact .inr d
  ·exact .inr h1
  ·exact .inr (aCE h1 d)
theorem xO :∀(P:List Pt) {s t:List Pt},gD s t->gD (P++s) (P++t)
 |[],_,_,h=>h
 |a::P,_,_,h=> .inl ⟨rfl,xO P h⟩
def ltP (l:List Pt) (p q:Pt):Prop:=∃s t,Anc l p s/\Anc l q t/\gD s t
theorem awO {l:List Pt} (hn:named l) (p:Pt):¬ltP l p p:=λ⟨s,t,a,b,h⟩=>by rw [a.fn hn b] at h;exact xS _ h
theorem aoY {l:List Pt} (hn:named l) {p q:Pt} (h:ltP l p q) (b:ltP l q p):False:=by
 obtain ⟨s,t,c,d,e⟩:=h;obtain ⟨g,f,h4,h5,a⟩:=b;rw [<-c.fn hn h5,<-d.fn hn h4] at a;exact xS _ (alQ e a)
theorem vV {l:List Pt} (h:(l.map aG).Nodup):l.Nodup:=by
 induction l with
 |nil=>exact List.nodup_nil
 |cons a l ih=>
  simp only [zmp,List.nodup_cons] at h;exact List.nodup_cons.2 ⟨λhm=>h.1 (List.mem_map.2 ⟨a,hm,rfl⟩),ih h.2⟩
theorem rE {l:List Pt} (f:Whole l):∀(n:Nat) (k:Nm) (P:List Pt),(∀p∈gA l k,Anc l p (P++[p]))->
  (∀x∈eQ l n k,∃q s,q∈cN l k/\Anc l x (P++q::s))/\(eQ l n k).Pairwise (ltP l)
 |0,_,_,_=>⟨λx h=>(by cases h),List.Pairwise.nil⟩
 |n+1,k,P,hP=>by
  have hq:∀q∈cN l k,Anc l q (P++[q]):=λq hq=>hP q (iR hq).2
  have hc:∀q∈cN l k,∀p∈gA l (aG q),Anc l p ((P++[q])++[p]):=λq c p hp=>by
   obtain ⟨e,d⟩:=List.mem_filter.1 hp
   have d:aH p=aG q:=by simpa using d
   have g:=(iR c).1
   exact .step e g d.symm (by rw [d];exact aaB (f.formed q g)) (hq q c)
  have key:∀q∈cN l k,∀x∈q::eQ l n (aG q),∃s,Anc l x (P++q::s):=λq c x hx=>by
   rcases zmc.1 hx with rfl|hx
   ·exact ⟨[],hq x c⟩
   ·obtain ⟨r,s,_,h⟩:=(rE f n (aG q) (P++[q]) (hc q c)).1 x hx
    exact ⟨r::s,by simpa using h⟩
  constructor
  ·intro x hx
   obtain ⟨q,c,hx⟩:=List.mem_flatMap.1 hx;obtain ⟨s,h⟩:=key q c x hx;exact ⟨q,s,c,h⟩
  ·rw [eQ,List.pairwise_flatMap]
   refine ⟨λq c=> ?_, ?_⟩
   ·have j:=rE f n (aG q) (P++[q]) (hc q c)
    rw [List.pairwise_cons];refine ⟨λx hx=> ?_,j.2⟩;obtain ⟨r,s,_,h⟩:=j.1 x hx;refine ⟨_,_,hq q c,h, ?_⟩;have:=xO (P++[q]) (s:=[]) (t:=r::s) trivial
    simpa using this
   ·have hs:=vL l k
    have i:(cN l k).Nodup:=by
     have:=f.nodup;have e:(gA l k).Nodup:=(List.Pairwise.filter _ (vV this));exact (jC l k).nodup_iff.2 e
    refine (hs.and i).imp_of_mem fun {a b} ha hb hab x hx y hy=> ?_;obtain ⟨s,e⟩:=key a ha x hx;obtain ⟨t,d⟩:=key b hb y hy;refine ⟨_,_,e,d,xO P (.inr ?_)⟩;by_cases hk:eV a b
    ·exact hk
    ·exact absurd (axD f.named (iR ha).1 (iR hb).1 hk hab.1) hab.2
theorem ayQ {l:List Pt} {n:Nat} {k:Nm} {p:Pt} (hd:atX l n k) (hp:p∈gA l k):p∈eQ l n k:=by
 cases n with
 |zero=>rw [show gA l k=[] from hd] at hp;cases hp
 |succ n=>exact List.mem_flatMap.2 ⟨p,(jC l k).symm.subset hp,by simp⟩
theorem apL {l:List Pt} {p u:Pt} (hp:p∈gA l (aG u)):∀{n:Nat} {k:Nm},atX l n k->u∈eQ l n k->p∈eQ l n k
 |0,_,_,hu=>(by cases hu)
 |n+1,k,hd,hu=>by
  obtain ⟨q,hq,hu⟩:=List.mem_flatMap.1 hu
  have a:=hd q (iR hq).2
  refine List.mem_flatMap.2 ⟨q,hq, ?_⟩
  rcases zmc.1 hu with rfl|hu
  ·exact List.mem_cons_of_mem _ (ayQ a hp)
  ·exact List.mem_cons_of_mem _ (apL hp a hu)
theorem amD {l:List Pt}:∀{n:Nat} {k:Nm} {p:Pt},p∈eQ l n k->p∈l
 |0,_,_,h=>(by cases h)
 |n+1,k,p,h=>by
  obtain ⟨q,hq,h⟩:=List.mem_flatMap.1 h
  rcases zmc.1 h with rfl|h
  ·exact (iR hq).1
  ·exact amD h
theorem aJu {l:List Pt} (a:Whole l) {p:Pt} {s:List Pt} (h:Anc l p s):p∈eQ l l.length Nm.zero:=by
 have hd:=anL a
 induction h with
 |root hp h0=>exact ayQ hd (List.mem_filter.2 ⟨hp,by simpa using h0⟩)
 |step hp hu e h0 _ ih=>exact apL (List.mem_filter.2 ⟨hp,by simpa using e.symm⟩) hd ih
theorem afP {l m:List Pt} (b:l.Nodup) (c:m.Nodup) (h:∀a,a∈l↔a∈m):l.Perm m:=by
 rw [List.perm_iff_count];intro a;rw [b.count,c.count];simp [h a]
theorem amY {l:List Pt} (c:Whole l):(eQ l l.length Nm.zero).Perm l/\(eQ l l.length Nm.zero).Pairwise (ltP l):=by
 have hs:=(rE c l.length Nm.zero [] λp hp=>by
  obtain ⟨d,f⟩:=List.mem_filter.1 hp
  exact .root d (by simpa using f)).2
 refine ⟨afP ?_ (vV c.nodup) λa=>⟨amD,λha=> ?_⟩,hs⟩
 ·exact hs.imp fun {a b} h e=>by subst e;exact awO c.named _ h
 ·obtain ⟨s,hs⟩:=Anc.ex c _ a ha (Nat.le_refl _)
  exact aJu c hs
theorem aeK (l:List Pt) (hl:l.length<4611686018427387904):PF Tryz.prog 201 [.seq (l.map Pt.cells)] (.seq ((cQ l).map Pt.cells)):=
 alF l hl λh=>(amY ((eE l).1 h)).1.length_eq
theorem fY {l:List Pt} (a:Whole l) (hl:l.length<=2000):(cQ l).Perm l/\(cQ l).Pairwise (ltP l):=by
 unfold cQ;rw [zp ⟨(eE l).2 a,hl⟩];exact amY a
theorem iZ {l:List Pt} (h:¬(Whole l/\l.length<=2000)):cQ l=[]:=by
 unfold cQ;rw [zn λ⟨a,b⟩=>h ⟨(eE l).1 a,b⟩]
theorem zP {l m:List Pt} (c:Whole l) (hl:l.length<=2000) (hp:m.Perm l) (hs:m.Pairwise (ltP l)):cQ l=m:=by
 obtain ⟨e,f⟩:=fY c hl;exact aI5 (e.trans hp.symm) f hs λa _ b _ h d=>(aoY c.named h d).elim
theorem Inv.perm {l m:List Pt} (hp:l.Perm m) (h:Inv l):Inv m:=
 ⟨λp hm=>h.formed p (hp.symm.subset hm),(hp.map aG).nodup_iff.1 h.nodup,λa ha b hb=>h.times a (hp.symm.subset ha) b (hp.symm.subset hb)⟩
theorem Whole.perm {l m:List Pt} (hp:l.Perm m) (h:Whole l):Whole m where
 toInv:=h.toInv.perm hp
 up p hm:=by
  rcases h.up p (hp.symm.subset hm) with e|⟨u,hu,e⟩
  ·exact .inl e
  ·exact .inr ⟨u,hp.subset hu,e⟩
theorem Anc.perm {l m:List Pt} (hp:∀a,a∈l->a∈m) {p:Pt} {s:List Pt} (h:Anc l p s):Anc m p s:=by
 induction h with
 |root h h0=>exact .root (hp _ h) h0
 |step h hu e h0 _ ih=>exact .step (hp _ h) (hp _ hu) e h0 ih
theorem ltP.perm {l m:List Pt} (hp:∀a,a∈l->a∈m) {p q:Pt} (h:ltP l p q):ltP m p q:=by
 obtain ⟨s,t,b,c,d⟩:=h;exact ⟨s,t,b.perm hp,c.perm hp,d⟩
theorem zG {l m:List Pt} (hp:l.Perm m):cQ l=cQ m:=by
 by_cases h:Whole l/\l.length<=2000
 ·have hm:Whole m:=h.1.perm hp
  have b:m.length<=2000:=by rw [<-hp.length_eq];exact h.2
  obtain ⟨c,d⟩:=fY hm b;exact zP h.1 h.2 (c.trans hp.symm) (d.imp λk=>k.perm λa ha=>hp.symm.subset ha)
 ·rw [iZ h,iZ λk=>h ⟨k.1.perm hp.symm,by rw [hp.length_eq];exact k.2⟩]
end
end Go.Proofs.YtfablfldonhkiaaGreatDoor.T
