import Derived.Test.YtfablfldonhkiaaGreatDoorClAg
import Derived.Test.YtfablfldonhkiaaGreatDoorAbsK
import Derived.Test.YtfablfldonhkiaaGreatDoorAbsJ
set_option linter.unusedSimpArgs false
set_option linter.unusedVariables false
namespace Go.Proofs.YtfablfldonhkiaaGreatDoor
open Go Go.Abs
section
set_option maxRecDepth 10000
set_option maxHeartbeats 4000000
abbrev R2 :=Int×Int
def r2C (r:R2):List PV:=[(vi (r.1)),(vi (r.2))]
def ptP (l:Ln) (c:Int):Option Int:=if 0<=c/\c<l.cells_.length then (if l.cells_[c.toNat]!.val.kind=1 then some l.cells_[c.toNat]!.val.n else none) else none
def eF (G:R2->Bool) (l:Ln) (f:Fr):Bool:=match ptP l f.col with
 |some k=>G (f.table,k)
 |none=>false
theorem amP {G:R2->Bool} {l:Ln} {f:Fr}:eF G l f=true↔∃k,ptP l f.col=some k/\G (f.table,k)=true:=by
 unfold eF;cases ptP l f.col<;>simp
def chB (s:Sc) (b:Bs) (x y:R2):Prop:=∃k,k<b.length/\∃f∈s[k]!.foreign,∃l∈b[k]!.lines,f.table=x.1/\f.act=1/\ptP l f.col=some x.2/\y=((k:Int),l.key)
def aHL (b:Bs) (k:Nat):List R2:=b[k]!.lines.map λl=>((k:Int),l.key)
def dH (b:Bs):List R2:=(List.range b.length).flatMap (aHL b)
theorem fZ {b:Bs} {y:R2}:y∈dH b↔∃k,k<b.length/\∃l∈b[k]!.lines,y=((k:Int),l.key):=by
 simp only [dH,aHL,List.mem_flatMap,List.mem_range,List.mem_map];exact ⟨λ⟨k,hk,l,hl,e⟩=>⟨k,hk,l,hl,e.symm⟩,λ⟨k,hk,l,hl,e⟩=>⟨k,hk,l,hl,e.symm⟩⟩
inductive Reach (s:Sc) (b:Bs) (x:R2):R2->Prop
 |refl:Reach s b x x
 |step {y z:R2} (h:Reach s b x y) (c:chB s b y z):Reach s b x z
variable {s:Sc} {b:Bs}
theorem Reach.head {x y z:R2} (c:chB s b x y) (h:Reach s b y z):Reach s b x z:=by
 induction h with
 |refl=>exact .step .refl c
 |step _ c2 ih=>exact .step ih c2
theorem ayN {x y:R2} (h:chB s b x y):y∈dH b:=by
 obtain ⟨k,hk,f,_,l,hl,_,_,_,e⟩:=h;exact fZ.2 ⟨k,hk,l,hl,e⟩
theorem Reach.row {x y:R2} (hx:x∈dH b) (h:Reach s b x y):y∈dH b:=by
 cases h with
 |refl=>exact hx
 |step _ c=>exact ayN c
def aHf (s:Sc) (a:Int) (k:Nat):List (Nat×Nat):=((List.range s[k]!.foreign.length).filter λi=>decide (s[k]!.foreign[i]!.table=a)).map λi=>(k,i)
def fC (s:Sc) (a:Int):List (Nat×Nat):=(List.range s.length).flatMap (aHf s a)
theorem nH {a:Int} {x:Nat×Nat}:x∈fC s a↔x.1<s.length/\x.2<s[x.1]!.foreign.length/\s[x.1]!.foreign[x.2]!.table=a:=by
 simp only [fC,aHf,List.mem_flatMap,List.mem_range,List.mem_map,List.mem_filter,zde];constructor
 ·rintro ⟨k,hk,i,⟨hi,e⟩,rfl⟩
  exact ⟨hk,hi,e⟩
 ·rintro ⟨c,d,f⟩
  exact ⟨x.1,c,x.2,⟨d,f⟩,rfl⟩
def goL (F:R2->List R2->List R2) (col key:Int) (k:Nat) (a:List Ln) (M:List R2):List R2:=a.foldl (λM l=>if ptP l col=some key then F ((k:Int),l.key) M else M) M
def goK (F:R2->List R2->List R2) (s:Sc) (b:Bs) (key:Int) (a:List (Nat×Nat)) (M:List R2):List R2:=
 a.foldl (λM x=>if s[x.1]!.foreign[x.2]!.act=1 then goL F s[x.1]!.foreign[x.2]!.col key x.1 b[x.1]!.lines M else M) M
def iK (s:Sc) (b:Bs):Nat->R2->List R2->List R2
 |0,_,M=>M
 |n+1,x,M=>if x∈M then M else goK (iK s b n) s b x.2 (fC s x.1) (M++[x])
structure Tk (s:Sc) (b:Bs) (C:R2->Prop) (M M':List R2):Prop where
 sub:∀y∈M,y∈M'
 nd:M'.Nodup
 all:∀y∈M',y∈dH b
 new:∀y∈M',y∈M\/∃c,C c/\Reach s b c y
 clo:∀y∈M',y∈M\/∀c,chB s b y c->c∈M'
 me:∀c,C c->c∈M'
theorem Tk.refl {C:R2->Prop} {M:List R2} (hn:M.Nodup) (ha:∀y∈M,y∈dH b) (a:∀c,C c->c∈M):Tk s b C M M:=⟨λ_ h=>h,hn,ha,λ_ h=> .inl h,λ_ h=> .inl h,a⟩
theorem Tk.trans {C D:R2->Prop} {M a d:List R2} (h:Tk s b C M a) (k:Tk s b D a d):Tk s b (λc=>C c\/D c) M d where
 sub y hy:=k.sub y (h.sub y hy)
 nd:=k.nd
 all:=k.all
 new y hy:=by
  rcases k.new y hy with q|⟨c,q,r⟩
  ·rcases h.new y q with q|⟨c,q,r⟩
   ·exact .inl q
   ·exact .inr ⟨c, .inl q,r⟩
  ·exact .inr ⟨c, .inr q,r⟩
 clo y hy:=by
  rcases k.clo y hy with q|q
  ·rcases h.clo y q with q|q
   ·exact .inl q
   ·exact .inr λc hc=>k.sub c (q c hc)
  ·exact .inr q
 me c hc:=by
  rcases hc with q|q
  ·exact k.sub c (h.me c q)
  ·exact k.me c q
theorem Tk.imp {C D:R2->Prop} {M M':List R2} (h:Tk s b C M M') (hd:∀c,C c↔D c):Tk s b D M M':=
 ⟨h.sub,h.nd,h.all,λy hy=>(h.new y hy).imp id λ⟨c,q,r⟩=>⟨c,(hd c).1 q,r⟩,h.clo,λc hc=>h.me c ((hd c).2 hc)⟩
theorem uU :∀{M A:List R2},M.Nodup->(∀y∈M,y∈A)->M.length<=A.length
 |[],_,_,_=>Nat.zero_le _
 |x::M,A,hn,hs=>by
  obtain ⟨a,c⟩:=List.nodup_cons.1 hn
  have hx:=hs x (by simp)
  have:=uU (A:=A.erase x) c λy hy=>(List.mem_erase_of_ne (λe=>a (by rw [<-e];exact hy))).2 (hs y (by simp [hy]))
  rw [List.length_erase_of_mem hx] at this
  have:=List.length_pos_of_mem hx
  simp only [zlc];omega
theorem Tk.len {C:R2->Prop} {M M':List R2} (h:Tk s b C M M') (hn:M.Nodup):M.length<=M'.length:=uU hn h.sub
theorem aiZ {F:R2->List R2->List R2} {N:Nat} (f:∀x M,x∈dH b->M.Nodup->(∀y∈M,y∈dH b)->N<=M.length->Tk s b (· =x) M (F x M)) (col key:Int) (k:Nat):∀(a:List Ln) (M:List R2),(∀l∈a,((k:Int),l.key)∈dH b)->M.Nodup->(∀y∈M,y∈dH b)->N<=M.length->
  Tk s b (λc=>∃l∈a,ptP l col=some key/\c=((k:Int),l.key)) M (goL F col key k a M)
 |[],M,_,hn,ha,_=> .refl hn ha λc h=>by obtain ⟨l,h,_⟩:=h;cases h
 |l::a,M,hl,hn,ha,hN=>by
  unfold goL
  rw [List.foldl_cons]
  by_cases hp:ptP l col=some key
  ·rw [zp hp]
   have d:=f _ M (hl l (by simp)) hn ha hN;have g:=aiZ f col key k a _ (λx hx=>hl x (by simp [hx])) d.nd d.all (Nat.le_trans hN (d.len hn));refine (d.trans g).imp λc=> ?_;constructor
   ·rintro (rfl|⟨x,hx,q,e⟩)
    ·exact ⟨l,by simp,hp,rfl⟩
    ·exact ⟨x,by simp [hx],q,e⟩
   ·rintro ⟨x,hx,q,e⟩
    rcases zmc.1 hx with rfl|hx
    ·exact .inl e
    ·exact .inr ⟨x,hx,q,e⟩
  ·rw [zn hp]
   refine (aiZ f col key k a _ (λx hx=>hl x (by simp [hx])) hn ha hN).imp λc=> ?_;constructor
   ·rintro ⟨x,hx,q,e⟩
    exact ⟨x,by simp [hx],q,e⟩
   ·rintro ⟨x,hx,q,e⟩
    rcases zmc.1 hx with rfl|hx
    ·exact absurd q hp
    ·exact ⟨x,hx,q,e⟩
theorem aiS {F:R2->List R2->List R2} {N:Nat} (d:∀x M,x∈dH b->M.Nodup->(∀y∈M,y∈dH b)->N<=M.length->Tk s b (· =x) M (F x M)) (key:Int):∀(ks:List (Nat×Nat)) (M:List R2),(∀x∈ks,x.1<b.length)->M.Nodup->(∀y∈M,y∈dH b)->N<=M.length->
  Tk s b (λc=>∃x∈ks,s[x.1]!.foreign[x.2]!.act=1/\∃l∈b[x.1]!.lines,ptP l s[x.1]!.foreign[x.2]!.col=some key/\c=((x.1:Int),l.key)) M (goK F s b key ks M)
 |[],M,_,hn,ha,_=> .refl hn ha λc h=>by obtain ⟨x,h,_⟩:=h;cases h
 |x::ks,M,hk,hn,ha,hN=>by
  unfold goK
  rw [List.foldl_cons]
  by_cases hp:s[x.1]!.foreign[x.2]!.act=1
  ·rw [zp hp]
   have a:=aiZ d s[x.1]!.foreign[x.2]!.col key x.1 b[x.1]!.lines M (λl hl=>fZ.2 ⟨x.1,hk x (by simp),l,hl,rfl⟩) hn ha hN;have e:=aiS d key ks _ (λx hx=>hk x (by simp [hx])) a.nd a.all (Nat.le_trans hN (a.len hn));refine (a.trans e).imp λc=> ?_;constructor
   ·rintro (q|⟨y,hy,q⟩)
    ·exact ⟨x,by simp,hp,q⟩
    ·exact ⟨y,by simp [hy],q⟩
   ·rintro ⟨y,hy,q,r⟩
    rcases zmc.1 hy with rfl|hy
    ·exact .inl r
    ·exact .inr ⟨y,hy,q,r⟩
  ·rw [zn hp]
   refine (aiS d key ks _ (λx hx=>hk x (by simp [hx])) hn ha hN).imp λc=> ?_;constructor
   ·rintro ⟨y,hy,q⟩
    exact ⟨y,by simp [hy],q⟩
   ·rintro ⟨y,hy,q,r⟩
    rcases zmc.1 hy with rfl|hy
    ·exact absurd q hp
    ·exact ⟨y,hy,q,r⟩
theorem aH8 (hb:b.length=s.length) (x c:R2):(∃y∈fC s x.1,s[y.1]!.foreign[y.2]!.act=1/\∃l∈b[y.1]!.lines,ptP l s[y.1]!.foreign[y.2]!.col=some x.2/\c=((y.1:Int),l.key))↔chB s b x c:=by
 constructor
 ·rintro ⟨y,hy,d,l,hl,g,e⟩
  obtain ⟨n,h,m⟩:=nH.1 hy;exact ⟨y.1,by omega,s[y.1]!.foreign[y.2]!,by rw [getElem!_pos s[y.1]!.foreign y.2 h];exact zgm h,l,hl,m,d,g,e⟩
 ·rintro ⟨k,hk,f,hf,l,hl,d,g,j,e⟩
  obtain ⟨i,hi,rfl⟩:=zgo hf;have a:s[k]!.foreign[i]! =s[k]!.foreign[i]:=getElem!_pos ..;exact ⟨(k,i),nH.2 ⟨by omega,hi,by rw [a];exact d⟩,by rw [a];exact g,l,hl,by rw [a];exact j,e⟩
theorem aeX (hb:b.length=s.length):∀(n:Nat) (x:R2) (M:List R2),x∈dH b->M.Nodup->(∀y∈M,y∈dH b)->(dH b).length+1<=n+M.length->Tk s b (· =x) M (iK s b n x M)
 |0,x,M,_,hn,ha,hN=>by have:=uU hn ha;omega
 |n+1,x,M,hx,hn,ha,hN=>by
  unfold iK
  by_cases hm:x∈M
  ·rw [zp hm]
   exact .refl hn ha λc h=>h▸hm
  ·rw [zn hm]
   have d:(M++[x]).Nodup:=by
    rw [List.nodup_append];exact ⟨hn,by simp,λy hy z hz e=>hm (by rw [zms.1 hz] at e;exact e▸hy)⟩
   have a:∀y∈M++[x],y∈dH b:=λy hy=>by
    rcases zma.1 hy with q|q
    ·exact ha y q
    ·rw [zms.1 q];exact hx
   have h:=(aiS (s:=s) (N:=(dH b).length+1-n) (λy L f g i j=>aeX hb n y L f g i (by omega)) x.2 (fC s x.1) (M++[x]) (λy hy=>by rw [hb];exact (nH.1 hy).1) d a (by simp;omega)).imp (aH8 hb x);refine ⟨λy hy=>h.sub y (by simp [hy]),h.nd,h.all,λy hy=> ?_,λy hy=> ?_,λc hc=>h.sub c (by simp [hc])⟩
   ·rcases h.new y hy with q|⟨c,q,r⟩
    ·rcases zma.1 q with q|q
     ·exact .inl q
     ·exact .inr ⟨x,rfl,by rw [zms.1 q];exact .refl⟩
    ·exact .inr ⟨x,rfl, .head q r⟩
   ·rcases h.clo y hy with q|q
    ·rcases zma.1 q with q|q
     ·exact .inl q
     ·rw [zms.1 q];exact .inr λc hc=>h.me c hc
    ·exact .inr q
def aI8 (s:Sc) (b:Bs) (z:R2):List R2:=iK s b ((dH b).length+1) z []
theorem aCd (hb:b.length=s.length) {z:R2} (hz:z∈dH b):Tk s b (· =z) [] (aI8 s b z):=aeX hb _ z [] hz List.nodup_nil (by simp) (by simp)
theorem aGL (hb:b.length=s.length) {z:R2} (hz:z∈dH b) (y:R2):y∈aI8 s b z↔Reach s b z y:=by
 have h:=aCd hb hz;constructor
 ·intro hy
  rcases h.new y hy with q|⟨c,rfl,r⟩
  ·cases q
  ·exact r
 ·intro a
  induction a with
  |refl=>exact h.me z rfl
  |step _ c ih=>exact ((h.clo _ ih).resolve_left (by simp)) _ c
def inR (rows:List R2) (r:R2):Bool:=decide (r∈rows)
end
section
attribute [local irreducible] Ev PWp
set_option maxRecDepth 10000
set_option maxHeartbeats 4000000
theorem aGV :Tryz.prog.bytesOf 236=16:=by kernel_rfl
theorem aFr :Tryz.prog.cellsOf 236=2:=by kernel_rfl
theorem akA {l:Ln} {j:Nat} (h:j<l.cells_.length):ptP l j=if l.cells_[j].val.kind=1 then some l.cells_[j].val.n else none:=by
 unfold ptP;rw [zp ⟨by omega,by omega⟩,Int.toNat_natCast,getElem!_pos l.cells_ j h]
theorem aiU {l:Ln} {c:Int} (h:¬(0<=c/\c<l.cells_.length)):ptP l c=none:=by unfold ptP;rw [zn h]
def fS (l:Ln) (c:Int):Prop:=∀j (h:j<l.cells_.length),(j:Int)=c->l.cells_[j].kind=0
def ptR (o:Option Int):PV:= .tup [(vi (o.getD 0)),(vb (o.isSome))]
theorem gM (l:Ln) (c:Int) (h:fS l c):PF Tryz.prog 90 [.agg l.cells,(vi (c))] (ptR (ptP l c)):=by
 by_cases hc:0<=c/\c<l.cells_.length
 ·obtain ⟨j,rfl⟩:∃j:Nat,c=j:=⟨c.toNat,by omega⟩
  have hj:j<l.cells_.length:=by omega
  have hs:=arB l.cells_[j] (h j hj rfl);rw [akA hj];by_cases hk:l.cells_[j].val.kind=1;rw [zp hk];refine pF Tryz.func90 rfl (λst=> ?_);rotate_left;rw [zn hk];refine pF Tryz.func90 rfl (λst=> ?_);rotate_left
  all_goals ((repeat' first|apply wZ;rfl|show Cn _;constructor|exact rfl|(apply hs)|apply wY;rfl|apply wI;rfl|apply gE;omega|omega|simp only [zql];omega|(intro h;simp at h)|intro h))
 ·rw [aiU hc]
  refine pF Tryz.func90 rfl (λst=> ?_)
  (repeat' first|apply wZ;rfl|show Cn _;constructor|exact rfl|intro h;simp at h;omega|(intro h;simp at h))
theorem ahJ {G:R2->Bool} {l:Ln} {f:Fr} {k:Int} (h:ptP l f.col=some k):eF G l f=G (f.table,k):=by unfold eF;rw [h]
theorem ahT {G:R2->Bool} {l:Ln} {f:Fr} (h:ptP l f.col=none):eF G l f=false:=by unfold eF;rw [h]
theorem axN {α:Type} {f:α->Bool} {l:List α} {i:Nat} (h:i<l.length) (hf:f l[i]=true):l.any f=true:=List.any_eq_true.2 ⟨_,zgm h,hf⟩
theorem aDi {α:Type} {f:α->Bool} {l:List α} (h:∀j (h:j<l.length),f l[j]=false):l.any f=false:=by
 rw [<-Bool.not_eq_true,List.any_eq_true];rintro ⟨x,hx,hf⟩;obtain ⟨j,hj,rfl⟩:=zgo hx;rw [h j hj] at hf;cases hf
theorem aEr {α:Type} {f:α->Bool} {l:List α} {i:Nat} (c:∀j (h:j<l.length),j<i->f l[j]=false) (h:i<l.length) (hf:f l[i]=false):∀j (h:j<l.length),j<i+1->f l[j]=false:=λj hj a=>by
 rcases zls.1 a with q|q
 ·exact c j hj q
 ·subst q;exact hf
def kkC (x:Nat×Nat):List PV:=[(vi ((x.1:Nat))),(vi ((x.2:Nat)))]
def pY (s:Sc) (a:Int) (k y:Nat):List (Nat×Nat):=((List.range y).filter λi=>decide (s[k]!.foreign[i]!.table=a)).map λi=>(k,i)
def rJ (s:Sc) (a:Int) (k:Nat):List (Nat×Nat):=(List.range k).flatMap (aHf s a)
theorem adF {α:Type} (p:α->Bool) (y:α):[y].filter p=if p y=true then [y] else []:=by by_cases h:p y=true<;>simp [h]
theorem aGM (s:Sc) (a:Int) (k y:Nat):pY s a k (y+1)=if s[k]!.foreign[y]!.table=a then pY s a k y++[(k,y)] else pY s a k y:=by
 unfold pY;rw [List.range_succ,List.filter_append,List.map_append,adF];by_cases h:s[k]!.foreign[y]!.table=a
 ·rw [zp h,zp (decide_eq_true h)];rfl
 ·rw [zn h,zn (by rw [decide_eq_false h];simp)];simp
theorem axF (s:Sc) (a:Int) (k:Nat):rJ s a (k+1)=rJ s a k++pY s a k s[k]!.foreign.length:=by
 unfold rJ;rw [List.range_succ,List.flatMap_append];simp [aHf,pY]
theorem aoS (s:Sc) (a:Int) (k y:Nat):(pY s a k y).length<=y:=by
 unfold pY;rw [zql];exact Nat.le_trans (List.length_filter_le ..) (by simp)
theorem acT (s:Sc) (a:Int) (h:∀k (h:k<s.length),s[k].foreign.length<=16):∀k,k<=s.length->(rJ s a k).length<=16*k
 |0,_=>by simp [rJ]
 |k+1,hk=>by
  have d:=acT s a h k (by omega)
  have c:=aoS s a k s[k]!.foreign.length
  have e:=h k (by omega)
  rw [axF,zla]
  rw [getElem!_pos s k (by omega)] at c⊢
  omega
theorem aFM (s:Sc) (a:Int) (hs:s.length<=16) (g:∀k (h:k<s.length),s[k].foreign.length<=16) (st:aD):PC Tryz.prog 241 [.agg (scC s),(vi (a))] st λr S=>∃id,r= .vec id 2 0 (fC s a).length/\st id=none/\S=upd st id (some (.arr 236 ((fC s a).map kkC))):=by
 have o:=acT s a g;refine pC Tryz.func241 rfl ?_
 focus ((repeat' first|apply wZ;rfl|show Cn _;constructor))
 refine fG 5 236 2 rfl rfl rfl (λid c=> ?_);refine aC (X:={x:Nat×Nat//x.1<=s.length/\st x.2=none}) (λi=>((((((St.nil 39 (upd st i.1.2 (some (.arr 236 ((rJ s a i.1.1).map kkC))))).pv 1 ((vi (a)))).pv 5 (.vec i.1.2 2 0 (rJ s a i.1.1).length)).pv 11 (.seq (s.map Tb.cells))).pv 12 ((vi (((s.map Tb.cells).length:Nat))))).pv 13 ((vi ((i.1.1:Nat)))))) (λi=>s.length-i.1.1) ⟨(0,id),by simp,c⟩ ?_ (λi=> ?_)
 ·dsimp only
  (repeat' first|show Cn (.t _ _);exact Cn.t0|show Cn _;constructor|exact rfl)
 obtain ⟨⟨i,id⟩,hi,c⟩:=i;simp only at hi c;dsimp only;have B:=o i hi;by_cases u:s.length<=i
 ·obtain rfl:i=s.length:=by omega
  (repeat' first|show Cn (.r _ _ _);refine .rr ?_;(exact ⟨id,rfl,c,rfl⟩);done|apply wZ;rfl|show Cn _;constructor|simp only [zql];omega|(intro h;simp at h))
 have m:i<s.length:=by omega
 have v:=g i m;have j:=axF s a i;have d:=aGM s a i;rw [getElem!_pos s i m] at j d
 focus ((repeat' first|apply wZ;rfl|show Cn _;constructor|exact rfl|apply wI;rfl|apply gE;omega|simp only [zql];omega|(intro h;simp at h)))
 refine aC (X:={x:Nat×Nat//x.1<=s[i].foreign.length/\st x.2=none}) (λy=>((((((((((St.nil 39 (upd st y.1.2 (some (.arr 236 ((rJ s a i++pY s a i y.1.1).map kkC))))).pv 1 ((vi (a)))).pv 5 (.vec y.1.2 2 0 (rJ s a i++pY s a i y.1.1).length)).pv 6 ((vi ((i:Nat))))).pv 11 (.seq (s.map Tb.cells))).pv 12 ((vi (((s.map Tb.cells).length:Nat))))).pv 13 ((vi ((i:Nat))))).pv 19 (.seq (s[i].foreign.map Fr.cells))).pv 20 ((vi (((s[i].foreign.map Fr.cells).length:Nat))))).pv 21 ((vi ((y.1.1:Nat)))))) (λy=>s[i].foreign.length-y.1.1) ⟨(0,id),by simp,c⟩ ?_ (λy=> ?_)
 ·dsimp only
  have e:rJ s a i++pY s a i 0=rJ s a i:=by simp [pY]
  rw [e]
  (repeat' first|show Cn (.t _ _);exact Cn.t0|show Cn _;constructor|exact rfl)
 obtain ⟨⟨y,id⟩,hy,c⟩:=y;simp only at hy c;dsimp only;have z:=aoS s a i y;have w:(rJ s a i++pY s a i y).length<=1000:=by rw [zla];omega
 by_cases n:s[i].foreign.length<=y;obtain rfl:y=s[i].foreign.length:=by omega
 rw [<-j];rotate_left;have p:y<s[i].foreign.length:=by omega
 have d:=d y;rw [getElem!_pos s[i].foreign y p] at d;by_cases hk:s[i].foreign[y].table=a;rw [zp hk] at d;have e:rJ s a i++pY s a i (y+1)=(rJ s a i++pY s a i y)++[(i,y)]:=by rw [d,List.append_assoc]
 have el:(rJ s a i++pY s a i (y+1)).length=(rJ s a i++pY s a i y).length+1:=by rw [e,zla];rfl
 generalize rJ s a i++pY s a i y=A at*;rotate_left;rw [zn hk] at d;rw [<-d];rotate_left
 all_goals ((repeat' first|((first|refine ⟨⟨(i+1,id),by simp only;omega,c⟩, ?_,by simp only;omega⟩|refine ⟨⟨(y+1,id),by simp only;omega,c⟩, ?_,by simp only;omega⟩);focus ((repeat' first|show Cn (.t _ _);exact Cn.t0|show Cn _;constructor|exact rfl);done))|((refine ⟨⟨(y+1,q),by simp only;omega,dG l⟩, ?_,by simp only;omega⟩);((dsimp only;try rw [e]));focus ((repeat' first|show Cn (.t _ _);exact .any (bR ‹_›)|show Cn _;constructor|exact rfl|simp;done);done))|apply wZ;rfl|show Cn _;constructor|exact rfl|(apply apV pk (f:=kkC) [(i,y)] 16;(iterate 9 rfl);(exact aA _ _ _);(omega);exact λ_=>rfl;exact λ_=>rfl;exact aGV;((focus (simp;omega)));((focus (simp;omega)));rfl;intro q l)|apply wI;rfl|apply gE;omega|omega|simp only [zql];omega|(intro h;simp at h)|intro h))
theorem aAu (s:Sc) (a:Int) (hs:s.length<=16) (c:∀k (h:k<s.length),s[k].foreign.length<=16):PF Tryz.prog 241 [.agg (scC s),(vi (a))] (.seq ((fC s a).map kkC)):=λst=>
 gF (sz:=2) (aFM s a hs c st) λp st' h=>by
  obtain ⟨id,rfl,d,rfl⟩:=h
  exact .inl ⟨id,236,(fC s a).map kkC,_,st,aA _ _ _,aFr,fW rfl,cD d,rfl,rfl⟩
def bF (b:Bool):PV:=(vb (b))
def oA (r:R2):Value:= .agg (aqG r).toArray
theorem ayU :KeyOK Tryz.prog 236 oA (λr=> .agg (r2C r)):=
 auV aS rfl rfl rfl rfl (λa b=>by
  show some (decide (a.1=b.1)&&decide (a.2=b.2))=_
  rw [Option.some.injEq,Bool.eq_iff_iff]
  simp [Prod.ext_iff]) (by kernel_rfl)
def mE (M:List R2):List (R2×Bool):=M.map λr=>(r,true)
def mM (M:List R2):AObj:= .map (aX oA bF (mE M))
theorem akR {r:R2}:∀{M:List R2},r∈M->bZ r (mE M)=some true
 |x::M,h=>by
  simp only [mE,zmp,bZ]
  by_cases e:r=x
  ·rw [zp e]
  ·rw [zn e];exact akR ((zmc.1 h).resolve_left e)
theorem aeU {r:R2}:∀{M:List R2},r∉M->bZ r (mE M)=none
 |[],_=>rfl
 |x::M,h=>by
  simp only [mE,zmp,bZ]
  rw [zn (λe=>h (by simp [e]))]
  exact aeU λhm=>h (by simp [hm])
theorem amR {r:R2}:∀{M:List R2},r∉M->cL r true (mE M)=mE (M++[r])
 |[],_=>rfl
 |x::M,h=>by
  simp only [mE,zmp,List.cons_append,cL]
  rw [zn (λe=>h (by simp [e]))]
  exact congrArg _ (amR λhm=>h (by simp [hm]))
theorem aIU {F:R2->List R2->List R2} {col key:Int} {k y:Nat} {a:List Ln} {M:List R2} (h:y<a.length):goL F col key k (a.take (y+1)) M=if ptP a[y] col=some key then F ((k:Int),a[y].key) (goL F col key k (a.take y) M) else goL F col key k (a.take y) M:=by
 unfold goL;rw [List.take_succ_eq_append_getElem h,List.foldl_append];rfl
theorem aJs {F:R2->List R2->List R2} {s:Sc} {b:Bs} {key:Int} {i:Nat} {a:List (Nat×Nat)} {M:List R2} (h:i<a.length):goK F s b key (a.take (i+1)) M=if s[a[i].1]!.foreign[a[i].2]!.act=1 then goL F s[a[i].1]!.foreign[a[i].2]!.col key a[i].1 b[a[i].1]!.lines (goK F s b key (a.take i) M) else goK F s b key (a.take i) M:=by
 unfold goK;rw [List.take_succ_eq_append_getElem h,List.foldl_append];rfl
structure Fol (s:Sc) (b:Bs):Prop where
 len:b.length=s.length
 s16:s.length<=16
 f16:∀k (h:k<s.length),s[k].foreign.length<=16
 reg:∀k (h:k<s.length),∀f∈s[k].foreign,∀l∈b[k]!.lines,fS l f.col
 lns:∀k (h:k<b.length),b[k].lines.length<1000000000000
structure KS (s:Sc) (b:Bs) (id9 id4 id5 id10 idm:Nat) (S:aD):Prop where
 h9:S id9=some (.cells 234 [.mref idm])
 h4:S id4=some (.cells 24 (scC s))
 h5:S id5=some (.cells 27 (bsC b))
 h10:S id10=some (.cells 289 [.fn 240 [.ref id9 0, .ref id4 0, .ref id5 0, .ref id10 0]])
 n9:id9≠idm
 n4:id4≠idm
 n5:id5≠idm
 n10:id10≠idm
theorem azU {s:Sc} {b:Bs} (W:Fol s b) {id9 id4 id5 id10 idm:Nat} {S:aD} (hK:KS s b id9 id4 id5 id10 idm S):∀(n:Nat) (row:R2) (M:List R2),row∈dH b->M.Nodup->(∀y∈M,y∈dH b)->(dH b).length+1<=n+M.length->
  PC Tryz.prog 240 [.agg (r2C row), .ref id9 0, .ref id4 0, .ref id5 0, .ref id10 0] (upd S idm (some (mM M))) λ_ S'=>S'=upd S idm (some (mM (iK s b n row M))):=by
 obtain ⟨h9,h4,h5,h10,n9,n4,n5,n10⟩:=hK
 obtain ⟨m,s16,f16,J,G⟩:=W
 intro n
 induction n with
 |zero=>intro row M hr hn ha hN;exact absurd (uU hn ha) (by omega)
 |succ n ih=>
 intro row M K hn ha hN
 by_cases hm:row∈M
 ·have hg:=akR hm
  have e:iK s b (n+1) row M=M:=zp hm;rw [e];refine pC Tryz.func240 rfl ?_
  (repeat' first|apply aKp pk ayU (f:=bF);(iterate 5 rfl);rotate_left;rfl;exact aA _ _ _;rfl;exact hg|show Cn (.r _ _ _);refine .rr ?_;(rfl);done|apply wZ;rfl|show Cn _;constructor|apply ldR pk;rfl;rfl;rotate_left;rfl;((focus ((repeat (first|assumption|refine (aB ‹_›).trans ?_));done)));rfl;rfl)
 ·have hg:=aeU hm
  have e:iK s b (n+1) row M=goK (iK s b n) s b row.2 (fC s row.1) (M++[row]):=zn hm;rw [e];have hks:=aAu s row.1 s16 f16;have H:(M++[row]).Nodup:=by
   rw [List.nodup_append];exact ⟨hn,by simp,λy hy z hz e=>hm (by rw [zms.1 hz] at e;exact e▸hy)⟩
  have Y:∀y∈M++[row],y∈dH b:=λy hy=>by
   rcases zma.1 hy with q|q
   ·exact ha y q
   ·rw [zms.1 q];exact K
  have hml:(M++[row]).length=M.length+1:=by simp
  have hF:∀x L,x∈dH b->L.Nodup->(∀y∈L,y∈dH b)->(dH b).length+1-n<=L.length->Tk s b (· =x) L (iK s b n x L):=λx L q1 q2 q3 q4=>aeX m n x L q1 q2 q3 (by omega);have Z:∀x∈fC s row.1,x.1<b.length:=λx hx=>by rw [m];exact (nH.1 hx).1
  have hkl:(fC s row.1).length<=256:=Nat.le_trans (acT s row.1 f16 s.length (Nat.le_refl _)) (by omega);have N:StSub (upd S idm (some (mM (goK (iK s b n) s b row.2 ((fC s row.1).take 0) (M++[row]))))) (upd (upd S idm (some (mM M))) idm (some (.map (aX oA bF (cL row true (mE M)))))):=by
   rw [amR hm,eH];exact cM rfl
  refine pC Tryz.func240 rfl ?_
  focus ((repeat' first|apply aKp pk ayU (f:=bF);(iterate 5 rfl);rotate_left;rfl;exact aA _ _ _;rfl;exact hg|apply muA pk ayU (f:=bF);(exact .inr rfl);(iterate 5 rfl);exact aA _ _ _;rfl|(apply Cn.cf;focus ((apply hks);done))|apply wZ;rfl|show Cn _;constructor|apply ldR pk;rfl;rfl;rotate_left;rfl;((focus ((repeat (first|assumption|refine (aB ‹_›).trans ?_));done)));rfl;rfl|apply kE pk 0;(iterate 5 rfl);(focus repeat' constructor);rfl;(intro _;rfl);(intro _;omega);rfl|apply wY;rfl))
  refine aC (X:={x:Nat//x<=(fC s row.1).length}) (λi=>((((((((St.nil 76 (upd S idm (some (mM (goK (iK s b n) s b row.2 ((fC s row.1).take i.1) (M++[row])))))).pv 2 (.ref id4 0)).pv 3 (.ref id5 0)).pv 4 (.ref id10 0)).var 5 236 (r2C row)).pv 21 (.seq ((fC s row.1).map kkC))).pv 22 ((vi ((((fC s row.1).map kkC).length:Nat))))).pv 23 ((vi ((i.1:Nat)))))) (λi=>(fC s row.1).length-i.1) ⟨0,by omega⟩ ?_ (λi=> ?_)
  ·(repeat' first|exact .any N|show Cn _;constructor|exact rfl)
  obtain ⟨i,hi⟩:=i;dsimp only;by_cases D:(fC s row.1).length<=i
  ·rw [ztl D]
   (repeat' first|show Cn (.r _ _ _);refine .rr ?_;(rfl);done|apply wZ;rfl|show Cn _;constructor|simp only [zql];omega|(intro h;simp at h))
  have p:i<(fC s row.1).length:=by omega
  have d:=aJs (F:=iK s b n) (s:=s) (b:=b) (key:=row.2) (M:=M++[row]) p;have hx:=zgm p;obtain ⟨U,T,V⟩:=nH.1 hx;have c:=aiS hF row.2 ((fC s row.1).take i) (M++[row]) (λx hx=>Z x (List.mem_of_mem_take hx)) H Y (by omega);have hll:=c.len H;have P:=c.nd;have hta:=c.all;clear c;generalize hMi:goK (iK s b n) s b row.2 ((fC s row.1).take i) (M++[row])=B at*;obtain ⟨⟨k,q⟩,R⟩:∃x,(fC s row.1)[i]=x:=⟨_,rfl⟩;rw [R] at d U T V;simp only at U T V d;have E:((fC s row.1).map kkC)[i]?=some (kkC (k,q)):=by rw [List.getElem?_map,zgg p,R];rfl
  have a:k<b.length:=by omega
  rw [getElem!_pos s k U] at T V d;rw [getElem!_pos s[k].foreign q T] at V d;rw [getElem!_pos b k a] at d;have C:=J k U _ (zgm T);rw [getElem!_pos b k a] at C;have hlb:=G k a;by_cases j:s[k].foreign[q].act=1
  ·rw [zp j] at d
   focus ((repeat' first|apply wD pk [] [1];kernel_rfl;rfl;rfl|apply wZ;rfl|show Cn _;constructor|exact rfl|apply dM pk;(iterate 6 rfl);rotate_left;rfl;(intro hw;rfl);(intro hw;apply E<;>omega);(intro _;rfl);rfl|apply ldR pk;rfl;rfl;rotate_left;rfl;((focus ((repeat (first|assumption|refine (aB ‹_›).trans ?_));done)));rfl;rfl|apply kE pk 0;(iterate 5 rfl);(focus repeat' constructor);rfl;(intro _;rfl);(intro _;omega);rfl|apply kE pk 1;(iterate 5 rfl);(focus repeat' constructor);rfl;(intro _;rfl);(intro _;omega);rfl|apply wI;rfl|apply gE;omega|simp only [zql];omega|(intro h;simp at h)))
   have w:StSub (upd S idm (some (mM (goL (iK s b n) s[k].foreign[q].col row.2 k (b[k].lines.take 0) B)))) (upd S idm (some (mM B))):=cM rfl;refine aC (X:={x:Nat//x<=b[k].lines.length}) (λy=>(((((((((((((St.nil 76 (upd S idm (some (mM (goL (iK s b n) s[k].foreign[q].col row.2 k (b[k].lines.take y.1) B))))).pv 2 (.ref id4 0)).pv 3 (.ref id5 0)).pv 4 (.ref id10 0)).var 5 236 (r2C row)).var 7 236 (kkC (k,q))).var 8 66 (s[k].foreign[q].cells)).pv 21 (.seq ((fC s row.1).map kkC))).pv 22 ((vi ((((fC s row.1).map kkC).length:Nat))))).pv 23 ((vi ((i:Nat))))).pv 47 (.seq (b[k].lines.map Ln.cells))).pv 48 ((vi (((b[k].lines.map Ln.cells).length:Nat))))).pv 49 ((vi ((y.1:Nat)))))) (λy=>b[k].lines.length-y.1) ⟨0,by omega⟩ ?_ (λy=> ?_)
   ·(repeat' first|exact .any w|show Cn _;constructor|exact rfl)
   obtain ⟨y,hy⟩:=y;dsimp only;by_cases o:b[k].lines.length<=y
   ·rw [ztl o]
    (repeat' first|refine ⟨⟨i+1,by omega⟩, ?_, ?_⟩;((dsimp only;try rw [d]))|apply wZ;rfl|show Cn _;constructor|exact rfl|omega|simp only [zql];omega|(intro h;simp at h))
   have A:y<b[k].lines.length:=by omega
   have g:=aIU (F:=iK s b n) (col:=s[k].foreign[q].col) (key:=row.2) (k:=k) (M:=B) A;have hp:=gM b[k].lines[y] s[k].foreign[q].col (C _ (zgm A));have c:=aiZ hF s[k].foreign[q].col row.2 k (b[k].lines.take y) B (λl hl=>fZ.2 ⟨k,a,l,by rw [getElem!_pos b k a];exact List.mem_of_mem_take hl,rfl⟩) P hta (by omega);have hl2:=c.len P;have Q:=c.nd;have O:=c.all;clear c;generalize hMy:goL (iK s b n) s[k].foreign[q].col row.2 k (b[k].lines.take y) B=My at*;have u:((k:Int),b[k].lines[y].key)∈dH b:=fZ.2 ⟨k,a,b[k].lines[y],by rw [getElem!_pos b k a];exact zgm A,rfl⟩;have hC:=ih ((k:Int),b[k].lines[y].key) My u Q O (by omega);cases I:ptP b[k].lines[y] s[k].foreign[q].col with
   |none=>
    rw [I] at hp g;rw [zn (by simp)] at g
    (repeat' first|(apply Cn.cf;focus ((apply hp);done))|refine ⟨⟨y+1,by omega⟩, ?_, ?_⟩;((dsimp only;try rw [g]))|show Cn (.t _ _);exact Cn.t0|apply wZ;rfl|show Cn _;constructor|exact rfl|apply kE pk 1;(iterate 5 rfl);(focus repeat' constructor);rfl;(intro _;rfl);(intro _;omega);rfl|apply wY;rfl|apply wI;rfl|apply gE;omega|omega|simp only [zql];omega|(intro h;simp at h))
   |some v=>
    rw [I] at hp g;by_cases hv:v=row.2
    ·subst hv
     rw [zp rfl] at g
     (repeat' first|(apply Cn.cf;focus ((apply hp);done))|(apply cP;rfl;(apply hC);rintro _ st' (rfl))|refine ⟨⟨y+1,by omega⟩, ?_, ?_⟩;((dsimp only;try rw [g]))|show Cn (.t _ _);exact Cn.t0|apply wZ;rfl|show Cn _;constructor|exact rfl|apply ldR pk;rfl;rfl;rotate_left;rfl;((focus ((repeat (first|assumption|refine (aB ‹_›).trans ?_));done)));rfl;rfl|apply kE pk 0;(iterate 5 rfl);(focus repeat' constructor);rfl;(intro _;rfl);(intro _;omega);rfl|apply kE pk 1;(iterate 5 rfl);(focus repeat' constructor);rfl;(intro _;rfl);(intro _;omega);rfl|apply wY;rfl|apply wI;rfl|apply gE;omega|omega|simp only [zql];omega|intro h;simp at h;done|(intro h;simp at h))
    ·rw [zn (by simpa using hv)] at g
     (repeat' first|(apply Cn.cf;focus ((apply hp);done))|refine ⟨⟨y+1,by omega⟩, ?_, ?_⟩;((dsimp only;try rw [g]))|show Cn (.t _ _);exact Cn.t0|apply wZ;rfl|show Cn _;constructor|exact rfl|apply kE pk 1;(iterate 5 rfl);(focus repeat' constructor);rfl;(intro _;rfl);(intro _;omega);rfl|apply wY;rfl|apply wI;rfl|apply gE;omega|omega|simp only [zql];omega|intro h;simp at h;omega|(intro h;simp at h))
  ·rw [zn j] at d
   (repeat' first|apply wD pk [] [1];kernel_rfl;rfl;rfl|refine ⟨⟨i+1,by omega⟩, ?_, ?_⟩;((dsimp only;try rw [d]))|show Cn (.t _ _);exact Cn.t0|apply wZ;rfl|show Cn _;constructor|exact rfl|apply dM pk;(iterate 6 rfl);rotate_left;rfl;(intro hw;rfl);(intro hw;apply E<;>omega);(intro _;rfl);rfl|apply ldR pk;rfl;rfl;rotate_left;rfl;((focus ((repeat (first|assumption|refine (aB ‹_›).trans ?_));done)));rfl;rfl|apply kE pk 0;(iterate 5 rfl);(focus repeat' constructor);rfl;(intro _;rfl);(intro _;omega);rfl|apply kE pk 1;(iterate 5 rfl);(focus repeat' constructor);rfl;(intro _;rfl);(intro _;omega);rfl|apply wI;rfl|apply gE;omega|omega|simp only [zql];omega|(intro h;simp at h))
def uO (b:Bs) (z:R2):Bool:=(aY (aF b z.1) z.2).isSome
theorem nT {b:Bs} {z:R2}:uO b z=true↔z∈dH b:=by
 unfold uO;rw [fZ];constructor
 ·intro h
  obtain ⟨x,hx⟩:=Option.isSome_iff_exists.1 h;have a:=List.mem_of_find?_eq_some hx;have c:x.key=z.2:=by simpa using List.find?_some hx
  cases hk:okT b z.1 with
  |false=>rw [aoH hk] at a;cases a
  |true=>
   have e:aF b z.1=b[z.1.toNat]!.lines:=by unfold aF;rw [zp hk]
   simp only [okT,zba,zde] at hk;rw [e] at a;exact ⟨z.1.toNat,by omega,x,a,Prod.ext (by show z.1=_;omega) c.symm⟩
 ·rintro ⟨k,hk,l,hl,rfl⟩
  have e:aF b (k:Int)=b[k]!.lines:=by
   unfold aF;rw [zp (by simp [okT];omega),Int.toNat_natCast]
  show (aY (aF b (k:Int)) l.key).isSome=true;rw [e];unfold aY;rw [List.find?_isSome];exact ⟨l,hl,by simp⟩
def lI (s:Sc) (b:Bs) (z:R2):List R2:=if uO b z=true then aI8 s b z else []
def aHi (s:Sc) (b:Bs) (z:R2):PV:= .fmap (aX oA bF (mE (lI s b z)))
theorem aeZ {st:aD} {i j k l m:Nat} {a b c d:AObj} (I:st i=none) (G:upd st i (some a) j=none) (H:upd (upd st i (some a)) j (some b) k=none) (h4:upd (upd (upd st i (some a)) j (some b)) k (some c) l=none) (h5:upd (upd (upd (upd st i (some a)) j (some b)) k (some c)) l (some d) m=none):
  (j≠i/\k≠i/\l≠i/\m≠i)/\(k≠j/\l≠j/\m≠j)/\(l≠k/\m≠k)/\m≠l/\st j=none/\st k=none/\st l=none/\st m=none:=by
 have g:∀{f:aD} {x y:Nat} {o:AObj},upd f x (some o) y=none->y≠x/\f y=none:=fun {f x y o} h=>by
  by_cases e:y=x
  ·rw [e,aA] at h;cases h
  ·exact ⟨e,by rwa [aB e] at h⟩
 obtain ⟨n,p⟩:=g G
 obtain ⟨b1,b2⟩:=g H
 obtain ⟨q,r⟩:=g b2
 obtain ⟨c1,c2⟩:=g h4
 obtain ⟨t,u⟩:=g c2
 obtain ⟨c5,v⟩:=g u
 obtain ⟨w,z⟩:=g h5
 obtain ⟨A,B⟩:=g z
 obtain ⟨C,D⟩:=g B
 obtain ⟨E,F⟩:=g D
 exact ⟨⟨n,q,c5,E⟩,⟨b1,t,C⟩,⟨c1,A⟩,w,p,r,v,F⟩
theorem aGk {f:aD} {i:Nat} {x:Option AObj} (h:f i=x):upd f i x=f:=by
 funext j
 by_cases e:j=i
 ·subst e;rw [aA,h]
 ·rw [aB e]
structure KB (s:Sc) (b:Bs) (st:aD) (idm id9 id4 id5 id10:Nat):Prop where
 one:KS s b id9 id4 id5 id10 idm (upd (upd (upd (upd (upd (upd st idm (some (mM []))) id9 (some (.cells 234 [.mref idm]))) id4 (some (.cells 24 (scC s)))) id5 (some (.cells 27 (bsC b)))) id10 (some (.cells 289 [.val .nilFunc]))) id10 (some (.cells 289 [.fn 240 [.ref id9 0, .ref id4 0, .ref id5 0, .ref id10 0]])))
 two:upd (upd (upd (upd (upd (upd (upd st idm (some (mM []))) id9 (some (.cells 234 [.mref idm]))) id4 (some (.cells 24 (scC s)))) id5 (some (.cells 27 (bsC b)))) id10 (some (.cells 289 [.val .nilFunc]))) id10 (some (.cells 289 [.fn 240 [.ref id9 0, .ref id4 0, .ref id5 0, .ref id10 0]]))) idm (some (mM []))=upd (upd (upd (upd (upd (upd st idm (some (mM []))) id9 (some (.cells 234 [.mref idm]))) id4 (some (.cells 24 (scC s)))) id5 (some (.cells 27 (bsC b)))) id10 (some (.cells 289 [.val .nilFunc]))) id10 (some (.cells 289 [.fn 240 [.ref id9 0, .ref id4 0, .ref id5 0, .ref id10 0]]))
 three:(upd (upd (upd (upd (upd (upd st idm (some (mM []))) id9 (some (.cells 234 [.mref idm]))) id4 (some (.cells 24 (scC s)))) id5 (some (.cells 27 (bsC b)))) id10 (some (.cells 289 [.val .nilFunc]))) id10 (some (.cells 289 [.fn 240 [.ref id9 0, .ref id4 0, .ref id5 0, .ref id10 0]]))) idm=some (mM [])
theorem aHU (s:Sc) (b:Bs) (st:aD) {idm id9 id4 id5 id10:Nat} (m1:id9≠idm) (e:id4≠idm) (f:id5≠idm) (c:id10≠idm) (i:id4≠id9) (j:id5≠id9) (g:id10≠id9) (k:id5≠id4) (h:id10≠id4) (a:id10≠id5):KB s b st idm id9 id4 id5 id10:=by
 have d:(upd (upd (upd (upd (upd (upd st idm (some (mM []))) id9 (some (.cells 234 [.mref idm]))) id4 (some (.cells 24 (scC s)))) id5 (some (.cells 27 (bsC b)))) id10 (some (.cells 289 [.val .nilFunc]))) id10 (some (.cells 289 [.fn 240 [.ref id9 0, .ref id4 0, .ref id5 0, .ref id10 0]]))) idm=some (mM []):=(aB (Ne.symm c)).trans ((aB (Ne.symm c)).trans ((aB (Ne.symm f)).trans ((aB (Ne.symm e)).trans ((aB (Ne.symm m1)).trans (aA _ _ _)))));exact ⟨⟨(aB (Ne.symm g)).trans ((aB (Ne.symm g)).trans ((aB (Ne.symm j)).trans ((aB (Ne.symm i)).trans (aA _ _ _)))),(aB (Ne.symm h)).trans ((aB (Ne.symm h)).trans ((aB (Ne.symm k)).trans (aA _ _ _))),(aB (Ne.symm a)).trans ((aB (Ne.symm a)).trans (aA _ _ _)),aA _ _ _,m1,e,f,c⟩,aGk d,d⟩
theorem aEw {s:Sc} {b:Bs} {st:aD} {idm id9 id4 id5 id10:Nat} {x:Option AObj} (h0:st idm=none) (h9:st id9=none) (h4:st id4=none) (h5:st id5=none) (h10:st id10=none):StSub st (upd (upd (upd (upd (upd (upd (upd (upd st idm (some (mM []))) id9 (some (.cells 234 [.mref idm]))) id4 (some (.cells 24 (scC s)))) id5 (some (.cells 27 (bsC b)))) id10 (some (.cells 289 [.val .nilFunc]))) id10 (some (.cells 289 [.fn 240 [.ref id9 0, .ref id4 0, .ref id5 0, .ref id10 0]]))) idm x) idm none):=λj=>by
 cases hj:st j with
 |none=>exact .inl rfl
 |some o=>
  right;have q:∀{i:Nat},st i=none->j≠i:=fun {i} hi e=>by subst e;rw [hi] at hj;cases hj
  rw [aB (q h0),aB (q h0),aB (q h10),aB (q h10),aB (q h5),aB (q h4),aB (q h9),aB (q h0),hj]
theorem alO {s:Sc} {b:Bs} (u:Fol s b) (hl:∀d∈b,d.lines.length<100000000000) (z:R2):PF Tryz.prog 176 [.agg (scC s), .agg (bsC b),(vi (z.1)),(vi (z.2))] (aHi s b z):=by
 have hg:=wG b z.1 z.2 hl;rw [aaX] at hg;unfold aHi lI;by_cases hz:uO b z=true
 ·rw [zp hz]
  have t:=nT.1 hz;unfold uO at hz;rw [hz] at hg;refine pF Tryz.func176 rfl (λst=> ?_)
  focus ((repeat' first|(apply mkM (enc:=oA) (f:=bF);rfl;intro idm c)|apply wZ;rfl|show Cn _;constructor|apply stR pk;rfl;rfl;(exact aA _ _ _);rfl;rfl|(apply fO 9;rfl;rfl;intro id9 h)|(apply fO 4;rfl;rfl;intro id4 e)|(apply fO 5;rfl;rfl;intro id5 g)|(apply fO 10;rfl;rfl;intro id10 a)))
  obtain ⟨⟨m1,C,D,E⟩,⟨F,G,H⟩,⟨I,J⟩,l,f9,r,f5,j⟩:=aeZ c h e g a;have q:st idm=none:=c;have p:st id9=none:=f9;have n:st id4=none:=r;have o:st id5=none:=f5;have k:st id10=none:=j;clear c h e g a f9 r f5 j;have m:=aHU s b st m1 C D E F G H I J l;have K:=azU u m.one ((dH b).length+1) z [] t List.nodup_nil (by simp) (by simp);have v:=m.one.h9;have y:=Ne.symm l;rw [m.two] at K;have i:=aEw (s:=s) (b:=b) (x:=some (mM (iK s b ((dH b).length+1) z []))) q p n o k;have A:=m.one.n9
  (repeat' first|apply pL 28;rfl;exact aA _ _ _|exact Cn.any ⟨_,_,st,rfl,zwr _,i,rfl,rfl⟩|(apply Cn.cf;focus ((apply hg);done))|(apply cP;rfl;(apply K);rintro _ st' (rfl))|apply wZ;rfl|show Cn _;constructor|apply ldR pk;rfl;rfl;rotate_left;rfl;(first|exact aA _ _ _|(focus ((repeat (first|exact aA _ _ _|assumption|refine (aB ‹_›).trans ?_));done)));rfl;rfl|apply wY;rfl)
 ·have B:(aY (aF b z.1) z.2).isSome=false:=by simpa [uO] using hz
  rw [zn hz];rw [B] at hg;refine pF Tryz.func176 rfl (λst=> ?_)
  focus ((repeat' first|(apply mkM (enc:=oA) (f:=bF);rfl;intro idm c)|apply wZ;rfl|show Cn _;constructor|apply stR pk;rfl;rfl;(exact aA _ _ _);rfl;rfl|(apply fO 9;rfl;rfl;intro id9 h)|(apply fO 4;rfl;rfl;intro id4 e)|(apply fO 5;rfl;rfl;intro id5 g)|(apply fO 10;rfl;rfl;intro id10 a)))
  obtain ⟨⟨m1,C,D,E⟩,⟨F,G,H⟩,⟨I,J⟩,l,f9,r,f5,j⟩:=aeZ c h e g a;have q:st idm=none:=c;have p:st id9=none:=f9;have n:st id4=none:=r;have o:st id5=none:=f5;have k:st id10=none:=j;clear c h e g a f9 r f5 j;have m:=aHU s b st m1 C D E F G H I J l;have v:=m.one.h9;have y:=Ne.symm l;have w:=m.three;have i:=aEw (s:=s) (b:=b) (x:=some (mM [])) q p n o k;rw [m.two] at i;have A:=m.one.n9
  (repeat' first|apply pL 28;rfl;exact w|exact Cn.any ⟨_,_,st,rfl,zwr _,i,rfl,rfl⟩|(apply Cn.cf;focus ((apply hg);done))|apply wZ;rfl|show Cn _;constructor|apply ldR pk;rfl;rfl;rotate_left;rfl;(first|assumption|(focus ((repeat (first|exact aA _ _ _|refine (aB ‹_›).trans ?_));done)));rfl;rfl|apply wY;rfl)
end
end Go.Proofs.YtfablfldonhkiaaGreatDoor
