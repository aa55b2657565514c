import Derived.Test.YtnogfoojjaainaaGreatDoorClAd
import Derived.Test.YtnogfoojjaainaaGreatDoorAbsK
import Derived.Test.YtnogfoojjaainaaGreatDoorAbsJ
import Derived.Test.YtnogfoojjaainaaGreatDoorClAa
import Derived.Test.YtnogfoojjaainaaGreatDoorAbsSort
import Derived.Test.YtnogfoojjaainaaGreatDoorAbsG
set_option linter.unusedSimpArgs false
set_option linter.unusedVariables false
namespace Go.Proofs.YtnogfoojjaainaaGreatDoor
open Go Go.Abs
section
set_option maxRecDepth 10000
set_option maxHeartbeats 4000000
abbrev R2 :=Int×Int
def r2C(r:R2):List PV:=[vi r.1,vi r.2]
def ptP(l:Ln)(c:Int):Option Int:=if 0<=c/\c<l.cells_.length then(if l.cells_[c.toNat]!.val.kind=1 then some l.cells_[c.toNat]!.val.n else none)else none
def eH(G:R2->Bool)(l:Ln)(f:Fr):Bool:=match ptP l f.col with
 |some k=>G (f.table,k)
 |none=>false
theorem aDp{G:R2->Bool}{l:Ln}{f:Fr}:eH G l f=true↔∃k,ptP l f.col=some k/\G (f.table,k)=true:=by
 unfold eH;cases ptP l f.col<;>simp
def chB(s:Sc)(b:Bs)(x y:R2):Prop:=∃k,k<b.length/\∃f∈s[k]!.foreign,∃l∈b[k]!.lines,f.table=x.1/\f.act=1/\ptP l f.col=some x.2/\y=((k:Int),l.key)
def aHX(b:Bs)(k:Nat):List R2:=b[k]!.lines.map λl=>((k:Int),l.key)
def eJ(b:Bs):List R2:=(List.range b.length).flatMap (aHX b)
theorem sP{b:Bs}{y:R2}:y∈eJ b↔∃k,k<b.length/\∃l∈b[k]!.lines,y=((k:Int),l.key):=by
 simp only[eJ,aHX,List.mem_flatMap,List.mem_range,List.mem_map];exact⟨λ⟨k,hk,l,hl,e⟩=>⟨k,hk,l,hl,e.symm⟩,λ⟨k,hk,l,hl,e⟩=>⟨k,hk,l,hl,e.symm⟩⟩
inductive Reach (s:Sc) (b:Bs) (x:R2):R2->Prop
 |refl:Reach s b x x
 |step {y z:R2} (h:Reach s b x y) (c:chB s b y z):Reach s b x z
variable{s:Sc}{b:Bs}
theorem Reach.head{x y z:R2}(c:chB s b x y)(h:Reach s b y z):Reach s b x z:=by
 induction h with
 |refl=>exact .step .refl c
 |step _ c2 ih=>exact .step ih c2
def aHt(s:Sc)(a:Int)(k:Nat):List (Nat×Nat):=((List.range s[k]!.foreign.length).filter λi=>decide (s[k]!.foreign[i]!.table=a)).map λi=>(k,i)
def fA(s:Sc)(a:Int):List (Nat×Nat):=(List.range s.length).flatMap (aHt s a)
theorem nG{a:Int}{x:Nat×Nat}:x∈fA s a↔x.1<s.length/\x.2<s[x.1]!.foreign.length/\s[x.1]!.foreign[x.2]!.table=a:=by
 simp only[fA,aHt,List.mem_flatMap,List.mem_range,List.mem_map,List.mem_filter,zde];constructor
 ·rintro⟨k,hk,i,⟨hi,e⟩,rfl⟩
  exact⟨hk,hi,e⟩
 ·rintro⟨c,f,g⟩
  exact⟨x.1,c,x.2,⟨f,g⟩,rfl⟩
def goL(F:R2->List R2->List R2)(col key:Int)(k:Nat)(a:List Ln)(M:List R2):List R2:=a.foldl (λM l=>if ptP l col=some key then F ((k:Int),l.key) M else M) M
def goK(F:R2->List R2->List R2)(s:Sc)(b:Bs)(key:Int)(a:List (Nat×Nat))(M:List R2):List R2:=
 a.foldl (λM x=>if s[x.1]!.foreign[x.2]!.act=1 then goL F s[x.1]!.foreign[x.2]!.col key x.1 b[x.1]!.lines M else M) M
def iS(s:Sc)(b:Bs):Nat->R2->List R2->List R2
 |0,_,M=>M
 |n+1,x,M=>if x∈M then M else goK (iS s b n) s b x.2 (fA s x.1) (M++[x])
structure Tk (s:Sc) (b:Bs) (C:R2->Prop) (M M':List R2):Prop where
 sub:∀y∈M,y∈M'
 nd:M'.Nodup
 all:∀y∈M',y∈eJ b
 new:∀y∈M',y∈M\/∃c,C c/\Reach s b c y
 clo:∀y∈M',y∈M\/∀c,chB s b y c->c∈M'
 me:∀c,C c->c∈M'
theorem Tk.refl{C:R2->Prop}{M:List R2}(hn:M.Nodup)(ha:∀y∈M,y∈eJ b)(a:∀c,C c->c∈M):Tk s b C M M:=⟨λ_ h=>h,hn,ha,λ_ h=> .inl h,λ_ h=> .inl h,a⟩
theorem Tk.trans{C D:R2->Prop}{M a e:List R2}(h:Tk s b C M a)(k:Tk s b D a e):Tk s b (λc=>C c\/D c) M e where
 sub y hy:=k.sub y (h.sub y hy)
 nd:=k.nd
 all:=k.all
 new y hy:=by
  rcases k.new y hy with q|⟨c,q,r⟩
  ·rcases h.new y q with q|⟨c,q,r⟩
   ·exact .inl q
   ·exact .inr ⟨c, .inl q,r⟩
  ·exact .inr ⟨c, .inr q,r⟩
 clo y hy:=by
  rcases k.clo y hy with q|q
  ·rcases h.clo y q with q|q
   ·exact .inl q
   ·exact .inr λc hc=>k.sub c (q c hc)
  ·exact .inr q
 me c hc:=by
  rcases hc with q|q
  ·exact k.sub c (h.me c q)
  ·exact k.me c q
theorem Tk.imp{C D:R2->Prop}{M M':List R2}(h:Tk s b C M M')(hd:∀c,C c↔D c):Tk s b D M M':=
 ⟨h.sub,h.nd,h.all,λy hy=>(h.new y hy).imp id λ⟨c,q,r⟩=>⟨c,(hd c).1 q,r⟩,h.clo,λc hc=>h.me c ((hd c).2 hc)⟩
theorem vF :∀{M A:List R2},M.Nodup->(∀y∈M,y∈A)->M.length<=A.length
 |[],_,_,_=>Nat.zero_le _
 |x::M,A,hn,hs=>by
  obtain⟨a,c⟩:=List.nodup_cons.1 hn
  have hx:=hs x (by simp)
  have:=vF (A:=A.erase x) c λy hy=>(List.mem_erase_of_ne λe=>a (by rw[<-e];exact hy)).2 (hs y (by simp[hy]))
  rw[List.length_erase_of_mem hx]at this
  have:=List.length_pos_of_mem hx
  simp only[zlc];omega
theorem Tk.len{C:R2->Prop}{M M':List R2}(h:Tk s b C M M')(hn:M.Nodup):M.length<=M'.length:=vF hn h.sub
theorem akA{F:R2->List R2->List R2}{N:Nat}(g:∀x M,x∈eJ b->M.Nodup->(∀y∈M,y∈eJ b)->N<=M.length->Tk s b (· =x) M (F x M))(col key:Int)(k:Nat):∀(a:List Ln)(M:List R2),(∀l∈a,((k:Int),l.key)∈eJ b)->M.Nodup->(∀y∈M,y∈eJ b)->N<=M.length->
  Tk s b (λc=>∃l∈a,ptP l col=some key/\c=((k:Int),l.key)) M (goL F col key k a M)
 |[],M,_,hn,ha,_=> .refl hn ha λc h=>by obtain⟨l,h,_⟩:=h;cases h
 |l::a,M,hl,hn,ha,hN=>by
  unfold goL
  rw[List.foldl_cons]
  by_cases hp:ptP l col=some key
  ·rw[zp hp]
   have f:=g _ M (hl l (by simp)) hn ha hN;have i:=akA g col key k a _ (λx hx=>hl x (by simp[hx])) f.nd f.all (Nat.le_trans hN (f.len hn));refine(f.trans i).imp λc=>?_;constructor
   ·rintro(rfl|⟨x,hx,q,e⟩)
    ·exact⟨l,by simp,hp,rfl⟩
    ·exact⟨x,by simp[hx],q,e⟩
   ·rintro⟨x,hx,q,e⟩
    rcases zmc.1 hx with rfl|hx
    ·exact .inl e
    ·exact .inr ⟨x,hx,q,e⟩
  ·rw[zn hp]
   refine(akA g col key k a _ (λx hx=>hl x (by simp[hx])) hn ha hN).imp λc=>?_;constructor
   ·rintro⟨x,hx,q,e⟩
    exact⟨x,by simp[hx],q,e⟩
   ·rintro⟨x,hx,q,e⟩
    rcases zmc.1 hx with rfl|hx
    ·exact absurd q hp
    ·exact⟨x,hx,q,e⟩
theorem ajT{F:R2->List R2->List R2}{N:Nat}(e:∀x M,x∈eJ b->M.Nodup->(∀y∈M,y∈eJ b)->N<=M.length->Tk s b (· =x) M (F x M))(key:Int):∀(ks:List (Nat×Nat))(M:List R2),(∀x∈ks,x.1<b.length)->M.Nodup->(∀y∈M,y∈eJ b)->N<=M.length->
  Tk s b (λc=>∃x∈ks,s[x.1]!.foreign[x.2]!.act=1/\∃l∈b[x.1]!.lines,ptP l s[x.1]!.foreign[x.2]!.col=some key/\c=((x.1:Int),l.key)) M (goK F s b key ks M)
 |[],M,_,hn,ha,_=> .refl hn ha λc h=>by obtain⟨x,h,_⟩:=h;cases h
 |x::ks,M,hk,hn,ha,hN=>by
  unfold goK
  rw[List.foldl_cons]
  by_cases hp:s[x.1]!.foreign[x.2]!.act=1
  ·rw[zp hp]
   have a:=akA e s[x.1]!.foreign[x.2]!.col key x.1 b[x.1]!.lines M (λl hl=>sP.2 ⟨x.1,hk x (by simp),l,hl,rfl⟩) hn ha hN;have f:=ajT e key ks _ (λx hx=>hk x (by simp[hx])) a.nd a.all (Nat.le_trans hN (a.len hn));refine(a.trans f).imp λc=>?_;constructor
   ·rintro(q|⟨y,hy,q⟩)
    ·exact⟨x,by simp,hp,q⟩
    ·exact⟨y,by simp[hy],q⟩
   ·rintro⟨y,hy,q,r⟩
    rcases zmc.1 hy with rfl|hy
    ·exact .inl r
    ·exact .inr ⟨y,hy,q,r⟩
  ·rw[zn hp]
   refine(ajT e key ks _ (λx hx=>hk x (by simp[hx])) hn ha hN).imp λc=>?_;constructor
   ·rintro⟨y,hy,q⟩
    exact⟨y,by simp[hy],q⟩
   ·rintro⟨y,hy,q,r⟩
    rcases zmc.1 hy with rfl|hy
    ·exact absurd q hp
    ·exact⟨y,hy,q,r⟩
theorem aIn(hb:b.length=s.length)(x c:R2):(∃y∈fA s x.1,s[y.1]!.foreign[y.2]!.act=1/\∃l∈b[y.1]!.lines,ptP l s[y.1]!.foreign[y.2]!.col=some x.2/\c=((y.1:Int),l.key))↔chB s b x c:=by
 constructor
 ·rintro⟨y,hy,g,l,hl,h,e⟩
  obtain⟨o,j,n⟩:=nG.1 hy;exact⟨y.1,by omega,s[y.1]!.foreign[y.2]!,by rw[getElem!_pos s[y.1]!.foreign y.2 j];exact zgm j,l,hl,n,g,h,e⟩
 ·rintro⟨k,hk,f,hf,l,hl,g,h,m,e⟩
  obtain⟨i,hi,rfl⟩:=zgo hf;have a:s[k]!.foreign[i]! =s[k]!.foreign[i]:=getElem!_pos ..;exact⟨(k,i),nG.2 ⟨by omega,hi,by rw[a];exact g⟩,by rw[a];exact h,l,hl,by rw[a];exact m,e⟩
theorem afY(hb:b.length=s.length):∀(n:Nat)(x:R2)(M:List R2),x∈eJ b->M.Nodup->(∀y∈M,y∈eJ b)->(eJ b).length+1<=n+M.length->Tk s b (· =x) M (iS s b n x M)
 |0,x,M,_,hn,ha,hN=>by have:=vF hn ha;omega
 |n+1,x,M,hx,hn,ha,hN=>by
  unfold iS
  by_cases hm:x∈M
  ·rw[zp hm]
   exact .refl hn ha λc h=>h▸hm
  ·rw[zn hm]
   have f:(M++[x]).Nodup:=by
    rw[List.nodup_append];exact⟨hn,by simp,λy hy z hz e=>hm (by rw[zms.1 hz]at e;exact e▸hy)⟩
   have a:∀y∈M++[x],y∈eJ b:=λy hy=>by
    rcases zma.1 hy with q|q
    ·exact ha y q
    ·rw[zms.1 q];exact hx
   have h:=(ajT (s:=s) (N:=(eJ b).length+1-n) (λy L g i j k=>afY hb n y L g i j (by omega)) x.2 (fA s x.1) (M++[x]) (λy hy=>by rw[hb];exact(nG.1 hy).1) f a (by simp;omega)).imp (aIn hb x);refine⟨λy hy=>h.sub y (by simp[hy]),h.nd,h.all,λy hy=>?_,λy hy=>?_,λc hc=>h.sub c (by simp[hc])⟩
   ·rcases h.new y hy with q|⟨c,q,r⟩
    ·rcases zma.1 q with q|q
     ·exact .inl q
     ·exact .inr ⟨x,rfl,by rw[zms.1 q];exact .refl⟩
    ·exact .inr ⟨x,rfl, .head q r⟩
   ·rcases h.clo y hy with q|q
    ·rcases zma.1 q with q|q
     ·exact .inl q
     ·rw[zms.1 q];exact .inr λc hc=>h.me c hc
    ·exact .inr q
def aKD(s:Sc)(b:Bs)(z:R2):List R2:=iS s b ((eJ b).length+1) z []
theorem aIv(hb:b.length=s.length){z:R2}(hz:z∈eJ b):Tk s b (· =z) [] (aKD s b z):=afY hb _ z [] hz List.nodup_nil (by simp) (by simp)
def inR(rows:List R2)(r:R2):Bool:=decide (r∈rows)
end
section
attribute [local irreducible] Ev PWp
set_option maxRecDepth 10000
set_option maxHeartbeats 4000000
theorem aHa :Tryz.prog.bytesOf 235=16:=by kernel_rfl
theorem aFL :Tryz.prog.cellsOf 235=2:=by kernel_rfl
theorem alE{l:Ln}{j:Nat}(h:j<l.cells_.length):ptP l j=if l.cells_[j].val.kind=1 then some l.cells_[j].val.n else none:=by
 unfold ptP;rw[zp ⟨by omega,by omega⟩,Int.toNat_natCast,getElem!_pos l.cells_ j h]
theorem acK{l:Ln}{c:Int}(h:¬(0<=c/\c<l.cells_.length)):ptP l c=none:=by unfold ptP;rw[zn h]
def eV(l:Ln)(c:Int):Prop:=∀j (h:j<l.cells_.length),(j:Int)=c->l.cells_[j].kind=0
def ptR(o:Option Int):PV:= .tup [vi (o.getD 0),vb o.isSome]
theorem gV(l:Ln)(c:Int)(h:eV l c):PF Tryz.prog 45 [.agg l.cells,vi c] (ptR (ptP l c)):=by
 by_cases hc:0<=c/\c<l.cells_.length
 ·obtain⟨j,rfl⟩:∃j:Nat,c=j:=⟨c.toNat,by omega⟩
  have hj:j<l.cells_.length:=by omega
  have hs:=asB l.cells_[j] (h j hj rfl);rw[alE hj];by_cases hk:l.cells_[j].val.kind=1;rw[zp hk];refine pF Tryz.func45 rfl λst=>?_;rotate_left;rw[zn hk];refine pF Tryz.func45 rfl λst=>?_;rotate_left
  all_goals (repeat' first|apply wZ;rfl|show Cn _;constructor|exact rfl|apply hs|apply wY;rfl|apply wI;rfl|apply gE;omega|omega|simp only[zql];omega|intro h;simp at h|intro h)
 ·rw[acK hc]
  refine pF Tryz.func45 rfl λst=>?_
  repeat' first|apply wZ;rfl|show Cn _;constructor|exact rfl|intro h;simp at h;omega|intro h;simp at h
theorem apP(c:Cl)(h:c.kind=0):PF Tryz.prog 170 [.agg c.cells] (.agg c.val.cells):=by
 refine pF Tryz.func170 rfl λst=>?_
 repeat' first|apply wZ;rfl|show Cn _;constructor|exact rfl|omega|intro h
theorem alU(l:Ln)(c:Int)(h:eV l c):PF Tryz.prog 94 [.agg l.cells,vi c] (ptR (ptP l c)):=by
 by_cases hc:0<=c/\c<l.cells_.length
 ·obtain⟨j,rfl⟩:∃j:Nat,c=j:=⟨c.toNat,by omega⟩
  have hj:j<l.cells_.length:=by omega
  have hs:=apP l.cells_[j] (h j hj rfl);rw[alE hj];by_cases hk:l.cells_[j].val.kind=1;rw[zp hk];refine pF Tryz.func94 rfl λst=>?_;rotate_left;rw[zn hk];refine pF Tryz.func94 rfl λst=>?_;rotate_left
  all_goals (repeat' first|apply wZ;rfl|show Cn _;constructor|exact rfl|apply hs|apply wY;rfl|apply wI;rfl|apply gE;omega|omega|simp only[zql];omega|intro h;simp at h|intro h)
 ·rw[acK hc]
  refine pF Tryz.func94 rfl λst=>?_
  repeat' first|apply wZ;rfl|show Cn _;constructor|exact rfl|intro h;simp at h;omega|intro h;simp at h
theorem aiN{G:R2->Bool}{l:Ln}{f:Fr}{k:Int}(h:ptP l f.col=some k):eH G l f=G (f.table,k):=by unfold eH;rw[h]
theorem aiV{G:R2->Bool}{l:Ln}{f:Fr}(h:ptP l f.col=none):eH G l f=false:=by unfold eH;rw[h]
def kkC(x:Nat×Nat):List PV:=[vi (x.1:Nat),vi (x.2:Nat)]
def qF(s:Sc)(a:Int)(k y:Nat):List (Nat×Nat):=((List.range y).filter λi=>decide (s[k]!.foreign[i]!.table=a)).map λi=>(k,i)
def rR(s:Sc)(a:Int)(k:Nat):List (Nat×Nat):=(List.range k).flatMap (aHt s a)
theorem aeA{α:Type}(p:α->Bool)(y:α):[y].filter p=if p y=true then[y]else[]:=by by_cases h:p y=true<;>simp[h]
theorem aG1(s:Sc)(a:Int)(k y:Nat):qF s a k (y+1)=if s[k]!.foreign[y]!.table=a then qF s a k y++[(k,y)]else qF s a k y:=by
 unfold qF;rw[List.range_succ,List.filter_append,List.map_append,aeA];by_cases h:s[k]!.foreign[y]!.table=a
 ·rw[zp h,zp (decide_eq_true h)];rfl
 ·rw[zn h,zn (by rw[decide_eq_false h];simp)];simp
theorem ayM(s:Sc)(a:Int)(k:Nat):rR s a (k+1)=rR s a k++qF s a k s[k]!.foreign.length:=by
 unfold rR;rw[List.range_succ,List.flatMap_append];simp[aHt,qF]
theorem aqB(s:Sc)(a:Int)(k y:Nat):(qF s a k y).length<=y:=by
 unfold qF;rw[zql];exact Nat.le_trans (List.length_filter_le ..) (by simp)
theorem adN(s:Sc)(a:Int)(h:∀k (h:k<s.length),s[k].foreign.length<=16):∀k,k<=s.length->(rR s a k).length<=16*k
 |0,_=>by simp[rR]
 |k+1,hk=>by
  have e:=adN s a h k (by omega)
  have c:=aqB s a k s[k]!.foreign.length
  have f:=h k (by omega)
  rw[ayM,zla]
  rw[getElem!_pos s k (by omega)]at c⊢
  omega
theorem aF6(s:Sc)(a:Int)(hs:s.length<=16)(j:∀k (h:k<s.length),s[k].foreign.length<=16)(st:aD):PC Tryz.prog 257 [.agg (scC s),vi a] st λr S=>∃id,r= .vec id 2 0 (fA s a).length/\st id=none/\S=upd st id (some (.arr 235 ((fA s a).map kkC))):=by
 have q:=adN s a j;refine pC Tryz.func257 rfl ?_
 focus(repeat' first|apply wZ;rfl|show Cn _;constructor)
 refine eC 5 235 2 rfl rfl rfl λid c=>?_;refine aC (X:={x:Nat×Nat//x.1<=s.length/\st x.2=none}) (λi=>((((((St.nil 39 (upd st i.1.2 (some (.arr 235 ((rR s a i.1.1).map kkC))))).pv 1 (vi a)).pv 5 (.vec i.1.2 2 0 (rR s a i.1.1).length)).pv 11 (.seq (s.map Tb.cells))).pv 12 (vi ((s.map Tb.cells).length:Nat))).pv 13 (vi (i.1.1:Nat)))) (λi=>s.length-i.1.1) ⟨(0,id),by simp,c⟩ ?_ λi=>?_
 ·dsimp only
  repeat' first|show Cn (.t _ _);exact Cn.t0|show Cn _;constructor|exact rfl
 obtain⟨⟨i,id⟩,hi,c⟩:=i;simp only at hi c;dsimp only;have C:=q i hi;by_cases v:s.length<=i
 ·obtain rfl:i=s.length:=by omega
  repeat' first|show Cn (.r _ _ _);refine .rr ?_;(exact⟨id,rfl,c,rfl⟩);done|apply wZ;rfl|show Cn _;constructor|simp only[zql];omega|intro h;simp at h
 have o:i<s.length:=by omega
 have w:=j i o;have m:=ayM s a i;have g:=aG1 s a i;rw[getElem!_pos s i o]at m g
 focus(repeat' first|apply wZ;rfl|show Cn _;constructor|exact rfl|apply wI;rfl|apply gE;omega|simp only[zql];omega|intro h;simp at h)
 refine aC (X:={x:Nat×Nat//x.1<=s[i].foreign.length/\st x.2=none}) (λy=>((((((((((St.nil 39 (upd st y.1.2 (some (.arr 235 ((rR s a i++qF s a i y.1.1).map kkC))))).pv 1 (vi a)).pv 5 (.vec y.1.2 2 0 (rR s a i++qF s a i y.1.1).length)).pv 6 (vi (i:Nat))).pv 11 (.seq (s.map Tb.cells))).pv 12 (vi ((s.map Tb.cells).length:Nat))).pv 13 (vi (i:Nat))).pv 19 (.seq (s[i].foreign.map Fr.cells))).pv 20 (vi ((s[i].foreign.map Fr.cells).length:Nat))).pv 21 (vi (y.1.1:Nat)))) (λy=>s[i].foreign.length-y.1.1) ⟨(0,id),by simp,c⟩ ?_ λy=>?_
 ·dsimp only
  have e:rR s a i++qF s a i 0=rR s a i:=by simp[qF]
  rw[e]
  repeat' first|show Cn (.t _ _);exact Cn.t0|show Cn _;constructor|exact rfl
 obtain⟨⟨y,id⟩,hy,c⟩:=y;simp only at hy c;dsimp only;have B:=aqB s a i y;have z:(rR s a i++qF s a i y).length<=1000:=by rw[zla];omega
 by_cases p:s[i].foreign.length<=y;obtain rfl:y=s[i].foreign.length:=by omega
 rw[<-m];rotate_left;have u:y<s[i].foreign.length:=by omega
 have g:=g y;rw[getElem!_pos s[i].foreign y u]at g;by_cases hk:s[i].foreign[y].table=a;rw[zp hk]at g;have e:rR s a i++qF s a i (y+1)=(rR s a i++qF s a i y)++[(i,y)]:=by rw[g,List.append_assoc]
 have el:(rR s a i++qF s a i (y+1)).length=(rR s a i++qF s a i y).length+1:=by rw[e,zla];rfl
 generalize rR s a i++qF s a i y=A at*;rotate_left;rw[zn hk]at g;rw[<-g];rotate_left
 all_goals (repeat' first|((first|refine⟨⟨(i+1,id),by simp only;omega,c⟩,?_,by simp only;omega⟩|refine⟨⟨(y+1,id),by simp only;omega,c⟩,?_,by simp only;omega⟩);focus((repeat' first|show Cn (.t _ _);exact Cn.t0|show Cn _;constructor|exact rfl);done))|((refine⟨⟨(y+1,id'),by simp only;omega,cG n⟩,?_,by simp only;omega⟩);(dsimp only;try rw[e]);focus((repeat' first|show Cn (.t _ _);exact .any (bI ‹_›)|show Cn _;constructor|exact rfl|simp;done);done))|apply wZ;rfl|show Cn _;constructor|exact rfl|apply apV pk (f:=kkC) [(i,y)] 16;(iterate 9 rfl);(exact aA _ _ _);(omega);exactλ_=>rfl;exactλ_=>rfl;exact aHa;(focus(simp;omega));(focus(simp;omega));rfl;intro id' n|apply wI;rfl|apply gE;omega|omega|simp only[zql];omega|intro h;simp at h|intro h)
theorem aA2(s:Sc)(a:Int)(hs:s.length<=16)(c:∀k (h:k<s.length),s[k].foreign.length<=16):PF Tryz.prog 257 [.agg (scC s),vi a] (.seq ((fA s a).map kkC)):=λst=>
 fD (sz:=2) (aF6 s a hs c st) λp st' h=>by
  obtain⟨id,rfl,e,rfl⟩:=h
  exact .inl ⟨id,235,(fA s a).map kkC,_,st,aA _ _ _,aFL,eQ rfl,bU e,rfl,rfl⟩
def bF(b:Bool):PV:=(vb b)
def nZ(r:R2):Value:= .agg (arH r).toArray
theorem aAd :KeyOK Tryz.prog 235 nZ (λr=> .agg (r2C r)):=
 avY aS rfl rfl rfl rfl (λa b=>by
  show some (decide (a.1=b.1)&&decide (a.2=b.2))=_
  rw[Option.some.injEq,Bool.eq_iff_iff]
  simp[Prod.ext_iff]) (by kernel_rfl)
def mE(M:List R2):List (R2×Bool):=M.map λr=>(r,true)
def mM(M:List R2):AObj:= .map (aV nZ bF (mE M))
theorem alR{r:R2}:∀{M:List R2},r∈M->cC r (mE M)=some true
 |x::M,h=>by
  simp only[mE,zmp,cC]
  by_cases e:r=x
  ·rw[zp e]
  ·rw[zn e];exact alR ((zmc.1 h).resolve_left e)
theorem afU{r:R2}:∀{M:List R2},r∉M->cC r (mE M)=none
 |[],_=>rfl
 |x::M,h=>by
  simp only[mE,zmp,cC]
  rw[zn λe=>h (by simp[e])]
  exact afU λhm=>h (by simp[hm])
theorem anV{r:R2}:∀{M:List R2},r∉M->cM r true (mE M)=mE (M++[r])
 |[],_=>rfl
 |x::M,h=>by
  simp only[mE,zmp,List.cons_append,cM]
  rw[zn λe=>h (by simp[e])]
  exact congrArg _ (anV λhm=>h (by simp[hm]))
theorem aI8{F:R2->List R2->List R2}{col key:Int}{k y:Nat}{a:List Ln}{M:List R2}(h:y<a.length):goL F col key k (a.take (y+1)) M=if ptP a[y] col=some key then F ((k:Int),a[y].key) (goL F col key k (a.take y) M)else goL F col key k (a.take y) M:=by
 unfold goL;rw[List.take_succ_eq_append_getElem h,List.foldl_append];rfl
theorem aJF{F:R2->List R2->List R2}{s:Sc}{b:Bs}{key:Int}{i:Nat}{a:List (Nat×Nat)}{M:List R2}(h:i<a.length):goK F s b key (a.take (i+1)) M=if s[a[i].1]!.foreign[a[i].2]!.act=1 then goL F s[a[i].1]!.foreign[a[i].2]!.col key a[i].1 b[a[i].1]!.lines (goK F s b key (a.take i) M)else goK F s b key (a.take i) M:=by
 unfold goK;rw[List.take_succ_eq_append_getElem h,List.foldl_append];rfl
structure Fol (s:Sc) (b:Bs):Prop where
 len:b.length=s.length
 s16:s.length<=16
 f16:∀k (h:k<s.length),s[k].foreign.length<=16
 reg:∀k (h:k<s.length),∀f∈s[k].foreign,∀l∈b[k]!.lines,eV l f.col
 lns:∀k (h:k<b.length),b[k].lines.length<1000000000000
structure KS (s:Sc) (b:Bs) (id9 id4 id5 id10 idm:Nat) (S:aD):Prop where
 h9:S id9=some (.cells 233 [.mref idm])
 h4:S id4=some (.cells 24 (scC s))
 h5:S id5=some (.cells 27 (bsC b))
 h10:S id10=some (.cells 289 [.fn 256 [.ref id9 0, .ref id4 0, .ref id5 0, .ref id10 0]])
 n9:id9≠idm
 n4:id4≠idm
 n5:id5≠idm
 n10:id10≠idm
theorem aAE{s:Sc}{b:Bs}(Y:Fol s b){id9 id4 id5 id10 idm:Nat}{S:aD}(hK:KS s b id9 id4 id5 id10 idm S):∀(n:Nat)(row:R2)(M:List R2),row∈eJ b->M.Nodup->(∀y∈M,y∈eJ b)->(eJ b).length+1<=n+M.length->
  PC Tryz.prog 256 [.agg (r2C row), .ref id9 0, .ref id4 0, .ref id5 0, .ref id10 0] (upd S idm (some (mM M))) λ_ S'=>S'=upd S idm (some (mM (iS s b n row M))):=by
 obtain⟨h9,h4,h5,h10,n9,n4,n5,n10⟩:=hK
 obtain⟨o,s16,f16,K,H⟩:=Y
 intro n
 induction n with
 |zero=>intro row M hr hn ha hN;exact absurd (vF hn ha) (by omega)
 |succ n ih=>
 intro row M N hn ha hN
 by_cases hm:row∈M
 ·have hg:=alR hm
  have e:iS s b (n+1) row M=M:=zp hm;rw[e];refine pC Tryz.func256 rfl ?_
  repeat' first|apply aKG pk aAd (f:=bF);(iterate 5 rfl);rotate_left;rfl;exact aA _ _ _;rfl;exact hg|show Cn (.r _ _ _);refine .rr ?_;(rfl);done|apply wZ;rfl|show Cn _;constructor|apply ldR pk;rfl;rfl;rotate_left;rfl;(focus((repeat (first|assumption|refine(aB ‹_›).trans ?_));done));rfl;rfl
 ·have hg:=afU hm
  have e:iS s b (n+1) row M=goK (iS s b n) s b row.2 (fA s row.1) (M++[row]):=zn hm;rw[e];have hks:=aA2 s row.1 s16 f16;have I:(M++[row]).Nodup:=by
   rw[List.nodup_append];exact⟨hn,by simp,λy hy z hz e=>hm (by rw[zms.1 hz]at e;exact e▸hy)⟩
  have Z:∀y∈M++[row],y∈eJ b:=λy hy=>by
   rcases zma.1 hy with q|q
   ·exact ha y q
   ·rw[zms.1 q];exact N
  have hml:(M++[row]).length=M.length+1:=by simp
  have hF:∀x L,x∈eJ b->L.Nodup->(∀y∈L,y∈eJ b)->(eJ b).length+1-n<=L.length->Tk s b (· =x) L (iS s b n x L):=λx L q1 q2 q3 q4=>afY o n x L q1 q2 q3 (by omega);have hkb:∀x∈fA s row.1,x.1<b.length:=λx hx=>by rw[o];exact(nG.1 hx).1
  have hkl:(fA s row.1).length<=256:=Nat.le_trans (adN s row.1 f16 s.length (Nat.le_refl _)) (by omega);have O:StSub (upd S idm (some (mM (goK (iS s b n) s b row.2 ((fA s row.1).take 0) (M++[row]))))) (upd (upd S idm (some (mM M))) idm (some (.map (aV nZ bF (cM row true (mE M)))))):=by
   rw[anV hm,eI];exact cN rfl
  refine pC Tryz.func256 rfl ?_
  focus(repeat' first|apply aKG pk aAd (f:=bF);(iterate 5 rfl);rotate_left;rfl;exact aA _ _ _;rfl;exact hg|apply muA pk aAd (f:=bF);(exact .inr rfl);(iterate 5 rfl);exact aA _ _ _;rfl|apply Cn.cf;focus((apply hks);done)|apply wZ;rfl|show Cn _;constructor|apply ldR pk;rfl;rfl;rotate_left;rfl;(focus((repeat (first|assumption|refine(aB ‹_›).trans ?_));done));rfl;rfl|apply iD pk 0;(iterate 5 rfl);(focus repeat' constructor);rfl;(intro _;rfl);(intro _;omega);rfl|apply wY;rfl)
  refine aC (X:={x:Nat//x<=(fA s row.1).length}) (λi=>((((((((St.nil 76 (upd S idm (some (mM (goK (iS s b n) s b row.2 ((fA s row.1).take i.1) (M++[row])))))).pv 2 (.ref id4 0)).pv 3 (.ref id5 0)).pv 4 (.ref id10 0)).var 5 235 (r2C row)).pv 21 (.seq ((fA s row.1).map kkC))).pv 22 (vi (((fA s row.1).map kkC).length:Nat))).pv 23 (vi (i.1:Nat)))) (λi=>(fA s row.1).length-i.1) ⟨0,by omega⟩ ?_ λi=>?_
  ·repeat' first|exact .any O|show Cn _;constructor|exact rfl
  obtain⟨i,hi⟩:=i;dsimp only;by_cases E:(fA s row.1).length<=i
  ·rw[ztl E]
   repeat' first|show Cn (.r _ _ _);refine .rr ?_;(rfl);done|apply wZ;rfl|show Cn _;constructor|simp only[zql];omega|intro h;simp at h
  have u:i<(fA s row.1).length:=by omega
  have g:=aJF (F:=iS s b n) (s:=s) (b:=b) (key:=row.2) (M:=M++[row]) u;have hx:=zgm u;obtain⟨V,U,W⟩:=nG.1 hx;have c:=ajT hF row.2 ((fA s row.1).take i) (M++[row]) (λx hx=>hkb x (List.mem_of_mem_take hx)) I Z (by omega);have hll:=c.len I;have Q:=c.nd;have hta:=c.all;clear c;generalize hMi:goK (iS s b n) s b row.2 ((fA s row.1).take i) (M++[row])=C at*;obtain⟨⟨k,q⟩,T⟩:∃x,(fA s row.1)[i]=x:=⟨_,rfl⟩;rw[T]at g V U W;simp only at V U W g;have G:((fA s row.1).map kkC)[i]?=some (kkC (k,q)):=by rw[List.getElem?_map,zgg u,T];rfl
  have a:k<b.length:=by omega
  rw[getElem!_pos s k V]at U W g;rw[getElem!_pos s[k].foreign q U]at W g;rw[getElem!_pos b k a]at g;have D:=K k V _ (zgm U);rw[getElem!_pos b k a]at D;have hlb:=H k a;by_cases m:s[k].foreign[q].act=1
  ·rw[zp m]at g
   focus(repeat' first|apply wD pk [] [1];kernel_rfl;rfl;rfl|apply wZ;rfl|show Cn _;constructor|exact rfl|apply cL pk;(iterate 6 rfl);rotate_left;rfl;(intro hw;rfl);(intro hw;apply G<;>omega);(intro _;rfl);rfl|apply ldR pk;rfl;rfl;rotate_left;rfl;(focus((repeat (first|assumption|refine(aB ‹_›).trans ?_));done));rfl;rfl|apply iD pk 0;(iterate 5 rfl);(focus repeat' constructor);rfl;(intro _;rfl);(intro _;omega);rfl|apply iD pk 1;(iterate 5 rfl);(focus repeat' constructor);rfl;(intro _;rfl);(intro _;omega);rfl|apply wI;rfl|apply gE;omega|simp only[zql];omega|intro h;simp at h)
   have A:StSub (upd S idm (some (mM (goL (iS s b n) s[k].foreign[q].col row.2 k (b[k].lines.take 0) C)))) (upd S idm (some (mM C))):=cN rfl;refine aC (X:={x:Nat//x<=b[k].lines.length}) (λy=>(((((((((((((St.nil 76 (upd S idm (some (mM (goL (iS s b n) s[k].foreign[q].col row.2 k (b[k].lines.take y.1) C))))).pv 2 (.ref id4 0)).pv 3 (.ref id5 0)).pv 4 (.ref id10 0)).var 5 235 (r2C row)).var 7 235 (kkC (k,q))).var 8 111 (s[k].foreign[q].cells)).pv 21 (.seq ((fA s row.1).map kkC))).pv 22 (vi (((fA s row.1).map kkC).length:Nat))).pv 23 (vi (i:Nat))).pv 47 (.seq (b[k].lines.map Ln.cells))).pv 48 (vi ((b[k].lines.map Ln.cells).length:Nat))).pv 49 (vi (y.1:Nat)))) (λy=>b[k].lines.length-y.1) ⟨0,by omega⟩ ?_ λy=>?_
   ·repeat' first|exact .any A|show Cn _;constructor|exact rfl
   obtain⟨y,hy⟩:=y;dsimp only;by_cases p:b[k].lines.length<=y
   ·rw[ztl p]
    repeat' first|refine⟨⟨i+1,by omega⟩,?_,?_⟩;(dsimp only;try rw[g])|apply wZ;rfl|show Cn _;constructor|exact rfl|omega|simp only[zql];omega|intro h;simp at h
   have B:y<b[k].lines.length:=by omega
   have j:=aI8 (F:=iS s b n) (col:=s[k].foreign[q].col) (key:=row.2) (k:=k) (M:=C) B;have hp:=gV b[k].lines[y] s[k].foreign[q].col (D _ (zgm B));have c:=akA hF s[k].foreign[q].col row.2 k (b[k].lines.take y) C (λl hl=>sP.2 ⟨k,a,l,by rw[getElem!_pos b k a];exact List.mem_of_mem_take hl,rfl⟩) Q hta (by omega);have hl2:=c.len Q;have R:=c.nd;have P:=c.all;clear c;generalize hMy:goL (iS s b n) s[k].foreign[q].col row.2 k (b[k].lines.take y) C=My at*;have w:((k:Int),b[k].lines[y].key)∈eJ b:=sP.2 ⟨k,a,b[k].lines[y],by rw[getElem!_pos b k a];exact zgm B,rfl⟩;have hC:=ih ((k:Int),b[k].lines[y].key) My w R P (by omega);cases J:ptP b[k].lines[y] s[k].foreign[q].col with
   |none=>
    rw[J]at hp j;rw[zn (by simp)]at j
    (repeat' first|apply Cn.cf;focus((apply hp);done)|refine⟨⟨y+1,by omega⟩,?_,?_⟩;(dsimp only;try rw[j])|show Cn (.t _ _);exact Cn.t0|apply wZ;rfl|show Cn _;constructor|exact rfl|apply iD pk 1;(iterate 5 rfl);(focus repeat' constructor);rfl;(intro _;rfl);(intro _;omega);rfl|apply wY;rfl|apply wI;rfl|apply gE;omega|omega|simp only[zql];omega|intro h;simp at h)
   |some v=>
    rw[J]at hp j;by_cases hv:v=row.2
    ·subst hv
     rw[zp rfl]at j
     repeat' first|apply Cn.cf;focus((apply hp);done)|apply cP;rfl;(apply hC);rintro _ st' (rfl)|refine⟨⟨y+1,by omega⟩,?_,?_⟩;(dsimp only;try rw[j])|show Cn (.t _ _);exact Cn.t0|apply wZ;rfl|show Cn _;constructor|exact rfl|apply ldR pk;rfl;rfl;rotate_left;rfl;(focus((repeat (first|assumption|refine(aB ‹_›).trans ?_));done));rfl;rfl|apply iD pk 0;(iterate 5 rfl);(focus repeat' constructor);rfl;(intro _;rfl);(intro _;omega);rfl|apply iD pk 1;(iterate 5 rfl);(focus repeat' constructor);rfl;(intro _;rfl);(intro _;omega);rfl|apply wY;rfl|apply wI;rfl|apply gE;omega|omega|simp only[zql];omega|intro h;simp at h;done|intro h;simp at h
    ·rw[zn (by simpa using hv)]at j
     repeat' first|apply Cn.cf;focus((apply hp);done)|refine⟨⟨y+1,by omega⟩,?_,?_⟩;(dsimp only;try rw[j])|show Cn (.t _ _);exact Cn.t0|apply wZ;rfl|show Cn _;constructor|exact rfl|apply iD pk 1;(iterate 5 rfl);(focus repeat' constructor);rfl;(intro _;rfl);(intro _;omega);rfl|apply wY;rfl|apply wI;rfl|apply gE;omega|omega|simp only[zql];omega|intro h;simp at h;omega|intro h;simp at h
  ·rw[zn m]at g
   repeat' first|apply wD pk [] [1];kernel_rfl;rfl;rfl|refine⟨⟨i+1,by omega⟩,?_,?_⟩;(dsimp only;try rw[g])|show Cn (.t _ _);exact Cn.t0|apply wZ;rfl|show Cn _;constructor|exact rfl|apply cL pk;(iterate 6 rfl);rotate_left;rfl;(intro hw;rfl);(intro hw;apply G<;>omega);(intro _;rfl);rfl|apply ldR pk;rfl;rfl;rotate_left;rfl;(focus((repeat (first|assumption|refine(aB ‹_›).trans ?_));done));rfl;rfl|apply iD pk 0;(iterate 5 rfl);(focus repeat' constructor);rfl;(intro _;rfl);(intro _;omega);rfl|apply iD pk 1;(iterate 5 rfl);(focus repeat' constructor);rfl;(intro _;rfl);(intro _;omega);rfl|apply wI;rfl|apply gE;omega|omega|simp only[zql];omega|intro h;simp at h
def agU(b:Bs)(z:R2):Bool:=(cB (aF b z.1) z.2).isSome
theorem aqF{b:Bs}{z:R2}:agU b z=true↔z∈eJ b:=by
 unfold agU;rw[sP];constructor
 ·intro h
  obtain⟨x,hx⟩:=Option.isSome_iff_exists.1 h;have a:=List.mem_of_find?_eq_some hx;have c:x.key=z.2:=by simpa using List.find?_some hx
  cases hk:okT b z.1 with
  |false=>rw[apI hk]at a;cases a
  |true=>
   have e:aF b z.1=b[z.1.toNat]!.lines:=by unfold aF;rw[zp hk]
   simp only[okT,zba,zde]at hk;rw[e]at a;exact⟨z.1.toNat,by omega,x,a,Prod.ext (by show z.1=_;omega) c.symm⟩
 ·rintro⟨k,hk,l,hl,rfl⟩
  have e:aF b (k:Int)=b[k]!.lines:=by
   unfold aF;rw[zp (by simp[okT];omega),Int.toNat_natCast]
  show(cB (aF b (k:Int)) l.key).isSome=true;rw[e];unfold cB;rw[List.find?_isSome];exact⟨l,hl,by simp⟩
def vX(s:Sc)(b:Bs)(z:R2):List R2:=if agU b z=true then aKD s b z else[]
def aHw(s:Sc)(b:Bs)(z:R2):PV:= .fmap (aV nZ bF (mE (vX s b z)))
theorem agA{st:aD}{i j k l m:Nat}{a b c d:AObj}(K:st i=none)(I:upd st i (some a) j=none)(J:upd (upd st i (some a)) j (some b) k=none)(h4:upd (upd (upd st i (some a)) j (some b)) k (some c) l=none)(h5:upd (upd (upd (upd st i (some a)) j (some b)) k (some c)) l (some d) m=none):
  (j≠i/\k≠i/\l≠i/\m≠i)/\(k≠j/\l≠j/\m≠j)/\(l≠k/\m≠k)/\m≠l/\st j=none/\st k=none/\st l=none/\st m=none:=by
 have g:∀{f:aD}{x y:Nat}{o:AObj},upd f x (some o) y=none->y≠x/\f y=none:=fun{f x y o} h=>by
  by_cases e:y=x
  ·rw[e,aA]at h;cases h
  ·exact⟨e,by rwa[aB e]at h⟩
 obtain⟨n,p⟩:=g I
 obtain⟨b1,b2⟩:=g J
 obtain⟨q,u⟩:=g b2
 obtain⟨c1,c2⟩:=g h4
 obtain⟨v,w⟩:=g c2
 obtain⟨c5,z⟩:=g w
 obtain⟨A,B⟩:=g h5
 obtain⟨C,D⟩:=g B
 obtain⟨E,F⟩:=g D
 obtain⟨G,H⟩:=g F
 exact⟨⟨n,q,c5,G⟩,⟨b1,v,E⟩,⟨c1,C⟩,A,p,u,z,H⟩
theorem aGB{f:aD}{i:Nat}{x:Option AObj}(h:f i=x):upd f i x=f:=by
 funext j
 by_cases e:j=i
 ·subst e;rw[aA,h]
 ·rw[aB e]
structure KB (s:Sc) (b:Bs) (st:aD) (idm id9 id4 id5 id10:Nat):Prop where
 one:KS s b id9 id4 id5 id10 idm (upd (upd (upd (upd (upd (upd st idm (some (mM []))) id9 (some (.cells 233 [.mref idm]))) id4 (some (.cells 24 (scC s)))) id5 (some (.cells 27 (bsC b)))) id10 (some (.cells 289 [.val .nilFunc]))) id10 (some (.cells 289 [.fn 256 [.ref id9 0, .ref id4 0, .ref id5 0, .ref id10 0]])))
 two:upd (upd (upd (upd (upd (upd (upd st idm (some (mM []))) id9 (some (.cells 233 [.mref idm]))) id4 (some (.cells 24 (scC s)))) id5 (some (.cells 27 (bsC b)))) id10 (some (.cells 289 [.val .nilFunc]))) id10 (some (.cells 289 [.fn 256 [.ref id9 0, .ref id4 0, .ref id5 0, .ref id10 0]]))) idm (some (mM []))=upd (upd (upd (upd (upd (upd st idm (some (mM []))) id9 (some (.cells 233 [.mref idm]))) id4 (some (.cells 24 (scC s)))) id5 (some (.cells 27 (bsC b)))) id10 (some (.cells 289 [.val .nilFunc]))) id10 (some (.cells 289 [.fn 256 [.ref id9 0, .ref id4 0, .ref id5 0, .ref id10 0]]))
 three:(upd (upd (upd (upd (upd (upd st idm (some (mM []))) id9 (some (.cells 233 [.mref idm]))) id4 (some (.cells 24 (scC s)))) id5 (some (.cells 27 (bsC b)))) id10 (some (.cells 289 [.val .nilFunc]))) id10 (some (.cells 289 [.fn 256 [.ref id9 0, .ref id4 0, .ref id5 0, .ref id10 0]]))) idm=some (mM [])
theorem aH8(s:Sc)(b:Bs)(st:aD){idm id9 id4 id5 id10:Nat}(m1:id9≠idm)(f:id4≠idm)(g:id5≠idm)(c:id10≠idm)(j:id4≠id9)(k:id5≠id9)(h:id10≠id9)(m:id5≠id4)(i:id10≠id4)(a:id10≠id5):KB s b st idm id9 id4 id5 id10:=by
 have e:(upd (upd (upd (upd (upd (upd st idm (some (mM []))) id9 (some (.cells 233 [.mref idm]))) id4 (some (.cells 24 (scC s)))) id5 (some (.cells 27 (bsC b)))) id10 (some (.cells 289 [.val .nilFunc]))) id10 (some (.cells 289 [.fn 256 [.ref id9 0, .ref id4 0, .ref id5 0, .ref id10 0]]))) idm=some (mM []):=(aB (Ne.symm c)).trans ((aB (Ne.symm c)).trans ((aB (Ne.symm g)).trans ((aB (Ne.symm f)).trans ((aB (Ne.symm m1)).trans (aA _ _ _)))));exact⟨⟨(aB (Ne.symm h)).trans ((aB (Ne.symm h)).trans ((aB (Ne.symm k)).trans ((aB (Ne.symm j)).trans (aA _ _ _)))),(aB (Ne.symm i)).trans ((aB (Ne.symm i)).trans ((aB (Ne.symm m)).trans (aA _ _ _))),(aB (Ne.symm a)).trans ((aB (Ne.symm a)).trans (aA _ _ _)),aA _ _ _,m1,f,g,c⟩,aGB e,e⟩
theorem aET{s:Sc}{b:Bs}{st:aD}{idm id9 id4 id5 id10:Nat}{x:Option AObj}(h0:st idm=none)(h9:st id9=none)(h4:st id4=none)(h5:st id5=none)(h10:st id10=none):StSub st (upd (upd (upd (upd (upd (upd (upd (upd st idm (some (mM []))) id9 (some (.cells 233 [.mref idm]))) id4 (some (.cells 24 (scC s)))) id5 (some (.cells 27 (bsC b)))) id10 (some (.cells 289 [.val .nilFunc]))) id10 (some (.cells 289 [.fn 256 [.ref id9 0, .ref id4 0, .ref id5 0, .ref id10 0]]))) idm x) idm none):=λj=>by
 cases hj:st j with
 |none=>exact .inl rfl
 |some o=>
  right;have q:∀{i:Nat},st i=none->j≠i:=fun{i} hi e=>by subst e;rw[hi]at hj;cases hj
  rw[aB (q h0),aB (q h0),aB (q h10),aB (q h10),aB (q h5),aB (q h4),aB (q h9),aB (q h0),hj]
theorem amP{s:Sc}{b:Bs}(y:Fol s b)(hl:∀d∈b,d.lines.length<100000000000)(z:R2):PF Tryz.prog 185 [.agg (scC s), .agg (bsC b),vi z.1,vi z.2] (aHw s b z):=by
 have hg:=xA b z.1 z.2 hl;rw[abN]at hg;unfold aHw vX;by_cases hz:agU b z=true
 ·rw[zp hz]
  have w:=aqF.1 hz;unfold agU at hz;rw[hz]at hg;refine pF Tryz.func185 rfl λst=>?_
  focus(repeat' first|apply mkM (enc:=nZ) (f:=bF);rfl;intro idm c|apply wZ;rfl|show Cn _;constructor|apply stR pk;rfl;rfl;(exact aA _ _ _);rfl;rfl|apply fS 9;rfl;rfl;intro id9 h|apply fS 4;rfl;rfl;intro id4 e|apply fS 5;rfl;rfl;intro id5 g|apply fS 10;rfl;rfl;intro id10 a)
  obtain⟨⟨m1,F,G,H⟩,⟨I,J,K⟩,⟨L,M⟩,m,f9,v,f5,j⟩:=agA c h e g a;have u:st idm=none:=c;have q:st id9=none:=f9;have o:st id4=none:=v;have p:st id5=none:=f5;have k:st id10=none:=j;clear c h e g a f9 v f5 j;have n:=aH8 s b st m1 F G H I J K L M m;have N:=aAE y n.one ((eJ b).length+1) z [] w List.nodup_nil (by simp) (by simp);have A:=n.one.h9;have C:=Ne.symm m;rw[n.two]at N;have i:=aET (s:=s) (b:=b) (x:=some (mM (iS s b ((eJ b).length+1) z []))) u q o p k;have D:=n.one.n9
  repeat' first|apply pS 28;rfl;exact aA _ _ _|exact Cn.any ⟨_,_,st,rfl,zwr _,i,rfl,rfl⟩|apply Cn.cf;focus((apply hg);done)|apply cP;rfl;(apply N);rintro _ st' (rfl)|apply wZ;rfl|show Cn _;constructor|apply ldR pk;rfl;rfl;rotate_left;rfl;(first|exact aA _ _ _|focus((repeat (first|exact aA _ _ _|assumption|refine(aB ‹_›).trans ?_));done));rfl;rfl|apply wY;rfl
 ·have E:(cB (aF b z.1) z.2).isSome=false:=by simpa[agU]using hz
  rw[zn hz];rw[E]at hg;refine pF Tryz.func185 rfl λst=>?_
  focus(repeat' first|apply mkM (enc:=nZ) (f:=bF);rfl;intro idm c|apply wZ;rfl|show Cn _;constructor|apply stR pk;rfl;rfl;(exact aA _ _ _);rfl;rfl|apply fS 9;rfl;rfl;intro id9 h|apply fS 4;rfl;rfl;intro id4 e|apply fS 5;rfl;rfl;intro id5 g|apply fS 10;rfl;rfl;intro id10 a)
  obtain⟨⟨m1,F,G,H⟩,⟨I,J,K⟩,⟨L,M⟩,m,f9,v,f5,j⟩:=agA c h e g a;have u:st idm=none:=c;have q:st id9=none:=f9;have o:st id4=none:=v;have p:st id5=none:=f5;have k:st id10=none:=j;clear c h e g a f9 v f5 j;have n:=aH8 s b st m1 F G H I J K L M m;have A:=n.one.h9;have C:=Ne.symm m;have B:=n.three;have i:=aET (s:=s) (b:=b) (x:=some (mM [])) u q o p k;rw[n.two]at i;have D:=n.one.n9
  repeat' first|apply pS 28;rfl;exact B|exact Cn.any ⟨_,_,st,rfl,zwr _,i,rfl,rfl⟩|apply Cn.cf;focus((apply hg);done)|apply wZ;rfl|show Cn _;constructor|apply ldR pk;rfl;rfl;rotate_left;rfl;(first|assumption|focus((repeat (first|exact aA _ _ _|refine(aB ‹_›).trans ?_));done));rfl;rfl|apply wY;rfl
theorem atY(l:List Cl)(st:aD)(hl:l.length<1000000000000):PC Tryz.prog 121 [.seq (l.map Cl.cells)] st (LR 116 5 st (l.map Cl.cells)):=by
 refine pC Tryz.func121 rfl ?_
 repeat' first|show Cn (.r _ _ _);refine .rr ?_;(first|exact .inr ⟨rfl,hb h,zsr _⟩|exact .inl ⟨id',by rw[zql],a,aA _ _ _,bU a⟩);done|apply wZ;rfl|show Cn _;constructor|apply ap0 pk (f:=Cl.cells) l 64;(iterate 10 rfl);exactλ_=>rfl;exactλ_=>rfl;exact axH;(omega);(omega);rfl;intro id' a|apply aDN pk;(iterate 6 rfl);intro b hb|intro h
theorem ahF(l:List Cl)(st:aD)(hl:l.length<1000000000000):PC Tryz.prog 121 [.seq (l.map Cl.cells)] st λp S=>∃id,p= .vec id 5 0 l.length/\st id=none/\S=upd st id (some (.arr 116 (l.map Cl.cells))):=
 yZ (aeE (atY l st hl)) λp st' ⟨id,a,c,e⟩=>⟨p,st',zwr _,zsr _,id,by rw[a,zql],c,e⟩
end
section
attribute [local irreducible] Ev PWp
set_option maxRecDepth 10000
set_option maxHeartbeats 4000000
section
variable{l:List Oper}{d:Md}{r:List Oper}{s:St}{Kt:St->Prop}{t:Nat}{ty:TypeId}{pos:String}{after:Array Edge}{gd:Option (Nat×Bool)}
theorem lkS{T e:TypeId}{x y:Operand}{w:Bool}{M:List R2}{k:R2}(hw:bE l ⟨some t, .lookup T x y false,ty,pos,after,gd⟩ s=some w)(hx:opd s x=some (.fmap (aV nZ bF (mE M))))(hy:opd s y=some (.agg (r2C k)))(hT:tiK tt T=some (.map 235 e))(hz:pzv tt e=some (vb false))(hf:All (flagsI s w [x,y] []))(hd:Nat.blt t s.n=true)
  (ht:cO d l r=true) (a:Ev Tryz.prog l d r (s.put (some t) w (.pv (vb (inR M k)))) Kt):Ev Tryz.prog l d (⟨some t, .lookup T x y false,ty,pos,after,gd⟩::r) s Kt:=by
 refine aKb pk aAd (f:=bF) hw hx hy hT hz hf hd ht rfl ?_
 have e:lY (vb false) bF false (cC k (mE M))=(vb (inR M k)):=by
  by_cases h:k∈M
  ·rw[alR h];unfold inR;rw[decide_eq_true h];rfl
  ·rw[afU h];unfold inR;rw[decide_eq_false h];rfl
 rw[e];exact a
end
def wN(t:Tb)(G:R2->Bool)(l:Ln):Bool:=t.foreign.all λf=> !eH G l f||decide (f.act=2)
def aCJ(t:Tb)(G:R2->Bool)(l:Ln):Bool:=t.foreign.any (eH G l)
def eX(p:Fr->Bool)(fs:List Fr)(cs:List Cl):List Cl:=cs.mapIdx λc x=>if fs.any (λf=>decide (f.col=(c:Int))&&p f)=true then Cl.zero else x
def lT(t:Tb)(G:R2->Bool)(who:Dt)(l:Ln):Ln:=if aCJ t G l=true then⟨l.key,eX (eH G l) t.foreign l.cells_,(dD l who).by_⟩else l
theorem dE(p:Fr->Bool)(fs:List Fr)(cs:List Cl):(eX p fs cs).length=cs.length:=by simp[eX]
theorem oZ{p:Fr->Bool}{fs:List Fr}{cs:List Cl}{j:Nat}(h:j<cs.length):(eX p fs cs)[j]'(by rw[dE];exact h)=if fs.any (λf=>decide (f.col=(j:Int))&&p f)=true then Cl.zero else cs[j]:=by simp[eX]
theorem aGr{p:Fr->Bool}{fs:List Fr}{cs:List Cl}(h:fs.any p=false):eX p fs cs=cs:=by
 refine List.ext_getElem (dE ..) λj c a=>?_;rw[oZ a,zn];intro q;obtain⟨f,hf,e⟩:=List.any_eq_true.1 q;rw[zba]at e;rw[List.any_eq_true.2 ⟨f,hf,e.2⟩]at h;cases h
theorem aHG{p:Fr->Bool}{fs:List Fr}{cs:List Cl}{i j:Nat}(hi:i<fs.length)(hp:p fs[i]=true)(hj:j<cs.length)(hc:fs[i].col=(j:Int)):eX p (fs.take (i+1)) cs=(eX p (fs.take i) cs).set j Cl.zero:=by
 refine List.ext_getElem (by rw[List.length_set,dE,dE]) λc a g=>?_;rw[dE]at a;rw[oZ a,List.getElem_set,List.take_succ_eq_append_getElem hi,List.any_append];by_cases e:j=c
 ·subst e
  rw[zp rfl,zp];simp[hc,hp]
 ·rw[zn e,oZ a]
  have:([fs[i]].any λf=>decide (f.col=(c:Int))&&p f)=false:=by
   simp only[List.any_cons,List.any_nil,Bool.or_false,hc];rw[decide_eq_false (by omega)];rfl
  rw[this,Bool.or_false]
theorem aAX{p:Fr->Bool}{fs:List Fr}{cs:List Cl}{i:Nat}(hi:i<fs.length)(hp:p fs[i]=false):eX p (fs.take (i+1)) cs=eX p (fs.take i) cs:=by
 have e:∀c:Nat,((fs.take (i+1)).any λf=>decide (f.col=(c:Int))&&p f)=(fs.take i).any λf=>decide (f.col=(c:Int))&&p f:=λc=>by
  rw[List.take_succ_eq_append_getElem hi,List.any_append]
  simp only[List.any_cons,List.any_nil,hp,Bool.and_false,Bool.or_false]
 unfold eX;simp only[e]
theorem aEu{p:Fr->Bool}{fs:List Fr}{i:Nat}(hi:i<fs.length):(fs.take (i+1)).any p=((fs.take i).any p||p fs[i]):=by
 rw[List.take_succ_eq_append_getElem hi,List.any_append];simp
def lnV(l:Ln)(who:Dt):Option Nat->List PV
 |none=>l.cells
 |some id=>[vi l.key, .vec id 5 0 l.cells_.length, .seq ((dD l who).by_.map Dt.cells)]
def stO(st:aD)(cs:List Cl):Option Nat->aD
 |none=>st
 |some id=>upd st id (some (.arr 116 (cs.map Cl.cells)))
theorem aqA(l:Ln)(d:Dt):(dD l d).cells_=l.cells_/\(dD l d).key=l.key:=by
 unfold dD;split<;>exact⟨rfl,rfl⟩
theorem aGF(l:Ln)(cs:List Cl)(a:List Dt)(c:Int){st:aD}{id n:Nat}(e:st id=some (.arr 116 (cs.map Cl.cells)))(hn:cs.length=n)(h0:0<n)(h:eV ⟨l.key,cs,a⟩ c):PC Tryz.prog 45 [.agg [vi l.key, .vec id 5 0 n, .seq (a.map Dt.cells)],vi c] st λr S=>r=ptR (ptP ⟨l.key,cs,a⟩ c)/\S=st:=
 PC.borrow 0 e abW (by simpa[hn]using h0) (.cons (.agg (.cons .refl (.cons (eQ hn) (.cons .refl .nil)))) (.cons .refl .nil)) (WkL.refl _) (gV ⟨l.key,cs,a⟩ c h) (by cases ptP ⟨l.key,cs,a⟩ c<;>rfl)
theorem awO{l:Ln}{c k:Int}(h:ptP l c=some k):∃j:Nat,c=j/\j<l.cells_.length:=by
 by_cases hc:0<=c/\c<l.cells_.length
 ·exact⟨c.toNat,by omega,by omega⟩
 ·rw[acK hc]at h;cases h
theorem aGa{l:Ln}{p:Fr->Bool}{fs:List Fr}{c:Int}{a:List Dt}(h:∀f∈fs,f.col≠c):ptP ⟨l.key,eX p fs l.cells_,a⟩ c=ptP l c:=by
 by_cases hc:0<=c/\c<l.cells_.length
 ·obtain⟨j,rfl⟩:∃j:Nat,c=j:=⟨c.toNat,by omega⟩
  have hj:j<l.cells_.length:=by omega
  have g:j<(eX p fs l.cells_).length:=by rw[dE];exact hj
  rw[alE hj,alE (l:=⟨l.key,eX p fs l.cells_,a⟩) g];have e:(eX p fs l.cells_)[j]=l.cells_[j]:=by
   rw[oZ hj,zn];intro q;obtain⟨f,hf,e⟩:=List.any_eq_true.1 q;rw[zba,zde]at e;exact h f hf e.1
  show(if(eX p fs l.cells_)[j].val.kind=1 then some (eX p fs l.cells_)[j].val.n else none)=_;rw[e]
 ·rw[acK hc,acK]
  show¬(0<=c/\c<(eX p fs l.cells_).length);rwa[dE]
theorem aGg{l:Ln}{p:Fr->Bool}{fs:List Fr}{c:Int}{f:List Dt}(h:eV l c):eV ⟨l.key,eX p fs l.cells_,f⟩ c:=λj hj e=>by
 have a:j<(eX p fs l.cells_).length:=hj
 rw[dE]at a
 show(eX p fs l.cells_)[j].kind=0
 rw[oZ a]
 split
 ·rfl
 ·exact h j a e
theorem aJp{p:Fr->Bool}{fs:List Fr}{i:Nat}{f:Fr}(c:∀j (h:j<fs.length),j<i->p fs[j]=true)(h:i<fs.length)(e:fs[i]=f)(hf:p f=true):∀j (h:j<fs.length),j<i+1->p fs[j]=true:=λj hj a=>by
 rcases zls.1 a with q|q
 ·exact c j hj q
 ·subst q;rw[e];exact hf
theorem wkz :Wk (.agg [vi 0,vi 0,vi 0, .val (.string e0), .val (.slice none 0 0)]) (.agg Cl.zero.cells):= .agg (.cons (zwr _) (.cons (zwr _) (.cons (zwr _) (.cons (zwr _) (.cons Wk.nil .nil)))))
def aJ6(st:aD)(t:Tb)(l:Ln)(M:List R2)(who:Dt)(r:PV)(S:aD):Prop:=
 (wN t (inR M) l=false/\r= .tup [.agg [vi 0, .val (.slice none 0 0), .val (.slice none 0 0)],vb false]/\StSub st S)\/(wN t (inR M) l=true/\aCJ t (inR M) l=false/\r= .tup [.agg l.cells,vb true]/\S=st)\/
 (wN t (inR M) l=true/\aCJ t (inR M) l=true/\∃id,r= .tup [.agg (lnV l who (some id)),vb true]/\st id=none/\S=upd st id (some (.arr 116 ((eX (eH (inR M) l) t.foreign l.cells_).map Cl.cells))))
theorem aFR (t:Tb) (l:Ln) (M:List R2) (who:Dt) (hf:t.foreign.length<1000000000000) (hc:l.cells_.length<1000000000000) (hb:l.by_.length<100000000000) (hR:∀f∈t.foreign,eV l f.col) (hD:∀i j (hi:i<t.foreign.length) (hj:j<t.foreign.length),t.foreign[i].col=t.foreign[j].col->i=j) (st:aD):
  PC Tryz.prog 186 [.agg t.cells, .agg l.cells, .fmap (aV nZ bF (mE M)), .agg who.cells] st (aJ6 st t l M who):=by
 have hw:=adU l who hb
 obtain ⟨w1,w2⟩:=aqA l who
 have ew:(dD l who).cells=[(vi (l.key)), .seq (l.cells_.map Cl.cells), .seq ((dD l who).by_.map Dt.cells)]:=by show [(vi ((dD l who).key)), .seq ((dD l who).cells_.map Cl.cells),_]=_;rw [w1,w2]
 rw [ew] at hw
 have hcl:=ahF l.cells_
 refine pC Tryz.func186 rfl ?_
 focus ((repeat' first|apply wZ;rfl|show Cn _;constructor))
 refine aC (X:={x:Nat×Option Nat//x.1<=t.foreign.length/\(∀j (h:j<t.foreign.length),j<x.1->(!eH (inR M) l t.foreign[j]||decide (t.foreign[j].act=2))=true)/\x.2.isSome=(t.foreign.take x.1).any (eH (inR M) l)/\∀id,x.2=some id->st id=none}) (λi=>(((((((((St.nil 61 (stO st (eX (eH (inR M) l) (t.foreign.take i.1.1) l.cells_) i.1.2)).pv 2 (.fmap (aV nZ bF (mE M)))).var 5 106 (lnV l who i.1.2)).var 7 69 (who.cells)).var 8 106 ([(vi (0)), .val (.slice none 0 0), .val (.slice none 0 0)])).pv 10 ((vb (i.1.2.isSome)))).pv 16 (.seq (t.foreign.map Fr.cells))).pv 17 ((vi (((t.foreign.map Fr.cells).length:Nat))))).pv 18 ((vi ((i.1.1:Nat)))))) (λi=>t.foreign.length-i.1.1) ⟨(0,none),by simp,by simp,by simp,by simp⟩ ?_ (λi=> ?_)
 ·dsimp only [stO,lnV,Option.isSome]
  (repeat' first|show Cn (.t _ _);exact Cn.t0|show Cn _;constructor|exact rfl)
 obtain ⟨⟨i,o⟩,hi,hI,ho,hid⟩:=i
 simp only at hi hI ho hid
 dsimp only
 by_cases hend:t.foreign.length<=i
 ·have e1:wN t (inR M) l=true:=zal.2 λf hf=>by
   obtain ⟨j,hj,rfl⟩:=zgo hf
   exact hI j hj (by omega)
  rw [ztl hend] at ho⊢
  cases o with
  |none=>
   dsimp only [stO,lnV,Option.isSome] at ho⊢
   have e2:aCJ t (inR M) l=false:=ho.symm
   (repeat' first|show Cn (.r _ _ _);refine .rr ?_;(exact .inr (.inl ⟨e1,e2,rfl,rfl⟩));done|apply wZ;rfl|show Cn _;constructor|simp only [zql];omega|(intro h;simp at h))
  |some id=>
   dsimp only [stO,lnV,Option.isSome] at ho⊢
   have e2:aCJ t (inR M) l=true:=ho.symm
   have hid:=hid id rfl
   (repeat' first|show Cn (.r _ _ _);refine .rr ?_;(exact .inr (.inr ⟨e1,e2,id,rfl,hid,rfl⟩));done|apply wZ;rfl|show Cn _;constructor|simp only [zql];omega|(intro h;simp at h))
 have hil:i<t.foreign.length:=by omega
 have hRf:=hR _ (zgm hil)
 have hsn:=aEu (p:=eH (inR M) l) hil
 have hsame:=aAX (p:=eH (inR M) l) (cs:=l.cells_) hil
 have hup:=λj=>aHG (p:=eH (inR M) l) (cs:=l.cells_) (j:=j) hil
 have hne:∀f∈t.foreign.take i,f.col≠t.foreign[i].col:=λf hf e=>by
  obtain ⟨j,hj,rfl⟩:=zgo hf
  rw [zlt] at hj
  rw [List.getElem_take] at e
  have:=hD j i (by omega) hil e
  omega
 have hbad:(!eH (inR M) l t.foreign[i]||decide (t.foreign[i].act=2))=false->wN t (inR M) l=false:=λh=>by
  unfold wN
  rw [<-Bool.not_eq_true,zal]
  intro q
  rw [q _ (zgm hil)] at h;cases h
 obtain ⟨f,hfe⟩:∃f,t.foreign[i]=f:=⟨_,rfl⟩
 have hAU:=λh=>aJp (p:=λf=> !eH (inR M) l f||decide (f.act=2)) hI hil hfe h
 rw [hfe] at hRf hsn hsame hne hbad hup
 have hgf:(t.foreign.map Fr.cells)[i]?=some f.cells:=by rw [List.getElem?_map,zgg hil,hfe];rfl
 cases o with
 |none=>
  dsimp only [stO,lnV,Option.isSome] at ho⊢
  have hp:=gV l f.col hRf
  cases hpt:ptP l f.col with
  |none=>
   have hh:eH (inR M) l f=false:=aiV hpt
   have hU:=hAU (by rw [hh];rfl)
   have ho2:(none:Option Nat).isSome=(t.foreign.take (i+1)).any (eH (inR M) l):=by rw [hsn,hh,Bool.or_false];exact ho
   rw [hpt] at hp
   (repeat' first|apply lkS (M:=M) (k:=(f.table,0));(iterate 5 rfl);rotate_left;rfl;rfl|(apply Cn.cf;focus ((apply hp);done))|(refine ⟨⟨(i+1,none),by simp only;omega,hU,ho2,by simp⟩, ?_, ?_⟩)|show Cn (.t _ _);exact Cn.t0|apply wZ;rfl|show Cn _;constructor|exact rfl|apply cL pk;(iterate 6 rfl);rotate_left;rfl;(intro hw;rfl);(intro hw;apply hgf<;>omega);(intro _;rfl);rfl|apply wY;rfl|omega|simp only [zql];omega|(intro h;simp at h))
  |some k=>
   rw [hpt] at hp
   have hh:eH (inR M) l f=inR M (f.table,k):=aiN hpt
   cases hG:inR M (f.table,k) with
   |false=>
    rw [hG] at hh
    have hU:=hAU (by rw [hh];rfl)
    have ho2:(none:Option Nat).isSome=(t.foreign.take (i+1)).any (eH (inR M) l):=by rw [hsn,hh,Bool.or_false];exact ho
    (repeat' first|apply lkS (M:=M) (k:=(f.table,k));(iterate 5 rfl);rotate_left;rfl;rfl;rw [hG]|(apply Cn.cf;focus ((apply hp);done))|(refine ⟨⟨(i+1,none),by simp only;omega,hU,ho2,by simp⟩, ?_, ?_⟩)|show Cn (.t _ _);exact Cn.t0|apply wZ;rfl|show Cn _;constructor|exact rfl|apply cL pk;(iterate 6 rfl);rotate_left;rfl;(intro hw;rfl);(intro hw;apply hgf<;>omega);(intro _;rfl);rfl|apply wY;rfl|omega|simp only [zql];omega|(intro h;simp at h))
   |true=>
    rw [hG] at hh
    by_cases ha:f.act=2
    ·have hU:=hAU (by rw [hh,decide_eq_true ha];rfl)
     obtain ⟨j,hj,hjl⟩:=awO hpt
     have hn0:eX (eH (inR M) l) (t.foreign.take i) l.cells_=l.cells_:=aGr ho.symm
     have e1:eX (eH (inR M) l) (t.foreign.take (i+1)) l.cells_=l.cells_.set j Cl.zero:=by rw [hup j hh hjl hj,hn0]
     have ho2:∀id:Nat,(some id).isSome=(t.foreign.take (i+1)).any (eH (inR M) l):=λid=>by rw [hsn,hh,Bool.or_true];rfl
     have hgj:(l.cells_.map Cl.cells)[j]?=some (l.cells_[j]'hjl).cells:=by rw [List.getElem?_map,zgg hjl];rfl
     (repeat' first|apply lkS (M:=M) (k:=(f.table,k));(iterate 5 rfl);rotate_left;rfl;rfl;rw [hG]|(apply Cn.cf;focus (((first|apply hp|apply hw));done))|(apply cP;rfl;(apply (hcl st hc));rintro _ st' (⟨id,rfl,hid0,rfl⟩))|refine ⟨⟨(i+1,some id),by simp only;omega,hU,ho2 id,λ_ h=>by cases h;exact hid0⟩, ?_, ?_⟩;((dsimp only [stO,lnV,Option.isSome];rw [e1,List.map_set]))|show Cn (.t _ _);exact .any (cN (by (((simp only [St.pv,St.put,St.sst,St.setv,St.nil,St.var,eI]);(rfl)))))|apply wZ;rfl|show Cn _;constructor|exact rfl|apply cL pk;(iterate 6 rfl);rotate_left;rfl;(intro hw;rfl);(intro hw;apply hgf<;>omega);(intro _;rfl);rfl|apply ixA pk;(iterate 5 rfl);rotate_left;rfl;(intro hw;(exact (show _=((j:Nat):Int) from by omega)));(intro hw;(omega));rfl;(exact Nat.zero_add _)|apply aH1 57;rfl;exact wkz|apply stX pk;rfl;rfl;exact aA _ _ _;rfl;exact hgj;rfl;rfl|apply wY;rfl|omega|simp only [zql];omega|(intro h;simp at h)|intro h)
    ·have hb:=hbad (by rw [hh,decide_eq_false ha];rfl)
     (repeat' first|apply lkS (M:=M) (k:=(f.table,k));(iterate 5 rfl);rotate_left;rfl;rfl;rw [hG]|(apply Cn.cf;focus ((apply hp);done))|show Cn (.r _ _ _);refine .rr ?_;(exact .inl ⟨hb,rfl,zsr _⟩);done|apply wZ;rfl|show Cn _;constructor|apply cL pk;(iterate 6 rfl);rotate_left;rfl;(intro hw;rfl);(intro hw;apply hgf<;>omega);(intro _;rfl);rfl|apply wY;rfl|omega|simp only [zql];omega|(intro h;simp at h)|intro h)
 |some id=>
  dsimp only [stO,lnV,Option.isSome] at ho⊢
  have hid0:=hid id rfl
  have h0:0<l.cells_.length:=by
   obtain ⟨f',_,hf'⟩:=List.any_eq_true.1 ho.symm
   obtain ⟨k,hk,_⟩:=aDp.1 hf'
   obtain ⟨j,_,hj⟩:=awO hk
   omega
  have hlenN:(eX (eH (inR M) l) (t.foreign.take i) l.cells_).length=l.cells_.length:=dE ..
  have hp:=aGF l (eX (eH (inR M) l) (t.foreign.take i) l.cells_) (dD l who).by_ f.col (st:=upd st id (some (.arr 116 ((eX (eH (inR M) l) (t.foreign.take i) l.cells_).map Cl.cells)))) (id:=id) (aA _ _ _) hlenN h0 (aGg hRf)
  rw [aGa hne] at hp
  have ho2:(some id).isSome=(t.foreign.take (i+1)).any (eH (inR M) l):=by rw [hsn,<-ho];rfl
  cases hpt:ptP l f.col with
  |none=>
   have hh:eH (inR M) l f=false:=aiV hpt
   have hU:=hAU (by rw [hh];rfl)
   have e1:=hsame hh
   rw [hpt] at hp
   (repeat' first|apply lkS (M:=M) (k:=(f.table,0));(iterate 5 rfl);rotate_left;rfl;rfl|(apply cP;rfl;(apply hp);rintro _ st' (⟨rfl,rfl⟩))|refine ⟨⟨(i+1,some id),by simp only;omega,hU,ho2,λ_ h=>by cases h;exact hid0⟩, ?_, ?_⟩;((dsimp only [stO,lnV,Option.isSome];rw [e1]))|show Cn (.t _ _);exact Cn.t0|apply wZ;rfl|show Cn _;constructor|exact rfl|apply cL pk;(iterate 6 rfl);rotate_left;rfl;(intro hw;rfl);(intro hw;apply hgf<;>omega);(intro _;rfl);rfl|apply wY;rfl|omega|simp only [zql];omega|(intro h;simp at h))
  |some k=>
   rw [hpt] at hp
   have hh:eH (inR M) l f=inR M (f.table,k):=aiN hpt
   cases hG:inR M (f.table,k) with
   |false=>
    rw [hG] at hh
    have hU:=hAU (by rw [hh];rfl)
    have e1:=hsame hh
    (repeat' first|apply lkS (M:=M) (k:=(f.table,k));(iterate 5 rfl);rotate_left;rfl;rfl;rw [hG]|(apply cP;rfl;(apply hp);rintro _ st' (⟨rfl,rfl⟩))|refine ⟨⟨(i+1,some id),by simp only;omega,hU,ho2,λ_ h=>by cases h;exact hid0⟩, ?_, ?_⟩;((dsimp only [stO,lnV,Option.isSome];rw [e1]))|show Cn (.t _ _);exact Cn.t0|apply wZ;rfl|show Cn _;constructor|exact rfl|apply cL pk;(iterate 6 rfl);rotate_left;rfl;(intro hw;rfl);(intro hw;apply hgf<;>omega);(intro _;rfl);rfl|apply wY;rfl|omega|simp only [zql];omega|(intro h;simp at h))
   |true=>
    rw [hG] at hh
    by_cases ha:f.act=2
    ·have hU:=hAU (by rw [hh,decide_eq_true ha];rfl)
     obtain ⟨j,hj,hjl⟩:=awO hpt
     have e1:=hup j hh hjl hj
     have hjn:j<(eX (eH (inR M) l) (t.foreign.take i) l.cells_).length:=by rw [hlenN];exact hjl
     have hgj:((eX (eH (inR M) l) (t.foreign.take i) l.cells_).map Cl.cells)[j]?=some ((eX (eH (inR M) l) (t.foreign.take i) l.cells_)[j]'hjn).cells:=by rw [List.getElem?_map,zgg hjn];rfl
     (repeat' first|apply lkS (M:=M) (k:=(f.table,k));(iterate 5 rfl);rotate_left;rfl;rfl;rw [hG]|(apply cP;rfl;(apply hp);rintro _ st' (⟨rfl,rfl⟩))|refine ⟨⟨(i+1,some id),by simp only;omega,hU,ho2,λ_ h=>by cases h;exact hid0⟩, ?_, ?_⟩;((dsimp only [stO,lnV,Option.isSome];rw [e1,List.map_set]))|show Cn (.t _ _);exact .any (cN (by (((simp only [St.pv,St.put,St.sst,St.setv,St.nil,St.var,eI]);(rfl)))))|apply wZ;rfl|show Cn _;constructor|exact rfl|apply cL pk;(iterate 6 rfl);rotate_left;rfl;(intro hw;rfl);(intro hw;apply hgf<;>omega);(intro _;rfl);rfl|apply ixA pk;(iterate 5 rfl);rotate_left;rfl;(intro hw;(exact (show _=((j:Nat):Int) from by omega)));(intro hw;(omega));rfl;(exact Nat.zero_add _)|apply aH1 57;rfl;exact wkz|apply stX pk;rfl;rfl;exact aA _ _ _;rfl;exact hgj;rfl;rfl|apply wY;rfl|omega|simp only [zql];omega|(intro h;simp at h)|intro h)
    ·have hb:=hbad (by rw [hh,decide_eq_false ha];rfl)
     (repeat' first|apply lkS (M:=M) (k:=(f.table,k));(iterate 5 rfl);rotate_left;rfl;rfl;rw [hG]|(apply cP;rfl;(apply hp);rintro _ st' (⟨rfl,rfl⟩))|show Cn (.r _ _ _);refine .rr ?_;(exact .inl ⟨hb,rfl,bK hid0⟩);done|apply wZ;rfl|show Cn _;constructor|apply cL pk;(iterate 6 rfl);rotate_left;rfl;(intro hw;rfl);(intro hw;apply hgf<;>omega);(intro _;rfl);rfl|apply wY;rfl|omega|simp only [zql];omega|(intro h;simp at h)|intro h)
def aDg(t:Tb)(G:R2->Bool)(who:Dt)(l:Ln):PV:=if wN t G l=true then .tup [.agg (lT t G who l).cells,vb true]else .tup [.agg Ln.zero.cells,vb false]
theorem aBi(t:Tb)(l:Ln)(M:List R2)(who:Dt)(hf:t.foreign.length<1000000000000)(hc:l.cells_.length<1000000000000)(hb:l.by_.length<100000000000)(k:∀f∈t.foreign,eV l f.col)(g:∀i j (hi:i<t.foreign.length) (hj:j<t.foreign.length),t.foreign[i].col=t.foreign[j].col->i=j):
  PF Tryz.prog 186 [.agg t.cells, .agg l.cells, .fmap (aV nZ bF (mE M)), .agg who.cells] (aDg t (inR M) who l):=λst=>
 fD (sz:=5) (aFR t l M who hf hc hb k g st) λp st' h=>by
  unfold aDg
  rcases h with⟨a,rfl,c⟩|⟨a,c,rfl,rfl⟩|⟨a,c,id,rfl,e,rfl⟩
  ·rw[zn (by rw[a];simp)]
   exact .inr ⟨_,_,Wk.tup (.cons (.agg (.cons (zwr _) (.cons Wk.nil (.cons Wk.nil .nil)))) (.cons (zwr _) .nil)),c,rfl,rfl⟩
  ·rw[zp a]
   unfold lT;rw[zn (by rw[c];simp)];exact .inr ⟨_,_,zwr _,zsr _,rfl,rfl⟩
  ·rw[zp a]
   unfold lT;rw[zp c];exact .inl ⟨id,116,(eX (eH (inR M) l) t.foreign l.cells_).map Cl.cells,_,st,aA _ _ _,abW, .tup (.cons (.agg (.cons .refl (.cons (eQ (dE ..)) (.cons .refl .nil)))) (.cons .refl .nil)),bU e,rfl,rfl⟩
end
section
attribute [local irreducible] Ev PWp
set_option maxRecDepth 10000
set_option maxHeartbeats 4000000
theorem aHj(s:Sc)(hl:s.length<1000000000000)(st:aD):PC Tryz.prog 41 [.agg (scC s)] st λr S=>∃id,r= .agg [.vec id 1 0 s.length]/\st id=none/\S=upd st id (some (.arr 101 ((List.replicate s.length ()).map adF))):=by
 refine pC Tryz.func41 rfl ?_
 repeat' first|show Cn (.r _ _ _);refine .rr ?_;(exact⟨id,rfl,a,rfl⟩);done|apply wZ;rfl|show Cn _;constructor|apply aGJ pk () (f:=adF) (n:=s.length) (B:=24);(iterate 11 rfl);(focus(simp;done));(focus(simp;done));exact ajV;omega;omega;intro id a
def kS(n k:Nat)(f:Nat->List Ln):List (List PV):=(List.range n).map λj=>if j<k then[.seq ((f j).map Ln.cells)]else[.val (.slice none 0 0)]
theorem awC(n:Nat)(f:Nat->List Ln):kS n 0 f=(List.replicate n ()).map adF:=by
 refine List.ext_getElem (by simp[kS]) λj a c=>?_;simp[kS,adF]
theorem aCn{n k:Nat}(h:k<n)(f:Nat->List Ln):(kS n k f)[k]?=some [.val (.slice none 0 0)]:=by simp[kS,h]
theorem aBb{n k:Nat}(f:Nat->List Ln):(kS n k f).set k [.seq ((f k).map Ln.cells)]=kS n (k+1) f:=by
 refine List.ext_getElem (by simp[kS]) λj a c=>?_;rw[List.getElem_set];simp only[kS,List.getElem_map,List.getElem_range];by_cases e:k=j
 ·subst e;rw[zp rfl,zp (Nat.lt_succ_self _)]
 ·rw[zn e]
  by_cases h:j<k
  ·rw[zp h,zp (by omega)]
  ·rw[zn h,zn (by omega)]
theorem aBM(n:Nat)(f:Nat->List Ln):kS n n f=((List.range n).map λj=>(⟨f j⟩:Da)).map Da.cells:=by
 unfold kS;rw[List.map_map];refine List.map_congr_left λj hj=>?_;rw[zp (List.mem_range.1 hj)];rfl
theorem aBh(n k:Nat)(f:Nat->List Ln):(kS n k f).length=n:=by simp[kS]
section
variable{st:aD}{idT idL id':Nat}
theorem aCr{x a o:Option AObj}(h:idL≠idT):StSub (upd (upd st idL a) idT o) (upd (upd (upd st idT x) idL a) idT o):=cN (by rw[eR (Ne.symm h),eI])
theorem awG{a b b' o g i:Option AObj}(h:st idL=none)(n:idL≠idT)(k:b'=b)(m:i=g):StSub (upd (upd st id' b') idT i) (upd (upd (upd (upd (upd st idL a) idT o) idL none) id' b) idT g):=λj=>by
 subst k;subst m
 by_cases c:j=idT
 ·subst c;right;rw[aA,aA]
 ·rw[aB c,aB c]
  by_cases e:j=id'
  ·subst e;right;rw[aA,aA]
  ·rw[aB e,aB e]
   by_cases f:j=idL
   ·subst f;left;exact h
   ·right;rw[aB f,aB c,aB f]
theorem aAy{a o f g:Option AObj}(h:st idL=none)(k:idL≠idT)(i:g=f):StSub (upd st idT g) (upd (upd (upd (upd st idL a) idT o) idL none) idT f):=λj=>by
 subst i
 by_cases c:j=idT
 ·subst c;right;rw[aA,aA]
 ·rw[aB c,aB c]
  by_cases e:j=idL
  ·subst e;left;exact h
  ·right;rw[aB e,aB c,aB e]
theorem atW{a o:Option AObj}(h:st idL=none)(c:st idT=none):StSub st (upd (upd st idL a) idT o):=λj=>by
 cases hj:st j with
 |none=>exact .inl rfl
 |some x=>
  right;rw[aB (λe=>by subst e;rw[c]at hj;cases hj),aB (λe=>by subst e;rw[h]at hj;cases hj),hj]
theorem uT{a o:AObj}(h:upd (upd st idL (some a)) idT (some o) id'=none):idT≠id'/\st id'=none:=by
 by_cases e:id'=idT
 ·rw[e,aA]at h;cases h
 ·rw[aB e]at h
  refine⟨Ne.symm e,?_⟩;by_cases c:id'=idL
  ·rw[c,aA]at h;cases h
  ·rwa[aB c]at h
end
def pM(s:Sc)(b:Bs)(G:R2->Bool)(who:Dt)(k y:Nat):List Ln:=((b[k]!.lines.take y).filter λl=> !G ((k:Int),l.key)).map (lT s[k]! G who)
def rX(s:Sc)(b:Bs)(G:R2->Bool)(who:Dt)(k:Nat):List Ln:=(b[k]!.lines.filter λl=> !G ((k:Int),l.key)).map (lT s[k]! G who)
def abA(s:Sc)(b:Bs)(G:R2->Bool)(who:Dt):Bs:=(List.range b.length).map λk=>⟨rX s b G who k⟩
def acY(t:Tb)(G:R2->Bool)(k:Nat)(l:Ln):Bool:=G ((k:Int),l.key)||wN t G l
def anT(s:Sc)(b:Bs)(G:R2->Bool):Bool:=(List.range b.length).all λk=>b[k]!.lines.all (acY s[k]! G k)
theorem aHp{s:Sc}{b:Bs}{G:R2->Bool}{who:Dt}{k y:Nat}(h:y<b[k]!.lines.length):pM s b G who k (y+1)=if G ((k:Int),b[k]!.lines[y].key)=true then pM s b G who k y else pM s b G who k y++[lT s[k]! G who b[k]!.lines[y]]:=by
 unfold pM;rw[List.take_succ_eq_append_getElem h,List.filter_append,List.map_append,aeA];cases hg:G ((k:Int),b[k]!.lines[y].key)<;>simp
theorem aDq{s:Sc}{b:Bs}{G:R2->Bool}{who:Dt}{k:Nat}:pM s b G who k b[k]!.lines.length=rX s b G who k:=by unfold pM rX;rw[List.take_length]
theorem aEw(s:Sc)(b:Bs)(G:R2->Bool)(who:Dt)(k y:Nat):(pM s b G who k y).length<=b[k]!.lines.length:=by
 unfold pM;rw[zql];exact Nat.le_trans (List.length_filter_le ..) (by rw[zlt];omega)
theorem aFY{s:Sc}{b:Bs}{G:R2->Bool}{k y:Nat}(hk:k<b.length)(hy:y<b[k].lines.length)(h:acY s[k]! G k b[k].lines[y]=false):anT s b G=false:=by
 unfold anT;rw[<-Bool.not_eq_true,zal];intro q;have:=q k (List.mem_range.2 hk);rw[getElem!_pos b k hk]at this;have:=zal.1 this _ (zgm hy);rw[h]at this;cases this
structure FolD (s:Sc) (b:Bs):Prop extends Fol s b where
 ln:∀k (h:k<b.length),b[k].lines.length<=100000
 cl:∀k (h:k<b.length),∀l∈b[k].lines,l.cells_.length<100000000000/\l.by_.length<100000000000
 cols:∀k (h:k<s.length),∀i j (hi:i<s[k].foreign.length) (hj:j<s[k].foreign.length),s[k].foreign[i].col=s[k].foreign[j].col->i=j
def aJ5(s:Sc)(b:Bs)(who:Dt)(M:List R2)(st:aD)(r:PV)(S:aD):Prop:=
 (anT s b (inR M)=false/\r= .tup [.agg [.val (.slice none 0 0)],vi 10]/\StSub st S)\/(anT s b (inR M)=true/\∃id,r= .tup [.agg [.vec id 1 0 b.length],vi 0]/\S id=some (.arr 101 ((abA s b (inR M) who).map Da.cells))/\StSub st (upd S id none))
theorem aIo{s:Sc}{b:Bs}(E:FolD s b)(hr:PF Tryz.prog 19 [.agg (scC s), .agg (bsC b)] (vb true))(z:R2)(who:Dt)(hz:agU b z=true)(st:aD):PC Tryz.prog 119 [.agg (scC s), .agg (bsC b),vi z.1,vi z.2, .agg who.cells] st (aJ5 s b who (vX s b z) st):=by
 have hk:=amP E.toFol (λd hd=>by obtain⟨k,hk,rfl⟩:=zgo hd;have:=E.ln k hk;omega) z;unfold aHw at hk;have hM0:0<(vX s b z).length:=by
  unfold vX;rw[zp hz];exact List.length_pos_of_mem ((aIv E.len (aqF.1 hz)).me z rfl)
 obtain⟨⟨L,s16,f16,o,hlns⟩,ln,F,P⟩:=E;have hnew:=aHj s (by omega);generalize vX s b z=M at*;refine pC Tryz.func119 rfl ?_;have C:aV nZ bF (mE M)≠[]:=λe=>by
  have:=congrArg List.length e
  unfold aV mE at this
  rw[zql,zql]at this
  simp only[List.length_nil]at this;omega
 have hI:∀k y,(pM s b (inR M) who k y).length<=b[k]!.lines.length:=λk y=>aEw s b (inR M) who k y
 focus(repeat' first|apply lnF pk;rfl;rfl;rfl;rotate_left;rfl;rfl|apply Cn.cf;focus(((first|apply hr|apply hk));done)|apply cP;rfl;(apply hnew st);rintro _ st' (⟨idT,rfl,hidT,rfl⟩)|apply wZ;rfl|show Cn _;constructor|apply wY;rfl|(exfalso;first|exact C h|fail)|intro h;simp at h)
 have A:st idT=none:=hidT;have O:StSub (upd st idT (some (.arr 101 (kS b.length 0 (rX s b (inR M) who))))) (upd st idT (some (.arr 101 ((List.replicate s.length ()).map adF)))):=by rw[awC,L];exact zsr _
 refine aC (X:={x:Nat//x<=b.length/\∀k (h:k<b.length),k<x->∀y (h:y<b[k].lines.length),acY s[k]! (inR M) k b[k].lines[y]=true}) (λi=>(((((((((St.nil 89 (upd st idT (some (.arr 101 (kS b.length i.1 (rX s b (inR M) who)))))).var 5 24 (scC s)).var 9 69 (who.cells)).var 10 27 ([.val (.slice none 0 0)])).pv 12 (.fmap (aV nZ bF (mE M)))).var 13 27 ([.vec idT 1 0 s.length])).pv 37 (.seq (b.map Da.cells))).pv 38 (vi ((b.map Da.cells).length:Nat))).pv 39 (vi (i.1:Nat)))) (λi=>b.length-i.1) ⟨0,by omega,by simp⟩ ?_ λi=>?_
 ·repeat' first|exact .any O|show Cn _;constructor|exact rfl
 obtain⟨i,hi,W⟩:=i;dsimp only;by_cases hend:b.length<=i
 ·obtain rfl:i=b.length:=by omega
  have hmay:anT s b (inR M)=true:=by
   unfold anT;rw[zal];intro k hk;have hk:=List.mem_range.1 hk;rw[getElem!_pos b k hk,zal];intro l hl;obtain⟨y,hy,rfl⟩:=zgo hl;exact W k hk hk y hy
  rw[aBM]
  repeat' first|show Cn (.r _ _ _);refine .rr ?_;(exact .inr ⟨hmay,idT,by rw[L],aA _ _ _,bU A⟩);done|apply wZ;rfl|show Cn _;constructor|simp only[zql];omega|intro h;simp at h
 have u:i<b.length:=by omega
 have p:i<s.length:=by omega
 have hrow:=aCn u (rX s b (inR M) who);have hset:=aBb (n:=b.length) (k:=i) (rX s b (inR M) who);have hrl:=aBh b.length i (rX s b (inR M) who);have j:=λy h=>aHp (s:=s) (b:=b) (G:=inR M) (who:=who) (k:=i) (y:=y) h;have U:=aDq (s:=s) (b:=b) (G:=inR M) (who:=who) (k:=i);have hI0:pM s b (inR M) who i 0=[]:=by simp[pM]
 have V:=hI i;have o:=o i p;have hln:=ln i u;have F:=F i u;have Z:=P i p;have hf16:=f16 i p;simp only[getElem!_pos b i u,getElem!_pos s i p]at j U V o;generalize kS b.length i (rX s b (inR M) who)=R at*
 focus(repeat' first|apply wZ;rfl|show Cn _;constructor|exact rfl|apply wI;rfl|apply gE;omega|simp only[zql];omega|intro h;simp at h)
 refine aqV (id:=idT) (k:=i) 106 3 (aA _ _ _) hrow rfl λidL K=>?_;have m:upd st idT (some (.arr 101 R)) idL=none:=K;have g:idL≠idT:=λe=>by rw[e,aA]at m;cases m
 have a:st idL=none:=by rwa[aB g]at m
 clear K m;have D:StSub (upd (upd st idL (some (.arr 106 ((pM s b (inR M) who i 0).map Ln.cells)))) idT (some (.arr 101 (R.set i [.vec idL 3 0 (pM s b (inR M) who i 0).length])))) (upd (upd (upd st idT (some (.arr 101 R))) idL (some (.arr 106 []))) idT (some (.arr 101 (R.set i [.vec idL 3 0 0])))):=by rw[hI0];exact aCr g
 refine aC (X:={x:Nat×Nat//x.1<=b[i].lines.length/\st x.2=none/\x.2≠idT/\∀y (h:y<b[i].lines.length),y<x.1->acY s[i] (inR M) i b[i].lines[y]=true}) (λy=>(((((((((((((St.nil 89 (upd (upd st y.1.2 (some (.arr 106 ((pM s b (inR M) who i y.1.1).map Ln.cells)))) idT (some (.arr 101 (R.set i [.vec y.1.2 3 0 (pM s b (inR M) who i y.1.1).length]))))).var 5 24 (scC s)).var 9 69 (who.cells)).var 10 27 ([.val (.slice none 0 0)])).pv 12 (.fmap (aV nZ bF (mE M)))).var 13 27 ([.vec idT 1 0 s.length])).pv 14 (vi (i:Nat))).pv 37 (.seq (b.map Da.cells))).pv 38 (vi ((b.map Da.cells).length:Nat))).pv 39 (vi (i:Nat))).pv 45 (.seq (b[i].lines.map Ln.cells))).pv 46 (vi ((b[i].lines.map Ln.cells).length:Nat))).pv 47 (vi (y.1.1:Nat)))) (λy=>b[i].lines.length-y.1.1) ⟨(0,idL),by simp,a,g,by simp⟩ ?_ λy=>?_
 ·dsimp only
  repeat' first|exact .any D|show Cn _;constructor|exact rfl
 clear a g D O;obtain⟨⟨y,idL⟩,hy,a,g,T⟩:=y;dsimp only at hy a g T;dsimp only;have N:=Ne.symm g;have H:(R.set i [.vec idL 3 0 (pM s b (inR M) who i y).length])[i]?=some [.vec idL 3 0 (pM s b (inR M) who i y).length]:=List.getElem?_set_self (by omega);have hIy:=V y;by_cases hend2:b[i].lines.length<=y
 ·obtain rfl:y=b[i].lines.length:=by omega
  rw[U]at H⊢;have hup:∀k (h:k<b.length),k<i+1->∀y (h:y<b[k].lines.length),acY s[k]! (inR M) k b[k].lines[y]=true:=λk hk hki v hv=>by
   rcases zls.1 hki with q|q
   ·exact W k hk q v hv
   ·subst q;rw[getElem!_pos s k p];exact T v hv hv
  refine auK (id:=idT) (idL:=idL) (k:=i) (aA _ _ _) H ((aB g).trans (aA _ _ _)) sC (zql _) N ?_;rw[List.set_set,hset]
  repeat' first|refine⟨⟨i+1,by omega,hup⟩,?_,?_⟩|show Cn (.s _ (St.nil _ _));refine .any ?_;exact Sub.nil _ _ _ (aAy a g rfl) rfl|apply wZ;rfl|show Cn _;constructor|exact rfl|omega|simp only[zql];omega|intro h;simp at h
 have I:y<b[i].lines.length:=by omega
 obtain⟨l,B⟩:∃l,b[i].lines[y]=l:=⟨_,rfl⟩;have C:l∈b[i].lines:=B▸zgm I;have Q:(b[i].lines.map Ln.cells)[y]?=some l.cells:=by rw[List.getElem?_map,zgg I,B];rfl
 have j:=j y I;rw[B]at j;have hyU:acY s[i] (inR M) i l=true->∀v (h:v<b[i].lines.length),v<y+1->acY s[i] (inR M) i b[i].lines[v]=true:=λh v hv hvy=>by
  rcases zls.1 hvy with q|q
  ·exact T v hv q
  ·subst q;rw[B];exact h
 have Y:acY s[i] (inR M) i l=false->anT s b (inR M)=false:=λh=>aFY u I (by rw[getElem!_pos s i p,B];exact h);have c:=aBi s[i] l M who (by omega) (by have:=(F l C).1;omega) (F l C).2 (λf hf=>o f hf l C) Z;unfold aDg at c;cases J:inR M ((i:Int),l.key)with
 |true=>
  rw[J,zp rfl]at j;have hU:=hyU (by unfold acY;rw[J];rfl)
  (repeat' first|apply lkS (M:=M) (k:=((i:Int),l.key));(iterate 5 rfl);rotate_left;rfl;rfl;rw[J]|refine⟨⟨(y+1,idL),by simp only;omega,a,g,hU⟩,?_,?_⟩;(dsimp only;rw[j])|show Cn (.t _ _);exact Cn.t0|apply wZ;rfl|show Cn _;constructor|exact rfl|apply cL pk;(iterate 6 rfl);rotate_left;rfl;(intro hw;rfl);(intro hw;apply Q<;>omega);(intro _;rfl);rfl|omega|simp only[zql];omega|intro h;simp at h)
 |false=>
  rw[J,zn (by simp)]at j;cases hL:wN s[i] (inR M) l with
  |false=>
   rw[hL,zn (by simp)]at c;have hb:=Y (by unfold acY;rw[J,hL];rfl)
   (repeat' first|apply lkS (M:=M) (k:=((i:Int),l.key));(iterate 5 rfl);rotate_left;rfl;rfl;rw[J]|apply wD pk [] [];kernel_rfl;rfl;rfl|apply Cn.cf;focus((apply c);done)|show Cn (.r _ _ _);refine .rr ?_;(exact .inl ⟨hb,rfl,atW a A⟩);done|apply wZ;rfl|show Cn _;constructor|exact rfl|apply cL pk;(iterate 6 rfl);rotate_left;rfl;(intro hw;rfl);(intro hw;apply Q<;>omega);(intro _;rfl);rfl|apply wY;rfl|apply wI;rfl|apply gE;omega|simp only[zql];omega|intro h;simp at h)
  |true=>
   rw[hL,zp rfl]at c;have hU:=hyU (by unfold acY;rw[J,hL];rfl);have S:(pM s b (inR M) who i (y+1)).length=(pM s b (inR M) who i y).length+1:=by rw[j,zla];rfl
   repeat' first|apply wD (id:=17) pk [11,14] [8];kernel_rfl;rfl;rfl|apply wD (id:=14) pk [] [];kernel_rfl;rfl;rfl|apply lkS (M:=M) (k:=((i:Int),l.key));(iterate 5 rfl);rotate_left;rfl;rfl;rw[J]|apply Cn.cf;focus((apply c);done)|refine⟨⟨(y+1,id'),by simp only;omega,(uT w).2,Ne.symm (uT w).1,hU⟩,?_,?_⟩;(dsimp only)|show Cn (.s _ (St.nil _ _));refine .any ?_;exact Sub.nil _ _ _ (awG a g (by rw[j]) (by rw[List.set_set,S];rfl)) rfl|apply wZ;rfl|show Cn _;constructor|exact rfl|apply cL pk;(iterate 6 rfl);rotate_left;rfl;(intro hw;rfl);(intro hw;apply Q<;>omega);(intro _;rfl);rfl|apply apV pk (f:=Ln.cells) [lT s[i] (inR M) who l] 56;(iterate 9 rfl);(focus((repeat (first|exact aA _ _ _|refine(aB ‹_›).trans ?_));done));(omega);exactλ_=>rfl;exactλ_=>rfl;exact ajW;(focus(simp;omega));(focus(simp;omega));rfl;intro id' w|apply ixA pk;(iterate 5 rfl);rotate_left;rfl;(intro hw;(exact(show _=((i:Nat):Int)from by omega)));(intro hw;(omega));rfl;(exact Nat.zero_add _)|apply ldX pk;rfl;rfl;rotate_left;rfl;exact aA _ _ _;rfl;exact H;rfl;rfl|have hq:=uT w;apply stX pk;rfl;rfl;exact(aB hq.1).trans ((aB N).trans (aA _ _ _));rfl;exact H;rfl;rfl|apply wY;rfl|apply wI;rfl|apply gE;omega|omega|simp only[zql];omega|intro h;simp at h
end
section
attribute [local irreducible] Ev PWp
set_option maxRecDepth 10000
set_option maxHeartbeats 4000000
def yG(a:Bool)(s:Sc)(b:Bs)(z:R2)(who:Dt)(M:List R2):Bs×Int:=if a=true then(if agU b z=true then(if anT s b (inR M)=true then(abA s b (inR M) who,0)else([],10))else([],4))else([],1)
def oS(o:Bs×Int):PV:= .tup [.agg (bsC o.1),vi o.2]
theorem oY(e:Int):Wk (.tup [.agg [.val (.slice none 0 0)],vi e]) (oS ([],e)):=Wk.tup (.cons (.agg (.cons Wk.nil .nil)) (.cons (zwr _) .nil))
theorem aGq{f:FuncId}{args:List PV}{s:Sc}{b:Bs}{z:R2}{who:Dt}{M:List R2}{st:aD}(hz:agU b z=true)(h:PC Tryz.prog f args st (aJ5 s b who M st)):PC Tryz.prog f args st λr S=>r=oS (yG true s b z who M)/\S=st:=
 fD (sz:=1) h λp st' h=>by
  unfold yG
  rw[zp rfl,zp hz]
  rcases h with⟨a,rfl,c⟩|⟨a,id,rfl,c,e⟩
  ·rw[zn (by rw[a];simp)]
   exact .inr ⟨_,_,oY 10,c,rfl,rfl⟩
  ·rw[zp a]
   exact .inl ⟨id,101,(abA s b (inR M) who).map Da.cells,_,st,c,akB, .tup (.cons (.agg (.cons (eQ (by simp[abA])) .nil)) (.cons .refl .nil)),e,rfl,rfl⟩
theorem aJd{b:Bs}(h:∀k (h:k<b.length),b[k].lines.length<=100000):∀d∈b,d.lines.length<100000000000:=λd hd=>by obtain⟨k,hk,rfl⟩:=zgo hd;have:=h k hk;omega
theorem aEd{s:Sc}{b:Bs}{c:Bool}(e:PF Tryz.prog 19 [.agg (scC s), .agg (bsC b)] (vb c))(f:c=true->FolD s b)(z:R2)(who:Dt):PF Tryz.prog 119 [.agg (scC s), .agg (bsC b),vi z.1,vi z.2, .agg who.cells] (oS (yG c s b z who (vX s b z))):=by
 cases c with
 |false=>
  refine pF Tryz.func119 rfl λst=>?_
  (repeat' first|exact Cn.any ⟨_,_,_,rfl,oY 1,zsr _,rfl,rfl⟩|apply wZ;rfl|show Cn _;constructor|apply e|apply wY;rfl)
 |true=>
  have a:=f rfl;by_cases hz:agU b z=true
  ·exactλst=>aGq hz (aIo a e z who hz st)
  ·have hk:=amP a.toFol (aJd a.ln) z
   unfold aHw at hk;have g:vX s b z=[]:=by unfold vX;rw[zn hz]
   unfold yG;rw[zp rfl,zn hz];rw[g]at hk;refine pF Tryz.func119 rfl λst=>?_
   repeat' first|apply lnF pk;rfl;rfl;rfl;rotate_left;rfl;rfl|exact Cn.any ⟨_,_,_,rfl,oY 4,zsr _,rfl,rfl⟩|apply wZ;rfl|show Cn _;constructor|(first|apply e|apply hk)|apply wY;rfl
end
section
attribute [local irreducible] Ev PWp
set_option maxRecDepth 10000
set_option maxHeartbeats 4000000
variable{tx:Cl->Int}
theorem aEn{s:Sc}{b:Bs}(h:bC tx s b=true){k:Nat}(hk:k<s.length){f:Fr}(hf:f∈s[k].foreign){l:Ln}(hl:l∈b[k]!.lines):eV l f.col:=λj hj e=>by
 obtain⟨⟨g,i⟩,_⟩:=aU.1 h
 have a:k<b.length:=by omega
 rw[getElem!_pos b k a]at hl
 have hL:=sQ h a hl
 have c:=ayW g hk hf
 rw[hL.kind j hj,getElem!_pos s k hk]
 have:=c.kind
 rwa[show f.col.toNat=j by omega]at this
theorem aJn{s:Sc}{b:Bs}(h:bC tx s b=true)(e:BsS 1000 b):Fol s b:=by
 obtain⟨⟨a,c⟩,_⟩:=aU.1 h;exact⟨c,jT a,λk hk=>avG a hk,λk hk f hf l hl=>aEn h hk hf hl,λk hk=>by have:=(e.2 _ (zgm hk)).1;omega⟩
theorem aGy{s:Sc}{b:Bs}(h:bC tx s b=true)(a:BsS 1000 b):FolD s b:=
 ⟨aJn h a,λk hk=>by have:=(a.2 _ (zgm hk)).1;omega,λk hk l hl=>by have:=(a.2 _ (zgm hk)).2 l hl;exact⟨by have:=this.2.1;omega,by have:=this.1;omega⟩,λk hk i j hi hj e=>aJi (aU.1 h).1.1 hk i j hi hj e⟩
end
end Go.Proofs.YtnogfoojjaainaaGreatDoor
