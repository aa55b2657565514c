import Derived.Test.YtfablfldonhkiaaGreatDoorClAg
import Derived.Test.YtfablfldonhkiaaGreatDoorAbsK
import Derived.Test.YtfablfldonhkiaaGreatDoorAbsJ
set_option linter.unusedSimpArgs false
set_option linter.unusedVariables false
namespace Go.Proofs.YtfablfldonhkiaaGreatDoor
open Go Go.Abs
section
set_option maxRecDepth 10000
set_option maxHeartbeats 4000000
abbrev R2 :=Int×Int
def r2C (r:R2):List PV:=[(vi (r.1)),(vi (r.2))]
def ptP (l:Ln) (c:Int):Option Int:=if 0<=c/\c<l.cells_.length then (if l.cells_[c.toNat]!.val.kind=1 then some l.cells_[c.toNat]!.val.n else none) else none
def dW (G:R2->Bool) (l:Ln) (f:Fr):Bool:=match ptP l f.col with
 |some k=>G (f.table,k)
 |none=>false
theorem aBQ {G:R2->Bool} {l:Ln} {f:Fr}:dW G l f=true↔∃k,ptP l f.col=some k/\G (f.table,k)=true:=by
 unfold dW
 cases ptP l f.col<;>simp
def chB (s:Sc) (b:Bs) (x y:R2):Prop:=∃k,k<b.length/\∃f∈s[k]!.foreign,∃l∈b[k]!.lines,f.table=x.1/\f.act=1/\ptP l f.col=some x.2/\y=((k:Int),l.key)
def aGx (b:Bs) (k:Nat):List R2:=b[k]!.lines.map λl=>((k:Int),l.key)
def dX (b:Bs):List R2:=(List.range b.length).flatMap (aGx b)
theorem rD {b:Bs} {y:R2}:y∈dX b↔∃k,k<b.length/\∃l∈b[k]!.lines,y=((k:Int),l.key):=by
 simp only [dX,aGx,List.mem_flatMap,List.mem_range,List.mem_map]
 exact ⟨λ⟨k,hk,l,hl,e⟩=>⟨k,hk,l,hl,e.symm⟩,λ⟨k,hk,l,hl,e⟩=>⟨k,hk,l,hl,e.symm⟩⟩
inductive Reach (s:Sc) (b:Bs) (x:R2):R2->Prop
 |refl:Reach s b x x
 |step {y z:R2} (h:Reach s b x y) (c:chB s b y z):Reach s b x z
variable {s:Sc} {b:Bs}
theorem Reach.head {x y z:R2} (c:chB s b x y) (h:Reach s b y z):Reach s b x z:=by
 induction h with
 |refl=>exact .step .refl c
 |step _ c2 ih=>exact .step ih c2
def aF2 (s:Sc) (a:Int) (k:Nat):List (Nat×Nat):=((List.range s[k]!.foreign.length).filter λi=>decide (s[k]!.foreign[i]!.table=a)).map λi=>(k,i)
def eN (s:Sc) (a:Int):List (Nat×Nat):=(List.range s.length).flatMap (aF2 s a)
theorem mI {a:Int} {x:Nat×Nat}:x∈eN s a↔x.1<s.length/\x.2<s[x.1]!.foreign.length/\s[x.1]!.foreign[x.2]!.table=a:=by
 simp only [eN,aF2,List.mem_flatMap,List.mem_range,List.mem_map,List.mem_filter,zde]
 constructor
 ·rintro ⟨k,hk,i,⟨hi,e⟩,rfl⟩
  exact ⟨hk,hi,e⟩
 ·rintro ⟨h1,h2,h3⟩
  exact ⟨x.1,h1,x.2,⟨h2,h3⟩,rfl⟩
def goL (F:R2->List R2->List R2) (col key:Int) (k:Nat) (ls:List Ln) (M:List R2):List R2:=ls.foldl (λM l=>if ptP l col=some key then F ((k:Int),l.key) M else M) M
def goK (F:R2->List R2->List R2) (s:Sc) (b:Bs) (key:Int) (ks:List (Nat×Nat)) (M:List R2):List R2:=
 ks.foldl (λM x=>if s[x.1]!.foreign[x.2]!.act=1 then goL F s[x.1]!.foreign[x.2]!.col key x.1 b[x.1]!.lines M else M) M
def gR (s:Sc) (b:Bs):Nat->R2->List R2->List R2
 |0,_,M=>M
 |n+1,x,M=>if x∈M then M else goK (gR s b n) s b x.2 (eN s x.1) (M++[x])
structure Tk (s:Sc) (b:Bs) (C:R2->Prop) (M M':List R2):Prop where
 sub:∀y∈M,y∈M'
 nd:M'.Nodup
 all:∀y∈M',y∈dX b
 new:∀y∈M',y∈M\/∃c,C c/\Reach s b c y
 clo:∀y∈M',y∈M\/∀c,chB s b y c->c∈M'
 me:∀c,C c->c∈M'
theorem Tk.refl {C:R2->Prop} {M:List R2} (hn:M.Nodup) (ha:∀y∈M,y∈dX b) (hC:∀c,C c->c∈M):Tk s b C M M:=⟨λ_ h=>h,hn,ha,λ_ h=> .inl h,λ_ h=> .inl h,hC⟩
theorem Tk.trans {C D:R2->Prop} {M M1 M2:List R2} (h:Tk s b C M M1) (k:Tk s b D M1 M2):Tk s b (λc=>C c\/D c) M M2 where
 sub y hy:=k.sub y (h.sub y hy)
 nd:=k.nd
 all:=k.all
 new y hy:=by
  rcases k.new y hy with q|⟨c,q,r⟩
  ·rcases h.new y q with q|⟨c,q,r⟩
   ·exact .inl q
   ·exact .inr ⟨c, .inl q,r⟩
  ·exact .inr ⟨c, .inr q,r⟩
 clo y hy:=by
  rcases k.clo y hy with q|q
  ·rcases h.clo y q with q|q
   ·exact .inl q
   ·exact .inr λc hc=>k.sub c (q c hc)
  ·exact .inr q
 me c hc:=by
  rcases hc with q|q
  ·exact k.sub c (h.me c q)
  ·exact k.me c q
theorem Tk.imp {C D:R2->Prop} {M M':List R2} (h:Tk s b C M M') (hd:∀c,C c↔D c):Tk s b D M M':=
 ⟨h.sub,h.nd,h.all,λy hy=>(h.new y hy).imp id λ⟨c,q,r⟩=>⟨c,(hd c).1 q,r⟩,h.clo,λc hc=>h.me c ((hd c).2 hc)⟩
theorem tE :∀{M A:List R2},M.Nodup->(∀y∈M,y∈A)->M.length<=A.length
 |[],_,_,_=>Nat.zero_le _
 |x::M,A,hn,hs=>by
  obtain ⟨h1,h2⟩:=List.nodup_cons.1 hn
  have hx:=hs x (by simp)
  have:=tE (A:=A.erase x) h2 λy hy=>(List.mem_erase_of_ne (λe=>h1 (by rw [<-e];exact hy))).2 (hs y (by simp [hy]))
  rw [List.length_erase_of_mem hx] at this
  have:=List.length_pos_of_mem hx
  simp only [zlc];omega
theorem Tk.len {C:R2->Prop} {M M':List R2} (h:Tk s b C M M') (hn:M.Nodup):M.length<=M'.length:=tE hn h.sub
theorem agW {F:R2->List R2->List R2} {N:Nat} (hF:∀x M,x∈dX b->M.Nodup->(∀y∈M,y∈dX b)->N<=M.length->Tk s b (· =x) M (F x M)) (col key:Int) (k:Nat):∀(ls:List Ln) (M:List R2),(∀l∈ls,((k:Int),l.key)∈dX b)->M.Nodup->(∀y∈M,y∈dX b)->N<=M.length->
  Tk s b (λc=>∃l∈ls,ptP l col=some key/\c=((k:Int),l.key)) M (goL F col key k ls M)
 |[],M,_,hn,ha,_=> .refl hn ha λc h=>by obtain ⟨l,h,_⟩:=h;cases h
 |l::ls,M,hl,hn,ha,hN=>by
  unfold goL
  rw [List.foldl_cons]
  by_cases hp:ptP l col=some key
  ·rw [zp hp]
   have h1:=hF _ M (hl l (by simp)) hn ha hN
   have h2:=agW hF col key k ls _ (λx hx=>hl x (by simp [hx])) h1.nd h1.all (Nat.le_trans hN (h1.len hn))
   refine (h1.trans h2).imp λc=> ?_
   constructor
   ·rintro (rfl|⟨x,hx,q,e⟩)
    ·exact ⟨l,by simp,hp,rfl⟩
    ·exact ⟨x,by simp [hx],q,e⟩
   ·rintro ⟨x,hx,q,e⟩
    rcases zmc.1 hx with rfl|hx
    ·exact .inl e
    ·exact .inr ⟨x,hx,q,e⟩
  ·rw [zn hp]
   refine (agW hF col key k ls _ (λx hx=>hl x (by simp [hx])) hn ha hN).imp λc=> ?_
   constructor
   ·rintro ⟨x,hx,q,e⟩
    exact ⟨x,by simp [hx],q,e⟩
   ·rintro ⟨x,hx,q,e⟩
    rcases zmc.1 hx with rfl|hx
    ·exact absurd q hp
    ·exact ⟨x,hx,q,e⟩
theorem agN {F:R2->List R2->List R2} {N:Nat} (hF:∀x M,x∈dX b->M.Nodup->(∀y∈M,y∈dX b)->N<=M.length->Tk s b (· =x) M (F x M)) (key:Int):∀(ks:List (Nat×Nat)) (M:List R2),(∀x∈ks,x.1<b.length)->M.Nodup->(∀y∈M,y∈dX b)->N<=M.length->
  Tk s b (λc=>∃x∈ks,s[x.1]!.foreign[x.2]!.act=1/\∃l∈b[x.1]!.lines,ptP l s[x.1]!.foreign[x.2]!.col=some key/\c=((x.1:Int),l.key)) M (goK F s b key ks M)
 |[],M,_,hn,ha,_=> .refl hn ha λc h=>by obtain ⟨x,h,_⟩:=h;cases h
 |x::ks,M,hk,hn,ha,hN=>by
  unfold goK
  rw [List.foldl_cons]
  by_cases hp:s[x.1]!.foreign[x.2]!.act=1
  ·rw [zp hp]
   have h1:=agW hF s[x.1]!.foreign[x.2]!.col key x.1 b[x.1]!.lines M (λl hl=>rD.2 ⟨x.1,hk x (by simp),l,hl,rfl⟩) hn ha hN
   have h2:=agN hF key ks _ (λx hx=>hk x (by simp [hx])) h1.nd h1.all (Nat.le_trans hN (h1.len hn))
   refine (h1.trans h2).imp λc=> ?_
   constructor
   ·rintro (q|⟨y,hy,q⟩)
    ·exact ⟨x,by simp,hp,q⟩
    ·exact ⟨y,by simp [hy],q⟩
   ·rintro ⟨y,hy,q,r⟩
    rcases zmc.1 hy with rfl|hy
    ·exact .inl r
    ·exact .inr ⟨y,hy,q,r⟩
  ·rw [zn hp]
   refine (agN hF key ks _ (λx hx=>hk x (by simp [hx])) hn ha hN).imp λc=> ?_
   constructor
   ·rintro ⟨y,hy,q⟩
    exact ⟨y,by simp [hy],q⟩
   ·rintro ⟨y,hy,q,r⟩
    rcases zmc.1 hy with rfl|hy
    ·exact absurd q hp
    ·exact ⟨y,hy,q,r⟩
theorem aGW (hb:b.length=s.length) (x c:R2):(∃y∈eN s x.1,s[y.1]!.foreign[y.2]!.act=1/\∃l∈b[y.1]!.lines,ptP l s[y.1]!.foreign[y.2]!.col=some x.2/\c=((y.1:Int),l.key))↔chB s b x c:=by
 constructor
 ·rintro ⟨y,hy,h1,l,hl,h2,e⟩
  obtain ⟨q1,q2,q3⟩:=mI.1 hy
  exact ⟨y.1,by omega,s[y.1]!.foreign[y.2]!,by rw [getElem!_pos s[y.1]!.foreign y.2 q2];exact zgm q2,l,hl,q3,h1,h2,e⟩
 ·rintro ⟨k,hk,f,hf,l,hl,h1,h2,h3,e⟩
  obtain ⟨i,hi,rfl⟩:=zgo hf
  have e2:s[k]!.foreign[i]! =s[k]!.foreign[i]:=getElem!_pos ..
  exact ⟨(k,i),mI.2 ⟨by omega,hi,by rw [e2];exact h1⟩,by rw [e2];exact h2,l,hl,by rw [e2];exact h3,e⟩
theorem acP (hb:b.length=s.length):∀(n:Nat) (x:R2) (M:List R2),x∈dX b->M.Nodup->(∀y∈M,y∈dX b)->(dX b).length+1<=n+M.length->Tk s b (· =x) M (gR s b n x M)
 |0,x,M,_,hn,ha,hN=>by have:=tE hn ha;omega
 |n+1,x,M,hx,hn,ha,hN=>by
  unfold gR
  by_cases hm:x∈M
  ·rw [zp hm]
   exact .refl hn ha λc h=>h▸hm
  ·rw [zn hm]
   have hn2:(M++[x]).Nodup:=by
    rw [List.nodup_append]
    exact ⟨hn,by simp,λy hy z hz e=>hm (by rw [zms.1 hz] at e;exact e▸hy)⟩
   have ha2:∀y∈M++[x],y∈dX b:=λy hy=>by
    rcases zma.1 hy with q|q
    ·exact ha y q
    ·rw [zms.1 q];exact hx
   have h:=(agN (s:=s) (N:=(dX b).length+1-n) (λy L q1 q2 q3 q4=>acP hb n y L q1 q2 q3 (by omega)) x.2 (eN s x.1) (M++[x]) (λy hy=>by rw [hb];exact (mI.1 hy).1) hn2 ha2 (by simp;omega)).imp (aGW hb x)
   refine ⟨λy hy=>h.sub y (by simp [hy]),h.nd,h.all,λy hy=> ?_,λy hy=> ?_,λc hc=>h.sub c (by simp [hc])⟩
   ·rcases h.new y hy with q|⟨c,q,r⟩
    ·rcases zma.1 q with q|q
     ·exact .inl q
     ·exact .inr ⟨x,rfl,by rw [zms.1 q];exact .refl⟩
    ·exact .inr ⟨x,rfl, .head q r⟩
   ·rcases h.clo y hy with q|q
    ·rcases zma.1 q with q|q
     ·exact .inl q
     ·rw [zms.1 q];exact .inr λc hc=>h.me c hc
    ·exact .inr q
def aIw (s:Sc) (b:Bs) (z:R2):List R2:=gR s b ((dX b).length+1) z []
theorem aG2 (hb:b.length=s.length) {z:R2} (hz:z∈dX b):Tk s b (· =z) [] (aIw s b z):=acP hb _ z [] hz List.nodup_nil (by simp) (by simp)
def inR (rows:List R2) (r:R2):Bool:=decide (r∈rows)
end
section
attribute [local irreducible] Ev PWp
set_option maxRecDepth 10000
set_option maxHeartbeats 4000000
theorem aFI :Tryz.prog.bytesOf 236=16:=by kernel_rfl
theorem aEo :Tryz.prog.cellsOf 236=2:=by kernel_rfl
theorem ahT {l:Ln} {j:Nat} (h:j<l.cells_.length):ptP l j=if l.cells_[j].val.kind=1 then some l.cells_[j].val.n else none:=by
 unfold ptP
 rw [zp ⟨by omega,by omega⟩,Int.toNat_natCast,getElem!_pos l.cells_ j h]
theorem agR {l:Ln} {c:Int} (h:¬(0<=c/\c<l.cells_.length)):ptP l c=none:=by unfold ptP;rw [zn h]
def fR (l:Ln) (c:Int):Prop:=∀j (h:j<l.cells_.length),(j:Int)=c->l.cells_[j].kind=0
def ptR (o:Option Int):PV:= .tup [(vi (o.getD 0)),(vb (o.isSome))]
theorem gA (l:Ln) (c:Int) (h:fR l c):PF Tryz.prog 90 [.agg l.cells,(vi (c))] (ptR (ptP l c)):=by
 by_cases hc:0<=c/\c<l.cells_.length
 ·obtain ⟨j,rfl⟩:∃j:Nat,c=j:=⟨c.toNat,by omega⟩
  have hj:j<l.cells_.length:=by omega
  have hs:=anY l.cells_[j] (h j hj rfl)
  rw [ahT hj]
  by_cases hk:l.cells_[j].val.kind=1
  rw [zp hk]
  refine pF Tryz.func90 rfl (λst=> ?_)
  rotate_left
  rw [zn hk]
  refine pF Tryz.func90 rfl (λst=> ?_)
  rotate_left
  all_goals ((repeat' first|apply wZ;rfl|show Cn _;constructor|exact rfl|(apply hs)|apply wY;rfl|apply wI;rfl|apply gE;omega|omega|simp only [zql];omega|(intro h;simp at h)|intro h))
 ·rw [agR hc]
  refine pF Tryz.func90 rfl (λst=> ?_)
  (repeat' first|apply wZ;rfl|show Cn _;constructor|exact rfl|intro h;simp at h;omega|(intro h;simp at h))
theorem afB {G:R2->Bool} {l:Ln} {f:Fr} {k:Int} (h:ptP l f.col=some k):dW G l f=G (f.table,k):=by unfold dW;rw [h]
theorem afM {G:R2->Bool} {l:Ln} {f:Fr} (h:ptP l f.col=none):dW G l f=false:=by unfold dW;rw [h]
def kkC (x:Nat×Nat):List PV:=[(vi ((x.1:Nat))),(vi ((x.2:Nat)))]
def oY (s:Sc) (a:Int) (k y:Nat):List (Nat×Nat):=((List.range y).filter λi=>decide (s[k]!.foreign[i]!.table=a)).map λi=>(k,i)
def qM (s:Sc) (a:Int) (k:Nat):List (Nat×Nat):=(List.range k).flatMap (aF2 s a)
theorem abC {α:Type} (p:α->Bool) (y:α):[y].filter p=if p y=true then [y] else []:=by by_cases h:p y=true<;>simp [h]
theorem aFz (s:Sc) (a:Int) (k y:Nat):oY s a k (y+1)=if s[k]!.foreign[y]!.table=a then oY s a k y++[(k,y)] else oY s a k y:=by
 unfold oY
 rw [List.range_succ,List.filter_append,List.map_append,abC]
 by_cases h:s[k]!.foreign[y]!.table=a
 ·rw [zp h,zp (decide_eq_true h)];rfl
 ·rw [zn h,zn (by rw [decide_eq_false h];simp)];simp
theorem avA (s:Sc) (a:Int) (k:Nat):qM s a (k+1)=qM s a k++oY s a k s[k]!.foreign.length:=by
 unfold qM
 rw [List.range_succ,List.flatMap_append]
 simp [aF2,oY]
theorem alV (s:Sc) (a:Int) (k y:Nat):(oY s a k y).length<=y:=by
 unfold oY
 rw [zql]
 exact Nat.le_trans (List.length_filter_le ..) (by simp)
theorem aaR (s:Sc) (a:Int) (h:∀k (h:k<s.length),s[k].foreign.length<=16):∀k,k<=s.length->(qM s a k).length<=16*k
 |0,_=>by simp [qM]
 |k+1,hk=>by
  have h1:=aaR s a h k (by omega)
  have h2:=alV s a k s[k]!.foreign.length
  have h3:=h k (by omega)
  rw [avA,zla]
  rw [getElem!_pos s k (by omega)] at h2⊢
  omega
theorem aEH (s:Sc) (a:Int) (hs:s.length<=16) (h16:∀k (h:k<s.length),s[k].foreign.length<=16) (st:aD):PC Tryz.prog 241 [.agg (scC s),(vi (a))] st λr S=>∃id,r= .vec id 2 0 (eN s a).length/\st id=none/\S=upd st id (some (.arr 236 ((eN s a).map kkC))):=by
 have hlO:=aaR s a h16
 refine pC Tryz.func241 rfl ?_
 focus ((repeat' first|apply wZ;rfl|show Cn _;constructor))
 refine fK 5 236 2 rfl rfl rfl (λid hid=> ?_)
 refine aC (X:={x:Nat×Nat//x.1<=s.length/\st x.2=none}) (λi=>((((((St.nil 39 (upd st i.1.2 (some (.arr 236 ((qM s a i.1.1).map kkC))))).pv 1 ((vi (a)))).pv 5 (.vec i.1.2 2 0 (qM s a i.1.1).length)).pv 11 (.seq (s.map Tb.cells))).pv 12 ((vi (((s.map Tb.cells).length:Nat))))).pv 13 ((vi ((i.1.1:Nat)))))) (λi=>s.length-i.1.1) ⟨(0,id),by simp,hid⟩ ?_ (λi=> ?_)
 ·dsimp only
  (repeat' first|show Cn (.t _ _);exact Cn.t0|show Cn _;constructor|exact rfl)
 obtain ⟨⟨i,id⟩,hi,hid⟩:=i
 simp only at hi hid
 dsimp only
 have hlo:=hlO i hi
 by_cases hend:s.length<=i
 ·obtain rfl:i=s.length:=by omega
  (repeat' first|show Cn (.r _ _ _);refine .rr ?_;(exact ⟨id,rfl,hid,rfl⟩);done|apply wZ;rfl|show Cn _;constructor|simp only [zql];omega|(intro h;simp at h))
 have hil:i<s.length:=by omega
 have hf16:=h16 i hil
 have hOU:=avA s a i
 have hIU:=aFz s a i
 rw [getElem!_pos s i hil] at hOU hIU
 focus ((repeat' first|apply wZ;rfl|show Cn _;constructor|exact rfl|apply wI;rfl|apply gE;omega|simp only [zql];omega|(intro h;simp at h)))
 refine aC (X:={x:Nat×Nat//x.1<=s[i].foreign.length/\st x.2=none}) (λy=>((((((((((St.nil 39 (upd st y.1.2 (some (.arr 236 ((qM s a i++oY s a i y.1.1).map kkC))))).pv 1 ((vi (a)))).pv 5 (.vec y.1.2 2 0 (qM s a i++oY s a i y.1.1).length)).pv 6 ((vi ((i:Nat))))).pv 11 (.seq (s.map Tb.cells))).pv 12 ((vi (((s.map Tb.cells).length:Nat))))).pv 13 ((vi ((i:Nat))))).pv 19 (.seq (s[i].foreign.map Fr.cells))).pv 20 ((vi (((s[i].foreign.map Fr.cells).length:Nat))))).pv 21 ((vi ((y.1.1:Nat)))))) (λy=>s[i].foreign.length-y.1.1) ⟨(0,id),by simp,hid⟩ ?_ (λy=> ?_)
 ·dsimp only
  have e:qM s a i++oY s a i 0=qM s a i:=by simp [oY]
  rw [e]
  (repeat' first|show Cn (.t _ _);exact Cn.t0|show Cn _;constructor|exact rfl)
 obtain ⟨⟨y,id⟩,hy,hid⟩:=y
 simp only at hy hid
 dsimp only
 have hli:=alV s a i y
 have hlA:(qM s a i++oY s a i y).length<=1000:=by rw [zla];omega
 by_cases hend2:s[i].foreign.length<=y
 obtain rfl:y=s[i].foreign.length:=by omega
 rw [<-hOU]
 rotate_left
 have hyl:y<s[i].foreign.length:=by omega
 have hIU:=hIU y
 rw [getElem!_pos s[i].foreign y hyl] at hIU
 by_cases hk:s[i].foreign[y].table=a
 rw [zp hk] at hIU
 have e:qM s a i++oY s a i (y+1)=(qM s a i++oY s a i y)++[(i,y)]:=by rw [hIU,List.append_assoc]
 have el:(qM s a i++oY s a i (y+1)).length=(qM s a i++oY s a i y).length+1:=by rw [e,zla];rfl
 generalize qM s a i++oY s a i y=A at*
 rotate_left
 rw [zn hk] at hIU
 rw [<-hIU]
 rotate_left
 all_goals ((repeat' first|((first|refine ⟨⟨(i+1,id),by simp only;omega,hid⟩, ?_,by simp only;omega⟩|refine ⟨⟨(y+1,id),by simp only;omega,hid⟩, ?_,by simp only;omega⟩);focus ((repeat' first|show Cn (.t _ _);exact Cn.t0|show Cn _;constructor|exact rfl);done))|((refine ⟨⟨(y+1,id'),by simp only;omega,dK hid'⟩, ?_,by simp only;omega⟩);((dsimp only;try rw [e]));focus ((repeat' first|show Cn (.t _ _);exact .any (bP ‹_›)|show Cn _;constructor|exact rfl|simp;done);done))|apply wZ;rfl|show Cn _;constructor|exact rfl|(apply apV pk (f:=kkC) [(i,y)] 16;(iterate 9 rfl);(exact aA _ _ _);(omega);exact λ_=>rfl;exact λ_=>rfl;exact aFI;((focus (simp;omega)));((focus (simp;omega)));rfl;intro id' hid')|apply wI;rfl|apply gE;omega|omega|simp only [zql];omega|(intro h;simp at h)|intro h))
theorem ayN (s:Sc) (a:Int) (hs:s.length<=16) (h16:∀k (h:k<s.length),s[k].foreign.length<=16):PF Tryz.prog 241 [.agg (scC s),(vi (a))] (.seq ((eN s a).map kkC)):=λst=>
 fS (sz:=2) (aEH s a hs h16 st) λp st' h=>by
  obtain ⟨id,rfl,h3,rfl⟩:=h
  exact .inl ⟨id,236,(eN s a).map kkC,_,st,aA _ _ _,aEo,fL rfl,cF h3,rfl,rfl⟩
def bF (b:Bool):PV:=(vb (b))
def nB (r:R2):Value:= .agg (afY r).toArray
theorem awR :KeyOK Tryz.prog 236 nB (λr=> .agg (r2C r)):=
 asN aQ rfl rfl rfl rfl (λa b=>by
  show some (decide (a.1=b.1)&&decide (a.2=b.2))=_
  rw [Option.some.injEq,Bool.eq_iff_iff]
  simp [Prod.ext_iff]) (by kernel_rfl)
def mE (M:List R2):List (R2×Bool):=M.map λr=>(r,true)
def mM (M:List R2):AObj:= .map (aM nB bF (mE M))
theorem aiH {r:R2}:∀{M:List R2},r∈M->bY r (mE M)=some true
 |x::M,h=>by
  simp only [mE,zmp,bY]
  by_cases e:r=x
  ·rw [zp e]
  ·rw [zn e];exact aiH ((zmc.1 h).resolve_left e)
theorem acL {r:R2}:∀{M:List R2},r∉M->bY r (mE M)=none
 |[],_=>rfl
 |x::M,h=>by
  simp only [mE,zmp,bY]
  rw [zn (λe=>h (by simp [e]))]
  exact acL λhm=>h (by simp [hm])
theorem akB {r:R2}:∀{M:List R2},r∉M->cL r true (mE M)=mE (M++[r])
 |[],_=>rfl
 |x::M,h=>by
  simp only [mE,zmp,List.cons_append,cL]
  rw [zn (λe=>h (by simp [e]))]
  exact congrArg _ (akB λhm=>h (by simp [hm]))
theorem aHs {F:R2->List R2->List R2} {col key:Int} {k y:Nat} {ls:List Ln} {M:List R2} (h:y<ls.length):goL F col key k (ls.take (y+1)) M=if ptP ls[y] col=some key then F ((k:Int),ls[y].key) (goL F col key k (ls.take y) M) else goL F col key k (ls.take y) M:=by
 unfold goL
 rw [List.take_succ_eq_append_getElem h,List.foldl_append];rfl
theorem aHP {F:R2->List R2->List R2} {s:Sc} {b:Bs} {key:Int} {i:Nat} {ks:List (Nat×Nat)} {M:List R2} (h:i<ks.length):goK F s b key (ks.take (i+1)) M=if s[ks[i].1]!.foreign[ks[i].2]!.act=1 then goL F s[ks[i].1]!.foreign[ks[i].2]!.col key ks[i].1 b[ks[i].1]!.lines (goK F s b key (ks.take i) M) else goK F s b key (ks.take i) M:=by
 unfold goK
 rw [List.take_succ_eq_append_getElem h,List.foldl_append];rfl
structure Fol (s:Sc) (b:Bs):Prop where
 len:b.length=s.length
 s16:s.length<=16
 f16:∀k (h:k<s.length),s[k].foreign.length<=16
 reg:∀k (h:k<s.length),∀f∈s[k].foreign,∀l∈b[k]!.lines,fR l f.col
 lns:∀k (h:k<b.length),b[k].lines.length<1000000000000
structure KS (s:Sc) (b:Bs) (id9 id4 id5 id10 idm:Nat) (S:aD):Prop where
 h9:S id9=some (.cells 234 [.mref idm])
 h4:S id4=some (.cells 24 (scC s))
 h5:S id5=some (.cells 27 (bsC b))
 h10:S id10=some (.cells 289 [.fn 240 [.ref id9 0, .ref id4 0, .ref id5 0, .ref id10 0]])
 n9:id9≠idm
 n4:id4≠idm
 n5:id5≠idm
 n10:id10≠idm
theorem axQ {s:Sc} {b:Bs} (hFo:Fol s b) {id9 id4 id5 id10 idm:Nat} {S:aD} (hK:KS s b id9 id4 id5 id10 idm S):∀(n:Nat) (row:R2) (M:List R2),row∈dX b->M.Nodup->(∀y∈M,y∈dX b)->(dX b).length+1<=n+M.length->
  PC Tryz.prog 240 [.agg (r2C row), .ref id9 0, .ref id4 0, .ref id5 0, .ref id10 0] (upd S idm (some (mM M))) λ_ S'=>S'=upd S idm (some (mM (gR s b n row M))):=by
 obtain ⟨h9,h4,h5,h10,n9,n4,n5,n10⟩:=hK
 obtain ⟨hlen,s16,f16,hreg,hlns⟩:=hFo
 intro n
 induction n with
 |zero=>intro row M hr hn ha hN;exact absurd (tE hn ha) (by omega)
 |succ n ih=>
 intro row M hrow hn ha hN
 by_cases hm:row∈M
 ·have hg:=aiH hm
  have e:gR s b (n+1) row M=M:=zp hm
  rw [e]
  refine pC Tryz.func240 rfl ?_
  (repeat' first|apply aIy pk awR (f:=bF);(iterate 5 rfl);rotate_left;rfl;exact aA _ _ _;rfl;exact hg|show Cn (.r _ _ _);refine .rr ?_;(rfl);done|apply wZ;rfl|show Cn _;constructor|apply ldR pk;rfl;rfl;rotate_left;rfl;((focus ((repeat (first|assumption|refine (aB ‹_›).trans ?_));done)));rfl;rfl)
 ·have hg:=acL hm
  have e:gR s b (n+1) row M=goK (gR s b n) s b row.2 (eN s row.1) (M++[row]):=zn hm
  rw [e]
  have hks:=ayN s row.1 s16 f16
  have hn2:(M++[row]).Nodup:=by
   rw [List.nodup_append]
   exact ⟨hn,by simp,λy hy z hz e=>hm (by rw [zms.1 hz] at e;exact e▸hy)⟩
  have ha2:∀y∈M++[row],y∈dX b:=λy hy=>by
   rcases zma.1 hy with q|q
   ·exact ha y q
   ·rw [zms.1 q];exact hrow
  have hml:(M++[row]).length=M.length+1:=by simp
  have hF:∀x L,x∈dX b->L.Nodup->(∀y∈L,y∈dX b)->(dX b).length+1-n<=L.length->Tk s b (· =x) L (gR s b n x L):=λx L q1 q2 q3 q4=>acP hlen n x L q1 q2 q3 (by omega)
  have hkb:∀x∈eN s row.1,x.1<b.length:=λx hx=>by rw [hlen];exact (mI.1 hx).1
  have hkl:(eN s row.1).length<=256:=Nat.le_trans (aaR s row.1 f16 s.length (Nat.le_refl _)) (by omega)
  have hsub:StSub (upd S idm (some (mM (goK (gR s b n) s b row.2 ((eN s row.1).take 0) (M++[row]))))) (upd (upd S idm (some (mM M))) idm (some (.map (aM nB bF (cL row true (mE M)))))):=by
   rw [akB hm,eF];exact cQ rfl
  refine pC Tryz.func240 rfl ?_
  focus ((repeat' first|apply aIy pk awR (f:=bF);(iterate 5 rfl);rotate_left;rfl;exact aA _ _ _;rfl;exact hg|apply muA pk awR (f:=bF);(exact .inr rfl);(iterate 5 rfl);exact aA _ _ _;rfl|(apply Cn.cf;focus ((apply hks);done))|apply wZ;rfl|show Cn _;constructor|apply ldR pk;rfl;rfl;rotate_left;rfl;((focus ((repeat (first|assumption|refine (aB ‹_›).trans ?_));done)));rfl;rfl|apply jK pk 0;(iterate 5 rfl);(focus repeat' constructor);rfl;(intro _;rfl);(intro _;omega);rfl|apply wY;rfl))
  refine aC (X:={x:Nat//x<=(eN s row.1).length}) (λi=>((((((((St.nil 76 (upd S idm (some (mM (goK (gR s b n) s b row.2 ((eN s row.1).take i.1) (M++[row])))))).pv 2 (.ref id4 0)).pv 3 (.ref id5 0)).pv 4 (.ref id10 0)).var 5 236 (r2C row)).pv 21 (.seq ((eN s row.1).map kkC))).pv 22 ((vi ((((eN s row.1).map kkC).length:Nat))))).pv 23 ((vi ((i.1:Nat)))))) (λi=>(eN s row.1).length-i.1) ⟨0,by omega⟩ ?_ (λi=> ?_)
  ·(repeat' first|exact .any hsub|show Cn _;constructor|exact rfl)
  obtain ⟨i,hi⟩:=i
  dsimp only
  by_cases hend:(eN s row.1).length<=i
  ·rw [ztl hend]
   (repeat' first|show Cn (.r _ _ _);refine .rr ?_;(rfl);done|apply wZ;rfl|show Cn _;constructor|simp only [zql];omega|(intro h;simp at h))
  have hil:i<(eN s row.1).length:=by omega
  have hup:=aHP (F:=gR s b n) (s:=s) (b:=b) (key:=row.2) (M:=M++[row]) hil
  have hx:=zgm hil
  obtain ⟨x1,x2,x3⟩:=mI.1 hx
  have htk:=agN hF row.2 ((eN s row.1).take i) (M++[row]) (λx hx=>hkb x (List.mem_of_mem_take hx)) hn2 ha2 (by omega)
  have hll:=htk.len hn2
  have htn:=htk.nd
  have hta:=htk.all
  clear htk
  generalize hMi:goK (gR s b n) s b row.2 ((eN s row.1).take i) (M++[row])=Mi at*
  obtain ⟨⟨k,q⟩,hxx⟩:∃x,(eN s row.1)[i]=x:=⟨_,rfl⟩
  rw [hxx] at hup x1 x2 x3
  simp only at x1 x2 x3 hup
  have hgk:((eN s row.1).map kkC)[i]?=some (kkC (k,q)):=by rw [List.getElem?_map,zgg hil,hxx];rfl
  have hkbl:k<b.length:=by omega
  rw [getElem!_pos s k x1] at x2 x3 hup
  rw [getElem!_pos s[k].foreign q x2] at x3 hup
  rw [getElem!_pos b k hkbl] at hup
  have hRg:=hreg k x1 _ (zgm x2)
  rw [getElem!_pos b k hkbl] at hRg
  have hlb:=hlns k hkbl
  by_cases hact:s[k].foreign[q].act=1
  ·rw [zp hact] at hup
   focus ((repeat' first|apply wD pk [] [1];kernel_rfl;rfl;rfl|apply wZ;rfl|show Cn _;constructor|exact rfl|apply cN pk;(iterate 6 rfl);rotate_left;rfl;(intro hw;rfl);(intro hw;apply hgk<;>omega);(intro _;rfl);rfl|apply ldR pk;rfl;rfl;rotate_left;rfl;((focus ((repeat (first|assumption|refine (aB ‹_›).trans ?_));done)));rfl;rfl|apply jK pk 0;(iterate 5 rfl);(focus repeat' constructor);rfl;(intro _;rfl);(intro _;omega);rfl|apply jK pk 1;(iterate 5 rfl);(focus repeat' constructor);rfl;(intro _;rfl);(intro _;omega);rfl|apply wI;rfl|apply gE;omega|simp only [zql];omega|(intro h;simp at h)))
   have hsub2:StSub (upd S idm (some (mM (goL (gR s b n) s[k].foreign[q].col row.2 k (b[k].lines.take 0) Mi)))) (upd S idm (some (mM Mi))):=cQ rfl
   refine aC (X:={x:Nat//x<=b[k].lines.length}) (λy=>(((((((((((((St.nil 76 (upd S idm (some (mM (goL (gR s b n) s[k].foreign[q].col row.2 k (b[k].lines.take y.1) Mi))))).pv 2 (.ref id4 0)).pv 3 (.ref id5 0)).pv 4 (.ref id10 0)).var 5 236 (r2C row)).var 7 236 (kkC (k,q))).var 8 66 (s[k].foreign[q].cells)).pv 21 (.seq ((eN s row.1).map kkC))).pv 22 ((vi ((((eN s row.1).map kkC).length:Nat))))).pv 23 ((vi ((i:Nat))))).pv 47 (.seq (b[k].lines.map Ln.cells))).pv 48 ((vi (((b[k].lines.map Ln.cells).length:Nat))))).pv 49 ((vi ((y.1:Nat)))))) (λy=>b[k].lines.length-y.1) ⟨0,by omega⟩ ?_ (λy=> ?_)
   ·(repeat' first|exact .any hsub2|show Cn _;constructor|exact rfl)
   obtain ⟨y,hy⟩:=y
   dsimp only
   by_cases hend2:b[k].lines.length<=y
   ·rw [ztl hend2]
    (repeat' first|refine ⟨⟨i+1,by omega⟩, ?_, ?_⟩;((dsimp only;try rw [hup]))|apply wZ;rfl|show Cn _;constructor|exact rfl|omega|simp only [zql];omega|(intro h;simp at h))
   have hyl:y<b[k].lines.length:=by omega
   have hgu:=aHs (F:=gR s b n) (col:=s[k].foreign[q].col) (key:=row.2) (k:=k) (M:=Mi) hyl
   have hp:=gA b[k].lines[y] s[k].foreign[q].col (hRg _ (zgm hyl))
   have htk:=agW hF s[k].foreign[q].col row.2 k (b[k].lines.take y) Mi (λl hl=>rD.2 ⟨k,hkbl,l,by rw [getElem!_pos b k hkbl];exact List.mem_of_mem_take hl,rfl⟩) htn hta (by omega)
   have hl2:=htk.len htn
   have htn2:=htk.nd
   have hta2:=htk.all
   clear htk
   generalize hMy:goL (gR s b n) s[k].foreign[q].col row.2 k (b[k].lines.take y) Mi=My at*
   have hrow2:((k:Int),b[k].lines[y].key)∈dX b:=rD.2 ⟨k,hkbl,b[k].lines[y],by rw [getElem!_pos b k hkbl];exact zgm hyl,rfl⟩
   have hC:=ih ((k:Int),b[k].lines[y].key) My hrow2 htn2 hta2 (by omega)
   cases hpt:ptP b[k].lines[y] s[k].foreign[q].col with
   |none=>
    rw [hpt] at hp hgu
    rw [zn (by simp)] at hgu
    (repeat' first|(apply Cn.cf;focus ((apply hp);done))|refine ⟨⟨y+1,by omega⟩, ?_, ?_⟩;((dsimp only;try rw [hgu]))|show Cn (.t _ _);exact Cn.t0|apply wZ;rfl|show Cn _;constructor|exact rfl|apply jK pk 1;(iterate 5 rfl);(focus repeat' constructor);rfl;(intro _;rfl);(intro _;omega);rfl|apply wY;rfl|apply wI;rfl|apply gE;omega|omega|simp only [zql];omega|(intro h;simp at h))
   |some v=>
    rw [hpt] at hp hgu
    by_cases hv:v=row.2
    ·subst hv
     rw [zp rfl] at hgu
     (repeat' first|(apply Cn.cf;focus ((apply hp);done))|(apply cP;rfl;(apply hC);rintro _ st' (rfl))|refine ⟨⟨y+1,by omega⟩, ?_, ?_⟩;((dsimp only;try rw [hgu]))|show Cn (.t _ _);exact Cn.t0|apply wZ;rfl|show Cn _;constructor|exact rfl|apply ldR pk;rfl;rfl;rotate_left;rfl;((focus ((repeat (first|assumption|refine (aB ‹_›).trans ?_));done)));rfl;rfl|apply jK pk 0;(iterate 5 rfl);(focus repeat' constructor);rfl;(intro _;rfl);(intro _;omega);rfl|apply jK pk 1;(iterate 5 rfl);(focus repeat' constructor);rfl;(intro _;rfl);(intro _;omega);rfl|apply wY;rfl|apply wI;rfl|apply gE;omega|omega|simp only [zql];omega|intro h;simp at h;done|(intro h;simp at h))
    ·rw [zn (by simpa using hv)] at hgu
     (repeat' first|(apply Cn.cf;focus ((apply hp);done))|refine ⟨⟨y+1,by omega⟩, ?_, ?_⟩;((dsimp only;try rw [hgu]))|show Cn (.t _ _);exact Cn.t0|apply wZ;rfl|show Cn _;constructor|exact rfl|apply jK pk 1;(iterate 5 rfl);(focus repeat' constructor);rfl;(intro _;rfl);(intro _;omega);rfl|apply wY;rfl|apply wI;rfl|apply gE;omega|omega|simp only [zql];omega|intro h;simp at h;omega|(intro h;simp at h))
  ·rw [zn hact] at hup
   (repeat' first|apply wD pk [] [1];kernel_rfl;rfl;rfl|refine ⟨⟨i+1,by omega⟩, ?_, ?_⟩;((dsimp only;try rw [hup]))|show Cn (.t _ _);exact Cn.t0|apply wZ;rfl|show Cn _;constructor|exact rfl|apply cN pk;(iterate 6 rfl);rotate_left;rfl;(intro hw;rfl);(intro hw;apply hgk<;>omega);(intro _;rfl);rfl|apply ldR pk;rfl;rfl;rotate_left;rfl;((focus ((repeat (first|assumption|refine (aB ‹_›).trans ?_));done)));rfl;rfl|apply jK pk 0;(iterate 5 rfl);(focus repeat' constructor);rfl;(intro _;rfl);(intro _;omega);rfl|apply jK pk 1;(iterate 5 rfl);(focus repeat' constructor);rfl;(intro _;rfl);(intro _;omega);rfl|apply wI;rfl|apply gE;omega|omega|simp only [zql];omega|(intro h;simp at h))
def adQ (b:Bs) (z:R2):Bool:=(bE (aF b z.1) z.2).isSome
theorem alY {b:Bs} {z:R2}:adQ b z=true↔z∈dX b:=by
 unfold adQ
 rw [rD]
 constructor
 ·intro h
  obtain ⟨x,hx⟩:=Option.isSome_iff_exists.1 h
  have h1:=List.mem_of_find?_eq_some hx
  have h2:x.key=z.2:=by simpa using List.find?_some hx
  cases hk:okT b z.1 with
  |false=>rw [alK hk] at h1;cases h1
  |true=>
   have e:aF b z.1=b[z.1.toNat]!.lines:=by unfold aF;rw [zp hk]
   simp only [okT,zba,zde] at hk
   rw [e] at h1
   exact ⟨z.1.toNat,by omega,x,h1,Prod.ext (by show z.1=_;omega) h2.symm⟩
 ·rintro ⟨k,hk,l,hl,rfl⟩
  have e:aF b (k:Int)=b[k]!.lines:=by
   unfold aF
   rw [zp (by simp [okT];omega),Int.toNat_natCast]
  show (bE (aF b (k:Int)) l.key).isSome=true
  rw [e]
  unfold bE
  rw [List.find?_isSome]
  exact ⟨l,hl,by simp⟩
def tV (s:Sc) (b:Bs) (z:R2):List R2:=if adQ b z=true then aIw s b z else []
def aF5 (s:Sc) (b:Bs) (z:R2):PV:= .fmap (aM nB bF (mE (tV s b z)))
theorem acR {st:aD} {i j k l m:Nat} {a b c d:AObj} (h1:st i=none) (h2:upd st i (some a) j=none) (h3:upd (upd st i (some a)) j (some b) k=none) (h4:upd (upd (upd st i (some a)) j (some b)) k (some c) l=none) (h5:upd (upd (upd (upd st i (some a)) j (some b)) k (some c)) l (some d) m=none):
  (j≠i/\k≠i/\l≠i/\m≠i)/\(k≠j/\l≠j/\m≠j)/\(l≠k/\m≠k)/\m≠l/\st j=none/\st k=none/\st l=none/\st m=none:=by
 have q1:∀{f:aD} {x y:Nat} {o:AObj},upd f x (some o) y=none->y≠x/\f y=none:=fun {f x y o} h=>by
  by_cases e:y=x
  ·rw [e,aA] at h;cases h
  ·exact ⟨e,by rwa [aB e] at h⟩
 obtain ⟨a1,a2⟩:=q1 h2
 obtain ⟨b1,b2⟩:=q1 h3
 obtain ⟨b3,b4⟩:=q1 b2
 obtain ⟨c1,c2⟩:=q1 h4
 obtain ⟨c3,c4⟩:=q1 c2
 obtain ⟨c5,c6⟩:=q1 c4
 obtain ⟨d1,d2⟩:=q1 h5
 obtain ⟨d3,d4⟩:=q1 d2
 obtain ⟨d5,d6⟩:=q1 d4
 obtain ⟨d7,d8⟩:=q1 d6
 exact ⟨⟨a1,b3,c5,d7⟩,⟨b1,c3,d5⟩,⟨c1,d3⟩,d1,a2,b4,c6,d8⟩
theorem aFd {f:aD} {i:Nat} {x:Option AObj} (h:f i=x):upd f i x=f:=by
 funext j
 by_cases e:j=i
 ·subst e;rw [aA,h]
 ·rw [aB e]
structure KB (s:Sc) (b:Bs) (st:aD) (idm id9 id4 id5 id10:Nat):Prop where
 one:KS s b id9 id4 id5 id10 idm (upd (upd (upd (upd (upd (upd st idm (some (mM []))) id9 (some (.cells 234 [.mref idm]))) id4 (some (.cells 24 (scC s)))) id5 (some (.cells 27 (bsC b)))) id10 (some (.cells 289 [.val .nilFunc]))) id10 (some (.cells 289 [.fn 240 [.ref id9 0, .ref id4 0, .ref id5 0, .ref id10 0]])))
 two:upd (upd (upd (upd (upd (upd (upd st idm (some (mM []))) id9 (some (.cells 234 [.mref idm]))) id4 (some (.cells 24 (scC s)))) id5 (some (.cells 27 (bsC b)))) id10 (some (.cells 289 [.val .nilFunc]))) id10 (some (.cells 289 [.fn 240 [.ref id9 0, .ref id4 0, .ref id5 0, .ref id10 0]]))) idm (some (mM []))=upd (upd (upd (upd (upd (upd st idm (some (mM []))) id9 (some (.cells 234 [.mref idm]))) id4 (some (.cells 24 (scC s)))) id5 (some (.cells 27 (bsC b)))) id10 (some (.cells 289 [.val .nilFunc]))) id10 (some (.cells 289 [.fn 240 [.ref id9 0, .ref id4 0, .ref id5 0, .ref id10 0]]))
 three:(upd (upd (upd (upd (upd (upd st idm (some (mM []))) id9 (some (.cells 234 [.mref idm]))) id4 (some (.cells 24 (scC s)))) id5 (some (.cells 27 (bsC b)))) id10 (some (.cells 289 [.val .nilFunc]))) id10 (some (.cells 289 [.fn 240 [.ref id9 0, .ref id4 0, .ref id5 0, .ref id10 0]]))) idm=some (mM [])
theorem aGG (s:Sc) (b:Bs) (st:aD) {idm id9 id4 id5 id10:Nat} (m1:id9≠idm) (m2:id4≠idm) (m3:id5≠idm) (m4:id10≠idm) (m5:id4≠id9) (m6:id5≠id9) (m7:id10≠id9) (m8:id5≠id4) (m9:id10≠id4) (m10:id10≠id5):KB s b st idm id9 id4 id5 id10:=by
 have h3:(upd (upd (upd (upd (upd (upd st idm (some (mM []))) id9 (some (.cells 234 [.mref idm]))) id4 (some (.cells 24 (scC s)))) id5 (some (.cells 27 (bsC b)))) id10 (some (.cells 289 [.val .nilFunc]))) id10 (some (.cells 289 [.fn 240 [.ref id9 0, .ref id4 0, .ref id5 0, .ref id10 0]]))) idm=some (mM []):=(aB (Ne.symm m4)).trans ((aB (Ne.symm m4)).trans ((aB (Ne.symm m3)).trans ((aB (Ne.symm m2)).trans ((aB (Ne.symm m1)).trans (aA _ _ _)))))
 exact ⟨⟨(aB (Ne.symm m7)).trans ((aB (Ne.symm m7)).trans ((aB (Ne.symm m6)).trans ((aB (Ne.symm m5)).trans (aA _ _ _)))),(aB (Ne.symm m9)).trans ((aB (Ne.symm m9)).trans ((aB (Ne.symm m8)).trans (aA _ _ _))),(aB (Ne.symm m10)).trans ((aB (Ne.symm m10)).trans (aA _ _ _)),aA _ _ _,m1,m2,m3,m4⟩,aFd h3,h3⟩
theorem aDr {s:Sc} {b:Bs} {st:aD} {idm id9 id4 id5 id10:Nat} {x:Option AObj} (h0:st idm=none) (h9:st id9=none) (h4:st id4=none) (h5:st id5=none) (h10:st id10=none):StSub st (upd (upd (upd (upd (upd (upd (upd (upd st idm (some (mM []))) id9 (some (.cells 234 [.mref idm]))) id4 (some (.cells 24 (scC s)))) id5 (some (.cells 27 (bsC b)))) id10 (some (.cells 289 [.val .nilFunc]))) id10 (some (.cells 289 [.fn 240 [.ref id9 0, .ref id4 0, .ref id5 0, .ref id10 0]]))) idm x) idm none):=λj=>by
 cases hj:st j with
 |none=>exact .inl rfl
 |some o=>
  right
  have q:∀{i:Nat},st i=none->j≠i:=fun {i} hi e=>by subst e;rw [hi] at hj;cases hj
  rw [aB (q h0),aB (q h0),aB (q h10),aB (q h10),aB (q h5),aB (q h4),aB (q h9),aB (q h0),hj]
theorem ajD {s:Sc} {b:Bs} (hFo:Fol s b) (hl:∀d∈b,d.lines.length<100000000000) (z:R2):PF Tryz.prog 176 [.agg (scC s), .agg (bsC b),(vi (z.1)),(vi (z.2))] (aF5 s b z):=by
 have hg:=kY b z.1 z.2 hl
 rw [nT] at hg
 unfold aF5 tV
 by_cases hz:adQ b z=true
 ·rw [zp hz]
  have hrow:=alY.1 hz
  unfold adQ at hz
  rw [hz] at hg
  refine pF Tryz.func176 rfl (λst=> ?_)
  focus ((repeat' first|(apply mkM (enc:=nB) (f:=bF);rfl;intro idm hidm)|apply wZ;rfl|show Cn _;constructor|apply stR pk;rfl;rfl;(exact aA _ _ _);rfl;rfl|(apply fF 9;rfl;rfl;intro id9 hid9)|(apply fF 4;rfl;rfl;intro id4 hid4)|(apply fF 5;rfl;rfl;intro id5 hid5)|(apply fF 10;rfl;rfl;intro id10 hid10)))
  obtain ⟨⟨m1,m2,m3,m4⟩,⟨m5,m6,m7⟩,⟨m8,m9⟩,m10,f9,f4,f5,f10⟩:=acR hidm hid9 hid4 hid5 hid10
  have hm0:st idm=none:=hidm
  have hf9:st id9=none:=f9
  have hf4:st id4=none:=f4
  have hf5:st id5=none:=f5
  have hf10:st id10=none:=f10
  clear hidm hid9 hid4 hid5 hid10 f9 f4 f5 f10
  have hK:=aGG s b st m1 m2 m3 m4 m5 m6 m7 m8 m9 m10
  have hC:=axQ hFo hK.one ((dX b).length+1) z [] hrow List.nodup_nil (by simp) (by simp)
  have hS9:=hK.one.h9
  have hn5:=Ne.symm m10
  rw [hK.two] at hC
  have hsub:=aDr (s:=s) (b:=b) (x:=some (mM (gR s b ((dX b).length+1) z []))) hm0 hf9 hf4 hf5 hf10
  have hn9:=hK.one.n9
  (repeat' first|apply oO 28;rfl;exact aA _ _ _|exact Cn.any ⟨_,_,st,rfl,zwr _,hsub,rfl,rfl⟩|(apply Cn.cf;focus ((apply hg);done))|(apply cP;rfl;(apply hC);rintro _ st' (rfl))|apply wZ;rfl|show Cn _;constructor|apply ldR pk;rfl;rfl;rotate_left;rfl;(first|exact aA _ _ _|(focus ((repeat (first|exact aA _ _ _|assumption|refine (aB ‹_›).trans ?_));done)));rfl;rfl|apply wY;rfl)
 ·have hz2:(bE (aF b z.1) z.2).isSome=false:=by simpa [adQ] using hz
  rw [zn hz]
  rw [hz2] at hg
  refine pF Tryz.func176 rfl (λst=> ?_)
  focus ((repeat' first|(apply mkM (enc:=nB) (f:=bF);rfl;intro idm hidm)|apply wZ;rfl|show Cn _;constructor|apply stR pk;rfl;rfl;(exact aA _ _ _);rfl;rfl|(apply fF 9;rfl;rfl;intro id9 hid9)|(apply fF 4;rfl;rfl;intro id4 hid4)|(apply fF 5;rfl;rfl;intro id5 hid5)|(apply fF 10;rfl;rfl;intro id10 hid10)))
  obtain ⟨⟨m1,m2,m3,m4⟩,⟨m5,m6,m7⟩,⟨m8,m9⟩,m10,f9,f4,f5,f10⟩:=acR hidm hid9 hid4 hid5 hid10
  have hm0:st idm=none:=hidm
  have hf9:st id9=none:=f9
  have hf4:st id4=none:=f4
  have hf5:st id5=none:=f5
  have hf10:st id10=none:=f10
  clear hidm hid9 hid4 hid5 hid10 f9 f4 f5 f10
  have hK:=aGG s b st m1 m2 m3 m4 m5 m6 m7 m8 m9 m10
  have hS9:=hK.one.h9
  have hn5:=Ne.symm m10
  have hSm:=hK.three
  have hsub:=aDr (s:=s) (b:=b) (x:=some (mM [])) hm0 hf9 hf4 hf5 hf10
  rw [hK.two] at hsub
  have hn9:=hK.one.n9
  (repeat' first|apply oO 28;rfl;exact hSm|exact Cn.any ⟨_,_,st,rfl,zwr _,hsub,rfl,rfl⟩|(apply Cn.cf;focus ((apply hg);done))|apply wZ;rfl|show Cn _;constructor|apply ldR pk;rfl;rfl;rotate_left;rfl;(first|assumption|(focus ((repeat (first|exact aA _ _ _|refine (aB ‹_›).trans ?_));done)));rfl;rfl|apply wY;rfl)
end
end Go.Proofs.YtfablfldonhkiaaGreatDoor
