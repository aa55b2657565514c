import Derived.Test.YtfablfldonhkiaaGreatDoorClAg
import Derived.Test.YtfablfldonhkiaaGreatDoorClAb
import Derived.Test.YtfablfldonhkiaaGreatDoorAbsE
set_option linter.unusedSimpArgs false
set_option linter.unusedVariables false
namespace Go.Proofs.YtfablfldonhkiaaGreatDoor
open Go Go.Abs
section
set_option maxRecDepth 10000
set_option maxHeartbeats 4000000
section
variable {tx:Cl->Int} {sh:Cl->Vl}
structure SuOK (t:Tb) (m:Su):Prop where
 c1:1<=m.col
 c2:m.col<t.cols.length
 b1:1<=m.by_
 b2:m.by_<t.cols.length
 m0:0<=m.max
 m1:m.max<=1099511627776
 kc:t.cols[m.col.toNat]!.kind=0
 kb:t.cols[m.by_.toNat]!.kind=0
structure UnOK (t:Tb) (u:Int):Prop where
 c1:1<=u
 c2:u<t.cols.length
 kc:t.cols[u.toNat]!.kind=0
theorem arJ {h a n p:Bool} (e:aqA h a n p=0):h=true/\a=false/\n=true:=by
 unfold aqA at e;cases h<;>cases a<;>cases n<;>cases p<;>simp at e⊢
theorem auH {h p n:Bool} (e:aoW h p n=0):h=true/\n=true:=by
 unfold aoW at e;cases h<;>cases n<;>cases p<;>simp at e⊢
theorem aCx {s:Sc} (h:cE s=0) {k:Nat} (hk:k<s.length) {m:Su} (hm:m∈s[k].sums):SuOK s[k] m:=by
 obtain ⟨i,hi,rfl⟩:=zgo hm;have:=fR h hk (lk6 s[k]!) (by simp [lks]);rw [getElem!_pos s k hk] at this;have e:aoM s[k] i=0:=oQ this hi;unfold aoM at e;rw [getElem!_pos s[k].sums i hi] at e;obtain ⟨a,c,b⟩:=arJ e;unfold pX at a;unfold nD lO at b;simp only [zba,zde,Bool.or_eq_false_iff,decide_eq_false_iff_not] at a c b;exact ⟨a.1.1,a.1.2,a.2.1,a.2.2,by omega,by omega,b.1.1,b.2.1⟩
theorem aHI {s:Sc} (h:cE s=0) {k:Nat} (hk:k<s.length) {u:Int} (hu:u∈s[k].unique):UnOK s[k] u:=by
 obtain ⟨i,hi,rfl⟩:=zgo hu;have:=fR h hk (lk4 s[k]!) (by simp [lks]);rw [getElem!_pos s k hk] at this;have e:amN s[k] i=0:=oQ this hi;unfold amN at e;rw [getElem!_pos s[k].unique i hi] at e;obtain ⟨a,b⟩:=auH e;unfold pX at a;unfold nD lO at b;simp only [zba,zde] at a b;exact ⟨a.1,a.2,b.1⟩
theorem dV {b:Bs} {k:Nat} (hk:k<b.length):aF b k=b[k].lines:=by
 unfold aF okT;rw [zp (by simp;omega),Int.toNat_natCast,getElem!_pos b k hk]
structure RwOK (t:Tb) (r:List Vl):Prop where
 len:r.length=t.cols.length
 num:∀j<t.cols.length,t.cols[j]!.kind=0->cF r[j]! =true
theorem atL (g:∀c:Cl,c.kind=0->sh c=c.val) {s:Sc} {b:Bs} (hg:aV tx s b=true) {k:Nat} (hk:k<s.length) {r:List Vl} (h:r∈cS sh b k):RwOK s[k] r:=by
 obtain ⟨⟨i,m⟩,_⟩:=aI.1 hg;have e:k<b.length:=by omega
 obtain ⟨l,hl,rfl⟩:=List.mem_map.1 h;rw [dV e] at hl;have hL:=sG hg e hl;rw [getElem!_pos s k hk] at hL;have f:=hL.len;refine ⟨by unfold auO;rw [zql];exact f,λj hj h0=> ?_⟩;have a:j<l.cells_.length:=by omega
 have hc:=hL.cell _ (zgm a);have d:=hL.kind j a;rw [h0] at d;unfold auO;rw [getElem!_pos _ j (by rw [zql];exact a),List.getElem_map,g _ d];unfold jM at hc;rw [zp d,zba] at hc;exact hc.1
theorem avF {v:Vl} (h:cF v=true):(-1099511627776<=v.n/\v.n<=1099511627776)/\(v.kind≠1->v.n=0):=by
 unfold cF at h;split at h
 ·simp only [zba,zde] at h;omega
 ·split at h
  ·simp only [zba,zde] at h;omega
  ·split at h
   ·simp only [zba,zde] at h;omega
   ·cases h
def ajV (m:Su) (es:List (Int×Int)) (r:List Vl):List (Int×Int):=if r[m.by_.toNat]!.kind=1 then cL r[m.by_.toNat]!.n ((bZ r[m.by_.toNat]!.n es).getD 0+r[m.col.toNat]!.n) es else es
def mY (m:Su) (rows:List (List Vl)):List (Int×Int):=rows.foldl (ajV m) []
theorem aiO {V:Type} (k k':Int) (v:V):∀(l:List (Int×V)),bZ k' (cL k v l)=if k'=k then some v else bZ k' l
 |[]=>by simp only [cL,bZ]
 |e::l=>by
  have b:=aiO k k' v l
  simp only [cL]
  split
  ·rename_i h;simp only [bZ];split<;>simp_all
  ·rename_i h;simp only [bZ,b];split
   ·rename_i a;rw [zn (λe=>h (by rw [<-e,a]))]
   ·rfl
theorem aHO {V:Type} {k:Int} {v:V}:∀{l:List (Int×V)},(l.map (·.1)).Nodup->(k,v)∈l->bZ k l=some v
 |e::l,hn,h=>by
  simp only [zmp,List.nodup_cons] at hn
  simp only [bZ]
  rcases zmc.1 h with rfl|h
  ·rw [zp rfl]
  ·rw [zn (λq=>hn.1 (List.mem_map.2 ⟨_,h,q⟩))];exact aHO hn.2 h
theorem aD7 {V:Type} {k:Int} {v:V}:∀{l:List (Int×V)},bZ k l=some v->(k,v)∈l
 |[],h=>by simp [bZ] at h
 |e::l,h=>by
  simp only [bZ] at h
  split at h
  ·rename_i q;injection h with h;subst h;rw [q];exact List.mem_cons_self ..
  ·exact List.mem_cons_of_mem _ (aD7 h)
theorem afA {V:Type} (k:Int) (v:V):∀(l:List (Int×V)),∀k',k'∈(cL k v l).map (·.1)->k'=k\/k'∈l.map (·.1)
 |[],k',h=>by simp [cL] at h;exact .inl h
 |e::l,k',h=>by
  simp only [cL] at h
  split at h
  ·rename_i q
   simp only [zmp,zmc] at h⊢;rcases h with h|h
   ·exact .inl (h.trans (by first|rfl|exact q.symm))
   ·exact .inr (.inr h)
  ·simp only [zmp,zmc] at h⊢
   exact h.elim (λq=> .inr (.inl q)) λq=>(afA k v l k' q).elim .inl λq=> .inr (.inr q)
theorem awR {V:Type} (k:Int) (v:V):∀(l:List (Int×V)),(l.map (·.1)).Nodup->((cL k v l).map (·.1)).Nodup
 |[],_=>by simp [cL]
 |e::l,h=>by
  simp only [zmp,List.nodup_cons] at h
  simp only [cL]
  split
  ·rename_i q
   simp only [zmp,List.nodup_cons];exact ⟨by first|exact h.1|(rw [q];exact h.1),h.2⟩
  ·rename_i q
   simp only [zmp,List.nodup_cons];exact ⟨λx=>(afA k v l _ x).elim (λy=>q y.symm) h.1,awR k v l h.2⟩
theorem aDD (m:Su):∀(rows:List (List Vl)) (es:List (Int×Int)),(es.map (·.1)).Nodup->((rows.foldl (ajV m) es).map (·.1)).Nodup
 |[],_,h=>h
 |r::rows,es,h=>aDD m rows _ (by
  unfold ajV
  split
  ·exact awR _ _ _ h
  ·exact h)
theorem alI (m:Su) (g:Int) (r:List Vl) (rows:List (List Vl)):jB m g (r::rows)=aaD m g r+jB m g rows:=by unfold jB;rw [zmp,List.sum_cons]
def aCL (m:Su) (rows:List (List Vl)):Prop:=∀r∈rows,r[m.col.toNat]!.kind≠1->r[m.col.toNat]!.n=0
theorem ajW {m:Su} (g:Int):∀{rows:List (List Vl)} (es:List (Int×Int)),aCL m rows->(bZ g (rows.foldl (ajV m) es)).getD 0=(bZ g es).getD 0+jB m g rows
 |[],es,_=>by simp [jB]
 |r::rows,es,h=>by
  have a:=ajW g (rows:=rows) (ajV m es r) λx hx=>h x (List.mem_cons_of_mem _ hx)
  have h0:=h r (List.mem_cons_self ..)
  rw [List.foldl_cons,a,alI]
  unfold ajV aaD
  by_cases hk:r[m.by_.toNat]!.kind=1
  ·rw [zp hk,aiO]
   by_cases hg:r[m.by_.toNat]!.n=g
   ·rw [zp hg.symm,hg]
    by_cases hc:r[m.col.toNat]!.kind=1
    ·rw [zp ⟨hk,rfl,hc⟩];simp only [Option.getD_some];omega
    ·rw [zn λq=>hc q.2.2,h0 hc];simp only [Option.getD_some];omega
   ·rw [zn (λq=>hg q.symm),zn λq=>hg q.2.1];omega
  ·rw [zn hk,zn λq=>hk q.1];omega
theorem apY {m:Su} (g:Int):∀{rows:List (List Vl)} (es:List (Int×Int)),(bZ g (rows.foldl (ajV m) es)).isSome=true↔((bZ g es).isSome=true\/∃r∈rows,r[m.by_.toNat]!.kind=1/\r[m.by_.toNat]!.n=g)
 |[],es=>by simp
 |r::rows,es=>by
  rw [List.foldl_cons,apY g (rows:=rows) (ajV m es r)]
  unfold ajV
  by_cases hk:r[m.by_.toNat]!.kind=1
  ·rw [zp hk,aiO]
   by_cases hg:g=r[m.by_.toNat]!.n
   ·rw [zp hg]
    exact ⟨λ_=> .inr ⟨r,List.mem_cons_self ..,hk,hg.symm⟩,λ_=> .inl rfl⟩
   ·rw [zn hg]
    constructor
    ·rintro (q|⟨x,hx,q⟩)
     ·exact .inl q
     ·exact .inr ⟨x,List.mem_cons_of_mem _ hx,q⟩
    ·rintro (q|⟨x,hx,q⟩)
     ·exact .inl q
     ·rcases zmc.1 hx with rfl|hx
      ·exact absurd q.2.symm hg
      ·exact .inr ⟨x,hx,q⟩
  ·rw [zn hk]
   constructor
   ·rintro (q|⟨x,hx,q⟩)
    ·exact .inl q
    ·exact .inr ⟨x,List.mem_cons_of_mem _ hx,q⟩
   ·rintro (q|⟨x,hx,q⟩)
    ·exact .inl q
    ·rcases zmc.1 hx with rfl|hx
     ·exact absurd q.1 hk
     ·exact .inr ⟨x,hx,q⟩
def sO (m:Su) (rows:List (List Vl)):Bool:=rows.all λr=>decide (r[m.col.toNat]!.n>=0)
theorem ayW {m:Su} {rows:List (List Vl)} (h:aCL m rows):(sO m rows&&(mY m rows).all λe=>decide (e.2<=m.max))=rows.all λr=> !aFo m r&&(!decide (r[m.by_.toNat]!.kind=1)||decide (jB m r[m.by_.toNat]!.n rows<=m.max)):=by
 have b:=λg=>ajW (m:=m) g (rows:=rows) [] h;have a:=λg=>apY (m:=m) g (rows:=rows) [];have f:=aDD m rows [] (by simp);change ∀g,(bZ g (mY m rows)).getD 0=_ at b;change ∀g,(bZ g (mY m rows)).isSome=true↔_ at a;change ((mY m rows).map (·.1)).Nodup at f;simp only [bZ,Option.getD_none,Option.isSome_none,Bool.false_eq_true,false_or] at b a;rw [Bool.eq_iff_iff,zba];unfold sO;simp only [zal,zba,Bool.or_eq_true,Bool.not_eq_true',zde,decide_eq_false_iff_not];have d:∀r∈rows,aFo m r=false↔r[m.col.toNat]!.n>=0:=λr c=>by
  unfold aFo
  by_cases hc:r[m.col.toNat]!.kind=1
  ·rw [decide_eq_true hc,Bool.true_and,decide_eq_false_iff_not];omega
  ·rw [decide_eq_false hc,h r c hc];simp
 constructor
 ·rintro ⟨i,j⟩ r c
  refine ⟨(d r c).2 (i r c), ?_⟩;by_cases hk:r[m.by_.toNat]!.kind=1
  ·right
   have hs:=(a r[m.by_.toNat]!.n).2 ⟨r,c,hk,rfl⟩;obtain ⟨v,hv⟩:=Option.isSome_iff_exists.1 hs;have:=j _ (aD7 hv);have e:=b r[m.by_.toNat]!.n;rw [hv] at e;simp only [Option.getD_some] at e this;omega
  ·exact .inl hk
 ·intro q
  refine ⟨λr c=>(d r c).1 (q r c).1,λe l=> ?_⟩;obtain ⟨k,v⟩:=e;have hv:=aHO f l;have e:=b k;rw [hv] at e;simp only [Option.getD_some] at e⊢;obtain ⟨r,c,hk,rfl⟩:=(a k).1 (by rw [hv];rfl);have:=(q r c).2.resolve_left λz=>z hk;omega
def aIK (u:Nat) (es:List (Int×Bool)) (r:List Vl):List (Int×Bool):=if r[u]!.kind=1 then cL r[u]!.n true es else es
def asD (u:Nat) (rows:List (List Vl)):List (Int×Bool):=rows.foldl (aIK u) []
theorem awD (u:Nat) (g:Int):∀(rows:List (List Vl)) (es:List (Int×Bool)),(bZ g (rows.foldl (aIK u) es)).getD false=((bZ g es).getD false||rows.any λr=>decide (r[u]!.kind=1)&&decide (r[u]!.n=g))
 |[],es=>by simp
 |r::rows,es=>by
  rw [List.foldl_cons,awD u g rows,List.any_cons]
  unfold aIK
  by_cases hk:r[u]!.kind=1
  ·rw [zp hk,aiO]
   by_cases hg:g=r[u]!.n
   ·rw [zp hg,decide_eq_true hk,decide_eq_true hg.symm];simp
   ·rw [zn hg,decide_eq_false (show ¬r[u]!.n=g from λq=>hg q.symm)];simp
  ·rw [zn hk,decide_eq_false hk];simp
theorem aCp (u:Nat) (g:Int) (rows:List (List Vl)):(bZ g (asD u rows)).getD false=rows.any λr=>decide (r[u]!.kind=1)&&decide (r[u]!.n=g):=by
 have:=awD u g rows [];simp only [bZ,Option.getD_none,Bool.false_or] at this;exact this
theorem aHs (u:Nat) {rows:List (List Vl)} {k:Nat} (h:k<rows.length):asD u (rows.take (k+1))=if rows[k][u]!.kind=1 then cL rows[k][u]!.n true (asD u (rows.take k)) else asD u (rows.take k):=by
 unfold asD;rw [List.take_succ_eq_append_getElem h,List.foldl_append];rfl
theorem aFZ (m:Su) {rows:List (List Vl)} {k:Nat} (h:k<rows.length):mY m (rows.take (k+1))=if rows[k][m.by_.toNat]!.kind=1 then cL rows[k][m.by_.toNat]!.n ((bZ rows[k][m.by_.toNat]!.n (mY m (rows.take k))).getD 0+rows[k][m.col.toNat]!.n) (mY m (rows.take k)) else mY m (rows.take k):=by
 unfold mY;rw [List.take_succ_eq_append_getElem h,List.foldl_append];rfl
def pwU (u:Nat) (rows:List (List Vl)):Prop:=rows.Pairwise λx y=>pU u x y=false
theorem aKs {u:Nat} {rows:List (List Vl)} {k:Nat} (h:k<rows.length):pwU u (rows.take (k+1))↔pwU u (rows.take k)/\(rows[k][u]!.kind=1->((rows.take k).any λr=>decide (r[u]!.kind=1)&&decide (r[u]!.n=rows[k][u]!.n))=false):=by
 unfold pwU;rw [List.take_succ_eq_append_getElem h,List.pairwise_append];constructor
 ·rintro ⟨a,_,c⟩
  refine ⟨a,λhk=> ?_⟩;rw [List.any_eq_false];intro x hx q;have:=c x hx rows[k] (by simp);unfold pU at this;simp only [zba,zde] at q;rw [decide_eq_true q.1,decide_eq_true hk,decide_eq_true q.2] at this;cases this
 ·rintro ⟨a,b⟩
  refine ⟨a,List.pairwise_singleton ..,λx hx y hy=> ?_⟩;rw [zms] at hy;subst hy;by_cases hk:rows[k][u]!.kind=1
  ·have:=List.any_eq_false.1 (b hk) x hx
   unfold pU;rw [decide_eq_true hk]
   simpa using this
  ·unfold pU
   rw [decide_eq_false hk];simp
theorem aB8 {t:Tb} {rows:List (List Vl)} (h:∀j (hj:j<t.unique.length),pwU t.unique[j].toNat rows):mI t rows=true:=by
 unfold mI;rw [zal];intro u hu;obtain ⟨j,hj,rfl⟩:=zgo hu;exact decide_eq_true (h j hj)
theorem aGj {t:Tb} {rows:List (List Vl)} {j k:Nat} (hj:j<t.unique.length) (h:¬pwU t.unique[j].toNat (rows.take k)):mI t rows=false:=by
 unfold mI;rw [<-Bool.not_eq_true,zal];intro q;exact h ((of_decide_eq_true (q _ (zgm hj))).sublist (List.take_sublist ..))
theorem ayT {f:Nat->Int} {n i:Nat} (h:i<n) (a:∀j<i,f j=0) (b:f i≠0):eJ f (List.range n)=f i:=by
 have:=aaS (f:=f) (l:=List.range n) (i:=i) (by simpa using h) (λj hj=>by rw [List.getElem_range];exact a j hj) (by rw [List.getElem_range];exact b);rwa [List.getElem_range] at this
theorem agC {f:Nat->Int} {n:Nat} (h:∀j<n,f j=0):eJ f (List.range n)=0:=gS.2 λj hj=>h j (List.mem_range.1 hj)
theorem oG {α:Type} {f:α->Int} {l:List α} (h:∀j (hj:j<l.length),f l[j]=0):eJ f l=0:=gS.2 λx hx=>by
 obtain ⟨j,hj,rfl⟩:=zgo hx
 exact h j hj
theorem uQ {α:Type} {f:α->Int} {l:List α} {i:Nat} (b:∀j (h:j<l.length),j<i->f l[j]=0) (h:i<l.length) (hf:f l[i]=0):∀j (h:j<l.length),j<i+1->f l[j]=0:=λj hj a=>by
 rcases zls.1 a with q|q
 ·exact b j hj q
 ·subst q;exact hf
theorem uX {α:Type} {f:α->Int} {l:List α} {i:Nat} (a:∀j (h:j<l.length),j<i->f l[j]=0) (h:i<l.length) (hf:f l[i]≠0):eJ f l=f l[i]:=aaS h (λj hj=>a j (by omega) hj) hf
end
end
section
attribute [local irreducible] Ev PWp
set_option maxRecDepth 10000
set_option maxHeartbeats 4000000
theorem asG (c:Co):PF Tryz.prog 207 [.agg c.cells] (vi (eB c)):=by
 unfold eB;refine pF Tryz.func207 rfl (λst=> ?_)
 (repeat' first|apply wZ;rfl|show Cn _;constructor|exact rfl|show (_:PV)=_;((simp [*];done));done|intro h)
theorem arT (c:Co) (v:Vl):PF Tryz.prog 130 [.agg c.cells, .agg v.cells] (vi (uL c v)):=by
 have hv:=jQ v;have hk:=asG c;unfold uL;generalize cF v=A at*;generalize eB c=K at*;refine pF Tryz.func130 rfl (λst=> ?_)
 (repeat' first|apply wZ;rfl|show Cn _;constructor|exact rfl|apply KR.mk;kernel_rfl|((first|apply hv|apply hk))|show (_:PV)=_;(first|simp [*];done|grind);done|apply wY;rfl|(intro h;simp at h)|intro h)
theorem ahC (t:Tb) (r:List Vl) (hc:t.cols.length<1000000000000000) (g:r.length<1000000000000000):PF Tryz.prog 82 [.seq (t.cols.map Co.cells), .seq (r.map Vl.cells)] (vi (fA t r)):=by
 unfold fA;by_cases hl:¬t.cols.length=r.length
 ·rw [zn hl]
  refine pF Tryz.func82 rfl (λst=> ?_)
  (repeat' first|apply wZ;rfl|show Cn _;constructor|exact rfl|simp only [zql];omega|(intro h;simp at h))
 replace hl:=zdn hl
 rw [zp hl];refine pF Tryz.func82 rfl (λst=> ?_)
 focus ((repeat' first|apply wZ;rfl|show Cn _;constructor|simp only [zql];omega|(intro h;simp at h)))
 refine aC (X:={x:Nat//x<=r.length/\∀j<x,uL t.cols[j]! r[j]! =0}) (λi=>(((((St.nil 30 st).pv 0 (.seq (t.cols.map Co.cells))).pv 13 (.seq (r.map Vl.cells))).pv 14 ((vi ((((r.map Vl.cells)).length:Nat))))).pv 15 ((vi ((i.1:Nat)))))) (λi=>r.length-i.1) ⟨0,by omega,by omega⟩ ?_ (λi=> ?_)
 ·(repeat' first|show Cn _;constructor|exact rfl)
 obtain ⟨i,hi,c⟩:=i;dsimp only;by_cases d:r.length<=i
 ·have e:eJ (λk=>uL t.cols[k]! r[k]!) (List.range r.length)=0:=agC λj hj=>c j (by omega)
  (repeat' first|apply wZ;rfl|show Cn _;constructor|exact rfl|show (_:PV)=_;(rw [e]);done|simp only [zql];omega|(intro h;simp at h))
 have a:i<r.length:=by omega
 have b:i<t.cols.length:=by omega
 have hk:=arT t.cols[i] r[i];have e:=ayT (f:=λk=>uL t.cols[k]! r[k]!) a c;have hu:uL t.cols[i] r[i]=0->∀j<i+1,uL t.cols[j]! r[j]! =0:=λh j hj=>by
  rcases zls.1 hj with q|q
  ·exact c j q
  ·subst q;rw [getElem!_pos t.cols j b,getElem!_pos r j a];exact h
 simp only [getElem!_pos t.cols i b,getElem!_pos r i a] at e;generalize uL t.cols[i] r[i]=E at*
 (repeat' first|(refine ⟨⟨i+1,by omega,hu ‹_›⟩, ?_, ?_⟩)|apply wZ;rfl|show Cn _;constructor|exact rfl|apply KR.mk;kernel_rfl|(apply hk)|show (_:PV)=_;(rw [e ‹_›]);done|apply wY;rfl|apply wI;rfl|apply gE;omega|omega|simp only [zql];omega|(intro h;simp at h)|intro h)
end
section
set_option maxRecDepth 10000
set_option maxHeartbeats 4000000
def mU (n:Int):PV:=(vi (n))
def Ie (k:Int):Value:= .int .i64 k
theorem aEC {g:G} (a:Int):VR Tryz.prog g 3 [.val (Ie a)] (Ie a):=⟨λh=>absurd (h.symm.trans (show bH Tryz.prog 3=false from by kernel_rfl)) (by simp),λ_=>by simp only [RepL];exact ⟨_,[],rfl,by simp [Rep],rfl⟩⟩
theorem xI :KeyOK Tryz.prog 3 Ie (λk=> .val (Ie k)) where
 und:=rfl
 chk k b w:=gW (k:= .int .i64) (by kernel_rfl) rfl rfl b w
 now kd h a b:=by
  have d:Tryz.prog.underlying 3=some (.int .i64):=by kernel_rfl
  have c:kd= .int .i64:=by
   rw [d] at h;injection h with h
   exact h.symm
  subst c;right;simp only [Ie,Instr.sameNow,if_true]
  congr 1
 eq a b w:=by
  have g:G:=⟨#[],λ_=>none,λ_=>0,λ_=>False⟩;exact gR aS (g:=g) 8 Op.maxDepth (by decide) 3 _ _ _ _ _ (show peq tt 8 3 [.val (Ie a)] [.val (Ie b)]=some (decide (a=b)) from rfl) (by kernel_rfl) (aEC a) (aEC b)
 rp k g v h:=aJ h
 bits k:=aeJ rfl
end
end Go.Proofs.YtfablfldonhkiaaGreatDoor
namespace Go.Proofs.YtfablfldonhkiaaGreatDoor.X
open Go Go.Abs
section
set_option maxRecDepth 10000
set_option maxHeartbeats 4000000
def v0 :Vl:=⟨0,0,e0⟩
inductive Ex where
 |mk (k n:Int) (v:Vl) (of:List Ex)
def Ex.k :Ex->Int| .mk k _ _ _=>k
def Ex.n :Ex->Int| .mk _ n _ _=>n
def Ex.v :Ex->Vl| .mk _ _ v _=>v
def Ex.of :Ex->List Ex| .mk _ _ _ o=>o
mutual
def Ex.cells :Ex->List PV
 | .mk k n v o=>[(vi (k)),(vi (n)),(vi (v.kind)),(vi (v.n)),(vs (v.s)), .seq (Ex.rows o)]
def Ex.rows :List Ex->List (List PV)
 |[]=>[]
 |e::es=>e.cells::Ex.rows es
end
theorem Ex.rows_map :∀l:List Ex,Ex.rows l=l.map Ex.cells
 |[]=>rfl
 |e::es=>by simp [Ex.rows,Ex.rows_map es]
theorem Ex.rows_len :∀(l:List Ex),(Ex.rows l).length=l.length
 |[]=>rfl
 |e::es=>by simp [Ex.rows,Ex.rows_len es]
theorem Ex.rows_get :∀{l:List Ex} {i:Nat} {x:Ex},l[i]?=some x->(Ex.rows l)[i]?=some x.cells
 |[],_,_,h=>by simp at h
 |e::es,0,x,h=>by simp at h;simp [Ex.rows,h]
 |e::es,i+1,x,h=>by simp at h;simpa [Ex.rows] using Ex.rows_get h
theorem Ex.cells_len :∀(x:Ex),x.cells.length=6
 | .mk _ _ _ _=>by simp [Ex.cells]
mutual
def Ex.ok :Ex->Prop
 | .mk _ _ _ o=>o.length<2^62/\Ex.oks o
def Ex.oks :List Ex->Prop
 |[]=>True
 |e::es=>e.ok/\Ex.oks es
end
mutual
theorem Ex.ok_of :∀(e:Ex),nZ e.cells->e.ok
 | .mk k n v o,h=>by
  simp only [Ex.cells,nZ,lens,Ex.rows_len] at h
  simp only [Ex.ok]
  exact ⟨h.2.2.2.2.2.1.1,Ex.oks_of o h.2.2.2.2.2.1.2⟩
theorem Ex.oks_of :∀(l:List Ex),sV (Ex.rows l)->Ex.oks l
 |[],_=>by simp [Ex.oks]
 |e::es,h=>by
  simp only [Ex.rows,sV] at h
  simp only [Ex.oks]
  exact ⟨Ex.ok_of e h.1,Ex.oks_of es h.2⟩
end
theorem Ex.oks_mem :∀{l:List Ex} {x:Ex},Ex.oks l->x∈l->x.ok
 |[],_,_,hx=>by cases hx
 |e::es,x,h,hx=>by
  simp only [Ex.oks] at h
  rcases zmc.1 hx with rfl|hx
  ·exact h.1
  ·exact Ex.oks_mem h.2 hx
def kV (l:List Int):List (List PV):=l.map I1
theorem agM {l:List Int} {i:Nat} {x:Int} (h:l[i]?=some x):(kV l)[i]?=some [(vi (x))]:=by simp [kV,h,I1]
theorem ahQ (l:List Int):(kV l).length=l.length:=by simp [kV]
theorem fX {α:Type} {l:List α} {i:Nat} (h:i<l.length):∃x,l[i]?=some x:=⟨l[i],by simp [h]⟩
end
section
attribute [local irreducible] Ev PWp
set_option maxRecDepth 10000
set_option maxHeartbeats 4000000
theorem xK {k n:Int} {b:ByteArray}:PF Tryz.prog 283 [.agg [(vi (k)),(vi (n)),(vs (b))]] (vb (decide (k=0))):=by
 refine pF Tryz.func283 rfl (λst=> ?_)
 (repeat' first|apply wZ;rfl|show Cn _;constructor|exact rfl)
def uC (v:Vl):Bool:=if v.kind=0 then decide (v.n=0)&&decide (v.s=e0) else if v.kind=1 then (decide (v.s=e0)&&decide (v.n>= -1099511627776))&&decide (v.n<=1099511627776) else if v.kind=2 then decide (v.n=0)&&decide ((v.s.size:Int)<=200) else false
theorem right_spec {k n:Int} {b:ByteArray}:PF Tryz.prog 268 [.agg [(vi (k)),(vi (n)),(vs (b))]] (vb (uC ⟨k,n,b⟩)):=by
 unfold uC;dsimp only;by_cases h0:k=0
 ·rw [zp h0]
  refine pF Tryz.func268 rfl (λst=> ?_)
  (repeat' first|apply wZ;rfl|show Cn _;constructor|exact rfl|show (_:PV)=_;((simp [h0];done));done|omega|intro h)
 by_cases a:k=1
 ·rw [zn h0,zp a]
  refine pF Tryz.func268 rfl (λst=> ?_)
  (repeat' first|apply wZ;rfl|show Cn _;constructor|exact rfl|omega|intro h)
 rw [zn h0,zn a];by_cases c:k=2
 ·rw [zp c]
  refine pF Tryz.func268 rfl (λst=> ?_)
  (repeat' first|apply wZ;rfl|show Cn _;constructor|exact rfl|omega|intro h)
 rw [zn c];refine pF Tryz.func268 rfl (λst=> ?_)
 (repeat' first|apply wZ;rfl|show Cn _;constructor|exact rfl|omega|intro h)
theorem eC {n:Int}:PF Tryz.prog 314 [(vi (n))] (.agg [(vi (1)),(vi (n)),(vs (e0))]):=by
 refine pF Tryz.func314 rfl (λst=> ?_)
 (repeat' first|apply wZ;rfl|show Cn _;constructor|exact rfl)
theorem uI {x:Bool}:PF Tryz.prog 281 [(vb (x))] (.agg [(vi (1)),(vi (if x then 1 else 0)),(vs (e0))]):=by
 refine pF Tryz.func281 rfl (λst=> ?_)
 (repeat' first|apply wZ;rfl|show Cn _;constructor|exact rfl|(apply eC)|show (_:PV)=_;(simp [*];done);done|apply wY;rfl|intro h)
def aDE (v:Vl):Bool:=decide (v.kind=1)&&(decide (v.n=0)&&decide (v.s=e0))
def aJl (v:Vl):Bool:=decide (v.kind=1)&& !decide (v.n=0)
theorem aBm {k n:Int} {b:ByteArray}:PF Tryz.prog 277 [.agg [(vi (k)),(vi (n)),(vs (b))]] (vb (aDE ⟨k,n,b⟩)):=by
 refine pF Tryz.func277 rfl (λst=> ?_)
 (repeat' first|apply wZ;rfl|show Cn _;constructor|exact rfl|apply KR.mk;kernel_rfl|(apply eC)|apply wY;rfl)
theorem aDq {k n:Int} {b:ByteArray}:PF Tryz.prog 278 [.agg [(vi (k)),(vi (n)),(vs (b))]] (vb (aJl ⟨k,n,b⟩)):=by
 refine pF Tryz.func278 rfl (λst=> ?_)
 (repeat' first|apply wZ;rfl|show Cn _;constructor|exact rfl)
theorem aFs {k n:Int} {b:ByteArray} {k' n':Int} {b':ByteArray}:PF Tryz.prog 274 [.agg [(vi (k)),(vi (n)),(vs (b))], .agg [(vi (k')),(vi (n')),(vs (b'))]] (vb (decide (k=k')&&(decide (n=n')&&decide (b=b')))):=by
 refine pF Tryz.func274 rfl (λst=> ?_)
 (repeat' first|apply wZ;rfl|show Cn _;constructor|exact rfl)
def aH3 (a b:ByteArray):Bool:=Op.bytesLess a.toList b.toList
theorem nK {k n:Int} {b:ByteArray} {k' n':Int} {b':ByteArray}:PF Tryz.prog 275 [.agg [(vi (k)),(vi (n)),(vs (b))], .agg [(vi (k')),(vi (n')),(vs (b'))]] (vb (decide (n<n')||aH3 b b')):=by
 refine pF Tryz.func275 rfl (λst=> ?_)
 (repeat' first|apply wZ;rfl|show Cn _;constructor|exact rfl)
theorem aDu {k n:Int} {b:ByteArray} {k' n':Int} {b':ByteArray}:PF Tryz.prog 280 [.agg [(vi (k)),(vi (n)),(vs (b))], .agg [(vi (k')),(vi (n')),(vs (b'))]] (.tup [.agg [(vi (1)),(vi (if decide (n=0) then 1 else 0)),(vs (e0))],(vi (0))]):=by
 refine pF Tryz.func280 rfl (λst=> ?_)
 (repeat' first|apply wZ;rfl|show Cn _;constructor|exact rfl|(apply uI)|apply wY;rfl)
theorem apJ {k n:Int} {b:ByteArray} {k' n':Int} {b':ByteArray}:PF Tryz.prog 282 [.agg [(vi (k)),(vi (n)),(vs (b))], .agg [(vi (k')),(vi (n')),(vs (b'))]] (.tup [.agg [(vi (1)),(vi (if decide (k=0) then 1 else 0)),(vs (e0))],(vi (0))]):=by
 refine pF Tryz.func282 rfl (λst=> ?_)
 (repeat' first|apply wZ;rfl|show Cn _;constructor|exact rfl|((first|apply uI|apply xK))|apply wY;rfl)
def amB (f:FuncId) (op:Int->Int->Int):Prop:=∀a b,PF Tryz.prog f [(vi (a)),(vi (b))] (vi (IntKind.wrap .i64 (op a b)))
theorem aBx :amB 270 (· + ·):=by
 intro a b;refine pF Tryz.func270 rfl (λst=> ?_)
 ((apply aIS pk 4);rfl;(focus repeat' constructor);(focus repeat' (exact All.nil)))
 refine lB ?_
 iterate 2 (apply mW aS;iterate 4 rfl)
 (apply aGe;iterate 5 rfl)
 (apply mW aS;iterate 4 rfl)
 refine uN ?_
 (repeat' first|apply wZ;rfl|show Cn _;constructor|exact rfl)
theorem aA7 :amB 271 (· - ·):=by
 intro a b;refine pF Tryz.func271 rfl (λst=> ?_)
 ((apply aIS pk 4);rfl;(focus repeat' constructor);(focus repeat' (exact All.nil)))
 refine lB ?_
 iterate 2 (apply mW aS;iterate 4 rfl)
 (apply aGD;iterate 5 rfl)
 (apply mW aS;iterate 4 rfl)
 refine uN ?_
 (repeat' first|apply wZ;rfl|show Cn _;constructor|exact rfl)
theorem aAQ :amB 272 (· * ·):=by
 intro a b;refine pF Tryz.func272 rfl (λst=> ?_)
 ((apply aIS pk 4);rfl;(focus repeat' constructor);(focus repeat' (exact All.nil)))
 refine lB ?_
 iterate 2 (apply mW aS;iterate 4 rfl)
 (apply aGr;iterate 5 rfl)
 (apply mW aS;iterate 4 rfl)
 refine uN ?_
 (repeat' first|apply wZ;rfl|show Cn _;constructor|exact rfl)
def lim (n:Int):Prop:= -4611686018427387904<=n/\n<=4611686018427387904
def aIW (op:Int->Int->Int) (a b:Int):Bool:=(((decide (max a (0-a)>0)&&decide (max b (0-b)>0))&&decide (IntKind.wrap .i64 (op 1 1)=1))&&decide (max a (0-a)>1099511627776/max b (0-b)))
def aoV (op:Int->Int->Int) (a b:Int):Bool:=(aIW op a b||decide (IntKind.wrap .i64 (op a b)>1099511627776))||decide (IntKind.wrap .i64 (op a b)< -1099511627776)
theorem aBP {f:FuncId} {op:Int->Int->Int} (hf:amB f op) {k n:Int} {b:ByteArray} {k' n':Int} {b':ByteArray} (c:lim n) (d:lim n'):PF Tryz.prog 313 [.agg [(vi (k)),(vi (n)),(vs (b))], .agg [(vi (k')),(vi (n')),(vs (b'))], .rp [.fn f []]]
  (if aoV op n n' then .tup [.agg [(vi (0)),(vi (0)),(vs (e0))],(vi (20))] else .tup [.agg [(vi (1)),(vi (IntKind.wrap .i64 (op n n'))),(vs (e0))],(vi (0))]):=by
 obtain ⟨c,i⟩:=c
 obtain ⟨d,j⟩:=d
 have e:=hf 1 1
 have g:=hf n n'
 have a:aoV op n n'=((aIW op n n'||decide (IntKind.wrap .i64 (op n n')>1099511627776))||decide (IntKind.wrap .i64 (op n n')< -1099511627776)):=rfl
 unfold aIW at a
 generalize aoV op n n'=R at*
 refine pF Tryz.func313 rfl (λst=> ?_)
 (repeat' first|apply wZ;rfl|show Cn _;constructor|exact rfl|apply KR.mk;kernel_rfl|((first|apply e|apply g|apply eC))|show (_:PV)=_;(first|rw [show R=true from by rw [a];simpa using h];rfl|rw [show R=false from by rw [a];simpa using h];rfl);done|((intro h;(have h:=(aLf h).2);(simp only [zba,zde] at h);omega))|apply wY;rfl|omega|(intro h;simp at h))
def pS (r:Vl×Int):PV:= .tup [.agg [(vi (r.1.kind)),(vi (r.1.n)),(vs (r.1.s))],(vi (r.2))]
def vN (n:Int):Vl:=⟨1,n,e0⟩
def pK (b:Bool):Vl:=vN (if b then 1 else 0)
def aqM (f:FuncId) (caps:List PV) (r:Vl->Vl->Vl×Int):Prop:=
 ∀k n b k' n' b',lim n->lim n'->PF Tryz.prog f ([.agg [(vi (k)),(vi (n)),(vs (b))], .agg [(vi (k')),(vi (n')),(vs (b'))]]++caps) (pS (r ⟨k,n,b⟩ ⟨k',n',b'⟩))
def aID (f:FuncId) (op:Vl->Vl->Bool):Prop:=∀{k n b k' n' b'},PF Tryz.prog f [.agg [(vi (k)),(vi (n)),(vs (b))], .agg [(vi (k')),(vi (n')),(vs (b'))]] (vb (op ⟨k,n,b⟩ ⟨k',n',b'⟩))
def aJL (f:FuncId) (op:Vl->Bool):Prop:=∀{k n b},PF Tryz.prog f [.agg [(vi (k)),(vi (n)),(vs (b))]] (vb (op ⟨k,n,b⟩))
def abP (op:Int->Int->Int) (a b:Vl):Vl×Int:=if aoV op a.n b.n then (v0,20) else (vN (IntKind.wrap .i64 (op a.n b.n)),0)
theorem xJ {f:FuncId} {op:Int->Int->Int} (hf:amB f op):aqM 313 [.rp [.fn f []]] (abP op):=by
 intro k n b k' n' b' a c;have:=aBP hf (k:=k) (b:=b) (k':=k') (b':=b') a c;unfold abP;simp only;split at this
 ·rename_i h;rw [zp h];exact this
 ·rename_i h;rw [zn h];exact this
theorem ahR {f:FuncId} {op:Vl->Vl->Bool} (hf:aID f op):aqM 315 [.rp [.fn f []]] (λa b=>(pK (op a b),0)):=by
 intro k n b k' n' b' d e;have c:= @hf k n b k' n' b';refine pF Tryz.func315 rfl (λst=> ?_)
 (repeat' first|apply wZ;rfl|show Cn _;constructor|exact rfl|((first|apply c|apply uI))|apply wY;rfl)
def lL (r:Vl->Vl->Vl×Int) (a b:Vl):Vl×Int:=if (decide (a.kind=0)||decide (b.kind=0)) then (v0,0) else r a b
theorem iY {f:FuncId} {caps:List PV} {r:Vl->Vl->Vl×Int} (hf:aqM f caps r):aqM 317 [.rp [.fn f caps]] (lL r):=by
 intro k n b k' n' b' c d;have a:=hf k n b k' n' b' c d;have hd:lL r ⟨k,n,b⟩ ⟨k',n',b'⟩=if (decide (k=0)||decide (k'=0)) then (v0,0) else r ⟨k,n,b⟩ ⟨k',n',b'⟩:=rfl
 generalize lL r ⟨k,n,b⟩ ⟨k',n',b'⟩=R at*;generalize r ⟨k,n,b⟩ ⟨k',n',b'⟩=e at*;unfold pS at a⊢;refine pF Tryz.func317 rfl (λst=> ?_)
 (repeat' first|apply wZ;rfl|show Cn _;constructor|exact rfl|((first|apply a|apply xK))|show (_:PV)=_;((simp [*,v0];done));done|apply wY;rfl|(intro h;simp at h))
def agW (op:Vl->Bool) (c:Int) (a b:Vl):Vl×Int:=if (op a||op b) then (vN c,0) else if (decide (a.kind=0)||decide (b.kind=0)) then (v0,0) else (vN (1-c),0)
theorem acX {f:FuncId} {op:Vl->Bool} (hf:aJL f op) {a:Int} (h0:0<=a) (e:a<=1):aqM 316 [.rp [.fn f []], .rp [(vi (a))]] (agW op a):=by
 intro k n b k' n' b' _ _;have c:= @hf k n b;have d:= @hf k' n' b';have hd:agW op a ⟨k,n,b⟩ ⟨k',n',b'⟩=if (op ⟨k,n,b⟩||op ⟨k',n',b'⟩) then (vN a,0) else if (decide (k=0)||decide (k'=0)) then (v0,0) else (vN (1-a),0):=rfl
 generalize agW op a ⟨k,n,b⟩ ⟨k',n',b'⟩=R at*;generalize op ⟨k,n,b⟩=A at*;generalize op ⟨k',n',b'⟩=B at*;unfold pS;refine pF Tryz.func316 rfl (λst=> ?_)
 (repeat' first|apply wZ;rfl|show Cn _;constructor|exact rfl|((first|apply c|apply d|apply xK|apply eC))|show (_:PV)=_;((simp [*,v0,vN];done));done|apply wY;rfl|omega|(intro h;simp at h))
theorem aDK :aqM 280 [] (λa _=>(pK (decide (a.n=0)),0)):=λ_ _ _ _ _ _ _ _=>aDu
theorem anK :aqM 282 [] (λa _=>(pK (decide (a.kind=0)),0)):=λ_ _ _ _ _ _ _ _=>apJ
theorem aeO {p:FuncId} {caps:List PV}:PF Tryz.prog 279 [.fn p caps] (.fn 317 [.rp [.fn p caps]]):=by
 refine pF Tryz.func279 rfl (λst=> ?_)
 (repeat' first|apply wZ;rfl|show Cn _;constructor|exact rfl|apply bC 1;rfl;rfl)
theorem arU {f:FuncId}:PF Tryz.prog 269 [.fn f []] (.agg [(vi (2)),(vb (true)), .fn 317 [.rp [.fn 313 [.rp [.fn f []]]]]]):=by
 refine pF Tryz.func269 rfl (λst=> ?_)
 (repeat' first|apply wZ;rfl|show Cn _;constructor|exact rfl|(apply aeO)|apply bC 1;rfl;rfl|apply wY;rfl)
theorem aGH {f:FuncId}:PF Tryz.prog 273 [.fn f []] (.agg [(vi (2)),(vb (false)), .fn 317 [.rp [.fn 315 [.rp [.fn f []]]]]]):=by
 refine pF Tryz.func273 rfl (λst=> ?_)
 (repeat' first|apply wZ;rfl|show Cn _;constructor|exact rfl|(apply aeO)|apply bC 1;rfl;rfl|apply wY;rfl)
theorem aEB {f:FuncId} {a:Int}:PF Tryz.prog 276 [.fn f [],(vi (a))] (.agg [(vi (2)),(vb (true)), .fn 316 [.rp [.fn f []], .rp [(vi (a))]]]):=by
 refine pF Tryz.func276 rfl (λst=> ?_)
 (repeat' first|apply wZ;rfl|show Cn _;constructor|exact rfl|apply bC 2;rfl;rfl|apply bC 3;rfl;rfl)
def aCR (f:FuncId):PV:= .agg [(vi (2)),(vb (true)), .fn 317 [.rp [.fn 313 [.rp [.fn f []]]]]]
def aJM (f:FuncId):PV:= .agg [(vi (2)),(vb (false)), .fn 317 [.rp [.fn 315 [.rp [.fn f []]]]]]
def aHR (f:FuncId) (a:Int):PV:= .agg [(vi (2)),(vb (true)), .fn 316 [.rp [.fn f []], .rp [(vi (a))]]]
def rR :List (Value×PV):=[(.int .i64 2,aCR 270),(.int .i64 3,aCR 271),(.int .i64 4,aCR 272),(.int .i64 5,aJM 274),(.int .i64 6,aJM 275),(.int .i64 7,aHR 277 0),(.int .i64 8,aHR 278 1),
 (.int .i64 9, .agg [(vi (1)),(vb (true)), .fn 317 [.rp [.fn 280 []]]]),(.int .i64 10, .agg [(vi (1)),(vb (false)), .fn 282 []])]
theorem eM :PF Tryz.prog 210 [] (.fmap rR):=by
 refine pF Tryz.func210 rfl (λst=> ?_)
 focus ((repeat' first|apply jL 0;rfl;exact aA _ _ _|((exact Cn.any ⟨_,_,st,rfl,zwr _,StSub.via id a (λj h=>by repeat (first|refine Eq.trans (aB h) ?_|exact rfl)),rfl,rfl⟩))|apply wZ;rfl|show Cn _;constructor|((first|apply arU|apply aGH|apply aEB|apply aeO))|((refine pE rfl (λid a=> ?_)))|apply rV aS;exact .inl rfl;(iterate 7 rfl);exact aA _ _ _;rfl|apply wY;rfl))
def eqV (a b:Vl):Bool:=decide (a.kind=b.kind)&&(decide (a.n=b.n)&&decide (a.s=b.s))
def cX (a b:Vl):Bool:=decide (a.n<b.n)||aH3 a.s b.s
def lN (k:Int):Int:=if k=9\/k=10 then 1 else 2
def tD (k:Int):Bool:= !decide (k=5\/k=6\/k=10)
def vB (k:Int) (a b:Vl):Vl×Int:=
 if k=2 then lL (abP (· + ·)) a b else if k=3 then lL (abP (· - ·)) a b else if k=4 then lL (abP (· * ·)) a b
 else if k=5 then lL (λa b=>(pK (eqV a b),0)) a b else if k=6 then lL (λa b=>(pK (cX a b),0)) a b
 else if k=7 then agW aDE 0 a b else if k=8 then agW aJl 1 a b
 else if k=9 then lL (λa _=>(pK (decide (a.n=0)),0)) a b else (pK (decide (a.kind=0)),0)
theorem abL {k:Int} (a:2<=k) (b:k<=10):∃f caps,iB tt 265 rR (.int .i64 k) false=some (.agg [(vi (lN k)),(vb (tD k)), .fn f caps])/\aqM f caps (vB k):=by
 have:k=2\/k=3\/k=4\/k=5\/k=6\/k=7\/k=8\/k=9\/k=10:=by omega
 rcases this with rfl|rfl|rfl|rfl|rfl|rfl|rfl|rfl|rfl
 ·exact ⟨_,_,rfl,iY (xJ aBx)⟩
 ·exact ⟨_,_,rfl,iY (xJ aA7)⟩
 ·exact ⟨_,_,rfl,iY (xJ aAQ)⟩
 ·exact ⟨_,_,rfl,iY (ahR (op:=eqV) (fun {_ _ _ _ _ _}=>aFs))⟩
 ·exact ⟨_,_,rfl,iY (ahR (op:=cX) (fun {_ _ _ _ _ _}=>nK))⟩
 ·exact ⟨_,_,rfl,acX (op:=aDE) (fun {_ _ _}=>aBm) (by omega) (by omega)⟩
 ·exact ⟨_,_,rfl,acX (op:=aJl) (fun {_ _ _}=>aDq) (by omega) (by omega)⟩
 ·exact ⟨_,_,rfl,iY aDK⟩
 ·exact ⟨_,_,rfl,anK⟩
theorem aDW {k:Int} (a:2<=k) (b:k<=10):∃f caps,iB tt 265 rR (.int .i64 k) true=some (.tup [.agg [(vi (lN k)),(vb (tD k)), .fn f caps],(vb (true))]):=by
 have:k=2\/k=3\/k=4\/k=5\/k=6\/k=7\/k=8\/k=9\/k=10:=by omega
 rcases this with rfl|rfl|rfl|rfl|rfl|rfl|rfl|rfl|rfl<;>exact ⟨_,_,rfl⟩
theorem azR {k:Int} (h:¬(2<=k/\k<=10)):iB tt 265 rR (.int .i64 k) true=some (.tup [.agg [(vi (0)),(vb (false)), .val .nilFunc],(vb (false))]):=by
 have hf:aiE (.int .i64 k) rR=some none:=by
  unfold rR;simp only [aiE,vQ,pO,zqt];have b:¬k=2:=by omega
  have c:¬k=3:=by omega
  have d:¬k=4:=by omega
  have e:¬k=5:=by omega
  have f:¬k=6:=by omega
  have g:¬k=7:=by omega
  have i:¬k=8:=by omega
  have j:¬k=9:=by omega
  have a:¬k=10:=by omega
  simp [b,c,d,e,f,g,i,j,a]
 unfold iB;rw [hf];rfl
theorem aEc {α:Type} {l:List α} {i:Nat} {x:α} {p:α->Bool} (h:l[i]?=some x):(l.take (i+1)).any p=((l.take i).any p||p x):=by
 obtain ⟨hl,rfl⟩:=zge.1 h;rw [List.take_succ_eq_append_getElem hl,List.any_append];simp
theorem aoU {α:Type} {l:List α} {i:Nat} {x:α} {p:α->Bool} (h:l[i]?=some x):(l.take (i+1)).all p=((l.take i).all p&&p x):=by
 obtain ⟨hl,rfl⟩:=zge.1 h;rw [List.take_succ_eq_append_getElem hl,List.all_append];simp
theorem aIy {α:Type} {l:List α} {i:Nat} {x:α} {p:α->Bool} (h:l[i]?=some x) (hp:p x=true):l.any p=true:=
 List.any_eq_true.2 ⟨x,List.mem_of_getElem? h,hp⟩
theorem axT {α:Type} {l:List α} {i:Nat} {x:α} {p:α->Bool} (h:l[i]?=some x) (hp:p x=false):l.all p=false:=by
 cases ha:l.all p with
 |false=>rfl
 |true=>rw [zal] at ha;have:=ha x (List.mem_of_getElem? h);rw [hp] at this;cases this
theorem wV {α:Type} {l:List α} {i:Nat} (h:¬i<l.length):l.take i=l:=ztl (by omega)
def rG :Nat->Ex->Bool
 |0,_=>true
 |l+1,e=>e.of.any (rG l)
theorem aAw :∀(left:Nat) (e:Ex) (z:Int),z=(left:Nat)->left<=1000->e.ok->PF Tryz.prog 208 [.agg e.cells,(vi (z))] (vb (rG left e)):=by
 intro left
 induction left with
 |zero=>
  intro e z hz _ _;subst hz;obtain ⟨k,n,v,of⟩:=e;refine pF Tryz.func208 rfl (λst=> ?_)
  (repeat' first|apply wZ;rfl|show Cn _;constructor|exact rfl)
 |succ left ih=>
  intro e z hz hl d;subst hz;obtain ⟨k,n,v,of⟩:=e;simp only [Ex.ok] at d;have q:=Ex.rows_len of;refine pF Tryz.func208 rfl (λst=> ?_)
  focus ((repeat' first|apply wZ;rfl|show Cn _;constructor))
  refine aC (X:={i:Nat//i<=of.length/\(of.take i).any (rG left)=false}) (λi=>(((((St.nil 21 st).pv 1 ((vi ((left+1:Nat))))).pv 10 (.seq (Ex.rows of))).pv 11 ((vi (((Ex.rows of).length:Nat))))).pv 12 ((vi ((i.1:Nat)))))) (λi=>of.length-i.1) ⟨0,by omega,by simp⟩ ?_ (λi=> ?_)
  ·(repeat' first|show Cn _;constructor|exact rfl)
  obtain ⟨i,hi,a⟩:=i;dsimp only;by_cases o:of.length<=i
  ·rw [wV (by omega)] at a
   have e:rG (left+1) (.mk k n v of)=false:=a
   (repeat' first|apply wZ;rfl|show Cn _;constructor|exact rfl|show (_:PV)=_;(rw [e]);done|omega|(intro h;simp at h))
  obtain ⟨x,hx⟩:=fX (l:=of) (i:=i) (by omega);have b:=Ex.rows_get hx;have j:=Ex.oks_mem d.2 (List.mem_of_getElem? hx);have f:=aEc (p:=rG left) hx;have g:rG left x=true->rG (left+1) (.mk k n v of)=true:=λh=>aIy hx h;have hd:=ih x (left:Nat) rfl (by omega) j;generalize rG left x=D at*;obtain ⟨k',n',r,m⟩:=x;have c:∀z:Int,z=(left:Nat)->PF Tryz.prog 208 [.agg (Ex.mk k' n' r m).cells,(vi (z))] (vb (D)):=λz hz=>hz▸hd;cases D with
  |true=>
   have e:=g rfl
   (repeat' first|apply wZ;rfl|show Cn _;constructor|exact rfl|apply dM pk;(iterate 6 rfl);rotate_left;rfl;(intro hw;rfl);(intro hw;apply b<;>omega);(intro _;exact (Ex.cells_len _));rfl|(apply c<;>(omega))|show (_:PV)=_;(rw [e]);done|apply wY;rfl|omega|(intro h;simp at h))
  |false=>
   rw [a] at f
   (repeat' first|(refine ⟨⟨i+1,by omega,f⟩, ?_, ?_⟩)|apply wZ;rfl|show Cn _;constructor|exact rfl|apply dM pk;(iterate 6 rfl);rotate_left;rfl;(intro hw;rfl);(intro hw;apply b<;>omega);(intro _;exact (Ex.cells_len _));rfl|(apply c<;>(omega))|apply wY;rfl|omega|simp only [zql];omega|(intro h;simp at h))
def vz (v:Vl):Bool:=decide (v.kind=0)&&(decide (v.n=0)&&decide (v.s=e0))
def nL (k n:Int) (v:Vl) (l:Int):Bool:=
 if k=0 then (decide (n>=0)&&vz v)&&decide (l=0)
 else if k=1 then (decide (n=0)&&uC v)&&decide (l=0)
 else decide (2<=k/\k<=10)&&decide (n=0)&&vz v&&decide (l=lN k)
mutual
def bT :Ex->Bool
 | .mk k n v o=>nL k n v o.length&&(decide (k=0)||decide (k=1)||qD o)
def qD :List Ex->Bool
 |[]=>true
 |e::es=>bT e&&qD es
end
theorem oR :∀l,qD l=l.all bT
 |[]=>rfl
 |e::es=>by simp [qD,oR es]
mutual
theorem mF :∀(e:Ex),e.ok->PF Tryz.prog 209 [.agg e.cells] (vb (bT e))
 | .mk k n v of,hok=>by
  simp only [Ex.ok] at hok
  have C:=uY of
  have r:=Ex.rows_len of
  obtain ⟨c,d,g⟩:=v
  have z:= @right_spec c d g
  by_cases hk:2<=k/\k<=10
  ·obtain ⟨f,caps,b⟩:=aDW hk.1 hk.2
   have m:¬k=0:=by omega
   have o:¬k=1:=by omega
   have a:bT (.mk k n ⟨c,d,g⟩ of)=(nL k n ⟨c,d,g⟩ of.length&&qD of):=by simp [bT,m,o]
   have A:nL k n ⟨c,d,g⟩ of.length=(decide (n=0)&&vz ⟨c,d,g⟩&&decide ((of.length:Int)=lN k)):=by simp [nL,m,o,hk]
   by_cases hh:n=0/\(c=0/\d=0/\g=e0)/\(of.length:Int)=lN k
   ·have t:nL k n ⟨c,d,g⟩ of.length=true:=by rw [A];simp [vz,hh]
    rw [t,Bool.true_and,oR] at a;refine pF Tryz.func209 rfl (λst=> ?_)
    focus ((repeat' first|apply wZ;rfl|show Cn _;constructor|exact rfl|apply KR.mk;kernel_rfl|(apply eM)|apply lT pk;(iterate 4 rfl);(focus repeat' constructor);rfl;exact b;rfl|apply wY;rfl|omega|exfalso;simp_all;done|(intro h;simp at h)|intro h))
    refine aC (X:={i:Nat//i<=of.length/\(of.take i).all bT=true}) (λi=>((((St.nil 84 st).pv 74 (.seq (Ex.rows of))).pv 75 ((vi (((Ex.rows of).length:Nat))))).pv 76 ((vi ((i.1:Nat)))))) (λi=>of.length-i.1) ⟨0,by omega,by simp⟩ ?_ (λi=> ?_)
    ·(repeat' first|show Cn _;constructor|exact rfl)
    obtain ⟨i,hi,j⟩:=i;dsimp only;by_cases B:of.length<=i
    ·rw [wV (by omega)] at j
     rw [j] at a
     (repeat' first|apply wZ;rfl|show Cn _;constructor|exact rfl|show (_:PV)=_;(rw [a]);done|omega|(intro h;simp at h))
    obtain ⟨x,hx⟩:=fX (l:=of) (i:=i) (by omega);have s:=Ex.rows_get hx;have hm:=List.mem_of_getElem? hx;have w:=C x hm (Ex.oks_mem hok.2 hm);have u:=aoU (p:=bT) hx;have y:=λh=>axT (p:=bT) hx h;generalize bT x=D at*;obtain ⟨k',n',F,E⟩:=x;cases D with
    |false=>
     rw [y rfl] at a
     (repeat' first|apply wZ;rfl|show Cn _;constructor|exact rfl|apply dM pk;(iterate 6 rfl);rotate_left;rfl;(intro hw;rfl);(intro hw;apply s<;>omega);(intro _;exact (Ex.cells_len _));rfl|(apply w)|show (_:PV)=_;(rw [a]);done|apply wY;rfl|omega|(intro h;simp at h))
    |true=>
     rw [j] at u
     (repeat' first|(refine ⟨⟨i+1,by omega,u⟩, ?_, ?_⟩)|apply wZ;rfl|show Cn _;constructor|exact rfl|apply dM pk;(iterate 6 rfl);rotate_left;rfl;(intro hw;rfl);(intro hw;apply s<;>omega);(intro _;exact (Ex.cells_len _));rfl|(apply w)|apply wY;rfl|omega|simp only [zql];omega|(intro h;simp at h))
   ·have t:nL k n ⟨c,d,g⟩ of.length=false:=by
     rw [A,<-Bool.not_eq_true];simp only [vz,zba,zde];exact λq=>hh ⟨q.1.1,q.1.2,q.2⟩
    rw [t,Bool.false_and] at a;refine pF Tryz.func209 rfl (λst=> ?_)
    (repeat' first|apply wZ;rfl|show Cn _;constructor|exact rfl|apply KR.mk;kernel_rfl|(apply eM)|show (_:PV)=_;(rw [a]);done|apply lT pk;(iterate 4 rfl);(focus repeat' constructor);rfl;exact b;rfl|apply wY;rfl|omega|exfalso;simp_all;done|(intro h;simp at h)|intro h)
  ·have b:=azR hk
   by_cases m:k=0
   ·subst m
    have e:bT (.mk 0 n ⟨c,d,g⟩ of)=((decide (n>=0)&&(decide (c=0)&&(decide (d=0)&&decide (g=e0))))&&decide ((of.length:Int)=0)):=by simp [bT,nL,vz]
    refine pF Tryz.func209 rfl (λst=> ?_)
    (repeat' first|apply wZ;rfl|show Cn _;constructor|exact rfl|apply KR.mk;kernel_rfl|(apply eM)|show (_:PV)=_;((rw [e,r];done));done|apply lT pk;(iterate 4 rfl);(focus repeat' constructor);rfl;exact b;rfl|apply wY;rfl)
   by_cases o:k=1
   ·subst o
    have e:bT (.mk 1 n ⟨c,d,g⟩ of)=((decide (n=0)&&uC ⟨c,d,g⟩)&&decide ((of.length:Int)=0)):=by simp [bT,nL]
    generalize uC ⟨c,d,g⟩=R at*;refine pF Tryz.func209 rfl (λst=> ?_)
    (repeat' first|apply wZ;rfl|show Cn _;constructor|exact rfl|apply KR.mk;kernel_rfl|((first|apply eM|apply z))|show (_:PV)=_;((rw [e,r];done));done|apply lT pk;(iterate 4 rfl);(focus repeat' constructor);rfl;exact b;rfl|apply wY;rfl)
   have e:bT (.mk k n ⟨c,d,g⟩ of)=false:=by simp [bT,nL,m,o,hk]
   refine pF Tryz.func209 rfl (λst=> ?_)
   (repeat' first|apply wZ;rfl|show Cn _;constructor|exact rfl|apply KR.mk;kernel_rfl|(apply eM)|show (_:PV)=_;(rw [e]);done|apply lT pk;(iterate 4 rfl);(focus repeat' constructor);rfl;exact b;rfl|apply wY;rfl|omega|intro h)
theorem uY :∀(l:List Ex) (x:Ex),x∈l->x.ok->PF Tryz.prog 209 [.agg x.cells] (vb (bT x))
 |[],_,h,_=>by cases h
 |e::es,x,h,hok=>by
  rcases zmc.1 h with h|h
  ·rw [h] at hok⊢;exact mF e hok
  ·exact uY es x h hok
end
end
end Go.Proofs.YtfablfldonhkiaaGreatDoor.X
