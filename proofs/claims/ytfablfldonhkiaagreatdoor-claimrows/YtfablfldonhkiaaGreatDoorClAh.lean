import Derived.Test.YtfablfldonhkiaaGreatDoorClAg
import Derived.Test.YtfablfldonhkiaaGreatDoorClAb
import Derived.Test.YtfablfldonhkiaaGreatDoorAbsE
set_option linter.unusedSimpArgs false
set_option linter.unusedVariables false
namespace Go.Proofs.YtfablfldonhkiaaGreatDoor
open Go Go.Abs
section
set_option maxRecDepth 10000
set_option maxHeartbeats 4000000
section
variable {tx:Cl->Int} {sh:Cl->Vl}
structure SuOK (t:Tb) (m:Su):Prop where
 c1:1<=m.col
 c2:m.col<t.cols.length
 b1:1<=m.by_
 b2:m.by_<t.cols.length
 m0:0<=m.max
 m1:m.max<=1099511627776
 kc:t.cols[m.col.toNat]!.kind=0
 kb:t.cols[m.by_.toNat]!.kind=0
structure UnOK (t:Tb) (u:Int):Prop where
 c1:1<=u
 c2:u<t.cols.length
 kc:t.cols[u.toNat]!.kind=0
theorem aoG {h a n p:Bool} (e:amY h a n p=0):h=true/\a=false/\n=true:=by
 unfold amY at e
 cases h<;>cases a<;>cases n<;>cases p<;>simp at e⊢
theorem arZ {h p n:Bool} (e:amA h p n=0):h=true/\n=true:=by
 unfold amA at e
 cases h<;>cases n<;>cases p<;>simp at e⊢
theorem aGw {s:Sc} (h:cB s=0) {k:Nat} (hk:k<s.length) {m:Su} (hm:m∈s[k].sums):SuOK s[k] m:=by
 obtain ⟨i,hi,rfl⟩:=zgo hm
 have:=fH h hk (lk6 s[k]!) (by simp [lks])
 rw [getElem!_pos s k hk] at this
 have e:alP s[k] i=0:=nP this hi
 unfold alP at e
 rw [getElem!_pos s[k].sums i hi] at e
 obtain ⟨e1,e2,e3⟩:=aoG e
 unfold oX at e1
 unfold mF kR at e3
 simp only [zba,zde,Bool.or_eq_false_iff,decide_eq_false_iff_not] at e1 e2 e3
 exact ⟨e1.1.1,e1.1.2,e1.2.1,e1.2.2,by omega,by omega,e3.1.1,e3.2.1⟩
theorem aGt {s:Sc} (h:cB s=0) {k:Nat} (hk:k<s.length) {u:Int} (hu:u∈s[k].unique):UnOK s[k] u:=by
 obtain ⟨i,hi,rfl⟩:=zgo hu
 have:=fH h hk (lk4 s[k]!) (by simp [lks])
 rw [getElem!_pos s k hk] at this
 have e:ajW s[k] i=0:=nP this hi
 unfold ajW at e
 rw [getElem!_pos s[k].unique i hi] at e
 obtain ⟨e1,e2⟩:=arZ e
 unfold oX at e1
 unfold mF kR at e2
 simp only [zba,zde] at e1 e2
 exact ⟨e1.1,e1.2,e2.1⟩
theorem eZ {b:Bs} {k:Nat} (hk:k<b.length):aF b k=b[k].lines:=by
 unfold aF okT
 rw [zp (by simp;omega),Int.toNat_natCast,getElem!_pos b k hk]
structure RwOK (t:Tb) (r:List Vl):Prop where
 len:r.length=t.cols.length
 num:∀j<t.cols.length,t.cols[j]!.kind=0->bX r[j]! =true
theorem arD (hsh:∀c:Cl,c.kind=0->sh c=c.val) {s:Sc} {b:Bs} (hg:bH tx s b=true) {k:Nat} (hk:k<s.length) {r:List Vl} (hr:r∈dT sh b k):RwOK s[k] r:=by
 obtain ⟨⟨h1,h2⟩,_⟩:=aU.1 hg
 have hkb:k<b.length:=by omega
 obtain ⟨l,hl,rfl⟩:=List.mem_map.1 hr
 rw [eZ hkb] at hl
 have hL:=rE hg hkb hl
 rw [getElem!_pos s k hk] at hL
 have hlen:=hL.len
 refine ⟨by unfold aHL;rw [zql];exact hlen,λj hj h0=> ?_⟩
 have hjc:j<l.cells_.length:=by omega
 have hc:=hL.cell _ (zgm hjc)
 have hkd:=hL.kind j hjc
 rw [h0] at hkd
 unfold aHL
 rw [getElem!_pos _ j (by rw [zql];exact hjc),List.getElem_map,hsh _ hkd]
 unfold iU at hc
 rw [zp hkd,zba] at hc
 exact hc.1
theorem asY {v:Vl} (h:bX v=true):(-1099511627776<=v.n/\v.n<=1099511627776)/\(v.kind≠1->v.n=0):=by
 unfold bX at h
 split at h
 ·simp only [zba,zde] at h;omega
 ·split at h
  ·simp only [zba,zde] at h;omega
  ·split at h
   ·simp only [zba,zde] at h;omega
   ·cases h
def ahO (m:Su) (es:List (Int×Int)) (r:List Vl):List (Int×Int):=if r[m.by_.toNat]!.kind=1 then cL r[m.by_.toNat]!.n ((bY r[m.by_.toNat]!.n es).getD 0+r[m.col.toNat]!.n) es else es
def lZ (m:Su) (rows:List (List Vl)):List (Int×Int):=rows.foldl (ahO m) []
theorem agJ {V:Type} (k k':Int) (v:V):∀(l:List (Int×V)),bY k' (cL k v l)=if k'=k then some v else bY k' l
 |[]=>by simp only [cL,bY]
 |e::l=>by
  have ih:=agJ k k' v l
  simp only [cL]
  split
  ·rename_i h;simp only [bY];split<;>simp_all
  ·rename_i h;simp only [bY,ih];split
   ·rename_i h2;rw [zn (λe=>h (by rw [<-e,h2]))]
   ·rfl
theorem aGA {V:Type} {k:Int} {v:V}:∀{l:List (Int×V)},(l.map (·.1)).Nodup->(k,v)∈l->bY k l=some v
 |e::l,hn,h=>by
  simp only [zmp,List.nodup_cons] at hn
  simp only [bY]
  rcases zmc.1 h with rfl|h
  ·rw [zp rfl]
  ·rw [zn (λq=>hn.1 (List.mem_map.2 ⟨_,h,q⟩))];exact aGA hn.2 h
theorem aC1 {V:Type} {k:Int} {v:V}:∀{l:List (Int×V)},bY k l=some v->(k,v)∈l
 |[],h=>by simp [bY] at h
 |e::l,h=>by
  simp only [bY] at h
  split at h
  ·rename_i q;injection h with h;subst h;rw [q];exact List.mem_cons_self ..
  ·exact List.mem_cons_of_mem _ (aC1 h)
theorem acT {V:Type} (k:Int) (v:V):∀(l:List (Int×V)),∀k',k'∈(cL k v l).map (·.1)->k'=k\/k'∈l.map (·.1)
 |[],k',h=>by simp [cL] at h;exact .inl h
 |e::l,k',h=>by
  simp only [cL] at h
  split at h
  ·rename_i q
   simp only [zmp,zmc] at h⊢
   rcases h with h|h
   ·exact .inl (h.trans (by first|rfl|exact q.symm))
   ·exact .inr (.inr h)
  ·simp only [zmp,zmc] at h⊢
   exact h.elim (λq=> .inr (.inl q)) λq=>(acT k v l k' q).elim .inl λq=> .inr (.inr q)
theorem auM {V:Type} (k:Int) (v:V):∀(l:List (Int×V)),(l.map (·.1)).Nodup->((cL k v l).map (·.1)).Nodup
 |[],_=>by simp [cL]
 |e::l,h=>by
  simp only [zmp,List.nodup_cons] at h
  simp only [cL]
  split
  ·rename_i q
   simp only [zmp,List.nodup_cons]
   exact ⟨by first|exact h.1|(rw [q];exact h.1),h.2⟩
  ·rename_i q
   simp only [zmp,List.nodup_cons]
   exact ⟨λx=>(acT k v l _ x).elim (λy=>q y.symm) h.1,auM k v l h.2⟩
theorem aCw (m:Su):∀(rows:List (List Vl)) (es:List (Int×Int)),(es.map (·.1)).Nodup->((rows.foldl (ahO m) es).map (·.1)).Nodup
 |[],_,h=>h
 |r::rows,es,h=>aCw m rows _ (by
  unfold ahO
  split
  ·exact auM _ _ _ h
  ·exact h)
theorem aiX (m:Su) (g:Int) (r:List Vl) (rows:List (List Vl)):nW m g (r::rows)=axH m g r+nW m g rows:=by unfold nW;rw [zmp,List.sum_cons]
def aBG (m:Su) (rows:List (List Vl)):Prop:=∀r∈rows,r[m.col.toNat]!.kind≠1->r[m.col.toNat]!.n=0
theorem ahQ {m:Su} (g:Int):∀{rows:List (List Vl)} (es:List (Int×Int)),aBG m rows->(bY g (rows.foldl (ahO m) es)).getD 0=(bY g es).getD 0+nW m g rows
 |[],es,_=>by simp [nW]
 |r::rows,es,h=>by
  have ih:=ahQ g (rows:=rows) (ahO m es r) λx hx=>h x (List.mem_cons_of_mem _ hx)
  have h0:=h r (List.mem_cons_self ..)
  rw [List.foldl_cons,ih,aiX]
  unfold ahO axH
  by_cases hk:r[m.by_.toNat]!.kind=1
  ·rw [zp hk,agJ]
   by_cases hg:r[m.by_.toNat]!.n=g
   ·rw [zp hg.symm,hg]
    by_cases hc:r[m.col.toNat]!.kind=1
    ·rw [zp ⟨hk,rfl,hc⟩];simp only [Option.getD_some];omega
    ·rw [zn λq=>hc q.2.2,h0 hc];simp only [Option.getD_some];omega
   ·rw [zn (λq=>hg q.symm),zn λq=>hg q.2.1];omega
  ·rw [zn hk,zn λq=>hk q.1];omega
theorem amX {m:Su} (g:Int):∀{rows:List (List Vl)} (es:List (Int×Int)),(bY g (rows.foldl (ahO m) es)).isSome=true↔((bY g es).isSome=true\/∃r∈rows,r[m.by_.toNat]!.kind=1/\r[m.by_.toNat]!.n=g)
 |[],es=>by simp
 |r::rows,es=>by
  rw [List.foldl_cons,amX g (rows:=rows) (ahO m es r)]
  unfold ahO
  by_cases hk:r[m.by_.toNat]!.kind=1
  ·rw [zp hk,agJ]
   by_cases hg:g=r[m.by_.toNat]!.n
   ·rw [zp hg]
    exact ⟨λ_=> .inr ⟨r,List.mem_cons_self ..,hk,hg.symm⟩,λ_=> .inl rfl⟩
   ·rw [zn hg]
    constructor
    ·rintro (q|⟨x,hx,q⟩)
     ·exact .inl q
     ·exact .inr ⟨x,List.mem_cons_of_mem _ hx,q⟩
    ·rintro (q|⟨x,hx,q⟩)
     ·exact .inl q
     ·rcases zmc.1 hx with rfl|hx
      ·exact absurd q.2.symm hg
      ·exact .inr ⟨x,hx,q⟩
  ·rw [zn hk]
   constructor
   ·rintro (q|⟨x,hx,q⟩)
    ·exact .inl q
    ·exact .inr ⟨x,List.mem_cons_of_mem _ hx,q⟩
   ·rintro (q|⟨x,hx,q⟩)
    ·exact .inl q
    ·rcases zmc.1 hx with rfl|hx
     ·exact absurd q.1 hk
     ·exact .inr ⟨x,hx,q⟩
def rJ (m:Su) (rows:List (List Vl)):Bool:=rows.all λr=>decide (r[m.col.toNat]!.n>=0)
theorem awU {m:Su} {rows:List (List Vl)} (h:aBG m rows):(rJ m rows&&(lZ m rows).all λe=>decide (e.2<=m.max))=rows.all λr=> !aAT m r&&(!decide (r[m.by_.toNat]!.kind=1)||decide (nW m r[m.by_.toNat]!.n rows<=m.max)):=by
 have hget:=λg=>ahQ (m:=m) g (rows:=rows) [] h
 have hsome:=λg=>amX (m:=m) g (rows:=rows) []
 have hnd:=aCw m rows [] (by simp)
 change ∀g,(bY g (lZ m rows)).getD 0=_ at hget
 change ∀g,(bY g (lZ m rows)).isSome=true↔_ at hsome
 change ((lZ m rows).map (·.1)).Nodup at hnd
 simp only [bY,Option.getD_none,Option.isSome_none,Bool.false_eq_true,false_or] at hget hsome
 rw [Bool.eq_iff_iff,zba]
 unfold rJ
 simp only [zal,zba,Bool.or_eq_true,Bool.not_eq_true',zde,decide_eq_false_iff_not]
 have hneg:∀r∈rows,aAT m r=false↔r[m.col.toNat]!.n>=0:=λr hr=>by
  unfold aAT
  by_cases hc:r[m.col.toNat]!.kind=1
  ·rw [decide_eq_true hc,Bool.true_and,decide_eq_false_iff_not];omega
  ·rw [decide_eq_false hc,h r hr hc];simp
 constructor
 ·rintro ⟨h1,h2⟩ r hr
  refine ⟨(hneg r hr).2 (h1 r hr), ?_⟩
  by_cases hk:r[m.by_.toNat]!.kind=1
  ·right
   have hs:=(hsome r[m.by_.toNat]!.n).2 ⟨r,hr,hk,rfl⟩
   obtain ⟨v,hv⟩:=Option.isSome_iff_exists.1 hs
   have:=h2 _ (aC1 hv)
   have e:=hget r[m.by_.toNat]!.n
   rw [hv] at e
   simp only [Option.getD_some] at e this
   omega
  ·exact .inl hk
 ·intro q
  refine ⟨λr hr=>(hneg r hr).1 (q r hr).1,λe he=> ?_⟩
  obtain ⟨k,v⟩:=e
  have hv:=aGA hnd he
  have e:=hget k
  rw [hv] at e
  simp only [Option.getD_some] at e⊢
  obtain ⟨r,hr,hk,rfl⟩:=(hsome k).1 (by rw [hv];rfl)
  have:=(q r hr).2.resolve_left λz=>z hk
  omega
def aHk (u:Nat) (es:List (Int×Bool)) (r:List Vl):List (Int×Bool):=if r[u]!.kind=1 then cL r[u]!.n true es else es
def apE (u:Nat) (rows:List (List Vl)):List (Int×Bool):=rows.foldl (aHk u) []
theorem atY (u:Nat) (g:Int):∀(rows:List (List Vl)) (es:List (Int×Bool)),(bY g (rows.foldl (aHk u) es)).getD false=((bY g es).getD false||rows.any λr=>decide (r[u]!.kind=1)&&decide (r[u]!.n=g))
 |[],es=>by simp
 |r::rows,es=>by
  rw [List.foldl_cons,atY u g rows,List.any_cons]
  unfold aHk
  by_cases hk:r[u]!.kind=1
  ·rw [zp hk,agJ]
   by_cases hg:g=r[u]!.n
   ·rw [zp hg,decide_eq_true hk,decide_eq_true hg.symm];simp
   ·rw [zn hg,decide_eq_false (show ¬r[u]!.n=g from λq=>hg q.symm)];simp
  ·rw [zn hk,decide_eq_false hk];simp
theorem aBk (u:Nat) (g:Int) (rows:List (List Vl)):(bY g (apE u rows)).getD false=rows.any λr=>decide (r[u]!.kind=1)&&decide (r[u]!.n=g):=by
 have:=atY u g rows []
 simp only [bY,Option.getD_none,Bool.false_or] at this
 exact this
theorem aGe (u:Nat) {rows:List (List Vl)} {k:Nat} (h:k<rows.length):apE u (rows.take (k+1))=if rows[k][u]!.kind=1 then cL rows[k][u]!.n true (apE u (rows.take k)) else apE u (rows.take k):=by
 unfold apE
 rw [List.take_succ_eq_append_getElem h,List.foldl_append];rfl
theorem aEU (m:Su) {rows:List (List Vl)} {k:Nat} (h:k<rows.length):lZ m (rows.take (k+1))=if rows[k][m.by_.toNat]!.kind=1 then cL rows[k][m.by_.toNat]!.n ((bY rows[k][m.by_.toNat]!.n (lZ m (rows.take k))).getD 0+rows[k][m.col.toNat]!.n) (lZ m (rows.take k)) else lZ m (rows.take k):=by
 unfold lZ
 rw [List.take_succ_eq_append_getElem h,List.foldl_append];rfl
def pwU (u:Nat) (rows:List (List Vl)):Prop:=rows.Pairwise λx y=>mW u x y=false
theorem aIA {u:Nat} {rows:List (List Vl)} {k:Nat} (h:k<rows.length):pwU u (rows.take (k+1))↔pwU u (rows.take k)/\(rows[k][u]!.kind=1->((rows.take k).any λr=>decide (r[u]!.kind=1)&&decide (r[u]!.n=rows[k][u]!.n))=false):=by
 unfold pwU
 rw [List.take_succ_eq_append_getElem h,List.pairwise_append]
 constructor
 ·rintro ⟨h1,_,h3⟩
  refine ⟨h1,λhk=> ?_⟩
  rw [List.any_eq_false]
  intro x hx q
  have:=h3 x hx rows[k] (by simp)
  unfold mW at this
  simp only [zba,zde] at q
  rw [decide_eq_true q.1,decide_eq_true hk,decide_eq_true q.2] at this
  cases this
 ·rintro ⟨h1,h2⟩
  refine ⟨h1,List.pairwise_singleton ..,λx hx y hy=> ?_⟩
  rw [zms] at hy
  subst hy
  by_cases hk:rows[k][u]!.kind=1
  ·have:=List.any_eq_false.1 (h2 hk) x hx
   unfold mW
   rw [decide_eq_true hk]
   simpa using this
  ·unfold mW
   rw [decide_eq_false hk];simp
theorem aA1 {t:Tb} {rows:List (List Vl)} (h:∀j (hj:j<t.unique.length),pwU t.unique[j].toNat rows):lL t rows=true:=by
 unfold lL
 rw [zal]
 intro u hu
 obtain ⟨j,hj,rfl⟩:=zgo hu
 exact decide_eq_true (h j hj)
theorem aFc {t:Tb} {rows:List (List Vl)} {j k:Nat} (hj:j<t.unique.length) (h:¬pwU t.unique[j].toNat (rows.take k)):lL t rows=false:=by
 unfold lL
 rw [<-Bool.not_eq_true,zal]
 intro q
 exact h ((of_decide_eq_true (q _ (zgm hj))).sublist (List.take_sublist ..))
theorem awQ {f:Nat->Int} {n i:Nat} (h:i<n) (h1:∀j<i,f j=0) (h2:f i≠0):dZ f (List.range n)=f i:=by
 have:=yW (f:=f) (l:=List.range n) (i:=i) (by simpa using h) (λj hj=>by rw [List.getElem_range];exact h1 j hj) (by rw [List.getElem_range];exact h2)
 rwa [List.getElem_range] at this
theorem adZ {f:Nat->Int} {n:Nat} (h:∀j<n,f j=0):dZ f (List.range n)=0:=gG.2 λj hj=>h j (List.mem_range.1 hj)
theorem nF {α:Type} {f:α->Int} {l:List α} (h:∀j (hj:j<l.length),f l[j]=0):dZ f l=0:=gG.2 λx hx=>by
 obtain ⟨j,hj,rfl⟩:=zgo hx
 exact h j hj
theorem sY {α:Type} {f:α->Int} {l:List α} {i:Nat} (hI:∀j (h:j<l.length),j<i->f l[j]=0) (h:i<l.length) (hf:f l[i]=0):∀j (h:j<l.length),j<i+1->f l[j]=0:=λj hj hji=>by
 rcases zls.1 hji with q|q
 ·exact hI j hj q
 ·subst q;exact hf
theorem tG {α:Type} {f:α->Int} {l:List α} {i:Nat} (hI:∀j (h:j<l.length),j<i->f l[j]=0) (h:i<l.length) (hf:f l[i]≠0):dZ f l=f l[i]:=yW h (λj hj=>hI j (by omega) hj) hf
end
end
section
attribute [local irreducible] Ev PWp
set_option maxRecDepth 10000
set_option maxHeartbeats 4000000
theorem apH (c:Co):PF Tryz.prog 207 [.agg c.cells] (vi (dQ c)):=by
 unfold dQ
 refine pF Tryz.func207 rfl (λst=> ?_)
 (repeat' first|apply wZ;rfl|show Cn _;constructor|exact rfl|show (_:PV)=_;((simp [*];done));done|intro h)
theorem aoQ (c:Co) (v:Vl):PF Tryz.prog 130 [.agg c.cells, .agg v.cells] (vi (sW c v)):=by
 have hv:=iZ v
 have hk:=apH c
 unfold sW
 generalize bX v=A at*
 generalize dQ c=K at*
 refine pF Tryz.func130 rfl (λst=> ?_)
 (repeat' first|apply wZ;rfl|show Cn _;constructor|exact rfl|apply KR.mk;kernel_rfl|((first|apply hv|apply hk))|show (_:PV)=_;(first|simp [*];done|grind);done|apply wY;rfl|(intro h;simp at h)|intro h)
theorem aeV (t:Tb) (r:List Vl) (hc:t.cols.length<1000000000000000) (hr:r.length<1000000000000000):PF Tryz.prog 82 [.seq (t.cols.map Co.cells), .seq (r.map Vl.cells)] (vi (eH t r)):=by
 unfold eH
 by_cases hl:¬t.cols.length=r.length
 ·rw [zn hl]
  refine pF Tryz.func82 rfl (λst=> ?_)
  (repeat' first|apply wZ;rfl|show Cn _;constructor|exact rfl|simp only [zql];omega|(intro h;simp at h))
 replace hl:=zdn hl
 rw [zp hl]
 refine pF Tryz.func82 rfl (λst=> ?_)
 focus ((repeat' first|apply wZ;rfl|show Cn _;constructor|simp only [zql];omega|(intro h;simp at h)))
 refine aC (X:={x:Nat//x<=r.length/\∀j<x,sW t.cols[j]! r[j]! =0}) (λi=>(((((St.nil 30 st).pv 0 (.seq (t.cols.map Co.cells))).pv 13 (.seq (r.map Vl.cells))).pv 14 ((vi ((((r.map Vl.cells)).length:Nat))))).pv 15 ((vi ((i.1:Nat)))))) (λi=>r.length-i.1) ⟨0,by omega,by omega⟩ ?_ (λi=> ?_)
 ·(repeat' first|show Cn _;constructor|exact rfl)
 obtain ⟨i,hi,hI⟩:=i
 dsimp only
 by_cases hend:r.length<=i
 ·have e:dZ (λk=>sW t.cols[k]! r[k]!) (List.range r.length)=0:=adZ λj hj=>hI j (by omega)
  (repeat' first|apply wZ;rfl|show Cn _;constructor|exact rfl|show (_:PV)=_;(rw [e]);done|simp only [zql];omega|(intro h;simp at h))
 have hil:i<r.length:=by omega
 have hic:i<t.cols.length:=by omega
 have hk:=aoQ t.cols[i] r[i]
 have e:=awQ (f:=λk=>sW t.cols[k]! r[k]!) hil hI
 have hu:sW t.cols[i] r[i]=0->∀j<i+1,sW t.cols[j]! r[j]! =0:=λh j hj=>by
  rcases zls.1 hj with q|q
  ·exact hI j q
  ·subst q;rw [getElem!_pos t.cols j hic,getElem!_pos r j hil];exact h
 simp only [getElem!_pos t.cols i hic,getElem!_pos r i hil] at e
 generalize sW t.cols[i] r[i]=E at*
 (repeat' first|(refine ⟨⟨i+1,by omega,hu ‹_›⟩, ?_, ?_⟩)|apply wZ;rfl|show Cn _;constructor|exact rfl|apply KR.mk;kernel_rfl|(apply hk)|show (_:PV)=_;(rw [e ‹_›]);done|apply wY;rfl|apply wI;rfl|apply gE;omega|omega|simp only [zql];omega|(intro h;simp at h)|intro h)
end
section
set_option maxRecDepth 10000
set_option maxHeartbeats 4000000
def lT (n:Int):PV:=(vi (n))
def Ie (k:Int):Value:= .int .i64 k
theorem aDz {g:G} (a:Int):VR Tryz.prog g 3 [.val (Ie a)] (Ie a):=⟨λh=>absurd (h.symm.trans (show bC Tryz.prog 3=false from by kernel_rfl)) (by simp),λ_=>by simp only [RepL];exact ⟨_,[],rfl,by simp [Rep],rfl⟩⟩
theorem vJ :KeyOK Tryz.prog 3 Ie (λk=> .val (Ie k)) where
 und:=rfl
 chk k b w:=gJ (k:= .int .i64) (by kernel_rfl) rfl rfl b w
 now kd h a b:=by
  have hI:Tryz.prog.underlying 3=some (.int .i64):=by kernel_rfl
  have hkd:kd= .int .i64:=by
   rw [hI] at h
   injection h with h
   exact h.symm
  subst hkd
  right
  simp only [Ie,Instr.sameNow,if_true]
  congr 1
 eq a b w:=by
  have g:G:=⟨#[],λ_=>none,λ_=>0,λ_=>False⟩
  exact gF aQ (g:=g) 8 Op.maxDepth (by decide) 3 _ _ _ _ _ (show peq tt 8 3 [.val (Ie a)] [.val (Ie b)]=some (decide (a=b)) from rfl) (by kernel_rfl) (aDz a) (aDz b)
 rp k g v h:=aG h
 bits k:=acB rfl
end
end Go.Proofs.YtfablfldonhkiaaGreatDoor
namespace Go.Proofs.YtfablfldonhkiaaGreatDoor.X
open Go Go.Abs
section
set_option maxRecDepth 10000
set_option maxHeartbeats 4000000
def v0 :Vl:=⟨0,0,e0⟩
inductive Ex where
 |mk (k n:Int) (v:Vl) (of:List Ex)
def Ex.k :Ex->Int| .mk k _ _ _=>k
def Ex.n :Ex->Int| .mk _ n _ _=>n
def Ex.v :Ex->Vl| .mk _ _ v _=>v
def Ex.of :Ex->List Ex| .mk _ _ _ o=>o
mutual
def Ex.cells :Ex->List PV
 | .mk k n v o=>[(vi (k)),(vi (n)),(vi (v.kind)),(vi (v.n)),(vs (v.s)), .seq (Ex.rows o)]
def Ex.rows :List Ex->List (List PV)
 |[]=>[]
 |e::es=>e.cells::Ex.rows es
end
theorem Ex.rows_map :∀l:List Ex,Ex.rows l=l.map Ex.cells
 |[]=>rfl
 |e::es=>by simp [Ex.rows,Ex.rows_map es]
theorem Ex.rows_len :∀(l:List Ex),(Ex.rows l).length=l.length
 |[]=>rfl
 |e::es=>by simp [Ex.rows,Ex.rows_len es]
theorem Ex.rows_get :∀{l:List Ex} {i:Nat} {x:Ex},l[i]?=some x->(Ex.rows l)[i]?=some x.cells
 |[],_,_,h=>by simp at h
 |e::es,0,x,h=>by simp at h;simp [Ex.rows,h]
 |e::es,i+1,x,h=>by simp at h;simpa [Ex.rows] using Ex.rows_get h
theorem Ex.cells_len :∀(x:Ex),x.cells.length=6
 | .mk _ _ _ _=>by simp [Ex.cells]
mutual
def Ex.ok :Ex->Prop
 | .mk _ _ _ o=>o.length<2^62/\Ex.oks o
def Ex.oks :List Ex->Prop
 |[]=>True
 |e::es=>e.ok/\Ex.oks es
end
mutual
theorem Ex.ok_of :∀(e:Ex),nA e.cells->e.ok
 | .mk k n v o,h=>by
  simp only [Ex.cells,nA,lens,Ex.rows_len] at h
  simp only [Ex.ok]
  exact ⟨h.2.2.2.2.2.1.1,Ex.oks_of o h.2.2.2.2.2.1.2⟩
theorem Ex.oks_of :∀(l:List Ex),rQ (Ex.rows l)->Ex.oks l
 |[],_=>by simp [Ex.oks]
 |e::es,h=>by
  simp only [Ex.rows,rQ] at h
  simp only [Ex.oks]
  exact ⟨Ex.ok_of e h.1,Ex.oks_of es h.2⟩
end
theorem Ex.oks_mem :∀{l:List Ex} {x:Ex},Ex.oks l->x∈l->x.ok
 |[],_,_,hx=>by cases hx
 |e::es,x,h,hx=>by
  simp only [Ex.oks] at h
  rcases zmc.1 hx with rfl|hx
  ·exact h.1
  ·exact Ex.oks_mem h.2 hx
def kD (l:List Int):List (List PV):=l.map I1
theorem aeG {l:List Int} {i:Nat} {x:Int} (h:l[i]?=some x):(kD l)[i]?=some [(vi (x))]:=by simp [kD,h,I1]
theorem afJ (l:List Int):(kD l).length=l.length:=by simp [kD]
theorem fM {α:Type} {l:List α} {i:Nat} (h:i<l.length):∃x,l[i]?=some x:=⟨l[i],by simp [h]⟩
end
section
attribute [local irreducible] Ev PWp
set_option maxRecDepth 10000
set_option maxHeartbeats 4000000
theorem vL {k n:Int} {b:ByteArray}:PF Tryz.prog 283 [.agg [(vi (k)),(vi (n)),(vs (b))]] (vb (decide (k=0))):=by
 refine pF Tryz.func283 rfl (λst=> ?_)
 (repeat' first|apply wZ;rfl|show Cn _;constructor|exact rfl)
def sN (v:Vl):Bool:=if v.kind=0 then decide (v.n=0)&&decide (v.s=e0) else if v.kind=1 then (decide (v.s=e0)&&decide (v.n>= -1099511627776))&&decide (v.n<=1099511627776) else if v.kind=2 then decide (v.n=0)&&decide ((v.s.size:Int)<=200) else false
theorem right_spec {k n:Int} {b:ByteArray}:PF Tryz.prog 268 [.agg [(vi (k)),(vi (n)),(vs (b))]] (vb (sN ⟨k,n,b⟩)):=by
 unfold sN
 dsimp only
 by_cases h0:k=0
 ·rw [zp h0]
  refine pF Tryz.func268 rfl (λst=> ?_)
  (repeat' first|apply wZ;rfl|show Cn _;constructor|exact rfl|show (_:PV)=_;((simp [h0];done));done|omega|intro h)
 by_cases h1:k=1
 ·rw [zn h0,zp h1]
  refine pF Tryz.func268 rfl (λst=> ?_)
  (repeat' first|apply wZ;rfl|show Cn _;constructor|exact rfl|omega|intro h)
 rw [zn h0,zn h1]
 by_cases h2:k=2
 ·rw [zp h2]
  refine pF Tryz.func268 rfl (λst=> ?_)
  (repeat' first|apply wZ;rfl|show Cn _;constructor|exact rfl|omega|intro h)
 rw [zn h2]
 refine pF Tryz.func268 rfl (λst=> ?_)
 (repeat' first|apply wZ;rfl|show Cn _;constructor|exact rfl|omega|intro h)
theorem dR {n:Int}:PF Tryz.prog 314 [(vi (n))] (.agg [(vi (1)),(vi (n)),(vs (e0))]):=by
 refine pF Tryz.func314 rfl (λst=> ?_)
 (repeat' first|apply wZ;rfl|show Cn _;constructor|exact rfl)
theorem sT {x:Bool}:PF Tryz.prog 281 [(vb (x))] (.agg [(vi (1)),(vi (if x then 1 else 0)),(vs (e0))]):=by
 refine pF Tryz.func281 rfl (λst=> ?_)
 (repeat' first|apply wZ;rfl|show Cn _;constructor|exact rfl|(apply dR)|show (_:PV)=_;(simp [*];done);done|apply wY;rfl|intro h)
def aCx (v:Vl):Bool:=decide (v.kind=1)&&(decide (v.n=0)&&decide (v.s=e0))
def aHI (v:Vl):Bool:=decide (v.kind=1)&& !decide (v.n=0)
theorem aAi {k n:Int} {b:ByteArray}:PF Tryz.prog 277 [.agg [(vi (k)),(vi (n)),(vs (b))]] (vb (aCx ⟨k,n,b⟩)):=by
 refine pF Tryz.func277 rfl (λst=> ?_)
 (repeat' first|apply wZ;rfl|show Cn _;constructor|exact rfl|apply KR.mk;kernel_rfl|(apply dR)|apply wY;rfl)
theorem aCh {k n:Int} {b:ByteArray}:PF Tryz.prog 278 [.agg [(vi (k)),(vi (n)),(vs (b))]] (vb (aHI ⟨k,n,b⟩)):=by
 refine pF Tryz.func278 rfl (λst=> ?_)
 (repeat' first|apply wZ;rfl|show Cn _;constructor|exact rfl)
theorem aEp {k n:Int} {b:ByteArray} {k' n':Int} {b':ByteArray}:PF Tryz.prog 274 [.agg [(vi (k)),(vi (n)),(vs (b))], .agg [(vi (k')),(vi (n')),(vs (b'))]] (vb (decide (k=k')&&(decide (n=n')&&decide (b=b')))):=by
 refine pF Tryz.func274 rfl (λst=> ?_)
 (repeat' first|apply wZ;rfl|show Cn _;constructor|exact rfl)
def aGQ (a b:ByteArray):Bool:=Op.bytesLess a.toList b.toList
theorem mN {k n:Int} {b:ByteArray} {k' n':Int} {b':ByteArray}:PF Tryz.prog 275 [.agg [(vi (k)),(vi (n)),(vs (b))], .agg [(vi (k')),(vi (n')),(vs (b'))]] (vb (decide (n<n')||aGQ b b')):=by
 refine pF Tryz.func275 rfl (λst=> ?_)
 (repeat' first|apply wZ;rfl|show Cn _;constructor|exact rfl)
theorem aCl {k n:Int} {b:ByteArray} {k' n':Int} {b':ByteArray}:PF Tryz.prog 280 [.agg [(vi (k)),(vi (n)),(vs (b))], .agg [(vi (k')),(vi (n')),(vs (b'))]] (.tup [.agg [(vi (1)),(vi (if decide (n=0) then 1 else 0)),(vs (e0))],(vi (0))]):=by
 refine pF Tryz.func280 rfl (λst=> ?_)
 (repeat' first|apply wZ;rfl|show Cn _;constructor|exact rfl|(apply sT)|apply wY;rfl)
theorem amL {k n:Int} {b:ByteArray} {k' n':Int} {b':ByteArray}:PF Tryz.prog 282 [.agg [(vi (k)),(vi (n)),(vs (b))], .agg [(vi (k')),(vi (n')),(vs (b'))]] (.tup [.agg [(vi (1)),(vi (if decide (k=0) then 1 else 0)),(vs (e0))],(vi (0))]):=by
 refine pF Tryz.func282 rfl (λst=> ?_)
 (repeat' first|apply wZ;rfl|show Cn _;constructor|exact rfl|((first|apply sT|apply vL))|apply wY;rfl)
def ajO (f:FuncId) (op:Int->Int->Int):Prop:=∀a b,PF Tryz.prog f [(vi (a)),(vi (b))] (vi (IntKind.wrap .i64 (op a b)))
theorem aAs :ajO 270 (· + ·):=by
 intro a b
 refine pF Tryz.func270 rfl (λst=> ?_)
 ((apply aHq pk 4);rfl;(focus repeat' constructor);(focus repeat' (exact All.nil)))
 refine kH ?_
 iterate 2 (apply lW aQ;iterate 4 rfl)
 (apply aE8;iterate 5 rfl)
 (apply lW aQ;iterate 4 rfl)
 refine sX ?_
 (repeat' first|apply wZ;rfl|show Cn _;constructor|exact rfl)
theorem azU :ajO 271 (· - ·):=by
 intro a b
 refine pF Tryz.func271 rfl (λst=> ?_)
 ((apply aHq pk 4);rfl;(focus repeat' constructor);(focus repeat' (exact All.nil)))
 refine kH ?_
 iterate 2 (apply lW aQ;iterate 4 rfl)
 (apply aFt;iterate 5 rfl)
 (apply lW aQ;iterate 4 rfl)
 refine sX ?_
 (repeat' first|apply wZ;rfl|show Cn _;constructor|exact rfl)
theorem azG :ajO 272 (· * ·):=by
 intro a b
 refine pF Tryz.func272 rfl (λst=> ?_)
 ((apply aHq pk 4);rfl;(focus repeat' constructor);(focus repeat' (exact All.nil)))
 refine kH ?_
 iterate 2 (apply lW aQ;iterate 4 rfl)
 (apply aFi;iterate 5 rfl)
 (apply lW aQ;iterate 4 rfl)
 refine sX ?_
 (repeat' first|apply wZ;rfl|show Cn _;constructor|exact rfl)
def lim (n:Int):Prop:= -4611686018427387904<=n/\n<=4611686018427387904
def aHt (op:Int->Int->Int) (a b:Int):Bool:=(((decide (max a (0-a)>0)&&decide (max b (0-b)>0))&&decide (IntKind.wrap .i64 (op 1 1)=1))&&decide (max a (0-a)>1099511627776/max b (0-b)))
def alZ (op:Int->Int->Int) (a b:Int):Bool:=(aHt op a b||decide (IntKind.wrap .i64 (op a b)>1099511627776))||decide (IntKind.wrap .i64 (op a b)< -1099511627776)
theorem aAI {f:FuncId} {op:Int->Int->Int} (hf:ajO f op) {k n:Int} {b:ByteArray} {k' n':Int} {b':ByteArray} (h1:lim n) (h2:lim n'):PF Tryz.prog 313 [.agg [(vi (k)),(vi (n)),(vs (b))], .agg [(vi (k')),(vi (n')),(vs (b'))], .rp [.fn f []]]
  (if alZ op n n' then .tup [.agg [(vi (0)),(vi (0)),(vs (e0))],(vi (20))] else .tup [.agg [(vi (1)),(vi (IntKind.wrap .i64 (op n n'))),(vs (e0))],(vi (0))]):=by
 obtain ⟨h1,h1'⟩:=h1
 obtain ⟨h2,h2'⟩:=h2
 have e1:=hf 1 1
 have e2:=hf n n'
 have hfin:alZ op n n'=((aHt op n n'||decide (IntKind.wrap .i64 (op n n')>1099511627776))||decide (IntKind.wrap .i64 (op n n')< -1099511627776)):=rfl
 unfold aHt at hfin
 generalize alZ op n n'=R at*
 refine pF Tryz.func313 rfl (λst=> ?_)
 (repeat' first|apply wZ;rfl|show Cn _;constructor|exact rfl|apply KR.mk;kernel_rfl|((first|apply e1|apply e2|apply dR))|show (_:PV)=_;(first|rw [show R=true from by rw [hfin];simpa using h];rfl|rw [show R=false from by rw [hfin];simpa using h];rfl);done|((intro h;(have h:=(aJd h).2);(simp only [zba,zde] at h);omega))|apply wY;rfl|omega|(intro h;simp at h))
def oU (r:Vl×Int):PV:= .tup [.agg [(vi (r.1.kind)),(vi (r.1.n)),(vs (r.1.s))],(vi (r.2))]
def vN (n:Int):Vl:=⟨1,n,e0⟩
def oM (b:Bool):Vl:=vN (if b then 1 else 0)
def anI (f:FuncId) (caps:List PV) (r:Vl->Vl->Vl×Int):Prop:=
 ∀k n b k' n' b',lim n->lim n'->PF Tryz.prog f ([.agg [(vi (k)),(vi (n)),(vs (b))], .agg [(vi (k')),(vi (n')),(vs (b'))]]++caps) (oU (r ⟨k,n,b⟩ ⟨k',n',b'⟩))
def aHg (f:FuncId) (op:Vl->Vl->Bool):Prop:=∀{k n b k' n' b'},PF Tryz.prog f [.agg [(vi (k)),(vi (n)),(vs (b))], .agg [(vi (k')),(vi (n')),(vs (b'))]] (vb (op ⟨k,n,b⟩ ⟨k',n',b'⟩))
def aH1 (f:FuncId) (op:Vl->Bool):Prop:=∀{k n b},PF Tryz.prog f [.agg [(vi (k)),(vi (n)),(vs (b))]] (vb (op ⟨k,n,b⟩))
def zO (op:Int->Int->Int) (a b:Vl):Vl×Int:=if alZ op a.n b.n then (v0,20) else (vN (IntKind.wrap .i64 (op a.n b.n)),0)
theorem vK {f:FuncId} {op:Int->Int->Int} (hf:ajO f op):anI 313 [.rp [.fn f []]] (zO op):=by
 intro k n b k' n' b' h1 h2
 have:=aAI hf (k:=k) (b:=b) (k':=k') (b':=b') h1 h2
 unfold zO
 simp only
 split at this
 ·rename_i h;rw [zp h];exact this
 ·rename_i h;rw [zn h];exact this
theorem afK {f:FuncId} {op:Vl->Vl->Bool} (hf:aHg f op):anI 315 [.rp [.fn f []]] (λa b=>(oM (op a b),0)):=by
 intro k n b k' n' b' h1 h2
 have e1:= @hf k n b k' n' b'
 refine pF Tryz.func315 rfl (λst=> ?_)
 (repeat' first|apply wZ;rfl|show Cn _;constructor|exact rfl|((first|apply e1|apply sT))|apply wY;rfl)
def kP (r:Vl->Vl->Vl×Int) (a b:Vl):Vl×Int:=if (decide (a.kind=0)||decide (b.kind=0)) then (v0,0) else r a b
theorem iD {f:FuncId} {caps:List PV} {r:Vl->Vl->Vl×Int} (hf:anI f caps r):anI 317 [.rp [.fn f caps]] (kP r):=by
 intro k n b k' n' b' h1 h2
 have e1:=hf k n b k' n' b' h1 h2
 have hd:kP r ⟨k,n,b⟩ ⟨k',n',b'⟩=if (decide (k=0)||decide (k'=0)) then (v0,0) else r ⟨k,n,b⟩ ⟨k',n',b'⟩:=rfl
 generalize kP r ⟨k,n,b⟩ ⟨k',n',b'⟩=R at*
 generalize r ⟨k,n,b⟩ ⟨k',n',b'⟩=R0 at*
 unfold oU at e1⊢
 refine pF Tryz.func317 rfl (λst=> ?_)
 (repeat' first|apply wZ;rfl|show Cn _;constructor|exact rfl|((first|apply e1|apply vL))|show (_:PV)=_;((simp [*,v0];done));done|apply wY;rfl|(intro h;simp at h))
def aeP (op:Vl->Bool) (so:Int) (a b:Vl):Vl×Int:=if (op a||op b) then (vN so,0) else if (decide (a.kind=0)||decide (b.kind=0)) then (v0,0) else (vN (1-so),0)
theorem aaV {f:FuncId} {op:Vl->Bool} (hf:aH1 f op) {so:Int} (h0:0<=so) (h1:so<=1):anI 316 [.rp [.fn f []], .rp [(vi (so))]] (aeP op so):=by
 intro k n b k' n' b' _ _
 have e1:= @hf k n b
 have e2:= @hf k' n' b'
 have hd:aeP op so ⟨k,n,b⟩ ⟨k',n',b'⟩=if (op ⟨k,n,b⟩||op ⟨k',n',b'⟩) then (vN so,0) else if (decide (k=0)||decide (k'=0)) then (v0,0) else (vN (1-so),0):=rfl
 generalize aeP op so ⟨k,n,b⟩ ⟨k',n',b'⟩=R at*
 generalize op ⟨k,n,b⟩=A at*
 generalize op ⟨k',n',b'⟩=B at*
 unfold oU
 refine pF Tryz.func316 rfl (λst=> ?_)
 (repeat' first|apply wZ;rfl|show Cn _;constructor|exact rfl|((first|apply e1|apply e2|apply vL|apply dR))|show (_:PV)=_;((simp [*,v0,vN];done));done|apply wY;rfl|omega|(intro h;simp at h))
theorem aCE :anI 280 [] (λa _=>(oM (decide (a.n=0)),0)):=λ_ _ _ _ _ _ _ _=>aCl
theorem akQ :anI 282 [] (λa _=>(oM (decide (a.kind=0)),0)):=λ_ _ _ _ _ _ _ _=>amL
theorem acF {p:FuncId} {caps:List PV}:PF Tryz.prog 279 [.fn p caps] (.fn 317 [.rp [.fn p caps]]):=by
 refine pF Tryz.func279 rfl (λst=> ?_)
 (repeat' first|apply wZ;rfl|show Cn _;constructor|exact rfl|apply aY 1;rfl;rfl)
theorem aoS {f:FuncId}:PF Tryz.prog 269 [.fn f []] (.agg [(vi (2)),(vb (true)), .fn 317 [.rp [.fn 313 [.rp [.fn f []]]]]]):=by
 refine pF Tryz.func269 rfl (λst=> ?_)
 (repeat' first|apply wZ;rfl|show Cn _;constructor|exact rfl|(apply acF)|apply aY 1;rfl;rfl|apply wY;rfl)
theorem aFw {f:FuncId}:PF Tryz.prog 273 [.fn f []] (.agg [(vi (2)),(vb (false)), .fn 317 [.rp [.fn 315 [.rp [.fn f []]]]]]):=by
 refine pF Tryz.func273 rfl (λst=> ?_)
 (repeat' first|apply wZ;rfl|show Cn _;constructor|exact rfl|(apply acF)|apply aY 1;rfl;rfl|apply wY;rfl)
theorem aDy {f:FuncId} {so:Int}:PF Tryz.prog 276 [.fn f [],(vi (so))] (.agg [(vi (2)),(vb (true)), .fn 316 [.rp [.fn f []], .rp [(vi (so))]]]):=by
 refine pF Tryz.func276 rfl (λst=> ?_)
 (repeat' first|apply wZ;rfl|show Cn _;constructor|exact rfl|apply aY 2;rfl;rfl|apply aY 3;rfl;rfl)
def aBM (f:FuncId):PV:= .agg [(vi (2)),(vb (true)), .fn 317 [.rp [.fn 313 [.rp [.fn f []]]]]]
def aH2 (f:FuncId):PV:= .agg [(vi (2)),(vb (false)), .fn 317 [.rp [.fn 315 [.rp [.fn f []]]]]]
def aGE (f:FuncId) (so:Int):PV:= .agg [(vi (2)),(vb (true)), .fn 316 [.rp [.fn f []], .rp [(vi (so))]]]
def qU :List (Value×PV):=[(.int .i64 2,aBM 270),(.int .i64 3,aBM 271),(.int .i64 4,aBM 272),(.int .i64 5,aH2 274),(.int .i64 6,aH2 275),(.int .i64 7,aGE 277 0),(.int .i64 8,aGE 278 1),
 (.int .i64 9, .agg [(vi (1)),(vb (true)), .fn 317 [.rp [.fn 280 []]]]),(.int .i64 10, .agg [(vi (1)),(vb (false)), .fn 282 []])]
theorem eA :PF Tryz.prog 210 [] (.fmap qU):=by
 refine pF Tryz.func210 rfl (λst=> ?_)
 focus ((repeat' first|apply iS 0;rfl;exact aA _ _ _|((exact Cn.any ⟨_,_,st,rfl,zwr _,StSub.via id hid (λj h=>by repeat (first|refine Eq.trans (aB h) ?_|exact rfl)),rfl,rfl⟩))|apply wZ;rfl|show Cn _;constructor|((first|apply aoS|apply aFw|apply aDy|apply acF))|((refine oH rfl (λid hid=> ?_)))|apply qX aQ;exact .inl rfl;(iterate 7 rfl);exact aA _ _ _;rfl|apply wY;rfl))
def eqV (a b:Vl):Bool:=decide (a.kind=b.kind)&&(decide (a.n=b.n)&&decide (a.s=b.s))
def gS (a b:Vl):Bool:=decide (a.n<b.n)||aGQ a.s b.s
def kQ (k:Int):Int:=if k=9\/k=10 then 1 else 2
def rU (k:Int):Bool:= !decide (k=5\/k=6\/k=10)
def tJ (k:Int) (a b:Vl):Vl×Int:=
 if k=2 then kP (zO (· + ·)) a b else if k=3 then kP (zO (· - ·)) a b else if k=4 then kP (zO (· * ·)) a b
 else if k=5 then kP (λa b=>(oM (eqV a b),0)) a b else if k=6 then kP (λa b=>(oM (gS a b),0)) a b
 else if k=7 then aeP aCx 0 a b else if k=8 then aeP aHI 1 a b
 else if k=9 then kP (λa _=>(oM (decide (a.n=0)),0)) a b else (oM (decide (a.kind=0)),0)
theorem zK {k:Int} (h1:2<=k) (h2:k<=10):∃f caps,gM tt 265 qU (.int .i64 k) false=some (.agg [(vi (kQ k)),(vb (rU k)), .fn f caps])/\anI f caps (tJ k):=by
 have:k=2\/k=3\/k=4\/k=5\/k=6\/k=7\/k=8\/k=9\/k=10:=by omega
 rcases this with rfl|rfl|rfl|rfl|rfl|rfl|rfl|rfl|rfl
 ·exact ⟨_,_,rfl,iD (vK aAs)⟩
 ·exact ⟨_,_,rfl,iD (vK azU)⟩
 ·exact ⟨_,_,rfl,iD (vK azG)⟩
 ·exact ⟨_,_,rfl,iD (afK (op:=eqV) (fun {_ _ _ _ _ _}=>aEp))⟩
 ·exact ⟨_,_,rfl,iD (afK (op:=gS) (fun {_ _ _ _ _ _}=>mN))⟩
 ·exact ⟨_,_,rfl,aaV (op:=aCx) (fun {_ _ _}=>aAi) (by omega) (by omega)⟩
 ·exact ⟨_,_,rfl,aaV (op:=aHI) (fun {_ _ _}=>aCh) (by omega) (by omega)⟩
 ·exact ⟨_,_,rfl,iD aCE⟩
 ·exact ⟨_,_,rfl,akQ⟩
theorem aCR {k:Int} (h1:2<=k) (h2:k<=10):∃f caps,gM tt 265 qU (.int .i64 k) true=some (.tup [.agg [(vi (kQ k)),(vb (rU k)), .fn f caps],(vb (true))]):=by
 have:k=2\/k=3\/k=4\/k=5\/k=6\/k=7\/k=8\/k=9\/k=10:=by omega
 rcases this with rfl|rfl|rfl|rfl|rfl|rfl|rfl|rfl|rfl<;>exact ⟨_,_,rfl⟩
theorem axN {k:Int} (h:¬(2<=k/\k<=10)):gM tt 265 qU (.int .i64 k) true=some (.tup [.agg [(vi (0)),(vb (false)), .val .nilFunc],(vb (false))]):=by
 have hf:acG (.int .i64 k) qU=some none:=by
  unfold qU
  simp only [acG,tY,oQ,zqt]
  have e2:¬k=2:=by omega
  have e3:¬k=3:=by omega
  have e4:¬k=4:=by omega
  have e5:¬k=5:=by omega
  have e6:¬k=6:=by omega
  have e7:¬k=7:=by omega
  have e8:¬k=8:=by omega
  have e9:¬k=9:=by omega
  have e10:¬k=10:=by omega
  simp [e2,e3,e4,e5,e6,e7,e8,e9,e10]
 unfold gM
 rw [hf]
 rfl
theorem aC6 {α:Type} {l:List α} {i:Nat} {x:α} {p:α->Bool} (h:l[i]?=some x):(l.take (i+1)).any p=((l.take i).any p||p x):=by
 obtain ⟨hl,rfl⟩:=zge.1 h
 rw [List.take_succ_eq_append_getElem hl,List.any_append]
 simp
theorem alX {α:Type} {l:List α} {i:Nat} {x:α} {p:α->Bool} (h:l[i]?=some x):(l.take (i+1)).all p=((l.take i).all p&&p x):=by
 obtain ⟨hl,rfl⟩:=zge.1 h
 rw [List.take_succ_eq_append_getElem hl,List.all_append]
 simp
theorem aHe {α:Type} {l:List α} {i:Nat} {x:α} {p:α->Bool} (h:l[i]?=some x) (hp:p x=true):l.any p=true:=
 List.any_eq_true.2 ⟨x,List.mem_of_getElem? h,hp⟩
theorem avS {α:Type} {l:List α} {i:Nat} {x:α} {p:α->Bool} (h:l[i]?=some x) (hp:p x=false):l.all p=false:=by
 cases ha:l.all p with
 |false=>rfl
 |true=>rw [zal] at ha;have:=ha x (List.mem_of_getElem? h);rw [hp] at this;cases this
theorem uY {α:Type} {l:List α} {i:Nat} (h:¬i<l.length):l.take i=l:=ztl (by omega)
def qJ :Nat->Ex->Bool
 |0,_=>true
 |l+1,e=>e.of.any (qJ l)
theorem ayP :∀(left:Nat) (e:Ex) (z:Int),z=(left:Nat)->left<=1000->e.ok->PF Tryz.prog 208 [.agg e.cells,(vi (z))] (vb (qJ left e)):=by
 intro left
 induction left with
 |zero=>
  intro e z hz _ _
  subst hz
  obtain ⟨k,n,v,of⟩:=e
  refine pF Tryz.func208 rfl (λst=> ?_)
  (repeat' first|apply wZ;rfl|show Cn _;constructor|exact rfl)
 |succ left ih=>
  intro e z hz hl hok
  subst hz
  obtain ⟨k,n,v,of⟩:=e
  simp only [Ex.ok] at hok
  have hlen:=Ex.rows_len of
  refine pF Tryz.func208 rfl (λst=> ?_)
  focus ((repeat' first|apply wZ;rfl|show Cn _;constructor))
  refine aC (X:={i:Nat//i<=of.length/\(of.take i).any (qJ left)=false}) (λi=>(((((St.nil 21 st).pv 1 ((vi ((left+1:Nat))))).pv 10 (.seq (Ex.rows of))).pv 11 ((vi (((Ex.rows of).length:Nat))))).pv 12 ((vi ((i.1:Nat)))))) (λi=>of.length-i.1) ⟨0,by omega,by simp⟩ ?_ (λi=> ?_)
  ·(repeat' first|show Cn _;constructor|exact rfl)
  obtain ⟨i,hi,hany⟩:=i
  dsimp only
  by_cases hend:of.length<=i
  ·rw [uY (by omega)] at hany
   have e:qJ (left+1) (.mk k n v of)=false:=hany
   (repeat' first|apply wZ;rfl|show Cn _;constructor|exact rfl|show (_:PV)=_;(rw [e]);done|omega|(intro h;simp at h))
  obtain ⟨x,hx⟩:=fM (l:=of) (i:=i) (by omega)
  have hrow:=Ex.rows_get hx
  have hxo:=Ex.oks_mem hok.2 (List.mem_of_getElem? hx)
  have hup:=aC6 (p:=qJ left) hx
  have hyes:qJ left x=true->qJ (left+1) (.mk k n v of)=true:=λh=>aHe hx h
  have hd:=ih x (left:Nat) rfl (by omega) hxo
  generalize qJ left x=D at*
  obtain ⟨k',n',v',of'⟩:=x
  have hd':∀z:Int,z=(left:Nat)->PF Tryz.prog 208 [.agg (Ex.mk k' n' v' of').cells,(vi (z))] (vb (D)):=λz hz=>hz▸hd
  cases D with
  |true=>
   have e:=hyes rfl
   (repeat' first|apply wZ;rfl|show Cn _;constructor|exact rfl|apply cN pk;(iterate 6 rfl);rotate_left;rfl;(intro hw;rfl);(intro hw;apply hrow<;>omega);(intro _;exact (Ex.cells_len _));rfl|(apply hd'<;>(omega))|show (_:PV)=_;(rw [e]);done|apply wY;rfl|omega|(intro h;simp at h))
  |false=>
   rw [hany] at hup
   (repeat' first|(refine ⟨⟨i+1,by omega,hup⟩, ?_, ?_⟩)|apply wZ;rfl|show Cn _;constructor|exact rfl|apply cN pk;(iterate 6 rfl);rotate_left;rfl;(intro hw;rfl);(intro hw;apply hrow<;>omega);(intro _;exact (Ex.cells_len _));rfl|(apply hd'<;>(omega))|apply wY;rfl|omega|simp only [zql];omega|(intro h;simp at h))
def vz (v:Vl):Bool:=decide (v.kind=0)&&(decide (v.n=0)&&decide (v.s=e0))
def mP (k n:Int) (v:Vl) (l:Int):Bool:=
 if k=0 then (decide (n>=0)&&vz v)&&decide (l=0)
 else if k=1 then (decide (n=0)&&sN v)&&decide (l=0)
 else decide (2<=k/\k<=10)&&decide (n=0)&&vz v&&decide (l=kQ k)
mutual
def bQ :Ex->Bool
 | .mk k n v o=>mP k n v o.length&&(decide (k=0)||decide (k=1)||pD o)
def pD :List Ex->Bool
 |[]=>true
 |e::es=>bQ e&&pD es
end
theorem nQ :∀l,pD l=l.all bQ
 |[]=>rfl
 |e::es=>by simp [pD,nQ es]
mutual
theorem lI :∀(e:Ex),e.ok->PF Tryz.prog 209 [.agg e.cells] (vb (bQ e))
 | .mk k n v of,hok=>by
  simp only [Ex.ok] at hok
  have ih:=tH of
  have hlen:=Ex.rows_len of
  obtain ⟨v1,v2,v3⟩:=v
  have hrs:= @right_spec v1 v2 v3
  by_cases hk:2<=k/\k<=10
  ·obtain ⟨f,caps,hlook⟩:=aCR hk.1 hk.2
   have hk0:¬k=0:=by omega
   have hk1:¬k=1:=by omega
   have hhead:bQ (.mk k n ⟨v1,v2,v3⟩ of)=(mP k n ⟨v1,v2,v3⟩ of.length&&pD of):=by simp [bQ,hk0,hk1]
   have hF:mP k n ⟨v1,v2,v3⟩ of.length=(decide (n=0)&&vz ⟨v1,v2,v3⟩&&decide ((of.length:Int)=kQ k)):=by simp [mP,hk0,hk1,hk]
   by_cases hh:n=0/\(v1=0/\v2=0/\v3=e0)/\(of.length:Int)=kQ k
   ·have hF1:mP k n ⟨v1,v2,v3⟩ of.length=true:=by rw [hF];simp [vz,hh]
    rw [hF1,Bool.true_and,nQ] at hhead
    refine pF Tryz.func209 rfl (λst=> ?_)
    focus ((repeat' first|apply wZ;rfl|show Cn _;constructor|exact rfl|apply KR.mk;kernel_rfl|(apply eA)|apply kW pk;(iterate 4 rfl);(focus repeat' constructor);rfl;exact hlook;rfl|apply wY;rfl|omega|exfalso;simp_all;done|(intro h;simp at h)|intro h))
    refine aC (X:={i:Nat//i<=of.length/\(of.take i).all bQ=true}) (λi=>((((St.nil 84 st).pv 74 (.seq (Ex.rows of))).pv 75 ((vi (((Ex.rows of).length:Nat))))).pv 76 ((vi ((i.1:Nat)))))) (λi=>of.length-i.1) ⟨0,by omega,by simp⟩ ?_ (λi=> ?_)
    ·(repeat' first|show Cn _;constructor|exact rfl)
    obtain ⟨i,hi,hall⟩:=i
    dsimp only
    by_cases hend:of.length<=i
    ·rw [uY (by omega)] at hall
     rw [hall] at hhead
     (repeat' first|apply wZ;rfl|show Cn _;constructor|exact rfl|show (_:PV)=_;(rw [hhead]);done|omega|(intro h;simp at h))
    obtain ⟨x,hx⟩:=fM (l:=of) (i:=i) (by omega)
    have hrow:=Ex.rows_get hx
    have hm:=List.mem_of_getElem? hx
    have ihx:=ih x hm (Ex.oks_mem hok.2 hm)
    have hup:=alX (p:=bQ) hx
    have hno:=λh=>avS (p:=bQ) hx h
    generalize bQ x=D at*
    obtain ⟨k',n',v',of'⟩:=x
    cases D with
    |false=>
     rw [hno rfl] at hhead
     (repeat' first|apply wZ;rfl|show Cn _;constructor|exact rfl|apply cN pk;(iterate 6 rfl);rotate_left;rfl;(intro hw;rfl);(intro hw;apply hrow<;>omega);(intro _;exact (Ex.cells_len _));rfl|(apply ihx)|show (_:PV)=_;(rw [hhead]);done|apply wY;rfl|omega|(intro h;simp at h))
    |true=>
     rw [hall] at hup
     (repeat' first|(refine ⟨⟨i+1,by omega,hup⟩, ?_, ?_⟩)|apply wZ;rfl|show Cn _;constructor|exact rfl|apply cN pk;(iterate 6 rfl);rotate_left;rfl;(intro hw;rfl);(intro hw;apply hrow<;>omega);(intro _;exact (Ex.cells_len _));rfl|(apply ihx)|apply wY;rfl|omega|simp only [zql];omega|(intro h;simp at h))
   ·have hF1:mP k n ⟨v1,v2,v3⟩ of.length=false:=by
     rw [hF,<-Bool.not_eq_true]
     simp only [vz,zba,zde]
     exact λq=>hh ⟨q.1.1,q.1.2,q.2⟩
    rw [hF1,Bool.false_and] at hhead
    refine pF Tryz.func209 rfl (λst=> ?_)
    (repeat' first|apply wZ;rfl|show Cn _;constructor|exact rfl|apply KR.mk;kernel_rfl|(apply eA)|show (_:PV)=_;(rw [hhead]);done|apply kW pk;(iterate 4 rfl);(focus repeat' constructor);rfl;exact hlook;rfl|apply wY;rfl|omega|exfalso;simp_all;done|(intro h;simp at h)|intro h)
  ·have hlook:=axN hk
   by_cases hk0:k=0
   ·subst hk0
    have e:bQ (.mk 0 n ⟨v1,v2,v3⟩ of)=((decide (n>=0)&&(decide (v1=0)&&(decide (v2=0)&&decide (v3=e0))))&&decide ((of.length:Int)=0)):=by simp [bQ,mP,vz]
    refine pF Tryz.func209 rfl (λst=> ?_)
    (repeat' first|apply wZ;rfl|show Cn _;constructor|exact rfl|apply KR.mk;kernel_rfl|(apply eA)|show (_:PV)=_;((rw [e,hlen];done));done|apply kW pk;(iterate 4 rfl);(focus repeat' constructor);rfl;exact hlook;rfl|apply wY;rfl)
   by_cases hk1:k=1
   ·subst hk1
    have e:bQ (.mk 1 n ⟨v1,v2,v3⟩ of)=((decide (n=0)&&sN ⟨v1,v2,v3⟩)&&decide ((of.length:Int)=0)):=by simp [bQ,mP]
    generalize sN ⟨v1,v2,v3⟩=R at*
    refine pF Tryz.func209 rfl (λst=> ?_)
    (repeat' first|apply wZ;rfl|show Cn _;constructor|exact rfl|apply KR.mk;kernel_rfl|((first|apply eA|apply hrs))|show (_:PV)=_;((rw [e,hlen];done));done|apply kW pk;(iterate 4 rfl);(focus repeat' constructor);rfl;exact hlook;rfl|apply wY;rfl)
   have e:bQ (.mk k n ⟨v1,v2,v3⟩ of)=false:=by simp [bQ,mP,hk0,hk1,hk]
   refine pF Tryz.func209 rfl (λst=> ?_)
   (repeat' first|apply wZ;rfl|show Cn _;constructor|exact rfl|apply KR.mk;kernel_rfl|(apply eA)|show (_:PV)=_;(rw [e]);done|apply kW pk;(iterate 4 rfl);(focus repeat' constructor);rfl;exact hlook;rfl|apply wY;rfl|omega|intro h)
theorem tH :∀(l:List Ex) (x:Ex),x∈l->x.ok->PF Tryz.prog 209 [.agg x.cells] (vb (bQ x))
 |[],_,h,_=>by cases h
 |e::es,x,h,hok=>by
  rcases zmc.1 h with h|h
  ·rw [h] at hok⊢;exact lI e hok
  ·exact tH es x h hok
end
end
end Go.Proofs.YtfablfldonhkiaaGreatDoor.X
