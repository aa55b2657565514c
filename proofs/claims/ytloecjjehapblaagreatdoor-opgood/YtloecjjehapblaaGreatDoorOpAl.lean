import Derived.Test.YtloecjjehapblaaGreatDoorOpAk
import Derived.Test.YtloecjjehapblaaGreatDoorOpAc
set_option linter.unusedSimpArgs false
set_option linter.unusedVariables false
namespace Go.Proofs.YtloecjjehapblaaGreatDoor
open Go Go.Abs
set_option maxRecDepth 10000
set_option maxHeartbeats 4000000
def dR {α:Type} (f:α->Int) (l:List α):Int:=(l.find? λx=>decide (f x≠0)).elim 0 f
theorem gD {α:Type} {f:α->Int} {l:List α}:dR f l=0↔∀x∈l,f x=0:=by
 unfold dR
 cases e:l.find? λx=>decide (f x≠0) with
 |none=>
  have:=List.find?_eq_none.1 e
  simp at this
  exact ⟨λ_=>this,λ_=>rfl⟩
 |some x=>
  have h1:=List.find?_some e
  have h2:=List.mem_of_find?_eq_some e
  simp at h1
  exact ⟨λh=>absurd h h1,λh=>absurd (h x h2) h1⟩
theorem wF {α:Type} (f:α->Int) (x:α) (l:List α):dR f (x::l)=if f x=0 then dR f l else f x:=by
 unfold dR
 rw [List.find?_cons]
 by_cases h:f x=0
 ·simp [h]
 ·simp [h]
theorem xZ {α:Type} {f:α->Int}:∀{l:List α} {i:Nat} (h:i<l.length),(∀j (hj:j<i),f (l[j]'(by omega))=0)->f l[i]≠0->dR f l=f l[i]
 |x::l,0,_,_,h2=>by rw [wF];exact if_neg h2
 |x::l,i+1,h,h1,h2=>by
  rw [wF,if_pos (show f x=0 from h1 0 (by omega))]
  exact xZ (l:=l) (Nat.lt_of_succ_lt_succ h) (λj hj=>h1 (j+1) (by omega)) h2
section
variable (sh:Cl->Vl) (ex:Tb->List Vl->Int)
def aFj (l:Ln):List Vl:=l.cells_.map sh
def fA (b:Bs) (k:Int):List (List Vl):=(aO b k).map (aFj sh)
def dW (c:Co):Int:=if c.kind=0\/c.kind=1 then c.type_ else if c.kind=2\/c.kind=3 then 1 else if c.kind=4 then 2 else 0
def sC (c:Co) (v:Vl):Int:=if cJ v=false then 1 else if v.kind=0/\(c.kind=0\/c.kind=1)/\c.null=false then 7 else if v.kind≠0/\v.kind≠dW c then 6 else 0
def eM (t:Tb) (r:List Vl):Int:=if t.cols.length=r.length then dR (λk=>sC t.cols[k]! r[k]!) (List.range r.length) else 1
def mL (u:Nat) (x y:List Vl):Bool:=(decide (x[u]!.kind=1)&&decide (y[u]!.kind=1))&&decide (x[u]!.n=y[u]!.n)
def lK (t:Tb) (rows:List (List Vl)):Bool:=t.unique.all λu=>decide (rows.Pairwise λx y=>mL u.toNat x y=false)
def xT (b:Bs) (t:Tb) (rows:List (List Vl)):Bool:=t.foreign.all λf=>rows.all λr=> !decide (r[f.col.toNat]!.kind=1)||(eH (aO b f.table) r[f.col.toNat]!.n).isSome
def ahK (m:Su) (g:Int) (r:List Vl):Int:=if r[m.by_.toNat]!.kind=1/\r[m.by_.toNat]!.n=g/\r[m.col.toNat]!.kind=1 then r[m.col.toNat]!.n else 0
def pB (m:Su) (g:Int) (rows:List (List Vl)):Int:=(rows.map (ahK m g)).sum
def alX (m:Su) (r:List Vl):Bool:=decide (r[m.col.toNat]!.kind=1)&&decide (r[m.col.toNat]!.n<0)
def zJ (t:Tb) (rows:List (List Vl)):Bool:=t.sums.all λm=>rows.all λr=> !alX m r&&(!decide (r[m.by_.toNat]!.kind=1)||decide (pB m r[m.by_.toNat]!.n rows<=m.max))
def ckT (b:Bs) (t:Tb) (rows:List (List Vl)):Int:=
 if dR (eM t) rows≠0 then dR (eM t) rows else if lK t rows=false then 8 else if dR (ex t) rows≠0 then dR (ex t) rows else if xT b t rows=false then 10 else if zJ t rows=false then 11 else 0
def ckW (s:Sc) (b:Bs):Int:=dR (λk:Nat=>ckT ex b s[k]! (fA sh b k)) (List.range s.length)
structure GoodT (b:Bs) (t:Tb) (rows:List (List Vl)):Prop where
 typ:∀r∈rows,eM t r=0
 uniq:∀u∈t.unique,rows.Pairwise λx y=>mL u.toNat x y=false
 chk:∀r∈rows,ex t r=0
 frn:∀f∈t.foreign,∀r∈rows,r[f.col.toNat]!.kind=1->(eH (aO b f.table) r[f.col.toNat]!.n).isSome=true
 neg:∀m∈t.sums,∀r∈rows,alX m r=false
 max:∀m∈t.sums,∀r∈rows,r[m.by_.toNat]!.kind=1->pB m r[m.by_.toNat]!.n rows<=m.max
variable {sh} {ex}
theorem aCJ {m:Su} {g:Int} {r r':List (List Vl)} (h:List.Sublist r' r) (hn:∀x∈r,alX m x=false):pB m g r'<=pB m g r:=by
 have hp:∀x∈r,0<=ahK m g x:=λx hx=>by
  have:=hn x hx
  unfold alX at this
  unfold ahK
  split
  ·rename_i q
   rw [decide_eq_true q.2.2,Bool.true_and,decide_eq_false_iff_not] at this
   omega
  ·exact Int.le_refl _
 clear hn
 induction h with
 |slnil=>exact Int.le_refl _
 | @cons l₁ l₂ a _ ih=>
  have h1:=ih λx hx=>hp x (List.mem_cons_of_mem _ hx)
  have h2:=hp a (List.mem_cons_self ..)
  unfold pB at*
  rw [List.map_cons,List.sum_cons];omega
 | @cons_cons l₁ l₂ a _ ih=>
  have h1:=ih λx hx=>hp x (List.mem_cons_of_mem _ hx)
  unfold pB at*
  rw [List.map_cons,List.map_cons,List.sum_cons,List.sum_cons];omega
theorem GoodT.less {b b':Bs} {t:Tb} {rows rows':List (List Vl)} (h:GoodT ex b t rows) (hs:List.Sublist rows' rows) (hf:∀f∈t.foreign,∀r∈rows',r[f.col.toNat]!.kind=1->(eH (aO b f.table) r[f.col.toNat]!.n).isSome=true->(eH (aO b' f.table) r[f.col.toNat]!.n).isSome=true):GoodT ex b' t rows':=
 ⟨λr hr=>h.typ r (hs.subset hr),λu hu=>(h.uniq u hu).sublist hs,λr hr=>h.chk r (hs.subset hr),λf hf' r hr hk=>hf f hf' r hr hk (h.frn f hf' r (hs.subset hr) hk),λm hm r hr=>h.neg m hm r (hs.subset hr),λm hm r hr hk=>Int.le_trans (aCJ hs (h.neg m hm)) (h.max m hm r (hs.subset hr) hk)⟩
end
end Go.Proofs.YtloecjjehapblaaGreatDoor
namespace Go.Proofs.YtloecjjehapblaaGreatDoor
open Go Go.Abs
set_option maxRecDepth 10000
set_option maxHeartbeats 4000000
structure FrOK (s:Sc) (t:Tb) (f:Fr):Prop where
 c1:1<=f.col
 c2:f.col<t.cols.length
 t1:0<=f.table
 t2:f.table<s.length
 act:f.act=0\/f.act=1\/f.act=2
 kind:t.cols[f.col.toNat]!.kind=0
 typ:t.cols[f.col.toNat]!.type_=1
theorem aaE {h b p a n z:Bool} (e:alO h b p a n z=0):h=true/\b=false/\p=false/\a=false/\n=true/\z=false:=by
 unfold alO at e
 cases h<;>cases b<;>cases p<;>cases a<;>cases n<;>cases z<;>simp at e⊢
theorem asH {s:Sc} (h:cL s=0) {k:Nat} (hk:k<s.length) {i:Nat} (hi:i<s[k].foreign.length):anU s.length s[k] i=0:=by
 have:=fL h hk (lk5 s.length s[k]!) (by simp [lks])
 rw [getElem!_pos s k hk] at this
 exact nE this hi
theorem aAQ {s:Sc} (h:cL s=0) {k:Nat} (hk:k<s.length) {f:Fr} (hf:f∈s[k].foreign):FrOK s s[k] f:=by
 obtain ⟨i,hi,rfl⟩:=List.getElem_of_mem hf
 have e:=aaE (asH h hk hi)
 rw [getElem!_pos s[k].foreign i hi] at e
 obtain ⟨e1,e2,_,e4,e5,_⟩:=e
 unfold oF at e1
 unfold lY kP at e5
 simp only [zba,zde,Bool.or_eq_false_iff,decide_eq_false_iff_not] at e1 e2 e4 e5
 exact ⟨by omega,e1.2,by omega,by omega,by omega,e5.1,e5.2⟩
theorem aqW {s:Sc} (h:cL s=0) {k:Nat} (hk:k<s.length):∀(j i:Nat) (hj:j<s[k].foreign.length) (hij:i<j),s[k].foreign[i].col<s[k].foreign[j].col:=by
 intro j
 induction j with
 |zero=>intro i _ h;omega
 |succ j ih=>
  intro i hj hij
  have e:=aaE (asH h hk hj)
  have e3:=e.2.2.1
  rw [show j+1-1=j from rfl,getElem!_pos s[k].foreign (j+1) hj,getElem!_pos s[k].foreign j (by omega)] at e3
  simp only [Nat.zero_lt_succ,decide_true,Bool.true_and,decide_eq_false_iff_not] at e3
  rcases Nat.lt_succ_iff_lt_or_eq.1 hij with q|q
  ·have:=ih i (by omega) q;omega
  ·subst q;omega
theorem aE0 {s:Sc} (h:cL s=0) {k:Nat} (hk:k<s.length) (i j:Nat) (hi:i<s[k].foreign.length) (hj:j<s[k].foreign.length) (e:s[k].foreign[i].col=s[k].foreign[j].col):i=j:=by
 rcases Nat.lt_trichotomy i j with q|q|q
 ·have:=aqW h hk j i hj q;omega
 ·exact q
 ·have:=aqW h hk i j hi q;omega
theorem axJ {s:Sc} (h:cL s=0):s.length<=16:=by
 unfold cL at h
 split at h
 ·cases h
 ·omega
theorem aoS {s:Sc} (h:cL s=0) {k:Nat} (hk:k<s.length):s[k].foreign.length<=16:=by
 have:=fL h hk (lk1 s[k]!) (by simp [lks])
 rw [getElem!_pos s k hk] at this
 unfold lk1 at this
 split at this
 ·cases this
 ·omega
variable {tx:Cl->Int}
structure LineOK (tx:Cl->Int) (t:Tb) (l:Ln):Prop where
 k1:0<=l.key
 k2:l.key<1073741824
 len:l.cells_.length=t.cols.length
 kind:∀j (h:j<l.cells_.length),l.cells_[j].kind=t.cols[j]!.kind
 cell:∀c∈l.cells_,jU tx c=true
 zero:l.cells_[0]!.val=⟨1,l.key,e0⟩
 dots:wJ l.by_=true
theorem yB {t:Tb} {l:Ln}:jX tx t l=true↔LineOK tx t l:=by
 unfold jX rC
 simp only [zba,zde,pI]
 constructor
 ·rintro ⟨⟨⟨h1,h2,h3⟩,h4⟩,h5,h6⟩
  have hc:∀j (h:j<l.cells_.length),l.cells_[j].kind=t.cols[j]!.kind/\jU tx l.cells_[j]=true:=λj hj=>by
   have:=h5 j hj
   unfold xH at this
   rw [getElem!_pos l.cells_ j hj,zba,zde] at this
   exact this
  exact ⟨h1,h2,h3,λj hj=>(hc j hj).1,λc hc'=>by obtain ⟨j,hj,rfl⟩:=List.getElem_of_mem hc';exact (hc j hj).2,h4,h6⟩
 ·rintro ⟨h1,h2,h3,h4,h5,h6,h7⟩
  refine ⟨⟨⟨h1,h2,h3⟩,h6⟩,λj hj=> ?_,h7⟩
  unfold xH
  rw [getElem!_pos l.cells_ j hj,h4 j hj,decide_eq_true rfl,h5 _ (zgm hj)];rfl
theorem vS {s:Sc} {b:Bs} (h:cP tx s b=true) {k:Nat} (hk:k<b.length) {l:Ln} (hl:l∈b[k].lines):LineOK tx s[k]! l:=by
 have:=(bV.1 h).2 k hk
 rw [getElem!_pos b k hk] at this
 exact yB.1 ((fY.1 this).2.1 l hl)
end Go.Proofs.YtloecjjehapblaaGreatDoor
namespace Go.Proofs.YtloecjjehapblaaGreatDoor
open Go Go.Abs
set_option maxRecDepth 10000
set_option maxHeartbeats 4000000
section
variable {sh:Cl->Vl} {ex:Tb->List Vl->Int} {tx:Cl->Int}
theorem aqD {t:Tb} {r:List Vl} (h:eM t r=0):r.length=t.cols.length:=by
 unfold eM at h
 split at h
 ·omega
 ·cases h
theorem GoodT.nil {b:Bs} {t:Tb}:GoodT ex b t []:=⟨λ_ h=>(by cases h),λ_ _=> .nil,λ_ h=>(by cases h),λ_ _ _ h=>(by cases h),λ_ _ _ h=>(by cases h),λ_ _ _ h=>(by cases h)⟩
end
end Go.Proofs.YtloecjjehapblaaGreatDoor
namespace Go.Proofs.YtloecjjehapblaaGreatDoor
open Go Go.Abs
set_option maxRecDepth 10000
set_option maxHeartbeats 4000000
section
variable {sh:Cl->Vl} {ex:Tb->List Vl->Int} {tx:Cl->Int}
end
end Go.Proofs.YtloecjjehapblaaGreatDoor
namespace Go.Proofs.YtloecjjehapblaaGreatDoor
open Go Go.Abs
set_option maxRecDepth 10000
set_option maxHeartbeats 4000000
section
variable {tx:Cl->Int} {sh:Cl->Vl}
structure SuOK (t:Tb) (m:Su):Prop where
 c1:1<=m.col
 c2:m.col<t.cols.length
 b1:1<=m.by_
 b2:m.by_<t.cols.length
 m0:0<=m.max
 m1:m.max<=1099511627776
 kc:t.cols[m.col.toNat]!.kind=0
 kb:t.cols[m.by_.toNat]!.kind=0
structure UnOK (t:Tb) (u:Int):Prop where
 c1:1<=u
 c2:u<t.cols.length
 kc:t.cols[u.toNat]!.kind=0
theorem amG {h a n p:Bool} (e:alD h a n p=0):h=true/\a=false/\n=true:=by
 unfold alD at e
 cases h<;>cases a<;>cases n<;>cases p<;>simp at e⊢
theorem aoX {h p n:Bool} (e:akJ h p n=0):h=true/\n=true:=by
 unfold akJ at e
 cases h<;>cases n<;>cases p<;>simp at e⊢
theorem aFU {s:Sc} (h:cL s=0) {k:Nat} (hk:k<s.length) {m:Su} (hm:m∈s[k].sums):SuOK s[k] m:=by
 obtain ⟨i,hi,rfl⟩:=List.getElem_of_mem hm
 have:=fL h hk (lk6 s[k]!) (by simp [lks])
 rw [getElem!_pos s k hk] at this
 have e:ajZ s[k] i=0:=nE this hi
 unfold ajZ at e
 rw [getElem!_pos s[k].sums i hi] at e
 obtain ⟨e1,e2,e3⟩:=amG e
 unfold oF at e1
 unfold lY kP at e3
 simp only [zba,zde,Bool.or_eq_false_iff,decide_eq_false_iff_not] at e1 e2 e3
 exact ⟨e1.1.1,e1.1.2,e1.2.1,e1.2.2,by omega,by omega,e3.1.1,e3.2.1⟩
theorem aFP {s:Sc} (h:cL s=0) {k:Nat} (hk:k<s.length) {u:Int} (hu:u∈s[k].unique):UnOK s[k] u:=by
 obtain ⟨i,hi,rfl⟩:=List.getElem_of_mem hu
 have:=fL h hk (lk4 s[k]!) (by simp [lks])
 rw [getElem!_pos s k hk] at this
 have e:aiG s[k] i=0:=nE this hi
 unfold aiG at e
 rw [getElem!_pos s[k].unique i hi] at e
 obtain ⟨e1,e2⟩:=aoX e
 unfold oF at e1
 unfold lY kP at e2
 simp only [zba,zde] at e1 e2
 exact ⟨e1.1,e1.2,e2.1⟩
theorem yL {b:Bs} {k:Nat} (hk:k<b.length):aO b k=b[k].lines:=by
 unfold aO okT
 rw [if_pos (by simp;omega),Int.toNat_natCast,getElem!_pos b k hk]
structure RwOK (t:Tb) (r:List Vl):Prop where
 len:r.length=t.cols.length
 num:∀j<t.cols.length,t.cols[j]!.kind=0->cJ r[j]! =true
theorem aoF (hsh:∀c:Cl,c.kind=0->sh c=c.val) {s:Sc} {b:Bs} (hg:cP tx s b=true) {k:Nat} (hk:k<s.length) {r:List Vl} (hr:r∈fA sh b k):RwOK s[k] r:=by
 obtain ⟨⟨h1,h2⟩,_⟩:=bV.1 hg
 have hkb:k<b.length:=by omega
 obtain ⟨l,hl,rfl⟩:=List.mem_map.1 hr
 rw [yL hkb] at hl
 have hL:=vS hg hkb hl
 rw [getElem!_pos s k hk] at hL
 have hlen:=hL.len
 refine ⟨by unfold aFj;rw [zql];exact hlen,λj hj h0=> ?_⟩
 have hjc:j<l.cells_.length:=by omega
 have hc:=hL.cell _ (zgm hjc)
 have hkd:=hL.kind j hjc
 rw [h0] at hkd
 unfold aFj
 rw [getElem!_pos _ j (by rw [zql];exact hjc),List.getElem_map,hsh _ hkd]
 unfold jU at hc
 rw [if_pos hkd,zba] at hc
 exact hc.1
theorem aBG {v:Vl} (h:cJ v=true):(-1099511627776<=v.n/\v.n<=1099511627776)/\(v.kind≠1->v.n=0):=by
 unfold cJ at h
 split at h
 ·simp only [zba,zde] at h;omega
 ·split at h
  ·simp only [zba,zde] at h;omega
  ·split at h
   ·simp only [zba,zde] at h;omega
   ·cases h
def afW (m:Su) (es:List (Int×Int)) (r:List Vl):List (Int×Int):=if r[m.by_.toNat]!.kind=1 then cW r[m.by_.toNat]!.n ((bX r[m.by_.toNat]!.n es).getD 0+r[m.col.toNat]!.n) es else es
def mO (m:Su) (rows:List (List Vl)):List (Int×Int):=rows.foldl (afW m) []
theorem aeX {V:Type} (k k':Int) (v:V):∀(l:List (Int×V)),bX k' (cW k v l)=if k'=k then some v else bX k' l
 |[]=>by simp only [cW,bX]
 |e::l=>by
  have ih:=aeX k k' v l
  simp only [cW]
  split
  ·rename_i h;simp only [bX];split<;>simp_all
  ·rename_i h;simp only [bX,ih];split
   ·rename_i h2;rw [if_neg (λe=>h (by rw [<-e,h2]))]
   ·rfl
theorem aDX {V:Type} {k:Int} {v:V}:∀{l:List (Int×V)},(l.map (·.1)).Nodup->(k,v)∈l->bX k l=some v
 |e::l,hn,h=>by
  simp only [List.map_cons,List.nodup_cons] at hn
  simp only [bX]
  rcases zmc.1 h with rfl|h
  ·rw [if_pos rfl]
  ·rw [if_neg (λq=>hn.1 (List.mem_map.2 ⟨_,h,q⟩))];exact aDX hn.2 h
theorem aAX {V:Type} {k:Int} {v:V}:∀{l:List (Int×V)},bX k l=some v->(k,v)∈l
 |[],h=>by simp [bX] at h
 |e::l,h=>by
  simp only [bX] at h
  split at h
  ·rename_i q;injection h with h;subst h;rw [q];exact List.mem_cons_self ..
  ·exact List.mem_cons_of_mem _ (aAX h)
theorem abQ {V:Type} (k:Int) (v:V):∀(l:List (Int×V)),∀k',k'∈(cW k v l).map (·.1)->k'=k\/k'∈l.map (·.1)
 |[],k',h=>by simp [cW] at h;exact .inl h
 |e::l,k',h=>by
  simp only [cW] at h
  split at h
  ·rename_i q
   simp only [List.map_cons,zmc] at h⊢
   rcases h with h|h
   ·exact .inl (h.trans (by first|rfl|exact q.symm))
   ·exact .inr (.inr h)
  ·simp only [List.map_cons,zmc] at h⊢
   exact h.elim (λq=> .inr (.inl q)) λq=>(abQ k v l k' q).elim .inl λq=> .inr (.inr q)
theorem aqX {V:Type} (k:Int) (v:V):∀(l:List (Int×V)),(l.map (·.1)).Nodup->((cW k v l).map (·.1)).Nodup
 |[],_=>by simp [cW]
 |e::l,h=>by
  simp only [List.map_cons,List.nodup_cons] at h
  simp only [cW]
  split
  ·rename_i q
   simp only [List.map_cons,List.nodup_cons]
   exact ⟨by first|exact h.1|(rw [q];exact h.1),h.2⟩
  ·rename_i q
   simp only [List.map_cons,List.nodup_cons]
   exact ⟨λx=>(abQ k v l _ x).elim (λy=>q y.symm) h.1,aqX k v l h.2⟩
theorem aAu (m:Su):∀(rows:List (List Vl)) (es:List (Int×Int)),(es.map (·.1)).Nodup->((rows.foldl (afW m) es).map (·.1)).Nodup
 |[],_,h=>h
 |r::rows,es,h=>aAu m rows _ (by
  unfold afW
  split
  ·exact aqX _ _ _ h
  ·exact h)
theorem ahD (m:Su) (g:Int) (r:List Vl) (rows:List (List Vl)):pB m g (r::rows)=ahK m g r+pB m g rows:=by unfold pB;rw [List.map_cons,List.sum_cons]
def azD (m:Su) (rows:List (List Vl)):Prop:=∀r∈rows,r[m.col.toNat]!.kind≠1->r[m.col.toNat]!.n=0
theorem afY {m:Su} (g:Int):∀{rows:List (List Vl)} (es:List (Int×Int)),azD m rows->(bX g (rows.foldl (afW m) es)).getD 0=(bX g es).getD 0+pB m g rows
 |[],es,_=>by simp [pB]
 |r::rows,es,h=>by
  have ih:=afY g (rows:=rows) (afW m es r) λx hx=>h x (List.mem_cons_of_mem _ hx)
  have h0:=h r (List.mem_cons_self ..)
  rw [List.foldl_cons,ih,ahD]
  unfold afW ahK
  by_cases hk:r[m.by_.toNat]!.kind=1
  ·rw [if_pos hk,aeX]
   by_cases hg:r[m.by_.toNat]!.n=g
   ·rw [if_pos hg.symm,hg]
    by_cases hc:r[m.col.toNat]!.kind=1
    ·rw [if_pos ⟨hk,rfl,hc⟩];simp only [Option.getD_some];omega
    ·rw [if_neg λq=>hc q.2.2,h0 hc];simp only [Option.getD_some];omega
   ·rw [if_neg (λq=>hg q.symm),if_neg λq=>hg q.2.1];omega
  ·rw [if_neg hk,if_neg λq=>hk q.1];omega
theorem alC {m:Su} (g:Int):∀{rows:List (List Vl)} (es:List (Int×Int)),(bX g (rows.foldl (afW m) es)).isSome=true↔((bX g es).isSome=true\/∃r∈rows,r[m.by_.toNat]!.kind=1/\r[m.by_.toNat]!.n=g)
 |[],es=>by simp
 |r::rows,es=>by
  rw [List.foldl_cons,alC g (rows:=rows) (afW m es r)]
  unfold afW
  by_cases hk:r[m.by_.toNat]!.kind=1
  ·rw [if_pos hk,aeX]
   by_cases hg:g=r[m.by_.toNat]!.n
   ·rw [if_pos hg]
    exact ⟨λ_=> .inr ⟨r,List.mem_cons_self ..,hk,hg.symm⟩,λ_=> .inl rfl⟩
   ·rw [if_neg hg]
    constructor
    ·rintro (q|⟨x,hx,q⟩)
     ·exact .inl q
     ·exact .inr ⟨x,List.mem_cons_of_mem _ hx,q⟩
    ·rintro (q|⟨x,hx,q⟩)
     ·exact .inl q
     ·rcases zmc.1 hx with rfl|hx
      ·exact absurd q.2.symm hg
      ·exact .inr ⟨x,hx,q⟩
  ·rw [if_neg hk]
   constructor
   ·rintro (q|⟨x,hx,q⟩)
    ·exact .inl q
    ·exact .inr ⟨x,List.mem_cons_of_mem _ hx,q⟩
   ·rintro (q|⟨x,hx,q⟩)
    ·exact .inl q
    ·rcases zmc.1 hx with rfl|hx
     ·exact absurd q.1 hk
     ·exact .inr ⟨x,hx,q⟩
def rS (m:Su) (rows:List (List Vl)):Bool:=rows.all λr=>decide (r[m.col.toNat]!.n>=0)
theorem asT {m:Su} {rows:List (List Vl)} (h:azD m rows):(rS m rows&&(mO m rows).all λe=>decide (e.2<=m.max))=rows.all λr=> !alX m r&&(!decide (r[m.by_.toNat]!.kind=1)||decide (pB m r[m.by_.toNat]!.n rows<=m.max)):=by
 have hget:=λg=>afY (m:=m) g (rows:=rows) [] h
 have hsome:=λg=>alC (m:=m) g (rows:=rows) []
 have hnd:=aAu m rows [] (by simp)
 change ∀g,(bX g (mO m rows)).getD 0=_ at hget
 change ∀g,(bX g (mO m rows)).isSome=true↔_ at hsome
 change ((mO m rows).map (·.1)).Nodup at hnd
 simp only [bX,Option.getD_none,Option.isSome_none,Bool.false_eq_true,false_or] at hget hsome
 rw [Bool.eq_iff_iff,zba]
 unfold rS
 simp only [zal,zba,Bool.or_eq_true,Bool.not_eq_true',zde,decide_eq_false_iff_not]
 have hneg:∀r∈rows,alX m r=false↔r[m.col.toNat]!.n>=0:=λr hr=>by
  unfold alX
  by_cases hc:r[m.col.toNat]!.kind=1
  ·rw [decide_eq_true hc,Bool.true_and,decide_eq_false_iff_not];omega
  ·rw [decide_eq_false hc,h r hr hc];simp
 constructor
 ·rintro ⟨h1,h2⟩ r hr
  refine ⟨(hneg r hr).2 (h1 r hr), ?_⟩
  by_cases hk:r[m.by_.toNat]!.kind=1
  ·right
   have hs:=(hsome r[m.by_.toNat]!.n).2 ⟨r,hr,hk,rfl⟩
   obtain ⟨v,hv⟩:=Option.isSome_iff_exists.1 hs
   have:=h2 _ (aAX hv)
   have e:=hget r[m.by_.toNat]!.n
   rw [hv] at e
   simp only [Option.getD_some] at e this
   omega
  ·exact .inl hk
 ·intro q
  refine ⟨λr hr=>(hneg r hr).1 (q r hr).1,λe he=> ?_⟩
  obtain ⟨k,v⟩:=e
  have hv:=aDX hnd he
  have e:=hget k
  rw [hv] at e
  simp only [Option.getD_some] at e⊢
  obtain ⟨r,hr,hk,rfl⟩:=(hsome k).1 (by rw [hv];rfl)
  have:=(q r hr).2.resolve_left λz=>z hk
  omega
def aEG (u:Nat) (es:List (Int×Bool)) (r:List Vl):List (Int×Bool):=if r[u]!.kind=1 then cW r[u]!.n true es else es
def amW (u:Nat) (rows:List (List Vl)):List (Int×Bool):=rows.foldl (aEG u) []
theorem aqK (u:Nat) (g:Int):∀(rows:List (List Vl)) (es:List (Int×Bool)),(bX g (rows.foldl (aEG u) es)).getD false=((bX g es).getD false||rows.any λr=>decide (r[u]!.kind=1)&&decide (r[u]!.n=g))
 |[],es=>by simp
 |r::rows,es=>by
  rw [List.foldl_cons,aqK u g rows,List.any_cons]
  unfold aEG
  by_cases hk:r[u]!.kind=1
  ·rw [if_pos hk,aeX]
   by_cases hg:g=r[u]!.n
   ·rw [if_pos hg,decide_eq_true hk,decide_eq_true hg.symm];simp
   ·rw [if_neg hg,decide_eq_false (show ¬r[u]!.n=g from λq=>hg q.symm)];simp
  ·rw [if_neg hk,decide_eq_false hk];simp
theorem ayP (u:Nat) (g:Int) (rows:List (List Vl)):(bX g (amW u rows)).getD false=rows.any λr=>decide (r[u]!.kind=1)&&decide (r[u]!.n=g):=by
 have:=aqK u g rows []
 simp only [bX,Option.getD_none,Bool.false_or] at this
 exact this
theorem aDI (u:Nat) {rows:List (List Vl)} {k:Nat} (h:k<rows.length):amW u (rows.take (k+1))=if rows[k][u]!.kind=1 then cW rows[k][u]!.n true (amW u (rows.take k)) else amW u (rows.take k):=by
 unfold amW
 rw [List.take_succ_eq_append_getElem h,List.foldl_append];rfl
theorem aCu (m:Su) {rows:List (List Vl)} {k:Nat} (h:k<rows.length):mO m (rows.take (k+1))=if rows[k][m.by_.toNat]!.kind=1 then cW rows[k][m.by_.toNat]!.n ((bX rows[k][m.by_.toNat]!.n (mO m (rows.take k))).getD 0+rows[k][m.col.toNat]!.n) (mO m (rows.take k)) else mO m (rows.take k):=by
 unfold mO
 rw [List.take_succ_eq_append_getElem h,List.foldl_append];rfl
def pwU (u:Nat) (rows:List (List Vl)):Prop:=rows.Pairwise λx y=>mL u x y=false
theorem aGw {u:Nat} {rows:List (List Vl)} {k:Nat} (h:k<rows.length):pwU u (rows.take (k+1))↔pwU u (rows.take k)/\(rows[k][u]!.kind=1->((rows.take k).any λr=>decide (r[u]!.kind=1)&&decide (r[u]!.n=rows[k][u]!.n))=false):=by
 unfold pwU
 rw [List.take_succ_eq_append_getElem h,List.pairwise_append]
 constructor
 ·rintro ⟨h1,_,h3⟩
  refine ⟨h1,λhk=> ?_⟩
  rw [List.any_eq_false]
  intro x hx q
  have:=h3 x hx rows[k] (by simp)
  unfold mL at this
  simp only [zba,zde] at q
  rw [decide_eq_true q.1,decide_eq_true hk,decide_eq_true q.2] at this
  cases this
 ·rintro ⟨h1,h2⟩
  refine ⟨h1,List.pairwise_singleton ..,λx hx y hy=> ?_⟩
  rw [List.mem_singleton] at hy
  subst hy
  by_cases hk:rows[k][u]!.kind=1
  ·have:=List.any_eq_false.1 (h2 hk) x hx
   unfold mL
   rw [decide_eq_true hk]
   simpa using this
  ·unfold mL
   rw [decide_eq_false hk];simp
theorem ayA {t:Tb} {rows:List (List Vl)} (h:∀j (hj:j<t.unique.length),pwU t.unique[j].toNat rows):lK t rows=true:=by
 unfold lK
 rw [zal]
 intro u hu
 obtain ⟨j,hj,rfl⟩:=List.getElem_of_mem hu
 exact decide_eq_true (h j hj)
theorem aCI {t:Tb} {rows:List (List Vl)} {j k:Nat} (hj:j<t.unique.length) (h:¬pwU t.unique[j].toNat (rows.take k)):lK t rows=false:=by
 unfold lK
 rw [<-Bool.not_eq_true,zal]
 intro q
 exact h ((of_decide_eq_true (q _ (zgm hj))).sublist (List.take_sublist ..))
theorem asQ {f:Nat->Int} {n i:Nat} (h:i<n) (h1:∀j<i,f j=0) (h2:f i≠0):dR f (List.range n)=f i:=by
 have:=xZ (f:=f) (l:=List.range n) (i:=i) (by simpa using h) (λj hj=>by rw [List.getElem_range];exact h1 j hj) (by rw [List.getElem_range];exact h2)
 rwa [List.getElem_range] at this
theorem acU {f:Nat->Int} {n:Nat} (h:∀j<n,f j=0):dR f (List.range n)=0:=gD.2 λj hj=>h j (List.mem_range.1 hj)
theorem mU {α:Type} {f:α->Int} {l:List α} (h:∀j (hj:j<l.length),f l[j]=0):dR f l=0:=gD.2 λx hx=>by
 obtain ⟨j,hj,rfl⟩:=List.getElem_of_mem hx
 exact h j hj
theorem sE {α:Type} {f:α->Int} {l:List α} {i:Nat} (hI:∀j (h:j<l.length),j<i->f l[j]=0) (h:i<l.length) (hf:f l[i]=0):∀j (h:j<l.length),j<i+1->f l[j]=0:=λj hj hji=>by
 rcases Nat.lt_succ_iff_lt_or_eq.1 hji with q|q
 ·exact hI j hj q
 ·subst q;exact hf
theorem sJ {α:Type} {f:α->Int} {l:List α} {i:Nat} (hI:∀j (h:j<l.length),j<i->f l[j]=0) (h:i<l.length) (hf:f l[i]≠0):dR f l=f l[i]:=xZ h (λj hj=>hI j (by omega) hj) hf
end
end Go.Proofs.YtloecjjehapblaaGreatDoor
namespace Go.Proofs.YtloecjjehapblaaGreatDoor
open Go Go.Abs
attribute [local irreducible] Ev PWp
set_option maxRecDepth 10000
set_option maxHeartbeats 4000000
theorem amY (c:Co):PF Tryz.prog 274 [.agg c.cells] (PV.val (Value.int .i64 (dW c))):=by
 unfold dW
 refine aG aF Tryz.func274 (by kernel_rfl) rfl rfl rfl rfl (λst=> ?_)
 (try apply wO pk;rfl);(repeat' first|show All _;constructor|apply wC pk;rfl;rfl|refine aA rfl ?_ ?_<;>intro h<;>(try simp at h)<;>try omega|(refine aC ?_;refine ⟨_,_,_,rfl,zwr _,zsr _, ?_,rfl⟩;try first|rfl|((simp [*];done));done))
theorem amN (c:Co) (v:Vl):PF Tryz.prog 179 [.agg c.cells, .agg v.cells] (PV.val (Value.int .i64 (sC c v))):=by
 have hv:=iS v
 have hk:=amY c
 unfold sC
 generalize cJ v=A at*
 generalize dW c=K at*
 refine aG aF Tryz.func179 (by kernel_rfl) rfl rfl rfl rfl (λst=> ?_)
 (try apply wO pk;rfl);(repeat' first|show All _;constructor|show Imp _ _;constructor|show ImpX _ _ _ _;constructor|apply wC pk;rfl;rfl|apply wE pk;rfl;rfl|apply wD pk [] [];kernel_rfl;rfl;rfl|refine aA rfl ?_ ?_<;>intro h<;>(try simp at h)<;>try omega|(refine aC ?_;refine ⟨_,_,_,rfl,zwr _,zsr _, ?_,rfl⟩;try first|rfl|(first|simp [*];done|grind);done)|(apply aH;rfl;rfl;rfl;(intro _;(first|apply hv|apply hk)<;>first|assumption|omega);rotate_left;rfl;rfl))
theorem adQ (t:Tb) (r:List Vl) (hc:t.cols.length<1000000000000000) (hr:r.length<1000000000000000):PF Tryz.prog 105 [.seq (t.cols.map Co.cells), .seq (r.map Vl.cells)] (PV.val (Value.int .i64 (eM t r))):=by
 unfold eM
 by_cases hl:¬t.cols.length=r.length
 ·rw [if_neg hl]
  refine aG aF Tryz.func105 (by kernel_rfl) rfl rfl rfl rfl (λst=> ?_)
  (try apply wO pk;rfl);(repeat' first|show All _;constructor|apply wC pk;rfl;rfl|refine aA rfl ?_ ?_<;>intro h<;>(try simp at h)<;>try omega|(refine aC ?_;refine ⟨_,_,_,rfl,zwr _,zsr _, ?_,rfl⟩;try first|rfl|(fail);done))
 replace hl:=Decidable.of_not_not hl
 rw [if_pos hl]
 refine aG aF Tryz.func105 (by kernel_rfl) rfl rfl rfl rfl (λst=> ?_)
 focus ((try apply wO pk;rfl);(repeat' first|show All _;constructor|apply wC pk;rfl;rfl|refine aA rfl ?_ ?_<;>intro h<;>(try simp at h)<;>try omega))
 refine aK (X:={x:Nat//x<=r.length/\∀j<x,sC t.cols[j]! r[j]! =0}) (λi=>(((((St.nil 30 st).pv 0 (.seq (t.cols.map Co.cells))).pv 13 (.seq (r.map Vl.cells))).pv 14 ((PV.val (Value.int .i64 ((((r.map Vl.cells)).length:Nat)))))).pv 15 ((PV.val (Value.int .i64 ((i.1:Nat))))))) (λi=>r.length-i.1) ⟨0,by omega,by omega⟩ ?_ (λi=> ?_)
 ·((repeat refine Sub.pv ?_ rfl);exact Sub.nil _ _ _ (zsr _) rfl)
 obtain ⟨i,hi,hI⟩:=i
 dsimp only
 by_cases hend:r.length<=i
 ·have e:dR (λk=>sC t.cols[k]! r[k]!) (List.range r.length)=0:=acU λj hj=>hI j (by omega)
  (try apply wO pk;rfl);(repeat' first|show All _;constructor|apply wC pk;rfl;rfl|refine aA rfl ?_ ?_<;>intro h<;>(try simp at h)<;>try omega|(refine aC ?_;refine ⟨_,_,_,rfl,zwr _,zsr _, ?_,rfl⟩;try first|rfl|(rw [e]);done))
 have hil:i<r.length:=by omega
 have hic:i<t.cols.length:=by omega
 have hk:=amN t.cols[i] r[i]
 have e:=asQ (f:=λk=>sC t.cols[k]! r[k]!) hil hI
 have hu:sC t.cols[i] r[i]=0->∀j<i+1,sC t.cols[j]! r[j]! =0:=λh j hj=>by
  rcases Nat.lt_succ_iff_lt_or_eq.1 hj with q|q
  ·exact hI j q
  ·subst q;rw [getElem!_pos t.cols j hic,getElem!_pos r j hil];exact h
 simp only [getElem!_pos t.cols i hic,getElem!_pos r i hil] at e
 generalize sC t.cols[i] r[i]=E at*
 (try apply wO pk;rfl);(repeat' first|show All _;constructor|show Imp _ _;constructor|apply wC pk;rfl;rfl|apply wE pk;rfl;rfl|apply wD pk [] [];kernel_rfl;rfl;rfl|refine aA rfl ?_ ?_<;>intro h<;>(try simp at h)<;>try omega|(refine aC ?_;refine ⟨_,_,_,rfl,zwr _,zsr _, ?_,rfl⟩;try first|rfl|(rw [e ‹_›]);done)|(apply aH;rfl;rfl;rfl;(intro _;apply hk<;>first|assumption|omega);rotate_left;rfl;rfl)|apply aN pk;(iterate 6 rfl);rotate_left;rfl;(intro hw;rfl);(intro hw;apply aI<;>omega);(intro _;rfl);rfl|refine ⟨⟨i+1,by omega,hu ‹_›⟩, ?_,by simp only;omega⟩;((repeat refine Sub.pv ?_ rfl);exact Sub.nil _ _ _ (zsr _) rfl)|intros;(try simp only [zql]);omega)
end Go.Proofs.YtloecjjehapblaaGreatDoor
