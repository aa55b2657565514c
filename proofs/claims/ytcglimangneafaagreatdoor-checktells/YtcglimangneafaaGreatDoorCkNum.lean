import Derived.Test.YtcglimangneafaaGreatDoorBsMap
import Derived.Test.YtcglimangneafaaGreatDoorBsPutS
set_option linter.unusedSimpArgs false
set_option linter.unusedVariables false
namespace Go.Proofs.YtcglimangneafaaGreatDoor
open Go Go.Abs
structure FrOK (s:Sc) (t:Tb) (f:Fr):Prop where
  c1:1≤f.col
  c2:f.col<t.cols.length
  t1:0≤f.table
  t2:f.table<s.length
  act:f.act=0∨f.act=1∨f.act=2
  kind:t.cols[f.col.toNat]!.kind=0
  typ:t.cols[f.col.toNat]!.type_=1
theorem ahL {h b p a n z:Bool} (e:xM h b p a n z=0):h=true∧b=false∧p=false∧a=false∧n=true∧z=false:=by
  unfold xM at e
  cases h<;>cases b<;>cases p<;>cases a<;>cases n<;>cases z<;>simp at e⊢
theorem awR {s:Sc} (h:cD s=0) {k:Nat} (hk:k<s.length) {i:Nat} (hi:i<s[k].foreign.length):pC s.length s[k] i=0:=by
  have:=iZ h hk (lk5 s.length s[k]!) (by simp [lks])
  rw [getElem!_pos s k hk] at this
  exact kY this hi
theorem axQ {s:Sc} (h:cD s=0) {k:Nat} (hk:k<s.length) {f:Fr} (hf:f∈s[k].foreign):FrOK s s[k] f:=by
  obtain ⟨i,hi,rfl⟩:=List.getElem_of_mem hf
  have e:=ahL (awR h hk hi)
  rw [getElem!_pos s[k].foreign i hi] at e
  obtain ⟨e1,e2,_,e4,e5,_⟩:=e
  unfold fF at e1
  unfold eY eF at e5
  simp only [Bool.and_eq_true,decide_eq_true_eq,Bool.or_eq_false_iff,decide_eq_false_iff_not] at e1 e2 e4 e5
  exact ⟨by omega,e1.2,by omega,by omega,by omega,e5.1,e5.2⟩
variable {tx:Cl→Int}
structure LineOK (tx:Cl→Int) (t:Tb) (l:Ln):Prop where
  k1:0≤l.key
  k2:l.key<1073741824
  len:l.cells_.length=t.cols.length
  kind:∀j (h:j<l.cells_.length),l.cells_[j].kind=t.cols[j]!.kind
  cell:∀c∈l.cells_,sF tx c=true
  zero:l.cells_[0]!.val=⟨1,l.key,e0⟩
  dots:oG l.by_=true
theorem auU {t:Tb} {l:Ln}:gT tx t l=true↔LineOK tx t l:=by
  unfold gT lS
  simp only [Bool.and_eq_true,decide_eq_true_eq,mQ]
  constructor
  · rintro ⟨⟨⟨h1,h2,h3⟩,h4⟩,h5,h6⟩
    have hc:∀j (h:j<l.cells_.length),l.cells_[j].kind=t.cols[j]!.kind∧sF tx l.cells_[j]=true:=fun j hj=>by
      have:=h5 j hj
      unfold lT at this
      rw [getElem!_pos l.cells_ j hj,Bool.and_eq_true,decide_eq_true_eq] at this
      exact this
    exact ⟨h1,h2,h3,fun j hj=>(hc j hj).1,fun c hc'=>by obtain ⟨j,hj,rfl⟩:=List.getElem_of_mem hc';exact (hc j hj).2,h4,h6⟩
  · rintro ⟨h1,h2,h3,h4,h5,h6,h7⟩
    refine ⟨⟨⟨h1,h2,h3⟩,h6⟩,fun j hj=> ?_,h7⟩
    unfold lT
    rw [getElem!_pos l.cells_ j hj,h4 j hj,decide_eq_true rfl,h5 _ (List.getElem_mem hj)];rfl
theorem anX {s:Sc} {b:Bs} (h:eG tx s b=true) {k:Nat} (hk:k<b.length) {l:Ln} (hl:l∈b[k].lines):LineOK tx s[k]! l:=by
  have:=(gA.1 h).2 k hk
  rw [getElem!_pos b k hk] at this
  exact auU.1 ((yE.1 this).2.1 l hl)
end Go.Proofs.YtcglimangneafaaGreatDoor
namespace Go.Proofs.YtcglimangneafaaGreatDoor
open Go Go.Abs
def cC {α:Type} (f:α→Int) (l:List α):Int:=(l.find? fun x=>decide (f x≠0)).elim 0 f
theorem iM {α:Type} {f:α→Int} {l:List α}:cC f l=0↔∀x∈l,f x=0:=by
  unfold cC
  cases e:l.find? fun x=>decide (f x≠0) with
  |none=>
    have:=List.find?_eq_none.1 e
    simp at this
    exact ⟨fun _=>this,fun _=>rfl⟩
  |some x=>
    have h1:=List.find?_some e
    have h2:=List.mem_of_find?_eq_some e
    simp at h1
    exact ⟨fun h=>absurd h h1,fun h=>absurd (h x h2) h1⟩
theorem sE {α:Type} (f:α→Int) (x:α) (l:List α):cC f (x::l)=if f x=0 then cC f l else f x:=by
  unfold cC
  rw [List.find?_cons]
  by_cases h:f x=0
  · simp [h]
  · simp [h]
theorem zZ {α:Type} {f:α→Int}:∀{l:List α} {i:Nat} (h:i<l.length),(∀j (hj:j<i),f (l[j]'(by omega))=0)→f l[i]≠0→cC f l=f l[i]
  |x::l,0,_,_,h2=>by rw [sE];exact if_neg h2
  |x::l,i+1,h,h1,h2=>by
    rw [sE,if_pos (show f x=0 from h1 0 (by omega))]
    exact zZ (l:=l) (Nat.lt_of_succ_lt_succ h) (fun j hj=>h1 (j+1) (by omega)) h2
section
variable (sh:Cl→Vl) (ex:Tb→List Vl→Int)
def abQ (l:Ln):List Vl:=l.cells_.map sh
def bQ (b:Bs) (k:Int):List (List Vl):=(aV b k).map (abQ sh)
def bK (c:Co):Int:=if c.kind=0∨c.kind=1 then c.type_ else if c.kind=2∨c.kind=3 then 1 else if c.kind=4 then 2 else 0
def lW (c:Co) (v:Vl):Int:=if eD v=false then 1 else if v.kind=0∧(c.kind=0∨c.kind=1)∧c.null=false then 7 else if v.kind≠0∧v.kind≠bK c then 6 else 0
def dE (t:Tb) (r:List Vl):Int:=if t.cols.length=r.length then cC (fun k=>lW t.cols[k]! r[k]!) (List.range r.length) else 1
def wQ (u:Nat) (x y:List Vl):Bool:=(decide (x[u]!.kind=1)&&decide (y[u]!.kind=1))&&decide (x[u]!.n=y[u]!.n)
def fW (t:Tb) (rows:List (List Vl)):Bool:=t.unique.all fun u=>decide (rows.Pairwise fun x y=>wQ u.toNat x y=false)
def kJ (b:Bs) (t:Tb) (rows:List (List Vl)):Bool:=t.foreign.all fun f=>rows.all fun r=> !decide (r[f.col.toNat]!.kind=1)||(dH (aV b f.table) r[f.col.toNat]!.n).isSome
def tP (m:Su) (g:Int) (r:List Vl):Int:=if r[m.by_.toNat]!.kind=1∧r[m.by_.toNat]!.n=g∧r[m.col.toNat]!.kind=1 then r[m.col.toNat]!.n else 0
def dI (m:Su) (g:Int) (rows:List (List Vl)):Int:=(rows.map (tP m g)).sum
def lV (m:Su) (r:List Vl):Bool:=decide (r[m.col.toNat]!.kind=1)&&decide (r[m.col.toNat]!.n<0)
def lA (t:Tb) (rows:List (List Vl)):Bool:=t.sums.all fun m=>rows.all fun r=> !lV m r&&(!decide (r[m.by_.toNat]!.kind=1)||decide (dI m r[m.by_.toNat]!.n rows≤m.max))
def ckT (b:Bs) (t:Tb) (rows:List (List Vl)):Int:=
  if cC (dE t) rows≠0 then cC (dE t) rows else if fW t rows=false then 8 else if cC (ex t) rows≠0 then cC (ex t) rows else if kJ b t rows=false then 10 else if lA t rows=false then 11 else 0
def ckW (s:Sc) (b:Bs):Int:=cC (fun k:Nat=>ckT ex b s[k]! (bQ sh b k)) (List.range s.length)
structure GoodT (b:Bs) (t:Tb) (rows:List (List Vl)):Prop where
  typ:∀r∈rows,dE t r=0
  uniq:∀u∈t.unique,rows.Pairwise fun x y=>wQ u.toNat x y=false
  chk:∀r∈rows,ex t r=0
  frn:∀f∈t.foreign,∀r∈rows,r[f.col.toNat]!.kind=1→(dH (aV b f.table) r[f.col.toNat]!.n).isSome=true
  neg:∀m∈t.sums,∀r∈rows,lV m r=false
  max:∀m∈t.sums,∀r∈rows,r[m.by_.toNat]!.kind=1→dI m r[m.by_.toNat]!.n rows≤m.max
variable {sh} {ex}
theorem akA {m:Su} {g:Int} {r r':List (List Vl)} (h:List.Sublist r' r) (hn:∀x∈r,lV m x=false):dI m g r'≤dI m g r:=by
  have hp:∀x∈r,0≤tP m g x:=fun x hx=>by
    have:=hn x hx
    unfold lV at this
    unfold tP
    split
    · rename_i q
      rw [decide_eq_true q.2.2,Bool.true_and,decide_eq_false_iff_not] at this
      omega
    · exact Int.le_refl _
  clear hn
  induction h with
  |slnil=>exact Int.le_refl _
  | @cons l₁ l₂ a _ ih=>
    have h1:=ih fun x hx=>hp x (List.mem_cons_of_mem _ hx)
    have h2:=hp a (List.mem_cons_self ..)
    unfold dI at*
    rw [List.map_cons,List.sum_cons];omega
  | @cons_cons l₁ l₂ a _ ih=>
    have h1:=ih fun x hx=>hp x (List.mem_cons_of_mem _ hx)
    unfold dI at*
    rw [List.map_cons,List.map_cons,List.sum_cons,List.sum_cons];omega
theorem GoodT.less {b b':Bs} {t:Tb} {rows rows':List (List Vl)} (h:GoodT ex b t rows) (hs:List.Sublist rows' rows) (hf:∀f∈t.foreign,∀r∈rows',r[f.col.toNat]!.kind=1→(dH (aV b f.table) r[f.col.toNat]!.n).isSome=true→(dH (aV b' f.table) r[f.col.toNat]!.n).isSome=true):GoodT ex b' t rows':=
  ⟨fun r hr=>h.typ r (hs.subset hr),fun u hu=>(h.uniq u hu).sublist hs,fun r hr=>h.chk r (hs.subset hr),fun f hf' r hr hk=>hf f hf' r hr hk (h.frn f hf' r (hs.subset hr) hk),fun m hm r hr=>h.neg m hm r (hs.subset hr),fun m hm r hr hk=>Int.le_trans (akA hs (h.neg m hm)) (h.max m hm r (hs.subset hr) hk)⟩
end
end Go.Proofs.YtcglimangneafaaGreatDoor
namespace Go.Proofs.YtcglimangneafaaGreatDoor
open Go Go.Abs
section
variable {sh:Cl→Vl} {ex:Tb→List Vl→Int} {tx:Cl→Int}
theorem GoodT.apart {b:Bs} {t:Tb} {rows:List (List Vl)} (h:GoodT ex b t rows) {u:Int} (hu:u∈t.unique) {i j:Nat} (hij:i<j) (hj:j<rows.length) (hk:(rows[i]'(by omega))[u.toNat]!.kind=1):(rows[i]'(by omega))[u.toNat]!≠rows[j][u.toNat]!:=fun e=>by
  have:=List.pairwise_iff_getElem.1 (h.uniq u hu) i j (by omega) hj hij
  unfold wQ at this
  rw [←e,hk] at this
  simp at this
theorem ayW {m:Su} {g:Int} {r:List (List Vl)} (hn:∀x∈r,lV m x=false):0≤dI m g r:=by
  have:=akA (m:=m) (g:=g) (List.nil_sublist r) hn
  simpa [dI] using this
theorem afV {m:Su} {g:Int}:∀{r:List (List Vl)},(∀x∈r,¬(x[m.by_.toNat]!.kind=1∧x[m.by_.toNat]!.n=g))→dI m g r=0
  |[],_=>rfl
  |x::r,h=>by
    have h1:=afV (m:=m) (g:=g) fun y hy=>h y (List.mem_cons_of_mem _ hy)
    have h2:tP m g x=0:=by
      unfold tP
      rw [if_neg fun q=>h x (List.mem_cons_self ..) ⟨q.1,q.2.1⟩]
    unfold dI at*
    rw [List.map_cons,List.sum_cons,h2,h1];rfl
theorem GoodT.tot {b:Bs} {t:Tb} {rows:List (List Vl)} (h:GoodT ex b t rows) {m:Su} (hm:m∈t.sums) (h0:0≤m.max) (g:Int):0≤dI m g rows∧dI m g rows≤m.max:=by
  refine ⟨ayW (h.neg m hm), ?_⟩
  by_cases hx:∃x∈rows,x[m.by_.toNat]!.kind=1∧x[m.by_.toNat]!.n=g
  · obtain ⟨x,hx,h1,h2⟩:=hx
    rw [←h2];exact h.max m hm x hx h1
  · rw [afV fun x hx' q=>hx ⟨x,hx',q⟩];exact h0
theorem GoodT.nil {b:Bs} {t:Tb}:GoodT ex b t []:=⟨fun _ h=>(by cases h),fun _ _=> .nil,fun _ h=>(by cases h),fun _ _ _ h=>(by cases h),fun _ _ _ h=>(by cases h),fun _ _ _ h=>(by cases h)⟩
end
end Go.Proofs.YtcglimangneafaaGreatDoor
namespace Go.Proofs.YtcglimangneafaaGreatDoor
open Go Go.Abs
section
variable {sh:Cl→Vl} {ex:Tb→List Vl→Int} {tx:Cl→Int}
end
end Go.Proofs.YtcglimangneafaaGreatDoor
namespace Go.Proofs.YtcglimangneafaaGreatDoor
open Go Go.Abs
section
variable {tx:Cl→Int} {sh:Cl→Vl}
structure SuOK (t:Tb) (m:Su):Prop where
  c1:1≤m.col
  c2:m.col<t.cols.length
  b1:1≤m.by_
  b2:m.by_<t.cols.length
  m0:0≤m.max
  m1:m.max≤1099511627776
  kc:t.cols[m.col.toNat]!.kind=0
  kb:t.cols[m.by_.toNat]!.kind=0
structure UnOK (t:Tb) (u:Int):Prop where
  c1:1≤u
  c2:u<t.cols.length
  kc:t.cols[u.toNat]!.kind=0
theorem agG {h a n p:Bool} (e:xD h a n p=0):h=true∧a=false∧n=true:=by
  unfold xD at e
  cases h<;>cases a<;>cases n<;>cases p<;>simp at e⊢
theorem aiM {h p n:Bool} (e:wM h p n=0):h=true∧n=true:=by
  unfold wM at e
  cases h<;>cases n<;>cases p<;>simp at e⊢
theorem azQ {s:Sc} (h:cD s=0) {k:Nat} (hk:k<s.length) {m:Su} (hm:m∈s[k].sums):SuOK s[k] m:=by
  obtain ⟨i,hi,rfl⟩:=List.getElem_of_mem hm
  have:=iZ h hk (lk6 s[k]!) (by simp [lks])
  rw [getElem!_pos s k hk] at this
  have e:oA s[k] i=0:=kY this hi
  unfold oA at e
  rw [getElem!_pos s[k].sums i hi] at e
  obtain ⟨e1,e2,e3⟩:=agG e
  unfold fF at e1
  unfold eY eF at e3
  simp only [Bool.and_eq_true,decide_eq_true_eq,Bool.or_eq_false_iff,decide_eq_false_iff_not] at e1 e2 e3
  exact ⟨e1.1.1,e1.1.2,e1.2.1,e1.2.2,by omega,by omega,e3.1.1,e3.2.1⟩
theorem axJ {s:Sc} (h:cD s=0) {k:Nat} (hk:k<s.length) {u:Int} (hu:u∈s[k].unique):UnOK s[k] u:=by
  obtain ⟨i,hi,rfl⟩:=List.getElem_of_mem hu
  have:=iZ h hk (lk4 s[k]!) (by simp [lks])
  rw [getElem!_pos s k hk] at this
  have e:nX s[k] i=0:=kY this hi
  unfold nX at e
  rw [getElem!_pos s[k].unique i hi] at e
  obtain ⟨e1,e2⟩:=aiM e
  unfold fF at e1
  unfold eY eF at e2
  simp only [Bool.and_eq_true,decide_eq_true_eq] at e1 e2
  exact ⟨e1.1,e1.2,e2.1⟩
theorem uK {b:Bs} {k:Nat} (hk:k<b.length):aV b k=b[k].lines:=by
  unfold aV okT
  rw [if_pos (by simp;omega),Int.toNat_natCast,getElem!_pos b k hk]
structure RwOK (t:Tb) (r:List Vl):Prop where
  len:r.length=t.cols.length
  num:∀j<t.cols.length,t.cols[j]!.kind=0→eD r[j]! =true
theorem abH (hsh:∀c:Cl,c.kind=0→sh c=c.val) {s:Sc} {b:Bs} (hg:eG tx s b=true) {k:Nat} (hk:k<s.length) {r:List Vl} (hr:r∈bQ sh b k):RwOK s[k] r:=by
  obtain ⟨⟨h1,h2⟩,_⟩:=gA.1 hg
  have hkb:k<b.length:=by omega
  obtain ⟨l,hl,rfl⟩:=List.mem_map.1 hr
  rw [uK hkb] at hl
  have hL:=anX hg hkb hl
  rw [getElem!_pos s k hk] at hL
  have hlen:=hL.len
  refine ⟨by unfold abQ;rw [zql];exact hlen,fun j hj h0=> ?_⟩
  have hjc:j<l.cells_.length:=by omega
  have hc:=hL.cell _ (List.getElem_mem hjc)
  have hkd:=hL.kind j hjc
  rw [h0] at hkd
  unfold abQ
  rw [getElem!_pos _ j (by rw [zql];exact hjc),List.getElem_map,hsh _ hkd]
  unfold sF at hc
  rw [if_pos hkd,Bool.and_eq_true] at hc
  exact hc.1
theorem atW {v:Vl} (h:eD v=true):(-1099511627776≤v.n∧v.n≤1099511627776)∧(v.kind≠1→v.n=0):=by
  unfold eD at h
  split at h
  · simp only [Bool.and_eq_true,decide_eq_true_eq] at h;omega
  · split at h
    · simp only [Bool.and_eq_true,decide_eq_true_eq] at h;omega
    · split at h
      · simp only [Bool.and_eq_true,decide_eq_true_eq] at h;omega
      · cases h
def aaV (m:Su) (es:List (Int×Int)) (r:List Vl):List (Int×Int):=if r[m.by_.toNat]!.kind=1 then cK r[m.by_.toNat]!.n ((bT r[m.by_.toNat]!.n es).getD 0+r[m.col.toNat]!.n) es else es
def jZ (m:Su) (rows:List (List Vl)):List (Int×Int):=rows.foldl (aaV m) []
theorem zY {V:Type} (k k':Int) (v:V):∀(l:List (Int×V)),bT k' (cK k v l)=if k'=k then some v else bT k' l
  |[]=>by simp only [cK,bT]
  |e::l=>by
    have ih:=zY k k' v l
    simp only [cK]
    split
    · rename_i h;simp only [bT];split<;>simp_all
    · rename_i h;simp only [bT,ih];split
      · rename_i h2;rw [if_neg (fun e=>h (by rw [←e,h2]))]
      · rfl
theorem axM {V:Type} {k:Int} {v:V}:∀{l:List (Int×V)},(l.map (·.1)).Nodup→(k,v)∈l→bT k l=some v
  |e::l,hn,h=>by
    simp only [List.map_cons,List.nodup_cons] at hn
    simp only [bT]
    rcases List.mem_cons.1 h with rfl|h
    · rw [if_pos rfl]
    · rw [if_neg (fun q=>hn.1 (List.mem_map.2 ⟨_,h,q⟩))];exact axM hn.2 h
theorem asK {V:Type} {k:Int} {v:V}:∀{l:List (Int×V)},bT k l=some v→(k,v)∈l
  |[],h=>by simp [bT] at h
  |e::l,h=>by
    simp only [bT] at h
    split at h
    · rename_i q;injection h with h;subst h;rw [q];exact List.mem_cons_self ..
    · exact List.mem_cons_of_mem _ (asK h)
theorem xS {V:Type} (k:Int) (v:V):∀(l:List (Int×V)),∀k',k'∈(cK k v l).map (·.1)→k'=k∨k'∈l.map (·.1)
  |[],k',h=>by simp [cK] at h;exact .inl h
  |e::l,k',h=>by
    simp only [cK] at h
    split at h
    · rename_i q
      simp only [List.map_cons,List.mem_cons] at h⊢
      rcases h with h|h
      · exact .inl (h.trans (by first|rfl|exact q.symm))
      · exact .inr (.inr h)
    · simp only [List.map_cons,List.mem_cons] at h⊢
      exact h.elim (fun q=> .inr (.inl q)) fun q=>(xS k v l k' q).elim .inl fun q=> .inr (.inr q)
theorem ajS {V:Type} (k:Int) (v:V):∀(l:List (Int×V)),(l.map (·.1)).Nodup→((cK k v l).map (·.1)).Nodup
  |[],_=>by simp [cK]
  |e::l,h=>by
    simp only [List.map_cons,List.nodup_cons] at h
    simp only [cK]
    split
    · rename_i q
      simp only [List.map_cons,List.nodup_cons]
      exact ⟨by first|exact h.1|(rw [q];exact h.1),h.2⟩
    · rename_i q
      simp only [List.map_cons,List.nodup_cons]
      exact ⟨fun x=>(xS k v l _ x).elim (fun y=>q y.symm) h.1,ajS k v l h.2⟩
theorem arO (m:Su):∀(rows:List (List Vl)) (es:List (Int×Int)),(es.map (·.1)).Nodup→((rows.foldl (aaV m) es).map (·.1)).Nodup
  |[],_,h=>h
  |r::rows,es,h=>arO m rows _ (by
    unfold aaV
    split
    · exact ajS _ _ _ h
    · exact h)
theorem abZ (m:Su) (g:Int) (r:List Vl) (rows:List (List Vl)):dI m g (r::rows)=tP m g r+dI m g rows:=by unfold dI;rw [List.map_cons,List.sum_cons]
def apU (m:Su) (rows:List (List Vl)):Prop:=∀r∈rows,r[m.col.toNat]!.kind≠1→r[m.col.toNat]!.n=0
theorem aaW {m:Su} (g:Int):∀{rows:List (List Vl)} (es:List (Int×Int)),apU m rows→(bT g (rows.foldl (aaV m) es)).getD 0=(bT g es).getD 0+dI m g rows
  |[],es,_=>by simp [dI]
  |r::rows,es,h=>by
    have ih:=aaW g (rows:=rows) (aaV m es r) fun x hx=>h x (List.mem_cons_of_mem _ hx)
    have h0:=h r (List.mem_cons_self ..)
    rw [List.foldl_cons,ih,abZ]
    unfold aaV tP
    by_cases hk:r[m.by_.toNat]!.kind=1
    · rw [if_pos hk,zY]
      by_cases hg:r[m.by_.toNat]!.n=g
      · rw [if_pos hg.symm,hg]
        by_cases hc:r[m.col.toNat]!.kind=1
        · rw [if_pos ⟨hk,rfl,hc⟩];simp only [Option.getD_some];omega
        · rw [if_neg fun q=>hc q.2.2,h0 hc];simp only [Option.getD_some];omega
      · rw [if_neg (fun q=>hg q.symm),if_neg fun q=>hg q.2.1];omega
    · rw [if_neg hk,if_neg fun q=>hk q.1];omega
theorem afJ {m:Su} (g:Int):∀{rows:List (List Vl)} (es:List (Int×Int)),(bT g (rows.foldl (aaV m) es)).isSome=true↔((bT g es).isSome=true∨∃r∈rows,r[m.by_.toNat]!.kind=1∧r[m.by_.toNat]!.n=g)
  |[],es=>by simp
  |r::rows,es=>by
    rw [List.foldl_cons,afJ g (rows:=rows) (aaV m es r)]
    unfold aaV
    by_cases hk:r[m.by_.toNat]!.kind=1
    · rw [if_pos hk,zY]
      by_cases hg:g=r[m.by_.toNat]!.n
      · rw [if_pos hg]
        exact ⟨fun _=> .inr ⟨r,List.mem_cons_self ..,hk,hg.symm⟩,fun _=> .inl rfl⟩
      · rw [if_neg hg]
        constructor
        · rintro (q|⟨x,hx,q⟩)
          · exact .inl q
          · exact .inr ⟨x,List.mem_cons_of_mem _ hx,q⟩
        · rintro (q|⟨x,hx,q⟩)
          · exact .inl q
          · rcases List.mem_cons.1 hx with rfl|hx
            · exact absurd q.2.symm hg
            · exact .inr ⟨x,hx,q⟩
    · rw [if_neg hk]
      constructor
      · rintro (q|⟨x,hx,q⟩)
        · exact .inl q
        · exact .inr ⟨x,List.mem_cons_of_mem _ hx,q⟩
      · rintro (q|⟨x,hx,q⟩)
        · exact .inl q
        · rcases List.mem_cons.1 hx with rfl|hx
          · exact absurd q.1 hk
          · exact .inr ⟨x,hx,q⟩
def nY (m:Su) (rows:List (List Vl)):Bool:=rows.all fun r=>decide (r[m.col.toNat]!.n≥0)
theorem alE {m:Su} {rows:List (List Vl)} (h:apU m rows):(nY m rows&&(jZ m rows).all fun e=>decide (e.2≤m.max))=rows.all fun r=> !lV m r&&(!decide (r[m.by_.toNat]!.kind=1)||decide (dI m r[m.by_.toNat]!.n rows≤m.max)):=by
  have hget:=fun g=>aaW (m:=m) g (rows:=rows) [] h
  have hsome:=fun g=>afJ (m:=m) g (rows:=rows) []
  have hnd:=arO m rows [] (by simp)
  change ∀g,(bT g (jZ m rows)).getD 0=_ at hget
  change ∀g,(bT g (jZ m rows)).isSome=true↔_ at hsome
  change ((jZ m rows).map (·.1)).Nodup at hnd
  simp only [bT,Option.getD_none,Option.isSome_none,Bool.false_eq_true,false_or] at hget hsome
  rw [Bool.eq_iff_iff,Bool.and_eq_true]
  unfold nY
  simp only [List.all_eq_true,Bool.and_eq_true,Bool.or_eq_true,Bool.not_eq_true',decide_eq_true_eq,decide_eq_false_iff_not]
  have hneg:∀r∈rows,lV m r=false↔r[m.col.toNat]!.n≥0:=fun r hr=>by
    unfold lV
    by_cases hc:r[m.col.toNat]!.kind=1
    · rw [decide_eq_true hc,Bool.true_and,decide_eq_false_iff_not];omega
    · rw [decide_eq_false hc,h r hr hc];simp
  constructor
  · rintro ⟨h1,h2⟩ r hr
    refine ⟨(hneg r hr).2 (h1 r hr), ?_⟩
    by_cases hk:r[m.by_.toNat]!.kind=1
    · right
      have hs:=(hsome r[m.by_.toNat]!.n).2 ⟨r,hr,hk,rfl⟩
      obtain ⟨v,hv⟩:=Option.isSome_iff_exists.1 hs
      have:=h2 _ (asK hv)
      have e:=hget r[m.by_.toNat]!.n
      rw [hv] at e
      simp only [Option.getD_some] at e this
      omega
    · exact .inl hk
  · intro q
    refine ⟨fun r hr=>(hneg r hr).1 (q r hr).1,fun e he=> ?_⟩
    obtain ⟨k,v⟩:=e
    have hv:=axM hnd he
    have e:=hget k
    rw [hv] at e
    simp only [Option.getD_some] at e⊢
    obtain ⟨r,hr,hk,rfl⟩:=(hsome k).1 (by rw [hv];rfl)
    have:=(q r hr).2.resolve_left fun z=>z hk
    omega
def ayJ (u:Nat) (es:List (Int×Bool)) (r:List Vl):List (Int×Bool):=if r[u]!.kind=1 then cK r[u]!.n true es else es
def agW (u:Nat) (rows:List (List Vl)):List (Int×Bool):=rows.foldl (ayJ u) []
theorem ajJ (u:Nat) (g:Int):∀(rows:List (List Vl)) (es:List (Int×Bool)),(bT g (rows.foldl (ayJ u) es)).getD false=((bT g es).getD false||rows.any fun r=>decide (r[u]!.kind=1)&&decide (r[u]!.n=g))
  |[],es=>by simp
  |r::rows,es=>by
    rw [List.foldl_cons,ajJ u g rows,List.any_cons]
    unfold ayJ
    by_cases hk:r[u]!.kind=1
    · rw [if_pos hk,zY]
      by_cases hg:g=r[u]!.n
      · rw [if_pos hg,decide_eq_true hk,decide_eq_true hg.symm];simp
      · rw [if_neg hg,decide_eq_false (show ¬r[u]!.n=g from fun q=>hg q.symm)];simp
    · rw [if_neg hk,decide_eq_false hk];simp
theorem apK (u:Nat) (g:Int) (rows:List (List Vl)):(bT g (agW u rows)).getD false=rows.any fun r=>decide (r[u]!.kind=1)&&decide (r[u]!.n=g):=by
  have:=ajJ u g rows []
  simp only [bT,Option.getD_none,Bool.false_or] at this
  exact this
theorem axE (u:Nat) {rows:List (List Vl)} {k:Nat} (h:k<rows.length):agW u (rows.take (k+1))=if rows[k][u]!.kind=1 then cK rows[k][u]!.n true (agW u (rows.take k)) else agW u (rows.take k):=by
  unfold agW
  rw [List.take_succ_eq_append_getElem h,List.foldl_append];rfl
theorem avF (m:Su) {rows:List (List Vl)} {k:Nat} (h:k<rows.length):jZ m (rows.take (k+1))=if rows[k][m.by_.toNat]!.kind=1 then cK rows[k][m.by_.toNat]!.n ((bT rows[k][m.by_.toNat]!.n (jZ m (rows.take k))).getD 0+rows[k][m.col.toNat]!.n) (jZ m (rows.take k)) else jZ m (rows.take k):=by
  unfold jZ
  rw [List.take_succ_eq_append_getElem h,List.foldl_append];rfl
def pwU (u:Nat) (rows:List (List Vl)):Prop:=rows.Pairwise fun x y=>wQ u x y=false
theorem asE {u:Nat} {rows:List (List Vl)} {k:Nat} (h:k<rows.length):pwU u (rows.take (k+1))↔pwU u (rows.take k)∧(rows[k][u]!.kind=1→((rows.take k).any fun r=>decide (r[u]!.kind=1)&&decide (r[u]!.n=rows[k][u]!.n))=false):=by
  unfold pwU
  rw [List.take_succ_eq_append_getElem h,List.pairwise_append]
  constructor
  · rintro ⟨h1,_,h3⟩
    refine ⟨h1,fun hk=> ?_⟩
    rw [List.any_eq_false]
    intro x hx q
    have:=h3 x hx rows[k] (by simp)
    unfold wQ at this
    simp only [Bool.and_eq_true,decide_eq_true_eq] at q
    rw [decide_eq_true q.1,decide_eq_true hk,decide_eq_true q.2] at this
    cases this
  · rintro ⟨h1,h2⟩
    refine ⟨h1,List.pairwise_singleton ..,fun x hx y hy=> ?_⟩
    rw [List.mem_singleton] at hy
    subst hy
    by_cases hk:rows[k][u]!.kind=1
    · have:=List.any_eq_false.1 (h2 hk) x hx
      unfold wQ
      rw [decide_eq_true hk]
      simpa using this
    · unfold wQ
      rw [decide_eq_false hk];simp
theorem acB {t:Tb} {rows:List (List Vl)} (h:∀j (hj:j<t.unique.length),pwU t.unique[j].toNat rows):fW t rows=true:=by
  unfold fW
  rw [List.all_eq_true]
  intro u hu
  obtain ⟨j,hj,rfl⟩:=List.getElem_of_mem hu
  exact decide_eq_true (h j hj)
theorem ajZ {t:Tb} {rows:List (List Vl)} {j k:Nat} (hj:j<t.unique.length) (h:¬pwU t.unique[j].toNat (rows.take k)):fW t rows=false:=by
  unfold fW
  rw [←Bool.not_eq_true,List.all_eq_true]
  intro q
  exact h ((of_decide_eq_true (q _ (List.getElem_mem hj))).sublist (List.take_sublist ..))
theorem uJ {f:Nat→Int} {n i:Nat} (h:i<n) (h1:∀j<i,f j=0) (h2:f i≠0):cC f (List.range n)=f i:=by
  have:=zZ (f:=f) (l:=List.range n) (i:=i) (by simpa using h) (fun j hj=>by rw [List.getElem_range];exact h1 j hj) (by rw [List.getElem_range];exact h2)
  rwa [List.getElem_range] at this
theorem nE {f:Nat→Int} {n:Nat} (h:∀j<n,f j=0):cC f (List.range n)=0:=iM.2 fun j hj=>h j (List.mem_range.1 hj)
theorem eB {α:Type} {f:α→Int} {l:List α} (h:∀j (hj:j<l.length),f l[j]=0):cC f l=0:=iM.2 fun x hx=>by
  obtain ⟨j,hj,rfl⟩:=List.getElem_of_mem hx
  exact h j hj
theorem gN {α:Type} {f:α→Int} {l:List α} {i:Nat} (hI:∀j (h:j<l.length),j<i→f l[j]=0) (h:i<l.length) (hf:f l[i]=0):∀j (h:j<l.length),j<i+1→f l[j]=0:=fun j hj hji=>by
  rcases Nat.lt_succ_iff_lt_or_eq.1 hji with q|q
  · exact hI j hj q
  · subst q;exact hf
theorem gO {α:Type} {f:α→Int} {l:List α} {i:Nat} (hI:∀j (h:j<l.length),j<i→f l[j]=0) (h:i<l.length) (hf:f l[i]≠0):cC f l=f l[i]:=zZ h (fun j hj=>hI j (by omega) hj) hf
end
end Go.Proofs.YtcglimangneafaaGreatDoor
