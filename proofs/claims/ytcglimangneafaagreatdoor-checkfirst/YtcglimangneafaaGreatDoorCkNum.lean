import Derived.Test.YtcglimangneafaaGreatDoorBsMap
import Derived.Test.YtcglimangneafaaGreatDoorBsPutS
set_option linter.unusedSimpArgs false
set_option linter.unusedVariables false
namespace Go.Proofs.YtcglimangneafaaGreatDoor
open Go Go.Abs
structure FrOK (s:Sc) (t:Tb) (f:Fr):Prop where
  c1:1≤f.col
  c2:f.col<t.cols.length
  t1:0≤f.table
  t2:f.table<s.length
  act:f.act=0∨f.act=1∨f.act=2
  kind:t.cols[f.col.toNat]!.kind=0
  typ:t.cols[f.col.toNat]!.type_=1
theorem afM {h b p a n z:Bool} (e:adU h b p a n z=0):h=true∧b=false∧p=false∧a=false∧n=true∧z=false:=by
  unfold adU at e
  cases h<;>cases b<;>cases p<;>cases a<;>cases n<;>cases z<;>simp at e⊢
theorem auV {s:Sc} (h:cC s=0) {k:Nat} (hk:k<s.length) {i:Nat} (hi:i<s[k].foreign.length):afQ s.length s[k] i=0:=by
  have:=eJ h hk (lk5 s.length s[k]!) (by simp [lks])
  rw [getElem!_pos s k hk] at this
  exact lB this hi
theorem aqH {s:Sc} (h:cC s=0) {k:Nat} (hk:k<s.length) {f:Fr} (hf:f∈s[k].foreign):FrOK s s[k] f:=by
  obtain ⟨i,hi,rfl⟩:=List.getElem_of_mem hf
  have e:=afM (auV h hk hi)
  rw [getElem!_pos s[k].foreign i hi] at e
  obtain ⟨e1,e2,_,e4,e5,_⟩:=e
  unfold lZ at e1
  unfold jY jA at e5
  simp only [Bool.and_eq_true,decide_eq_true_eq,Bool.or_eq_false_iff,decide_eq_false_iff_not] at e1 e2 e4 e5
  exact ⟨by omega,e1.2,by omega,by omega,by omega,e5.1,e5.2⟩
theorem amO {s:Sc} (h:cC s=0):s.length≤16:=by
  unfold cC at h
  split at h
  · cases h
  · omega
theorem pC {s:Sc} (h:cC s=0) {k:Nat} (hk:k<s.length):s[k].foreign.length≤16:=by
  have:=eJ h hk (lk1 s[k]!) (by simp [lks])
  rw [getElem!_pos s k hk] at this
  unfold lk1 at this
  split at this
  · cases this
  · omega
variable {tx:Cl→Int}
structure LineOK (tx:Cl→Int) (t:Tb) (l:Ln):Prop where
  k1:0≤l.key
  k2:l.key<1073741824
  len:l.cells_.length=t.cols.length
  kind:∀j (h:j<l.cells_.length),l.cells_[j].kind=t.cols[j]!.kind
  cell:∀c∈l.cells_,tQ tx c=true
  zero:l.cells_[0]!.val=⟨1,l.key,e0⟩
  dots:ahO l.by_=true
theorem ahP {t:Tb} {l:Ln}:iN tx t l=true↔LineOK tx t l:=by
  unfold iN oH
  simp only [Bool.and_eq_true,decide_eq_true_eq,qE]
  constructor
  · rintro ⟨⟨⟨h1,h2,h3⟩,h4⟩,h5,h6⟩
    have hc:∀j (h:j<l.cells_.length),l.cells_[j].kind=t.cols[j]!.kind∧tQ tx l.cells_[j]=true:=fun j hj=>by
      have:=h5 j hj
      unfold sU at this
      rw [getElem!_pos l.cells_ j hj,Bool.and_eq_true,decide_eq_true_eq] at this
      exact this
    exact ⟨h1,h2,h3,fun j hj=>(hc j hj).1,fun c hc'=>by obtain ⟨j,hj,rfl⟩:=List.getElem_of_mem hc';exact (hc j hj).2,h4,h6⟩
  · rintro ⟨h1,h2,h3,h4,h5,h6,h7⟩
    refine ⟨⟨⟨h1,h2,h3⟩,h6⟩,fun j hj=> ?_,h7⟩
    unfold sU
    rw [getElem!_pos l.cells_ j hj,h4 j hj,decide_eq_true rfl,h5 _ (List.getElem_mem hj)];rfl
theorem yE {s:Sc} {b:Bs} (h:cY tx s b=true) {k:Nat} (hk:k<b.length) {l:Ln} (hl:l∈b[k].lines):LineOK tx s[k]! l:=by
  have:=(cA.1 h).2 k hk
  rw [getElem!_pos b k hk] at this
  exact ahP.1 ((fG.1 this).2.1 l hl)
theorem ajX {s:Sc} {b:Bs} (h:cY tx s b=true):∀k<b.length,KSort b[k]!.lines:=fun k hk=>(fG.1 ((cA.1 h).2 k hk)).2.2
end Go.Proofs.YtcglimangneafaaGreatDoor
namespace Go.Proofs.YtcglimangneafaaGreatDoor
open Go Go.Abs
def dD {α:Type} (f:α→Int) (l:List α):Int:=(l.find? fun x=>decide (f x≠0)).elim 0 f
theorem eV {α:Type} {f:α→Int} {l:List α}:dD f l=0↔∀x∈l,f x=0:=by
  unfold dD
  cases e:l.find? fun x=>decide (f x≠0) with
  |none=>
    have:=List.find?_eq_none.1 e
    simp at this
    exact ⟨fun _=>this,fun _=>rfl⟩
  |some x=>
    have h1:=List.find?_some e
    have h2:=List.mem_of_find?_eq_some e
    simp at h1
    exact ⟨fun h=>absurd h h1,fun h=>absurd (h x h2) h1⟩
theorem iK {α:Type} (f:α→Int) (x:α) (l:List α):dD f (x::l)=if f x=0 then dD f l else f x:=by
  unfold dD
  rw [List.find?_cons]
  by_cases h:f x=0
  · simp [h]
  · simp [h]
theorem yV {α:Type} {f:α→Int}:∀{l:List α} {i:Nat} (h:i<l.length),(∀j (hj:j<i),f (l[j]'(by omega))=0)→f l[i]≠0→dD f l=f l[i]
  |x::l,0,_,_,h2=>by rw [iK];exact if_neg h2
  |x::l,i+1,h,h1,h2=>by
    rw [iK,if_pos (show f x=0 from h1 0 (by omega))]
    exact yV (l:=l) (Nat.lt_of_succ_lt_succ h) (fun j hj=>h1 (j+1) (by omega)) h2
section
variable (sh:Cl→Vl) (ex:Tb→List Vl→Int)
def fT (l:Ln):List Vl:=l.cells_.map sh
def bJ (b:Bs) (k:Int):List (List Vl):=(aR b k).map (fT sh)
def dO (c:Co):Int:=if c.kind=0∨c.kind=1 then c.type_ else if c.kind=2∨c.kind=3 then 1 else if c.kind=4 then 2 else 0
def wP (c:Co) (v:Vl):Int:=if fF v=false then 1 else if v.kind=0∧(c.kind=0∨c.kind=1)∧c.null=false then 7 else if v.kind≠0∧v.kind≠dO c then 6 else 0
def eW (t:Tb) (r:List Vl):Int:=if t.cols.length=r.length then dD (fun k=>wP t.cols[k]! r[k]!) (List.range r.length) else 1
def jE (u:Nat) (x y:List Vl):Bool:=(decide (x[u]!.kind=1)&&decide (y[u]!.kind=1))&&decide (x[u]!.n=y[u]!.n)
def fI (t:Tb) (rows:List (List Vl)):Bool:=t.unique.all fun u=>decide (rows.Pairwise fun x y=>jE u.toNat x y=false)
def mA (b:Bs) (t:Tb) (rows:List (List Vl)):Bool:=t.foreign.all fun f=>rows.all fun r=> !decide (r[f.col.toNat]!.kind=1)||(dQ (aR b f.table) r[f.col.toNat]!.n).isSome
def oM (m:Su) (g:Int) (r:List Vl):Int:=if r[m.by_.toNat]!.kind=1∧r[m.by_.toNat]!.n=g∧r[m.col.toNat]!.kind=1 then r[m.col.toNat]!.n else 0
def eP (m:Su) (g:Int) (rows:List (List Vl)):Int:=(rows.map (oM m g)).sum
def yW (m:Su) (r:List Vl):Bool:=decide (r[m.col.toNat]!.kind=1)&&decide (r[m.col.toNat]!.n<0)
def mN (t:Tb) (rows:List (List Vl)):Bool:=t.sums.all fun m=>rows.all fun r=> !yW m r&&(!decide (r[m.by_.toNat]!.kind=1)||decide (eP m r[m.by_.toNat]!.n rows≤m.max))
def ckT (b:Bs) (t:Tb) (rows:List (List Vl)):Int:=
  if dD (eW t) rows≠0 then dD (eW t) rows else if fI t rows=false then 8 else if dD (ex t) rows≠0 then dD (ex t) rows else if mA b t rows=false then 10 else if mN t rows=false then 11 else 0
def ckW (s:Sc) (b:Bs):Int:=dD (fun k:Nat=>ckT ex b s[k]! (bJ sh b k)) (List.range s.length)
structure GoodT (b:Bs) (t:Tb) (rows:List (List Vl)):Prop where
  typ:∀r∈rows,eW t r=0
  uniq:∀u∈t.unique,rows.Pairwise fun x y=>jE u.toNat x y=false
  chk:∀r∈rows,ex t r=0
  frn:∀f∈t.foreign,∀r∈rows,r[f.col.toNat]!.kind=1→(dQ (aR b f.table) r[f.col.toNat]!.n).isSome=true
  neg:∀m∈t.sums,∀r∈rows,yW m r=false
  max:∀m∈t.sums,∀r∈rows,r[m.by_.toNat]!.kind=1→eP m r[m.by_.toNat]!.n rows≤m.max
variable {sh} {ex}
theorem abZ {b:Bs} {t:Tb} {rows:List (List Vl)}:ckT ex b t rows=0↔GoodT ex b t rows:=by
  have hu:fI t rows=true↔∀u∈t.unique,rows.Pairwise fun x y=>jE u.toNat x y=false:=by
    unfold fI;rw [List.all_eq_true];simp only [decide_eq_true_eq]
  have hf:mA b t rows=true↔∀f∈t.foreign,∀r∈rows,r[f.col.toNat]!.kind=1→(dQ (aR b f.table) r[f.col.toNat]!.n).isSome=true:=by
    unfold mA;simp only [List.all_eq_true,Bool.or_eq_true,Bool.not_eq_true',decide_eq_false_iff_not]
    exact ⟨fun h f hf r hr hk=>(h f hf r hr).resolve_left fun q=>q hk,fun h f hf r hr=>by
      by_cases hk:r[f.col.toNat]!.kind=1
      · exact .inr (h f hf r hr hk)
      · exact .inl hk⟩
  have hs:mN t rows=true↔(∀m∈t.sums,∀r∈rows,yW m r=false)∧∀m∈t.sums,∀r∈rows,r[m.by_.toNat]!.kind=1→eP m r[m.by_.toNat]!.n rows≤m.max:=by
    unfold mN;simp only [List.all_eq_true,Bool.and_eq_true,Bool.or_eq_true,Bool.not_eq_true',decide_eq_false_iff_not,decide_eq_true_eq]
    exact ⟨fun h=>⟨fun m hm r hr=>(h m hm r hr).1,fun m hm r hr hk=>(h m hm r hr).2.resolve_left fun q=>q hk⟩,fun h m hm r hr=>⟨h.1 m hm r hr,by
      by_cases hk:r[m.by_.toNat]!.kind=1
      · exact .inr (h.2 m hm r hr hk)
      · exact .inl hk⟩⟩
  unfold ckT
  constructor
  · intro h
    by_cases h1:dD (eW t) rows=0
    rotate_left
    · rw [if_pos h1] at h;exact absurd h h1
    rw [if_neg (fun q=>q h1)] at h
    cases h2:fI t rows with
    |false=>rw [if_pos h2] at h;cases h
    |true=>
    rw [if_neg (by rw [h2];simp)] at h
    by_cases h3:dD (ex t) rows=0
    rotate_left
    · rw [if_pos h3] at h;exact absurd h h3
    rw [if_neg (fun q=>q h3)] at h
    cases h4:mA b t rows with
    |false=>rw [if_pos h4] at h;cases h
    |true=>
    rw [if_neg (by rw [h4];simp)] at h
    cases h5:mN t rows with
    |false=>rw [if_pos h5] at h;cases h
    |true=>exact ⟨eV.1 h1,hu.1 h2,eV.1 h3,hf.1 h4,(hs.1 h5).1,(hs.1 h5).2⟩
  · intro h
    rw [if_neg (fun q=>q (eV.2 h.typ)),if_neg (by rw [hu.2 h.uniq];simp),if_neg (fun q=>q (eV.2 h.chk)),if_neg (by rw [hf.2 h.frn];simp),if_neg (by rw [hs.2 ⟨h.neg,h.max⟩];simp)]
theorem mU {s:Sc} {b:Bs}:ckW sh ex s b=0↔∀k<s.length,GoodT ex b s[k]! (bJ sh b k):=by
  unfold ckW
  rw [eV]
  exact ⟨fun h k hk=>abZ.1 (h k (List.mem_range.2 hk)),fun h k hk=>abZ.2 (h k (List.mem_range.1 hk))⟩
theorem aiA {m:Su} {g:Int} {r r':List (List Vl)} (h:List.Sublist r' r) (hn:∀x∈r,yW m x=false):eP m g r'≤eP m g r:=by
  have hp:∀x∈r,0≤oM m g x:=fun x hx=>by
    have:=hn x hx
    unfold yW at this
    unfold oM
    split
    · rename_i q
      rw [decide_eq_true q.2.2,Bool.true_and,decide_eq_false_iff_not] at this
      omega
    · exact Int.le_refl _
  clear hn
  induction h with
  |slnil=>exact Int.le_refl _
  | @cons l₁ l₂ a _ ih=>
    have h1:=ih fun x hx=>hp x (List.mem_cons_of_mem _ hx)
    have h2:=hp a (List.mem_cons_self ..)
    unfold eP at*
    rw [List.map_cons,List.sum_cons];omega
  | @cons_cons l₁ l₂ a _ ih=>
    have h1:=ih fun x hx=>hp x (List.mem_cons_of_mem _ hx)
    unfold eP at*
    rw [List.map_cons,List.map_cons,List.sum_cons,List.sum_cons];omega
theorem GoodT.less {b b':Bs} {t:Tb} {rows rows':List (List Vl)} (h:GoodT ex b t rows) (hs:List.Sublist rows' rows) (hf:∀f∈t.foreign,∀r∈rows',r[f.col.toNat]!.kind=1→(dQ (aR b f.table) r[f.col.toNat]!.n).isSome=true→(dQ (aR b' f.table) r[f.col.toNat]!.n).isSome=true):GoodT ex b' t rows':=
  ⟨fun r hr=>h.typ r (hs.subset hr),fun u hu=>(h.uniq u hu).sublist hs,fun r hr=>h.chk r (hs.subset hr),fun f hf' r hr hk=>hf f hf' r hr hk (h.frn f hf' r (hs.subset hr) hk),fun m hm r hr=>h.neg m hm r (hs.subset hr),fun m hm r hr hk=>Int.le_trans (aiA hs (h.neg m hm)) (h.max m hm r (hs.subset hr) hk)⟩
theorem rG (L:List Ln) (key:Int):List.Sublist (gR L key) L:=by
  unfold gR
  split
  · exact List.eraseIdx_sublist ..
  · exact List.Sublist.refl _
theorem agC {b:Bs} {k k':Int} (h:k'≠k) (ls:List Ln):aR (gZ b k ls) k'=aR b k':=by
  unfold aR
  rw [ahV]
  unfold gZ
  cases hk:okT b k with
  |false=>rfl
  |true=>
    rw [if_pos rfl]
    cases hk':okT b k' with
    |false=>rfl
    |true=>
      simp only [okT,Bool.and_eq_true,decide_eq_true_eq] at hk hk'
      rw [if_pos rfl,if_pos rfl,getElem!_pos _ k'.toNat (by rw [List.length_set];omega),getElem!_pos b k'.toNat (by omega),List.getElem_set_ne (by omega)]
theorem oY {b:Bs} {table key k:Int}:aR (kG b table key) k=if k=table then gR (aR b k) key else aR b k:=by
  rw [aiC]
  by_cases ht:okT b table=true
  · by_cases hk:k=table
    · subst hk;rw [if_pos rfl,nS ht]
    · rw [if_neg hk,agC hk]
  · have ht:okT b table=false:=by simpa using ht
    have e:gZ b table (gR (aR b table) key)=b:=by unfold gZ;rw [ht];rfl
    rw [e]
    split
    · rename_i hk
      subst hk
      rw [uX ht]
      exact (List.sublist_nil.1 (rG [] key)).symm
    · rfl
theorem amM {tx:Cl→Int} {s:Sc} {b:Bs} (h:cY tx s b=true) (k key:Int):cY tx s (kG b k key)=true:=by
  rw [aiC]
  cases hk:okT b k with
  |false=>unfold gZ;rw [hk];exact h
  |true=>rw [alE h hk];exact aeB (ahF h hk) key
theorem asR {tx:Cl→Int} {s:Sc} {b:Bs} (hg:cY tx s b=true) (h:ckW sh ex s b=0) {table key:Int} (hno:∀k<s.length,∀f∈s[k]!.foreign,f.table=table→∀r∈bJ sh b k,¬(r[f.col.toNat]!.kind=1∧r[f.col.toNat]!.n=key)):ckW sh ex s (kG b table key)=0:=by
  refine mU.2 fun k hk=>(mU.1 h k hk).less ?_ fun f hf r hr hk1 hi=> ?_
  · unfold bJ
    rw [oY]
    split
    · exact (rG _ _).map _
    · exact List.Sublist.refl _
  · rw [oY]
    split
    · rename_i e
      have hn:r[f.col.toNat]!.n≠key:=fun q=>hno k hk f hf e r (by
        unfold bJ at hr⊢
        rw [oY] at hr
        split at hr
        · exact ((rG _ _).map _).subset hr
        · exact hr) ⟨hk1,q⟩
      rw [afZ (tC hg _) hn];exact hi
    · exact hi
end
end Go.Proofs.YtcglimangneafaaGreatDoor
namespace Go.Proofs.YtcglimangneafaaGreatDoor
open Go Go.Abs
section
variable {sh:Cl→Vl} {ex:Tb→List Vl→Int} {tx:Cl→Int}
theorem ayA {s:Sc} (h:cC s=0) {k:Nat} (hk:k<s.length):s[k].cols[0]!.kind=0∧1≤s[k].cols.length:=by
  have h3:=eJ h hk (lk3 s[k]!) (by simp [lks])
  have h1:=eJ h hk (lk1 s[k]!) (by simp [lks])
  rw [getElem!_pos s k hk] at h1 h3
  unfold lk1 at h1
  unfold lk3 at h3
  split at h1
  · cases h1
  · split at h3
    · cases h3
    · rename_i q1 q2
      rw [not_or] at q2
      have:jY s[k].cols[0]! =true:=by simpa using q2.1
      unfold jY at this
      rw [Bool.and_eq_true,decide_eq_true_eq] at this
      exact ⟨this.1,by omega⟩
theorem ahJ (hsh:∀c:Cl,c.kind=0→sh c=c.val) {s:Sc} {b:Bs} (hg:cY tx s b=true) {k:Nat} (hk:k<s.length) {l:Ln} (hl:l∈aR b k):(fT sh l)[0]! =⟨1,l.key,e0⟩∧(fT sh l).length=s[k].cols.length:=by
  obtain ⟨⟨h1,h2⟩,_⟩:=cA.1 hg
  have hkb:k<b.length:=by omega
  have hl:l∈b[k].lines:=by
    unfold aR okT at hl
    rw [if_pos (by simp;omega),Int.toNat_natCast,getElem!_pos b k hkb] at hl
    exact hl
  have hL:=yE hg hkb hl
  rw [getElem!_pos s k hk] at hL
  obtain ⟨c0,c1⟩:=ayA h1 hk
  have hlen:=hL.len
  have h0:0<l.cells_.length:=by omega
  refine ⟨?_,by unfold fT;rw [zql];exact hlen⟩
  have hz:=hL.zero
  rw [getElem!_pos l.cells_ 0 h0] at hz
  unfold fT
  rw [getElem!_pos _ 0 (by rw [zql];exact h0),List.getElem_map,hsh _ (by rw [hL.kind 0 h0];exact c0),hz]
theorem auJ (hsh:∀c:Cl,c.kind=0→sh c=c.val) {s:Sc} {b:Bs} (hg:cY tx s b=true) {k:Nat} (hk:k<s.length) {i j:Nat} (hij:i<j) (hj:j<(aR b k).length):(fT sh ((aR b k)[i]'(by omega)))[0]!.n<(fT sh (aR b k)[j])[0]!.n:=by
  rw [(ahJ hsh hg hk (List.getElem_mem _)).1,(ahJ hsh hg hk (List.getElem_mem _)).1]
  exact (tC hg k).at hij hj
theorem GoodT.apart {b:Bs} {t:Tb} {rows:List (List Vl)} (h:GoodT ex b t rows) {u:Int} (hu:u∈t.unique) {i j:Nat} (hij:i<j) (hj:j<rows.length) (hk:(rows[i]'(by omega))[u.toNat]!.kind=1):(rows[i]'(by omega))[u.toNat]!≠rows[j][u.toNat]!:=fun e=>by
  have:=List.pairwise_iff_getElem.1 (h.uniq u hu) i j (by omega) hj hij
  unfold jE at this
  rw [←e,hk] at this
  simp at this
theorem atS (m:Su) (g:Int) (x:List Vl) (a c:List (List Vl)):eP m g (a++x::c)=eP m g (a++c)+oM m g x:=by
  unfold eP
  simp only [List.map_append,List.map_cons,List.sum_append,List.sum_cons]
  omega
theorem axN {m:Su} {g:Int} {r:List (List Vl)} (hn:∀x∈r,yW m x=false):0≤eP m g r:=by
  have:=aiA (m:=m) (g:=g) (List.nil_sublist r) hn
  simpa [eP] using this
theorem adW {m:Su} {g:Int}:∀{r:List (List Vl)},(∀x∈r,¬(x[m.by_.toNat]!.kind=1∧x[m.by_.toNat]!.n=g))→eP m g r=0
  |[],_=>rfl
  |x::r,h=>by
    have h1:=adW (m:=m) (g:=g) fun y hy=>h y (List.mem_cons_of_mem _ hy)
    have h2:oM m g x=0:=by
      unfold oM
      rw [if_neg fun q=>h x (List.mem_cons_self ..) ⟨q.1,q.2.1⟩]
    unfold eP at*
    rw [List.map_cons,List.sum_cons,h2,h1];rfl
theorem GoodT.tot {b:Bs} {t:Tb} {rows:List (List Vl)} (h:GoodT ex b t rows) {m:Su} (hm:m∈t.sums) (h0:0≤m.max) (g:Int):0≤eP m g rows∧eP m g rows≤m.max:=by
  refine ⟨axN (h.neg m hm), ?_⟩
  by_cases hx:∃x∈rows,x[m.by_.toNat]!.kind=1∧x[m.by_.toNat]!.n=g
  · obtain ⟨x,hx,h1,h2⟩:=hx
    rw [←h2];exact h.max m hm x hx h1
  · rw [adW fun x hx' q=>hx ⟨x,hx',q⟩];exact h0
theorem GoodT.nil {b:Bs} {t:Tb}:GoodT ex b t []:=⟨fun _ h=>(by cases h),fun _ _=> .nil,fun _ h=>(by cases h),fun _ _ _ h=>(by cases h),fun _ _ _ h=>(by cases h),fun _ _ _ h=>(by cases h)⟩
end
end Go.Proofs.YtcglimangneafaaGreatDoor
namespace Go.Proofs.YtcglimangneafaaGreatDoor
open Go Go.Abs
section
variable {sh:Cl→Vl} {ex:Tb→List Vl→Int} {tx:Cl→Int}
theorem aoL {L:List Ln} (h:KSort L) {a:Ln} (hn:dQ L a.key=none):∃i,pR L a=L.take i++a::L.drop i:=by
  unfold pR
  rcases pO L a.key with ⟨j,hj,e,_,hk,_⟩|⟨j,hj,e,_,hk,_,_⟩
  · have:=(nO h).2 ⟨List.getElem_mem hj,hk⟩
    rw [hn] at this;cases this
  · refine ⟨j, ?_⟩
    rw [e,if_neg (by simp),Int.toNat_natCast]
    unfold dA
    simp
theorem atM {b:Bs} {k:Int} (hk:okT b k=true) (h:KSort (aR b k)) {a:Ln} (hn:dQ (aR b k) a.key=none) (m:Su) (g:Int):eP m g (bJ sh (iR b k a) k)=eP m g (bJ sh b k)+oM m g (fT sh a):=by
  obtain ⟨i,e⟩:=aoL h hn
  unfold bJ
  rw [jB,nS hk,e,List.map_append,List.map_cons,atS,←List.map_append,List.take_append_drop]
theorem arL {b b':Bs} {t t':Tb} {rows:List (List Vl)} (h1:t'.cols=t.cols) (h2:t'.unique=t.unique) (h3:t'.foreign=t.foreign) (h4:t'.sums=t.sums) (h5:ex t'=ex t) (hf:∀f∈t.foreign,aR b' f.table=aR b f.table):ckT ex b' t' rows=ckT ex b t rows:=by
  have e1:eW t'=eW t:=by funext r;unfold eW;rw [h1]
  have e2:fI t' rows=fI t rows:=by unfold fI;rw [h2]
  have e3:mA b' t' rows=mA b t rows:=by
    unfold mA
    rw [h3,Bool.eq_iff_iff]
    simp only [List.all_eq_true]
    exact ⟨fun q f hf' r hr=>by rw [←hf f hf'];exact q f hf' r hr,fun q f hf' r hr=>by rw [hf f hf'];exact q f hf' r hr⟩
  have e4:mN t' rows=mN t rows:=by unfold mN;rw [h4]
  unfold ckT
  rw [e1,e2,e3,e4,h5]
theorem amR {s s':Sc} {b b':Bs} {t:Tb} (hs:s=[t]) (hs':∃u,s'=t::u) (hr:bJ sh b' 0=bJ sh b 0) (hf:∀f∈t.foreign,aR b' f.table=aR b f.table) (hne:ckW sh ex s b≠0):ckW sh ex s' b'=ckW sh ex s b:=by
  obtain ⟨u,rfl⟩:=hs'
  subst hs
  have e0:ckW sh ex [t] b=ckT ex b t (bJ sh b 0):=by
    unfold ckW
    show dD _ [0]=_
    rw [iK]
    show (if ckT ex b t (bJ sh b 0)=0 then dD _ [] else ckT ex b t (bJ sh b 0))=_
    split
    · rename_i q;rw [q];rfl
    · rfl
  rw [e0] at hne⊢
  unfold ckW
  rw [show (t::u).length=u.length+1 from rfl,List.range_succ_eq_map,iK]
  have e1:ckT ex b' t (bJ sh b' 0)=ckT ex b t (bJ sh b 0):=by rw [hr];exact arL rfl rfl rfl rfl rfl hf
  show (if ckT ex b' t (bJ sh b' 0)=0 then _ else ckT ex b' t (bJ sh b' 0))=_
  rw [e1,if_neg hne]
end
end Go.Proofs.YtcglimangneafaaGreatDoor
namespace Go.Proofs.YtcglimangneafaaGreatDoor
open Go Go.Abs
section
variable {tx:Cl→Int} {sh:Cl→Vl}
structure SuOK (t:Tb) (m:Su):Prop where
  c1:1≤m.col
  c2:m.col<t.cols.length
  b1:1≤m.by_
  b2:m.by_<t.cols.length
  m0:0≤m.max
  m1:m.max≤1099511627776
  kc:t.cols[m.col.toNat]!.kind=0
  kb:t.cols[m.by_.toNat]!.kind=0
structure UnOK (t:Tb) (u:Int):Prop where
  c1:1≤u
  c2:u<t.cols.length
  kc:t.cols[u.toNat]!.kind=0
theorem aeK {h a n p:Bool} (e:adN h a n p=0):h=true∧a=false∧n=true:=by
  unfold adN at e
  cases h<;>cases a<;>cases n<;>cases p<;>simp at e⊢
theorem agQ {h p n:Bool} (e:acR h p n=0):h=true∧n=true:=by
  unfold acR at e
  cases h<;>cases n<;>cases p<;>simp at e⊢
theorem anU {s:Sc} (h:cC s=0) {k:Nat} (hk:k<s.length) {m:Su} (hm:m∈s[k].sums):SuOK s[k] m:=by
  obtain ⟨i,hi,rfl⟩:=List.getElem_of_mem hm
  have:=eJ h hk (lk6 s[k]!) (by simp [lks])
  rw [getElem!_pos s k hk] at this
  have e:acJ s[k] i=0:=lB this hi
  unfold acJ at e
  rw [getElem!_pos s[k].sums i hi] at e
  obtain ⟨e1,e2,e3⟩:=aeK e
  unfold lZ at e1
  unfold jY jA at e3
  simp only [Bool.and_eq_true,decide_eq_true_eq,Bool.or_eq_false_iff,decide_eq_false_iff_not] at e1 e2 e3
  exact ⟨e1.1.1,e1.1.2,e1.2.1,e1.2.2,by omega,by omega,e3.1.1,e3.2.1⟩
theorem avR {s:Sc} (h:cC s=0) {k:Nat} (hk:k<s.length) {u:Int} (hu:u∈s[k].unique):UnOK s[k] u:=by
  obtain ⟨i,hi,rfl⟩:=List.getElem_of_mem hu
  have:=eJ h hk (lk4 s[k]!) (by simp [lks])
  rw [getElem!_pos s k hk] at this
  have e:abD s[k] i=0:=lB this hi
  unfold abD at e
  rw [getElem!_pos s[k].unique i hi] at e
  obtain ⟨e1,e2⟩:=agQ e
  unfold lZ at e1
  unfold jY jA at e2
  simp only [Bool.and_eq_true,decide_eq_true_eq] at e1 e2
  exact ⟨e1.1,e1.2,e2.1⟩
theorem iL {b:Bs} {k:Nat} (hk:k<b.length):aR b k=b[k].lines:=by
  unfold aR okT
  rw [if_pos (by simp;omega),Int.toNat_natCast,getElem!_pos b k hk]
structure RwOK (t:Tb) (r:List Vl):Prop where
  len:r.length=t.cols.length
  num:∀j<t.cols.length,t.cols[j]!.kind=0→fF r[j]! =true
theorem rO (hsh:∀c:Cl,c.kind=0→sh c=c.val) {s:Sc} {b:Bs} (hg:cY tx s b=true) {k:Nat} (hk:k<s.length) {r:List Vl} (hr:r∈bJ sh b k):RwOK s[k] r:=by
  obtain ⟨⟨h1,h2⟩,_⟩:=cA.1 hg
  have hkb:k<b.length:=by omega
  obtain ⟨l,hl,rfl⟩:=List.mem_map.1 hr
  rw [iL hkb] at hl
  have hL:=yE hg hkb hl
  rw [getElem!_pos s k hk] at hL
  have hlen:=hL.len
  refine ⟨by unfold fT;rw [zql];exact hlen,fun j hj h0=> ?_⟩
  have hjc:j<l.cells_.length:=by omega
  have hc:=hL.cell _ (List.getElem_mem hjc)
  have hkd:=hL.kind j hjc
  rw [h0] at hkd
  unfold fT
  rw [getElem!_pos _ j (by rw [zql];exact hjc),List.getElem_map,hsh _ hkd]
  unfold tQ at hc
  rw [if_pos hkd,Bool.and_eq_true] at hc
  exact hc.1
theorem ahC {v:Vl} (h:fF v=true):(-1099511627776≤v.n∧v.n≤1099511627776)∧(v.kind≠1→v.n=0):=by
  unfold fF at h
  split at h
  · simp only [Bool.and_eq_true,decide_eq_true_eq] at h;omega
  · split at h
    · simp only [Bool.and_eq_true,decide_eq_true_eq] at h;omega
    · split at h
      · simp only [Bool.and_eq_true,decide_eq_true_eq] at h;omega
      · cases h
def zP (m:Su) (es:List (Int×Int)) (r:List Vl):List (Int×Int):=if r[m.by_.toNat]!.kind=1 then cS r[m.by_.toNat]!.n ((cD r[m.by_.toNat]!.n es).getD 0+r[m.col.toNat]!.n) es else es
def jW (m:Su) (rows:List (List Vl)):List (Int×Int):=rows.foldl (zP m) []
theorem yR {V:Type} (k k':Int) (v:V):∀(l:List (Int×V)),cD k' (cS k v l)=if k'=k then some v else cD k' l
  |[]=>by simp only [cS,cD]
  |e::l=>by
    have ih:=yR k k' v l
    simp only [cS]
    split
    · rename_i h;simp only [cD];split<;>simp_all
    · rename_i h;simp only [cD,ih];split
      · rename_i h2;rw [if_neg (fun e=>h (by rw [←e,h2]))]
      · rfl
theorem avU {V:Type} {k:Int} {v:V}:∀{l:List (Int×V)},(l.map (·.1)).Nodup→(k,v)∈l→cD k l=some v
  |e::l,hn,h=>by
    simp only [List.map_cons,List.nodup_cons] at hn
    simp only [cD]
    rcases List.mem_cons.1 h with rfl|h
    · rw [if_pos rfl]
    · rw [if_neg (fun q=>hn.1 (List.mem_map.2 ⟨_,h,q⟩))];exact avU hn.2 h
theorem aqN {V:Type} {k:Int} {v:V}:∀{l:List (Int×V)},cD k l=some v→(k,v)∈l
  |[],h=>by simp [cD] at h
  |e::l,h=>by
    simp only [cD] at h
    split at h
    · rename_i q;injection h with h;subst h;rw [q];exact List.mem_cons_self ..
    · exact List.mem_cons_of_mem _ (aqN h)
theorem vV {V:Type} (k:Int) (v:V):∀(l:List (Int×V)),∀k',k'∈(cS k v l).map (·.1)→k'=k∨k'∈l.map (·.1)
  |[],k',h=>by simp [cS] at h;exact .inl h
  |e::l,k',h=>by
    simp only [cS] at h
    split at h
    · rename_i q
      simp only [List.map_cons,List.mem_cons] at h⊢
      rcases h with h|h
      · exact .inl (h.trans (by first|rfl|exact q.symm))
      · exact .inr (.inr h)
    · simp only [List.map_cons,List.mem_cons] at h⊢
      exact h.elim (fun q=> .inr (.inl q)) fun q=>(vV k v l k' q).elim .inl fun q=> .inr (.inr q)
theorem ahU {V:Type} (k:Int) (v:V):∀(l:List (Int×V)),(l.map (·.1)).Nodup→((cS k v l).map (·.1)).Nodup
  |[],_=>by simp [cS]
  |e::l,h=>by
    simp only [List.map_cons,List.nodup_cons] at h
    simp only [cS]
    split
    · rename_i q
      simp only [List.map_cons,List.nodup_cons]
      exact ⟨by first|exact h.1|(rw [q];exact h.1),h.2⟩
    · rename_i q
      simp only [List.map_cons,List.nodup_cons]
      exact ⟨fun x=>(vV k v l _ x).elim (fun y=>q y.symm) h.1,ahU k v l h.2⟩
theorem apR (m:Su):∀(rows:List (List Vl)) (es:List (Int×Int)),(es.map (·.1)).Nodup→((rows.foldl (zP m) es).map (·.1)).Nodup
  |[],_,h=>h
  |r::rows,es,h=>apR m rows _ (by
    unfold zP
    split
    · exact ahU _ _ _ h
    · exact h)
theorem aaQ (m:Su) (g:Int) (r:List Vl) (rows:List (List Vl)):eP m g (r::rows)=oM m g r+eP m g rows:=by unfold eP;rw [List.map_cons,List.sum_cons]
def anZ (m:Su) (rows:List (List Vl)):Prop:=∀r∈rows,r[m.col.toNat]!.kind≠1→r[m.col.toNat]!.n=0
theorem zQ {m:Su} (g:Int):∀{rows:List (List Vl)} (es:List (Int×Int)),anZ m rows→(cD g (rows.foldl (zP m) es)).getD 0=(cD g es).getD 0+eP m g rows
  |[],es,_=>by simp [eP]
  |r::rows,es,h=>by
    have ih:=zQ g (rows:=rows) (zP m es r) fun x hx=>h x (List.mem_cons_of_mem _ hx)
    have h0:=h r (List.mem_cons_self ..)
    rw [List.foldl_cons,ih,aaQ]
    unfold zP oM
    by_cases hk:r[m.by_.toNat]!.kind=1
    · rw [if_pos hk,yR]
      by_cases hg:r[m.by_.toNat]!.n=g
      · rw [if_pos hg.symm,hg]
        by_cases hc:r[m.col.toNat]!.kind=1
        · rw [if_pos ⟨hk,rfl,hc⟩];simp only [Option.getD_some];omega
        · rw [if_neg fun q=>hc q.2.2,h0 hc];simp only [Option.getD_some];omega
      · rw [if_neg (fun q=>hg q.symm),if_neg fun q=>hg q.2.1];omega
    · rw [if_neg hk,if_neg fun q=>hk q.1];omega
theorem adM {m:Su} (g:Int):∀{rows:List (List Vl)} (es:List (Int×Int)),(cD g (rows.foldl (zP m) es)).isSome=true↔((cD g es).isSome=true∨∃r∈rows,r[m.by_.toNat]!.kind=1∧r[m.by_.toNat]!.n=g)
  |[],es=>by simp
  |r::rows,es=>by
    rw [List.foldl_cons,adM g (rows:=rows) (zP m es r)]
    unfold zP
    by_cases hk:r[m.by_.toNat]!.kind=1
    · rw [if_pos hk,yR]
      by_cases hg:g=r[m.by_.toNat]!.n
      · rw [if_pos hg]
        exact ⟨fun _=> .inr ⟨r,List.mem_cons_self ..,hk,hg.symm⟩,fun _=> .inl rfl⟩
      · rw [if_neg hg]
        constructor
        · rintro (q|⟨x,hx,q⟩)
          · exact .inl q
          · exact .inr ⟨x,List.mem_cons_of_mem _ hx,q⟩
        · rintro (q|⟨x,hx,q⟩)
          · exact .inl q
          · rcases List.mem_cons.1 hx with rfl|hx
            · exact absurd q.2.symm hg
            · exact .inr ⟨x,hx,q⟩
    · rw [if_neg hk]
      constructor
      · rintro (q|⟨x,hx,q⟩)
        · exact .inl q
        · exact .inr ⟨x,List.mem_cons_of_mem _ hx,q⟩
      · rintro (q|⟨x,hx,q⟩)
        · exact .inl q
        · rcases List.mem_cons.1 hx with rfl|hx
          · exact absurd q.1 hk
          · exact .inr ⟨x,hx,q⟩
def nY (m:Su) (rows:List (List Vl)):Bool:=rows.all fun r=>decide (r[m.col.toNat]!.n≥0)
theorem ajK {m:Su} {rows:List (List Vl)} (h:anZ m rows):(nY m rows&&(jW m rows).all fun e=>decide (e.2≤m.max))=rows.all fun r=> !yW m r&&(!decide (r[m.by_.toNat]!.kind=1)||decide (eP m r[m.by_.toNat]!.n rows≤m.max)):=by
  have hget:=fun g=>zQ (m:=m) g (rows:=rows) [] h
  have hsome:=fun g=>adM (m:=m) g (rows:=rows) []
  have hnd:=apR m rows [] (by simp)
  change ∀g,(cD g (jW m rows)).getD 0=_ at hget
  change ∀g,(cD g (jW m rows)).isSome=true↔_ at hsome
  change ((jW m rows).map (·.1)).Nodup at hnd
  simp only [cD,Option.getD_none,Option.isSome_none,Bool.false_eq_true,false_or] at hget hsome
  rw [Bool.eq_iff_iff,Bool.and_eq_true]
  unfold nY
  simp only [List.all_eq_true,Bool.and_eq_true,Bool.or_eq_true,Bool.not_eq_true',decide_eq_true_eq,decide_eq_false_iff_not]
  have hneg:∀r∈rows,yW m r=false↔r[m.col.toNat]!.n≥0:=fun r hr=>by
    unfold yW
    by_cases hc:r[m.col.toNat]!.kind=1
    · rw [decide_eq_true hc,Bool.true_and,decide_eq_false_iff_not];omega
    · rw [decide_eq_false hc,h r hr hc];simp
  constructor
  · rintro ⟨h1,h2⟩ r hr
    refine ⟨(hneg r hr).2 (h1 r hr), ?_⟩
    by_cases hk:r[m.by_.toNat]!.kind=1
    · right
      have hs:=(hsome r[m.by_.toNat]!.n).2 ⟨r,hr,hk,rfl⟩
      obtain ⟨v,hv⟩:=Option.isSome_iff_exists.1 hs
      have:=h2 _ (aqN hv)
      have e:=hget r[m.by_.toNat]!.n
      rw [hv] at e
      simp only [Option.getD_some] at e this
      omega
    · exact .inl hk
  · intro q
    refine ⟨fun r hr=>(hneg r hr).1 (q r hr).1,fun e he=> ?_⟩
    obtain ⟨k,v⟩:=e
    have hv:=avU hnd he
    have e:=hget k
    rw [hv] at e
    simp only [Option.getD_some] at e⊢
    obtain ⟨r,hr,hk,rfl⟩:=(hsome k).1 (by rw [hv];rfl)
    have:=(q r hr).2.resolve_left fun z=>z hk
    omega
def awW (u:Nat) (es:List (Int×Bool)) (r:List Vl):List (Int×Bool):=if r[u]!.kind=1 then cS r[u]!.n true es else es
def aeX (u:Nat) (rows:List (List Vl)):List (Int×Bool):=rows.foldl (awW u) []
theorem ahK (u:Nat) (g:Int):∀(rows:List (List Vl)) (es:List (Int×Bool)),(cD g (rows.foldl (awW u) es)).getD false=((cD g es).getD false||rows.any fun r=>decide (r[u]!.kind=1)&&decide (r[u]!.n=g))
  |[],es=>by simp
  |r::rows,es=>by
    rw [List.foldl_cons,ahK u g rows,List.any_cons]
    unfold awW
    by_cases hk:r[u]!.kind=1
    · rw [if_pos hk,yR]
      by_cases hg:g=r[u]!.n
      · rw [if_pos hg,decide_eq_true hk,decide_eq_true hg.symm];simp
      · rw [if_neg hg,decide_eq_false (show ¬r[u]!.n=g from fun q=>hg q.symm)];simp
    · rw [if_neg hk,decide_eq_false hk];simp
theorem anP (u:Nat) (g:Int) (rows:List (List Vl)):(cD g (aeX u rows)).getD false=rows.any fun r=>decide (r[u]!.kind=1)&&decide (r[u]!.n=g):=by
  have:=ahK u g rows []
  simp only [cD,Option.getD_none,Bool.false_or] at this
  exact this
theorem avJ (u:Nat) {rows:List (List Vl)} {k:Nat} (h:k<rows.length):aeX u (rows.take (k+1))=if rows[k][u]!.kind=1 then cS rows[k][u]!.n true (aeX u (rows.take k)) else aeX u (rows.take k):=by
  unfold aeX
  rw [List.take_succ_eq_append_getElem h,List.foldl_append];rfl
theorem atE (m:Su) {rows:List (List Vl)} {k:Nat} (h:k<rows.length):jW m (rows.take (k+1))=if rows[k][m.by_.toNat]!.kind=1 then cS rows[k][m.by_.toNat]!.n ((cD rows[k][m.by_.toNat]!.n (jW m (rows.take k))).getD 0+rows[k][m.col.toNat]!.n) (jW m (rows.take k)) else jW m (rows.take k):=by
  unfold jW
  rw [List.take_succ_eq_append_getElem h,List.foldl_append];rfl
def pwU (u:Nat) (rows:List (List Vl)):Prop:=rows.Pairwise fun x y=>jE u x y=false
theorem azC {u:Nat} {rows:List (List Vl)} {k:Nat} (h:k<rows.length):pwU u (rows.take (k+1))↔pwU u (rows.take k)∧(rows[k][u]!.kind=1→((rows.take k).any fun r=>decide (r[u]!.kind=1)&&decide (r[u]!.n=rows[k][u]!.n))=false):=by
  unfold pwU
  rw [List.take_succ_eq_append_getElem h,List.pairwise_append]
  constructor
  · rintro ⟨h1,_,h3⟩
    refine ⟨h1,fun hk=> ?_⟩
    rw [List.any_eq_false]
    intro x hx q
    have:=h3 x hx rows[k] (by simp)
    unfold jE at this
    simp only [Bool.and_eq_true,decide_eq_true_eq] at q
    rw [decide_eq_true q.1,decide_eq_true hk,decide_eq_true q.2] at this
    cases this
  · rintro ⟨h1,h2⟩
    refine ⟨h1,List.pairwise_singleton ..,fun x hx y hy=> ?_⟩
    rw [List.mem_singleton] at hy
    subst hy
    by_cases hk:rows[k][u]!.kind=1
    · have:=List.any_eq_false.1 (h2 hk) x hx
      unfold jE
      rw [decide_eq_true hk]
      simpa using this
    · unfold jE
      rw [decide_eq_false hk];simp
theorem anA {t:Tb} {rows:List (List Vl)} (h:∀j (hj:j<t.unique.length),pwU t.unique[j].toNat rows):fI t rows=true:=by
  unfold fI
  rw [List.all_eq_true]
  intro u hu
  obtain ⟨j,hj,rfl⟩:=List.getElem_of_mem hu
  exact decide_eq_true (h j hj)
theorem atN {t:Tb} {rows:List (List Vl)} {j k:Nat} (hj:j<t.unique.length) (h:¬pwU t.unique[j].toNat (rows.take k)):fI t rows=false:=by
  unfold fI
  rw [←Bool.not_eq_true,List.all_eq_true]
  intro q
  exact h ((of_decide_eq_true (q _ (List.getElem_mem hj))).sublist (List.take_sublist ..))
theorem ajJ {f:Nat→Int} {n i:Nat} (h:i<n) (h1:∀j<i,f j=0) (h2:f i≠0):dD f (List.range n)=f i:=by
  have:=yV (f:=f) (l:=List.range n) (i:=i) (by simpa using h) (fun j hj=>by rw [List.getElem_range];exact h1 j hj) (by rw [List.getElem_range];exact h2)
  rwa [List.getElem_range] at this
theorem wW {f:Nat→Int} {n:Nat} (h:∀j<n,f j=0):dD f (List.range n)=0:=eV.2 fun j hj=>h j (List.mem_range.1 hj)
theorem kS {α:Type} {f:α→Int} {l:List α} (h:∀j (hj:j<l.length),f l[j]=0):dD f l=0:=eV.2 fun x hx=>by
  obtain ⟨j,hj,rfl⟩:=List.getElem_of_mem hx
  exact h j hj
theorem pH {α:Type} {f:α→Int} {l:List α} {i:Nat} (hI:∀j (h:j<l.length),j<i→f l[j]=0) (h:i<l.length) (hf:f l[i]=0):∀j (h:j<l.length),j<i+1→f l[j]=0:=fun j hj hji=>by
  rcases Nat.lt_succ_iff_lt_or_eq.1 hji with q|q
  · exact hI j hj q
  · subst q;exact hf
theorem pK {α:Type} {f:α→Int} {l:List α} {i:Nat} (hI:∀j (h:j<l.length),j<i→f l[j]=0) (h:i<l.length) (hf:f l[i]≠0):dD f l=f l[i]:=yV h (fun j hj=>hI j (by omega) hj) hf
end
end Go.Proofs.YtcglimangneafaaGreatDoor
