import Derived.Test.YtfablfldonhkiaaGreatDoorClAp
import Derived.Test.YtfablfldonhkiaaGreatDoorClAq
import Derived.Test.YtfablfldonhkiaaGreatDoorClAn
import Derived.Test.YtfablfldonhkiaaGreatDoorAbsI
set_option linter.unusedSimpArgs false
set_option linter.unusedVariables false
namespace Go.Proofs.YtfablfldonhkiaaGreatDoor
open Go Go.Abs
section
set_option maxRecDepth 10000
set_option maxHeartbeats 4000000
def LnW (k:Nat) (l:Ln):Prop:=l.by_.length<=60+k/\l.cells_.length<=20/\∀c∈l.cells_,c.parts.length<=40+40*k
def OpW (k:Nat) (b:Bs):Prop:=b.length<=20/\∀d∈b,d.lines.length<=100+k/\∀l∈d.lines,LnW k l
theorem LnW.S {k:Nat} {l:Ln} (h:LnW k l) (hk:k<=20):LnS l:=⟨by have:=h.1;omega,by have:=h.2.1;omega,λc hc=>by have:=h.2.2 c hc;omega⟩
theorem OpW.S {k:Nat} {b:Bs} (h:OpW k b) (hk:k<=20):BsS 200 b:=⟨h.1,λd hd=>⟨by have:=(h.2 d hd).1;omega,λl hl=>((h.2 d hd).2 l hl).S hk⟩⟩
theorem LnW.up {k m:Nat} {l:Ln} (h:LnW k l) (a:k<=m):LnW m l:=⟨by have:=h.1;omega,h.2.1,λc hc=>by have:=h.2.2 c hc;omega⟩
theorem OpW.nil (k:Nat):OpW k []:=⟨by simp,λd hd=>by cases hd⟩
theorem aJZ {b:Bs} (h:wW b=true):OpW 0 b:=by
 have h0:=h;unfold wW at h;simp only [zba,zde,zal] at h;obtain ⟨e,f,a⟩:=h;refine ⟨by omega,λd hd=>⟨?_,λl hl=> ?_⟩⟩
 ·have:=((aHQ h0).2 d hd).1;omega
 ·have:=a d hd l hl
  unfold dZ kW at this;simp only [zba,zde,zal] at this;exact ⟨by omega,by omega,λc hc=>by have:=this.1 c hc;omega⟩
theorem iD {k:Nat} {b:Bs} (h:OpW k b) (t:Int):(aF b t).length<=100+k/\∀l∈aF b t,LnW k l:=by
 unfold aF;split
 ·rename_i ho
  unfold okT at ho;simp only [zba,zde] at ho;rw [getElem!_pos b t.toNat (by omega)];exact h.2 _ (zgm _)
 ·exact ⟨by simp,λl hl=>by cases hl⟩
theorem vU {L:List Ln} {k:Int} {l:Ln} (h:aY L k=some l):l∈L:=by
 unfold aY at h;exact List.mem_of_find?_eq_some h
theorem aDN {L:List Ln} {a x:Ln} (h:x∈gX L a):x=a\/x∈L:=by
 unfold gX at h;split at h
 ·exact (List.mem_or_eq_of_mem_set h).symm
 ·rcases alE.1 (show x∈L.take _++[a]++L.drop _ from h) with q|q
  ·exact .inl q
  ·exact .inr q
theorem alW {k:Nat} {b:Bs} (h:OpW k b) (t:Int) {a:Ln} (ha:LnW (k+1) a):OpW (k+1) (bN b t a):=by
 unfold bN;split
 ·refine ⟨by rw [List.length_set];exact h.1,λd hd=> ?_⟩
  rcases List.mem_or_eq_of_mem_set hd with q|rfl
  ·exact ⟨by have:=(h.2 d q).1;omega,λl hl=>((h.2 d q).2 l hl).up (by omega)⟩
  ·obtain ⟨e,c⟩:=iD h t
   refine ⟨?_,λl hl=> ?_⟩
   ·have:=abS (aF b t) a
    show (gX (aF b t) a).length<=_;omega
   ·rcases aDN hl with rfl|hl
    ·exact ha
    ·exact (c l hl).up (by omega)
 ·exact ⟨h.1,λd hd=>⟨by have:=(h.2 d hd).1;omega,λl hl=>((h.2 d hd).2 l hl).up (by omega)⟩⟩
theorem aJp {t:Tb} {G:R2->Bool} {who:Dt} {l:Ln} {m:Nat} (h:LnW m l):LnW (m+1) (jS t G who l):=by
 obtain ⟨e,d,a⟩:=h;have hw:=agS l who;unfold jS;split
 ·refine ⟨?_, ?_,λc hc=> ?_⟩
  ·show (cT l who).by_.length<=_;omega
  ·show (eX _ _ _).length<=_;rw [dF];exact d
  ·obtain ⟨j,hj,rfl⟩:=zgo hc
   have hj:j<(eX (eF G l) t.foreign l.cells_).length:=hj;rw [dF] at hj;show ((eX (eF G l) t.foreign l.cells_)[j]'(by rw [dF];exact hj)).parts.length<=_;rw [oW hj];split
   ·simp [Cl.zero]
   ·have:=a _ (zgm hj);omega
 ·exact ⟨by omega,by omega,λc hc=>by have:=a c hc;omega⟩
theorem aFE {c:Bool} {s:Sc} {b:Bs} {z:R2} {who:Dt} {M:List R2} {m:Nat} (h:OpW m b):OpW (m+1) (tY c s b z who M).1:=by
 unfold tY;split
 ·split
  ·split
   ·refine ⟨by rw [kL];exact h.1,λd hd=> ?_⟩
    unfold kZ at hd;obtain ⟨k,hk,rfl⟩:=List.mem_map.1 hd;have hk:=List.mem_range.1 hk;obtain ⟨e,a⟩:=h.2 _ (zgm hk);refine ⟨?_,λx hx=> ?_⟩
    ·show (pN s b (inR M) who k).length<=_
     unfold pN;rw [zql,getElem!_pos b k hk];have:=List.length_filter_le (λl:Ln=> !inR M ((k:Int),l.key)) b[k].lines;omega
    ·obtain ⟨l,hl,_,rfl⟩:=qI.1 hx
     rw [getElem!_pos b k hk] at hl;exact aJp (a l hl)
   ·exact OpW.nil _
  ·exact OpW.nil _
 ·exact OpW.nil _
theorem pB {l:List Pt} {k:Nat} {x:Pt}:(dS l k [x]).length=l.length+1:=by
 unfold dS;simp only [zla,zlt,zld,List.length_singleton];omega
def mC (o:Ot):Prop:=o.row.length<=20/\o.val.s.size<=40/\∀v∈o.row,v.s.size<=40
theorem anX (c:Cl) (n:Int):(vC c n).1.parts.length=0:=by
 unfold vC;split
 ·rfl
 ·split
  ·rfl
  ·split<;>rfl
theorem aCF (w:Wr) (c:Cl) (o:Ot) {m:Nat} (hc:c.parts.length<=m) (ho:mC o):(eT w c o).1.parts.length<=m+40:=by
 unfold eT;have d:=anX c o.val.n;have e:=List.length_filter_le (sX w.dot w.knew) c.parts;have a:=List.length_filter_le (tJ o.val.n w.dot w.knew) c.parts;have h4:=T.type_len c o.val.s w.who ⟨o.after,o.at_⟩;have h5:=T.eraseP_len ⟨o.after,o.at_⟩ c;have f:=ho.2.1;have g:(iQ c o.val w.dot w.knew).parts.length<=c.parts.length+1:=by unfold iQ;simp only;rw [pB];omega
 have h8:(oL c o.val.n w.dot).parts.length<=c.parts.length+1:=by
  unfold oL;split
  ·omega
  ·simp only;rw [pB];omega
 have h9:(tF c o.val.n w.dot w.knew).parts.length<=c.parts.length:=a
 repeat' split
 all_goals ((try dsimp only);first|omega|simp;done)
theorem ayZ (w:Wr) (k:Int) (v:Vl) (hv:v.s.size<=40):(lF w k v).1.parts.length<=40:=by
 unfold lF;have a:=anX (pV 0) v.n;have h4:=T.type_len ⟨4,Vl.zero,[]⟩ v.s w.who T.Nm.zero;have c:(iQ ⟨k,Vl.zero,[]⟩ v w.dot w.knew).parts.length<=1:=by unfold iQ;simp only;rw [pB];simp
 have h8:(oL ⟨k,Vl.zero,[]⟩ v.n w.dot).parts.length<=1:=by
  unfold oL;split
  ·simp
  ·simp only;rw [pB];simp
 simp only [List.length_nil] at h4
 repeat' split
 all_goals ((try dsimp only);first|omega|simp;done)
theorem aIr {w:Wr} {t:Tb} {o:Ot} (ho:mC o) (k:Nat):LnW (k+1) (eU w t o.row):=by
 refine ⟨by simp only [eU,List.length_singleton];omega,by unfold eU;simp only [zql,List.length_range];exact ho.1,λc hc=> ?_⟩;unfold eU at hc;obtain ⟨i,hi,rfl⟩:=List.mem_map.1 hc;have hi:=List.mem_range.1 hi;have:=ayZ w t.cols[i]!.kind o.row[i]! (by rw [getElem!_pos o.row i hi];exact ho.2.2 _ (zgm hi));unfold oZ;omega
theorem aKB {w:Wr} {o:Ot} {l:Ln} {k:Nat} (ho:mC o) (h:LnW k l):LnW (k+1) (oX w o l):=by
 obtain ⟨f,e,d⟩:=h;have hw:=agS ⟨l.key,l.cells_.set o.col.toNat (eT w l.cells_[o.col.toNat]! o).1,l.by_⟩ w.dot;have hc:(oX w o l).cells_=l.cells_.set o.col.toNat (eT w l.cells_[o.col.toNat]! o).1:=by unfold oX cT;split<;>rfl
 refine ⟨?_, ?_,λc a=> ?_⟩
 ·show (cT _ _).by_.length<=_
  simp only at hw;omega
 ·rw [hc,List.length_set];exact e
 ·rw [hc] at a
  rcases List.mem_or_eq_of_mem_set a with q|rfl
  ·have:=d c q;omega
  ·by_cases hj:o.col.toNat<l.cells_.length
   ·rw [getElem!_pos l.cells_ _ hj]
    have:=aCF w l.cells_[o.col.toNat] o (d _ (zgm hj)) ho;omega
   ·rw [List.set_eq_of_length_le (by omega)] at a
    have:=d _ a;omega
theorem aEH {w:Wr} {s:Sc} {b:Bs} {o:Ot} {k:Nat} (h:OpW k b) (ho:mC o):OpW (k+1) (bD w s b o).1:=by
 unfold bD;split
 ·exact OpW.nil _
 ·split
  ·unfold aE0
   split
   ·exact OpW.nil _
   ·split
    ·exact OpW.nil _
    ·split
     ·exact OpW.nil _
     ·exact alW h _ (aIr ho k)
  ·split
   ·exact aFE h
   ·unfold anN
    cases hg:aY (aF b o.table) o.key with
    |none=>exact OpW.nil _
    |some l=>
     simp only;split
     ·exact OpW.nil _
     ·exact alW h _ (aKB ho ((iD h _).2 l (vU hg)))
theorem atJ {tx:Cl->Int} {t:Tb} {L:List Ln} (h:uT tx t L=true) (a:Ln) (hl:(gX L a).length<=2000) (ha:kX tx t a=true):uT tx t (gX L a)=true:=by
 obtain ⟨e,d,c⟩:=fU.1 h;refine fU.2 ⟨hl,λx hx=> ?_,c.put a⟩;rcases (bG c a x).1 hx with rfl|w
 ·exact ha
 ·exact d x w.1
theorem mV (b:Bs) (k:Int) (a:Ln):bN b k a=iH b k (gX (aF b k) a):=rfl
theorem ahW {s:Sc} {b:Bs} {k:Nat} (h:aV T.rightP s b=true) (hk:k<s.length) {a:Ln} (hl:(gX (aF b k) a).length<=2000) (ha:LineOK T.rightP s[k] a):aV T.rightP s (bN b k a)=true:=by
 obtain ⟨⟨d,e⟩,_⟩:=aI.1 h;have c:okT b (k:Int)=true:=by unfold okT;simp only [zba,zde];omega
 rw [mV,aAX h c,Int.toNat_natCast,getElem!_pos s k hk];have hd:=aeV h c;rw [Int.toNat_natCast,getElem!_pos s k hk] at hd;exact atJ hd a hl (aaV.2 ha)
theorem afK {L:List Ln} {a:Ln} (h:(aY L a.key).isSome=true):(gX L a).length=L.length:=by
 rcases uZ L a.key with ⟨j,hj,e,_⟩|⟨j,hj,e,q,_⟩
 ·unfold gX;rw [e,zp rfl,List.length_set]
 ·rw [q] at h;cases h
theorem aJX {s:Sc} (h:cE s=0) {k:Nat} (hk:k<s.length):s[k].cols[0]!.kind=0/\s[k].cols[0]!.type_=1/\s[k].cols[0]!.null=false:=by
 have a:=fR h hk (lk3 s[k]!) (by simp [lks]);rw [getElem!_pos s k hk] at a;unfold lk3 at a;split at a
 ·cases a
 ·rename_i c
  rw [not_or] at c;have h4:nD s[k].cols[0]! =true:=by simpa using c.1
  unfold nD at h4;rw [zba,zde,zde] at h4;exact ⟨h4.1,h4.2,by simpa using c.2⟩
theorem aKY {s:Sc} (h:cE s=0) {k:Nat} (hk:k<s.length) {j:Nat} (hj:j<s[k].cols.length):0<=s[k].cols[j].kind/\s[k].cols[j].kind<=4:=by
 have a:=fR h hk (lk2 s[k]!) (by simp [lks]);rw [getElem!_pos s k hk] at a;unfold lk2 at a;have:=xC (show orI ((List.range s[k].cols.length).map (apM s[k]))=0 from a) _ (List.mem_map.2 ⟨j,List.mem_range.2 hj,rfl⟩);unfold apM axU at this;rw [getElem!_pos s[k].cols j hj] at this;split at this
 ·cases this
 ·rename_i q;simp only [not_or] at q;omega
theorem aAz {w:Wr} {s:Sc} (h:cE s=0) {k:Nat} (hk:k<s.length) {o:Ot} (hw:pW w=true) (i:avJ s[k] o=0) (u:kI w s[k] o.row=0):LineOK T.rightP s[k] (eU w s[k] o.row):=by
 unfold avJ at i;split at i
 ·cases i
 split at i
 ·rename_i q;exact absurd i q
 rename_i A m;split at i
 ·cases i
 rename_i r;simp only [not_or,Bool.not_eq_false,Decidable.not_not] at A m r;have f:=avT m;have hv:∀j,j<o.row.length->uL s[k].cols[j]! o.row[j]! =0:=λj hj=>by
  unfold fA at m
  rw [zp f.symm] at m
  exact gS.1 m j (List.mem_range.2 hj)
 have hf:∀j (hj:j<o.row.length),jM T.rightP (oZ w s[k] o.row j).1=true/\(oZ w s[k] o.row j).1.kind=s[k].cols[j]!.kind:=λj hj=>by
  have h0:=gS.1 u j (List.mem_range.2 hj)
  have hc:=aKY h hk (j:=j) (by omega)
  refine aCe hw ?_ (hv j hj) h0
  rw [getElem!_pos s[k].cols j (by omega)];exact hc
 have hl:(eU w s[k] o.row).cells_.length=o.row.length:=by unfold eU;simp
 have hg:∀j (hj:j<(eU w s[k] o.row).cells_.length),(eU w s[k] o.row).cells_[j]=(oZ w s[k] o.row j).1:=λj hj=>by
  unfold eU
  show (List.map _ _)[j]'(by simpa [eU] using hj)=_
  rw [List.getElem_map,List.getElem_range]
 have g:=r.2;unfold aAo at g;simp only [zba,zde] at g;have d:0<o.row.length:=by omega
 refine ⟨g.1,by show o.row[0]!.n<_;omega,by rw [hl];exact f,λj hj=> ?_,λc hc=> ?_, ?_, ?_⟩
 ·rw [hg j hj];exact (hf j (by omega)).2
 ·obtain ⟨j,hj,rfl⟩:=zgo hc
  rw [hg j hj];exact (hf j (by omega)).1
 ·rw [getElem!_pos _ 0 (by rw [hl];exact d),hg 0 (by rw [hl];exact d)]
  obtain ⟨c1,c2,t⟩:=aJX h hk;have a:=hv 0 d;unfold oZ lF;rw [zp c1];show o.row[0]! =⟨1,o.row[0]!.n,e0⟩;unfold uL at a;split at a
  ·cases a
  split at a
  ·cases a
  split at a
  ·cases a
  rename_i B C D;have l:o.row[0]!.kind=1:=by
   have p:eB s[k].cols[0]! =1:=by unfold eB;rw [zp (.inl c1),c2]
   by_cases z:o.row[0]!.kind=0
   ·exact absurd ⟨z, .inl c1,t⟩ C
   ·exact Classical.byContradiction λy=>D ⟨z,by rw [p];exact y⟩
  have e:cF o.row[0]! =true:=by simpa using B
  unfold cF at e;rw [zn (by omega),zp l] at e;simp only [zba,zde] at e;rw [Vl.ext_iff];exact ⟨l,rfl,e.1.1⟩
 ·refine aeL.2 ⟨λx hx=> ?_, ?_⟩
  ·have hx:x∈[w.dot]:=hx
   rw [zms.1 hx];exact rB hw
  ·exact List.pairwise_singleton _ _
theorem azE {w:Wr} {t:Tb} {o:Ot} {l:Ln} (hw:pW w=true) (hL:LineOK T.rightP t l) (d:adC t o=0) (h0:(eT w l.cells_[o.col.toNat]! o).2=0):LineOK T.rightP t (oX w o l):=by
 unfold adC at d;split at d
 ·cases d
 split at d
 ·cases d
 split at d
 ·cases d
 split at d
 ·rename_i q;exact absurd d q
 rename_i m p i k;simp only [not_or,Bool.not_eq_false,Decidable.not_not] at m p i k;obtain ⟨k1,k2,ln,h,ce,r,ds⟩:=hL;have hj:o.col.toNat<l.cells_.length:=by omega
 rw [<-h _ hj] at i;rw [getElem!_pos l.cells_ _ hj] at h0;obtain ⟨t1,t2⟩:=aHp hw (ce _ (zgm hj)) i k h0;have hc:(oX w o l).cells_=l.cells_.set o.col.toNat (eT w l.cells_[o.col.toNat] o).1:=by
  unfold oX cT;rw [getElem!_pos l.cells_ _ hj];split<;>rfl
 have a:(oX w o l).key=l.key:=by unfold oX cT;split<;>rfl
 refine ⟨by rw [a];exact k1,by rw [a];exact k2,by rw [hc,List.length_set];exact ln,λj g=> ?_,λc f=> ?_, ?_,afB ds (rB hw)⟩
 ·simp only [hc,List.getElem_set]
  simp only [hc,List.length_set] at g;split
  ·rename_i e;subst e;rw [t2];exact h _ hj
  ·exact h j g
 ·rw [hc] at f
  rcases List.mem_or_eq_of_mem_set f with q|rfl
  ·exact ce c q
  ·exact t1
 ·rw [a,hc,<-r,getElem!_pos _ 0 (by rw [List.length_set];omega),List.getElem_set,zn (by omega),getElem!_pos l.cells_ 0 (by omega)]
theorem adJ {tx:Cl->Int} {s:Sc} {b:Bs} (hg:aV tx s b=true) {k:Nat} (hk:k<s.length) {l:Ln} (hl:l∈aF b k):LineOK tx s[k] l:=by
 obtain ⟨⟨c,d⟩,_⟩:=aI.1 hg;have a:k<b.length:=by omega
 have hl:l∈b[k].lines:=by
  unfold aF okT at hl;rw [zp (by simp;omega),Int.toNat_natCast,getElem!_pos b k a] at hl;exact hl
 have hL:=sG hg a hl;rwa [getElem!_pos s k hk] at hL
theorem rY {s:Sc} {o:Ot} (h:eO s o=0):∃k:Nat,o.table=k/\∃hk:k<s.length,(o.kind=1->avJ s[k] o=0)/\(o.kind≠1->o.kind≠8->adC s[k] o=0):=by
 unfold eO at h;split at h
 ·cases h
 split at h
 ·cases h
 rename_i d f;refine ⟨o.table.toNat,by omega,by omega,λe=> ?_,λa c=> ?_⟩
 ·rw [zp e,getElem!_pos s _ (by omega)] at h;exact h
 ·rw [zn a] at h
  split at h
  ·cases h
  rw [getElem!_pos s _ (by omega)] at h;exact h
theorem arN {w:Wr} {s:Sc} {b:Bs} {o:Ot} (hw:pW w=true) (hb:aV T.rightP s b=true) (h0:(bD w s b o).2=0):aV T.rightP s (bD w s b o).1=true:=by
 have hs:=(aI.1 hb).1.1;unfold bD at*;by_cases e:eO s o=0
 ·rw [zn (by simp [e])] at h0⊢
  obtain ⟨k,hk,a,m,p⟩:=rY e;by_cases d:o.kind=1
  ·rw [zp d] at h0⊢
   unfold aE0 at*;split at h0
   ·cases h0
   split at h0
   ·cases h0
   rw [hk,Int.toNat_natCast,getElem!_pos s k a] at h0⊢;split at h0
   ·rename_i q;exact absurd h0 q
   rename_i i f j;rw [hk] at i f;rw [zn i,zn f,zn j];refine ahW hb a ?_ (aAz hs a hw (m d) (zdn j));have:=abS (aF b (k:Int)) (eU w s[k] o.row);omega
  ·rw [zn d] at h0⊢
   by_cases h8:o.kind=8
   ·rw [zp h8] at h0⊢
    unfold tY at*;rw [zp rfl] at h0⊢;split at h0
    ·rename_i q;rw [zp q]
     split at h0
     ·rename_i f;rw [zp f];exact aEv hb (rB hw)
     ·cases h0
    ·cases h0
   ·rw [zn h8] at h0⊢
    unfold anN at*;rw [hk] at h0⊢;cases hg:aY (aF b (k:Int)) o.key with
    |none=>rw [hg] at h0;cases h0
    |some l=>
     rw [hg] at h0;simp only at h0⊢;split at h0
     ·rename_i q;exact absurd h0 q
     rename_i q;rw [zn q];have hL:=adJ hb a (vU hg);obtain ⟨_,c⟩:=(eG (dR hb (k:Int))).1 hg;refine ahW hb a ?_ (azE hw hL (p d h8) (zdn q));have g:(oX w o l).key=l.key:=by unfold oX cT;split<;>rfl
     rw [afK (by rw [g,c,hg];rfl)];have h:okT b (k:Int)=true:=by unfold okT;simp only [zba,zde];have:=(aI.1 hb).1.2;omega
     exact (fU.1 (aeV hb h)).1
 ·rw [zp e] at h0
  exact absurd h0 e
end
section
attribute [local irreducible] Ev PWp
set_option maxRecDepth 10000
set_option maxHeartbeats 4000000
def aES (l:Ln) (e:Int):PV:= .tup [.agg l.cells,(vi (e))]
theorem aKt (e:Int):Wk (.tup [.agg [(vi (0)), .val (.slice none 0 0), .val (.slice none 0 0)],(vi (e))]) (aES Ln.zero e):=Wk.tup (.cons (.agg (.cons (zwr _) (.cons Wk.nil (.cons Wk.nil .nil)))) (.cons (zwr _) .nil))
structure RwI (w:Wr) (t:Tb) (r:List Vl):Prop where
 pos:0<r.length
 len:r.length<=t.cols.length
 l20:r.length<=1000
 n:∀v∈r,inL v.n
 s:∀v∈r,v.s.size<1000000
 kn:w.knew.length<1000000000000
theorem aFX (w:Wr) (t:Tb) (r:List Vl) (h:RwI w t r) (st:aD):PC Tryz.prog 115 [.agg w.cells, .agg t.cells, .seq (r.map Vl.cells)] st λR S=>(kI w t r≠0/\R= .tup [.agg [(vi (0)), .val (.slice none 0 0), .val (.slice none 0 0)],(vi (kI w t r))]/\S=st)\/(kI w t r=0/\∃id,R= .tup [.agg [(vi (r[0]!.n)), .vec id 5 0 r.length, .seq [w.dot.cells]],(vi (0))]/\st id=none/\S=upd st id (some (.arr 110 ((eU w t r).cells_.map Cl.cells)))):=by
 have hd:=jD w;have A:=h.pos;have I:=getElem!_pos r 0 A;have hL:(eU w t r).cells_.length=r.length:=by unfold eU;simp
 have k:∀i (hi:i<r.length),(eU w t r).cells_[i]'(by rw [hL];exact hi)=(oZ w t r i).1:=λi hi=>by
  unfold eU
  show (List.map _ _)[i]'(by simpa using hi)=_
  rw [List.getElem_map,List.getElem_range]
 have y:kI w t r=eJ (λi=>(oZ w t r i).2) (List.range r.length):=rfl;have a:=λi (hi:i<r.length)=>auI w t.cols[i]!.kind r[i]! (by rw [getElem!_pos r i hi];exact h.n _ (zgm hi)) (by rw [getElem!_pos r i hi];exact h.s _ (zgm hi)) h.kn;have M:=h.len;have L:=h.l20;rw [I];generalize (eU w t r).cells_=N at*;generalize kI w t r=E at*;refine pC Tryz.func115 rfl ?_
 focus ((repeat' first|apply wZ;rfl|show Cn _;constructor|exact rfl|apply KR.mk;kernel_rfl|(apply hd)|apply wY;rfl|apply wI;rfl|apply gE;omega))
 refine aEX 8 110 5 [_] rfl rfl rfl (λid d=> ?_);refine aC (X:={x:Nat×Nat//x.1<=r.length/\st x.2=none/\∀j<x.1,(oZ w t r j).2=0}) (λi=>((((((((St.nil 52 (upd st i.1.2 (some (.arr 110 ((N.take i.1.1).map Cl.cells))))).var 3 97 (w.cells)).var 4 58 (t.cells)).var 6 47 ([(vi (0)), .val (.slice none 0 0), .val (.slice none 0 0)])).var 8 47 ([(vi (r[0].n)), .vec i.1.2 5 0 i.1.1, .seq [w.dot.cells]])).pv 21 (.seq (r.map Vl.cells))).pv 22 ((vi (((r.map Vl.cells).length:Nat))))).pv 23 ((vi ((i.1.1:Nat)))))) (λi=>r.length-i.1.1) ⟨(0,id),by simp,d,by simp⟩ ?_ (λi=> ?_)
 ·dsimp only
  (repeat' first|show Cn (.t _ _);exact Cn.t0|show Cn _;constructor|exact rfl)
 obtain ⟨⟨i,id⟩,hi,d,C⟩:=i;simp only at hi d C;dsimp only;by_cases K:r.length<=i
 ·obtain rfl:i=r.length:=by omega
  rw [ztl (by omega)];have D:E=0:=by rw [y];exact gS.2 λj hj=>C j (List.mem_range.1 hj)
  (repeat' first|show Cn (.r _ _ _);refine .rr ?_;(exact .inr ⟨D,id,rfl,d,rfl⟩);done|apply wZ;rfl|show Cn _;constructor|simp only [zql];omega|(intro h;simp at h))
 have g:i<r.length:=by omega
 have p:i<t.cols.length:=by omega
 have k:=k i g;have a:=a i g;rw [getElem!_pos t.cols i p,getElem!_pos r i g] at a;have F:oZ w t r i=lF w t.cols[i].kind r[i]:=by unfold oZ;rw [getElem!_pos t.cols i p,getElem!_pos r i g]
 rw [<-F] at a;have P:(N.take i).length=i:=by rw [zlt];omega
 have e:N.take (i+1)=N.take i++[(oZ w t r i).1]:=by rw [List.take_succ_eq_append_getElem (by omega),k]
 have B:(oZ w t r i).2=0->∀j<i+1,(oZ w t r j).2=0:=λq j hj=>by
  rcases zls.1 hj with z|z
  ·exact C j z
  ·subst z;exact q
 have m:(oZ w t r i).2≠0->E=(oZ w t r i).2:=λq=>by
  rw [y]
  have G:i<(List.range r.length).length:=by rw [List.length_range];exact g
  have:=aaS (f:=λi=>(oZ w t r i).2) (l:=List.range r.length) (i:=i) G (λj hj=>by rw [List.getElem_range];exact C j hj) (by rw [List.getElem_range];exact q)
  rw [this,List.getElem_range]
 generalize oZ w t r i=R at*;obtain ⟨c,O⟩:=R;dsimp only at e B m;unfold aaQ at a;dsimp only at a;by_cases hz:O=0
 ·have hu:=B hz
  (repeat' first|(apply Cn.cf;focus ((apply a);done))|refine ⟨⟨(i+1,J),by simp only;omega,dG u,hu⟩, ?_, ?_⟩;((dsimp only;try rw [e]))|show Cn (.t _ _);exact .any (bR ‹_›)|apply wZ;rfl|show Cn _;constructor|exact rfl|apply KR.mk;kernel_rfl|(apply apV pk (f:=Cl.cells) [c] 64;(iterate 9 rfl);(exact aA _ _ _);(omega);exact λ_=>rfl;exact λ_=>rfl;exact awC;((focus (simp;omega)));((focus (simp;omega)));rfl;intro J u)|apply wY;rfl|apply wI;rfl|apply gE;omega|omega|simp only [zql];omega|(intro h;simp at h)|intro h)
 ·have D:=m hz
  subst D;have H:=hz
  (repeat' first|exact Cn.any ⟨_,_,st,rfl,zwr _,aU (zsr _) d, .inl ⟨H,rfl,rfl⟩⟩|(apply Cn.cf;focus ((apply a);done))|apply wZ;rfl|show Cn _;constructor|exact rfl|apply KR.mk;kernel_rfl|apply wY;rfl|apply wI;rfl|apply gE;omega|omega|simp only [zql];omega|(intro h;simp at h)|intro h)
theorem auB (w:Wr) (t:Tb) (r:List Vl) (h:RwI w t r):PF Tryz.prog 115 [.agg w.cells, .agg t.cells, .seq (r.map Vl.cells)] (if kI w t r≠0 then aES Ln.zero (kI w t r) else aES (eU w t r) 0):=λst=>
 gF (sz:=5) (aFX w t r h st) λp st' h=>by
  rcases h with ⟨a,rfl,rfl⟩|⟨a,id,rfl,c,rfl⟩
  ·rw [zp a]
   exact .inr ⟨_,_,aKt _,zsr _,rfl,rfl⟩
  ·rw [zn (by simp [a])]
   refine .inl ⟨id,110,(eU w t r).cells_.map Cl.cells,_,st,aA _ _ _,abH, .tup (.cons (.agg (.cons .refl (.cons (fW (by simp [eU])) (.cons .refl .nil)))) (.cons .refl .nil)),cD c,rfl,rfl⟩
def aHF (w:Wr) (s:Sc) (b:Bs) (o:Ot):Bs×Int:=if (aY (aF b o.table) o.row[0]!.n).isSome=true then (b,8) else if (aF b o.table).length>=2000 then (b,2) else if kI w s[o.table.toNat]! o.row≠0 then (bN b o.table Ln.zero,kI w s[o.table.toNat]! o.row) else (bN b o.table (eU w s[o.table.toNat]! o.row),0)
def aGS (w:Wr) (b:Bs) (o:Ot):Bs×Int:=match aY (aF b o.table) o.key with
 |none=>(b,4)
 |some l=>if (eT w l.cells_[o.col.toNat]! o).2≠0 then (b,(eT w l.cells_[o.col.toNat]! o).2) else (bN b o.table (oX w o l),0)
def atH (w:Wr) (s:Sc) (b:Bs) (o:Ot):Bs×Int:=if o.kind=1 then aHF w s b o else if o.kind=8 then tY true s b (o.table,o.key) w.dot (lI s b (o.table,o.key)) else aGS w b o
theorem aEI {w:Wr} {s:Sc} {b:Bs} {o:Ot} (h:eO s o=0):bD w s b o=if (atH w s b o).2≠0 then ([],(atH w s b o).2) else atH w s b o:=by
 unfold bD atH;rw [zn (by simp [h])];by_cases a:o.kind=1
 ·simp only [zp a]
  unfold aE0 aHF;split
  ·rfl
  ·split
   ·rfl
   ·split
    ·rename_i q;simp only [zp q]
    ·rfl
 ·simp only [zn a]
  by_cases h8:o.kind=8
  ·simp only [zp h8]
   unfold tY
   repeat' split
   all_goals first|rfl|(rename_i q;exact absurd rfl q)
  ·simp only [zn h8]
   unfold anN aGS;cases aY (aF b o.table) o.key with
   |none=>rfl
   |some l=>
    simp only;split
    ·rename_i q;simp only [zp q]
    ·rfl
theorem agB {v:Vl} (h:cF v=true):inL v.n:=by
 unfold cF at h;unfold inL;split at h
 ·simp at h;omega
 ·split at h
  ·simp at h;omega
  ·split at h
   ·simp at h;omega
   ·cases h
structure DoB (k:Nat) (w:Wr) (s:Sc) (b:Bs) (o:Ot):Prop where
 sb:ScB s
 len:s.length<=20
 bs:OpW k b
 k20:k<=20
 kn:w.knew.length<1000000000000
 few:mC o
theorem DoB.S {k:Nat} {w:Wr} {s:Sc} {b:Bs} {o:Ot} (h:DoB k w s b o):BsS 200 b:=h.bs.S h.k20
theorem ayD {n:Nat} {b:Bs} (h:BsS n b) (hn:n<=1000):b.length<100000000000/\∀d∈b,d.lines.length<100000000000:=⟨by have:=h.1;omega,λd hd=>by have:=(h.2 d hd).1;omega⟩
theorem aG1 {b:Bs} {k:Nat} (hk:k<b.length):aF b (k:Int)=b[k].lines:=by
 unfold aF okT;rw [zp (by simp;omega),Int.toNat_natCast,getElem!_pos b k hk]
section
variable {n:Nat} {w:Wr} {s:Sc} {b:Bs} {o:Ot} (hD:DoB n w s b o) (hb:aV T.rightP s b=true)
include hD hb
theorem aIL (A:eO s o=0) (z:o.kind=1):PF Tryz.prog 70 [.agg w.cells, .agg (scC s), .agg (bsC b), .agg o.cells] (nG (aHF w s b o)):=by
 obtain ⟨k,hk,r,F,_⟩:=rY A;have hi:=F z;obtain ⟨⟨G,H⟩,_⟩:=aI.1 hb;have p:k<b.length:=by omega
 unfold avJ at hi;split at hi
 ·cases hi
 split at hi
 ·rename_i q;exact absurd hi q
 split at hi
 ·cases hi
 rename_i J g K;have g:=zdn g;have i:=avT g;have f:0<o.row.length:=by omega
 have m:RwI w s[k] o.row:=⟨f,by omega,by have:=hD.few.1;omega,λv hv=>by
  obtain ⟨j,hj,rfl⟩:=zgo hv
  unfold fA at g
  rw [zp i.symm] at g
  have:=gS.1 g j (List.mem_range.2 hj)
  unfold uL at this
  split at this
  ·cases this
  ·rename_i q
   rw [getElem!_pos o.row j hj] at q;exact agB (by simpa using q),λv hv=>by have:=hD.few.2.2 v hv;omega,hD.kn⟩
 have x:=hD.S;obtain ⟨C,D⟩:=ayD x (by omega);have e:=sE x (by omega) o.table o.row[0].n;have c:=auB w s[k] o.row m;have d:=λa=>qC b o.table a C D;have l:=aG1 p;have t:=(iD hD.bs (k:Int)).1;have y:=hD.k20;unfold aHF;rw [getElem!_pos o.row 0 f];rw [show s[o.table.toNat]! =s[k] from by rw [hk,Int.toNat_natCast,getElem!_pos s k r]];rw [show (aF b o.table).length=b[k].lines.length from by rw [hk,l]];rw [l] at t;generalize (aY (aF b o.table) o.row[0].n).isSome=I at*;generalize (aY (aF b o.table) o.row[0].n).getD Ln.zero=L at*;cases I with
 |true=>
  rw [zp rfl];refine pF Tryz.func70 rfl (λst=> ?_)
  (repeat' first|apply wZ;rfl|show Cn _;constructor|exact rfl|apply KR.mk;kernel_rfl|(apply e)|apply wY;rfl|apply wI;rfl|apply gE;omega|omega|intro h)
 |false=>
  rw [zn (by simp),zn (by omega)];by_cases u:kI w s[k] o.row≠0
  ·rw [zp u] at c⊢
   have d:=d Ln.zero;generalize kI w s[k] o.row=E at*;generalize bN b o.table Ln.zero=B at*;unfold aES at c;refine pF Tryz.func70 rfl (λst=> ?_)
   (repeat' first|apply iX;(intro hw;exact hk);(apply gE;omega);rfl|apply wZ;rfl|show Cn _;constructor|exact rfl|apply KR.mk;kernel_rfl|((first|apply e|apply c|apply d))|apply wY;rfl|apply wI;rfl|apply gE;omega|omega|simp only [zql];omega|(intro h;simp at h)|intro h)
  ·rw [zn u] at c⊢
   have d:=d (eU w s[k] o.row);generalize eU w s[k] o.row=N at*;generalize bN b o.table N=B at*;unfold aES at c;refine pF Tryz.func70 rfl (λst=> ?_)
   (repeat' first|apply iX;(intro hw;exact hk);(apply gE;omega);rfl|apply wZ;rfl|show Cn _;constructor|exact rfl|apply KR.mk;kernel_rfl|((first|apply e|apply c|apply d))|apply wY;rfl|apply wI;rfl|apply gE;omega|omega|simp only [zql];omega|(intro h;simp at h)|intro h)
theorem aIn (h8:o.kind=8):PF Tryz.prog 70 [.agg w.cells, .agg (scC s), .agg (bsC b), .agg o.cells] (nG (tY true s b (o.table,o.key) w.dot (lI s b (o.table,o.key)))):=by
 have hd:=jD w;have c:=fB hD.S (by omega) hD.sb hD.len;rw [hb] at c;have a:PF Tryz.prog 116 [.agg (scC s), .agg (bsC b),(vi (o.table)),(vi (o.key)), .agg w.dot.cells] (nG (tY true s b (o.table,o.key) w.dot (lI s b (o.table,o.key)))):=aDR c (λ_=>aGh hb ⟨hD.S.1,λd hd=>⟨by have:=(hD.S.2 d hd).1;omega,(hD.S.2 d hd).2⟩⟩) (o.table,o.key) w.dot;generalize tY true s b (o.table,o.key) w.dot (lI s b (o.table,o.key))=R at*;unfold nG at a;refine pF Tryz.func70 rfl (λst=> ?_)
 (repeat' first|apply wZ;rfl|show Cn _;constructor|exact rfl|apply KR.mk;kernel_rfl|((first|apply hd|apply a))|apply wY;rfl|omega|intro h)
theorem aHA (z:eO s o=0) (L:o.kind≠1) (h8:o.kind≠8):PF Tryz.prog 70 [.agg w.cells, .agg (scC s), .agg (bsC b), .agg o.cells] (nG (aGS w b o)):=by
 obtain ⟨k,hk,A,_,Q⟩:=rY z;have hc:=Q L h8;obtain ⟨⟨U,V⟩,_⟩:=aI.1 hb;have M:k<b.length:=by omega
 have t:2<=o.kind/\o.kind<=7:=by
  unfold eO at z;split at z
  ·cases z
  ·omega
 have hd:=jD w;have G:=hD.S;obtain ⟨O,P⟩:=ayD G (by omega);have c:=sE G (by omega) o.table o.key;have d:=λa=>qC b o.table a O P;have J:=hD.k20;unfold aGS;cases hg:aY (aF b o.table) o.key with
 |none=>
  rw [hg] at c;refine pF Tryz.func70 rfl (λst=> ?_)
  (repeat' first|apply wZ;rfl|show Cn _;constructor|exact rfl|(apply c)|apply wY;rfl|omega|intro h)
 |some l=>
 rw [hg] at c;have r:PF Tryz.prog 10 [.agg (bsC b),(vi (o.table)),(vi (o.key))] (.tup [.agg l.cells,(vb (true))]):=c;clear c;have i:=vU hg;have g:=(iD hD.bs o.table).2 l i;rw [hk] at i;have hL:=adJ hb A i;unfold adC at hc;split at hc
 ·cases hc
 split at hc
 ·cases hc
 split at hc
 ·cases hc
 split at hc
 ·rename_i q;exact absurd hc q
 rename_i X Y Z y;have y:=zdn y;have K:=hL.len;obtain ⟨j,hj⟩:∃j:Nat,o.col=j:=⟨o.col.toNat,by omega⟩;have f:j<l.cells_.length:=by omega
 have D:cF o.val=true:=by
  unfold sP at y;split at y
  ·cases y
  ·rename_i q
   cases e:cF o.val with
   |true=>rfl
   |false=>exact absurd (.inr e) q
 have hT:TnOK w l.cells_[j] o:=⟨agB D,by have:=hD.few.2.1;omega,hD.kn,by have:=g.2.2 _ (zgm f);omega⟩;have p:=agG l.cells_;have I:=g.2.1;have H:=g.1;have x:=λ(id:Nat) (st:aD) hst=>aF2 (w:=w) (cs:=l.cells_) (j:=j) (id:=id) (o:=o) f hT t.1 t.2 (st:=st) hst;have m:=λN=>acZ ⟨l.key,N,l.by_⟩ w.dot (by show l.by_.length<_;omega);have u:oX w o l=cT ⟨l.key,l.cells_.set j (eT w l.cells_[j] o).1,l.by_⟩ w.dot:=by unfold oX;rw [hj,Int.toNat_natCast,getElem!_pos l.cells_ j f]
 simp only;rw [u,show l.cells_[o.col.toNat]! =l.cells_[j] from by rw [hj,Int.toNat_natCast,getElem!_pos l.cells_ j f]];have m:=m (l.cells_.set j (eT w l.cells_[j] o).1);have d:=d (cT ⟨l.key,l.cells_.set j (eT w l.cells_[j] o).1,l.by_⟩ w.dot);have C:(l.cells_.set j (eT w l.cells_[j] o).1).length=l.cells_.length:=List.length_set ..;generalize eT w l.cells_[j] o=R at*;generalize cT ⟨l.key,l.cells_.set j R.1,l.by_⟩ w.dot=W at*;generalize bN b o.table W=B at*;generalize l.cells_.set j R.1=N at*;by_cases F:R.2≠0
 ·rw [zp F]
  refine pF Tryz.func70 rfl (λst=> ?_)
  (repeat' first|exact Cn.any ⟨_,_,st,rfl,zwr _,aU (aU (zsr _) hid) hid,rfl,rfl⟩|apply wD pk [7] [];kernel_rfl;rfl;rfl|(apply Cn.cf;focus (((apply r));done))|(apply cP;rfl;(apply (p _ (by omega)));rintro _ st' (⟨id,rfl,hid,rfl⟩))|(apply cP;rfl;(apply (x id _ (aA _ _ _)));rintro _ st' (⟨rfl,rfl⟩))|apply wZ;rfl|show Cn _;constructor|apply ixA pk;(iterate 5 rfl);rotate_left;rfl;(intro hw;(exact (show _=((j:Nat):Int) from by omega)));(intro hw;(omega));rfl;(exact Nat.zero_add _)|apply wY;rfl|omega|intro h)
 ·rw [zn F]
  have E:=λid=>(show FzL id 5 (N.map Cl.cells) [.agg [(vi (l.key)), .vec id 5 0 l.cells_.length, .seq (l.by_.map Dt.cells)], .agg w.dot.cells] [.agg [(vi (l.key)), .seq (N.map Cl.cells), .seq (l.by_.map Dt.cells)], .agg w.dot.cells] from .cons (.agg (.cons .refl (.cons (fW C) (.cons .refl .nil)))) (.cons .refl .nil));refine pF Tryz.func70 rfl (λst=> ?_)
  (repeat' first|exact Cn.any ⟨_,_,st,rfl,zwr _,aU (aU (aU (zsr _) hid) hid) hid,rfl,rfl⟩|apply wDO pk [0,1,2,3,4,5,6,7,8] [7] [] [7] [];rfl;rfl;kernel_rfl;rfl;rfl|apply wDO pk [0,1,2,3,4,5,6,7,8,9] [6] [] [6] [];rfl;rfl;kernel_rfl;rfl;rfl|(apply Cn.cf;focus (((first|apply r|apply hd|apply d));done))|(apply cP;rfl;(apply (p _ (by omega)));rintro _ st' (⟨id,rfl,hid,rfl⟩))|(apply cP;rfl;(apply (x id _ (aA _ _ _)));rintro _ st' (⟨rfl,rfl⟩))|(apply cP;rfl;(apply (PC.freezeZ (aA _ _ _) abH (E id) (m _)));rintro _ st' (⟨rfl,rfl⟩))|apply wZ;rfl|show Cn _;constructor|apply ixA pk;(iterate 5 rfl);rotate_left;rfl;(intro hw;(exact (show _=((j:Nat):Int) from by omega)));(intro hw;(omega));rfl;(exact Nat.zero_add _)|apply wY;rfl|omega|intro h)
theorem aI2 (c:eO s o=0):PF Tryz.prog 70 [.agg w.cells, .agg (scC s), .agg (bsC b), .agg o.cells] (nG (atH w s b o)):=by
 unfold atH;by_cases a:o.kind=1
 ·rw [zp a];exact aIL hD hb c a
 ·rw [zn a]
  by_cases h8:o.kind=8
  ·rw [zp h8];exact aIn hD hb h8
  ·rw [zn h8];exact aHA hD hb c a h8
end
end
section
set_option maxRecDepth 10000
set_option maxHeartbeats 4000000
variable {w v:Wr} {s:Sc} {b:Bs}
theorem kQ (o:Ot) (r:List Ot):aR w s b (o::r)=if (bD w s b o).2≠0 then ([],(bD w s b o).2) else aR w s (bD w s b o).1 r:=rfl
theorem mP (hw:pW w=true):∀{l:List Ot} {b:Bs} {k:Nat},aV T.rightP s b=true->OpW k b->(∀o∈l,mC o)->(aR w s b l).2=0->aV T.rightP s (aR w s b l).1=true/\OpW (k+l.length) (aR w s b l).1
 |[],b,k,hb,h,_,_=>⟨hb,h⟩
 |o::r,b,k,hb,h,ho,h0=>by
  unfold aR at*
  split at h0
  ·rename_i q;exact absurd h0 q
  ·rename_i q
   rw [zn q];have:=mP hw (l:=r) (arN hw hb (zdn q)) (aEH (k:=k) h (ho o (by simp))) (λx hx=>ho x (List.mem_cons_of_mem _ hx)) h0;rw [zlc];exact ⟨this.1,by rw [show k+(r.length+1)=k+1+r.length by omega];exact this.2⟩
theorem kS (o:Ot):∀(l:List Ot) (b:Bs),(aR w s b l).2=0->aR w s b (l++[o])=if (bD w s (aR w s b l).1 o).2≠0 then ([],(bD w s (aR w s b l).1 o).2) else ((bD w s (aR w s b l).1 o).1,0)
 |[],b,_=>rfl
 |x::r,b,h=>by
  rw [List.cons_append]
  unfold aR at*
  split at h
  ·rename_i q;exact absurd h q
  ·rename_i q
   rw [zn q,zn q];exact kS o r _ h
theorem aBh {l m:List Ot} {b:Bs} (h:(aR w s b l).2≠0):aR w s b (l++m)=aR w s b l:=by
 induction l generalizing b with
 |nil=>exact absurd rfl h
 |cons o r ih=>
  rw [List.cons_append,kQ,kQ];rw [kQ] at h;split
  ·rfl
  ·rename_i q
   rw [zn q] at h;exact ih h
theorem awZ {l:List Ot} {i:Nat} (hi:i<l.length) {b:Bs} (h:(aR w s b (l.take i)).2=0):aR w s b (l.take (i+1))=if (bD w s (aR w s b (l.take i)).1 l[i]).2≠0 then ([],(bD w s (aR w s b (l.take i)).1 l[i]).2) else ((bD w s (aR w s b (l.take i)).1 l[i]).1,0):=by
 rw [List.take_succ_eq_append_getElem hi,kS _ _ _ h]
theorem aoC {l:List Ot} {i:Nat} {b:Bs} (h:(aR w s b (l.take i)).2≠0):aR w s b l=aR w s b (l.take i):=by
 have:=aBh (m:=l.drop i) h;rwa [List.take_append_drop] at this
theorem eK :rightW w s b=true↔rightC s=0/\aV T.rightP s b=true/\pW w=true:=by
 unfold rightW mayC;rw [zba,zba,zde,and_assoc]
theorem ajF {l:List Ot} (h:(fP w s b l).2=0):rightW w s b=true/\(aR w s b l).2=0/\whyC s (aR w s b l).1=0/\(fP w s b l).1=(aR w s b l).1:=by
 unfold fP at*;split at h
 ·cases h
 ·rename_i d
  rw [zn d];split at h
  ·cases h
  ·rename_i e
   rw [zn e];split at h
   ·rename_i a;exact absurd h a
   ·rename_i a
    rw [zn a];split at h
    ·rename_i c;exact absurd h c
    ·rename_i c
     rw [zn c];exact ⟨by simpa using d,zdn a,zdn c,rfl⟩
def aaP (o:Ot):Int:=if o.kind=1 then o.row[0]!.n else o.key
def acG (w:Wr) (s:Sc) (o:Ot) (g:Option Ln):Ln×Int:=if eO s o≠0 then (Ln.zero,eO s o) else if o.kind=1 then (if g.isSome=true then (Ln.zero,8) else if kI w s[o.table.toNat]! o.row≠0 then (Ln.zero,kI w s[o.table.toNat]! o.row) else (eU w s[o.table.toNat]! o.row,0)) else match g with
 |none=>(Ln.zero,4)
 |some l=>if (eT w l.cells_[o.col.toNat]! o).2≠0 then (Ln.zero,(eT w l.cells_[o.col.toNat]! o).2) else (oX w o l,0)
theorem amU {o:Ot} (h8:o.kind≠8) (hl:(aF b o.table).length<2000):bD w s b o=if (acG w s o (aY (aF b o.table) (aaP o))).2≠0 then ([],(acG w s o (aY (aF b o.table) (aaP o))).2) else (bN b o.table (acG w s o (aY (aF b o.table) (aaP o))).1,0):=by
 unfold bD acG aaP;by_cases a:eO s o≠0
 ·rw [zp a,zp a,zp a]
 ·rw [zn a,zn a]
  by_cases c:o.kind=1
  ·simp only [zp c]
   unfold aE0;by_cases g:(aY (aF b o.table) o.row[0]!.n).isSome=true
   ·rw [zp g,zp g];rfl
   ·rw [zn g,zn g,zn (by omega)]
    split<;>rfl
  ·simp only [zn c,zn h8]
   unfold anN;cases aY (aF b o.table) o.key with
   |none=>rfl
   |some l=>
    simp only;split<;>rfl
theorem aHm {o:Ot} {g:Option Ln} (hg:∀l,g=some l->l.key=aaP o) (h:(acG w s o g).2=0):(acG w s o g).1.key=aaP o/\w.dot∈(acG w s o g).1.by_:=by
 unfold acG at*;split at h
 ·rename_i q;exact absurd h q
 rename_i q;rw [zn q];by_cases c:o.kind=1
 ·simp only [zp c] at h⊢
  split at h
  ·cases h
  rename_i d;rw [zn d];split at h
  ·rename_i a;exact absurd h a
  rename_i a;rw [zn a];exact ⟨by unfold aaP;rw [zp c];rfl,by simp [eU]⟩
 ·simp only [zn c] at h⊢
  cases g with
  |none=>cases h
  |some l=>
   simp only at h⊢;split at h
   ·rename_i a;exact absurd h a
   rename_i a;rw [zn a];refine ⟨?_, ?_⟩
   ·rw [<-hg l rfl];unfold oX cT;split<;>rfl
   ·unfold oX;rw [aoG];exact (alN _ _ _).2 (.inl rfl)
theorem fV {k k':Int} {a:Ln} (hk:okT b k=true):aF (bN b k a) k'=if k'=k then gX (aF b k) a else aF b k':=by
 rw [mV];by_cases e:k'=k
 ·subst e;rw [zp rfl,sA hk]
 ·rw [zn e]
  unfold aF;rw [vK];split
  ·rename_i q
   unfold iH;rw [zp hk];unfold okT at q hk;simp only [zba,zde] at q hk;rw [getElem!_pos _ _ (by rw [List.length_set];omega),getElem!_pos b _ (by omega),List.getElem_set,zn (by omega)];rw [getElem!_pos b _ (by omega)]
  ·rfl
theorem aCw {o:Ot} (hb:aV T.rightP s b=true) (h:eO s o=0):okT b o.table=true:=by
 obtain ⟨k,e,hk,_⟩:=rY h;unfold okT;simp only [zba,zde];have:=(aI.1 hb).1.2;omega
theorem aAJ {o:Ot} {g:Option Ln} (h:(acG w s o g).2=0):eO s o=0:=by
 unfold acG at h;split at h
 ·rename_i q;exact absurd h q
 ·rename_i q;exact zdn q
theorem apK {o:Ot} (hb:aV T.rightP s b=true) (h8:o.kind≠8) (hl:(aF b o.table).length<2000) (h0:(bD w s b o).2=0):∃a:Ln,a.key=aaP o/\w.dot∈a.by_/\(acG w s o (aY (aF b o.table) (aaP o)))=(a,0)/\bD w s b o=(bN b o.table a,0)/\okT b o.table=true:=by
 rw [amU h8 hl] at h0⊢;split at h0
 ·rename_i q;exact absurd h0 q
 rename_i q;have q:=zdn q;rw [zn (by simp [q])];obtain ⟨k1,k2⟩:=aHm (λl hg=>((eG (dR hb _)).1 hg).2) q;exact ⟨_,k1,k2,Prod.ext rfl q,rfl,aCw hb (aAJ q)⟩
theorem sH {k k' key:Int} {a:Ln} (hb:aV T.rightP s b=true) (hk:okT b k=true):aY (aF (bN b k a) k') key=if k'=k/\key=a.key then some a else aY (aF b k') key:=by
 rw [fV hk];have d:=dR hb k;by_cases e:k'=k
 ·subst e
  rw [zp rfl];by_cases c:key=a.key
  ·rw [zp ⟨rfl,c⟩,c,aF5 d]
  ·rw [zn (λq=>c q.2),aAP d c]
 ·rw [zn e,zn (λq=>e q.1)]
theorem abE {k:Int} (h:okT b k=true) (a:List Ln):iH b k a=b.set k.toNat ⟨a⟩:=by unfold iH;rw [zp h]
theorem aAK {k k':Int} {a c:Ln} (hb:aV T.rightP s b=true) (hk:okT b k=true) (d:okT b k'=true) (h:¬(k=k'/\a.key=c.key)):bN (bN b k a) k' c=bN (bN b k' c) k a:=by
 have f:=dR hb k;by_cases e:k=k'
 ·subst e
  rw [mV,mV,mV,mV,sA hk,sA hk,set_set,set_set,aDL f (λq=>h ⟨rfl,q⟩)]
 ·rw [mV (bN b k a),mV (bN b k' c),fV hk,fV d,zn (λq=>e q.symm),zn e,mV,mV]
  rw [abE (by rw [vK];exact d),abE hk,abE (by rw [vK];exact hk),abE d];unfold okT at hk d;simp only [zba,zde] at hk d;exact List.set_comm _ _ (by omega)
end
end Go.Proofs.YtfablfldonhkiaaGreatDoor
