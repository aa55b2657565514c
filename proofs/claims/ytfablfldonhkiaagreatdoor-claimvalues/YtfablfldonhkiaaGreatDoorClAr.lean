import Derived.Test.YtfablfldonhkiaaGreatDoorClAp
import Derived.Test.YtfablfldonhkiaaGreatDoorClAq
import Derived.Test.YtfablfldonhkiaaGreatDoorClAn
import Derived.Test.YtfablfldonhkiaaGreatDoorAbsI
set_option linter.unusedSimpArgs false
set_option linter.unusedVariables false
namespace Go.Proofs.YtfablfldonhkiaaGreatDoor
open Go Go.Abs
section
set_option maxRecDepth 10000
set_option maxHeartbeats 4000000
def LnW (k:Nat) (l:Ln):Prop:=l.by_.length<=60+k/\l.cells_.length<=20/\∀c∈l.cells_,c.parts.length<=40+40*k
def OpW (k:Nat) (b:Bs):Prop:=b.length<=20/\∀d∈b,d.lines.length<=100+k/\∀l∈d.lines,LnW k l
theorem LnW.S {k:Nat} {l:Ln} (h:LnW k l) (hk:k<=20):LnS l:=⟨by have:=h.1;omega,by have:=h.2.1;omega,λc hc=>by have:=h.2.2 c hc;omega⟩
theorem OpW.S {k:Nat} {b:Bs} (h:OpW k b) (hk:k<=20):BsS 200 b:=⟨h.1,λd hd=>⟨by have:=(h.2 d hd).1;omega,λl hl=>((h.2 d hd).2 l hl).S hk⟩⟩
theorem LnW.up {k m:Nat} {l:Ln} (h:LnW k l) (hkm:k<=m):LnW m l:=⟨by have:=h.1;omega,h.2.1,λc hc=>by have:=h.2.2 c hc;omega⟩
theorem OpW.nil (k:Nat):OpW k []:=⟨by simp,λd hd=>by cases hd⟩
theorem aId {b:Bs} (h:uZ b=true):OpW 0 b:=by
 have h0:=h
 unfold uZ at h
 simp only [zba,zde,zal] at h
 obtain ⟨h1,h2,h3⟩:=h
 refine ⟨by omega,λd hd=>⟨?_,λl hl=> ?_⟩⟩
 ·have:=((aGC h0).2 d hd).1;omega
 ·have:=h3 d hd l hl
  unfold fE lR at this
  simp only [zba,zde,zal] at this
  exact ⟨by omega,by omega,λc hc=>by have:=this.1 c hc;omega⟩
theorem iT {k:Nat} {b:Bs} (h:OpW k b) (t:Int):(aF b t).length<=100+k/\∀l∈aF b t,LnW k l:=by
 unfold aF
 split
 ·rename_i ho
  unfold okT at ho
  simp only [zba,zde] at ho
  rw [getElem!_pos b t.toNat (by omega)]
  exact h.2 _ (zgm _)
 ·exact ⟨by simp,λl hl=>by cases hl⟩
theorem oA {L:List Ln} {k:Int} {l:Ln} (h:bE L k=some l):l∈L:=by
 unfold bE at h
 exact List.mem_of_find?_eq_some h
theorem aCJ {L:List Ln} {a x:Ln} (h:x∈pJ L a):x=a\/x∈L:=by
 unfold pJ at h
 split at h
 ·exact (List.mem_or_eq_of_mem_set h).symm
 ·rcases aiT.1 (show x∈L.take _++[a]++L.drop _ from h) with q|q
  ·exact .inl q
  ·exact .inr q
theorem aGu {k:Nat} {b:Bs} (h:OpW k b) (t:Int) {a:Ln} (ha:LnW (k+1) a):OpW (k+1) (tM b t a):=by
 unfold tM
 split
 ·refine ⟨by rw [List.length_set];exact h.1,λd hd=> ?_⟩
  rcases List.mem_or_eq_of_mem_set hd with q|rfl
  ·exact ⟨by have:=(h.2 d q).1;omega,λl hl=>((h.2 d q).2 l hl).up (by omega)⟩
  ·obtain ⟨q1,q2⟩:=iT h t
   refine ⟨?_,λl hl=> ?_⟩
   ·have:=aiZ (aF b t) a
    show (pJ (aF b t) a).length<=_
    omega
   ·rcases aCJ hl with rfl|hl
    ·exact ha
    ·exact (q2 l hl).up (by omega)
 ·exact ⟨h.1,λd hd=>⟨by have:=(h.2 d hd).1;omega,λl hl=>((h.2 d hd).2 l hl).up (by omega)⟩⟩
theorem aHM {t:Tb} {G:R2->Bool} {who:Dt} {l:Ln} {m:Nat} (h:LnW m l):LnW (m+1) (kU t G who l):=by
 obtain ⟨h1,h2,h3⟩:=h
 have hw:=aeL l who
 unfold kU
 split
 ·refine ⟨?_, ?_,λc hc=> ?_⟩
  ·show (cZ l who).by_.length<=_;omega
  ·show (eK _ _ _).length<=_;rw [dA];exact h2
  ·obtain ⟨j,hj,rfl⟩:=zgo hc
   have hj:j<(eK (dW G l) t.foreign l.cells_).length:=hj
   rw [dA] at hj
   show ((eK (dW G l) t.foreign l.cells_)[j]'(by rw [dA];exact hj)).parts.length<=_
   rw [nZ hj]
   split
   ·simp [Cl.zero]
   ·have:=h3 _ (zgm hj);omega
 ·exact ⟨by omega,by omega,λc hc=>by have:=h3 c hc;omega⟩
theorem aEz {rb:Bool} {s:Sc} {b:Bs} {z:R2} {who:Dt} {M:List R2} {m:Nat} (h:OpW m b):OpW (m+1) (vT rb s b z who M).1:=by
 unfold vT
 split
 ·split
  ·split
   ·refine ⟨by rw [agO];exact h.1,λd hd=> ?_⟩
    unfold yO at hd
    obtain ⟨k,hk,rfl⟩:=List.mem_map.1 hd
    have hk:=List.mem_range.1 hk
    obtain ⟨q1,q2⟩:=h.2 _ (zgm hk)
    refine ⟨?_,λx hx=> ?_⟩
    ·show (qS s b (inR M) who k).length<=_
     unfold qS
     rw [zql,getElem!_pos b k hk]
     have:=List.length_filter_le (λl:Ln=> !inR M ((k:Int),l.key)) b[k].lines
     omega
    ·obtain ⟨l,hl,_,rfl⟩:=ajY.1 hx
     rw [getElem!_pos b k hk] at hl
     exact aHM (q2 l hl)
   ·exact OpW.nil _
  ·exact OpW.nil _
 ·exact OpW.nil _
theorem oF {l:List Pt} {k:Nat} {x:Pt}:(dH l k [x]).length=l.length+1:=by
 unfold dH
 simp only [zla,zlt,zld,List.length_singleton]
 omega
def lV (o:Ot):Prop:=o.row.length<=20/\o.val.s.size<=40/\∀v∈o.row,v.s.size<=40
theorem alC (c:Cl) (n:Int):(tK c n).1.parts.length=0:=by
 unfold tK
 split
 ·rfl
 ·split
  ·rfl
  ·split<;>rfl
theorem aBA (w:Wr) (c:Cl) (o:Ot) {m:Nat} (hc:c.parts.length<=m) (ho:lV o):(eR w c o).1.parts.length<=m+40:=by
 unfold eR
 have h1:=alC c o.val.n
 have h2:=List.length_filter_le (rS w.dot w.knew) c.parts
 have h3:=List.length_filter_le (rZ o.val.n w.dot w.knew) c.parts
 have h4:=T.type_len c o.val.s w.who ⟨o.after,o.at_⟩
 have h5:=T.eraseP_len ⟨o.after,o.at_⟩ c
 have h6:=ho.2.1
 have h7:(gW c o.val w.dot w.knew).parts.length<=c.parts.length+1:=by unfold gW;simp only;rw [oF];omega
 have h8:(nL c o.val.n w.dot).parts.length<=c.parts.length+1:=by
  unfold nL
  split
  ·omega
  ·simp only;rw [oF];omega
 have h9:(rW c o.val.n w.dot w.knew).parts.length<=c.parts.length:=h3
 repeat' split
 all_goals ((try dsimp only);first|omega|simp;done)
theorem awX (w:Wr) (k:Int) (v:Vl) (hv:v.s.size<=40):(kK w k v).1.parts.length<=40:=by
 unfold kK
 have h1:=alC (oW 0) v.n
 have h4:=T.type_len ⟨4,Vl.zero,[]⟩ v.s w.who T.Nm.zero
 have h7:(gW ⟨k,Vl.zero,[]⟩ v w.dot w.knew).parts.length<=1:=by unfold gW;simp only;rw [oF];simp
 have h8:(nL ⟨k,Vl.zero,[]⟩ v.n w.dot).parts.length<=1:=by
  unfold nL
  split
  ·simp
  ·simp only;rw [oF];simp
 simp only [List.length_nil] at h4
 repeat' split
 all_goals ((try dsimp only);first|omega|simp;done)
theorem aHa {w:Wr} {t:Tb} {o:Ot} (ho:lV o) (k:Nat):LnW (k+1) (eS w t o.row):=by
 refine ⟨by simp only [eS,List.length_singleton];omega,by unfold eS;simp only [zql,List.length_range];exact ho.1,λc hc=> ?_⟩
 unfold eS at hc
 obtain ⟨i,hi,rfl⟩:=List.mem_map.1 hc
 have hi:=List.mem_range.1 hi
 have:=awX w t.cols[i]!.kind o.row[i]! (by rw [getElem!_pos o.row i hi];exact ho.2.2 _ (zgm hi))
 unfold oD
 omega
theorem aIG {w:Wr} {o:Ot} {l:Ln} {k:Nat} (ho:lV o) (h:LnW k l):LnW (k+1) (rK w o l):=by
 obtain ⟨h1,h2,h3⟩:=h
 have hw:=aeL ⟨l.key,l.cells_.set o.col.toNat (eR w l.cells_[o.col.toNat]! o).1,l.by_⟩ w.dot
 have hc:(rK w o l).cells_=l.cells_.set o.col.toNat (eR w l.cells_[o.col.toNat]! o).1:=by unfold rK cZ;split<;>rfl
 refine ⟨?_, ?_,λc hc'=> ?_⟩
 ·show (cZ _ _).by_.length<=_
  simp only at hw;omega
 ·rw [hc,List.length_set];exact h2
 ·rw [hc] at hc'
  rcases List.mem_or_eq_of_mem_set hc' with q|rfl
  ·have:=h3 c q;omega
  ·by_cases hj:o.col.toNat<l.cells_.length
   ·rw [getElem!_pos l.cells_ _ hj]
    have:=aBA w l.cells_[o.col.toNat] o (h3 _ (zgm hj)) ho
    omega
   ·rw [List.set_eq_of_length_le (by omega)] at hc'
    have:=h3 _ hc';omega
theorem aDF {w:Wr} {s:Sc} {b:Bs} {o:Ot} {k:Nat} (h:OpW k b) (ho:lV o):OpW (k+1) (bS w s b o).1:=by
 unfold bS
 split
 ·exact OpW.nil _
 ·split
  ·unfold aGj
   split
   ·exact OpW.nil _
   ·split
    ·exact OpW.nil _
    ·split
     ·exact OpW.nil _
     ·exact aGu h _ (aHa ho k)
  ·split
   ·exact aEz h
   ·unfold auV
    cases hg:bE (aF b o.table) o.key with
    |none=>exact OpW.nil _
    |some l=>
     simp only
     split
     ·exact OpW.nil _
     ·exact aGu h _ (aIG ho ((iT h _).2 l (oA hg)))
theorem arB {tx:Cl->Int} {t:Tb} {L:List Ln} (h:tD tx t L=true) (a:Ln) (hl:(pJ L a).length<=2000) (ha:kE tx t a=true):tD tx t (pJ L a)=true:=by
 obtain ⟨h1,h2,h3⟩:=fZ.1 h
 refine fZ.2 ⟨hl,λx hx=> ?_,h3.put a⟩
 rcases (ahP h3 a x).1 hx with rfl|w
 ·exact ha
 ·exact h2 x w.1
theorem aG6 (b:Bs) (k:Int) (a:Ln):tM b k a=adE b k (pJ (aF b k) a):=rfl
theorem afP {s:Sc} {b:Bs} {k:Nat} (h:bH T.rightP s b=true) (hk:k<s.length) {a:Ln} (hl:(pJ (aF b k) a).length<=2000) (ha:LineOK T.rightP s[k] a):bH T.rightP s (tM b k a)=true:=by
 obtain ⟨⟨h1,h2⟩,_⟩:=aU.1 h
 have hok:okT b (k:Int)=true:=by unfold okT;simp only [zba,zde];omega
 rw [aG6,azM h hok,Int.toNat_natCast,getElem!_pos s k hk]
 have hd:=acN h hok
 rw [Int.toNat_natCast,getElem!_pos s k hk] at hd
 exact arB hd a hl (yZ.2 ha)
theorem adF {L:List Ln} {a:Ln} (h:(bE L a.key).isSome=true):(pJ L a).length=L.length:=by
 rcases aaC L a.key with ⟨j,hj,e,_⟩|⟨j,hj,e,q,_⟩
 ·unfold pJ;rw [e,zp rfl,List.length_set]
 ·rw [q] at h;cases h
theorem aIb {s:Sc} (h:cB s=0) {k:Nat} (hk:k<s.length):s[k].cols[0]!.kind=0/\s[k].cols[0]!.type_=1/\s[k].cols[0]!.null=false:=by
 have h3:=fH h hk (lk3 s[k]!) (by simp [lks])
 rw [getElem!_pos s k hk] at h3
 unfold lk3 at h3
 split at h3
 ·cases h3
 ·rename_i q2
  rw [not_or] at q2
  have h4:mF s[k].cols[0]! =true:=by simpa using q2.1
  unfold mF at h4
  rw [zba,zde,zde] at h4
  exact ⟨h4.1,h4.2,by simpa using q2.2⟩
theorem aIW {s:Sc} (h:cB s=0) {k:Nat} (hk:k<s.length) {j:Nat} (hj:j<s[k].cols.length):0<=s[k].cols[j].kind/\s[k].cols[j].kind<=4:=by
 have h2:=fH h hk (lk2 s[k]!) (by simp [lks])
 rw [getElem!_pos s k hk] at h2
 unfold lk2 at h2
 have:=vB (show orI ((List.range s[k].cols.length).map (amO s[k]))=0 from h2) _ (List.mem_map.2 ⟨j,List.mem_range.2 hj,rfl⟩)
 unfold amO avT at this
 rw [getElem!_pos s[k].cols j hj] at this
 split at this
 ·cases this
 ·rename_i q;simp only [not_or] at q;omega
theorem ayR {w:Wr} {s:Sc} (h:cB s=0) {k:Nat} (hk:k<s.length) {o:Ot} (hw:pG w=true) (hr:atC s[k] o=0) (he:lH w s[k] o.row=0):LineOK T.rightP s[k] (eS w s[k] o.row):=by
 unfold atC at hr
 split at hr
 ·cases hr
 split at hr
 ·rename_i q;exact absurd hr q
 rename_i q1 q2
 split at hr
 ·cases hr
 rename_i q3
 simp only [not_or,Bool.not_eq_false,Decidable.not_not] at q1 q2 q3
 have hlen:=atM q2
 have hv:∀j,j<o.row.length->sW s[k].cols[j]! o.row[j]! =0:=λj hj=>by
  unfold eH at q2
  rw [zp hlen.symm] at q2
  exact gG.1 q2 j (List.mem_range.2 hj)
 have hf:∀j (hj:j<o.row.length),iU T.rightP (oD w s[k] o.row j).1=true/\(oD w s[k] o.row j).1.kind=s[k].cols[j]!.kind:=λj hj=>by
  have h0:=gG.1 he j (List.mem_range.2 hj)
  have hc:=aIW h hk (j:=j) (by omega)
  refine aA8 hw ?_ (hv j hj) h0
  rw [getElem!_pos s[k].cols j (by omega)];exact hc
 have hl:(eS w s[k] o.row).cells_.length=o.row.length:=by unfold eS;simp
 have hg:∀j (hj:j<(eS w s[k] o.row).cells_.length),(eS w s[k] o.row).cells_[j]=(oD w s[k] o.row j).1:=λj hj=>by
  unfold eS
  show (List.map _ _)[j]'(by simpa [eS] using hj)=_
  rw [List.getElem_map,List.getElem_range]
 have hk0:=q3.2
 unfold ayH at hk0
 simp only [zba,zde] at hk0
 have hpos:0<o.row.length:=by omega
 refine ⟨hk0.1,by show o.row[0]!.n<_;omega,by rw [hl];exact hlen,λj hj=> ?_,λc hc=> ?_, ?_, ?_⟩
 ·rw [hg j hj];exact (hf j (by omega)).2
 ·obtain ⟨j,hj,rfl⟩:=zgo hc
  rw [hg j hj];exact (hf j (by omega)).1
 ·rw [getElem!_pos _ 0 (by rw [hl];exact hpos),hg 0 (by rw [hl];exact hpos)]
  obtain ⟨c1,c2,c3⟩:=aIb h hk
  have hv0:=hv 0 hpos
  unfold oD kK
  rw [zp c1]
  show o.row[0]! =⟨1,o.row[0]!.n,e0⟩
  unfold sW at hv0
  split at hv0
  ·cases hv0
  split at hv0
  ·cases hv0
  split at hv0
  ·cases hv0
  rename_i r1 r2 r3
  have hk1:o.row[0]!.kind=1:=by
   have hkc:dQ s[k].cols[0]! =1:=by unfold dQ;rw [zp (.inl c1),c2]
   by_cases z:o.row[0]!.kind=0
   ·exact absurd ⟨z, .inl c1,c3⟩ r2
   ·exact Classical.byContradiction λy=>r3 ⟨z,by rw [hkc];exact y⟩
  have hvr:bX o.row[0]! =true:=by simpa using r1
  unfold bX at hvr
  rw [zn (by omega),zp hk1] at hvr
  simp only [zba,zde] at hvr
  rw [Vl.ext_iff]
  exact ⟨hk1,rfl,hvr.1.1⟩
 ·refine acD.2 ⟨λx hx=> ?_, ?_⟩
  ·have hx:x∈[w.dot]:=hx
   rw [zms.1 hx];exact qD hw
  ·exact List.pairwise_singleton _ _
theorem axC {w:Wr} {t:Tb} {o:Ot} {l:Ln} (hw:pG w=true) (hL:LineOK T.rightP t l) (hr:abA t o=0) (h0:(eR w l.cells_[o.col.toNat]! o).2=0):LineOK T.rightP t (rK w o l):=by
 unfold abA at hr
 split at hr
 ·cases hr
 split at hr
 ·cases hr
 split at hr
 ·cases hr
 split at hr
 ·rename_i q;exact absurd hr q
 rename_i q1 q2 q3 q4
 simp only [not_or,Bool.not_eq_false,Decidable.not_not] at q1 q2 q3 q4
 obtain ⟨k1,k2,ln,kd,ce,ze,ds⟩:=hL
 have hj:o.col.toNat<l.cells_.length:=by omega
 rw [<-kd _ hj] at q3
 rw [getElem!_pos l.cells_ _ hj] at h0
 obtain ⟨t1,t2⟩:=aGb hw (ce _ (zgm hj)) q3 q4 h0
 have hc:(rK w o l).cells_=l.cells_.set o.col.toNat (eR w l.cells_[o.col.toNat] o).1:=by
  unfold rK cZ
  rw [getElem!_pos l.cells_ _ hj]
  split<;>rfl
 have hkey:(rK w o l).key=l.key:=by unfold rK cZ;split<;>rfl
 refine ⟨by rw [hkey];exact k1,by rw [hkey];exact k2,by rw [hc,List.length_set];exact ln,λj hjj=> ?_,λc hcc=> ?_, ?_,acU ds (qD hw)⟩
 ·simp only [hc,List.getElem_set]
  simp only [hc,List.length_set] at hjj
  split
  ·rename_i e;subst e;rw [t2];exact kd _ hj
  ·exact kd j hjj
 ·rw [hc] at hcc
  rcases List.mem_or_eq_of_mem_set hcc with q|rfl
  ·exact ce c q
  ·exact t1
 ·rw [hkey,hc,<-ze,getElem!_pos _ 0 (by rw [List.length_set];omega),List.getElem_set,zn (by omega),getElem!_pos l.cells_ 0 (by omega)]
theorem abH {tx:Cl->Int} {s:Sc} {b:Bs} (hg:bH tx s b=true) {k:Nat} (hk:k<s.length) {l:Ln} (hl:l∈aF b k):LineOK tx s[k] l:=by
 obtain ⟨⟨h1,h2⟩,_⟩:=aU.1 hg
 have hkb:k<b.length:=by omega
 have hl:l∈b[k].lines:=by
  unfold aF okT at hl
  rw [zp (by simp;omega),Int.toNat_natCast,getElem!_pos b k hkb] at hl
  exact hl
 have hL:=rE hg hkb hl
 rwa [getElem!_pos s k hk] at hL
theorem wA {s:Sc} {o:Ot} (h:fY s o=0):∃k:Nat,o.table=k/\∃hk:k<s.length,(o.kind=1->atC s[k] o=0)/\(o.kind≠1->o.kind≠8->abA s[k] o=0):=by
 unfold fY at h
 split at h
 ·cases h
 split at h
 ·cases h
 rename_i q1 q2
 refine ⟨o.table.toNat,by omega,by omega,λe=> ?_,λe1 e8=> ?_⟩
 ·rw [zp e,getElem!_pos s _ (by omega)] at h;exact h
 ·rw [zn e1] at h
  split at h
  ·cases h
  rw [getElem!_pos s _ (by omega)] at h;exact h
theorem aoL {w:Wr} {s:Sc} {b:Bs} {o:Ot} (hw:pG w=true) (hb:bH T.rightP s b=true) (h0:(bS w s b o).2=0):bH T.rightP s (bS w s b o).1=true:=by
 have hs:=(aU.1 hb).1.1
 unfold bS at*
 by_cases hr:fY s o=0
 ·rw [zn (by simp [hr])] at h0⊢
  obtain ⟨k,hk,hks,r1,r2⟩:=wA hr
  by_cases h1:o.kind=1
  ·rw [zp h1] at h0⊢
   unfold aGj at*
   split at h0
   ·cases h0
   split at h0
   ·cases h0
   rw [hk,Int.toNat_natCast,getElem!_pos s k hks] at h0⊢
   split at h0
   ·rename_i q;exact absurd h0 q
   rename_i q1 q2 q3
   rw [hk] at q1 q2
   rw [zn q1,zn q2,zn q3]
   refine afP hb hks ?_ (ayR hs hks hw (r1 h1) (zdn q3))
   have:=aiZ (aF b (k:Int)) (eS w s[k] o.row)
   omega
  ·rw [zn h1] at h0⊢
   by_cases h8:o.kind=8
   ·rw [zp h8] at h0⊢
    unfold vT at*
    rw [zp rfl] at h0⊢
    split at h0
    ·rename_i q;rw [zp q]
     split at h0
     ·rename_i q2;rw [zp q2];exact aDq hb (qD hw)
     ·cases h0
    ·cases h0
   ·rw [zn h8] at h0⊢
    unfold auV at*
    rw [hk] at h0⊢
    cases hg:bE (aF b (k:Int)) o.key with
    |none=>rw [hg] at h0;cases h0
    |some l=>
     rw [hg] at h0
     simp only at h0⊢
     split at h0
     ·rename_i q;exact absurd h0 q
     rename_i q
     rw [zn q]
     have hL:=abH hb hks (oA hg)
     obtain ⟨_,hkey⟩:=(iP (eO hb (k:Int))).1 hg
     refine afP hb hks ?_ (axC hw hL (r2 h1 h8) (zdn q))
     have hkk:(rK w o l).key=l.key:=by unfold rK cZ;split<;>rfl
     rw [adF (by rw [hkk,hkey,hg];rfl)]
     have hok:okT b (k:Int)=true:=by unfold okT;simp only [zba,zde];have:=(aU.1 hb).1.2;omega
     exact (fZ.1 (acN hb hok)).1
 ·rw [zp hr] at h0
  exact absurd h0 hr
end
section
attribute [local irreducible] Ev PWp
set_option maxRecDepth 10000
set_option maxHeartbeats 4000000
def aDS (l:Ln) (e:Int):PV:= .tup [.agg l.cells,(vi (e))]
theorem aIB (e:Int):Wk (.tup [.agg [(vi (0)), .val (.slice none 0 0), .val (.slice none 0 0)],(vi (e))]) (aDS Ln.zero e):=Wk.tup (.cons (.agg (.cons (zwr _) (.cons Wk.nil (.cons Wk.nil .nil)))) (.cons (zwr _) .nil))
structure RwI (w:Wr) (t:Tb) (r:List Vl):Prop where
 pos:0<r.length
 len:r.length<=t.cols.length
 l20:r.length<=1000
 n:∀v∈r,inL v.n
 s:∀v∈r,v.s.size<1000000
 kn:w.knew.length<1000000000000
theorem aES (w:Wr) (t:Tb) (r:List Vl) (h:RwI w t r) (st:aD):PC Tryz.prog 115 [.agg w.cells, .agg t.cells, .seq (r.map Vl.cells)] st λR S=>(lH w t r≠0/\R= .tup [.agg [(vi (0)), .val (.slice none 0 0), .val (.slice none 0 0)],(vi (lH w t r))]/\S=st)\/(lH w t r=0/\∃id,R= .tup [.agg [(vi (r[0]!.n)), .vec id 5 0 r.length, .seq [w.dot.cells]],(vi (0))]/\st id=none/\S=upd st id (some (.arr 110 ((eS w t r).cells_.map Cl.cells)))):=by
 have hd:=iH w
 have hpos:=h.pos
 have hr0:=getElem!_pos r 0 hpos
 have hL:(eS w t r).cells_.length=r.length:=by unfold eS;simp
 have hAt:∀i (hi:i<r.length),(eS w t r).cells_[i]'(by rw [hL];exact hi)=(oD w t r i).1:=λi hi=>by
  unfold eS
  show (List.map _ _)[i]'(by simpa using hi)=_
  rw [List.getElem_map,List.getElem_range]
 have hlE:lH w t r=dZ (λi=>(oD w t r i).2) (List.range r.length):=rfl
 have hfr:=λi (hi:i<r.length)=>asA w t.cols[i]!.kind r[i]! (by rw [getElem!_pos r i hi];exact h.n _ (zgm hi)) (by rw [getElem!_pos r i hi];exact h.s _ (zgm hi)) h.kn
 have hlen:=h.len
 have hl20:=h.l20
 rw [hr0]
 generalize (eS w t r).cells_=N at*
 generalize lH w t r=E at*
 refine pC Tryz.func115 rfl ?_
 focus ((repeat' first|apply wZ;rfl|show Cn _;constructor|exact rfl|apply KR.mk;kernel_rfl|(apply hd)|apply wY;rfl|apply wI;rfl|apply gE;omega))
 refine aDX 8 110 5 [_] rfl rfl rfl (λid hid=> ?_)
 refine aC (X:={x:Nat×Nat//x.1<=r.length/\st x.2=none/\∀j<x.1,(oD w t r j).2=0}) (λi=>((((((((St.nil 52 (upd st i.1.2 (some (.arr 110 ((N.take i.1.1).map Cl.cells))))).var 3 97 (w.cells)).var 4 58 (t.cells)).var 6 47 ([(vi (0)), .val (.slice none 0 0), .val (.slice none 0 0)])).var 8 47 ([(vi (r[0].n)), .vec i.1.2 5 0 i.1.1, .seq [w.dot.cells]])).pv 21 (.seq (r.map Vl.cells))).pv 22 ((vi (((r.map Vl.cells).length:Nat))))).pv 23 ((vi ((i.1.1:Nat)))))) (λi=>r.length-i.1.1) ⟨(0,id),by simp,hid,by simp⟩ ?_ (λi=> ?_)
 ·dsimp only
  (repeat' first|show Cn (.t _ _);exact Cn.t0|show Cn _;constructor|exact rfl)
 obtain ⟨⟨i,id⟩,hi,hid,hI⟩:=i
 simp only at hi hid hI
 dsimp only
 by_cases hend:r.length<=i
 ·obtain rfl:i=r.length:=by omega
  rw [ztl (by omega)]
  have hE:E=0:=by rw [hlE];exact gG.2 λj hj=>hI j (List.mem_range.1 hj)
  (repeat' first|show Cn (.r _ _ _);refine .rr ?_;(exact .inr ⟨hE,id,rfl,hid,rfl⟩);done|apply wZ;rfl|show Cn _;constructor|simp only [zql];omega|(intro h;simp at h))
 have hil:i<r.length:=by omega
 have hic:i<t.cols.length:=by omega
 have hAt:=hAt i hil
 have hfr:=hfr i hil
 rw [getElem!_pos t.cols i hic,getElem!_pos r i hil] at hfr
 have hfe:oD w t r i=kK w t.cols[i].kind r[i]:=by unfold oD;rw [getElem!_pos t.cols i hic,getElem!_pos r i hil]
 rw [<-hfe] at hfr
 have hlT:(N.take i).length=i:=by rw [zlt];omega
 have e:N.take (i+1)=N.take i++[(oD w t r i).1]:=by rw [List.take_succ_eq_append_getElem (by omega),hAt]
 have hup:(oD w t r i).2=0->∀j<i+1,(oD w t r j).2=0:=λq j hj=>by
  rcases zls.1 hj with z|z
  ·exact hI j z
  ·subst z;exact q
 have hEi:(oD w t r i).2≠0->E=(oD w t r i).2:=λq=>by
  rw [hlE]
  have hlr:i<(List.range r.length).length:=by rw [List.length_range];exact hil
  have:=yW (f:=λi=>(oD w t r i).2) (l:=List.range r.length) (i:=i) hlr (λj hj=>by rw [List.getElem_range];exact hI j hj) (by rw [List.getElem_range];exact q)
  rw [this,List.getElem_range]
 generalize oD w t r i=R at*
 obtain ⟨c,e'⟩:=R
 dsimp only at e hup hEi
 unfold yU at hfr
 dsimp only at hfr
 by_cases hz:e'=0
 ·have hu:=hup hz
  (repeat' first|(apply Cn.cf;focus ((apply hfr);done))|refine ⟨⟨(i+1,id'),by simp only;omega,dK hid',hu⟩, ?_, ?_⟩;((dsimp only;try rw [e]))|show Cn (.t _ _);exact .any (bP ‹_›)|apply wZ;rfl|show Cn _;constructor|exact rfl|apply KR.mk;kernel_rfl|(apply apV pk (f:=Cl.cells) [c] 64;(iterate 9 rfl);(exact aA _ _ _);(omega);exact λ_=>rfl;exact λ_=>rfl;exact atX;((focus (simp;omega)));((focus (simp;omega)));rfl;intro id' hid')|apply wY;rfl|apply wI;rfl|apply gE;omega|omega|simp only [zql];omega|(intro h;simp at h)|intro h)
 ·have hE:=hEi hz
  subst hE
  have hne:=hz
  (repeat' first|exact Cn.any ⟨_,_,st,rfl,zwr _,aR (zsr _) hid, .inl ⟨hne,rfl,rfl⟩⟩|(apply Cn.cf;focus ((apply hfr);done))|apply wZ;rfl|show Cn _;constructor|exact rfl|apply KR.mk;kernel_rfl|apply wY;rfl|apply wI;rfl|apply gE;omega|omega|simp only [zql];omega|(intro h;simp at h)|intro h)
theorem arU (w:Wr) (t:Tb) (r:List Vl) (h:RwI w t r):PF Tryz.prog 115 [.agg w.cells, .agg t.cells, .seq (r.map Vl.cells)] (if lH w t r≠0 then aDS Ln.zero (lH w t r) else aDS (eS w t r) 0):=λst=>
 fS (sz:=5) (aES w t r h st) λp st' h=>by
  rcases h with ⟨h1,rfl,rfl⟩|⟨h1,id,rfl,h3,rfl⟩
  ·rw [zp h1]
   exact .inr ⟨_,_,aIB _,zsr _,rfl,rfl⟩
  ·rw [zn (by simp [h1])]
   refine .inl ⟨id,110,(eS w t r).cells_.map Cl.cells,_,st,aA _ _ _,zH, .tup (.cons (.agg (.cons .refl (.cons (fL (by simp [eS])) (.cons .refl .nil)))) (.cons .refl .nil)),cF h3,rfl,rfl⟩
def aGq (w:Wr) (s:Sc) (b:Bs) (o:Ot):Bs×Int:=if (bE (aF b o.table) o.row[0]!.n).isSome=true then (b,8) else if (aF b o.table).length>=2000 then (b,2) else if lH w s[o.table.toNat]! o.row≠0 then (tM b o.table Ln.zero,lH w s[o.table.toNat]! o.row) else (tM b o.table (eS w s[o.table.toNat]! o.row),0)
def aFF (w:Wr) (b:Bs) (o:Ot):Bs×Int:=match bE (aF b o.table) o.key with
 |none=>(b,4)
 |some l=>if (eR w l.cells_[o.col.toNat]! o).2≠0 then (b,(eR w l.cells_[o.col.toNat]! o).2) else (tM b o.table (rK w o l),0)
def aqY (w:Wr) (s:Sc) (b:Bs) (o:Ot):Bs×Int:=if o.kind=1 then aGq w s b o else if o.kind=8 then vT true s b (o.table,o.key) w.dot (tV s b (o.table,o.key)) else aFF w b o
theorem aDG {w:Wr} {s:Sc} {b:Bs} {o:Ot} (h:fY s o=0):bS w s b o=if (aqY w s b o).2≠0 then ([],(aqY w s b o).2) else aqY w s b o:=by
 unfold bS aqY
 rw [zn (by simp [h])]
 by_cases h1:o.kind=1
 ·simp only [zp h1]
  unfold aGj aGq
  split
  ·rfl
  ·split
   ·rfl
   ·split
    ·rename_i q;simp only [zp q]
    ·rfl
 ·simp only [zn h1]
  by_cases h8:o.kind=8
  ·simp only [zp h8]
   unfold vT
   repeat' split
   all_goals first|rfl|(rename_i q;exact absurd rfl q)
  ·simp only [zn h8]
   unfold auV aFF
   cases bE (aF b o.table) o.key with
   |none=>rfl
   |some l=>
    simp only
    split
    ·rename_i q;simp only [zp q]
    ·rfl
theorem adY {v:Vl} (h:bX v=true):inL v.n:=by
 unfold bX at h
 unfold inL
 split at h
 ·simp at h;omega
 ·split at h
  ·simp at h;omega
  ·split at h
   ·simp at h;omega
   ·cases h
structure DoB (k:Nat) (w:Wr) (s:Sc) (b:Bs) (o:Ot):Prop where
 sb:ScB s
 len:s.length<=20
 bs:OpW k b
 k20:k<=20
 kn:w.knew.length<1000000000000
 few:lV o
theorem DoB.S {k:Nat} {w:Wr} {s:Sc} {b:Bs} {o:Ot} (h:DoB k w s b o):BsS 200 b:=h.bs.S h.k20
theorem awB {n:Nat} {b:Bs} (h:BsS n b) (hn:n<=1000):b.length<100000000000/\∀d∈b,d.lines.length<100000000000:=⟨by have:=h.1;omega,λd hd=>by have:=(h.2 d hd).1;omega⟩
theorem aFO {b:Bs} {k:Nat} (hk:k<b.length):aF b (k:Int)=b[k].lines:=by
 unfold aF okT
 rw [zp (by simp;omega),Int.toNat_natCast,getElem!_pos b k hk]
section
variable {n:Nat} {w:Wr} {s:Sc} {b:Bs} {o:Ot} (hD:DoB n w s b o) (hb:bH T.rightP s b=true)
include hD hb
theorem aHl (hr:fY s o=0) (h1:o.kind=1):PF Tryz.prog 70 [.agg w.cells, .agg (scC s), .agg (bsC b), .agg o.cells] (lU (aGq w s b o)):=by
 obtain ⟨k,hk,hks,r1,_⟩:=wA hr
 have hi:=r1 h1
 obtain ⟨⟨q1,q2⟩,_⟩:=aU.1 hb
 have hkb:k<b.length:=by omega
 unfold atC at hi
 split at hi
 ·cases hi
 split at hi
 ·rename_i q;exact absurd hi q
 split at hi
 ·cases hi
 rename_i u1 u2 u3
 have u2:=zdn u2
 have hlen:=atM u2
 have hpos:0<o.row.length:=by omega
 have hRw:RwI w s[k] o.row:=⟨hpos,by omega,by have:=hD.few.1;omega,λv hv=>by
  obtain ⟨j,hj,rfl⟩:=zgo hv
  unfold eH at u2
  rw [zp hlen.symm] at u2
  have:=gG.1 u2 j (List.mem_range.2 hj)
  unfold sW at this
  split at this
  ·cases this
  ·rename_i q
   rw [getElem!_pos o.row j hj] at q
   exact adY (by simpa using q),λv hv=>by have:=hD.few.2.2 v hv;omega,hD.kn⟩
 have hS:=hD.S
 obtain ⟨l1,l2⟩:=awB hS (by omega)
 have hget:=wR hS (by omega) o.table o.row[0].n
 have hline:=arU w s[k] o.row hRw
 have hput:=λa=>zT b o.table a l1 l2
 have hlk:=aFO hkb
 have hlb:=(iT hD.bs (k:Int)).1
 have hk20:=hD.k20
 unfold aGq
 rw [getElem!_pos o.row 0 hpos]
 rw [show s[o.table.toNat]! =s[k] from by rw [hk,Int.toNat_natCast,getElem!_pos s k hks]]
 rw [show (aF b o.table).length=b[k].lines.length from by rw [hk,hlk]]
 rw [hlk] at hlb
 generalize (bE (aF b o.table) o.row[0].n).isSome=I at*
 generalize (bE (aF b o.table) o.row[0].n).getD Ln.zero=L at*
 cases I with
 |true=>
  rw [zp rfl]
  refine pF Tryz.func70 rfl (λst=> ?_)
  (repeat' first|apply wZ;rfl|show Cn _;constructor|exact rfl|apply KR.mk;kernel_rfl|(apply hget)|apply wY;rfl|apply wI;rfl|apply gE;omega|omega|intro h)
 |false=>
  rw [zn (by simp),zn (by omega)]
  by_cases hE:lH w s[k] o.row≠0
  ·rw [zp hE] at hline⊢
   have hput:=hput Ln.zero
   generalize lH w s[k] o.row=E at*
   generalize tM b o.table Ln.zero=B at*
   unfold aDS at hline
   refine pF Tryz.func70 rfl (λst=> ?_)
   (repeat' first|apply iX;(intro hw;exact hk);(apply gE;omega);rfl|apply wZ;rfl|show Cn _;constructor|exact rfl|apply KR.mk;kernel_rfl|((first|apply hget|apply hline|apply hput))|apply wY;rfl|apply wI;rfl|apply gE;omega|omega|simp only [zql];omega|(intro h;simp at h)|intro h)
  ·rw [zn hE] at hline⊢
   have hput:=hput (eS w s[k] o.row)
   generalize eS w s[k] o.row=N at*
   generalize tM b o.table N=B at*
   unfold aDS at hline
   refine pF Tryz.func70 rfl (λst=> ?_)
   (repeat' first|apply iX;(intro hw;exact hk);(apply gE;omega);rfl|apply wZ;rfl|show Cn _;constructor|exact rfl|apply KR.mk;kernel_rfl|((first|apply hget|apply hline|apply hput))|apply wY;rfl|apply wI;rfl|apply gE;omega|omega|simp only [zql];omega|(intro h;simp at h)|intro h)
theorem aG7 (h8:o.kind=8):PF Tryz.prog 70 [.agg w.cells, .agg (scC s), .agg (bsC b), .agg o.cells] (lU (vT true s b (o.table,o.key) w.dot (tV s b (o.table,o.key)))):=by
 have hd:=iH w
 have hR:=fJ hD.S (by omega) hD.sb hD.len
 rw [hb] at hR
 have hdel:PF Tryz.prog 116 [.agg (scC s), .agg (bsC b),(vi (o.table)),(vi (o.key)), .agg w.dot.cells] (lU (vT true s b (o.table,o.key) w.dot (tV s b (o.table,o.key)))):=aCM hR (λ_=>aFa hb ⟨hD.S.1,λd hd=>⟨by have:=(hD.S.2 d hd).1;omega,(hD.S.2 d hd).2⟩⟩) (o.table,o.key) w.dot
 generalize vT true s b (o.table,o.key) w.dot (tV s b (o.table,o.key))=R at*
 unfold lU at hdel
 refine pF Tryz.func70 rfl (λst=> ?_)
 (repeat' first|apply wZ;rfl|show Cn _;constructor|exact rfl|apply KR.mk;kernel_rfl|((first|apply hd|apply hdel))|apply wY;rfl|omega|intro h)
theorem aGm (hr:fY s o=0) (h1:o.kind≠1) (h8:o.kind≠8):PF Tryz.prog 70 [.agg w.cells, .agg (scC s), .agg (bsC b), .agg o.cells] (lU (aFF w b o)):=by
 obtain ⟨k,hk,hks,_,r2⟩:=wA hr
 have hc:=r2 h1 h8
 obtain ⟨⟨q1,q2⟩,_⟩:=aU.1 hb
 have hkb:k<b.length:=by omega
 have hkk:2<=o.kind/\o.kind<=7:=by
  unfold fY at hr
  split at hr
  ·cases hr
  ·omega
 have hd:=iH w
 have hS:=hD.S
 obtain ⟨l1,l2⟩:=awB hS (by omega)
 have hget:=wR hS (by omega) o.table o.key
 have hput:=λa=>zT b o.table a l1 l2
 have hk20:=hD.k20
 unfold aFF
 cases hg:bE (aF b o.table) o.key with
 |none=>
  rw [hg] at hget
  refine pF Tryz.func70 rfl (λst=> ?_)
  (repeat' first|apply wZ;rfl|show Cn _;constructor|exact rfl|(apply hget)|apply wY;rfl|omega|intro h)
 |some l=>
 rw [hg] at hget
 have hgl:PF Tryz.prog 10 [.agg (bsC b),(vi (o.table)),(vi (o.key))] (.tup [.agg l.cells,(vb (true))]):=hget
 clear hget
 have hlm:=oA hg
 have hLW:=(iT hD.bs o.table).2 l hlm
 rw [hk] at hlm
 have hL:=abH hb hks hlm
 unfold abA at hc
 split at hc
 ·cases hc
 split at hc
 ·cases hc
 split at hc
 ·cases hc
 split at hc
 ·rename_i q;exact absurd hc q
 rename_i u1 u2 u3 u4
 have u4:=zdn u4
 have hlen:=hL.len
 obtain ⟨j,hj⟩:∃j:Nat,o.col=j:=⟨o.col.toNat,by omega⟩
 have hjl:j<l.cells_.length:=by omega
 have hvr:bX o.val=true:=by
  unfold rL at u4
  split at u4
  ·cases u4
  ·rename_i q
   cases e:bX o.val with
   |true=>rfl
   |false=>exact absurd (.inr e) q
 have hT:TnOK w l.cells_[j] o:=⟨adY hvr,by have:=hD.few.2.1;omega,hD.kn,by have:=hLW.2.2 _ (zgm hjl);omega⟩
 have hcl:=aeC l.cells_
 have hc20:=hLW.2.1
 have hb20:=hLW.1
 have htn:=λ(id:Nat) (st:aD) hst=>aEX (w:=w) (cs:=l.cells_) (j:=j) (id:=id) (o:=o) hjl hT hkk.1 hkk.2 (st:=st) hst
 have hwr:=λN=>aaW ⟨l.key,N,l.by_⟩ w.dot (by show l.by_.length<_;omega)
 have hset:rK w o l=cZ ⟨l.key,l.cells_.set j (eR w l.cells_[j] o).1,l.by_⟩ w.dot:=by unfold rK;rw [hj,Int.toNat_natCast,getElem!_pos l.cells_ j hjl]
 simp only
 rw [hset,show l.cells_[o.col.toNat]! =l.cells_[j] from by rw [hj,Int.toNat_natCast,getElem!_pos l.cells_ j hjl]]
 have hwr:=hwr (l.cells_.set j (eR w l.cells_[j] o).1)
 have hput:=hput (cZ ⟨l.key,l.cells_.set j (eR w l.cells_[j] o).1,l.by_⟩ w.dot)
 have hsl:(l.cells_.set j (eR w l.cells_[j] o).1).length=l.cells_.length:=List.length_set ..
 generalize eR w l.cells_[j] o=R at*
 generalize cZ ⟨l.key,l.cells_.set j R.1,l.by_⟩ w.dot=W at*
 generalize tM b o.table W=B at*
 generalize l.cells_.set j R.1=N at*
 by_cases hR:R.2≠0
 ·rw [zp hR]
  refine pF Tryz.func70 rfl (λst=> ?_)
  (repeat' first|exact Cn.any ⟨_,_,st,rfl,zwr _,aR (aR (zsr _) hid) hid,rfl,rfl⟩|apply wD pk [7] [];kernel_rfl;rfl;rfl|(apply Cn.cf;focus (((apply hgl));done))|(apply cP;rfl;(apply (hcl _ (by omega)));rintro _ st' (⟨id,rfl,hid,rfl⟩))|(apply cP;rfl;(apply (htn id _ (aA _ _ _)));rintro _ st' (⟨rfl,rfl⟩))|apply wZ;rfl|show Cn _;constructor|apply ixA pk;(iterate 5 rfl);rotate_left;rfl;(intro hw;(exact (show _=((j:Nat):Int) from by omega)));(intro hw;(omega));rfl;(exact Nat.zero_add _)|apply wY;rfl|omega|intro h)
 ·rw [zn hR]
  have hzz:=λid=>(show FzL id 5 (N.map Cl.cells) [.agg [(vi (l.key)), .vec id 5 0 l.cells_.length, .seq (l.by_.map Dt.cells)], .agg w.dot.cells] [.agg [(vi (l.key)), .seq (N.map Cl.cells), .seq (l.by_.map Dt.cells)], .agg w.dot.cells] from .cons (.agg (.cons .refl (.cons (fL hsl) (.cons .refl .nil)))) (.cons .refl .nil))
  refine pF Tryz.func70 rfl (λst=> ?_)
  (repeat' first|exact Cn.any ⟨_,_,st,rfl,zwr _,aR (aR (aR (zsr _) hid) hid) hid,rfl,rfl⟩|apply wDO pk [0,1,2,3,4,5,6,7,8] [7] [] [7] [];rfl;rfl;kernel_rfl;rfl;rfl|apply wDO pk [0,1,2,3,4,5,6,7,8,9] [6] [] [6] [];rfl;rfl;kernel_rfl;rfl;rfl|(apply Cn.cf;focus (((first|apply hgl|apply hd|apply hput));done))|(apply cP;rfl;(apply (hcl _ (by omega)));rintro _ st' (⟨id,rfl,hid,rfl⟩))|(apply cP;rfl;(apply (htn id _ (aA _ _ _)));rintro _ st' (⟨rfl,rfl⟩))|(apply cP;rfl;(apply (PC.freezeZ (aA _ _ _) zH (hzz id) (hwr _)));rintro _ st' (⟨rfl,rfl⟩))|apply wZ;rfl|show Cn _;constructor|apply ixA pk;(iterate 5 rfl);rotate_left;rfl;(intro hw;(exact (show _=((j:Nat):Int) from by omega)));(intro hw;(omega));rfl;(exact Nat.zero_add _)|apply wY;rfl|omega|intro h)
theorem aHx (hr:fY s o=0):PF Tryz.prog 70 [.agg w.cells, .agg (scC s), .agg (bsC b), .agg o.cells] (lU (aqY w s b o)):=by
 unfold aqY
 by_cases h1:o.kind=1
 ·rw [zp h1];exact aHl hD hb hr h1
 ·rw [zn h1]
  by_cases h8:o.kind=8
  ·rw [zp h8];exact aG7 hD hb h8
  ·rw [zn h8];exact aGm hD hb hr h1 h8
end
end
section
set_option maxRecDepth 10000
set_option maxHeartbeats 4000000
variable {w v:Wr} {s:Sc} {b:Bs}
theorem mO (o:Ot) (r:List Ot):aS w s b (o::r)=if (bS w s b o).2≠0 then ([],(bS w s b o).2) else aS w s (bS w s b o).1 r:=rfl
theorem oN (hw:pG w=true):∀{l:List Ot} {b:Bs} {k:Nat},bH T.rightP s b=true->OpW k b->(∀o∈l,lV o)->(aS w s b l).2=0->bH T.rightP s (aS w s b l).1=true/\OpW (k+l.length) (aS w s b l).1
 |[],b,k,hb,h,_,_=>⟨hb,h⟩
 |o::r,b,k,hb,h,ho,h0=>by
  unfold aS at*
  split at h0
  ·rename_i q;exact absurd h0 q
  ·rename_i q
   rw [zn q]
   have:=oN hw (l:=r) (aoL hw hb (zdn q)) (aDF (k:=k) h (ho o (by simp))) (λx hx=>ho x (List.mem_cons_of_mem _ hx)) h0
   rw [zlc]
   exact ⟨this.1,by rw [show k+(r.length+1)=k+1+r.length by omega];exact this.2⟩
theorem jX (o:Ot):∀(l:List Ot) (b:Bs),(aS w s b l).2=0->aS w s b (l++[o])=if (bS w s (aS w s b l).1 o).2≠0 then ([],(bS w s (aS w s b l).1 o).2) else ((bS w s (aS w s b l).1 o).1,0)
 |[],b,_=>rfl
 |x::r,b,h=>by
  rw [List.cons_append]
  unfold aS at*
  split at h
  ·rename_i q;exact absurd h q
  ·rename_i q
   rw [zn q,zn q]
   exact jX o r _ h
theorem aAd {l m:List Ot} {b:Bs} (h:(aS w s b l).2≠0):aS w s b (l++m)=aS w s b l:=by
 induction l generalizing b with
 |nil=>exact absurd rfl h
 |cons o r ih=>
  rw [List.cons_append,mO,mO]
  rw [mO] at h
  split
  ·rfl
  ·rename_i q
   rw [zn q] at h
   exact ih h
theorem auS {l:List Ot} {i:Nat} (hi:i<l.length) {b:Bs} (h:(aS w s b (l.take i)).2=0):aS w s b (l.take (i+1))=if (bS w s (aS w s b (l.take i)).1 l[i]).2≠0 then ([],(bS w s (aS w s b (l.take i)).1 l[i]).2) else ((bS w s (aS w s b (l.take i)).1 l[i]).1,0):=by
 rw [List.take_succ_eq_append_getElem hi,jX _ _ _ h]
theorem alG {l:List Ot} {i:Nat} {b:Bs} (h:(aS w s b (l.take i)).2≠0):aS w s b l=aS w s b (l.take i):=by
 have:=aAd (m:=l.drop i) h
 rwa [List.take_append_drop] at this
theorem fC :rightW w s b=true↔rightC s=0/\bH T.rightP s b=true/\pG w=true:=by
 unfold rightW mayC
 rw [zba,zba,zde,and_assoc]
theorem aoR {l:List Ot} (h:(fG w s b l).2=0):rightW w s b=true/\(aS w s b l).2=0/\whyC s (aS w s b l).1=0/\(fG w s b l).1=(aS w s b l).1:=by
 unfold fG at*
 split at h
 ·cases h
 ·rename_i q1
  rw [zn q1]
  split at h
  ·cases h
  ·rename_i q2
   rw [zn q2]
   split at h
   ·rename_i q3;exact absurd h q3
   ·rename_i q3
    rw [zn q3]
    split at h
    ·rename_i q4;exact absurd h q4
    ·rename_i q4
     rw [zn q4]
     exact ⟨by simpa using q1,zdn q3,zdn q4,rfl⟩
end
end Go.Proofs.YtfablfldonhkiaaGreatDoor
