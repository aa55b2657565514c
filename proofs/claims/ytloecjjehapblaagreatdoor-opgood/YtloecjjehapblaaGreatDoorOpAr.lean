import Derived.Test.YtloecjjehapblaaGreatDoorOpAq
import Derived.Test.YtloecjjehapblaaGreatDoorOpAk
import Derived.Test.YtloecjjehapblaaGreatDoorOpAg
set_option linter.unusedSimpArgs false
set_option linter.unusedVariables false
namespace Go.Proofs.YtloecjjehapblaaGreatDoor
open Go Go.Abs
attribute [local irreducible] Ev PWp
set_option maxRecDepth 10000
set_option maxHeartbeats 4000000
def dN (xs:Array Int):Nat->Nat
 |0=>0
 |1=>0
 |i+2=>dN xs (i+1)+if xs[i+1]! =xs[i]! then 0 else 1
theorem aAR (xs:Array Int) {k:Nat} (h:1<=k):dN xs (k+1)=dN xs k+if xs[k]! =xs[k-1]! then 0 else 1:=by
 obtain ⟨i,rfl⟩:∃i,k=i+1:=⟨k-1,by omega⟩
 rfl
theorem aD3 (xs:Array Int) (k:Nat):∀y,1<=k->dN xs (k+y)<=dN xs k+y
 |0,_=>Nat.le_refl _
 |y+1,h=>by
  have:=aD3 xs k y h
  rw [show k+(y+1)=k+y+1 from rfl,aAR xs (by omega)]
  split<;>omega
def aiS (xs:Array Int):Nat:=if xs.size<2 then xs.size else 1+dN xs xs.size
theorem anL (xs:Array Int) {st:aJ} {id n:Nat} (hst:st id=some (.arr 3 (xs.toList.map I1))) (hn:xs.size=n) (h12:n<1000000000000):
  PC Tryz.prog 184 [.vec id 1 0 n] st λr S=>r= .vec id 1 0 (aiS xs)/\∃rows,S=upd st id (some (.arr 3 rows)):=by
 by_cases h2:n<2
 ·have e:aiS xs=n:=by unfold aiS;rw [if_pos (by omega),hn]
  rw [e]
  refine bZ aF Tryz.func184 (by kernel_rfl) rfl rfl rfl rfl ?_
  (try apply wO pk;rfl);(repeat' first|show All _;constructor|apply wC pk;rfl;rfl|refine aA rfl ?_ ?_<;>intro h<;>(try simp at h)<;>try omega|(try refine aC ?_);((refine ⟨_,_,_,rfl,zwr _,zsr _, ?_⟩;(exact ⟨rfl,_,(fT hst).symm⟩);done)))
 have e:aiS xs=1+dN xs n:=by unfold aiS;rw [if_neg (by omega),hn]
 rw [e]
 refine bZ aF Tryz.func184 (by kernel_rfl) rfl rfl rfl rfl ?_
 focus ((try apply wO pk;rfl);(repeat' first|show All _;constructor|apply wC pk;rfl;rfl|refine aA rfl ?_ ?_<;>intro h<;>(try simp at h)<;>try omega))
 refine aK (X:={x:Nat//1<=x/\x<=n/\dN xs x+1=x}) (λi=>(((St.nil 61 (st)).pv 0 (.vec id 1 0 n)).pv 3 ((PV.val (Value.int .i64 ((i.1:Nat))))))) (λi=>n-i.1) ⟨1,by omega,by omega,rfl⟩ ?_ (λi=> ?_)
 ·(((repeat refine Sub.pv ?_ rfl);(exact Sub.nil _ _ _ (zsr _) rfl)))
 obtain ⟨k,hk1,hk2,hk3⟩:=i
 dsimp only
 by_cases hend:n<=k
 ·obtain rfl:k=n:=by omega
  have e2:1+dN xs k=k:=by omega
  rw [e2]
  (try apply wO pk;rfl);(repeat' first|show All _;constructor|apply wC pk;rfl;rfl|refine aA rfl ?_ ?_<;>intro h<;>(try simp at h)<;>try omega|(try refine aC ?_);((refine ⟨_,_,_,rfl,zwr _,zsr _, ?_⟩;(exact ⟨rfl,_,(fT hst).symm⟩);done)))
 have hkn:k<n:=by omega
 have hu:=aAR xs hk1
 by_cases hd:¬xs[k]! =xs[k-1]!
 ·rw [if_neg hd] at hu
  have hu2:dN xs (k+1)+1=k+1:=by omega
  (try apply wO pk;rfl);(repeat' first|show All _;constructor|show Imp _ _;constructor|apply wC pk;rfl;rfl|apply wE pk;rfl;rfl|apply wDx pk;rfl;kernel_rfl;rfl;rfl|refine aA rfl ?_ ?_<;>intro h<;>(try simp at h)<;>try omega|apply ixA pk;(iterate 5 rfl);rotate_left;rfl;(intro hw;(first|exact (show _=((k:Nat):Int) from by omega)|exact (show _=((k-1:Nat):Int) from by omega)));(intro hw;(omega));rfl;(exact Nat.zero_add _)|apply ldA pk I1.elem;rfl;rfl;rotate_left;rfl;(assumption);(intro hw;(omega));rfl|refine ⟨⟨k+1,by omega,by omega,hu2⟩, ?_,by simp only;omega⟩;(((repeat refine Sub.pv ?_ rfl);(exact Sub.nil _ _ _ (zsr _) rfl)))|intros;(try simp only [zql]);omega)
 replace hd:=Decidable.of_not_not hd
 rw [if_pos hd] at hu
 focus ((try apply wO pk;rfl);(repeat' first|show All _;constructor|show Imp _ _;constructor|apply wC pk;rfl;rfl|apply wE pk;rfl;rfl|apply wDx pk;rfl;kernel_rfl;rfl;rfl|refine aA rfl ?_ ?_<;>intro h<;>(try simp at h)<;>try omega|apply ixA pk;(iterate 5 rfl);rotate_left;rfl;(intro hw;(first|exact (show _=((k:Nat):Int) from by omega)|exact (show _=((k-1:Nat):Int) from by omega)));(intro hw;(omega));rfl;(exact Nat.zero_add _)|apply ldA pk I1.elem;rfl;rfl;rotate_left;rfl;(assumption);(intro hw;(omega));rfl|apply eQ pk k (n-k);(iterate 4 rfl);rotate_left;rfl;(intro _;exact ⟨_,aT rfl rfl,by omega⟩);(intro _;exact ⟨_,bD,by omega⟩);(intro _;omega);(intro _;omega);rfl|intros;(try simp only [zql]);omega))
 refine aK (X:={x:Nat×Array Int//1<=x.1/\x.1<=n-k/\x.2.size=n/\∀j,k+x.1<=j+1->j<n->x.2[j]! =xs[j]!}) (λy=>(((((St.nil 61 (upd st id (some (.arr 3 (y.1.2.toList.map I1))))).pv 0 (.vec id 1 0 n)).pv 3 ((PV.val (Value.int .i64 (((1+dN xs (k+y.1.1):Nat):Int)))))).pv 4 (.vec id 1 k (n-k))).pv 5 ((PV.val (Value.int .i64 ((y.1.1:Nat))))))) (λy=>n-y.1.1) ⟨(1,xs),by omega,by omega,hn,λ_ _ _=>rfl⟩ ?_ (λy=> ?_)
 ·dsimp only
  (((repeat (first|refine Sub.pv ?_ rfl|refine Sub.pv' ?_ rfl (by (congr 2;omega))));(exact Sub.nil _ _ _ (eY (by first|rfl|exact fT ‹_›|((simp only [St.pv,St.put,St.sst,St.setv,St.nil,St.var,fF]);first|done|rfl))) rfl)))
 obtain ⟨⟨y,ys⟩,hy1,hy2,hys,hy⟩:=y
 simp only at hy1 hy2 hys hy
 dsimp only
 have hle:=aD3 xs (k+1) (y-1) (by omega)
 rw [show k+1+(y-1)=k+y by omega] at hle
 by_cases hend2:n-k<=y
 ·obtain rfl:y=n-k:=by omega
  rw [show k+(n-k)=n by omega] at hle⊢
  have hr:(ys.toList.map I1).length=n:=by rw [zql,Array.length_toList,hys]
  (try apply wO pk;rfl);(repeat' first|show All _;constructor|show Imp _ _;constructor|apply wC pk;rfl;rfl|apply wE pk;rfl;rfl|refine aA rfl ?_ ?_<;>intro h<;>(try simp at h)<;>try omega|(try refine aC ?_);((refine ⟨_,_,_,rfl,zwr _,zsr _, ?_⟩;(exact ⟨rfl,_,fF _ _ _ _⟩);done))|apply eQ pk (1+dN xs n) (n-(1+dN xs n));(iterate 4 rfl);rotate_left;rfl;(intro _;exact ⟨_,aT rfl rfl,by omega⟩);(intro _;exact ⟨_,bD,by omega⟩);(intro _;omega);(intro _;omega);rfl|(refine aEQ pk (id:=id) (off:=1+dN xs n) (len:=n-(1+dN xs n)) (rows:=ys.toList.map I1) rfl rfl rfl rfl rfl rfl rfl rfl (aB _ _ _) (by omega) (by omega) (by omega) rfl ?_)|apply aGC pk (1+dN xs n);(iterate 4 rfl);rotate_left;rfl;(intro _;exact aT rfl rfl);(intro _;omega);(intro _;omega);rfl)
 have hr1:=hy (k+y) (by omega) (by omega)
 have hr2:=hy (k+(y-1)) (by omega) (by omega)
 have hup:=aAR xs (show 1<=k+y by omega)
 rw [show k+y-1=k+(y-1) by omega,show k+y+1=k+(y+1) from rfl] at hup
 by_cases he:xs[k+y]! =xs[k+(y-1)]!
 ·rw [if_pos he] at hup
  have hya:∀j,k+(y+1)<=j+1->j<n->ys[j]! =xs[j]!:=λj h1 h2=>hy j (by omega) h2
  rw [<-hr1,<-hr2] at he
  (try apply wO pk;rfl);(repeat' first|show All _;constructor|show Imp _ _;constructor|apply wC pk;rfl;rfl|apply wE pk;rfl;rfl|apply wDx pk;rfl;kernel_rfl;rfl;rfl|refine aA rfl ?_ ?_<;>intro h<;>(try simp at h)<;>try omega|apply ixA pk;(iterate 5 rfl);rotate_left;rfl;(intro hw;(first|exact (show _=((y:Nat):Int) from by omega)|exact (show _=((y-1:Nat):Int) from by omega)));(intro hw;(omega));rfl;(rfl)|apply ldA pk I1.elem;rfl;rfl;rotate_left;rfl;(exact aB _ _ _);(intro hw;(omega));rfl|(refine ⟨⟨(y+1,ys),by simp only;omega,by simp only;omega,hys,hya⟩, ?_,by simp only;omega⟩;((dsimp only));(((repeat (first|refine Sub.pv ?_ rfl|refine Sub.pv' ?_ rfl (by (congr 2;omega))));(exact Sub.nil _ _ _ (zsr _) rfl))))|intros;(try simp only [zql]);omega)
 ·rw [if_neg he] at hup
  have hya:∀j,k+(y+1)<=j+1->j<n->(ys.setIfInBounds (1+dN xs (k+y)) ys[k+y]!)[j]! =xs[j]!:=λj h1 h2=>by
   rw [getElem!_pos _ j (by rw [zqs];omega),Array.getElem_setIfInBounds_ne (by omega) (by omega),<-getElem!_pos ys j (by omega)]
   exact hy j (by omega) h2
  rw [<-hr1,<-hr2] at he
  (try apply wO pk;rfl);(repeat' first|show All _;constructor|show Imp _ _;constructor|apply wC pk;rfl;rfl|apply wE pk;rfl;rfl|apply wDx pk;rfl;kernel_rfl;rfl;rfl|refine aA rfl ?_ ?_<;>intro h<;>(try simp at h)<;>try omega|(apply ixA pk;(iterate 5 rfl);rotate_left;rfl;(intro hw;(first|exact (show _=((y:Nat):Int) from by omega)|exact (show _=((y-1:Nat):Int) from by omega)|exact (show _=((1+dN xs (k+y):Nat):Int) from by omega)));(intro hw;(omega));rfl;(first|exact Nat.zero_add _|rfl))|apply ldA pk I1.elem;rfl;rfl;rotate_left;rfl;(exact aB _ _ _);(intro hw;(omega));rfl|apply stA pk I1.elem;rfl;rfl;rfl;(exact aB _ _ _);(omega);rfl|(refine ⟨⟨(y+1,ys.setIfInBounds (1+dN xs (k+y)) ys[k+y]!),by simp only;omega,by simp only;omega,by rw [zqs];exact hys,hya⟩, ?_,by simp only;omega⟩;((dsimp only));(((repeat (first|refine Sub.pv ?_ rfl|refine Sub.pv' ?_ rfl (by (congr 2;omega))));(exact Sub.nil _ _ _ (eY (by first|rfl|exact fT ‹_›|((simp only [St.pv,St.put,St.sst,St.setv,St.nil,St.var,fF]);first|done|rfl))) rfl))))|intros;(try simp only [zql]);omega)
end Go.Proofs.YtloecjjehapblaaGreatDoor
namespace Go.Proofs.YtloecjjehapblaaGreatDoor.T
open Go Go.Abs
attribute [local irreducible] Ev PWp
set_option maxRecDepth 10000
set_option maxHeartbeats 4000000
def uZ :List Pt->List Int->List Int
 |[],acc=>acc
 |p::r,acc=>uZ r (if p.gone=false/\acc.length<200 then acc++[p.val.n] else acc)
def showP (c:Cl):Vl:=if rightP c=0 then ⟨2,0,xK (uZ c.parts [])⟩ else Vl.zero
theorem alI {l:List Pt} {i:Nat} (h:i<l.length) (acc:List Int):uZ (l.drop i) acc=uZ (l.drop (i+1)) (if l[i].gone=false/\acc.length<200 then acc++[l[i].val.n] else acc):=by
 rw [List.drop_eq_getElem_cons h];rfl
theorem aE9 :Tryz.prog.bytesOf 5=1:=by kernel_rfl
theorem jO {c:Cl} (h:rightP c=0):c.kind=4/\c.val=Vl.zero/\Whole c.parts/\c.parts.length<=2000/\dH c.parts=c.parts:=by
 unfold rightP at h
 split at h
 ·cases h
 ·split at h
  ·cases h
  ·split at h
   ·cases h
   ·split at h
    ·cases h
    ·rename_i h1 h2 h3 h4
     simp only [ne_eq,not_or,Decidable.not_not,Bool.not_eq_false] at h1 h2 h4
     exact ⟨h1,h2.1,(fV _).1 h2.2,by omega,h4⟩
theorem aA3 {p:Pt} (h:bT p=true):0<=p.val.n/\p.val.n<=255:=by
 simp only [bT,withinB,zba,zde] at h
 exact ⟨h.1.1.1.2.1,h.1.1.1.2.2⟩
theorem iK {st:aJ} {id id':Nat} {o:AObj} (h:upd st id (some o) id'=none):st id'=none:=by
 by_cases e:id'=id
 ·rw [e,aB] at h;cases h
 ·rwa [aD e] at h
theorem show_spec (c:Cl) (hl:c.parts.length<4611686018427387904):PF Tryz.prog 69 [.agg c.cells] (.agg (showP c).cells):=by
 refine aG aF Tryz.func69 (by kernel_rfl) rfl rfl rfl rfl (λst=> ?_)
 (try apply wO pk;rfl);(repeat' first|show All _;constructor|show Imp _ _;constructor|apply wC pk;rfl;rfl|apply wE pk;rfl;rfl|refine aA rfl ?_ ?_<;>intro h<;>(try simp at h)<;>try omega|(refine aC ?_;refine ⟨_,_,_,rfl,zwr _,zsr _, ?_,rfl⟩;try first|rfl|(rw [showP,if_neg ‹_›];rfl);done)|(apply aH;rfl;rfl;rfl;(intro _;apply (right_spec c hl)<;>first|assumption|omega);rotate_left;rfl;rfl))
 have h0:rightP c=0:=h
 have hb:=λp (hp:p∈c.parts)=>aA3 ((jO h0).2.2.1.formed p hp)
 refine yC 3 5 rfl rfl (λid hid=> ?_)
 have hid:st id=none:=hid
 refine aK (X:={x:Nat×List Int×Nat//x.1<=c.parts.length/\st x.2.2=none/\x.2.1.length<=200/\uZ (c.parts.drop x.1) x.2.1=uZ c.parts []}) (λi=>((((((St.nil 36 (upd st i.1.2.2 (some (.tok 5)))).var 2 57 ([(PV.val (Value.int .i64 (0))),(PV.val (Value.int .i64 (0))),(PV.val (Value.string (e0)))])).pv 3 (.own i.1.2.2 (i.1.2.1.map U8))).pv 11 (.seq (c.parts.map Pt.cells))).pv 12 ((PV.val (Value.int .i64 ((c.parts.length:Nat)))))).pv 13 ((PV.val (Value.int .i64 ((i.1.1:Nat))))))) (λi=>c.parts.length-i.1.1) ⟨(0,[],id),by simp,hid,by simp,rfl⟩ ?_ (λi=> ?_)
 ·(((repeat (first|refine Sub.pv ?_ rfl|refine Sub.var ?_ rfl rfl|refine Sub.pv' ?_ rfl (by first|rfl|simp)));(exact Sub.nil _ _ _ (zsr _) rfl)))
 obtain ⟨⟨i,acc,id⟩,hi,hid,ha,hinv⟩:=i
 simp only at hi hid ha hinv
 dsimp only
 have hs:=λh:i<c.parts.length=>alI h acc
 have hb2:=λh:i<c.parts.length=>hb _ (zgm h)
 (try apply wO pk;rfl);(repeat' first|show All _;constructor|show Imp _ _;constructor|show ImpX _ _ _ _;constructor|apply wC pk;rfl;rfl|apply wE pk;rfl;rfl|refine aA rfl ?_ ?_<;>intro h<;>(try simp at h)<;>try omega|(refine aC ?_;first|refine ⟨_,_,_,rfl,zwr _,zsr _, ?_,rfl⟩;(fail)|refine ⟨_,_,_,rfl,zwr _,aL ‹_›, ?_,rfl⟩;(((rw [showP,if_pos h0,<-hinv,List.drop_eq_nil_of_le (by omega)];rfl);done))|refine ⟨_,_,_,rfl,zwf _,zsr _, ?_,rfl⟩;(fail)|refine ⟨_,_,_,rfl,zwf _,aL ‹_›, ?_,rfl⟩;(fail)|(refine ⟨_,_,_,rfl,zwr _,zsr _, ?_,rfl⟩)|(refine ⟨_,_,_,rfl,zwf _,aL ‹_›, ?_,rfl⟩))|apply aN pk;(iterate 6 rfl);rotate_left;rfl;(intro hw;rfl);(intro hw;apply aI<;>omega);(intro _;rfl);rfl|apply cvA pk.htt;(iterate 5 rfl);(refine ⟨?_, ?_⟩<;>(first|exact (hb2 ‹_›).1|have:=(hb2 ‹_›).2;omega));rfl|apply aHf pk acc;(iterate 6 rfl);rotate_left;rfl;rfl|((first|refine ⟨⟨(i+1,acc++[(c.parts[i]'‹_›).val.n],id'),by simp only;omega,iK hid',by simp only [zla,List.length_singleton];omega,by rw [<-hinv,hs ‹_›,if_pos ⟨h.1,by omega⟩]⟩, ?_,by simp only;omega⟩|refine ⟨⟨(i+1,acc,id),by simp only;omega,hid,ha,by rw [<-hinv,hs ‹_›,if_neg (λq=>by have:=h q.1;omega)]⟩, ?_,by simp only;omega⟩);(((repeat (first|refine Sub.pv ?_ rfl|refine Sub.var ?_ rfl rfl));(first|exact Sub.nil _ _ _ (zsr _) rfl|exact Sub.nil _ _ _ (cQ ‹_›) rfl))))|(apply apS pk ((c.parts[i]'‹_›).val.n) 1;(iterate 8 rfl);exact aB _ _ _;exact λ_=>rfl;exact λ_=>rfl;exact aE9;(omega);(omega);rfl;intro id' hid')|intros;(try simp only [zql]);omega)
end Go.Proofs.YtloecjjehapblaaGreatDoor.T
namespace Go.Proofs.YtloecjjehapblaaGreatDoor
open Go Go.Abs
attribute [local irreducible] Ev PWp
set_option maxRecDepth 10000
set_option maxHeartbeats 4000000
def zQ (c:Cl):List Int:=(c.parts.map (·.val.n)).mergeSort λx y=>decide (x<=y)
theorem aDH {c:Cl} {i:Nat} (h:i<c.parts.length):(c.parts.take (i+1)).map (·.val.n)=(c.parts.take i).map (·.val.n)++[c.parts[i].val.n]:=by
 rw [List.take_succ_eq_append_getElem h,List.map_append];rfl
theorem aCi (c:Cl) (hl:c.parts.length<1000000000) (st:aJ):PC Tryz.prog 113 [.agg c.cells] st λr S=>∃id,r= .vec id 1 0 (aiS (zQ c).toArray)/\st id=none/\∃o,S=upd st id (some o):=by
 refine bZ aF Tryz.func113 (by kernel_rfl) rfl rfl rfl rfl ?_
 focus ((try apply wO pk;rfl);(repeat' (show All _;constructor)))
 refine mV 3 3 1 rfl rfl rfl (λid hid=> ?_)
 refine aK (X:={x:Nat×Nat//x.1<=c.parts.length/\st x.2=none}) (λi=>(((((St.nil 24 (upd st i.1.2 (some (.arr 3 (((c.parts.take i.1.1).map (·.val.n)).map I1))))).pv 3 (.vec i.1.2 1 0 i.1.1)).pv 7 (.seq (c.parts.map Pt.cells))).pv 8 ((PV.val (Value.int .i64 (((c.parts.map Pt.cells).length:Nat)))))).pv 9 ((PV.val (Value.int .i64 ((i.1.1:Nat))))))) (λi=>c.parts.length-i.1.1) ⟨(0,id),by simp,hid⟩ ?_ (λi=> ?_)
 ·dsimp only
  (((repeat refine Sub.pv ?_ rfl);(exact Sub.nil _ _ _ (zsr _) rfl)))
 obtain ⟨⟨i,id⟩,hi,hid⟩:=i
 simp only at hi hid
 dsimp only
 by_cases hend:c.parts.length<=i
 ·obtain rfl:i=c.parts.length:=by omega
  rw [List.take_length]
  have hso:=avU (c.parts.map (·.val.n)) (st:=upd st id (some (.arr 3 ((c.parts.map (·.val.n)).map I1)))) (id:=id) (n:=c.parts.length) (aB _ _ _) (zql _) (by omega)
  have hnl:(zQ c).toArray.size=c.parts.length:=by simp [zQ]
  have hco:=anL (zQ c).toArray (st:=upd (upd st id (some (.arr 3 ((c.parts.map (·.val.n)).map I1)))) id (some (.arr 3 ((zQ c).map I1)))) (id:=id) (n:=c.parts.length) (aB _ _ _) hnl (by omega)
  (try apply wO pk;rfl);(repeat' first|show All _;constructor|apply wC pk;rfl;rfl|apply wE pk;rfl;rfl|refine aA rfl ?_ ?_<;>intro h<;>(try simp at h)<;>try omega|(try refine aC ?_);((refine ⟨_,_,_,rfl,zwr _,zsr _, ?_⟩;(exact ⟨id,rfl,hid,_,(fF _ _ _ _).trans (fF _ _ _ _)⟩);done))|(apply cB;rfl;rfl;(apply hso<;>first|exact aB _ _ _|assumption|omega|(fail));rfl;rfl;rfl;intro _ st' hR;obtain rfl:=hR)|(apply cB;rfl;rfl;(apply hco<;>first|exact aB _ _ _|assumption|omega|(fail));rfl;rfl;rfl;intro _ st' hR;obtain ⟨rfl,rows,rfl⟩:=hR))
 have hil:i<c.parts.length:=by omega
 have hlen:((c.parts.take i).map (·.val.n)).length=i:=by rw [zql,zlt];omega
 have e:=aDH hil
 (try apply wO pk;rfl);(repeat' first|show All _;constructor|show Imp _ _;constructor|apply wC pk;rfl;rfl|apply wE pk;rfl;rfl|refine aA rfl ?_ ?_<;>intro h<;>(try simp at h)<;>try omega|apply aN pk;(iterate 6 rfl);rotate_left;rfl;(intro hw;rfl);(intro hw;apply aI<;>omega);(intro _;rfl);rfl|(apply apV pk (f:=I1) [c.parts[i].val.n] 8;(iterate 9 rfl);(exact aB _ _ _);(omega);exact λ_=>rfl;exact λ_=>rfl;exact vJ;((focus (simp;omega)));((focus (simp;omega)));rfl;intro id' hid')|refine ⟨⟨(i+1,id'),by simp only;omega,iH hid'⟩, ?_,by simp only;omega⟩;((dsimp only;try rw [e]));(((repeat refine Sub.pv ?_ rfl);(exact Sub.nil _ _ _ (cQ ‹_›) rfl)))|intros;(try simp only [zql]);omega)
def aqE (c:Cl):Vl:=⟨1,(aiS (zQ c).toArray:Nat),e0⟩
theorem amH (c:Cl) (hl:c.parts.length<1000000000):PF Tryz.prog 68 [.agg c.cells] (.agg (aqE c).cells):=by
 intro st
 have hn:=aCi c hl st
 refine bZ aF Tryz.func68 (by kernel_rfl) rfl rfl rfl rfl ?_
 (try apply wO pk;rfl);(repeat' first|refine aC ?_;exact ⟨_,_,st,rfl,zwr _,bO (zsr _) hid,rfl,rfl⟩|show All _;constructor|apply wE pk;rfl;rfl|(apply cB;rfl;rfl;(apply hn<;>first|exact aB _ _ _|assumption|omega|(fail));rfl;rfl;rfl;intro _ st' hR;obtain ⟨id,rfl,hid,o,rfl⟩:=hR))
def aqN (c:Cl):Vl:=((jM c.parts).getLast?).getD Vl.zero
theorem apT (c:Cl) (hl:c.parts.length<1000000000):PF Tryz.prog 66 [.agg c.cells] (.agg (aqN c).cells):=by
 intro st
 have hn:=aCo c hl st
 have hvl:=alH c.parts
 unfold aqN
 generalize jM c.parts=o at*
 rcases Nat.eq_zero_or_pos o.length with h0|h0
 ·obtain rfl:o=[]:=List.eq_nil_of_length_eq_zero h0
  refine bZ aF Tryz.func66 (by kernel_rfl) rfl rfl rfl rfl ?_
  (try apply wO pk;rfl);(repeat' first|refine aC ?_;exact ⟨_,_,st,rfl,zwr _,bO (zsr _) hid,rfl,rfl⟩|show All _;constructor|apply wC pk;rfl;rfl|apply wE pk;rfl;rfl|refine aA rfl ?_ ?_<;>intro h<;>(try simp at h)<;>try omega|(apply cB;rfl;rfl;(apply hn<;>first|exact aB _ _ _|assumption|omega|(fail));rfl;rfl;rfl;intro _ st' hR;obtain ⟨id,rfl,hid,rfl⟩:=hR))
 ·have e:o.getLast?.getD Vl.zero=o.toArray[o.length-1]!:=by
   rw [List.getLast?_eq_getElem?,List.getElem?_eq_getElem (by omega),getElem!_pos o.toArray (o.length-1) (by simp;omega)];simp
  rw [e]
  refine bZ aF Tryz.func66 (by kernel_rfl) rfl rfl rfl rfl ?_
  (try apply wO pk;rfl);(repeat' first|refine aC ?_;exact ⟨_,_,st,rfl,zwr _,bO (zsr _) hid,rfl,rfl⟩|exact absurd (by assumption:o=[]) (List.ne_nil_of_length_pos h0)|show All _;constructor|show Imp _ _;constructor|apply wC pk;rfl;rfl|apply wE pk;rfl;rfl|refine aA rfl ?_ ?_<;>intro h<;>(try simp at h)<;>try omega|apply ixA pk;(iterate 5 rfl);rotate_left;rfl;(intro hw;(exact (show _=((o.length-1:Nat):Int) from by omega)));(intro hw;(omega));rfl;(exact Nat.zero_add _)|(apply cB;rfl;rfl;(apply hn<;>first|exact aB _ _ _|assumption|omega|(fail));rfl;rfl;rfl;intro _ st' hR;obtain ⟨id,rfl,hid,rfl⟩:=hR)|apply ldA pk Vl.elem;rfl;rfl;rotate_left;rfl;exact aB _ _ _;(intro _;exact (show o.length-1<o.length by omega));rfl|intros;(try simp only [zql]);omega)
def cM (c:Cl):Vl:=if c.kind=0 then c.val else if c.kind=1 then aqN c else if c.kind=2 then arP c else if c.kind=3 then aqE c else if c.kind=4 then T.showP c else Vl.zero
theorem aCY (c:Cl) (hl:c.parts.length<=1000):aAb cM c:=by
 have h1:=apT c (by omega)
 have h2:=anV c
 have h3:=amH c (by omega)
 have h4:=T.show_spec c (by omega)
 show PF Tryz.prog 30 [.agg c.cells] (.agg (cM c).cells)
 unfold cM
 generalize aqN c=A at*
 generalize arP c=B at*
 generalize aqE c=C at*
 generalize T.showP c=D at*
 refine aG aF Tryz.func30 (by kernel_rfl) rfl rfl rfl rfl (λst=> ?_)
 (try apply wO pk;rfl);(repeat' first|show All _;constructor|show Imp _ _;constructor|apply wC pk;rfl;rfl|apply wE pk;rfl;rfl|refine aA rfl ?_ ?_<;>intro h<;>(try simp at h)<;>try omega|(refine aC ?_;refine ⟨_,_,_,rfl,zwr _,zsr _, ?_,rfl⟩;try first|rfl|((repeat first|rw [if_pos ‹_›]|rw [if_neg ‹_›]);rfl);done)|(apply aH;rfl;rfl;rfl;(intro _;(first|apply h1|apply h2|apply h3|apply h4)<;>first|assumption|omega);rotate_left;rfl;rfl))
end Go.Proofs.YtloecjjehapblaaGreatDoor
