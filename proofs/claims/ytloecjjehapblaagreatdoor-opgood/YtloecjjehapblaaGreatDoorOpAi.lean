import Derived.Test.YtloecjjehapblaaGreatDoorOpAh
import Derived.Test.YtloecjjehapblaaGreatDoorAbsE
import Derived.Test.YtloecjjehapblaaGreatDoorAbsSort
import Derived.Sort.LotD5
set_option linter.unusedSimpArgs false
set_option linter.unusedVariables false
namespace Go.Proofs.YtloecjjehapblaaGreatDoor.T
open Go Go.Abs
attribute [local irreducible] Ev PWp
set_option maxRecDepth 10000
set_option maxHeartbeats 4000000
def aM (p:Pt):Nm:=⟨p.dot,p.at_⟩
def bE (p:Pt):Nm:=⟨p.after,p.afterAt⟩
def bK (p:Pt):Sp:=⟨p.time,p.dot.dev,p.dot.seq⟩
def withinB (n a b:Int):Bool:=decide (n>=a)&&decide (n<=b)
def mayN (n:Nm):Bool:=(withinB n.dot.dev 1 64&&withinB n.dot.seq 1 1048576)&&withinB n.at_ 0 1999
def bT (p:Pt):Bool:=((((decide (p.val.kind=1)&&decide (p.val.s=e0))&&withinB p.val.n 0 255)&&withinB p.time 1 1125899906842624)&&mayN (aM p))&&(decide (bE p=Nm.zero)||mayN (bE p))
def jL (a b:Sp):Bool:=if a.time≠b.time then decide (a.time<b.time) else if a.dev≠b.dev then decide (a.dev<b.dev) else decide (a.seq<b.seq)
def eN (p q:Pt):Bool:=jL (bK p) (bK q)||(decide (bK p=bK q)&&decide (p.at_<q.at_))
theorem nB (p:Pt):PF Tryz.prog 282 [.agg p.cells] (.agg (aM p).cells):=by
 refine aG aF Tryz.func282 (by kernel_rfl) rfl rfl rfl rfl (λst=> ?_)
 (try apply wO pk;rfl);(repeat' first|show All _;constructor|(refine aC ?_;refine ⟨_,_,_,rfl,zwr _,zsr _, ?_,rfl⟩;try rfl))
theorem pF (p:Pt):PF Tryz.prog 284 [.agg p.cells] (.agg (bE p).cells):=by
 refine aG aF Tryz.func284 (by kernel_rfl) rfl rfl rfl rfl (λst=> ?_)
 (try apply wO pk;rfl);(repeat' first|show All _;constructor|(refine aC ?_;refine ⟨_,_,_,rfl,zwr _,zsr _, ?_,rfl⟩;try rfl))
theorem kU (p:Pt):PF Tryz.prog 362 [.agg p.cells] (.agg (bK p).cells):=by
 refine aG aF Tryz.func362 (by kernel_rfl) rfl rfl rfl rfl (λst=> ?_)
 (try apply wO pk;rfl);(repeat' first|show All _;constructor|(refine aC ?_;refine ⟨_,_,_,rfl,zwr _,zsr _, ?_,rfl⟩;try rfl))
theorem pS (n a b:Int):PF Tryz.prog 360 [(PV.val (Value.int .i64 (n))),(PV.val (Value.int .i64 (a))),(PV.val (Value.int .i64 (b)))] (PV.val (Value.bool (withinB n a b))):=by
 refine aG aF Tryz.func360 (by kernel_rfl) rfl rfl rfl rfl (λst=> ?_)
 (try apply wO pk;rfl);(repeat' first|show All _;constructor|show Imp _ _;constructor|show ImpX _ _ _ _;constructor|(refine aC ?_;refine ⟨_,_,_,rfl,zwr _,zsr _, ?_,rfl⟩;try rfl))
theorem iR (n:Nm):PF Tryz.prog 361 [.agg n.cells] (PV.val (Value.bool (mayN n))):=by
 refine aG aF Tryz.func361 (by kernel_rfl) rfl rfl rfl rfl (λst=> ?_)
 (try apply wO pk;rfl);(repeat' first|show All _;constructor|show Imp _ _;constructor|show ImpX _ _ _ _;constructor|apply wE pk;rfl;rfl|(refine aC ?_;refine ⟨_,_,_,rfl,zwr _,zsr _, ?_,rfl⟩;try rfl)|(apply aH;rfl;rfl;rfl;(intro _;apply pS<;>first|assumption|omega);rotate_left;rfl;rfl))
theorem lH (p:Pt):PF Tryz.prog 283 [.agg p.cells] (PV.val (Value.bool (bT p))):=by
 refine aG aF Tryz.func283 (by kernel_rfl) rfl rfl rfl rfl (λst=> ?_)
 (try apply wO pk;rfl);(repeat' first|show All _;constructor|show Imp _ _;constructor|show ImpX _ _ _ _;constructor|apply wE pk;rfl;rfl|(refine aC ?_;refine ⟨_,_,_,rfl,zwr _,zsr _, ?_,rfl⟩;try first|rfl|simp only [bT,Dt.eqz,Nm.eqz];done)|(apply aH;rfl;rfl;rfl;(intro _;(first|apply pS|apply (nB p)|apply (pF p)|apply (iR (aM p))|apply (iR (bE p)))<;>first|assumption|omega);rotate_left;rfl;rfl))
def aHd (a:Sp):List PV:=[(PV.val (Value.int .i64 (a.time))),(PV.val (Value.int .i64 (a.dev))),(PV.val (Value.int .i64 (a.seq)))]
theorem mN (a:Sp):PF Tryz.prog 409 [.agg a.cells] (.agg (aHd a)):=by
 refine aG aF Tryz.func409 (by kernel_rfl) rfl rfl rfl rfl (λst=> ?_)
 (try apply wO pk;rfl);(repeat' first|show All _;constructor|(refine aC ?_;refine ⟨_,_,_,rfl,zwr _,zsr _, ?_,rfl⟩;try rfl))
def agI :List Int->List Int->Int
 |[],[]=>0
 |[],_::_=> -1
 |_::_,[]=>1
 |a::l,b::m=>if gZ a b=0 then agI l m else gZ a b
theorem aeR {l m:List Int} {i:Nat} (h:i<l.length) (h2:i<m.length):agI (l.drop i) (m.drop i)=if gZ l[i] m[i]=0 then agI (l.drop (i+1)) (m.drop (i+1)) else gZ l[i] m[i]:=by
 rw [List.drop_eq_getElem_cons h,List.drop_eq_getElem_cons h2,agI]
theorem afK (l m:List Int) (hl:l.length<4611686018427387904):PF Tryz.prog 410 [.seq (l.map I1), .seq (m.map I1)] (PV.val (Value.int .i64 (agI l m))):=by
 refine aG aF Tryz.func410 (by kernel_rfl) rfl rfl rfl rfl (λst=> ?_)
 (try apply wO pk;rfl);(repeat' (show All _;constructor))
 refine aK (X:={x:Nat//x<=l.length/\x<=m.length/\agI (l.drop x) (m.drop x)=agI l m}) (λi=>((((((St.nil 36 st).pv 0 (.seq (l.map I1))).pv 1 (.seq (m.map I1))).pv 9 (.seq (l.map I1))).pv 10 ((PV.val (Value.int .i64 ((((l.map I1)).length:Nat)))))).pv 11 ((PV.val (Value.int .i64 ((i.1:Nat))))))) (λi=>l.length-i.1) ⟨0,by omega,by omega,by simp⟩ ?_ (λi=> ?_)
 ·((repeat refine Sub.pv ?_ rfl);exact Sub.nil _ _ _ (zsr _) rfl)
 obtain ⟨i,h1,h2,hinv⟩:=i
 dsimp only
 (try apply wO pk;rfl);(repeat' first|show All _;constructor|show Imp _ _;constructor|apply wC pk;rfl;rfl|apply wE pk;rfl;rfl|refine aA rfl ?_ ?_<;>intro h<;>(try simp at h)<;>try omega|(refine aC ?_;refine ⟨_,_,_,rfl,zwr _,zsr _, ?_,rfl⟩;try first|rfl|(rw [<-hinv];(first|rw [aeR (by omega) (by omega),if_neg ‹_›];done|rw [List.drop_eq_nil_of_le (show l.length<=i by omega),List.drop_eq_getElem_cons (show i<m.length by omega)];rfl|rw [List.drop_eq_nil_of_le (show l.length<=i by omega),List.drop_eq_nil_of_le (show m.length<=i by omega)];rfl|rw [List.drop_eq_nil_of_le (show m.length<=i by omega),List.drop_eq_getElem_cons (show i<l.length by omega)];rfl));done)|(apply aH;rfl;rfl;rfl;(intro _;apply (jB _ _)<;>first|assumption|omega);rotate_left;rfl;rfl)|apply aN pk;(iterate 6 rfl);rotate_left;rfl;(intro hw;rfl);(intro hw;apply aI<;>omega);(intro _;rfl);rfl|refine ⟨⟨i+1,by omega,by omega,by rw [<-hinv,aeR (i:=i) (by omega) (by omega),if_pos ‹_›]⟩, ?_,by simp only;omega⟩;((repeat refine Sub.pv ?_ rfl);exact Sub.nil _ _ _ (zsr _) rfl)|intros;(try simp only [zql]);omega)
def aBX (a b:Sp):Int:=if a=b then 0 else agI [a.time,a.dev,a.seq] [b.time,b.dev,b.seq]
theorem auM (a b:Sp):PF Tryz.prog 389 [.agg a.cells, .agg b.cells] (PV.val (Value.int .i64 (aBX a b))):=by
 refine aG aF Tryz.func389 (by kernel_rfl) rfl rfl rfl rfl (λst=> ?_)
 (try apply wO pk;rfl);(repeat' first|apply aD5 5;rfl;rfl;rfl|apply aD5 6;rfl;rfl;rfl|show All _;constructor|show Imp _ _;constructor|apply wC pk;rfl;rfl|apply wE pk;rfl;rfl|apply wD pk [] [];kernel_rfl;rfl;rfl|refine aA rfl ?_ ?_<;>intro h<;>(try simp at h)<;>try omega|(refine aC ?_;refine ⟨_,_,_,rfl,zwr _,zsr _, ?_,rfl⟩;try first|rfl|(simp_all [aBX,Sp.ext_iff];done);done)|(apply aH;rfl;rfl;rfl;(intro _;(first|apply (mN a)|apply (mN b)|apply (afK [a.time,a.dev,a.seq] [b.time,b.dev,b.seq] (show 3<4611686018427387904 from by omega)))<;>first|assumption|omega);rotate_left;rfl;rfl)|apply slA pk (rows:=[a.time,a.dev,a.seq].map I1);(iterate 7 rfl);rotate_left;rfl;rfl|apply slA pk (rows:=[b.time,b.dev,b.seq].map I1);(iterate 7 rfl);rotate_left;rfl;rfl)
theorem afF (a b:Int):gZ a b<0↔a<b:=by unfold gZ;split<;>(try split)<;>omega
theorem aCN (a b:Int):gZ a b=0↔a=b:=by unfold gZ;split<;>(try split)<;>omega
theorem awO (a b:Sp):decide (aBX a b<0)=jL a b:=by
 unfold aBX jL
 by_cases h:a=b
 ·subst h;simp
 ·rw [if_neg h]
  simp only [agI,aCN]
  by_cases h1:a.time=b.time
  ·by_cases h2:a.dev=b.dev
   ·have h3:¬a.seq=b.seq:=λe=>h ((Sp.ext_iff _ _).2 ⟨h1,h2,e⟩)
    simp [h1,h2,h3,afF]
   ·simp [h1,h2,afF]
  ·simp [h1,afF]
theorem mD (a b:Sp):PF Tryz.prog 363 [.agg a.cells, .agg b.cells] (PV.val (Value.bool (jL a b))):=by
 rw [<-awO]
 refine aG aF Tryz.func363 (by kernel_rfl) rfl rfl rfl rfl (λst=> ?_)
 (try apply wO pk;rfl);(repeat' first|show All _;constructor|show Imp _ _;constructor|apply wE pk;rfl;rfl|(refine aC ?_;refine ⟨_,_,_,rfl,zwr _,zsr _, ?_,rfl⟩;try rfl)|(apply aH;rfl;rfl;rfl;(intro _;apply (auM a b)<;>first|assumption|omega);rotate_left;rfl;rfl))
theorem aGc {f:FuncId} {args:List PV} {st:aJ} {R R':PV->aJ->Prop} (h:PC Tryz.prog f args st R) (hr:∀p st',R p st'->∃q,Wk p q/\R' q st'):PC Tryz.prog f args st R':=
 ⟨h.1,λw g vs hm hv=>(h.2 w g vs hm hv).mono λe w' ⟨v,r,st',g',h1,h2,h3,h4⟩=>by
  obtain ⟨q,k1,k2⟩:=hr _ _ h2
  exact ⟨v,q,st',g',h1,k2,k1 _ _ h3,h4⟩⟩
theorem Wk.und (p:PV):Wk p .und:=λ_ _ _=>by simp [Rep]
def Nm.vals (k:Nm):List Value:=[.int .i64 k.dot.dev, .int .i64 k.dot.seq, .int .i64 k.at_]
def aDW (k:Dt):List Value:=[.int .i64 k.dev, .int .i64 k.seq]
def Nm.enc (k:Nm):Value:= .agg k.vals.toArray
def arE (k:Dt):Value:= .agg (aDW k).toArray
theorem Nm.key :KeyOK Tryz.prog 351 Nm.enc (λk=> .agg k.cells):=
 tP aF Nm.vals rfl rfl (λ_=>rfl) (λa b=>by show some ((decide (a.dot.dev=b.dot.dev)&&decide (a.dot.seq=b.dot.seq))&&decide (a.at_=b.at_))=_;rw [Dt.eqb,Nm.eqb]) (λ_=>rfl) (by kernel_rfl)
theorem aDU :KeyOK Tryz.prog 59 arE (λk=> .agg k.cells):=
 tP aF aDW rfl rfl (λ_=>rfl) (λa b=>by show some (decide (a.dev=b.dev)&&decide (a.seq=b.seq))=_;rw [Dt.eqb]) (λ_=>rfl) (by kernel_rfl)
def ptF (p:Pt):PV:= .agg p.cells
def lX (n:Int):PV:=(PV.val (Value.int .i64 (n)))
def dT (l:List Pt):List (Nm×Pt):=l.foldl (λm p=>cW (aM p) p m) []
def eK (l:List Pt):List (Dt×Int):=l.foldl (λm p=>cW p.dot p.time m) []
def rP (m:List (Nm×Pt)) (t:List (Dt×Int)) (p:Pt):Bool:= !((bX (aM p) m).isSome|| !bT p||(match bX p.dot t with|some x=>decide (x≠p.time)|none=>false))
def jG :List Pt->List (Nm×Pt)->List (Dt×Int)->Bool
 |[],_,_=>true
 |p::r,m,t=>rP m t p&&jG r (cW (aM p) p m) (cW p.dot p.time t)
def avL (m:List (Nm×Pt)) (p:Pt):Bool:=decide (bE p=Nm.zero)||(match bX (bE p) m with|some u=>eN u p|none=>false)
def fW (l:List Pt):Bool:=jG l [] []&&l.all (avL (dT l))
theorem aeZ {l:List Pt} {i:Nat} (h:i<l.length):dT (l.take (i+1))=cW (aM l[i]) l[i] (dT (l.take i)):=by
 rw [List.take_succ_eq_append_getElem h,dT,List.foldl_append];rfl
theorem afP {l:List Pt} {i:Nat} (h:i<l.length):eK (l.take (i+1))=cW l[i].dot l[i].time (eK (l.take i)):=by
 rw [List.take_succ_eq_append_getElem h,eK,List.foldl_append];rfl
theorem ajX {l:List Pt} {i:Nat} (h:i<l.length) {m t}:jG (l.drop i) m t=(rP m t l[i]&&jG (l.drop (i+1)) (cW (aM l[i]) l[i] m) (cW l[i].dot l[i].time t)):=by
 rw [List.drop_eq_getElem_cons h];rfl
theorem yU (p q:Pt):PF Tryz.prog 285 [.agg p.cells, .agg q.cells] (PV.val (Value.bool (eN p q))):=by
 refine aG aF Tryz.func285 (by kernel_rfl) rfl rfl rfl rfl (λst=> ?_)
 (try apply wO pk;rfl);(repeat' first|show All _;constructor|show Imp _ _;constructor|show ImpX _ _ _ _;constructor|apply wE pk;rfl;rfl|apply wD pk [] [];kernel_rfl;rfl;rfl|(refine aC ?_;refine ⟨_,_,_,rfl,zwr _,zsr _, ?_,rfl⟩;try first|rfl|simp only [eN,Sp.eqb];done)|(apply aH;rfl;rfl;rfl;(intro _;(first|apply (kU p)|apply (kU q)|apply (mD (bK p) (bK q)))<;>first|assumption|omega);rotate_left;rfl;rfl))
theorem aBC (l:List Pt) (st:aJ) (hl:l.length<4611686018427387904):PC Tryz.prog 185 [.seq (l.map Pt.cells)] st λp st'=>(∃m,p= .tup [m,(PV.val (Value.bool (fW l)))])/\st'=st:=by
 refine bZ aF Tryz.func185 (by kernel_rfl) rfl rfl rfl rfl ?_
 (try apply wO pk;rfl);(repeat' (show All _;constructor))
 refine mkM (enc:=Nm.enc) (f:=ptF) rfl (λid1 hid1=> ?_)
 (try apply wO pk;rfl);(repeat' first|show All _;constructor|apply wE pk;rfl;rfl)
 refine mkM (enc:=arE) (f:=lX) rfl (λid2 hid2=> ?_)
 have hid1:st id1=none:=hid1
 have hne:id1≠id2:=by intro e;subst e;have:=hid2;simp only [St.put,St.pv,St.sst,aB] at this;cases this
 have hid2:st id2=none:=by have:=hid2;simp only [St.put,St.pv,St.sst] at this;exact (aD (Ne.symm hne)).symm.trans this
 have hne2:=Ne.symm hne
 (try apply wO pk;rfl);(repeat' first|show All _;constructor|apply wE pk;rfl;rfl)
 refine aK (X:={x:Nat//x<=l.length/\jG l [] []=jG (l.drop x) (dT (l.take x)) (eK (l.take x))}) (λi=>(((((((St.nil 94 (upd (upd st id1 (some (.map (aY Nm.enc ptF (dT (l.take i.1)))))) id2 (some (.map (aY arE lX (eK (l.take i.1))))))).pv 0 (.seq (l.map Pt.cells))).pv 4 (.mref id1)).pv 5 (.mref id2)).pv 18 (.seq (l.map Pt.cells))).pv 19 ((PV.val (Value.int .i64 ((((l.map Pt.cells)).length:Nat)))))).pv 20 ((PV.val (Value.int .i64 ((i.1:Nat))))))) (λi=>l.length-i.1) ⟨0,by omega,rfl⟩ ?_ (λi=> ?_)
 ·(((repeat refine Sub.pv ?_ rfl);(exact Sub.nil _ _ _ (zsr _) rfl)))
 obtain ⟨i,hi,hinv⟩:=i
 dsimp only
 have hs:=λh:i<l.length=>ajX h (m:=dT (l.take i)) (t:=eK (l.take i))
 have hs1:=λh:i<l.length=>aeZ h
 have hs2:=λh:i<l.length=>afP h
 (try apply wO pk;rfl);(repeat' first|show All _;constructor|show Imp _ _;constructor|show ImpX _ _ _ _;constructor|apply wC pk;rfl;rfl|apply wE pk;rfl;rfl|apply wDm pk;rfl;kernel_rfl;rfl;rfl|refine aA rfl ?_ ?_<;>intro h<;>(try simp at h)<;>try omega|((try refine aC ?_);((refine ⟨_,_, ?zs,rfl,zwr _, ?zh, ?zr⟩;(case zh=>(refine bO ?_ ‹_›;(repeat refine bO ?_ ‹_›);exact zsr _));(case zr=>((have e:fW l=false:=(by unfold fW;rw [hinv,hs (by omega)];first|simp [rP, *];done|(rcases ‹_\/_›with q|q<;>simp [rP, *]));exact ⟨⟨.val (.map none),by rw [e]⟩,rfl⟩))))))|(apply aH;rfl;rfl;rfl;(intro _;(first|apply nB|apply lH)<;>first|assumption|omega);rotate_left;rfl;rfl)|apply aN pk;(iterate 6 rfl);rotate_left;rfl;(intro hw;rfl);(intro hw;apply aI<;>omega);(intro _;rfl);rfl|(apply aAz pk Nm.key (f:=ptF);(iterate 5 rfl);rotate_left;rfl;((focus ((repeat (first|exact aB _ _ _|refine (aD ‹_›).trans ?_));done)));rfl;intro v hv;rotate_left;intro hv;rotate_left)|apply meA pk Nm.key (f:=ptF) (z:=Pt.zero);(iterate 6 rfl);((focus ((repeat (first|exact aB _ _ _|refine (aD ‹_›).trans ?_));done)));rfl|apply esA pk Nm.key (f:=ptF);(iterate 4 rfl);(exact aB _ _ _);rfl|(apply aAz pk aDU (f:=lX);(iterate 5 rfl);rotate_left;rfl;(exact aB _ _ _);rfl;intro v hv;rotate_left;intro hv;rotate_left)|apply muA pk aDU (f:=lX);(exact .inr rfl);(iterate 5 rfl);((focus ((repeat (first|exact aB _ _ _|refine (aD ‹_›).trans ?_));done)));rfl|(refine ⟨⟨i+1,by omega,by rw [hinv,hs (by omega),hs1 (by omega),hs2 (by omega)];simp [rP, *]⟩, ?_,by simp only;omega⟩;(simp only [hs1 (show i<l.length by omega),hs2 (show i<l.length by omega)]);(((repeat refine Sub.pv ?_ rfl);((refine Sub.nil _ _ _ (eY ?_) rfl;(simp only [St.pv,St.put,St.sst,St.setv,St.nil,St.var,fF]);(rw [aG4 ‹_›]);first|done|rfl)))))|intros;(try simp only [zql]);omega)
 have e1:l.take i=l:=List.take_of_length_le (by omega)
 have w1:jG l [] []=true:=by rw [hinv,List.drop_eq_nil_of_le (by omega)];rfl
 refine aK (X:={x:Nat//x<=l.length/\(l.take x).all (avL (dT (l.take i)))=true}) (λy=>(((((St.nil 94 (upd (upd st id1 (some (.map (aY Nm.enc ptF (dT (l.take i)))))) id2 (some (.map (aY arE lX (eK (l.take i))))))).pv 4 (.mref id1)).pv 65 (.seq (l.map Pt.cells))).pv 66 ((PV.val (Value.int .i64 ((((l.map Pt.cells)).length:Nat)))))).pv 67 ((PV.val (Value.int .i64 ((y.1:Nat))))))) (λy=>l.length-y.1) ⟨0,by omega,rfl⟩ ?_ (λy=> ?_)
 ·(((repeat refine Sub.pv ?_ rfl);(exact Sub.nil _ _ _ (zsr _) rfl)))
 clear hs hs1 hs2
 obtain ⟨y,hy,hall⟩:=y
 dsimp only
 (try apply wO pk;rfl);(repeat' first|show All _;constructor|show Imp _ _;constructor|show ImpX _ _ _ _;constructor|apply wC pk;rfl;rfl|apply wE pk;rfl;rfl|refine aA rfl ?_ ?_<;>intro h<;>(try simp at h)<;>try omega|((try refine aC ?_);((refine ⟨_,_, ?zs,rfl,zwr _, ?zh, ?zr⟩;(case zh=>(refine bO ?_ ‹_›;(repeat refine bO ?_ ‹_›);exact zsr _));(case zr=>((first|have e:fW l=false:=(by unfold fW;simp only [e1] at*;rw [w1,Bool.true_and,List.all_eq_false];refine ⟨l[y]'‹_›,zgm _, ?_⟩;simp [avL,Nm.ext_iff,Dt.ext_iff,Nm.zero,Dt.zero,and_assoc, *];try (intros;omega));exact ⟨⟨.val (.map none),by rw [e]⟩,rfl⟩|have e:fW l=true:=(by unfold fW;simp only [e1] at*;rw [w1,Bool.true_and,<-hall,List.take_of_length_le (by omega)]);exact ⟨⟨.mref id1,by rw [e]⟩,rfl⟩))))))|(apply aH;rfl;rfl;rfl;(intro _;(first|apply pF|apply yU|apply (yU Pt.zero))<;>first|assumption|omega);rotate_left;rfl;rfl)|apply aN pk;(iterate 6 rfl);rotate_left;rfl;(intro hw;rfl);(intro hw;apply aI<;>omega);(intro _;rfl);rfl|(apply aAz pk Nm.key (f:=ptF);(iterate 5 rfl);rotate_left;rfl;((focus ((repeat (first|exact aB _ _ _|refine (aD ‹_›).trans ?_));done)));rfl;intro v hv;rotate_left;intro hv;rotate_left)|refine ⟨⟨y+1,by omega,by simp only [e1] at*;rw [List.take_succ_eq_append_getElem (by omega),List.all_append,hall];simp [avL,Nm.ext_iff,Dt.ext_iff,Nm.zero,Dt.zero,and_assoc, *];try grind⟩, ?_,by simp only;omega⟩;(((repeat refine Sub.pv ?_ rfl);(exact Sub.nil _ _ _ (zsr _) rfl)))|intros;(try simp only [zql]);omega)
def eI (a b:Pt):Int:=if bK a=bK b then a.at_-b.at_ else if jL (bK b) (bK a) then-1 else 1
theorem mH {p:Pt} (h:bT p=true):0<=p.at_/\p.at_<=1999:=by
 simp only [bT,mayN,withinB,zba,zde] at h
 exact h.1.2.2
theorem iA (a b:Pt) (ha:bT a=true) (hb:bT b=true):PF Tryz.prog 288 [.agg a.cells, .agg b.cells] (PV.val (Value.int .i64 (eI a b))):=by
 have h1:=mH ha
 have h2:=mH hb
 refine aG aF Tryz.func288 (by kernel_rfl) rfl rfl rfl rfl (λst=> ?_)
 (try apply wO pk;rfl);(repeat' first|show All _;constructor|show Imp _ _;constructor|apply wC pk;rfl;rfl|apply wE pk;rfl;rfl|apply wD pk [] [];kernel_rfl;rfl;rfl|refine aA rfl ?_ ?_<;>intro h<;>(try simp at h)<;>try omega|(refine aC ?_;refine ⟨_,_,_,rfl,zwr _,zsr _, ?_,rfl⟩;try first|rfl|(simp only [eI,Sp.ext_iff];simp_all);done)|(apply aH;rfl;rfl;rfl;(intro _;(first|apply (kU a)|apply (kU b)|apply (mD (bK b) (bK a)))<;>first|assumption|omega);rotate_left;rfl;rfl)|intros;(try simp only [zql]);omega)
theorem atM (a:Sp):jL a a=false:=by simp [jL]
theorem acO (a b:Sp):jL a b=true↔a.time<b.time\/a.time=b.time/\(a.dev<b.dev\/a.dev=b.dev/\a.seq<b.seq):=by
 unfold jL
 split
 ·rw [zde];omega
 ·split
  ·rw [zde];omega
  ·rw [zde];omega
def fP (a b:Pt):Prop:=jL (bK b) (bK a)=true\/bK a=bK b/\a.at_<b.at_
theorem adT (a b:Pt):eI a b<0↔fP a b:=by
 unfold eI fP
 by_cases h:bK a=bK b
 ·rw [if_pos h,h,atM];simp;omega
 ·rw [if_neg h]
  split
  ·rename_i h2;simp [h2]
  ·rename_i h2;simp [h2,h]
abbrev Fp :={p:Pt//bT p=true}
instance : Inhabited Fp:=⟨⟨⟨⟨1,0,e0⟩,⟨1,1⟩,0,1,Dt.zero,0,false⟩,by decide⟩⟩
def ayJ (a b:Fp):Int:=eI a.1 b.1
theorem fB (a b:Pt):fP a b↔b.time<a.time\/b.time=a.time/\(b.dot.dev<a.dot.dev\/b.dot.dev=a.dot.dev/\(b.dot.seq<a.dot.seq\/b.dot.seq=a.dot.seq/\a.at_<b.at_)):=by
 unfold fP
 rw [acO,Sp.ext_iff]
 simp only [bK]
 omega
theorem awT :Go.Sort.SWO (ltOf ayJ):=by
 have h:∀x y:Fp,ltOf ayJ x y=true↔fP x.1 y.1:=λx y=>by rw [ltOf,zde];exact adT _ _
 have hf:∀x y:Fp,ltOf ayJ x y=false↔¬fP x.1 y.1:=λx y=>by rw [<-h,Bool.not_eq_true]
 refine ⟨λx=>(hf x x).2 ?_,λx y z h1 h2=> ?_,λx y z h1 h2=> ?_⟩
 ·rw [fB];omega
 ·rw [h,fB] at h1 h2⊢;omega
 ·rw [hf,fB] at h1 h2⊢;omega
def fN (l:List Pt) (k:Nm):List Pt:=l.filter λp=>decide (bE p=k)
theorem uH {l:List Pt} {i:Nat} (h:i<l.length) (k:Nm):fN (l.take (i+1)) k=if bE l[i]=k then fN (l.take i) k++[l[i]] else fN (l.take i) k:=by
 unfold fN
 rw [List.take_succ_eq_append_getElem h,List.filter_append]
 by_cases hk:bE l[i]=k<;>simp [hk]
def zP (x:Nat×Nat):PV:= .vec x.1 11 0 x.2
structure FamB (st:aJ) (l:List Pt) (idm:Nat) (K:List (Nm×(Nat×Nat))) (S:aJ):Prop where
 old:∀j,st j≠none->S j=st j
 hm:S idm=some (.map (aY Nm.enc zP K))
 mf:st idm=none
 arr:∀k id n,(k,(id,n))∈K->S id=some (.arr 190 ((fN l k).map Pt.cells))/\n=(fN l k).length/\st id=none
 keys:(K.map (·.1)).Nodup
 ids:(K.map (·.2.1)).Nodup
 non:∀k,bX k K=none->fN l k=[]
theorem pK {K V:Type} [DecidableEq K] {k:K} {v:V}:∀{l:List (K×V)},bX k l=some v->(k,v)∈l
  |(k',v')::l,h=>by
    simp only [bX] at h
    split at h
    · rename_i e;injection h with h;subst h;subst e;simp
    · exact List.mem_cons_of_mem _ (pK h)
theorem yM (l:List Pt) (hl:l.length<4611686018427387904):PF Tryz.prog 185 [.seq (l.map Pt.cells)] (.tup [.und,(PV.val (Value.bool (fW l)))]):=λst=>
 aGc (aBC l st hl) λp st' ⟨⟨m,e⟩,h⟩=>⟨_,e▸Wk.tup (.cons (Wk.und m) (.cons (zwr _) .nil)),rfl,h⟩
theorem zF :Tryz.prog.bytesOf 190=96:=by kernel_rfl
theorem FamB.fresh {st S:aJ} {l:List Pt} {idm:Nat} {K:List (Nm×(Nat×Nat))} (h:FamB st l idm K S) {id:Nat} (hid:S id=none):st id=none/\id≠idm/\∀k i n,(k,(i,n))∈K->id≠i:=by
 refine ⟨?_, ?_, ?_⟩
 ·cases hs:st id with
  |none=>rfl
  |some o=>have:=h.old id (by rw [hs];simp);rw [hid,hs] at this;cases this
 ·intro e;subst e;rw [h.hm] at hid;cases hid
 ·intro k i n hk e;subst e;rw [(h.arr k _ n hk).1] at hid;cases hid
theorem FamB.notm {st S:aJ} {l:List Pt} {idm:Nat} {K:List (Nm×(Nat×Nat))} (h:FamB st l idm K S) {k:Nm} {i n:Nat} (hk:(k,(i,n))∈K):i≠idm:=by
 intro e;subst e;have:=(h.arr k _ n hk).1;rw [h.hm] at this;cases this
theorem qJ {K V:Type} [DecidableEq K] (k k':K) (v:V):∀(l:List (K×V)),bX k' (cW k v l)=if k'=k then some v else bX k' l
 |[]=>by simp only [cW,bX]
 |e::l=>by
  have ih:=qJ k k' v l
  simp only [cW]
  split
  ·rename_i h;simp only [bX];split<;>simp_all
  ·rename_i h;simp only [bX,ih];split
   ·rename_i h2;rw [if_neg (λe=>h (by rw [<-e,h2]))]
   ·rfl
theorem tX {K V:Type} [DecidableEq K] {k:K} {v:V} {x:K×V}:∀{l:List (K×V)},(l.map (·.1)).Nodup->x∈cW k v l->x=(k,v)\/x∈l/\x.1≠k
 |[],_,h=>by simp only [cW,List.mem_singleton] at h;exact .inl h
 |e::l,hn,h=>by
  simp only [List.map_cons,List.nodup_cons] at hn
  simp only [cW] at h
  split at h
  ·rename_i he
   rcases zmc.1 h with h|h
   ·exact .inl h
   ·refine .inr ⟨List.mem_cons_of_mem _ h,λhh=>hn.1 ?_⟩
    rw [<-he,<-hh];exact List.mem_map.2 ⟨x,h,rfl⟩
  ·rename_i he
   rcases zmc.1 h with h|h
   ·subst h;exact .inr ⟨List.mem_cons_self,λhh=>he hh.symm⟩
   ·rcases tX hn.2 h with h|⟨h,h2⟩
    ·exact .inl h
    ·exact .inr ⟨List.mem_cons_of_mem _ h,h2⟩
theorem aaD {K V:Type} [DecidableEq K] {k:K} {v:V}:∀{l:List (K×V)},(l.map (·.1)).Nodup->((cW k v l).map (·.1)).Nodup
 |[],_=>by simp [cW]
 |e::l,hn=>by
  simp only [List.map_cons,List.nodup_cons] at hn
  simp only [cW]
  split
  ·rename_i he;simp only [List.map_cons,List.nodup_cons,he];exact hn
  ·rename_i he
   simp only [List.map_cons,List.nodup_cons]
   refine ⟨λhm=> ?_,aaD hn.2⟩
   obtain ⟨x,hx,hxe⟩:=List.mem_map.1 hm
   rcases tX hn.2 hx with rfl|⟨h,_⟩
   ·exact he hxe
   ·exact hn.1 (List.mem_map.2 ⟨x,h,hxe⟩)
theorem aeN {K V:Type} [DecidableEq K] {k:K} {v:V} {g:V->Nat}:∀{l:List (K×V)},(l.map λe=>g e.2).Nodup->(l.map (·.1)).Nodup->(∀e∈l,g e.2≠g v)->((cW k v l).map λe=>g e.2).Nodup
 |[],_,_,_=>by simp [cW]
 |e::l,hn,hk,hv=>by
  simp only [List.map_cons,List.nodup_cons] at hn hk
  simp only [cW]
  split
  ·simp only [List.map_cons,List.nodup_cons]
   refine ⟨λhm=> ?_,hn.2⟩
   obtain ⟨x,hx,hxe⟩:=List.mem_map.1 hm
   exact hv x (List.mem_cons_of_mem _ hx) hxe
  ·simp only [List.map_cons,List.nodup_cons]
   refine ⟨λhm=> ?_,aeN hn.2 hk.2 λx hx=>hv x (List.mem_cons_of_mem _ hx)⟩
   obtain ⟨x,hx,hxe⟩:=List.mem_map.1 hm
   rcases tX hk.2 hx with rfl|⟨h,_⟩
   ·exact hv e List.mem_cons_self hxe.symm
   ·exact hn.1 (List.mem_map.2 ⟨x,h,hxe⟩)
theorem uN {α:Type} {g:α->Nat}:∀{l:List α},(l.map g).Nodup->∀{a b},a∈l->b∈l->g a=g b->a=b
 |[],_,_,_,h,_,_=>by cases h
 |x::l,hn,a,b,ha,hb,e=>by
  simp only [List.map_cons,List.nodup_cons] at hn
  rcases zmc.1 ha with ha|ha<;>rcases zmc.1 hb with hb|hb
  ·rw [ha,hb]
  ·exact (hn.1 (List.mem_map.2 ⟨b,hb,by rw [<-e,ha]⟩)).elim
  ·exact (hn.1 (List.mem_map.2 ⟨a,ha,by rw [e,hb]⟩)).elim
  ·exact uN hn.2 ha hb e
theorem FamB.step {st S S1:aJ} {l:List Pt} {i:Nat} (hi:i<l.length) {idm id m:Nat} {K:List (Nm×(Nat×Nat))} (h:FamB st (l.take i) idm K S) (hid:S id=none) (hm:m=(fN (l.take i) (bE l[i])).length+1) (hS:∀j,(∀n,(bE l[i],(j,n))∉K)->S1 j=S j):
  FamB st (l.take (i+1)) idm (cW (bE l[i]) (id,m) K) (upd (upd S1 id (some (.arr 190 ((fN (l.take i) (bE l[i])++[l[i]]).map Pt.cells)))) idm (some (.map (aY Nm.enc zP (cW (bE l[i]) (id,m) K))))):=by
 obtain ⟨f1,f2,f3⟩:=h.fresh hid
 refine ⟨λj hj=> ?_,aB _ _ _,h.mf,λk j n hx=> ?_,aaD h.keys,aeN (g:=(·.1)) h.ids h.keys λe he=> ?_,λk hk'=> ?_⟩
 ·rw [aD (λe=>by subst e;exact hj h.mf),aD (λe=>by subst e;exact hj f1),hS j λn hn=>hj (h.arr _ j n hn).2.2];exact h.old j hj
 ·rcases tX h.keys hx with e|⟨hx,hne⟩
  ·simp only [Prod.mk.injEq] at e
   obtain ⟨rfl,rfl,rfl⟩:=e
   rw [uH hi,if_pos rfl,aD f2,aB]
   exact ⟨rfl,by rw [hm];simp,f1⟩
  ·obtain ⟨a1,a2,a3⟩:=h.arr k j n hx
   rw [uH hi,if_neg (Ne.symm hne),aD (h.notm hx),aD (λe=>f3 k j n hx e.symm),hS j λn' hn'=>hne ?_]
   ·exact ⟨a1,a2,a3⟩
   ·exact congrArg Prod.fst (uN h.ids hx hn' rfl)
 ·exact λe'=>f3 e.1 e.2.1 e.2.2 he e'.symm
 ·rw [qJ] at hk'
  split at hk'
  ·cases hk'
  ·rename_i hne
   rw [uH hi,if_neg (Ne.symm hne)]
   exact h.non k hk'
theorem FamB.nil {st:aJ} {idm:Nat} (h:st idm=none):FamB st [] idm [] (upd st idm (some (.map (aY Nm.enc zP [])))):=
 ⟨λj hj=>aD λe=>by subst e;exact hj h,aB _ _ _,h,λ_ _ _ h=>(by cases h),by simp,by simp,λ_ _=>rfl⟩
theorem akN (l:List Pt) (k:Nm):(fN l k).length<=l.length:=List.length_filter_le _ _
end Go.Proofs.YtloecjjehapblaaGreatDoor.T
namespace Go.Proofs.YtloecjjehapblaaGreatDoor.T
open Go Go.Abs
attribute [local irreducible] Ev PWp
set_option maxRecDepth 10000
set_option maxHeartbeats 4000000
theorem aCm :PF Tryz.prog 197 [(PV.val (Value.int .u64 ((0:Nat))))] (PV.val (Value.int .i64 ((0:Nat)))):=by
 refine aG aF Tryz.func197 (by kernel_rfl) rfl rfl rfl rfl (λst=> ?_)
 (try apply wO pk;rfl);(repeat' first|show All _;constructor|apply wC pk;rfl;rfl|apply wE pk;rfl;rfl|refine aA rfl ?_ ?_<;>intro h<;>(try simp at h)<;>try omega|(refine aC ?_;first|refine ⟨_,_,_,rfl,zwr _,zsr _, ?_,rfl⟩;(rfl)|refine ⟨_,_,_,rfl,zwr _,aL ‹_›, ?_,rfl⟩;(fail)|refine ⟨_,_,_,rfl,zwf _,zsr _, ?_,rfl⟩;(fail)|refine ⟨_,_,_,rfl,zwf _,aL ‹_›, ?_,rfl⟩;(fail)|(refine ⟨_,_,_,rfl,zwr _,zsr _, ?_,rfl⟩)|(refine ⟨_,_,_,rfl,zwf _,aL ‹_›, ?_,rfl⟩))|apply cvA pk.htt;(iterate 5 rfl);(refine ⟨?_, ?_⟩<;>(first|omega|decide));rfl|apply sxA pk.htt 0 0;(iterate 6 rfl);kernel_rfl;rfl|exact ⟨by decide,by decide⟩)
theorem aFH {y:Int} (hy:y=0):PF Tryz.prog 118 [(PV.val (Value.int .u64 (y)))] (PV.val (Value.int .i64 ((0:Nat)))):=by
 subst hy
 refine aG aF Tryz.func118 (by kernel_rfl) rfl rfl rfl rfl (λst=> ?_)
 (try apply wO pk;rfl);(repeat' first|show All _;constructor|show Imp _ _;constructor|apply wC pk;rfl;rfl|apply wE pk;rfl;rfl|apply dL;simp only [zqt,zqf]|(refine aC ?_;refine ⟨_,_,_,rfl,zwr _,zsr _, ?_,rfl⟩;try rfl)|(apply aH;rfl;rfl;rfl;(intro _;apply aCm<;>first|assumption|omega);rotate_left;rfl;rfl))
section
variable {fid:FuncId} {caps:List PV} {st:aJ}
theorem aCy :PC Tryz.prog 390 [.seq [],(PV.val (Value.int .i64 (0))),(PV.val (Value.int .i64 (0))), .fn fid caps] st λ_ st'=>st'=st:=by
 refine bZ aF Tryz.func390 (by kernel_rfl) rfl rfl rfl rfl ?_
 (try apply wO pk;rfl);(repeat' first|show All _;constructor|intros;(try simp only [zql]);omega)
 refine aK (X:=Unit) (λi=>((((((St.nil 53 st).pv 0 (.seq [])).pv 1 ((PV.val (Value.int .i64 (0))))).pv 2 ((PV.val (Value.int .i64 (0))))).pv 3 (.fn fid caps)).pv 8 ((PV.val (Value.int .i64 (1)))))) (λi=>0) () ?_ (λi=> ?_)
 ·((repeat refine Sub.pv ?_ rfl);exact Sub.nil _ _ _ (zsr _) rfl)
 (try apply wO pk;rfl);(repeat' first|show All _;constructor|apply wC pk;rfl;rfl|apply wX pk;rfl|refine aA rfl ?_ ?_<;>intro h<;>(try simp at h)<;>try omega|(try refine aC ?_);((refine ⟨_,_,_,rfl,zwr _,zsr _, ?_⟩;((rfl));done)))
theorem aB7 {lim:Int}:PC Tryz.prog 364 [.seq [],(PV.val (Value.int .i64 (0))),(PV.val (Value.int .i64 (0))),(PV.val (Value.int .i64 (lim))), .fn fid caps] st λ_ st'=>st'=st:=by
 refine bZ aF Tryz.func364 (by kernel_rfl) rfl rfl rfl rfl ?_
 (try apply wO pk;rfl);(repeat' (show All _;constructor))
 refine aK (X:=Unit) (λi=>((((((((St.nil 148 st).pv 0 (.seq [])).pv 1 ((PV.val (Value.int .i64 (0))))).pv 2 ((PV.val (Value.int .i64 (0))))).pv 3 ((PV.val (Value.int .i64 (lim))))).pv 4 (.fn fid caps)).pv 10 ((PV.val (Value.bool (true))))).pv 11 ((PV.val (Value.bool (true)))))) (λi=>0) () ?_ (λi=> ?_)
 ·((repeat refine Sub.pv ?_ rfl);exact Sub.nil _ _ _ (zsr _) rfl)
 (try apply wO pk;rfl);(repeat' first|show All _;constructor|apply wC pk;rfl;rfl|apply wE pk;rfl;rfl|refine aA rfl ?_ ?_<;>intro h<;>(try simp at h)<;>try omega|(try refine aC ?_);((refine ⟨_,_,_,rfl,zwr _,zsr _, ?_⟩;((rfl));done))|(apply cB;rfl;rfl;((apply aCy<;>first|exact aB _ _ _|assumption|omega|simp only [zqs];omega|(fail)));rfl;rfl;rfl;intro _ st' hR;(subst hR))|intros;(try simp only [zql]);omega)
theorem ayM :PC Tryz.prog 287 [.seq [], .fn fid caps] st λ_ st'=>st'=st:=by
 refine bZ aF Tryz.func287 (by kernel_rfl) rfl rfl rfl rfl ?_
 (try apply wO pk;rfl);(repeat' first|show All _;constructor|show Imp _ _;constructor|apply wE pk;rfl;rfl|(try refine aC ?_);((refine ⟨_,_,_,rfl,zwr _,zsr _, ?_⟩;((rfl));done))|(apply aH;rfl;rfl;rfl;(intro _;apply (aFH rfl)<;>first|assumption|omega);rotate_left;rfl;rfl)|(apply cB;rfl;rfl;((apply aB7<;>first|exact aB _ _ _|assumption|omega|simp only [zqs];omega|(fail)));rfl;rfl;rfl;intro _ st' hR;(subst hR))|apply cvA pk.htt;(iterate 5 rfl);(refine ⟨?_, ?_⟩<;>(first|omega|decide));rfl)
end
theorem aoI {S:aJ} {l:List Pt} {id n:Nat} (hf:∀p∈l,bT p=true) (hst:S id=some (.arr 190 (l.map Pt.cells))) (hn:l.length=n) (h62:n<4611686018427387904):
  PC Tryz.prog 287 [.vec id 11 0 n, .fn 288 []] S λ_ S'=>∃R:List Pt,S'=upd S id (some (.arr 190 (R.map Pt.cells)))/\R.Perm l/\R.Pairwise λx y=>¬fP y x:=by
 have e:(l.attach.map λx=>(⟨x.1,hf x.1 x.2⟩:Fp)).map (λx=>([.int .i64 x.1.val.kind, .int .i64 x.1.val.n, .string x.1.val.s, .int .i64 x.1.dot.dev, .int .i64 x.1.dot.seq, .int .i64 x.1.at_, .int .i64 x.1.time, .int .i64 x.1.after.dev, .int .i64 x.1.after.seq, .int .i64 x.1.afterAt, .bool x.1.gone]:List Value).map PV.val)=l.map Pt.cells:=by
  rw [List.map_map]
  show l.attach.map (λx=>Pt.cells x.1)=_
  rw [List.attach_map_val]
 have:=aA8 (P:=Tryz.prog) aHh (by kernel_rfl) (k:=11) Tryz.isAgg190 Tryz.sizeOf190 (enc:=λx:Fp=>[.int .i64 x.1.val.kind, .int .i64 x.1.val.n, .string x.1.val.s, .int .i64 x.1.dot.dev, .int .i64 x.1.dot.seq, .int .i64 x.1.at_, .int .i64 x.1.time, .int .i64 x.1.after.dev, .int .i64 x.1.after.seq, .int .i64 x.1.afterAt, .bool x.1.gone]) (λ_=>rfl) (λx v hv=>by simp only [zmc,List.not_mem_nil,or_false] at hv;rcases hv with rfl|rfl|rfl|rfl|rfl|rfl|rfl|rfl|rfl|rfl|rfl<;>rfl) (cmp:=ayJ) awT
  (gf:=288) (by kernel_rfl) (λx y=>iA x.1 y.1 x.2 y.2) (st:=S) (id:=id) (n:=n) (d:=l.attach.map λx=>⟨x.1,hf x.1 x.2⟩) (e:=190) (by kernel_rfl) (by rw [e];exact hst) (by simpa using hn) h62
 refine ⟨this.1,λw g vs h1 h2=>(this.2 w g vs h1 h2).mono ?_⟩
 rintro e w' ⟨v,q,S',g',h3,⟨r,hS,hp,hw⟩,h4⟩
 refine ⟨v,q,S',g',h3,⟨r.map (·.1), ?_, ?_, ?_⟩,h4⟩
 ·rw [hS,List.map_map];rfl
 ·have:=hp.map (·.1)
  rwa [List.map_map,show ((λx:Fp=>x.1)∘λx:{x//x∈l}=>(⟨x.1,hf x.1 x.2⟩:Fp))=Subtype.val from rfl,List.attach_map_subtype_val] at this
 ·rw [List.pairwise_map]
  exact hw.imp fun {a b} h=>by rwa [ayJ,adT] at h
end Go.Proofs.YtloecjjehapblaaGreatDoor.T
