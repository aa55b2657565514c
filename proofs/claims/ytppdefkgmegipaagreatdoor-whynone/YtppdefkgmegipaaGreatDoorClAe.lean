import Derived.Test.YtppdefkgmegipaaGreatDoorClAd
import Derived.LaidMore
import Derived.LaidOnce
import Derived.LaidHandle
import Derived.Test.YtppdefkgmegipaaGreatDoorClAa
import Derived.Test.YtppdefkgmegipaaGreatDoorClAb
import Derived.Test.YtppdefkgmegipaaGreatDoorAbsE
import Derived.Test.YtppdefkgmegipaaGreatDoorAbsSort
import Derived.Sort.LotD5
set_option linter.unusedSimpArgs false
set_option linter.unusedVariables false
namespace Go.Proofs.YtppdefkgmegipaaGreatDoor
open Go
set_option maxRecDepth 100000
noncomputable def wL (os:Os):World:={World.doorLaid Tryz.prog 19 os with heap:=(World.doorLaid Tryz.prog 19 os).heap.setIfInBounds 1 (.cells (Pinned.utf8FirstZ.map λn:Nat=>Value.int .u8 (n:Int)).toArray 353 (0,0))}
theorem aoB (os:Os) (args:Array Value):((wL os).forCall (λ_ _=>0) ⟨#[],args,[]⟩).Shaped Tryz.prog:=World.shaped_of_RefB (by kernel_rfl) (by kernel_rfl)
theorem aBB (os : Os) (args : Array Value) : laidMetH Tryz.prog [("unicode/utf8.acceptRanges", Rows.laid_unicode_utf8_acceptRanges), ("unicode/utf8.first", Rows.laid_unicode_utf8_first)] ((wL os).forCall (λ_ _ => 0) ⟨#[], args, []⟩).memory :=
  laidMetH_of_parts3 (fuel:=8) (laidMet_of_run' 8 (by kernel_rfl) (by kernel_rfl)) (by kernel_rfl) (by kernel_rfl)
end Go.Proofs.YtppdefkgmegipaaGreatDoor
namespace Go.Proofs.YtppdefkgmegipaaGreatDoor
open Go Go.Abs
set_option maxRecDepth 10000
set_option maxHeartbeats 4000000
end Go.Proofs.YtppdefkgmegipaaGreatDoor
namespace Go.Proofs.YtppdefkgmegipaaGreatDoor.T
open Go Go.Abs
section
set_option maxRecDepth 10000
set_option maxHeartbeats 4000000
structure Sp where
 time:Int
 dev:Int
 seq:Int
 deriving DecidableEq,Inhabited
def Sp.cells (a:Sp):List PV:=[.val (.int .i64 (a.time)), .val (.int .i64 (a.dev)), .val (.int .i64 (a.seq))]
def Sp.zero :Sp:=⟨0,0,0⟩
theorem Sp.ext_iff (a b:Sp):a=b↔a.time=b.time/\a.dev=b.dev/\a.seq=b.seq:=by cases a;cases b;simp
theorem Sp.eqb (a b:Sp):(decide (a.time=b.time)&&(decide (a.dev=b.dev)&&(decide (a.seq=b.seq))))=decide (a=b):=by rw [Bool.eq_iff_iff];simp [Sp.ext_iff]
theorem Sp.eqz (a:Sp):(decide (a.time=0)&&(decide (a.dev=0)&&(decide (a.seq=0))))=decide (a=Sp.zero):=by rw [Bool.eq_iff_iff];simp [Sp.ext_iff,Sp.zero]
theorem Sp.elem :Elem tt 327 Sp.cells (λa=> .agg a.cells) 3:=⟨rfl,λ_=>rfl,λ_=>rfl,λ_=>rfl,λ_=>rfl⟩
structure Nm where
 dot:Dt
 at_:Int
 deriving DecidableEq,Inhabited
def Nm.cells (a:Nm):List PV:=[.val (.int .i64 (a.dot.dev)), .val (.int .i64 (a.dot.seq)), .val (.int .i64 (a.at_))]
def Nm.zero :Nm:=⟨Dt.zero,0⟩
theorem Nm.ext_iff (a b:Nm):a=b↔a.dot=b.dot/\a.at_=b.at_:=by cases a;cases b;simp
theorem Nm.eqb (a b:Nm):(decide (a.dot=b.dot)&&(decide (a.at_=b.at_)))=decide (a=b):=by rw [Bool.eq_iff_iff];simp [Nm.ext_iff]
theorem Nm.eqz (a:Nm):(decide (a.dot=Dt.zero)&&(decide (a.at_=0)))=decide (a=Nm.zero):=by rw [Bool.eq_iff_iff];simp [Nm.ext_iff,Nm.zero]
theorem Nm.elem :Elem tt 300 Nm.cells (λa=> .agg a.cells) 3:=⟨rfl,λ_=>rfl,λ_=>rfl,λ_=>rfl,λ_=>rfl⟩
end
section
attribute [local irreducible] Ev PWp
set_option maxRecDepth 10000
set_option maxHeartbeats 4000000
def aV (p:Pt):Nm:=⟨p.dot,p.at_⟩
def bB (p:Pt):Nm:=⟨p.after,p.afterAt⟩
def cJ (p:Pt):Sp:=⟨p.time,p.dot.dev,p.dot.seq⟩
def gY (n a b:Int):Bool:=decide (n>=a)&&decide (n<=b)
def atC (n:Nm):Bool:=(gY n.dot.dev 1 64&&gY n.dot.seq 1 1048576)&&gY n.at_ 0 1999
def cU (p:Pt):Bool:=((((decide (p.val.kind=1)&&decide (p.val.s=e0))&&gY p.val.n 0 255)&&gY p.time 1 1125899906842624)&&atC (aV p))&&(decide (bB p=Nm.zero)||atC (bB p))
def oF (a b:Sp):Bool:=if a.time≠b.time then decide (a.time<b.time) else if a.dev≠b.dev then decide (a.dev<b.dev) else decide (a.seq<b.seq)
def eR (p q:Pt):Bool:=oF (cJ p) (cJ q)||(decide (cJ p=cJ q)&&decide (p.at_<q.at_))
theorem kR (p:Pt):PF Tryz.prog 229 [.agg p.cells] (.agg (aV p).cells):=by
 refine pF Tryz.func229 rfl (λst=> ?_)
 (repeat' first|apply wZ;rfl|show Cn _;constructor|exact rfl)
theorem mK (p:Pt):PF Tryz.prog 231 [.agg p.cells] (.agg (bB p).cells):=by
 refine pF Tryz.func231 rfl (λst=> ?_)
 (repeat' first|apply wZ;rfl|show Cn _;constructor|exact rfl)
theorem lC (p:Pt):PF Tryz.prog 263 [.agg p.cells] (.agg (cJ p).cells):=by
 refine pF Tryz.func263 rfl (λst=> ?_)
 (repeat' first|apply wZ;rfl|show Cn _;constructor|exact rfl)
theorem tH (n a b:Int):PF Tryz.prog 261 [(vi (n)),(vi (a)),(vi (b))] (vb (gY n a b)):=by
 refine pF Tryz.func261 rfl (λst=> ?_)
 (repeat' first|apply wZ;rfl|show Cn _;constructor|exact rfl)
theorem iK (n:Nm):PF Tryz.prog 262 [.agg n.cells] (vb (atC n)):=by
 refine pF Tryz.func262 rfl (λst=> ?_)
 (repeat' first|apply wZ;rfl|show Cn _;constructor|exact rfl|(apply tH)|apply wY;rfl)
theorem jF (p:Pt):PF Tryz.prog 230 [.agg p.cells] (vb (cU p)):=by
 refine pF Tryz.func230 rfl (λst=> ?_)
 (repeat' first|apply wZ;rfl|show Cn _;constructor|exact rfl|((first|apply tH|apply (kR p)|apply (mK p)|apply (iK (aV p))|apply (iK (bB p))))|show (_:PV)=_;simp only [cU,Dt.eqz,Nm.eqz];done|apply wY;rfl)
def aC9 (a:Sp):List PV:=[(vi (a.time)),(vi (a.dev)),(vi (a.seq))]
theorem afT (a:Sp):PF Tryz.prog 292 [.agg a.cells] (.agg (aC9 a)):=by
 refine pF Tryz.func292 rfl (λst=> ?_)
 (repeat' first|apply wZ;rfl|show Cn _;constructor|exact rfl)
def abU :List Int->List Int->Int
 |[],[]=>0
 |[],_::_=> -1
 |_::_,[]=>1
 |a::l,b::m=>if eG a b=0 then abU l m else eG a b
theorem aaI {l m:List Int} {i:Nat} (h:i<l.length) (h2:i<m.length):abU (l.drop i) (m.drop i)=if eG l[i] m[i]=0 then abU (l.drop (i+1)) (m.drop (i+1)) else eG l[i] m[i]:=by
 rw [List.drop_eq_getElem_cons h,List.drop_eq_getElem_cons h2,abU]
theorem aaZ (l m:List Int) (hl:l.length<4611686018427387904):PF Tryz.prog 293 [.seq (l.map I1), .seq (m.map I1)] (vi (abU l m)):=by
 refine pF Tryz.func293 rfl (λst=> ?_)
 (repeat' first|apply wZ;rfl|show Cn _;constructor)
 refine aG (X:={x:Nat//x<=l.length/\x<=m.length/\abU (l.drop x) (m.drop x)=abU l m}) (λi=>((((((St.nil 36 st).pv 0 (.seq (l.map I1))).pv 1 (.seq (m.map I1))).pv 9 (.seq (l.map I1))).pv 10 ((vi ((((l.map I1)).length:Nat))))).pv 11 ((vi ((i.1:Nat)))))) (λi=>l.length-i.1) ⟨0,by omega,by omega,by simp⟩ ?_ (λi=> ?_)
 ·(repeat' first|show Cn _;constructor|exact rfl)
 obtain ⟨i,h1,h2,hinv⟩:=i
 dsimp only
 (repeat' first|(refine ⟨⟨i+1,by omega,by omega,by rw [<-hinv,aaI (i:=i) (by omega) (by omega),zp ‹_›]⟩, ?_, ?_⟩)|apply wZ;rfl|show Cn _;constructor|exact rfl|(apply (dT _ _))|show (_:PV)=_;(rw [<-hinv];(first|rw [aaI (by omega) (by omega),zn ‹_›];done|rw [List.drop_eq_nil_of_le (show l.length<=i by omega),List.drop_eq_getElem_cons (show i<m.length by omega)];rfl|rw [List.drop_eq_nil_of_le (show l.length<=i by omega),List.drop_eq_nil_of_le (show m.length<=i by omega)];rfl|rw [List.drop_eq_nil_of_le (show m.length<=i by omega),List.drop_eq_getElem_cons (show i<l.length by omega)];rfl));done|apply wY;rfl|apply wI;rfl|apply gE;omega|omega|simp only [zql];omega|(intro h;simp at h)|intro h)
def axJ (a b:Sp):Int:=if a=b then 0 else abU [a.time,a.dev,a.seq] [b.time,b.dev,b.seq]
theorem anN (a b:Sp):PF Tryz.prog 275 [.agg a.cells, .agg b.cells] (vi (axJ a b)):=by
 refine pF Tryz.func275 rfl (λst=> ?_)
 (repeat' first|apply aAw 5;rfl;rfl;rfl|apply aAw 6;rfl;rfl;rfl|apply wZ;rfl|show Cn _;constructor|exact rfl|apply KR.mk;kernel_rfl|((first|apply (afT a)|apply (afT b)|apply (aaZ [a.time,a.dev,a.seq] [b.time,b.dev,b.seq] (show 3<4611686018427387904 from by omega))))|show (_:PV)=_;(simp_all [axJ,Sp.ext_iff];done);done|apply slA pk (rows:=[a.time,a.dev,a.seq].map I1);(iterate 7 rfl);rotate_left;rfl;rfl|apply slA pk (rows:=[b.time,b.dev,b.seq].map I1);(iterate 7 rfl);rotate_left;rfl;rfl|apply wY;rfl|(intro h;simp at h))
theorem aaU (a b:Int):eG a b<0↔a<b:=by unfold eG;split<;>(try split)<;>omega
theorem ayS (a b:Int):eG a b=0↔a=b:=by unfold eG;split<;>(try split)<;>omega
theorem apJ (a b:Sp):decide (axJ a b<0)=oF a b:=by
 unfold axJ oF
 by_cases h:a=b
 ·subst h;simp
 ·rw [zn h]
  simp only [abU,ayS]
  by_cases h1:a.time=b.time
  ·by_cases h2:a.dev=b.dev
   ·have h3:¬a.seq=b.seq:=λe=>h ((Sp.ext_iff _ _).2 ⟨h1,h2,e⟩)
    simp [h1,h2,h3,aaU]
   ·simp [h1,h2,aaU]
  ·simp [h1,aaU]
theorem fX (a b:Sp):PF Tryz.prog 264 [.agg a.cells, .agg b.cells] (vb (oF a b)):=by
 rw [<-apJ]
 refine pF Tryz.func264 rfl (λst=> ?_)
 (repeat' first|apply wZ;rfl|show Cn _;constructor|exact rfl|(apply (anN a b))|apply wY;rfl)
theorem aCk {f:FuncId} {args:List PV} {st:aD} {R R':PV->aD->Prop} (h:PC Tryz.prog f args st R) (hr:∀p st',R p st'->∃q,Wk p q/\R' q st'):PC Tryz.prog f args st R':=
 ⟨h.1,λw g vs hm hv=>(h.2 w g vs hm hv).mono λe w' ⟨v,r,st',g',h1,h2,h3,h4⟩=>by
  obtain ⟨q,k1,k2⟩:=hr _ _ h2
  exact ⟨v,q,st',g',h1,k2,k1 _ _ h3,h4⟩⟩
theorem Wk.und (p:PV):Wk p .und:=λ_ _ _=>by simp [Rep]
def Nm.vals (k:Nm):List Value:=[.int .i64 k.dot.dev, .int .i64 k.dot.seq, .int .i64 k.at_]
def aAn (k:Dt):List Value:=[.int .i64 k.dev, .int .i64 k.seq]
def Nm.enc (k:Nm):Value:= .agg k.vals.toArray
def gU (k:Dt):Value:= .agg (aAn k).toArray
theorem Nm.key :KeyOK Tryz.prog 300 Nm.enc (λk=> .agg k.cells):=
 qR aT Nm.vals rfl rfl (λ_=>rfl) (λa b=>by show some ((decide (a.dot.dev=b.dot.dev)&&decide (a.dot.seq=b.dot.seq))&&decide (a.at_=b.at_))=_;rw [Dt.eqb,Nm.eqb]) (λ_=>rfl) (by kernel_rfl)
theorem acX :KeyOK Tryz.prog 69 gU (λk=> .agg k.cells):=
 qR aT aAn rfl rfl (λ_=>rfl) (λa b=>by show some (decide (a.dev=b.dev)&&decide (a.seq=b.seq))=_;rw [Dt.eqb]) (λ_=>rfl) (by kernel_rfl)
def ptF (p:Pt):PV:= .agg p.cells
def amQ (n:Int):PV:=(vi (n))
def cR (l:List Pt):List (Nm×Pt):=l.foldl (λm p=>cX (aV p) p m) []
def dG (l:List Pt):List (Dt×Int):=l.foldl (λm p=>cX p.dot p.time m) []
def pB (m:List (Nm×Pt)) (t:List (Dt×Int)) (p:Pt):Bool:= !((dK (aV p) m).isSome|| !cU p||(match dK p.dot t with|some x=>decide (x≠p.time)|none=>false))
def gO :List Pt->List (Nm×Pt)->List (Dt×Int)->Bool
 |[],_,_=>true
 |p::r,m,t=>pB m t p&&gO r (cX (aV p) p m) (cX p.dot p.time t)
def aoF (m:List (Nm×Pt)) (p:Pt):Bool:=decide (bB p=Nm.zero)||(match dK (bB p) m with|some u=>eR u p|none=>false)
def fA (l:List Pt):Bool:=gO l [] []&&l.all (aoF (cR l))
theorem aaS {l:List Pt} {i:Nat} (h:i<l.length):cR (l.take (i+1))=cX (aV l[i]) l[i] (cR (l.take i)):=by
 rw [List.take_succ_eq_append_getElem h,cR,List.foldl_append];rfl
theorem abF {l:List Pt} {i:Nat} (h:i<l.length):dG (l.take (i+1))=cX l[i].dot l[i].time (dG (l.take i)):=by
 rw [List.take_succ_eq_append_getElem h,dG,List.foldl_append];rfl
theorem afA {l:List Pt} {i:Nat} (h:i<l.length) {m t}:gO (l.drop i) m t=(pB m t l[i]&&gO (l.drop (i+1)) (cX (aV l[i]) l[i] m) (cX l[i].dot l[i].time t)):=by
 rw [List.drop_eq_getElem_cons h];rfl
theorem uR (p q:Pt):PF Tryz.prog 232 [.agg p.cells, .agg q.cells] (vb (eR p q)):=by
 refine pF Tryz.func232 rfl (λst=> ?_)
 (repeat' first|apply wZ;rfl|show Cn _;constructor|exact rfl|apply KR.mk;kernel_rfl|((first|apply (lC p)|apply (lC q)|apply (fX (cJ p) (cJ q))))|show (_:PV)=_;simp only [eR,Sp.eqb];done|apply wY;rfl)
theorem awO (l:List Pt) (st:aD) (hl:l.length<4611686018427387904):PC Tryz.prog 189 [.seq (l.map Pt.cells)] st λp st'=>(∃m,p= .tup [m,(vb (fA l))])/\st'=st:=by
 refine pC Tryz.func189 rfl ?_
 (repeat' first|apply wZ;rfl|show Cn _;constructor)
 refine mkM (enc:=Nm.enc) (f:=ptF) rfl (λid1 hid1=> ?_)
 (repeat' first|apply wZ;rfl|show Cn _;constructor)
 refine mkM (enc:=gU) (f:=amQ) rfl (λid2 hid2=> ?_)
 have hid1:st id1=none:=hid1
 have hne:id1≠id2:=by intro e;subst e;have:=hid2;simp only [St.put,St.pv,St.sst,aA] at this;cases this
 have hid2:st id2=none:=by have:=hid2;simp only [St.put,St.pv,St.sst] at this;exact (aC (Ne.symm hne)).symm.trans this
 have hne2:=Ne.symm hne
 (repeat' first|apply wZ;rfl|show Cn _;constructor)
 refine aG (X:={x:Nat//x<=l.length/\gO l [] []=gO (l.drop x) (cR (l.take x)) (dG (l.take x))}) (λi=>(((((((St.nil 94 (upd (upd st id1 (some (.map (aY Nm.enc ptF (cR (l.take i.1)))))) id2 (some (.map (aY gU amQ (dG (l.take i.1))))))).pv 0 (.seq (l.map Pt.cells))).pv 4 (.mref id1)).pv 5 (.mref id2)).pv 18 (.seq (l.map Pt.cells))).pv 19 ((vi ((((l.map Pt.cells)).length:Nat))))).pv 20 ((vi ((i.1:Nat)))))) (λi=>l.length-i.1) ⟨0,by omega,rfl⟩ ?_ (λi=> ?_)
 ·(repeat' first|show Cn (.t _ _);exact Cn.t0|show Cn _;constructor|exact rfl)
 obtain ⟨i,hi,hinv⟩:=i
 dsimp only
 have hs:=λh:i<l.length=>afA h (m:=cR (l.take i)) (t:=dG (l.take i))
 have hs1:=λh:i<l.length=>aaS h
 have hs2:=λh:i<l.length=>abF h
 (repeat' first|apply wDm pk;rfl;kernel_rfl;rfl;rfl|(apply Cn.cf;focus (((first|apply kR|apply jF));done))|(show Cn (.r _ _ _);refine .any ⟨_,_, ?zs,rfl,zwr _, ?zh, ?zr⟩;(case zh=>(refine aF ?_ ‹_›;(repeat refine aF ?_ ‹_›);exact zsr _));(case zr=>((have e:fA l=false:=(by unfold fA;rw [hinv,hs (by omega)];first|simp [pB, *];done|(rcases ‹_\/_›with q|q<;>simp [pB, *]));exact ⟨⟨.val (.map none),by rw [e]⟩,rfl⟩))))|refine ⟨⟨i+1,by omega,by rw [hinv,hs (by omega),hs1 (by omega),hs2 (by omega)];simp [pB, *]⟩, ?_, ?_⟩;(simp only [hs1 (show i<l.length by omega),hs2 (show i<l.length by omega)])|show Cn (.t _ _);refine .any (aI ?_);(simp only [St.pv,St.put,St.sst,St.setv,St.nil,St.var,aH]);(rw [dA ‹_›]);(done)|apply wZ;rfl|show Cn _;constructor|exact rfl|(apply auD pk Nm.key (f:=ptF);(iterate 5 rfl);rotate_left;rfl;((focus ((repeat (first|exact aA _ _ _|refine (aC ‹_›).trans ?_));done)));rfl;intro v hv;rotate_left;intro hv;rotate_left)|apply meA pk Nm.key (f:=ptF) (z:=Pt.zero);(iterate 6 rfl);((focus ((repeat (first|exact aA _ _ _|refine (aC ‹_›).trans ?_));done)));rfl|apply esA pk Nm.key (f:=ptF);(iterate 4 rfl);(exact aA _ _ _);rfl|(apply auD pk acX (f:=amQ);(iterate 5 rfl);rotate_left;rfl;(exact aA _ _ _);rfl;intro v hv;rotate_left;intro hv;rotate_left)|apply muA pk acX (f:=amQ);(exact .inr rfl);(iterate 5 rfl);((focus ((repeat (first|exact aA _ _ _|refine (aC ‹_›).trans ?_));done)));rfl|apply wY;rfl|apply wI;rfl|apply gE;omega|omega|simp only [zql];omega|(intro h;simp at h))
 have e1:l.take i=l:=ztl (by omega)
 have w1:gO l [] []=true:=by rw [hinv,List.drop_eq_nil_of_le (by omega)];rfl
 refine aG (X:={x:Nat//x<=l.length/\(l.take x).all (aoF (cR (l.take i)))=true}) (λy=>(((((St.nil 94 (upd (upd st id1 (some (.map (aY Nm.enc ptF (cR (l.take i)))))) id2 (some (.map (aY gU amQ (dG (l.take i))))))).pv 4 (.mref id1)).pv 65 (.seq (l.map Pt.cells))).pv 66 ((vi ((((l.map Pt.cells)).length:Nat))))).pv 67 ((vi ((y.1:Nat)))))) (λy=>l.length-y.1) ⟨0,by omega,rfl⟩ ?_ (λy=> ?_)
 ·(repeat' first|show Cn (.t _ _);exact Cn.t0|show Cn _;constructor|exact rfl)
 clear hs hs1 hs2
 obtain ⟨y,hy,hall⟩:=y
 dsimp only
 (repeat' first|(apply Cn.cf;focus (((first|apply mK|apply uR|apply (uR Pt.zero)));done))|(show Cn (.r _ _ _);refine .any ⟨_,_, ?zs,rfl,zwr _, ?zh, ?zr⟩;(case zh=>(refine aF ?_ ‹_›;(repeat refine aF ?_ ‹_›);exact zsr _));(case zr=>((first|have e:fA l=false:=(by unfold fA;simp only [e1] at*;rw [w1,Bool.true_and,List.all_eq_false];refine ⟨l[y]'‹_›,zgm _, ?_⟩;simp [aoF,Nm.ext_iff,Dt.ext_iff,Nm.zero,Dt.zero,and_assoc, *];try (intros;omega));exact ⟨⟨.val (.map none),by rw [e]⟩,rfl⟩|have e:fA l=true:=(by unfold fA;simp only [e1] at*;rw [w1,Bool.true_and,<-hall,ztl (by omega)]);exact ⟨⟨.mref id1,by rw [e]⟩,rfl⟩))))|(refine ⟨⟨y+1,by omega,by simp only [e1] at*;rw [List.take_succ_eq_append_getElem (by omega),List.all_append,hall];simp [aoF,Nm.ext_iff,Dt.ext_iff,Nm.zero,Dt.zero,and_assoc, *];try grind⟩, ?_, ?_⟩)|show Cn (.t _ _);exact Cn.t0|apply wZ;rfl|show Cn _;constructor|exact rfl|(apply auD pk Nm.key (f:=ptF);(iterate 5 rfl);rotate_left;rfl;((focus ((repeat (first|exact aA _ _ _|refine (aC ‹_›).trans ?_));done)));rfl;intro v hv;rotate_left;intro hv;rotate_left)|apply wY;rfl|apply wI;rfl|apply gE;omega|omega|simp only [zql];omega|(intro h;simp at h))
def dB (a b:Pt):Int:=if cJ a=cJ b then a.at_-b.at_ else if oF (cJ b) (cJ a) then-1 else 1
theorem zI {p:Pt} (h:cU p=true):0<=p.at_/\p.at_<=1999:=by
 simp only [cU,atC,gY,zba,zde] at h
 exact h.1.2.2
theorem fV (a b:Pt) (ha:cU a=true) (hb:cU b=true):PF Tryz.prog 235 [.agg a.cells, .agg b.cells] (vi (dB a b)):=by
 have h1:=zI ha
 have h2:=zI hb
 refine pF Tryz.func235 rfl (λst=> ?_)
 (repeat' first|apply wZ;rfl|show Cn _;constructor|exact rfl|apply KR.mk;kernel_rfl|((first|apply (lC a)|apply (lC b)|apply (fX (cJ b) (cJ a))))|show (_:PV)=_;(simp only [dB,Sp.ext_iff];simp_all);done|apply wY;rfl|omega|(intro h;simp at h)|intro h)
theorem amX (a:Sp):oF a a=false:=by simp [oF]
theorem yN (a b:Sp):oF a b=true↔a.time<b.time\/a.time=b.time/\(a.dev<b.dev\/a.dev=b.dev/\a.seq<b.seq):=by
 unfold oF
 split
 ·rw [zde];omega
 ·split
  ·rw [zde];omega
  ·rw [zde];omega
def fI (a b:Pt):Prop:=oF (cJ b) (cJ a)=true\/cJ a=cJ b/\a.at_<b.at_
theorem zJ (a b:Pt):dB a b<0↔fI a b:=by
 unfold dB fI
 by_cases h:cJ a=cJ b
 ·rw [zp h,h,amX];simp;omega
 ·rw [zn h]
  split
  ·rename_i h2;simp [h2]
  ·rename_i h2;simp [h2,h]
abbrev Fp :={p:Pt//cU p=true}
instance : Inhabited Fp:=⟨⟨⟨⟨1,0,e0⟩,⟨1,1⟩,0,1,Dt.zero,0,false⟩,by decide⟩⟩
def arK (a b:Fp):Int:=dB a.1 b.1
theorem fT (a b:Pt):fI a b↔b.time<a.time\/b.time=a.time/\(b.dot.dev<a.dot.dev\/b.dot.dev=a.dot.dev/\(b.dot.seq<a.dot.seq\/b.dot.seq=a.dot.seq/\a.at_<b.at_)):=by
 unfold fI
 rw [yN,Sp.ext_iff]
 simp only [cJ]
 omega
theorem apT :Go.Sort.SWO (ltOf arK):=by
 have h:∀x y:Fp,ltOf arK x y=true↔fI x.1 y.1:=λx y=>by rw [ltOf,zde];exact zJ _ _
 have hf:∀x y:Fp,ltOf arK x y=false↔¬fI x.1 y.1:=λx y=>by rw [<-h,Bool.not_eq_true]
 refine ⟨λx=>(hf x x).2 ?_,λx y z h1 h2=> ?_,λx y z h1 h2=> ?_⟩
 ·rw [fT];omega
 ·rw [h,fT] at h1 h2⊢;omega
 ·rw [hf,fT] at h1 h2⊢;omega
def eJ (l:List Pt) (k:Nm):List Pt:=l.filter λp=>decide (bB p=k)
theorem rE {l:List Pt} {i:Nat} (h:i<l.length) (k:Nm):eJ (l.take (i+1)) k=if bB l[i]=k then eJ (l.take i) k++[l[i]] else eJ (l.take i) k:=by
 unfold eJ
 rw [List.take_succ_eq_append_getElem h,List.filter_append]
 by_cases hk:bB l[i]=k<;>simp [hk]
def vI (x:Nat×Nat):PV:= .vec x.1 11 0 x.2
structure FamB (st:aD) (l:List Pt) (idm:Nat) (K:List (Nm×(Nat×Nat))) (S:aD):Prop where
 old:∀j,st j≠none->S j=st j
 hm:S idm=some (.map (aY Nm.enc vI K))
 mf:st idm=none
 arr:∀k id n,(k,(id,n))∈K->S id=some (.arr 237 ((eJ l k).map Pt.cells))/\n=(eJ l k).length/\st id=none
 keys:(K.map (·.1)).Nodup
 ids:(K.map (·.2.1)).Nodup
 non:∀k,dK k K=none->eJ l k=[]
theorem mR {K V:Type} [DecidableEq K] {k:K} {v:V}:∀{l:List (K×V)},dK k l=some v->(k,v)∈l
  |(k',v')::l,h=>by
    simp only [dK] at h
    split at h
    · rename_i e;injection h with h;subst h;subst e;simp
    · exact List.mem_cons_of_mem _ (mR h)
theorem uK (l:List Pt) (hl:l.length<4611686018427387904):PF Tryz.prog 189 [.seq (l.map Pt.cells)] (.tup [.und,(vb (fA l))]):=λst=>
 aCk (awO l st hl) λp st' ⟨⟨m,e⟩,h⟩=>⟨_,e▸Wk.tup (.cons (Wk.und m) (.cons (zwr _) .nil)),rfl,h⟩
theorem abA :Tryz.prog.bytesOf 237=96:=by kernel_rfl
theorem FamB.fresh {st S:aD} {l:List Pt} {idm:Nat} {K:List (Nm×(Nat×Nat))} (h:FamB st l idm K S) {id:Nat} (hid:S id=none):st id=none/\id≠idm/\∀k i n,(k,(i,n))∈K->id≠i:=by
 refine ⟨?_, ?_, ?_⟩
 ·cases hs:st id with
  |none=>rfl
  |some o=>have:=h.old id (by rw [hs];simp);rw [hid,hs] at this;cases this
 ·intro e;subst e;rw [h.hm] at hid;cases hid
 ·intro k i n hk e;subst e;rw [(h.arr k _ n hk).1] at hid;cases hid
theorem FamB.notm {st S:aD} {l:List Pt} {idm:Nat} {K:List (Nm×(Nat×Nat))} (h:FamB st l idm K S) {k:Nm} {i n:Nat} (hk:(k,(i,n))∈K):i≠idm:=by
 intro e;subst e;have:=(h.arr k _ n hk).1;rw [h.hm] at this;cases this
theorem nR {K V:Type} [DecidableEq K] (k k':K) (v:V):∀(l:List (K×V)),dK k' (cX k v l)=if k'=k then some v else dK k' l
 |[]=>by simp only [cX,dK]
 |e::l=>by
  have ih:=nR k k' v l
  simp only [cX]
  split
  ·rename_i h;simp only [dK];split<;>simp_all
  ·rename_i h;simp only [dK,ih];split
   ·rename_i h2;rw [zn (λe=>h (by rw [<-e,h2]))]
   ·rfl
theorem qX {K V:Type} [DecidableEq K] {k:K} {v:V} {x:K×V}:∀{l:List (K×V)},(l.map (·.1)).Nodup->x∈cX k v l->x=(k,v)\/x∈l/\x.1≠k
 |[],_,h=>by simp only [cX,zms] at h;exact .inl h
 |e::l,hn,h=>by
  simp only [zmp,List.nodup_cons] at hn
  simp only [cX] at h
  split at h
  ·rename_i he
   rcases zmc.1 h with h|h
   ·exact .inl h
   ·refine .inr ⟨List.mem_cons_of_mem _ h,λhh=>hn.1 ?_⟩
    rw [<-he,<-hh];exact List.mem_map.2 ⟨x,h,rfl⟩
  ·rename_i he
   rcases zmc.1 h with h|h
   ·subst h;exact .inr ⟨List.mem_cons_self,λhh=>he hh.symm⟩
   ·rcases qX hn.2 h with h|⟨h,h2⟩
    ·exact .inl h
    ·exact .inr ⟨List.mem_cons_of_mem _ h,h2⟩
theorem vU {K V:Type} [DecidableEq K] {k:K} {v:V}:∀{l:List (K×V)},(l.map (·.1)).Nodup->((cX k v l).map (·.1)).Nodup
 |[],_=>by simp [cX]
 |e::l,hn=>by
  simp only [zmp,List.nodup_cons] at hn
  simp only [cX]
  split
  ·rename_i he;simp only [zmp,List.nodup_cons,he];exact hn
  ·rename_i he
   simp only [zmp,List.nodup_cons]
   refine ⟨λhm=> ?_,vU hn.2⟩
   obtain ⟨x,hx,hxe⟩:=List.mem_map.1 hm
   rcases qX hn.2 hx with rfl|⟨h,_⟩
   ·exact he hxe
   ·exact hn.1 (List.mem_map.2 ⟨x,h,hxe⟩)
theorem aaB {K V:Type} [DecidableEq K] {k:K} {v:V} {g:V->Nat}:∀{l:List (K×V)},(l.map λe=>g e.2).Nodup->(l.map (·.1)).Nodup->(∀e∈l,g e.2≠g v)->((cX k v l).map λe=>g e.2).Nodup
 |[],_,_,_=>by simp [cX]
 |e::l,hn,hk,hv=>by
  simp only [zmp,List.nodup_cons] at hn hk
  simp only [cX]
  split
  ·simp only [zmp,List.nodup_cons]
   refine ⟨λhm=> ?_,hn.2⟩
   obtain ⟨x,hx,hxe⟩:=List.mem_map.1 hm
   exact hv x (List.mem_cons_of_mem _ hx) hxe
  ·simp only [zmp,List.nodup_cons]
   refine ⟨λhm=> ?_,aaB hn.2 hk.2 λx hx=>hv x (List.mem_cons_of_mem _ hx)⟩
   obtain ⟨x,hx,hxe⟩:=List.mem_map.1 hm
   rcases qX hk.2 hx with rfl|⟨h,_⟩
   ·exact hv e List.mem_cons_self hxe.symm
   ·exact hn.1 (List.mem_map.2 ⟨x,h,hxe⟩)
theorem rK {α:Type} {g:α->Nat}:∀{l:List α},(l.map g).Nodup->∀{a b},a∈l->b∈l->g a=g b->a=b
 |[],_,_,_,h,_,_=>by cases h
 |x::l,hn,a,b,ha,hb,e=>by
  simp only [zmp,List.nodup_cons] at hn
  rcases zmc.1 ha with ha|ha<;>rcases zmc.1 hb with hb|hb
  ·rw [ha,hb]
  ·exact (hn.1 (List.mem_map.2 ⟨b,hb,by rw [<-e,ha]⟩)).elim
  ·exact (hn.1 (List.mem_map.2 ⟨a,ha,by rw [e,hb]⟩)).elim
  ·exact rK hn.2 ha hb e
theorem FamB.step {st S S1:aD} {l:List Pt} {i:Nat} (hi:i<l.length) {idm id m:Nat} {K:List (Nm×(Nat×Nat))} (h:FamB st (l.take i) idm K S) (hid:S id=none) (hm:m=(eJ (l.take i) (bB l[i])).length+1) (hS:∀j,(∀n,(bB l[i],(j,n))∉K)->S1 j=S j):
  FamB st (l.take (i+1)) idm (cX (bB l[i]) (id,m) K) (upd (upd S1 id (some (.arr 237 ((eJ (l.take i) (bB l[i])++[l[i]]).map Pt.cells)))) idm (some (.map (aY Nm.enc vI (cX (bB l[i]) (id,m) K))))):=by
 obtain ⟨f1,f2,f3⟩:=h.fresh hid
 refine ⟨λj hj=> ?_,aA _ _ _,h.mf,λk j n hx=> ?_,vU h.keys,aaB (g:=(·.1)) h.ids h.keys λe he=> ?_,λk hk'=> ?_⟩
 ·rw [aC (λe=>by subst e;exact hj h.mf),aC (λe=>by subst e;exact hj f1),hS j λn hn=>hj (h.arr _ j n hn).2.2];exact h.old j hj
 ·rcases qX h.keys hx with e|⟨hx,hne⟩
  ·simp only [Prod.mk.injEq] at e
   obtain ⟨rfl,rfl,rfl⟩:=e
   rw [rE hi,zp rfl,aC f2,aA]
   exact ⟨rfl,by rw [hm];simp,f1⟩
  ·obtain ⟨a1,a2,a3⟩:=h.arr k j n hx
   rw [rE hi,zn (Ne.symm hne),aC (h.notm hx),aC (λe=>f3 k j n hx e.symm),hS j λn' hn'=>hne ?_]
   ·exact ⟨a1,a2,a3⟩
   ·exact congrArg Prod.fst (rK h.ids hx hn' rfl)
 ·exact λe'=>f3 e.1 e.2.1 e.2.2 he e'.symm
 ·rw [nR] at hk'
  split at hk'
  ·cases hk'
  ·rename_i hne
   rw [rE hi,zn (Ne.symm hne)]
   exact h.non k hk'
theorem FamB.nil {st:aD} {idm:Nat} (h:st idm=none):FamB st [] idm [] (upd st idm (some (.map (aY Nm.enc vI [])))):=
 ⟨λj hj=>aC λe=>by subst e;exact hj h,aA _ _ _,h,λ_ _ _ h=>(by cases h),by simp,by simp,λ_ _=>rfl⟩
theorem afQ (l:List Pt) (k:Nm):(eJ l k).length<=l.length:=List.length_filter_le _ _
end
section
attribute [local irreducible] Ev PWp
set_option maxRecDepth 10000
set_option maxHeartbeats 4000000
theorem ayG :PF Tryz.prog 106 [(vu ((0:Nat)))] (vi ((0:Nat))):=by
 refine pF Tryz.func106 rfl (λst=> ?_)
 (repeat' first|show Cn (.e _ _ _ _);refine .any ?_;((refine ⟨_,_,_,rfl,zwr _,zsr _, ?_,rfl⟩;(rfl)))|apply wZ;rfl|show Cn _;constructor|apply cvA pk.htt;(iterate 5 rfl);(refine ⟨?_, ?_⟩<;>(first|omega|decide));rfl|apply sxA pk.htt 0 0;(iterate 6 rfl);kernel_rfl;rfl|exact ⟨by decide,by decide⟩)
theorem aBW {y:Int} (hy:y=0):PF Tryz.prog 63 [(vu (y))] (vi ((0:Nat))):=by
 subst hy
 refine pF Tryz.func63 rfl (λst=> ?_)
 (repeat' first|apply wZ;rfl|show Cn _;constructor|exact rfl|(apply ayG)|apply wY;rfl)
section
variable {fid:FuncId} {caps:List PV} {st:aD}
theorem ayL :PC Tryz.prog 276 [.seq [],(vi (0)),(vi (0)), .fn fid caps] st λ_ st'=>st'=st:=by
 refine pC Tryz.func276 rfl ?_
 (repeat' first|apply wZ;rfl|show Cn _;constructor|omega)
 refine aG (X:=Unit) (λi=>((((((St.nil 53 st).pv 0 (.seq [])).pv 1 ((vi (0)))).pv 2 ((vi (0)))).pv 3 (.fn fid caps)).pv 8 ((vi (1))))) (λi=>0) () ?_ (λi=> ?_)
 ·(repeat' first|show Cn _;constructor|exact rfl)
 (repeat' first|show Cn (.r _ _ _);refine .rr ?_;((rfl));done|apply wZ;rfl|show Cn _;constructor)
theorem axR {lim:Int}:PC Tryz.prog 265 [.seq [],(vi (0)),(vi (0)),(vi (lim)), .fn fid caps] st λ_ st'=>st'=st:=by
 refine pC Tryz.func265 rfl ?_
 (repeat' first|apply wZ;rfl|show Cn _;constructor)
 refine aG (X:=Unit) (λi=>((((((((St.nil 148 st).pv 0 (.seq [])).pv 1 ((vi (0)))).pv 2 ((vi (0)))).pv 3 ((vi (lim)))).pv 4 (.fn fid caps)).pv 10 ((vb (true)))).pv 11 ((vb (true))))) (λi=>0) () ?_ (λi=> ?_)
 ·(repeat' first|show Cn _;constructor|exact rfl)
 (repeat' first|(apply cP;rfl;((apply ayL));(rintro _ st' rfl))|show Cn (.r _ _ _);refine .rr ?_;((rfl));done|apply wZ;rfl|show Cn _;constructor|apply wY;rfl|omega)
theorem arN :PC Tryz.prog 234 [.seq [], .fn fid caps] st λ_ st'=>st'=st:=by
 refine pC Tryz.func234 rfl ?_
 (repeat' first|(apply Cn.cf;focus ((apply (aBW rfl));done))|(apply cP;rfl;((apply axR));(rintro _ st' rfl))|show Cn (.r _ _ _);refine .rr ?_;((rfl));done|apply wZ;rfl|show Cn _;constructor|apply cvA pk.htt;(iterate 5 rfl);(refine ⟨?_, ?_⟩<;>(first|omega|decide));rfl|apply wY;rfl)
end
theorem aiW {S:aD} {l:List Pt} {id n:Nat} (hf:∀p∈l,cU p=true) (hst:S id=some (.arr 237 (l.map Pt.cells))) (hn:l.length=n) (h62:n<4611686018427387904):
  PC Tryz.prog 234 [.vec id 11 0 n, .fn 235 []] S λ_ S'=>∃R:List Pt,S'=upd S id (some (.arr 237 (R.map Pt.cells)))/\R.Perm l/\R.Pairwise λx y=>¬fI y x:=by
 have e:(l.attach.map λx=>(⟨x.1,hf x.1 x.2⟩:Fp)).map (λx=>([.int .i64 x.1.val.kind, .int .i64 x.1.val.n, .string x.1.val.s, .int .i64 x.1.dot.dev, .int .i64 x.1.dot.seq, .int .i64 x.1.at_, .int .i64 x.1.time, .int .i64 x.1.after.dev, .int .i64 x.1.after.seq, .int .i64 x.1.afterAt, .bool x.1.gone]:List Value).map PV.val)=l.map Pt.cells:=by
  rw [List.map_map]
  show l.attach.map (λx=>Pt.cells x.1)=_
  rw [List.attach_map_val]
 have:=afS (P:=Tryz.prog) aDh (by kernel_rfl) (k:=11) Tryz.isAgg237 Tryz.sizeOf237 (enc:=λx:Fp=>[.int .i64 x.1.val.kind, .int .i64 x.1.val.n, .string x.1.val.s, .int .i64 x.1.dot.dev, .int .i64 x.1.dot.seq, .int .i64 x.1.at_, .int .i64 x.1.time, .int .i64 x.1.after.dev, .int .i64 x.1.after.seq, .int .i64 x.1.afterAt, .bool x.1.gone]) (λ_=>rfl) (λx v hv=>by simp only [zmc,List.not_mem_nil,or_false] at hv;rcases hv with rfl|rfl|rfl|rfl|rfl|rfl|rfl|rfl|rfl|rfl|rfl<;>rfl) (cmp:=arK) apT
  (gf:=235) (by kernel_rfl) (λx y=>fV x.1 y.1 x.2 y.2) (st:=S) (id:=id) (n:=n) (d:=l.attach.map λx=>⟨x.1,hf x.1 x.2⟩) (e:=237) (by kernel_rfl) (by rw [e];exact hst) (by simpa using hn) h62
 refine ⟨this.1,λw g vs h1 h2=>(this.2 w g vs h1 h2).mono ?_⟩
 rintro e w' ⟨v,q,S',g',h3,⟨r,hS,hp,hw⟩,h4⟩
 refine ⟨v,q,S',g',h3,⟨r.map (·.1), ?_, ?_, ?_⟩,h4⟩
 ·rw [hS,List.map_map];rfl
 ·have:=hp.map (·.1)
  rwa [List.map_map,show ((λx:Fp=>x.1)∘λx:{x//x∈l}=>(⟨x.1,hf x.1 x.2⟩:Fp))=Subtype.val from rfl,List.attach_map_subtype_val] at this
 ·rw [List.pairwise_map]
  exact hw.imp fun {a b} h=>by rwa [arK,zJ] at h
end
end Go.Proofs.YtppdefkgmegipaaGreatDoor.T
