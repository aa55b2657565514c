import Derived.Test.YtloecjjehapblaaGreatDoorOpBf
import Derived.Test.YtloecjjehapblaaGreatDoorOpAs
import Derived.Test.YtloecjjehapblaaGreatDoorOpAt
import Derived.Test.YtloecjjehapblaaGreatDoorOpBh
set_option linter.unusedSimpArgs false
set_option linter.unusedVariables false
namespace Go.Proofs.YtloecjjehapblaaGreatDoor
open Go Go.Abs
attribute [local irreducible] Ev PWp
set_option maxRecDepth 10000
set_option maxHeartbeats 4000000
def opC :List Co:=[aFS,⟨⟨#[110]⟩,0,1,false⟩,⟨⟨#[109]⟩,1,1,true⟩,⟨⟨#[99]⟩,2,1,false⟩,aGY,⟨⟨#[116]⟩,4,2,false⟩]
def opT :Tb:=⟨⟨#[97]⟩,opC,[],[],[],[]⟩
def opS :Sc:=[opT]
theorem aFZ :Wk (.agg [.seq [[.val (.string ⟨#[97]⟩), .seq (opC.map Co.cells),alG,alG,alG,alG]]]) (.agg (scC opS)):=
 Wk.agg (.cons (aHm rfl λx hx=>by
  rw [List.mem_singleton.1 hx]
  exact .cons (zwr _) (.cons (zwr _) (.cons Wk.nil (.cons Wk.nil (.cons Wk.nil (.cons Wk.nil .nil)))))) .nil)
theorem afC :PF Tryz.prog 26 [] (.agg (scC opS)):=by
 refine aG aF Tryz.func26 (by kernel_rfl) rfl rfl rfl rfl (λst=> ?_)
 (try apply wO pk;rfl);(repeat' first|refine aC ?_;exact ⟨_,_,_,rfl,aFZ,zsr _,rfl,rfl⟩|show All _;constructor)
theorem dZ (n:Int):PF Tryz.prog 29 [(PV.val (Value.int .i64 (n)))] (.agg (nV n).cells):=by
 refine aG aF Tryz.func29 (by kernel_rfl) rfl rfl rfl rfl (λst=> ?_)
 (try apply wO pk;rfl);(repeat' first|show All _;constructor|(refine aC ?_;refine ⟨_,_,_,rfl,zwr _,zsr _, ?_,rfl⟩;try rfl))
def abS :ByteArray:=⟨#[97,98]⟩
def wY (k n:Int):Ot:=⟨1,0,0,0,[nV k,nV n,Vl.zero,nV 2,nV 9,⟨2,0,abS⟩],Vl.zero,Dt.zero,0⟩
theorem aoU (k n:Int):PF Tryz.prog 28 [(PV.val (Value.int .i64 (k))),(PV.val (Value.int .i64 (n)))] (.agg (wY k n).cells):=by
 have h1:=dZ k
 have h2:=dZ n
 have h3:=dZ 2
 have h4:=dZ 9
 refine aG aF Tryz.func28 (by kernel_rfl) rfl rfl rfl rfl (λst=> ?_)
 (try apply wO pk;rfl);(repeat' first|show All _;constructor|show Imp _ _;constructor|apply wE pk;rfl;rfl|(refine aC ?_;refine ⟨_,_,_,rfl,zwr _,zsr _, ?_,rfl⟩;try rfl)|(apply aH;rfl;rfl;rfl;(intro _;(first|apply h1|apply h2|apply h3|apply h4)<;>first|assumption|omega);rotate_left;rfl;rfl))
def kO (kind col:Int) (v:Vl) (d:Dt):Ot:=⟨kind,0,1,col,[],v,d,0⟩
def tT (kind col:Int) (v:Vl) (d:Dt):List PV:=[(PV.val (Value.int .i64 (kind))),(PV.val (Value.int .i64 (0))),(PV.val (Value.int .i64 (1))),(PV.val (Value.int .i64 (col))),alG,(PV.val (Value.int .i64 (v.kind))),(PV.val (Value.int .i64 (v.n))),(PV.val (Value.string (v.s))),(PV.val (Value.int .i64 (d.dev))),(PV.val (Value.int .i64 (d.seq))),(PV.val (Value.int .i64 (0)))]
theorem aAa (kind col:Int) (v:Vl) (d:Dt):WkL (tT kind col v d) (kO kind col v d).cells:= .cons (zwr _) (.cons (zwr _) (.cons (zwr _) (.cons (zwr _) (.cons Wk.nil (.cons (zwr _) (.cons (zwr _) (.cons (zwr _) (.cons (zwr _) (.cons (zwr _) (.cons (zwr _) .nil))))))))))
theorem aFg {A:List (List PV)} {l:List Ot} (hl:A.length=l.length) (h:∀x∈A.zip l,WkL x.1 x.2.cells):Wk (.seq A) (.seq (l.map Ot.cells)):=by
 have:=Wk.rows (f:=Prod.fst) (k:=λx:List PV×Ot=>x.2.cells) (l:=A.zip l) h
 rw [List.map_fst_zip (by omega)] at this
 rwa [show (A.zip l).map (λx:List PV×Ot=>x.2.cells)=l.map Ot.cells from by rw [show (λx:List PV×Ot=>x.2.cells)=Ot.cells∘Prod.snd from rfl,<-List.map_map,List.map_snd_zip (by omega)]] at this
def opsA :List Ot:=[wY 1 5,kO 2 1 (nV 7) Dt.zero,kO 2 2 (nV 3) Dt.zero,kO 3 3 (nV (-5)) Dt.zero,kO 4 4 (nV 8) Dt.zero,kO 5 4 (nV 9) Dt.zero,kO 7 5 Vl.zero ⟨1,1⟩]
def aFJ :List (List PV):=[(wY 1 5).cells,tT 2 1 (nV 7) Dt.zero,tT 2 2 (nV 3) Dt.zero,tT 3 3 (nV (-5)) Dt.zero,tT 4 4 (nV 8) Dt.zero,tT 5 4 (nV 9) Dt.zero,tT 7 5 Vl.zero ⟨1,1⟩]
theorem aFi :Wk (.seq aFJ) (.seq (opsA.map Ot.cells)):=aFg rfl λx hx=>by
 have hx:x∈[((wY 1 5).cells,wY 1 5),(tT 2 1 (nV 7) Dt.zero,kO 2 1 (nV 7) Dt.zero),(tT 2 2 (nV 3) Dt.zero,kO 2 2 (nV 3) Dt.zero),(tT 3 3 (nV (-5)) Dt.zero,kO 3 3 (nV (-5)) Dt.zero),(tT 4 4 (nV 8) Dt.zero,kO 4 4 (nV 8) Dt.zero),(tT 5 4 (nV 9) Dt.zero,kO 5 4 (nV 9) Dt.zero),(tT 7 5 Vl.zero ⟨1,1⟩,kO 7 5 Vl.zero ⟨1,1⟩)]:=hx
 simp only [zmc,List.not_mem_nil,or_false] at hx
 rcases hx with rfl|rfl|rfl|rfl|rfl|rfl|rfl
 ·exact WkL.refl _
 all_goals exact aAa ..
def whoA :T.Sp:=⟨1,1,1⟩
def wA :Wr:=⟨whoA,[]⟩
def aC8 (n:Int) (at_:Int) (after:Dt) (aat:Int) (gone:Bool):Pt:=⟨⟨1,n,e0⟩,⟨1,1⟩,at_,1,after,aat,gone⟩
def lnA :Ln:=⟨1,[⟨0,nV 1,[]⟩,⟨0,nV 7,[]⟩,⟨1,Vl.zero,[ptN (nV 3) ⟨1,1⟩]⟩,⟨2,nV (-3),[]⟩,⟨3,Vl.zero,[ptN (nV 8) ⟨1,1⟩]⟩,⟨4,Vl.zero,[aC8 97 0 Dt.zero 0 true,aC8 98 1 ⟨1,1⟩ 0 false]⟩],[⟨1,1⟩]⟩
def bA :Bs:=[⟨[lnA]⟩]
theorem aA1 :ScB opS:=λt ht=>by
 rw [List.mem_singleton.1 ht]
 constructor<;>simp [opT,opC]
theorem opS_K :ScK opS:=⟨aA1,by decide,λt ht=>by rw [List.mem_singleton.1 ht];decide,λt ht c hc=>by rw [List.mem_singleton.1 ht] at hc;cases hc⟩
theorem uS :rightC opS=0:=by
 unfold rightC
 rw [if_pos (by kernel_rfl)]
 rfl
theorem aGj :fA cM bA 0=[[nV 1,nV 7,nV 3,nV (-3),nV 1,⟨2,0,⟨#[98]⟩⟩]]:=by
 have h3:cM ⟨3,Vl.zero,[ptN (nV 8) ⟨1,1⟩]⟩=nV 1:=by
  unfold cM aqE zQ
  simp [aiS]
  rfl
 show [[cM ⟨0,nV 1,[]⟩,cM ⟨0,nV 7,[]⟩,cM ⟨1,Vl.zero,[ptN (nV 3) ⟨1,1⟩]⟩,cM ⟨2,nV (-3),[]⟩,cM ⟨3,Vl.zero,[ptN (nV 8) ⟨1,1⟩]⟩,cM ⟨4,Vl.zero,[aC8 97 0 Dt.zero 0 true,aC8 98 1 ⟨1,1⟩ 0 false]⟩]]=_
 rw [h3]
 kernel_rfl
theorem aHj :whyC opS bA=0:=by
 unfold whyC mayC
 rw [uS,show cP T.rightP opS bA=true from by kernel_rfl]
 rw [if_pos (show (decide ((0:Int)=0)&&true)=true from rfl)]
 have hx:exR opT=λ_=>0:=rfl
 show dR (λk:Nat=>ckT exR bA opS[k]! (fA cM bA k)) [0]=0
 rw [show ∀f:Nat->Int,dR f [0]=if f 0=0 then 0 else f 0 from λf=>by unfold dR;by_cases h:f 0=0<;>simp [h]]
 have e:ckT exR bA opS[0]! (fA cM bA (0:Nat))=0:=by
  show ckT exR bA opT (fA cM bA 0)=0
  rw [aGj]
  unfold ckT
  rw [hx]
  kernel_rfl
 rw [e];rfl
theorem aGH :cZ wA opS (aiW opS) opsA=(bA,0):=by kernel_rfl
theorem aFo :rightW wA opS (aiW opS)=true:=gY.2 ⟨uS,by kernel_rfl,by kernel_rfl⟩
theorem arS :rightW wA opS bA=true:=gY.2 ⟨uS,by kernel_rfl,by kernel_rfl⟩
theorem aHk :allP wA opS (aiW opS) opsA=(bA,0):=by
 unfold allP
 rw [aFo,if_neg (by simp),if_neg (by decide),aGH,if_neg (by simp),aHj,if_neg (by simp)]
theorem aG7 :doP wA opS bA (wY 1 5)=([],8):=by
 unfold doP
 rw [arS,if_pos rfl]
 kernel_rfl
theorem aHn :doP wA opS bA (kO 8 0 Vl.zero Dt.zero)=([⟨[]⟩],0):=by
 unfold doP
 rw [arS,if_pos rfl]
 kernel_rfl
theorem aGr :OpW 0 (aiW opS):=⟨by decide,λd hd=>by
 have hd:d∈[(⟨[]⟩:Da)]:=hd
 rw [List.mem_singleton.1 hd]
 exact ⟨by decide,λl hl=>by cases hl⟩⟩
theorem bAW :OpW 0 bA:=⟨by decide,λd hd=>by
 have hd:d∈[(⟨[lnA]⟩:Da)]:=hd
 rw [List.mem_singleton.1 hd]
 refine ⟨by decide,λl hl=> ?_⟩
 have hl:l∈[lnA]:=hl
 rw [List.mem_singleton.1 hl]
 unfold LnW
 decide⟩
theorem aHb :∀o∈opsA,xQ o:=λo ho=>qF.1 (by
 have:opsA.all iY=true:=by kernel_rfl
 exact zal.1 this o ho)
theorem avT :PF Tryz.prog 18 [.agg (scC opS), .agg (bsC (aiW opS)), .seq aFJ, .agg whoA.cells,alG] (.tup [.agg (bsC bA),(PV.val (Value.int .i64 (0)))]):=λst=>by
 have h:=adR (w:=wA) opS_K aGr (l:=opsA) (by decide) (by decide) aHb st
 rw [aHk] at h
 exact PC.wkArgs (.cons (zwr _) (.cons (zwr _) (.cons aFi (.cons (zwr _) (.cons Wk.nil .nil))))) h
theorem awF :PF Tryz.prog 21 [.agg (scC opS), .agg (bsC bA), .agg (wY 1 5).cells, .agg whoA.cells,alG] (.tup [.agg (bsC []),(PV.val (Value.int .i64 (8)))]):=λst=>by
 have h:=abE (w:=wA) (o:=wY 1 5) opS_K (n:=0) (b:=bA) ⟨aA1,by decide,bAW,by decide,by decide,qF.1 (by kernel_rfl)⟩ st
 rw [aG7] at h
 exact PC.wkArgs (.cons (zwr _) (.cons (zwr _) (.cons (zwr _) (.cons (zwr _) (.cons Wk.nil .nil))))) h
theorem atN :PF Tryz.prog 21 [.agg (scC opS), .agg (bsC bA), .agg (tT 8 0 Vl.zero Dt.zero), .agg whoA.cells,alG] (.tup [.agg (bsC [⟨[]⟩]),(PV.val (Value.int .i64 (0)))]):=λst=>by
 have h:=abE (w:=wA) (o:=kO 8 0 Vl.zero Dt.zero) opS_K (n:=0) (b:=bA) ⟨aA1,by decide,bAW,by decide,by decide,qF.1 (by kernel_rfl)⟩ st
 rw [aHn] at h
 exact PC.wkArgs (.cons (zwr _) (.cons (zwr _) (.cons (.agg (aAa ..)) (.cons (zwr _) (.cons Wk.nil .nil))))) h
theorem agG (a b:List Vl) (ha:a.length<1000000000000):PF Tryz.prog 50 [.seq (a.map Vl.cells), .seq (b.map Vl.cells)] (PV.val (Value.bool (decide (a=b)))):=by
 by_cases hl:a.length=b.length
 ·have hno:∀j (h1:j<a.length) (h2:j<b.length),a[j]≠b[j]->decide (a=b)=false:=λj h1 h2 q=>decide_eq_false λe=>by subst e;exact q rfl
  have hyes:(∀j (h1:j<a.length) (h2:j<b.length),a[j]=b[j])->decide (a=b)=true:=λq=>decide_eq_true (List.ext_getElem hl λj h1 h2=>q j h1 h2)
  generalize decide (a=b)=D at*
  refine aG aF Tryz.func50 (by kernel_rfl) rfl rfl rfl rfl (λst=> ?_)
  focus ((try apply wO pk;rfl);(repeat' first|show All _;constructor|apply wC pk;rfl;rfl|refine aA rfl ?_ ?_<;>intro h<;>(try simp at h)<;>try omega))
  refine aK (X:={x:Nat//x<=a.length/\∀j (h1:j<a.length) (h2:j<b.length),j<x->a[j]=b[j]}) (λi=>((((St.nil 26 st).pv 0 (.seq (a.map Vl.cells))).pv 1 (.seq (b.map Vl.cells))).pv 5 ((PV.val (Value.int .i64 ((i.1:Nat))))))) (λi=>a.length-i.1) ⟨0,by omega,by omega⟩ ?_ (λi=> ?_)
  ·((repeat refine Sub.pv ?_ rfl);exact Sub.nil _ _ _ (zsr _) rfl)
  obtain ⟨i,hi,hI⟩:=i
  dsimp only
  by_cases hend:a.length<=i
  ·have e:=hyes λj h1 h2=>hI j h1 h2 (by omega)
   (try apply wO pk;rfl);(repeat' first|show All _;constructor|apply wC pk;rfl;rfl|refine aA rfl ?_ ?_<;>intro h<;>(try simp at h)<;>try omega|(refine aC ?_;refine ⟨_,_,_,rfl,zwr _,zsr _, ?_,rfl⟩;try first|rfl|(rw [e]);done))
  have h1:i<a.length:=by omega
  have h2:i<b.length:=by omega
  have hx:=Vl.ext_iff a[i] b[i]
  have hno:=hno i h1 h2
  have hup:a[i]=b[i]->∀j (h1:j<a.length) (h2:j<b.length),j<i+1->a[j]=b[j]:=λe j q1 q2 hj=>by
   rcases Nat.lt_succ_iff_lt_or_eq.1 hj with z|z
   ·exact hI j q1 q2 z
   ·subst z;exact e
  by_cases he:a[i]=b[i]
  ·have hup:=hup he
   obtain ⟨x1,x2,x3⟩:=hx.1 he
   (try apply wO pk;rfl);(repeat' first|show All _;constructor|show Imp _ _;constructor|apply wC pk;rfl;rfl|apply wE pk;rfl;rfl|apply wD pk [] [];kernel_rfl;rfl;rfl|refine aA rfl ?_ ?_<;>intro h<;>(try simp at h)<;>try omega|(refine aC ?_;refine ⟨_,_,_,rfl,zwr _,zsr _, ?_,rfl⟩;try rfl)|apply aN pk;(iterate 6 rfl);rotate_left;rfl;(intro hw;rfl);(intro hw;apply aI<;>omega);(intro _;rfl);rfl|refine ⟨⟨i+1,by omega,hup⟩, ?_,by simp only;omega⟩;((repeat refine Sub.pv ?_ rfl);exact Sub.nil _ _ _ (zsr _) rfl)|intros;(try simp only [zql]);omega|exfalso;simp_all;done)
  ·have e:=hno he
   rw [hx] at he
   (try apply wO pk;rfl);(repeat' first|show All _;constructor|show Imp _ _;constructor|apply wC pk;rfl;rfl|apply wE pk;rfl;rfl|apply wD pk [] [];kernel_rfl;rfl;rfl|refine aA rfl ?_ ?_<;>intro h<;>(try simp at h)<;>try omega|(refine aC ?_;refine ⟨_,_,_,rfl,zwr _,zsr _, ?_,rfl⟩;try first|rfl|(rw [e]);done)|apply aN pk;(iterate 6 rfl);rotate_left;rfl;(intro hw;rfl);(intro hw;apply aI<;>omega);(intro _;rfl);rfl|intros;(try simp only [zql]);omega|exfalso;simp_all;done)
 ·rw [decide_eq_false (λe=>hl (by rw [e]))]
  refine aG aF Tryz.func50 (by kernel_rfl) rfl rfl rfl rfl (λst=> ?_)
  (try apply wO pk;rfl);(repeat' first|show All _;constructor|apply wC pk;rfl;rfl|refine aA rfl ?_ ?_<;>intro h<;>(try simp at h)<;>try omega|(refine aC ?_;refine ⟨_,_,_,rfl,zwr _,zsr _, ?_,rfl⟩;try rfl))
def rwA :List Vl:=[nV 1,nV 7,nV 3,nV (-3),nV 1,⟨2,0,⟨#[98]⟩⟩]
theorem agA :PF Tryz.prog 15 [] (PV.val (Value.bool (true))):=by
 have hN:=aBL opS (by decide)
 have n1:=dZ 7
 have n2:=dZ 3
 have n3:=dZ (-5)
 have n4:=dZ 8
 have n5:=dZ 9
 have n6:=dZ 1
 have n7:=dZ (-3)
 have i1:=aoU 1 5
 have hB1:CkB 200 opS bA:=opS_K.ck (bAW.S (by omega)) (by omega)
 have s1:=pA hB1 (k:=0) (by decide)
 rw [show fA cM bA ((0:Nat):Int)=[rwA] from aGj] at s1
 have hB2:CkB 200 opS [⟨[]⟩]:=opS_K.ck ((aGr).S (by omega)) (by omega)
 have s2:=pA hB2 (k:=0) (by decide)
 have hs:=agG rwA rwA (by decide)
 rw [decide_eq_true rfl] at hs
 refine aG aF Tryz.func15 (by kernel_rfl) rfl rfl rfl rfl (λst=> ?_)
 (try apply wO pk;rfl);(repeat' first|show All _;constructor|show Imp _ _;constructor|show ImpX _ _ _ _;constructor|apply wC pk;rfl;rfl|apply wE pk;rfl;rfl|apply wD pk [] [];kernel_rfl;rfl;rfl|refine aA rfl ?_ ?_<;>intro h<;>(try simp at h)<;>try omega|(refine aC ?_;refine ⟨_,_,_,rfl,zwr _,zsr _, ?_,rfl⟩;try rfl)|(apply aH;rfl;rfl;rfl;(intro _;(first|apply afC|apply hN|apply n1|apply n2|apply n3|apply n4|apply n5|apply n6|apply n7|apply i1|apply avT|apply awF|apply atN|apply s1|apply s2|apply hs)<;>first|assumption|omega);rotate_left;rfl;rfl)|apply aN pk;(iterate 6 rfl);rotate_left;rfl;(first|(intro hw;rfl);(intro hw;apply (rfl:([rwA].map roC)[0]?=some (roC rwA))<;>omega);(intro _;rfl)|(intro hw;rfl);(intro hw;apply (rfl:(bA.map Da.cells)[0]?=some (Da.cells ⟨[lnA]⟩))<;>omega);(intro _;rfl)|(intro hw;rfl);(intro hw;apply (rfl:([lnA].map Ln.cells)[0]?=some lnA.cells)<;>omega);(intro _;rfl));rfl|((exfalso;simp [bA,rwA] at h;done)))
end Go.Proofs.YtloecjjehapblaaGreatDoor
namespace Go.Proofs.YtloecjjehapblaaGreatDoor
open Go Go.Abs Go.ChangeShapes Go.WideShapes Go.ChangeAt Go.RowKit
set_option maxRecDepth 10000
theorem aGV {N n:Nat} {ps:List PV} (h:bI Tryz.prog N n 47 ps):∃v:T.Sp,ps=v.cells:=by
 obtain ⟨m,pss,_,rfl,h2⟩:=bU aF rfl h
 cases h2 with|cons ha h2=>cases h2 with|cons hb h2=>cases h2 with|cons hc h2=>cases h2 with|nil=>
 obtain ⟨a,rfl,_⟩:=bN aF rfl ha
 obtain ⟨b,rfl,_⟩:=bN aF rfl hb
 obtain ⟨c,rfl,_⟩:=bN aF rfl hc
 exact ⟨⟨a,b,c⟩,rfl⟩
def OpN (o:Ot):Prop:=o.row.length<200000000000000
theorem aGW {n:Nat} {ps:List PV} (h:bI Tryz.prog reachBytes n 61 ps):∃o:Ot,ps=o.cells/\OpN o:=by
 obtain ⟨m,pss,_,rfl,h2⟩:=bU aF rfl h
 cases h2 with|cons h0 h2=>cases h2 with|cons h1 h2=>cases h2 with|cons h3 h2=>cases h2 with|cons h4 h2=>cases h2 with|cons h5 h2=>cases h2 with|cons h6 h2=>cases h2 with|cons h7 h2=>cases h2 with|cons h8 h2=>cases h2 with|nil=>
 obtain ⟨k,rfl,_⟩:=bN aF rfl h0
 obtain ⟨t,rfl,_⟩:=bN aF rfl h1
 obtain ⟨y,rfl,_⟩:=bN aF rfl h3
 obtain ⟨c,rfl,_⟩:=bN aF rfl h4
 obtain ⟨_,rows,_,rfl,lr,hr⟩:=cF aF rfl h5
 obtain ⟨r,rfl,hl,_⟩:=wQ (f:=Vl.cells) (Q:=λ_=>True) λx hx=>by
  obtain ⟨v,e⟩:=ajF (hr x hx);exact ⟨v,e,trivial⟩
 obtain ⟨v,rfl⟩:=ajF h6
 obtain ⟨d,rfl⟩:=aqH h7
 obtain ⟨a,rfl,_⟩:=bN aF rfl h8
 have h:reachBytes<200000000000000:=by decide
 exact ⟨⟨k,t,y,c,r,v,d,a⟩,rfl,by show r.length<_;omega⟩
theorem aET {n:Nat} {ps:List PV} (h:bI Tryz.prog reachBytes n 45 ps):∃v:{l:List Ot//l.length<200000000000000/\∀o∈l,OpN o},ps=[.seq (v.1.map Ot.cells)]:=by
 obtain ⟨_,rows,_,rfl,lr,hr⟩:=cF aF rfl h
 obtain ⟨l,rfl,hl,hq⟩:=wQ (f:=Ot.cells) λx hx=>aGW (hr x hx)
 have h:reachBytes<200000000000000:=by decide
 exact ⟨⟨l,by omega,hq⟩,rfl⟩
theorem aGv {n:Nat} {ps:List PV} (h:bI Tryz.prog reachBytes n 48 ps):∃v:{l:List Int//l.length<200000000000000},ps=[.seq (v.1.map I1)]:=by
 obtain ⟨_,rows,_,rfl,lr,hr⟩:=cF aF rfl h
 obtain ⟨l,rfl,hl,_⟩:=wQ (f:=I1) (Q:=λ_=>True) λx hx=>by
  obtain ⟨v,e,_⟩:=bN aF rfl (hr x hx);exact ⟨v,e,trivial⟩
 have h:reachBytes<200000000000000:=by decide
 exact ⟨⟨l,by omega⟩,rfl⟩
end Go.Proofs.YtloecjjehapblaaGreatDoor
