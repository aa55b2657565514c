import Derived.Test.YtloecjjehapblaaGreatDoorOkAt
import Derived.Test.YtloecjjehapblaaGreatDoorOkAm
import Derived.Test.YtloecjjehapblaaGreatDoorOkAu
import Derived.Test.YtloecjjehapblaaGreatDoorOkAh
set_option linter.unusedSimpArgs false
set_option linter.unusedVariables false
namespace Go.Proofs.YtloecjjehapblaaGreatDoor
open Go Go.Abs
attribute [local irreducible] Ev PWp
set_option maxRecDepth 10000
set_option maxHeartbeats 4000000
def opC :List Co:=[aFU,⟨⟨#[110]⟩,0,1,false⟩,⟨⟨#[109]⟩,1,1,true⟩,⟨⟨#[99]⟩,2,1,false⟩,aGQ,⟨⟨#[116]⟩,4,2,false⟩]
def opT :Tb:=⟨⟨#[97]⟩,opC,[],[],[],[]⟩
def opS :Sc:=[opT]
theorem aF1 :Wk (.agg [.seq [[.val (.string ⟨#[97]⟩), .seq (opC.map Co.cells),agS,agS,agS,agS]]]) (.agg (scC opS)):=
 Wk.agg (.cons (aHf rfl λx hx=>by
  rw [zms.1 hx]
  exact .cons (zwr _) (.cons (zwr _) (.cons Wk.nil (.cons Wk.nil (.cons Wk.nil (.cons Wk.nil .nil)))))) .nil)
theorem nF :PF Tryz.prog 26 [] (.agg (scC opS)):=by
 refine aG aF Tryz.func26 (by kernel_rfl) rfl rfl rfl rfl (λst=> ?_)
 (try apply wO pk;rfl);(repeat' first|refine aC ?_;exact ⟨_,_,_,rfl,aF1,zsr _,rfl,rfl⟩|show Cn _;constructor)
theorem cN (n:Int):PF Tryz.prog 29 [(.val (.int .i64 n))] (.agg (nV n).cells):=by
 refine aG aF Tryz.func29 (by kernel_rfl) rfl rfl rfl rfl (λst=> ?_)
 (try apply wO pk;rfl);(repeat' first|show Cn _;constructor|(refine aC ?_;refine ⟨_,_,_,rfl,zwr _,zsr _, ?_,rfl⟩;try rfl))
def abS :ByteArray:=⟨#[97,98]⟩
def rI (k n:Int):Ot:=⟨1,0,0,0,[nV k,nV n,Vl.zero,nV 2,nV 9,⟨2,0,abS⟩],Vl.zero,Dt.zero,0⟩
theorem aaW (k n:Int):PF Tryz.prog 28 [(.val (.int .i64 k)),(.val (.int .i64 n))] (.agg (rI k n).cells):=by
 have h1:=cN k
 have h2:=cN n
 have h3:=cN 2
 have h4:=cN 9
 refine aG aF Tryz.func28 (by kernel_rfl) rfl rfl rfl rfl (λst=> ?_)
 (try apply wO pk;rfl);(repeat' first|show Cn _;constructor|apply wE pk;rfl;rfl|(refine aC ?_;refine ⟨_,_,_,rfl,zwr _,zsr _, ?_,rfl⟩;try rfl)|(apply aH;rfl;rfl;rfl;(intro _;(first|apply h1|apply h2|apply h3|apply h4)<;>first|assumption|omega);rotate_left;rfl;rfl))
def dL (kind col:Int) (v:Vl) (d:Dt):Ot:=⟨kind,0,1,col,[],v,d,0⟩
def lH (kind col:Int) (v:Vl) (d:Dt):List PV:=[(PV.val (Value.int .i64 (kind))),(PV.val (Value.int .i64 (0))),(PV.val (Value.int .i64 (1))),(PV.val (Value.int .i64 (col))),agS,(PV.val (Value.int .i64 (v.kind))),(PV.val (Value.int .i64 (v.n))),(PV.val (Value.string (v.s))),(PV.val (Value.int .i64 (d.dev))),(PV.val (Value.int .i64 (d.seq))),(PV.val (Value.int .i64 (0)))]
theorem anQ (kind col:Int) (v:Vl) (d:Dt):WkL (lH kind col v d) (dL kind col v d).cells:= .cons (zwr _) (.cons (zwr _) (.cons (zwr _) (.cons (zwr _) (.cons Wk.nil (.cons (zwr _) (.cons (zwr _) (.cons (zwr _) (.cons (zwr _) (.cons (zwr _) (.cons (zwr _) .nil))))))))))
theorem aA2 {A:List (List PV)} {l:List Ot} (hl:A.length=l.length) (h:∀x∈A.zip l,WkL x.1 x.2.cells):Wk (.seq A) (.seq (l.map Ot.cells)):=by
 have:=Wk.rows (f:=Prod.fst) (k:=λx:List PV×Ot=>x.2.cells) (l:=A.zip l) h
 rw [List.map_fst_zip (by omega)] at this
 rwa [show (A.zip l).map (λx:List PV×Ot=>x.2.cells)=l.map Ot.cells from by rw [show (λx:List PV×Ot=>x.2.cells)=Ot.cells∘Prod.snd from rfl,<-List.map_map,List.map_snd_zip (by omega)]] at this
def opsA :List Ot:=[rI 1 5,dL 2 1 (nV 7) Dt.zero,dL 2 2 (nV 3) Dt.zero,dL 3 3 (nV (-5)) Dt.zero,dL 4 4 (nV 8) Dt.zero,dL 5 4 (nV 9) Dt.zero,dL 7 5 Vl.zero ⟨1,1⟩]
def aFK :List (List PV):=[(rI 1 5).cells,lH 2 1 (nV 7) Dt.zero,lH 2 2 (nV 3) Dt.zero,lH 3 3 (nV (-5)) Dt.zero,lH 4 4 (nV 8) Dt.zero,lH 5 4 (nV 9) Dt.zero,lH 7 5 Vl.zero ⟨1,1⟩]
theorem aFi :Wk (.seq aFK) (.seq (opsA.map Ot.cells)):=aA2 rfl λx hx=>by
 have hx:x∈[((rI 1 5).cells,rI 1 5),(lH 2 1 (nV 7) Dt.zero,dL 2 1 (nV 7) Dt.zero),(lH 2 2 (nV 3) Dt.zero,dL 2 2 (nV 3) Dt.zero),(lH 3 3 (nV (-5)) Dt.zero,dL 3 3 (nV (-5)) Dt.zero),(lH 4 4 (nV 8) Dt.zero,dL 4 4 (nV 8) Dt.zero),(lH 5 4 (nV 9) Dt.zero,dL 5 4 (nV 9) Dt.zero),(lH 7 5 Vl.zero ⟨1,1⟩,dL 7 5 Vl.zero ⟨1,1⟩)]:=hx
 simp only [zmc,List.not_mem_nil,or_false] at hx
 rcases hx with rfl|rfl|rfl|rfl|rfl|rfl|rfl
 ·exact WkL.refl _
 all_goals exact anQ ..
def whoA :T.Sp:=⟨1,1,1⟩
def wA :Wr:=⟨whoA,[]⟩
def akI (n:Int) (at_:Int) (after:Dt) (aat:Int) (gone:Bool):Pt:=⟨⟨1,n,e0⟩,⟨1,1⟩,at_,1,after,aat,gone⟩
def lnA :Ln:=⟨1,[⟨0,nV 1,[]⟩,⟨0,nV 7,[]⟩,⟨1,Vl.zero,[ptN (nV 3) ⟨1,1⟩]⟩,⟨2,nV (-3),[]⟩,⟨3,Vl.zero,[ptN (nV 8) ⟨1,1⟩]⟩,⟨4,Vl.zero,[akI 97 0 Dt.zero 0 true,akI 98 1 ⟨1,1⟩ 0 false]⟩],[⟨1,1⟩]⟩
def bA :Bs:=[⟨[lnA]⟩]
theorem aAX :ScB opS:=λt ht=>by
 rw [zms.1 ht]
 constructor<;>simp [opT,opC]
theorem opS_K :ScK opS:=⟨aAX,by decide,λt ht=>by rw [zms.1 ht];decide,λt ht c hc=>by rw [zms.1 ht] at hc;cases hc⟩
theorem jR :rightC opS=0:=by
 unfold rightC
 rw [zp (by kernel_rfl)]
 rfl
theorem aGh :eP bO bA 0=[[nV 1,nV 7,nV 3,nV (-3),nV 1,⟨2,0,⟨#[98]⟩⟩]]:=by
 have h3:bO ⟨3,Vl.zero,[ptN (nV 8) ⟨1,1⟩]⟩=nV 1:=by
  unfold bO yQ rD
  simp [afK]
  rfl
 show [[bO ⟨0,nV 1,[]⟩,bO ⟨0,nV 7,[]⟩,bO ⟨1,Vl.zero,[ptN (nV 3) ⟨1,1⟩]⟩,bO ⟨2,nV (-3),[]⟩,bO ⟨3,Vl.zero,[ptN (nV 8) ⟨1,1⟩]⟩,bO ⟨4,Vl.zero,[akI 97 0 Dt.zero 0 true,akI 98 1 ⟨1,1⟩ 0 false]⟩]]=_
 rw [h3]
 kernel_rfl
theorem aHc :whyC opS bA=0:=by
 unfold whyC mayC
 rw [jR,show cE T.rightP opS bA=true from by kernel_rfl]
 rw [zp (show (decide ((0:Int)=0)&&true)=true from rfl)]
 have hx:exR opT=λ_=>0:=rfl
 show dT (λk:Nat=>ckT exR bA opS[k]! (eP bO bA k)) [0]=0
 rw [show ∀f:Nat->Int,dT f [0]=if f 0=0 then 0 else f 0 from λf=>by unfold dT;by_cases h:f 0=0<;>simp [h]]
 have e:ckT exR bA opS[0]! (eP bO bA (0:Nat))=0:=by
  show ckT exR bA opT (eP bO bA 0)=0
  rw [aGh]
  unfold ckT
  rw [hx]
  kernel_rfl
 rw [e];rfl
theorem aGC :cZ wA opS (aaA opS) opsA=(bA,0):=by kernel_rfl
theorem aBn :rightW wA opS (aaA opS)=true:=gZ.2 ⟨jR,by kernel_rfl,by kernel_rfl⟩
theorem arT :rightW wA opS bA=true:=gZ.2 ⟨jR,by kernel_rfl,by kernel_rfl⟩
theorem aHd :allP wA opS (aaA opS) opsA=(bA,0):=by
 unfold allP
 rw [aBn,zn (by simp),zn (by decide),aGC,zn (by simp),aHc,zn (by simp)]
theorem aGZ :doP wA opS bA (rI 1 5)=([],8):=by
 unfold doP
 rw [arT,zp rfl]
 kernel_rfl
theorem aHg :doP wA opS bA (dL 8 0 Vl.zero Dt.zero)=([⟨[]⟩],0):=by
 unfold doP
 rw [arT,zp rfl]
 kernel_rfl
theorem aE6 :OpW 0 (aaA opS):=⟨by decide,λd hd=>by
 have hd:d∈[(⟨[]⟩:Da)]:=hd
 rw [zms.1 hd]
 exact ⟨by decide,λl hl=>by cases hl⟩⟩
theorem bAW :OpW 0 bA:=⟨by decide,λd hd=>by
 have hd:d∈[(⟨[lnA]⟩:Da)]:=hd
 rw [zms.1 hd]
 refine ⟨by decide,λl hl=> ?_⟩
 have hl:l∈[lnA]:=hl
 rw [zms.1 hl]
 unfold LnW
 decide⟩
theorem aG3 :∀o∈opsA,zB o:=λo ho=>mF.1 (by
 have:opsA.all aA7=true:=by kernel_rfl
 exact zal.1 this o ho)
theorem avS :PF Tryz.prog 18 [.agg (scC opS), .agg (bsC (aaA opS)), .seq aFK, .agg whoA.cells,agS] (.tup [.agg (bsC bA),(.val (.int .i64 0))]):=λst=>by
 have h:=qR (w:=wA) opS_K aE6 (l:=opsA) (by decide) (by decide) aG3 st
 rw [aHd] at h
 exact PC.wkArgs (.cons (zwr _) (.cons (zwr _) (.cons aFi (.cons (zwr _) (.cons Wk.nil .nil))))) h
theorem awE :PF Tryz.prog 21 [.agg (scC opS), .agg (bsC bA), .agg (rI 1 5).cells, .agg whoA.cells,agS] (.tup [.agg (bsC []),(.val (.int .i64 8))]):=λst=>by
 have h:=akR (w:=wA) (o:=rI 1 5) opS_K (n:=0) (b:=bA) ⟨aAX,by decide,bAW,by decide,by decide,mF.1 (by kernel_rfl)⟩ st
 rw [aGZ] at h
 exact PC.wkArgs (.cons (zwr _) (.cons (zwr _) (.cons (zwr _) (.cons (zwr _) (.cons Wk.nil .nil))))) h
theorem atM :PF Tryz.prog 21 [.agg (scC opS), .agg (bsC bA), .agg (lH 8 0 Vl.zero Dt.zero), .agg whoA.cells,agS] (.tup [.agg (bsC [⟨[]⟩]),(.val (.int .i64 0))]):=λst=>by
 have h:=akR (w:=wA) (o:=dL 8 0 Vl.zero Dt.zero) opS_K (n:=0) (b:=bA) ⟨aAX,by decide,bAW,by decide,by decide,mF.1 (by kernel_rfl)⟩ st
 rw [aHg] at h
 exact PC.wkArgs (.cons (zwr _) (.cons (zwr _) (.cons (.agg (anQ ..)) (.cons (zwr _) (.cons Wk.nil .nil))))) h
theorem agB (a b:List Vl) (ha:a.length<1000000000000):PF Tryz.prog 50 [.seq (a.map Vl.cells), .seq (b.map Vl.cells)] (.val (.bool (decide (a=b)))):=by
 by_cases hl:a.length=b.length
 ·have hno:∀j (h1:j<a.length) (h2:j<b.length),a[j]≠b[j]->decide (a=b)=false:=λj h1 h2 q=>decide_eq_false λe=>by subst e;exact q rfl
  have hyes:(∀j (h1:j<a.length) (h2:j<b.length),a[j]=b[j])->decide (a=b)=true:=λq=>decide_eq_true (List.ext_getElem hl λj h1 h2=>q j h1 h2)
  generalize decide (a=b)=D at*
  refine aG aF Tryz.func50 (by kernel_rfl) rfl rfl rfl rfl (λst=> ?_)
  focus ((try apply wO pk;rfl);(repeat' first|show Cn _;constructor|apply wC pk;rfl;rfl|refine aB rfl ?_ ?_<;>intro h<;>(try simp at h)<;>try omega))
  refine aK (X:={x:Nat//x<=a.length/\∀j (h1:j<a.length) (h2:j<b.length),j<x->a[j]=b[j]}) (λi=>((((St.nil 26 st).pv 0 (.seq (a.map Vl.cells))).pv 1 (.seq (b.map Vl.cells))).pv 5 ((PV.val (Value.int .i64 ((i.1:Nat))))))) (λi=>a.length-i.1) ⟨0,by omega,by omega⟩ ?_ (λi=> ?_)
  ·((repeat refine Sub.pv ?_ rfl);exact Sub.nil _ _ _ (zsr _) rfl)
  obtain ⟨i,hi,hI⟩:=i
  dsimp only
  by_cases hend:a.length<=i
  ·have e:=hyes λj h1 h2=>hI j h1 h2 (by omega)
   (try apply wO pk;rfl);(repeat' first|show Cn _;constructor|apply wC pk;rfl;rfl|refine aB rfl ?_ ?_<;>intro h<;>(try simp at h)<;>try omega|(refine aC ?_;refine ⟨_,_,_,rfl,zwr _,zsr _, ?_,rfl⟩;try first|rfl|(rw [e]);done))
  have h1:i<a.length:=by omega
  have h2:i<b.length:=by omega
  have hx:=Vl.ext_iff a[i] b[i]
  have hno:=hno i h1 h2
  have hup:a[i]=b[i]->∀j (h1:j<a.length) (h2:j<b.length),j<i+1->a[j]=b[j]:=λe j q1 q2 hj=>by
   rcases zls.1 hj with z|z
   ·exact hI j q1 q2 z
   ·subst z;exact e
  by_cases he:a[i]=b[i]
  ·have hup:=hup he
   obtain ⟨x1,x2,x3⟩:=hx.1 he
   (try apply wO pk;rfl);(repeat' first|show Cn _;constructor|apply wC pk;rfl;rfl|apply wE pk;rfl;rfl|apply wD pk [] [];kernel_rfl;rfl;rfl|refine aB rfl ?_ ?_<;>intro h<;>(try simp at h)<;>try omega|(refine aC ?_;refine ⟨_,_,_,rfl,zwr _,zsr _, ?_,rfl⟩;try rfl)|apply aP pk;(iterate 6 rfl);rotate_left;rfl;(intro hw;rfl);(intro hw;apply aJ<;>omega);(intro _;rfl);rfl|refine ⟨⟨i+1,by omega,hup⟩, ?_,by simp only;omega⟩;((repeat refine Sub.pv ?_ rfl);exact Sub.nil _ _ _ (zsr _) rfl)|intros;(try simp only [zql]);omega|exfalso;simp_all;done)
  ·have e:=hno he
   rw [hx] at he
   (try apply wO pk;rfl);(repeat' first|show Cn _;constructor|apply wC pk;rfl;rfl|apply wE pk;rfl;rfl|apply wD pk [] [];kernel_rfl;rfl;rfl|refine aB rfl ?_ ?_<;>intro h<;>(try simp at h)<;>try omega|(refine aC ?_;refine ⟨_,_,_,rfl,zwr _,zsr _, ?_,rfl⟩;try first|rfl|(rw [e]);done)|apply aP pk;(iterate 6 rfl);rotate_left;rfl;(intro hw;rfl);(intro hw;apply aJ<;>omega);(intro _;rfl);rfl|intros;(try simp only [zql]);omega|exfalso;simp_all;done)
 ·rw [decide_eq_false (λe=>hl (by rw [e]))]
  refine aG aF Tryz.func50 (by kernel_rfl) rfl rfl rfl rfl (λst=> ?_)
  (try apply wO pk;rfl);(repeat' first|show Cn _;constructor|apply wC pk;rfl;rfl|refine aB rfl ?_ ?_<;>intro h<;>(try simp at h)<;>try omega|(refine aC ?_;refine ⟨_,_,_,rfl,zwr _,zsr _, ?_,rfl⟩;try rfl))
def rwA :List Vl:=[nV 1,nV 7,nV 3,nV (-3),nV 1,⟨2,0,⟨#[98]⟩⟩]
theorem afV :PF Tryz.prog 15 [] (.val (.bool true)):=by
 have hN:=alT opS (by decide)
 have n1:=cN 7
 have n2:=cN 3
 have n3:=cN (-5)
 have n4:=cN 8
 have n5:=cN 9
 have n6:=cN 1
 have n7:=cN (-3)
 have i1:=aaW 1 5
 have hB1:CkB 200 opS bA:=opS_K.ck (bAW.S (by omega)) (by omega)
 have s1:=pI hB1 (k:=0) (by decide)
 rw [show eP bO bA ((0:Nat):Int)=[rwA] from aGh] at s1
 have hB2:CkB 200 opS [⟨[]⟩]:=opS_K.ck ((aE6).S (by omega)) (by omega)
 have s2:=pI hB2 (k:=0) (by decide)
 have hs:=agB rwA rwA (by decide)
 rw [decide_eq_true rfl] at hs
 refine aG aF Tryz.func15 (by kernel_rfl) rfl rfl rfl rfl (λst=> ?_)
 (try apply wO pk;rfl);(repeat' first|show Cn _;constructor|apply wC pk;rfl;rfl|apply wE pk;rfl;rfl|apply wD pk [] [];kernel_rfl;rfl;rfl|refine aB rfl ?_ ?_<;>intro h<;>(try simp at h)<;>try omega|(refine aC ?_;refine ⟨_,_,_,rfl,zwr _,zsr _, ?_,rfl⟩;try rfl)|(apply aH;rfl;rfl;rfl;(intro _;(first|apply nF|apply hN|apply n1|apply n2|apply n3|apply n4|apply n5|apply n6|apply n7|apply i1|apply avS|apply awE|apply atM|apply s1|apply s2|apply hs)<;>first|assumption|omega);rotate_left;rfl;rfl)|apply aP pk;(iterate 6 rfl);rotate_left;rfl;(first|(intro hw;rfl);(intro hw;apply (rfl:([rwA].map roC)[0]?=some (roC rwA))<;>omega);(intro _;rfl)|(intro hw;rfl);(intro hw;apply (rfl:(bA.map Da.cells)[0]?=some (Da.cells ⟨[lnA]⟩))<;>omega);(intro _;rfl)|(intro hw;rfl);(intro hw;apply (rfl:([lnA].map Ln.cells)[0]?=some lnA.cells)<;>omega);(intro _;rfl));rfl|((exfalso;simp [bA,rwA] at h;done)))
end Go.Proofs.YtloecjjehapblaaGreatDoor
namespace Go.Proofs.YtloecjjehapblaaGreatDoor
open Go Go.Abs Go.ChangeShapes Go.WideShapes Go.ChangeAt Go.RowKit
set_option maxRecDepth 10000
end Go.Proofs.YtloecjjehapblaaGreatDoor
namespace Go.Proofs.YtloecjjehapblaaGreatDoor
open Go Go.Abs
attribute [local irreducible] Ev PWp
set_option maxRecDepth 10000
set_option maxHeartbeats 4000000
section
variable {P:Program} {tt:TT} {l:List Oper} {d:Md} {r:List Oper} {s:St} {K:St->Prop} {t:Nat} {ty:TypeId} {pos:String} {after:Array Edge} {gd:Option (Nat×Bool)}
theorem cvG (pk:bM P tt) {T T2:TypeId} {x:Operand} {w:Bool} {k1 k2:IntKind} {a:Int} (hw:bJ l ⟨some t, .convert T T2 x,ty,pos,after,gd⟩ s=some w) (hx:opd s x=some (.val (.int k1 a))) (hT:(tiK tt T).isSome=true) (hk:tiK tt T2=some (.int k2)) (hc:Go.Abs.inR k2 a) (hf:fZ s w [x]) (hd:Nat.blt t s.n=true)
  (ht:cQ d l r=true) (k:Ev P l d r (s.put (some t) w (.pv (.val (.int k2 a)))) K):Ev P l d (⟨some t, .convert T T2 x,ty,pos,after,gd⟩::r) s K:=
 dF hw (λ_ _=>ajE pk rfl hx hT hk (aiI hc)) (λz hz=>aR (λ_ _ _ e=>by cases e) hz) hf hd ht k
end
def kB :Wr:=⟨⟨2,2,1⟩,[1]⟩
def knV (q:Bool):List Int:=if q=true then [1,1] else [1]
def kC (q:Bool):Wr:=⟨⟨3,3,1⟩,knV q⟩
def lnK (a b:List Pt) (y:List Dt):Ln:=⟨1,[⟨0,nV 1,[]⟩,⟨0,nV 5,[]⟩,⟨1,Vl.zero,a⟩,⟨2,nV 2,[]⟩,⟨3,Vl.zero,b⟩,⟨4,Vl.zero,[akI 97 0 Dt.zero 0 false,akI 98 1 ⟨1,1⟩ 0 false]⟩],y⟩
def bX :Bs:=[⟨[lnK [] [ptN (nV 9) ⟨1,1⟩] [⟨1,1⟩]]⟩]
def bY1 (n:Int):Bs:=[⟨[lnK [ptN (nV n) ⟨2,1⟩] [ptN (nV 9) ⟨1,1⟩] [⟨1,1⟩,⟨2,1⟩]]⟩]
def bY (n:Int):Bs:=[⟨[lnK [ptN (nV n) ⟨2,1⟩] [ptN (nV 9) ⟨1,1⟩,ptN (nV 70000) ⟨2,1⟩] [⟨1,1⟩,⟨2,1⟩]]⟩]
def aZ' (n m:Int) (q:Bool):List Pt:=if q=true then [ptN (nV m) ⟨3,1⟩] else [ptN (nV n) ⟨2,1⟩,ptN (nV m) ⟨3,1⟩]
def sZ' (q:Bool):List Pt:=if q=true then [ptN (nV 9) ⟨1,1⟩] else [ptN (nV 9) ⟨1,1⟩,ptN (nV 70000) ⟨2,1⟩]
def bZ1 (n m:Int) (q:Bool):Bs:=[⟨[lnK (aZ' n m q) [ptN (nV 9) ⟨1,1⟩,ptN (nV 70000) ⟨2,1⟩] [⟨1,1⟩,⟨2,1⟩,⟨3,1⟩]]⟩]
def lnZ (n m:Int) (q:Bool):Ln:=lnK (aZ' n m q) (sZ' q) [⟨1,1⟩,⟨2,1⟩,⟨3,1⟩]
def bZ (n m:Int) (q:Bool):Bs:=[⟨[lnZ n m q]⟩]
def aEY :List Ot:=[rI 1 5]
def afQ (n:Int):List Ot:=[dL 2 2 (nV n) Dt.zero,dL 4 4 (nV 70000) Dt.zero]
def acH (m:Int):List Ot:=[dL 2 2 (nV m) Dt.zero,dL 5 4 (nV 70000) Dt.zero]
theorem vRn {n:Int} (h0:0<=n) (h1:n<=65535):bB (nV n)=true:=by
 unfold bB nV
 rw [zn (by simp),zp rfl]
 simp only [zba,zde]
 exact ⟨⟨trivial,by omega⟩,by omega⟩
theorem n27 :¬(2:Int)=7:=by decide
theorem rO2 {n:Int} (h:bB (nV n)=true):fN opS (dL 2 2 (nV n) Dt.zero)=0:=by
 have hv:oP opC[2]! (dL 2 2 (nV n) Dt.zero)=0:=by
  unfold oP
  rw [zn,zn,zn,zn,zn]
  ·rintro ⟨q,_⟩;exact q rfl
  ·rintro (⟨_,q⟩|⟨q,_⟩)
   ·exact q rfl
   ·exact absurd (show (2:Int)=6 from q) (by decide)
  ·rintro ⟨_,q⟩;exact absurd (show (1:Int)=0 from q) (by decide)
  ·intro q;exact n27 q
  ·rintro (⟨q,_⟩|q)
   ·exact n27 q
   ·exact absurd (h.symm.trans q) (by decide)
 have hc:tJ opT (dL 2 2 (nV n) Dt.zero)=0:=by
  unfold tJ
  refine (zn (show ¬((2:Int)<0\/(2:Int)>=6) by decide)).trans ?_
  refine (zn (show ¬(2:Int)=0 by decide)).trans ?_
  refine (zn (show ¬abB 2 1=false by decide)).trans ?_
  refine (zn (λq=>q hv)).trans ?_
  exact zn (show ¬decide ((2:Int)≠7)=false by decide)
 unfold fN
 refine (zn (show ¬((2:Int)<1\/(2:Int)>8) by decide)).trans ?_
 refine (zn (show ¬((0:Int)<0\/(0:Int)>=1) by decide)).trans ?_
 refine (zn (show ¬(2:Int)=1 by decide)).trans ?_
 refine (zn (show ¬(0>0\/anB 1=false) by decide)).trans ?_
 exact (zp (show (2:Int)≠8 by decide)).trans hc
theorem stX :cZ wA opS (aaA opS) aEY=(bX,0):=by kernel_rfl
theorem aFn {n:Int} (h:bB (nV n)=true):dH kB opS bX (dL 2 2 (nV n) Dt.zero)=(bY1 n,0):=by
 unfold dH
 rw [rO2 h]
 refine (zn (by simp)).trans ?_
 refine (zn (show ¬(2:Int)=1 by decide)).trans ?_
 refine (zn (show ¬(2:Int)=8 by decide)).trans ?_
 kernel_rfl
theorem aEU (n:Int):dH kB opS (bY1 n) (dL 4 4 (nV 70000) Dt.zero)=(bY n,0):=by kernel_rfl
theorem aEG (n:Int) {m:Int} (q:Bool) (h:bB (nV m)=true):dH (kC q) opS (bY n) (dL 2 2 (nV m) Dt.zero)=(bZ1 n m q,0):=by
 unfold dH
 rw [rO2 h]
 refine (zn (by simp)).trans ?_
 refine (zn (show ¬(2:Int)=1 by decide)).trans ?_
 refine (zn (show ¬(2:Int)=8 by decide)).trans ?_
 cases q<;>kernel_rfl
theorem aFh (n m:Int) (q:Bool):dH (kC q) opS (bZ1 n m q) (dL 5 4 (nV 70000) Dt.zero)=(bZ n m q,0):=by cases q<;>kernel_rfl
theorem aAm :rV kB=true:=by kernel_rfl
theorem axQ (q:Bool):rV (kC q)=true:=by cases q<;>kernel_rfl
theorem baX :cE T.rightP opS bX=true:=by kernel_rfl
theorem aG6 {n:Int} (h:bB (nV n)=true):cE T.rightP opS (bY1 n)=true:=by
 have:=kE (w:=kB) (o:=dL 2 2 (nV n) Dt.zero) aAm baX (by rw [aFn h])
 rwa [aFn h] at this
theorem baY {n:Int} (h:bB (nV n)=true):cE T.rightP opS (bY n)=true:=by
 have:=kE (w:=kB) (o:=dL 4 4 (nV 70000) Dt.zero) aAm (aG6 h) (by rw [aEU])
 rwa [aEU] at this
theorem aHa {n m:Int} (q:Bool) (h:bB (nV n)=true) (hm:bB (nV m)=true):cE T.rightP opS (bZ1 n m q)=true:=by
 have:=kE (w:=kC q) (o:=dL 2 2 (nV m) Dt.zero) (axQ q) (baY h) (by rw [aEG n q hm])
 rwa [aEG n q hm] at this
theorem baZ {n m:Int} (q:Bool) (h:bB (nV n)=true) (hm:bB (nV m)=true):cE T.rightP opS (bZ n m q)=true:=by
 have:=kE (w:=kC q) (o:=dL 5 4 (nV 70000) Dt.zero) (axQ q) (aHa q h hm) (by rw [aFh])
 rwa [aFh] at this
theorem foY {n:Int} (h:bB (nV n)=true):cZ kB opS bX (afQ n)=(bY n,0):=by
 unfold afQ
 rw [iG,aFn h,zn (by simp),iG,aEU,zn (by simp)]
 rfl
theorem foZ {n m:Int} (q:Bool) (hm:bB (nV m)=true):cZ (kC q) opS (bY n) (acH m)=(bZ n m q,0):=by
 unfold acH
 rw [iG,aEG n q hm,zn (by simp),iG,aFh,zn (by simp)]
 rfl
theorem aEh {l:Ln} {v:Vl} {c:Int} (hb:cE T.rightP opS [⟨[l]⟩]=true) (hv:lC opC[2]! v=0) (hc:lC opC[4]! (nV c)=0) (hr:l.cells_.map bO=[nV 1,nV 5,v,nV 2,nV c,⟨2,0,abS⟩]):whyC opS [⟨[l]⟩]=0:=by
 unfold whyC mayC
 rw [jR,hb,zp (show (decide ((0:Int)=0)&&true)=true from rfl)]
 have hx:exR opT=λ_=>0:=rfl
 show dT (λk:Nat=>ckT exR [⟨[l]⟩] opS[k]! (eP bO [⟨[l]⟩] k)) [0]=0
 rw [nS]
 show ckT exR [⟨[l]⟩] opT [l.cells_.map bO]=0
 rw [hr]
 have ht:eG opT [nV 1,nV 5,v,nV 2,nV c,⟨2,0,abS⟩]=0:=by
  unfold eG
  refine (zp rfl).trans (fP.2 λj hj=> ?_)
  have hj:j<6:=List.mem_range.1 hj
  rcases (show j=0\/j=1\/j=2\/j=3\/j=4\/j=5 by omega) with rfl|rfl|rfl|rfl|rfl|rfl
  ·exact (show lC opC[0]! (nV 1)=0 by kernel_rfl)
  ·exact (show lC opC[1]! (nV 5)=0 by kernel_rfl)
  ·exact hv
  ·exact (show lC opC[3]! (nV 2)=0 by kernel_rfl)
  ·exact hc
  ·exact (show lC opC[5]! ⟨2,0,abS⟩=0 by kernel_rfl)
 unfold ckT
 rw [nS,ht,zn (by simp),zn (show ¬jM opT _=false by simp [jM,opT]),nS,hx,zn (by simp),zn (show ¬tI _ opT _=false by simp [tI,opT]),zn (show ¬vA opT _=false by simp [vA,opT])]
theorem aFZ {n:Int} (h:bB (nV n)=true):lC opC[2]! (nV n)=0:=by
 unfold lC
 rw [h,zn (by simp),zn (by rintro ⟨q,_⟩;exact absurd (show (1:Int)=0 from q) (by decide)),zn (by rintro ⟨_,q⟩;exact q rfl)]
theorem bs1 :bO ⟨3,Vl.zero,[ptN (nV 9) ⟨1,1⟩]⟩=nV 1:=by
 unfold bO yQ rD
 simp [afK]
 rfl
theorem bs2 :bO ⟨3,Vl.zero,[ptN (nV 9) ⟨1,1⟩,ptN (nV 70000) ⟨2,1⟩]⟩=nV 2:=by
 show yQ _=_
 unfold yQ
 rw [show rD ⟨3,Vl.zero,[ptN (nV 9) ⟨1,1⟩,ptN (nV 70000) ⟨2,1⟩]⟩=[9,70000] from by unfold rD;simp [ptN,nV,List.mergeSort,List.MergeSort.Internal.splitInTwo]]
 kernel_rfl
theorem ms1 (n:Int) (d:Dt):bO ⟨1,Vl.zero,[ptN (nV n) d]⟩=nV n:=by kernel_rfl
theorem ms2 (n m:Int) (d e:Dt):bO ⟨1,Vl.zero,[ptN (nV n) d,ptN (nV m) e]⟩=nV (max n m):=by
 show ((zO (zO [] (nV n)) (nV m)).getLast?).getD Vl.zero=nV (max n m)
 rw [show zO [] (nV n)=[nV n] from by kernel_rfl]
 have hl:fS (nV n) (nV m)=decide (n<m):=by
  unfold fS
  refine (zn (λq=>q rfl)).trans ?_
  by_cases e:n=m
  ·refine (zn (λq=>q e)).trans ?_
   rw [show Op.bytesLess (nV n).s.toList (nV m).s.toList=false from by kernel_rfl,decide_eq_false (by omega)]
  ·exact zp e
 have hg:fS (nV m) (nV n)=decide (m<n):=by
  unfold fS
  refine (zn (λq=>q rfl)).trans ?_
  by_cases e:m=n
  ·refine (zn (λq=>q e)).trans ?_
   rw [show Op.bytesLess (nV m).s.toList (nV n).s.toList=false from by kernel_rfl,decide_eq_false (by omega)]
  ·exact zp e
 have ha:atV [nV n] (nV m)=if n<m then 1 else 0:=by
  unfold atV
  simp only [List.findIdx?_cons,List.findIdx?_nil,hl]
  by_cases e:n<m<;>simp [e]
 unfold zO
 rw [ha]
 by_cases e:n<m
 ·rw [zp e,zn (by simp),show max n m=m from by omega]
  rfl
 ·rw [zn e,show max n m=n from by omega]
  have hx:∀(c:Prop) [Decidable c],((if c then [nV n] else dO [nV n] 0 [nV m]).getLast?).getD Vl.zero=nV n:=λc _=>by split<;>rfl
  exact hx _
theorem whX :whyC opS bX=0:=aEh baX (v:=Vl.zero) (c:=1) (by kernel_rfl) (by kernel_rfl) (by
 show [_,_,_,_,bO ⟨3,Vl.zero,[ptN (nV 9) ⟨1,1⟩]⟩,_]=_
 rw [bs1];kernel_rfl)
theorem whY {n:Int} (h:bB (nV n)=true):whyC opS (bY n)=0:=aEh (baY h) (v:=nV n) (c:=2) (aFZ h) (by kernel_rfl) (by
 show [_,_,_,_,bO ⟨3,Vl.zero,[ptN (nV 9) ⟨1,1⟩,ptN (nV 70000) ⟨2,1⟩]⟩,_]=_
 rw [bs2];kernel_rfl)
def amW (n m:Int) (q:Bool):Int:=if q=true then m else max n m
theorem shZ (n m:Int) (q:Bool):bO ⟨1,Vl.zero,aZ' n m q⟩=nV (amW n m q):=by
 cases q
 ·exact ms2 n m _ _
 ·exact ms1 m _
theorem whZ {n m:Int} (q:Bool) (h:bB (nV n)=true) (hm:bB (nV m)=true):whyC opS (bZ n m q)=0:=by
 have hv:bB (nV (amW n m q))=true:=by
  unfold amW
  split
  ·exact hm
  ·rw [show max n m=if n<=m then m else n from by split<;>omega];split<;>assumption
 have e1:=shZ n m q
 refine aEh (baZ q h hm) (v:=nV (amW n m q)) (c:=if q=true then 1 else 2) (aFZ hv) (by cases q<;>kernel_rfl) ?_
 cases q
 ·show [_,_,bO ⟨1,Vl.zero,aZ' n m false⟩,_,bO ⟨3,Vl.zero,[ptN (nV 9) ⟨1,1⟩,ptN (nV 70000) ⟨2,1⟩]⟩,_]=_
  rw [e1,bs2];kernel_rfl
 ·show [_,_,bO ⟨1,Vl.zero,aZ' n m true⟩,_,bO ⟨3,Vl.zero,[ptN (nV 9) ⟨1,1⟩]⟩,_]=_
  rw [e1,bs1];kernel_rfl
theorem alX :allP wA opS (aaA opS) aEY=(bX,0):=by
 unfold allP
 rw [aBn,zn (by simp),zn (by decide),stX,zn (by simp),whX,zn (by simp)]
theorem alY {n:Int} (h:bB (nV n)=true):allP kB opS bX (afQ n)=(bY n,0):=by
 unfold allP
 rw [gZ.2 ⟨jR,baX,aAm⟩,zn (by simp),zn (show ¬(afQ n).length>2000 by simp [afQ]),foY h,zn (by simp),whY h,zn (by simp)]
theorem alZ {n m:Int} (q:Bool) (h:bB (nV n)=true) (hm:bB (nV m)=true):allP (kC q) opS (bY n) (acH m)=(bZ n m q,0):=by
 unfold allP
 rw [gZ.2 ⟨jR,baY h,axQ q⟩,zn (by simp),zn (show ¬(acH m).length>2000 by simp [acH]),foZ q hm,zn (by simp),whZ q h hm,zn (by simp)]
theorem bXW :OpW 0 bX:=⟨by decide,λd hd=>by
 rw [zms.1 hd]
 refine ⟨by decide,λl hl=> ?_⟩
 rw [zms.1 hl]
 unfold LnW
 decide⟩
theorem aGP (a b:List Pt) (y:List Dt) (ha:a.length<=2) (hb:b.length<=2) (hy:y.length<=3):OpW 5 [⟨[lnK a b y]⟩]:=⟨by simp,λd hd=>by
 rw [zms.1 hd]
 refine ⟨by simp,λl hl=> ?_⟩
 rw [zms.1 hl]
 refine ⟨?_, ?_,λc hc=> ?_⟩
 ·show y.length<=_;omega
 ·show 6<=_;omega
 ·have hc:c∈[(⟨0,nV 1,[]⟩:Cl),⟨0,nV 5,[]⟩,⟨1,Vl.zero,a⟩,⟨2,nV 2,[]⟩,⟨3,Vl.zero,b⟩,⟨4,Vl.zero,[akI 97 0 Dt.zero 0 false,akI 98 1 ⟨1,1⟩ 0 false]⟩]:=hc
  simp only [zmc,List.not_mem_nil,or_false] at hc
  rcases hc with rfl|rfl|rfl|rfl|rfl|rfl<;>simp<;>omega⟩
theorem akS :PF Tryz.prog 18 [.agg (scC opS), .agg (bsC (aaA opS)), .seq [(rI 1 5).cells], .agg whoA.cells,agS] (.tup [.agg (bsC bX),(.val (.int .i64 0))]):=λst=>by
 have h:=qR (w:=wA) opS_K aE6 (l:=aEY) (by decide) (by decide) (λo ho=>by rw [zms.1 ho];exact mF.1 (by kernel_rfl)) st
 rw [alX] at h
 exact PC.wkArgs (.cons (zwr _) (.cons (zwr _) (.cons (zwr _) (.cons (zwr _) (.cons Wk.nil .nil))))) h
theorem aFL (a b:Int) (c d:Int) (v w:Vl):Wk (.seq [lH a b v Dt.zero,lH c d w Dt.zero]) (.seq ([dL a b v Dt.zero,dL c d w Dt.zero].map Ot.cells)):=aA2 rfl λx hx=>by
 have hx:x∈[(lH a b v Dt.zero,dL a b v Dt.zero),(lH c d w Dt.zero,dL c d w Dt.zero)]:=hx
 simp only [zmc,List.not_mem_nil,or_false] at hx
 rcases hx with rfl|rfl<;>exact anQ ..
theorem aDW (k c n:Int):zB (dL k c (nV n) Dt.zero):=mF.1 (by kernel_rfl)
theorem aAD {n:Int} (h:bB (nV n)=true):PF Tryz.prog 18 [.agg (scC opS), .agg (bsC bX), .seq [lH 2 2 (nV n) Dt.zero,lH 4 4 (nV 70000) Dt.zero], .agg kB.who.cells, .seq [I1 1]] (.tup [.agg (bsC (bY n)),(.val (.int .i64 0))]):=λst=>by
 have h:=qR (w:=kB) opS_K bXW (l:=afQ n) (by simp [afQ]) (by decide) (λo ho=>by
  simp only [afQ,zmc,List.not_mem_nil,or_false] at ho
  rcases ho with rfl|rfl<;>exact aDW ..) st
 rw [alY ‹_›] at h
 exact PC.wkArgs (.cons (zwr _) (.cons (zwr _) (.cons (show Wk _ (.seq ((afQ n).map Ot.cells)) from aFL 2 2 4 4 (nV n) (nV 70000)) (.cons (zwr _) (.cons (zwr _) .nil))))) h
theorem alM {n m:Int} (q:Bool) (hn:bB (nV n)=true) (hm:bB (nV m)=true):PF Tryz.prog 18 [.agg (scC opS), .agg (bsC (bY n)), .seq [lH 2 2 (nV m) Dt.zero,lH 5 4 (nV 70000) Dt.zero], .agg (kC q).who.cells, .seq ((knV q).map I1)] (.tup [.agg (bsC (bZ n m q)),(.val (.int .i64 0))]):=λst=>by
 have h:=qR (w:=kC q) opS_K (aGP [ptN (nV n) ⟨2,1⟩] [ptN (nV 9) ⟨1,1⟩,ptN (nV 70000) ⟨2,1⟩] [⟨1,1⟩,⟨2,1⟩] (by simp) (by simp) (by simp)) (l:=acH m) (by simp [acH]) (by cases q<;>decide) (λo ho=>by
  simp only [acH,zmc,List.not_mem_nil,or_false] at ho
  rcases ho with rfl|rfl<;>exact aDW ..) st
 rw [show allP (kC q) opS [⟨[lnK [ptN (nV n) ⟨2,1⟩] [ptN (nV 9) ⟨1,1⟩,ptN (nV 70000) ⟨2,1⟩] [⟨1,1⟩,⟨2,1⟩]]⟩] (acH m)=(bZ n m q,0) from alZ q hn hm] at h
 exact PC.wkArgs (.cons (zwr _) (.cons (zwr _) (.cons (show Wk _ (.seq ((acH m).map Ot.cells)) from aFL 2 2 5 4 (nV m) (nV 70000)) (.cons (zwr _) (.cons (zwr _) .nil))))) h
theorem alL (n m:Int) (q:Bool):PF Tryz.prog 24 [.agg (bsC (bZ n m q)),(.val (.int .i64 0)),(.val (.int .i64 1))] (.tup [.agg (lnZ n m q).cells,(.val (.bool true))]):=
 aaU (bZ n m q) 0 1 (λd hd=>by rw [zms.1 hd];simp)
theorem ajC (n m:Int) (q:Bool):PF Tryz.prog 30 [.agg (Cl.mk 1 Vl.zero (aZ' n m q)).cells] (.agg (nV (amW n m q)).cells):=by
 have h:=arQ ⟨1,Vl.zero,aZ' n m q⟩ (by cases q<;>simp [aZ'])
 unfold auT at h
 rwa [shZ] at h
theorem agM (hA:PF Tryz.prog 15 [] (.val (.bool true))) {n m:Int} (n0:0<=n) (n1:n<=65535) (m0:0<=m) (m1:m<=65535) (q:Bool):PF Tryz.prog 8 [(.val (.int .u16 n)),(.val (.int .u16 m)),(.val (.bool q))] (.val (.bool true)):=by
 have hn:=vRn n0 n1
 have hm:=vRn m0 m1
 have hN:=alT opS (by decide)
 have i1:=aaW 1 5
 have u1:=cN n
 have u2:=cN m
 have u3:=cN 70000
 have u4:=cN (max n m)
 have w1:=aAD hn
 cases q
 ·have w2:=alM false hn hm
  have w3:=alL n m false
  have w4:=ajC n m false
  refine aG aF Tryz.func8 (by kernel_rfl) rfl rfl rfl rfl (λst=> ?_)
  (try apply wO pk;rfl);(repeat' first|show Cn _;constructor|apply wC pk;rfl;rfl|apply wE pk;rfl;rfl|apply wX pk;rfl|apply wN pk;rfl|apply wD pk [] [];kernel_rfl;rfl;rfl|apply gD;simp only [zqt,zqf]|refine aB rfl ?_ ?_<;>intro h<;>(try simp at h)<;>try omega|(refine aC ?_;refine ⟨_,_,_,rfl,zwr _,zsr _, ?_,rfl⟩;try first|rfl|(simp [aZ',sZ',amW];done);done)|(apply aH;rfl;rfl;rfl;(intro _;(first|apply hA|apply nF|apply hN|apply i1|apply u1|apply u2|apply u3|apply u4|apply akS|apply w1|apply w2|apply w3|apply w4)<;>first|assumption|omega);rotate_left;rfl;rfl)|apply aP pk;(iterate 6 rfl);rotate_left;rfl;(first|(intro hw;rfl);(intro hw;apply (rfl:((lnZ n m false).cells_.map Cl.cells)[2]?=some (Cl.mk 1 Vl.zero (aZ' n m false)).cells)<;>omega);(intro _;rfl)|(intro hw;rfl);(intro hw;apply (rfl:((lnZ n m false).cells_.map Cl.cells)[4]?=some (Cl.mk 3 Vl.zero (sZ' false)).cells)<;>omega);(intro _;rfl));rfl|apply cvA pk.htt;(iterate 5 rfl);(refine ⟨?_, ?_⟩<;>omega);rfl|apply cvG pk.htt;(iterate 4 rfl);(refine ⟨?_, ?_⟩<;>omega);(first|exact ⟨λ_=>rfl,trivial⟩|exact ⟨λh=>h,trivial⟩);rfl;rfl|intros;(try simp only [zql]);omega|exfalso;revert h;simp [lnZ,lnK];done)
 ·have w2:=alM true hn hm
  have w3:=alL n m true
  have w4:=ajC n m true
  refine aG aF Tryz.func8 (by kernel_rfl) rfl rfl rfl rfl (λst=> ?_)
  (try apply wO pk;rfl);(repeat' first|show Cn _;constructor|apply wC pk;rfl;rfl|apply wE pk;rfl;rfl|apply wX pk;rfl|apply wN pk;rfl|apply wD pk [] [];kernel_rfl;rfl;rfl|apply gD;simp only [zqt,zqf]|refine aB rfl ?_ ?_<;>intro h<;>(try simp at h)<;>try omega|(refine aC ?_;refine ⟨_,_,_,rfl,zwr _,zsr _, ?_,rfl⟩;try first|rfl|(simp [aZ',sZ',amW];done);done)|(apply aH;rfl;rfl;rfl;(intro _;(first|apply hA|apply nF|apply hN|apply i1|apply u1|apply u2|apply u3|apply u4|apply akS|apply w1|apply w2|apply w3|apply w4)<;>first|assumption|omega);rotate_left;rfl;rfl)|apply aP pk;(iterate 6 rfl);rotate_left;rfl;(first|(intro hw;rfl);(intro hw;apply (rfl:((lnZ n m true).cells_.map Cl.cells)[2]?=some (Cl.mk 1 Vl.zero (aZ' n m true)).cells)<;>omega);(intro _;rfl)|(intro hw;rfl);(intro hw;apply (rfl:((lnZ n m true).cells_.map Cl.cells)[4]?=some (Cl.mk 3 Vl.zero (sZ' true)).cells)<;>omega);(intro _;rfl));rfl|apply cvA pk.htt;(iterate 5 rfl);(refine ⟨?_, ?_⟩<;>omega);rfl|apply cvG pk.htt;(iterate 4 rfl);(refine ⟨?_, ?_⟩<;>omega);(first|exact ⟨λ_=>rfl,trivial⟩|exact ⟨λh=>h,trivial⟩);rfl;rfl|intros;(try simp only [zql]);omega|exfalso;revert h;simp [lnZ,lnK];done)
end Go.Proofs.YtloecjjehapblaaGreatDoor
