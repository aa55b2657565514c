import Derived.Test.YtloecjjehapblaaGreatDoorOpAt
import Derived.Test.YtloecjjehapblaaGreatDoorOpAm
import Derived.Test.YtloecjjehapblaaGreatDoorOpAu
set_option linter.unusedSimpArgs false
set_option linter.unusedVariables false
namespace Go.Proofs.YtloecjjehapblaaGreatDoor
open Go Go.Abs
attribute [local irreducible] Ev PWp
set_option maxRecDepth 10000
set_option maxHeartbeats 4000000
def opC :List Co:=[aFN,⟨⟨#[110]⟩,0,1,false⟩,⟨⟨#[109]⟩,1,1,true⟩,⟨⟨#[99]⟩,2,1,false⟩,aGw,⟨⟨#[116]⟩,4,2,false⟩]
def opT :Tb:=⟨⟨#[97]⟩,opC,[],[],[],[]⟩
def opS :Sc:=[opT]
theorem aFS :Wk (.agg [.seq [[.val (.string ⟨#[97]⟩), .seq (opC.map Co.cells),amP,amP,amP,amP]]]) (.agg (scC opS)):=
 Wk.agg (.cons (aGS rfl λx hx=>by
  rw [zms.1 hx]
  exact .cons (zwr _) (.cons (zwr _) (.cons Wk.nil (.cons Wk.nil (.cons Wk.nil (.cons Wk.nil .nil)))))) .nil)
theorem afY :PF Tryz.prog 26 [] (.agg (scC opS)):=by
 refine aG aD Tryz.func26 (by kernel_rfl) rfl rfl rfl rfl (λst=> ?_)
 (try apply wO pk;rfl);(repeat' first|refine aB ?_;exact ⟨_,_,_,rfl,aFS,zsr _,rfl,rfl⟩|show Cn _;constructor)
theorem dX (n:Int):PF Tryz.prog 29 [(.val (.int .i64 n))] (.agg (nV n).cells):=by
 refine aG aD Tryz.func29 (by kernel_rfl) rfl rfl rfl rfl (λst=> ?_)
 (try apply wO pk;rfl);(repeat' first|show Cn _;constructor|(refine aB ?_;refine ⟨_,_,_,rfl,zwr _,zsr _, ?_,rfl⟩;try rfl))
def abS :ByteArray:=⟨#[97,98]⟩
def wY (k n:Int):Ot:=⟨1,0,0,0,[nV k,nV n,Vl.zero,nV 2,nV 9,⟨2,0,abS⟩],Vl.zero,Dt.zero,0⟩
theorem aqF (k n:Int):PF Tryz.prog 28 [(.val (.int .i64 k)),(.val (.int .i64 n))] (.agg (wY k n).cells):=by
 have h1:=dX k
 have h2:=dX n
 have h3:=dX 2
 have h4:=dX 9
 refine aG aD Tryz.func28 (by kernel_rfl) rfl rfl rfl rfl (λst=> ?_)
 (try apply wO pk;rfl);(repeat' first|show Cn _;constructor|apply wE pk;rfl;rfl|(refine aB ?_;refine ⟨_,_,_,rfl,zwr _,zsr _, ?_,rfl⟩;try rfl)|(apply aH;rfl;rfl;rfl;(intro _;(first|apply h1|apply h2|apply h3|apply h4)<;>first|assumption|omega);rotate_left;rfl;rfl))
def kN (kind col:Int) (v:Vl) (d:Dt):Ot:=⟨kind,0,1,col,[],v,d,0⟩
def tV (kind col:Int) (v:Vl) (d:Dt):List PV:=[(PV.val (Value.int .i64 (kind))),(PV.val (Value.int .i64 (0))),(PV.val (Value.int .i64 (1))),(PV.val (Value.int .i64 (col))),amP,(PV.val (Value.int .i64 (v.kind))),(PV.val (Value.int .i64 (v.n))),(PV.val (Value.string (v.s))),(PV.val (Value.int .i64 (d.dev))),(PV.val (Value.int .i64 (d.seq))),(PV.val (Value.int .i64 (0)))]
theorem aAI (kind col:Int) (v:Vl) (d:Dt):WkL (tV kind col v d) (kN kind col v d).cells:= .cons (zwr _) (.cons (zwr _) (.cons (zwr _) (.cons (zwr _) (.cons Wk.nil (.cons (zwr _) (.cons (zwr _) (.cons (zwr _) (.cons (zwr _) (.cons (zwr _) (.cons (zwr _) .nil))))))))))
theorem aFj {A:List (List PV)} {l:List Ot} (hl:A.length=l.length) (h:∀x∈A.zip l,WkL x.1 x.2.cells):Wk (.seq A) (.seq (l.map Ot.cells)):=by
 have:=Wk.rows (f:=Prod.fst) (k:=λx:List PV×Ot=>x.2.cells) (l:=A.zip l) h
 rw [List.map_fst_zip (by omega)] at this
 rwa [show (A.zip l).map (λx:List PV×Ot=>x.2.cells)=l.map Ot.cells from by rw [show (λx:List PV×Ot=>x.2.cells)=Ot.cells∘Prod.snd from rfl,<-List.map_map,List.map_snd_zip (by omega)]] at this
def opsA :List Ot:=[wY 1 5,kN 2 1 (nV 7) Dt.zero,kN 2 2 (nV 3) Dt.zero,kN 3 3 (nV (-5)) Dt.zero,kN 4 4 (nV 8) Dt.zero,kN 5 4 (nV 9) Dt.zero,kN 7 5 Vl.zero ⟨1,1⟩]
def aFF :List (List PV):=[(wY 1 5).cells,tV 2 1 (nV 7) Dt.zero,tV 2 2 (nV 3) Dt.zero,tV 3 3 (nV (-5)) Dt.zero,tV 4 4 (nV 8) Dt.zero,tV 5 4 (nV 9) Dt.zero,tV 7 5 Vl.zero ⟨1,1⟩]
theorem aFl :Wk (.seq aFF) (.seq (opsA.map Ot.cells)):=aFj rfl λx hx=>by
 have hx:x∈[((wY 1 5).cells,wY 1 5),(tV 2 1 (nV 7) Dt.zero,kN 2 1 (nV 7) Dt.zero),(tV 2 2 (nV 3) Dt.zero,kN 2 2 (nV 3) Dt.zero),(tV 3 3 (nV (-5)) Dt.zero,kN 3 3 (nV (-5)) Dt.zero),(tV 4 4 (nV 8) Dt.zero,kN 4 4 (nV 8) Dt.zero),(tV 5 4 (nV 9) Dt.zero,kN 5 4 (nV 9) Dt.zero),(tV 7 5 Vl.zero ⟨1,1⟩,kN 7 5 Vl.zero ⟨1,1⟩)]:=hx
 simp only [zmc,List.not_mem_nil,or_false] at hx
 rcases hx with rfl|rfl|rfl|rfl|rfl|rfl|rfl
 ·exact WkL.refl _
 all_goals exact aAI ..
def whoA :T.Sp:=⟨1,1,1⟩
def wA :Wr:=⟨whoA,[]⟩
def aDz (n:Int) (at_:Int) (after:Dt) (aat:Int) (gone:Bool):Pt:=⟨⟨1,n,e0⟩,⟨1,1⟩,at_,1,after,aat,gone⟩
def lnA :Ln:=⟨1,[⟨0,nV 1,[]⟩,⟨0,nV 7,[]⟩,⟨1,Vl.zero,[ptN (nV 3) ⟨1,1⟩]⟩,⟨2,nV (-3),[]⟩,⟨3,Vl.zero,[ptN (nV 8) ⟨1,1⟩]⟩,⟨4,Vl.zero,[aDz 97 0 Dt.zero 0 true,aDz 98 1 ⟨1,1⟩ 0 false]⟩],[⟨1,1⟩]⟩
def bA :Bs:=[⟨[lnA]⟩]
theorem aBv :ScB opS:=λt ht=>by
 rw [zms.1 ht]
 constructor<;>simp [opT,opC]
theorem opS_K :ScK opS:=⟨aBv,by decide,λt ht=>by rw [zms.1 ht];decide,λt ht c hc=>by rw [zms.1 ht] at hc;cases hc⟩
theorem uT :rightC opS=0:=by
 unfold rightC
 rw [zp (by kernel_rfl)]
 rfl
theorem aF8 :fJ dB bA 0=[[nV 1,nV 7,nV 3,nV (-3),nV 1,⟨2,0,⟨#[98]⟩⟩]]:=by
 have h3:dB ⟨3,Vl.zero,[ptN (nV 8) ⟨1,1⟩]⟩=nV 1:=by
  unfold dB arM zU
  simp [ajO]
  rfl
 show [[dB ⟨0,nV 1,[]⟩,dB ⟨0,nV 7,[]⟩,dB ⟨1,Vl.zero,[ptN (nV 3) ⟨1,1⟩]⟩,dB ⟨2,nV (-3),[]⟩,dB ⟨3,Vl.zero,[ptN (nV 8) ⟨1,1⟩]⟩,dB ⟨4,Vl.zero,[aDz 97 0 Dt.zero 0 true,aDz 98 1 ⟨1,1⟩ 0 false]⟩]]=_
 rw [h3]
 kernel_rfl
theorem aGP :whyC opS bA=0:=by
 unfold whyC mayC
 rw [uT,show cH T.rightP opS bA=true from by kernel_rfl]
 rw [zp (show (decide ((0:Int)=0)&&true)=true from rfl)]
 have hx:exR opT=λ_=>0:=rfl
 show eA (λk:Nat=>ckT exR bA opS[k]! (fJ dB bA k)) [0]=0
 rw [show ∀f:Nat->Int,eA f [0]=if f 0=0 then 0 else f 0 from λf=>by unfold eA;by_cases h:f 0=0<;>simp [h]]
 have e:ckT exR bA opS[0]! (fJ dB bA (0:Nat))=0:=by
  show ckT exR bA opT (fJ dB bA 0)=0
  rw [aF8]
  unfold ckT
  rw [hx]
  kernel_rfl
 rw [e];rfl
theorem aGp :bY wA opS (awA opS) opsA=(bA,0):=by kernel_rfl
theorem aFo :rightW wA opS (awA opS)=true:=dQ.2 ⟨uT,by kernel_rfl,by kernel_rfl⟩
theorem asZ :rightW wA opS bA=true:=dQ.2 ⟨uT,by kernel_rfl,by kernel_rfl⟩
theorem aGQ :allP wA opS (awA opS) opsA=(bA,0):=by
 unfold allP
 rw [aFo,zn (by simp),zn (by decide),aGp,zn (by simp),aGP,zn (by simp)]
theorem aGF :doP wA opS bA (wY 1 5)=([],8):=by
 unfold doP
 rw [asZ,zp rfl]
 kernel_rfl
theorem aGT :doP wA opS bA (kN 8 0 Vl.zero Dt.zero)=([⟨[]⟩],0):=by
 unfold doP
 rw [asZ,zp rfl]
 kernel_rfl
theorem aGf :OpW 0 (awA opS):=⟨by decide,λd hd=>by
 have hd:d∈[(⟨[]⟩:Da)]:=hd
 rw [zms.1 hd]
 exact ⟨by decide,λl hl=>by cases hl⟩⟩
theorem bAW :OpW 0 bA:=⟨by decide,λd hd=>by
 have hd:d∈[(⟨[lnA]⟩:Da)]:=hd
 rw [zms.1 hd]
 refine ⟨by decide,λl hl=> ?_⟩
 have hl:l∈[lnA]:=hl
 rw [zms.1 hl]
 unfold LnW
 decide⟩
theorem aGI :∀o∈opsA,rN o:=λo ho=>gX.1 (by
 have:opsA.all fE=true:=by kernel_rfl
 exact zal.1 this o ho)
theorem axC :PF Tryz.prog 18 [.agg (scC opS), .agg (bsC (awA opS)), .seq aFF, .agg whoA.cells,amP] (.tup [.agg (bsC bA),(.val (.int .i64 0))]):=λst=>by
 have h:=aeL (w:=wA) opS_K aGf (l:=opsA) (by decide) (by decide) aGI st
 rw [aGQ] at h
 exact PC.wkArgs (.cons (zwr _) (.cons (zwr _) (.cons aFl (.cons (zwr _) (.cons Wk.nil .nil))))) h
theorem axO :PF Tryz.prog 21 [.agg (scC opS), .agg (bsC bA), .agg (wY 1 5).cells, .agg whoA.cells,amP] (.tup [.agg (bsC []),(.val (.int .i64 8))]):=λst=>by
 have h:=kY (w:=wA) (o:=wY 1 5) opS_K (n:=0) (b:=bA) ⟨aBv,by decide,bAW,by decide,by decide,gX.1 (by kernel_rfl)⟩ st
 rw [aGF] at h
 exact PC.wkArgs (.cons (zwr _) (.cons (zwr _) (.cons (zwr _) (.cons (zwr _) (.cons Wk.nil .nil))))) h
theorem auZ :PF Tryz.prog 21 [.agg (scC opS), .agg (bsC bA), .agg (tV 8 0 Vl.zero Dt.zero), .agg whoA.cells,amP] (.tup [.agg (bsC [⟨[]⟩]),(.val (.int .i64 0))]):=λst=>by
 have h:=kY (w:=wA) (o:=kN 8 0 Vl.zero Dt.zero) opS_K (n:=0) (b:=bA) ⟨aBv,by decide,bAW,by decide,by decide,gX.1 (by kernel_rfl)⟩ st
 rw [aGT] at h
 exact PC.wkArgs (.cons (zwr _) (.cons (zwr _) (.cons (.agg (aAI ..)) (.cons (zwr _) (.cons Wk.nil .nil))))) h
theorem ahC (a b:List Vl) (ha:a.length<1000000000000):PF Tryz.prog 50 [.seq (a.map Vl.cells), .seq (b.map Vl.cells)] (.val (.bool (decide (a=b)))):=by
 by_cases hl:a.length=b.length
 ·have hno:∀j (h1:j<a.length) (h2:j<b.length),a[j]≠b[j]->decide (a=b)=false:=λj h1 h2 q=>decide_eq_false λe=>by subst e;exact q rfl
  have hyes:(∀j (h1:j<a.length) (h2:j<b.length),a[j]=b[j])->decide (a=b)=true:=λq=>decide_eq_true (List.ext_getElem hl λj h1 h2=>q j h1 h2)
  generalize decide (a=b)=D at*
  refine aG aD Tryz.func50 (by kernel_rfl) rfl rfl rfl rfl (λst=> ?_)
  focus ((try apply wO pk;rfl);(repeat' first|show Cn _;constructor|apply wC pk;rfl;rfl|refine aA rfl ?_ ?_<;>intro h<;>(try simp at h)<;>try omega))
  refine aK (X:={x:Nat//x<=a.length/\∀j (h1:j<a.length) (h2:j<b.length),j<x->a[j]=b[j]}) (λi=>((((St.nil 26 st).pv 0 (.seq (a.map Vl.cells))).pv 1 (.seq (b.map Vl.cells))).pv 5 ((PV.val (Value.int .i64 ((i.1:Nat))))))) (λi=>a.length-i.1) ⟨0,by omega,by omega⟩ ?_ (λi=> ?_)
  ·((repeat refine Sub.pv ?_ rfl);exact Sub.nil _ _ _ (zsr _) rfl)
  obtain ⟨i,hi,hI⟩:=i
  dsimp only
  by_cases hend:a.length<=i
  ·have e:=hyes λj h1 h2=>hI j h1 h2 (by omega)
   (try apply wO pk;rfl);(repeat' first|show Cn _;constructor|apply wC pk;rfl;rfl|refine aA rfl ?_ ?_<;>intro h<;>(try simp at h)<;>try omega|(refine aB ?_;refine ⟨_,_,_,rfl,zwr _,zsr _, ?_,rfl⟩;try first|rfl|(rw [e]);done))
  have h1:i<a.length:=by omega
  have h2:i<b.length:=by omega
  have hx:=Vl.ext_iff a[i] b[i]
  have hno:=hno i h1 h2
  have hup:a[i]=b[i]->∀j (h1:j<a.length) (h2:j<b.length),j<i+1->a[j]=b[j]:=λe j q1 q2 hj=>by
   rcases zls.1 hj with z|z
   ·exact hI j q1 q2 z
   ·subst z;exact e
  by_cases he:a[i]=b[i]
  ·have hup:=hup he
   obtain ⟨x1,x2,x3⟩:=hx.1 he
   (try apply wO pk;rfl);(repeat' first|show Cn _;constructor|apply wC pk;rfl;rfl|apply wE pk;rfl;rfl|apply wD pk [] [];kernel_rfl;rfl;rfl|refine aA rfl ?_ ?_<;>intro h<;>(try simp at h)<;>try omega|(refine aB ?_;refine ⟨_,_,_,rfl,zwr _,zsr _, ?_,rfl⟩;try rfl)|apply aO pk;(iterate 6 rfl);rotate_left;rfl;(intro hw;rfl);(intro hw;apply aI<;>omega);(intro _;rfl);rfl|refine ⟨⟨i+1,by omega,hup⟩, ?_,by simp only;omega⟩;((repeat refine Sub.pv ?_ rfl);exact Sub.nil _ _ _ (zsr _) rfl)|intros;(try simp only [zql]);omega|exfalso;simp_all;done)
  ·have e:=hno he
   rw [hx] at he
   (try apply wO pk;rfl);(repeat' first|show Cn _;constructor|apply wC pk;rfl;rfl|apply wE pk;rfl;rfl|apply wD pk [] [];kernel_rfl;rfl;rfl|refine aA rfl ?_ ?_<;>intro h<;>(try simp at h)<;>try omega|(refine aB ?_;refine ⟨_,_,_,rfl,zwr _,zsr _, ?_,rfl⟩;try first|rfl|(rw [e]);done)|apply aO pk;(iterate 6 rfl);rotate_left;rfl;(intro hw;rfl);(intro hw;apply aI<;>omega);(intro _;rfl);rfl|intros;(try simp only [zql]);omega|exfalso;simp_all;done)
 ·rw [decide_eq_false (λe=>hl (by rw [e]))]
  refine aG aD Tryz.func50 (by kernel_rfl) rfl rfl rfl rfl (λst=> ?_)
  (try apply wO pk;rfl);(repeat' first|show Cn _;constructor|apply wC pk;rfl;rfl|refine aA rfl ?_ ?_<;>intro h<;>(try simp at h)<;>try omega|(refine aB ?_;refine ⟨_,_,_,rfl,zwr _,zsr _, ?_,rfl⟩;try rfl))
def rwA :List Vl:=[nV 1,nV 7,nV 3,nV (-3),nV 1,⟨2,0,⟨#[98]⟩⟩]
theorem nQ :PF Tryz.prog 15 [] (.val (.bool true)):=by
 have hN:=aCf opS (by decide)
 have n1:=dX 7
 have n2:=dX 3
 have n3:=dX (-5)
 have n4:=dX 8
 have n5:=dX 9
 have n6:=dX 1
 have n7:=dX (-3)
 have i1:=aqF 1 5
 have hB1:CkB 200 opS bA:=opS_K.ck (bAW.S (by omega)) (by omega)
 have s1:=pG hB1 (k:=0) (by decide)
 rw [show fJ dB bA ((0:Nat):Int)=[rwA] from aF8] at s1
 have hB2:CkB 200 opS [⟨[]⟩]:=opS_K.ck ((aGf).S (by omega)) (by omega)
 have s2:=pG hB2 (k:=0) (by decide)
 have hs:=ahC rwA rwA (by decide)
 rw [decide_eq_true rfl] at hs
 refine aG aD Tryz.func15 (by kernel_rfl) rfl rfl rfl rfl (λst=> ?_)
 (try apply wO pk;rfl);(repeat' first|show Cn _;constructor|apply wC pk;rfl;rfl|apply wE pk;rfl;rfl|apply wD pk [] [];kernel_rfl;rfl;rfl|refine aA rfl ?_ ?_<;>intro h<;>(try simp at h)<;>try omega|(refine aB ?_;refine ⟨_,_,_,rfl,zwr _,zsr _, ?_,rfl⟩;try rfl)|(apply aH;rfl;rfl;rfl;(intro _;(first|apply afY|apply hN|apply n1|apply n2|apply n3|apply n4|apply n5|apply n6|apply n7|apply i1|apply axC|apply axO|apply auZ|apply s1|apply s2|apply hs)<;>first|assumption|omega);rotate_left;rfl;rfl)|apply aO pk;(iterate 6 rfl);rotate_left;rfl;(first|(intro hw;rfl);(intro hw;apply (rfl:([rwA].map roC)[0]?=some (roC rwA))<;>omega);(intro _;rfl)|(intro hw;rfl);(intro hw;apply (rfl:(bA.map Da.cells)[0]?=some (Da.cells ⟨[lnA]⟩))<;>omega);(intro _;rfl)|(intro hw;rfl);(intro hw;apply (rfl:([lnA].map Ln.cells)[0]?=some lnA.cells)<;>omega);(intro _;rfl));rfl|((exfalso;simp [bA,rwA] at h;done)))
end Go.Proofs.YtloecjjehapblaaGreatDoor
namespace Go.Proofs.YtloecjjehapblaaGreatDoor
open Go Go.Abs Go.ChangeShapes Go.WideShapes Go.ChangeAt Go.RowKit
set_option maxRecDepth 10000
theorem auD {N n:Nat} {ps:List PV} (h:bK Tryz.prog N n 47 ps):∃v:T.Sp,ps=v.cells:=by
 obtain ⟨m,pss,_,rfl,h2⟩:=cA aD rfl h
 cases h2 with|cons ha h2=>cases h2 with|cons hb h2=>cases h2 with|cons hc h2=>cases h2 with|nil=>
 obtain ⟨a,rfl,_⟩:=bL aD rfl ha
 obtain ⟨b,rfl,_⟩:=bL aD rfl hb
 obtain ⟨c,rfl,_⟩:=bL aD rfl hc
 exact ⟨⟨a,b,c⟩,rfl⟩
def OpN (o:Ot):Prop:=o.row.length<200000000000000
theorem aEx {n:Nat} {ps:List PV} (h:bK Tryz.prog reachBytes n 61 ps):∃o:Ot,ps=o.cells/\OpN o:=by
 obtain ⟨m,pss,_,rfl,h2⟩:=cA aD rfl h
 cases h2 with|cons h0 h2=>cases h2 with|cons h1 h2=>cases h2 with|cons h3 h2=>cases h2 with|cons h4 h2=>cases h2 with|cons h5 h2=>cases h2 with|cons h6 h2=>cases h2 with|cons h7 h2=>cases h2 with|cons h8 h2=>cases h2 with|nil=>
 obtain ⟨k,rfl,_⟩:=bL aD rfl h0
 obtain ⟨t,rfl,_⟩:=bL aD rfl h1
 obtain ⟨y,rfl,_⟩:=bL aD rfl h3
 obtain ⟨c,rfl,_⟩:=bL aD rfl h4
 obtain ⟨_,rows,_,rfl,lr,hr⟩:=cK aD rfl h5
 obtain ⟨r,rfl,hl,_⟩:=wP (f:=Vl.cells) (Q:=λ_=>True) λx hx=>by
  obtain ⟨v,e⟩:=akC (hr x hx);exact ⟨v,e,trivial⟩
 obtain ⟨v,rfl⟩:=akC h6
 obtain ⟨d,rfl⟩:=arP h7
 obtain ⟨a,rfl,_⟩:=bL aD rfl h8
 have h:reachBytes<200000000000000:=by decide
 exact ⟨⟨k,t,y,c,r,v,d,a⟩,rfl,by show r.length<_;omega⟩
theorem anM {n:Nat} {ps:List PV} (h:bK Tryz.prog reachBytes n 61 ps):∃v:{o:Ot//OpN o},ps=v.1.cells:=by
 obtain ⟨o,e,h⟩:=aEx h
 exact ⟨⟨o,h⟩,e⟩
theorem aE4 {n:Nat} {ps:List PV} (h:bK Tryz.prog reachBytes n 45 ps):∃v:{l:List Ot//l.length<200000000000000/\∀o∈l,OpN o},ps=[.seq (v.1.map Ot.cells)]:=by
 obtain ⟨_,rows,_,rfl,lr,hr⟩:=cK aD rfl h
 obtain ⟨l,rfl,hl,hq⟩:=wP (f:=Ot.cells) λx hx=>aEx (hr x hx)
 have h:reachBytes<200000000000000:=by decide
 exact ⟨⟨l,by omega,hq⟩,rfl⟩
theorem atC {n:Nat} {ps:List PV} (h:bK Tryz.prog reachBytes n 48 ps):∃v:{l:List Int//l.length<200000000000000},ps=[.seq (v.1.map I1)]:=by
 obtain ⟨_,rows,_,rfl,lr,hr⟩:=cK aD rfl h
 obtain ⟨l,rfl,hl,_⟩:=wP (f:=I1) (Q:=λ_=>True) λx hx=>by
  obtain ⟨v,e,_⟩:=bL aD rfl (hr x hx);exact ⟨v,e,trivial⟩
 have h:reachBytes<200000000000000:=by decide
 exact ⟨⟨l,by omega⟩,rfl⟩
end Go.Proofs.YtloecjjehapblaaGreatDoor
