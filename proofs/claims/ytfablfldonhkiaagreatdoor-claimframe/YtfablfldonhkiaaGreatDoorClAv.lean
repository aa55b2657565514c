import Derived.Test.YtfablfldonhkiaaGreatDoorClAu
import Derived.Test.YtfablfldonhkiaaGreatDoorClAl
import Derived.Test.YtfablfldonhkiaaGreatDoorClAk
import Derived.Test.YtfablfldonhkiaaGreatDoorClAh
import Derived.Test.YtfablfldonhkiaaGreatDoorClAg
set_option linter.unusedSimpArgs false
set_option linter.unusedVariables false
namespace Go.Proofs.YtfablfldonhkiaaGreatDoor
open Go Go.Abs
section
attribute [local irreducible] Ev PWp
set_option maxRecDepth 10000
set_option maxHeartbeats 4000000
theorem aIk {l:Ln} {u:Int} (h0:0<=u) (a:u<l.cells_.length) (hk:fS l u):ptP l u=if (l.cells_.map bP)[u.toNat]!.kind=1 then some (l.cells_.map bP)[u.toNat]!.n else none:=by
 obtain ⟨c,rfl⟩:∃c:Nat,u=c:=⟨u.toNat,by omega⟩;have hc:c<l.cells_.length:=by omega
 have hs:bP l.cells_[c]=l.cells_[c].val:=by unfold bP;rw [zp (hk c hc rfl)]
 rw [akA hc,Int.toNat_natCast,getElem!_pos (l.cells_.map bP) c (by rw [zql];exact hc),List.getElem_map,hs]
theorem aIe {s:Sc} {b:Bs} (hb:aV T.rightP s b=true) {k:Nat} (hk:k<s.length) {u:Int} (hu:akY s k u) {l:Ln} (hl:l∈aF b (k:Int)):u<l.cells_.length/\cF (l.cells_.map bP)[u.toNat]! =true:=by
 have hL:=vD hb hk hl;have c:=hL.len;obtain ⟨e,f,d⟩:=hu;have hj:u.toNat<l.cells_.length:=by omega
 have a:l.cells_[u.toNat].kind=0:=by rw [hL.kind _ hj];exact d
 have hs:bP l.cells_[u.toNat]=l.cells_[u.toNat].val:=by unfold bP;rw [zp a]
 refine ⟨by omega, ?_⟩;rw [getElem!_pos (l.cells_.map bP) _ (by rw [zql];exact hj),List.getElem_map,hs];have hc:=hL.cell _ (zgm hj);unfold jM at hc;rw [zp a,zba] at hc;exact hc.1
section
variable (hA:PF Tryz.prog 7 [] (vb (true)))
include hA
end
end
section
attribute [local irreducible] Ev PWp
set_option maxRecDepth 10000
set_option maxHeartbeats 4000000
def cxP :Co:=⟨⟨#[112]⟩,0,1,true⟩
def cxU :Co:=⟨⟨#[117]⟩,0,1,false⟩
def cxN :Co:=⟨⟨#[110]⟩,0,1,false⟩
def cxA :Tb:=⟨⟨#[97]⟩,[colId],[],[],[],[]⟩
def cxB :Tb:=⟨⟨#[98]⟩,[colId,cxP,cxU,cxN],[2],[],[⟨1,0,1⟩],[⟨3,1,9⟩]⟩
def cxS :Sc:=[cxA,cxB]
def aIg :List PV:=[.seq [[.val (.string ⟨#[97]⟩), .seq [colId.cells],yO,yO,yO,yO],[.val (.string ⟨#[98]⟩), .seq ([colId,cxP,cxU,cxN].map Co.cells), .seq [[(vi (2))]],yO, .seq [[(vi (1)),(vi (0)),(vi (1))]], .seq [[(vi (3)),(vi (1)),(vi (9))]]]]]
theorem aCt :Wk (.agg aIg) (.agg (scC cxS)):=
 Wk.agg (.cons (wk2 (.cons (zwr _) (.cons (zwr _) (.cons Wk.nil (.cons Wk.nil (.cons Wk.nil (.cons Wk.nil .nil)))))) (.cons (zwr _) (.cons (zwr _) (.cons (zwr _) (.cons Wk.nil (.cons (zwr _) (.cons (zwr _) .nil))))))) .nil)
theorem lX (n:Int):PF Tryz.prog 25 [(vi (n))] (.agg (nV n).cells):=by
 refine pF Tryz.func25 rfl (λst=> ?_)
 (repeat' first|apply wZ;rfl|show Cn _;constructor|exact rfl)
def cxC (n:Int):Cl:=⟨0,nV n,[]⟩
def cxL :Ln:=⟨3,[cxC 3],[]⟩
def aKj :List PV:=[(vi (3)), .seq [[(vi (0)),(vi (1)),(vi (3)),(vs (e0)),yO]],yO]
theorem aJg :Wk (.agg aKj) (.agg cxL.cells):=Wk.agg (.cons (zwr _) (.cons (wk1 (.cons (zwr _) (.cons (zwr _) (.cons (zwr _) (.cons (zwr _) (.cons Wk.nil .nil)))))) (.cons Wk.nil .nil)))
def cx0 :Bs:=[⟨[cxL]⟩,⟨[]⟩]
theorem aoA :PF Tryz.prog 24 [] (.tup [.agg (scC cxS), .agg (bsC cx0)]):=by
 have a:PF Tryz.prog 56 [.agg aIg] (.agg (bsC (aF6 cxS))):=λst=>PC.wkArgs (.cons aCt .nil) (aE4 cxS (by decide) st);have b:=lX 3;have c:PF Tryz.prog 17 [.agg (bsC (aF6 cxS)),(vi (0)), .agg aKj] (.agg (bsC cx0)):=λst=>PC.wkArgs (.cons (zwr _) (.cons (zwr _) (.cons aJg .nil))) (qC (aF6 cxS) 0 cxL (by decide) (λd hd=>by
  have hd:d∈[(⟨[]⟩:Da),⟨[]⟩]:=hd
  simp only [zmc,List.not_mem_nil,or_false,or_self] at hd
  subst hd;decide) st)
 have hw:Wk (.tup [.agg aIg, .agg (bsC cx0)]) (.tup [.agg (scC cxS), .agg (bsC cx0)]):=Wk.tup (.cons aCt (.cons (zwr _) .nil));refine pF Tryz.func24 rfl (λst=> ?_)
 (repeat' first|apply aeD 5;rfl;rfl|exact Cn.any ⟨_,_,_,rfl,hw,zsr _,rfl,rfl⟩|apply wDO pk [0,1,2,3,4,5,6,7,8,9] [1] [] [1] [];rfl;rfl;kernel_rfl;rfl;rfl|(apply Cn.cf;focus (((first|apply a|apply b|apply c));done))|apply wZ;rfl|show Cn _;constructor|apply ldZ pk;iterate 4 rfl|apply wY;rfl)
def cxO :Ot:=⟨1,1,0,0,[nV 5,nV 3,nV 8,nV 4],Vl.zero,Dt.zero,0⟩
def cxD :Ot:=⟨8,0,9,0,[],Vl.zero,Dt.zero,0⟩
def aKK :List PV:=[(vi (8)),(vi (0)),(vi (9)),(vi (0)),yO,(vi (0)),(vi (0)),(vs (e0)),(vi (0)),(vi (0)),(vi (0))]
theorem aIu :WkL aKK cxD.cells:= .cons (zwr _) (.cons (zwr _) (.cons (zwr _) (.cons (zwr _) (.cons Wk.nil (.cons (zwr _) (.cons (zwr _) (.cons (zwr _) (.cons (zwr _) (.cons (zwr _) (.cons (zwr _) .nil))))))))))
def cxW :Wr:=⟨⟨1,1,1⟩,[]⟩
def cxM :Ln:=⟨5,[cxC 5,cxC 3,cxC 8,cxC 4],[⟨1,1⟩]⟩
def cx1 :Bs:=[⟨[cxL]⟩,⟨[cxM]⟩]
theorem aKP :ScB cxS:=λt ht=>by
 simp only [cxS,zmc,List.not_mem_nil,or_false] at ht
 rcases ht with rfl|rfl<;>constructor<;>simp [cxA,cxB]
theorem cxS_K :ScK cxS:=⟨aKP,by decide,λt ht=>by
 simp only [cxS,zmc,List.not_mem_nil,or_false] at ht
 rcases ht with rfl|rfl<;>decide,λt ht c hc=>by
 simp only [cxS,zmc,List.not_mem_nil,or_false] at ht
 rcases ht with rfl|rfl<;>cases hc⟩
theorem ayO :rightC cxS=0:=by
 unfold rightC;rw [zp (by kernel_rfl)];rfl
theorem aGO :aV T.rightP cxS cx0=true:=by kernel_rfl
theorem aIF :aV T.rightP cxS cx1=true:=by kernel_rfl
theorem aHJ (b:Bs) (h:aV T.rightP cxS b=true):mayC cxS b=true:=by unfold mayC;rw [ayO,h];rfl
theorem aKM :rightW cxW cxS cx0=true:=eK.2 ⟨ayO,aGO,by kernel_rfl⟩
theorem aIO :aR cxW cxS cx0 [cxO]=(cx1,0):=by kernel_rfl
theorem aFL :aR cxW cxS cx0 [cxD]=([],4):=by kernel_rfl
theorem aKm :whyC cxS cx1=0:=by
 unfold whyC;rw [aHJ _ aIF,zp rfl];have h0:exR cxA=λ_=>0:=rfl;have b:exR cxB=λ_=>0:=rfl;show eJ (λk:Nat=>ckT exR cx1 cxS[k]! (cS bP cx1 k)) [0,1]=0;rw [sL,sL];have e0:ckT exR cx1 cxS[0]! (cS bP cx1 (0:Nat))=0:=by
  show ckT exR cx1 cxA _=0;unfold ckT;rw [h0]
  kernel_rfl
 have a:ckT exR cx1 cxS[1]! (cS bP cx1 (1:Nat))=0:=by
  show ckT exR cx1 cxB _=0;unfold ckT;rw [b]
  kernel_rfl
 rw [e0,a];rfl
theorem aDP :fP cxW cxS cx0 [cxO]=(cx1,0):=by
 unfold fP;rw [aKM,zn (by simp),zn (by decide),aIO,zn (by simp),aKm,zn (by simp)]
theorem aEi :fP cxW cxS cx0 [cxD]=([],4):=by
 unfold fP;rw [aKM,zn (by simp),zn (by decide),aFL,zp (by simp)]
theorem cx0W :OpW 0 cx0:=⟨by decide,λd hd=>by
 have hd:d∈[(⟨[cxL]⟩:Da),⟨[]⟩]:=hd
 simp only [zmc,List.not_mem_nil,or_false] at hd
 rcases hd with rfl|rfl
 ·refine ⟨by decide,λl hl=> ?_⟩
  have hl:l∈[cxL]:=hl;rw [zms.1 hl];unfold LnW
  decide
 ·exact ⟨by decide,λl hl=>by cases hl⟩⟩
theorem cx1W :OpW 1 cx1:=by
 have h:=(rW (w:=cxW) (s:=cxS) (b:=cx0) (o:=cxO) (k:=0) (by kernel_rfl) aGO cx0W (xR.1 (by kernel_rfl)) (by kernel_rfl)).2;rwa [show (bD cxW cxS cx0 cxO).1=cx1 from by kernel_rfl] at h
theorem cxT (b:Bs) (hb:aV T.rightP cxS b=true):totC cxS b (1:Nat) (0:Nat) 3=jB ⟨3,1,9⟩ 3 (cS bP b (1:Nat)):=by
 unfold totC;rw [dif_pos ⟨aHJ b hb,by decide,by decide⟩];rfl
theorem aDd :sumsP cxS cx0 cx1=[(1,0,3,4)]:=by
 unfold sumsP;rw [zp ⟨aGO,aIF⟩];show sumK cxS cx0 cx1 0++(sumK cxS cx0 cx1 1++[])=_;have e0:sumK cxS cx0 cx1 0=[]:=rfl;have a:sumK cxS cx0 cx1 1=sumI cxS cx0 cx1 1 0++[]:=rfl;have b:sumI cxS cx0 cx1 1 0=[(3:Int)].filterMap (moreS cxS cx0 cx1 1 0):=by
  unfold sumI;rw [show iL (iJ cx0 1 cxS[1]!.sums[0]!++iJ cx1 1 cxS[1]!.sums[0]!)=[3] from by kernel_rfl]
 have c:moreS cxS cx0 cx1 1 0 3=some (1,0,3,4):=by
  unfold moreS;rw [cxT _ aGO,cxT _ aIF,show jB ⟨3,1,9⟩ 3 (cS bP cx0 (1:Nat))=0 from by kernel_rfl,show jB ⟨3,1,9⟩ 3 (cS bP cx1 (1:Nat))=4 from by kernel_rfl,zp (by decide)];rfl
 rw [e0,a,b];simp [c]
def cxR :List Rg:=[⟨1,0,0,3,4,0⟩,⟨1,1,0,5,6,0⟩,⟨2,1,2,8,9,0⟩,⟨3,1,0,3,0,4⟩]
theorem aLb :(ofP cxW cxS cx0 [cxO]).1=cxR:=by
 unfold ofP;rw [zn (by simp),aDP,zn (by simp),aDd];show (uG gL (iA cxW cxS cx0 [cxO] [])).map rgP++_=_;rw [show uG gL (iA cxW cxS cx0 [cxO] [])=[(1,0,0,3),(1,1,0,5),(2,1,2,8)] from by kernel_rfl];rfl
theorem aEP (o:Ot) (h:gO o=true):∀x∈[o],mC x:=λx hx=>by rw [zms.1 hx];exact xR.1 h
theorem aEA (a:List Rg) (h:a.length<1000000000000):PF Tryz.prog 20 [.seq (a.map Rg.cells), .seq (a.map Rg.cells)] (vb (true)):=by
 refine pF Tryz.func20 rfl (λst=> ?_)
 focus ((repeat' first|apply wZ;rfl|show Cn _;constructor|omega|(intro h;simp at h)))
 refine aC (X:={x:Nat//x<=a.length}) (λi=>((((St.nil 26 st).pv 0 (.seq (a.map Rg.cells))).pv 1 (.seq (a.map Rg.cells))).pv 5 ((vi ((i.1:Nat)))))) (λi=>a.length-i.1) ⟨0,by omega⟩ ?_ (λi=> ?_)
 ·(repeat' first|show Cn _;constructor|exact rfl)
 obtain ⟨i,hi⟩:=i;dsimp only;by_cases b:a.length<=i
 ·(repeat' first|apply wZ;rfl|show Cn _;constructor|exact rfl|simp only [zql];omega|(intro h;simp at h))
 have c:i<a.length:=by omega
 (repeat' first|(refine ⟨⟨i+1,by omega⟩, ?_, ?_⟩)|apply wZ;rfl|show Cn _;constructor|exact rfl|apply KR.mk;kernel_rfl|apply wI;rfl|apply gE;omega|omega|simp only [zql];omega|intro h;simp at h;done|(intro h;simp at h))
theorem arW :PF Tryz.prog 7 [] (vb (true)):=by
 have a:=aoA;have f:=lX 5;have g:=lX 3;have i:=lX 8;have n4:=lX 4;have b:PF Tryz.prog 8 [.agg (scC cxS), .agg (bsC cx0), .seq [cxO.cells], .agg [(vi (1)),(vi (1)),(vi (1))],yO] (.tup [.seq (cxR.map Rg.cells),(vi (0))]):=λst=>by
  have h:=aCZ (w:=cxW) cxS_K cx0W (l:=[cxO]) (by decide) (by decide) (aEP cxO (by kernel_rfl)) (by decide) (by rw [aDP]) st
  rw [aLb] at h
  exact PC.wkArgs (.cons (zwr _) (.cons (zwr _) (.cons (zwr _) (.cons (zwr _) (.cons Wk.nil .nil))))) h
 have c:PF Tryz.prog 9 [.agg (scC cxS), .agg (bsC cx0), .seq [cxO.cells], .agg [(vi (1)),(vi (1)),(vi (1))],yO] (.tup [.agg (bsC cx1),(vi (0))]):=λst=>by
  have h:=nP (w:=cxW) cxS_K cx0W (l:=[cxO]) (by decide) (by decide) (aEP cxO (by kernel_rfl)) st
  rw [aDP] at h
  exact PC.wkArgs (.cons (zwr _) (.cons (zwr _) (.cons (zwr _) (.cons (zwr _) (.cons Wk.nil .nil))))) h
 have h4:PF Tryz.prog 26 [.agg (scC cxS), .agg (bsC cx0), .agg (bsC cx1)] (.seq [[(vi (1)),(vi (0)),(vi (3)),(vi (4))]]):=by
  have h:=aeY (cxS_K.ck (cx0W.S (by decide)) (by decide)) (cxS_K.ck (cx1W.S (by decide)) (by decide));rw [aDd] at h;exact h
 have h5:PF Tryz.prog 8 [.agg (scC cxS), .agg (bsC cx0), .seq [aKK], .agg [(vi (1)),(vi (1)),(vi (1))],yO] (.tup [.seq [],(vi (4))]):=λst=>by
  have h:=aHT (w:=cxW) cxS_K cx0W (l:=[cxD]) (by decide) (by decide) (aEP cxD (by kernel_rfl)) (by decide) (by rw [aEi];simp) st
  rw [show ofP cxW cxS cx0 [cxD]=([],4) from by unfold ofP;rw [zn (by simp),aEi,zp (by simp)]] at h
  exact PC.wkArgs (.cons (zwr _) (.cons (zwr _) (.cons (wk1 aIu) (.cons (zwr _) (.cons Wk.nil .nil))))) h
 have d:PF Tryz.prog 8 [.agg (scC cxS), .agg (bsC cx0),yO, .agg [(vi (1)),(vi (1)),(vi (1))],yO] (.tup [.seq [],(vi (0))]):=λst=>by
  have h:=aKy cxW cxS cx0 st
  rw [show ofP cxW cxS cx0 []=([],0) from by unfold ofP;rw [zp (show ([]:List Ot).length=0 from rfl)]] at h
  exact PC.wkArgs (.cons (zwr _) (.cons (zwr _) (.cons Wk.nil (.cons (zwr _) (.cons Wk.nil .nil))))) h
 have e:=aEA cxR (by decide);have c0:([[(vi (1)),(vi (0)),(vi (3)),(vi (4))]]:List (List PV))[0]?=some [(vi (1)),(vi (0)),(vi (3)),(vi (4))]:=rfl;refine pF Tryz.func7 rfl (λst=> ?_)
 (repeat' first|apply wZ;rfl|show Cn _;constructor|exact rfl|apply dM pk;(iterate 6 rfl);rotate_left;rfl;(intro hw;rfl);(intro hw;apply c0<;>omega);(intro _;rfl);rfl|(apply a)|(apply f)|(apply g)|(apply i)|(apply n4)|(apply b)|(apply c)|(apply h4)|(apply h5)|(apply d)|(apply e)|apply wY;rfl)
end
section
set_option maxRecDepth 10000
set_option maxHeartbeats 4000000
theorem amC :∀{a b c:List UInt8},Op.bytesLess a b=true->Op.bytesLess b c=true->Op.bytesLess a c=true
 |_,_,[],_,d=>by simp [Op.bytesLess] at d
 |_,[],_::_,h1,_=>by simp [Op.bytesLess] at h1
 |[],_::_,_::_,_,_=>rfl
 |a::x,b::y,c::z,h1,d=>by
  simp only [Op.bytesLess,Bool.or_eq_true,zba,zde,beq_iff_eq] at*
  rcases h1 with h1|⟨rfl,h1⟩<;>rcases d with d|⟨rfl,d⟩
  ·exact .inl (UInt8.lt_trans h1 d)
  ·exact .inl h1
  ·exact .inl d
  ·exact .inr ⟨rfl,amC h1 d⟩
theorem agO {a b:Vl}:cX a b=true↔a.kind<b.kind\/(a.kind=b.kind/\(a.n<b.n\/(a.n=b.n/\Op.bytesLess a.s.toList b.s.toList=true))):=by
 unfold cX;by_cases c:a.kind=b.kind
 ·by_cases d:a.n=b.n
  ·simp [c,d]
  ·simp [c,d]
 ·simp [c]
theorem zA {a b c:Vl} (d:cX a b=true) (e:cX b c=true):cX a c=true:=by
 rw [agO] at*;rcases d with d|⟨e1,d|⟨f1,d⟩⟩<;>rcases e with e|⟨f,e|⟨g,e⟩⟩
 ·exact .inl (by omega)
 ·exact .inl (by omega)
 ·exact .inl (by omega)
 ·exact .inl (by omega)
 ·exact .inr ⟨by omega, .inl (by omega)⟩
 ·exact .inr ⟨by omega, .inl (by omega)⟩
 ·exact .inl (by omega)
 ·exact .inr ⟨by omega, .inl (by omega)⟩
 ·exact .inr ⟨by omega, .inr ⟨by omega,amC d e⟩⟩
theorem asY {o:List Vl} {v:Vl} {j:Nat} (hj:j<atV o v) (h:j<o.length):cX o[j] v=true:=by
 unfold atV at hj;cases e:o.findIdx? λx=> !cX x v with
 |none=>
  have:=List.findIdx?_eq_none_iff.1 e _ (zgm h)
  simpa using this
 |some k=>
  rw [e] at hj;have:=(List.findIdx?_eq_some_iff_getElem.1 e).2.2 j hj
  simpa using this
theorem aJC {o:List Vl} {v:Vl} (h:atV o v<o.length):cX o[atV o v] v=false:=by
 have key:∀k (hk:k<o.length),atV o v=k->cX o[k] v=false:=λk hk e0=>by
  unfold atV at e0
  cases e:o.findIdx? λx=> !cX x v with
  |none=>rw [e] at e0;simp at e0;omega
  |some j=>
   rw [e] at e0;simp at e0;subst e0;have:=(List.findIdx?_eq_some_iff_getElem.1 e).2.1
   simpa using this
 exact key _ h rfl
def adE (o:List Vl):Prop:=o.Pairwise λa b=>cX a b=true
theorem ajL {o:List Vl} (h:adE o) {i j:Nat} (a:i<j) (hj:j<o.length):cX (o[i]'(by omega)) o[j]=true:=List.pairwise_iff_getElem.1 h i j (by omega) hj a
def qM (o:List Vl):Vl:=o.getLast?.getD Vl.zero
theorem amM {o:List Vl} (h:0<o.length):qM o=o[o.length-1]:=by
 unfold qM;rw [List.getLast?_eq_getElem?,zgg (by omega)];rfl
theorem aAF (o:List Vl) (v:Vl) (hs:adE o):adE (aaH o v)/\0<(aaH o v).length/\qM (aaH o v)=if o.length=0\/cX (qM o) v=true then v else qM o:=by
 have p:=aEb o v;rcases Nat.lt_or_ge (atV o v) o.length with ha|ha
 ·have k:=aJC ha
  have g:0<o.length:=by omega
  have d:cX (qM o) v=false:=by
   rw [amM g,<-Bool.not_eq_true];intro q;rcases Nat.lt_or_ge (atV o v) (o.length-1) with h|h
   ·have:=zA (ajL hs h (by omega)) q
    rw [k] at this;cases this
   ·have e:o.length-1=atV o v:=by omega
    simp only [e] at q;rw [k] at q;cases q
  rw [zn (by rw [d];rintro (q|q);omega;cases q)];unfold aaH;rw [getElem!_pos o (atV o v) ha];by_cases c:vO o[atV o v] v=true
  ·rw [zp ⟨ha,c⟩]
   exact ⟨hs,g,rfl⟩
  ·rw [zn (λq=>c q.2)]
   have m:cX v o[atV o v]=true:=by
    unfold vO at c;rw [k] at c
    simpa using c
   unfold dI;refine ⟨?_,by simp;omega, ?_⟩
   ·unfold adE
    rw [List.append_assoc,List.pairwise_append,List.pairwise_append];refine ⟨List.Pairwise.sublist (List.take_sublist _ _) hs,⟨List.pairwise_singleton _ _,List.Pairwise.sublist (List.drop_sublist _ _) hs, ?_⟩, ?_⟩
    ·intro a l b f
     rw [zms] at l;subst l;obtain ⟨j,hj,rfl⟩:=zgo f;rw [List.getElem_drop];rw [zld] at hj;rcases Nat.eq_zero_or_pos j with rfl|hp
     ·simpa using m
     ·exact zA m (ajL hs (by omega) (by omega))
    ·intro a l b f
     obtain ⟨i,hi,rfl⟩:=zgo l;rw [zlt] at hi;rw [List.getElem_take];have n:=asY (o:=o) (v:=v) (j:=i) (by omega) (by omega);rcases zma.1 f with f|f
     ·rw [zms] at f;subst f;exact n
     ·obtain ⟨j,hj,rfl⟩:=zgo f
      rw [List.getElem_drop];rw [zld] at hj;exact ajL hs (by omega) (by omega)
   ·unfold qM
    rw [List.getLast?_append,List.getLast?_drop,zn (by omega)];cases hz:o.getLast? with
    |none=>rw [List.getLast?_eq_none_iff.1 hz] at g;simp at g
    |some z=>rfl
 ·have ha:atV o v=o.length:=by omega
  have d:o.length=0\/cX (qM o) v=true:=by
   rcases Nat.eq_zero_or_pos o.length with h|h
   ·exact .inl h
   ·right
    rw [amM h];exact asY (by omega) (by omega)
  rw [zp d];unfold aaH;rw [zn (λq=>by omega)];unfold dI;rw [ha,List.take_length,List.drop_length,List.append_nil];refine ⟨?_,by simp, ?_⟩
  ·unfold adE
   rw [List.pairwise_append];refine ⟨hs,List.pairwise_singleton _ _, ?_⟩;intro a l b f;rw [zms] at f;subst f;obtain ⟨i,hi,rfl⟩:=zgo l;exact asY (by omega) hi
  ·unfold qM;simp
def aaE (l:List Pt):Nat->Vl
 |0=>Vl.zero
 |i+1=>if i=0\/cX (aaE l i) l[i]!.val=true then l[i]!.val else aaE l i
theorem agU (l:List Pt):∀i,i<=l.length->adE (fQ (l.take i))/\(0<i->0<(fQ (l.take i)).length)/\qM (fQ (l.take i))=aaE l i
 |0,_=>by simp [fQ,adE,qM,aaE]
 |i+1,h=>by
  obtain ⟨a,b,c⟩:=agU l i (by omega)
  have h4:=aAF (fQ (l.take i)) l[i].val a
  rw [ajZ (by omega)]
  refine ⟨h4.1,λ_=>h4.2.1, ?_⟩
  rw [h4.2.2,c]
  unfold aaE
  rw [getElem!_pos l i (by omega)]
  have hz:(fQ (l.take i)).length=0↔i=0:=by
   constructor
   ·intro q
    rcases Nat.eq_zero_or_pos i with e|e
    ·exact e
    ·have:=b e;omega
   ·rintro rfl;simp [fQ]
  simp only [hz]
  cases i<;>rfl
theorem aAx (c:Cl):acF c=aaE c.parts c.parts.length:=by
 have:=(agU c.parts c.parts.length (Nat.le_refl _)).2.2;rw [List.take_length] at this;exact this
def wE (xs:Array Int) (p:Nat):Nat:=if p=0 then 0 else 1+dN xs p
theorem aFA (xs:Array Int) (p:Nat):wE xs p<=p:=by
 unfold wE;split
 ·omega
 ·have:=axZ xs 1 (p-1) (Nat.le_refl _)
  rw [show 1+(p-1)=p by omega] at this;have h0:dN xs 1=0:=rfl;omega
theorem aEO (xs:Array Int):wE xs xs.size=aaL xs:=by
 unfold wE aaL;by_cases h0:xs.size=0
 ·rw [zp h0,zp (by omega)];exact h0.symm
 ·rw [zn h0]
  by_cases a:xs.size<2
  ·rw [zp a,show xs.size=1 by omega];rfl
  ·rw [zn a]
theorem azL {xs:Array Int} {p:Nat} (h:p=0\/xs[p]!≠xs[p-1]!):wE xs (p+1)=wE xs p+1:=by
 unfold wE;rcases Nat.eq_zero_or_pos p with rfl|hp
 ·rfl
 ·rw [zn (by omega),zn (by omega),zS xs hp,zn (h.resolve_left (by omega))];omega
theorem aA5 {xs:Array Int} {p:Nat} (hp:1<=p) (h:xs[p]! =xs[p-1]!):wE xs (p+1)=wE xs p:=by
 unfold wE;rw [zn (by omega),zn (by omega),zS xs hp,zp h];rfl
theorem anD {xs:Array Int} {n:Nat} (hs:∀i j,i<=j->j<n->xs[i]!<=xs[j]!):∀(d p:Nat),d=n-p->1<=p->p<=n->∃q,p<=q/\q<=n/\xs[q-1]! =xs[p-1]!/\wE xs q=wE xs p/\(q<n->xs[q-1]!<xs[q]!)
 |0,p,hd,h1,h2=>⟨p,by omega,h2,rfl,rfl,λh=>by omega⟩
 |d+1,p,hd,h1,h2=>by
  by_cases a:xs[p]! =xs[p-1]!
  ·obtain ⟨q,g,b,c,e,f⟩:=anD hs d (p+1) (by omega) (by omega) (by omega)
   refine ⟨q,by omega,b, ?_, ?_,f⟩
   ·rw [c,show p+1-1=p by omega,a]
   ·rw [e,aA5 h1 a]
  ·refine ⟨p,by omega,h2,rfl,rfl,λh=> ?_⟩
   have:=hs (p-1) p (by omega) (by omega);omega
structure Found (xs:Array Int) (n p:Nat) (out:List Int):Prop where
 le:p<=n
 len:out.length=wE xs p
 last:∀h:0<out.length,0<p/\out[out.length-1]=xs[p-1]!/\(p<n->xs[p-1]!<xs[p]!)
theorem Found.zero {xs:Array Int} {n:Nat}:Found xs n 0 []:=⟨by omega,rfl,λh=>absurd h (by simp)⟩
theorem Found.pos {xs:Array Int} {n p:Nat} {out:List Int} (a:Found xs n p out) (hp:0<p):0<out.length:=by
 rw [a.len];unfold wE;rw [zn (by omega)];omega
def aeG (out:List Int) (x:Int):Prop:=out.length=0\/x>out[out.length-1]!
theorem Found.over {xs:Array Int} {n p:Nat} {out:List Int} (h:Found xs n p out) (hs:∀i j,i<=j->j<n->xs[i]!<=xs[j]!) {i:Nat} (hi:i<n):aeG out xs[i]!↔p<=i:=by
 unfold aeG;rcases Nat.eq_zero_or_pos out.length with h0|h0
 ·have:p=0:=by
   rcases Nat.eq_zero_or_pos p with e|e
   ·exact e
   ·have:=h.pos e;omega
  exact ⟨λ_=>by omega,λ_=> .inl h0⟩
 ·obtain ⟨c,a,b⟩:=h.last h0
  rw [getElem!_pos out (out.length-1) (by omega),a];constructor
  ·rintro (q|q)
   ·omega
   ·rcases Nat.lt_or_ge i p with r|r
    ·have:=hs i (p-1) (by omega) (by have:=h.le;omega);omega
    ·exact r
  ·intro q
   right;have h4:=b (by omega);have:=hs p i q hi;omega
theorem Found.step {xs:Array Int} {n p:Nat} {out:List Int} (h:Found xs n p out) (hs:∀i j,i<=j->j<n->xs[i]!<=xs[j]!) {l:Int} (a:aeG out l) (b:∃i,i<n/\l=xs[i]!) (c:∀i,i<n->aeG out xs[i]!->l<=xs[i]!):∃q,p<q/\Found xs n q (out++[l]):=by
 obtain ⟨i,hi,rfl⟩:=b;have f:=(h.over hs hi).1 a;have hp:p<n:=by omega
 have g:xs[i]! =xs[p]!:=by
  have s:=c p hp ((h.over hs hp).2 (Nat.le_refl _));have t:=hs p i f hi;omega
 have d:p=0\/xs[p]!≠xs[p-1]!:=by
  rcases Nat.eq_zero_or_pos p with e|e
  ·exact .inl e
  ·have:=(h.last (h.pos e)).2.2 hp
   exact .inr (by omega)
 have hc:=azL d;obtain ⟨q,u,k,m,o,r⟩:=anD hs (n-(p+1)) (p+1) rfl (by omega) (by omega);refine ⟨q,by omega,k, ?_,λ_=>⟨by omega, ?_,r⟩⟩
 ·rw [zla,h.len,o,hc];rfl
 ·rw [m,show p+1-1=p by omega,<-g]
  simp
theorem Found.done {xs:Array Int} {n p:Nat} {out:List Int} (h:Found xs n p out) (hs:∀i j,i<=j->j<n->xs[i]!<=xs[j]!) (hn:xs.size=n) (a:∀i,i<n->¬aeG out xs[i]!):out.length=aaL xs:=by
 have hp:p=n:=by
  rcases Nat.lt_or_ge p n with q|q
  ·exact absurd ((h.over hs q).2 (Nat.le_refl _)) (a p q)
  ·have:=h.le;omega
 rw [h.len,hp,<-hn,aEO]
theorem Found.short {xs:Array Int} {n p:Nat} {out:List Int} (h:Found xs n p out):out.length<=n:=by
 have:=h.len;have:=aFA xs p;have:=h.le;omega
theorem amF (c:Cl):∀i j,i<=j->j<c.parts.length->(fN c).toArray[i]!<=(fN c).toArray[j]!:=by
 intro i j d hj;have e:(fN c).length=c.parts.length:=by unfold fN;rw [List.length_mergeSort,zql]
 rw [getElem!_pos _ i (by simp;omega),getElem!_pos _ j (by simp;omega)];rcases Nat.lt_or_eq_of_le d with h|h
 ·have hp:(fN c).Pairwise λx y=>decide (x<=y)=true:=List.pairwise_mergeSort (by intro a b c;simp;omega) (by intro a b;simp;omega) _
  have:=List.pairwise_iff_getElem.1 hp i j (by omega) (by omega) h
  simpa using this
 ·subst h;exact Int.le_refl _
theorem adO (c:Cl) (x:Int):(∃i,i<c.parts.length/\x=(fN c).toArray[i]!)↔∃k,∃h:k<c.parts.length,x=c.parts[k].val.n:=by
 have a:(fN c).length=c.parts.length:=by unfold fN;rw [List.length_mergeSort,zql]
 have hm:x∈fN c↔x∈c.parts.map (·.val.n):=by unfold fN;exact List.mem_mergeSort
 constructor
 ·rintro ⟨i,hi,rfl⟩
  rw [getElem!_pos _ i (by simp;omega)] at hm⊢;have:=hm.1 (by simp);obtain ⟨k,hk,e⟩:=zgo this;rw [zql] at hk;exact ⟨k,hk,by rw [<-e];simp⟩
 ·rintro ⟨k,hk,rfl⟩
  have:=hm.2 (List.mem_map.2 ⟨_,zgm hk,rfl⟩);obtain ⟨i,hi,e⟩:=zgo this;exact ⟨i,by omega,by rw [getElem!_pos _ i (by simp;omega)];simpa using e.symm⟩
def tC (out:List Int) (x:Int):Bool:=decide (out.length=0)||decide (x>out[out.length-1]!)
theorem xW {out:List Int} {x:Int}:tC out x=true↔aeG out x:=by unfold tC aeG;simp
def mnI (out:List Int) (l:List Pt):Nat->Bool×Int
 |0=>(false,0)
 |k+1=>if (tC out l[k]!.val.n&&(!(mnI out l k).1||decide (l[k]!.val.n<(mnI out l k).2)))=true then (true,l[k]!.val.n) else mnI out l k
theorem ajO (out:List Int) (l:List Pt):∀k,(mnI out l k).1=false->∀j<k,tC out l[j]!.val.n=false
 |0,_,j,hj=>by omega
 |k+1,h,j,hj=>by
  unfold mnI at h
  split at h
  ·cases h
  ·rename_i q
   rcases zls.1 hj with r|r
   ·exact ajO out l k h j r
   ·subst r
    rw [h] at q
    simpa using q
theorem ajR (out:List Int) (l:List Pt):∀k,(mnI out l k).1=true->tC out (mnI out l k).2=true/\(∃j,j<k/\(mnI out l k).2=l[j]!.val.n)/\∀j<k,tC out l[j]!.val.n=true->(mnI out l k).2<=l[j]!.val.n
 |0,h=>by cases h
 |k+1,h=>by
  have e:mnI out l (k+1)=if (tC out l[k]!.val.n&&(!(mnI out l k).1||decide (l[k]!.val.n<(mnI out l k).2)))=true then (true,l[k]!.val.n) else mnI out l k:=rfl
  by_cases q:(tC out l[k]!.val.n&&(!(mnI out l k).1||decide (l[k]!.val.n<(mnI out l k).2)))=true
  ·rw [zp q] at e
   rw [e];rw [zba,Bool.or_eq_true,Bool.not_eq_true',zde] at q;refine ⟨q.1,⟨k,by omega,rfl⟩,λj hj ho=> ?_⟩;rcases zls.1 hj with r|r
   ·rcases q.2 with a|a
    ·rw [ajO out l k a j r] at ho;cases ho
    ·cases hm:(mnI out l k).1 with
     |false=>rw [ajO out l k hm j r] at ho;cases ho
     |true=>
      have:=(ajR out l k hm).2.2 j r ho;show l[k]!.val.n<=_;omega
   ·subst r;exact Int.le_refl _
  ·rw [zn q] at e
   rw [e] at h⊢;obtain ⟨b,⟨i,hi,c⟩,d⟩:=ajR out l k h;refine ⟨b,⟨i,by omega,c⟩,λj hj ho=> ?_⟩;rcases zls.1 hj with r|r
   ·exact d j r ho
   ·subst r
    rw [ho,h] at q;simp only [Bool.true_and,Bool.not_true,Bool.false_or,zde] at q;omega
theorem azV (c:Cl):(fN c).toArray.size=c.parts.length:=by simp [fN]
theorem Found.go {c:Cl} {p:Nat} {out:List Int} (h:Found (fN c).toArray c.parts.length p out):
  ((mnI out c.parts c.parts.length).1=false->out.length=aaL (fN c).toArray)/\((mnI out c.parts c.parts.length).1=true->∃q,p<q/\Found (fN c).toArray c.parts.length q (out++[(mnI out c.parts c.parts.length).2])):=by
 have hs:=amF c
 constructor
 ·intro hm
  refine h.done hs (azV c) λi hi q=> ?_;obtain ⟨k,hk,e⟩:=(adO c _).1 ⟨i,hi,rfl⟩;have:=ajO out c.parts _ hm k hk;rw [getElem!_pos c.parts k hk,<-e,<-Bool.not_eq_true,xW] at this;exact this q
 ·intro hm
  obtain ⟨a,⟨j,hj,b⟩,d⟩:=ajR out c.parts _ hm;refine h.step hs (xW.1 a) ?_ λi hi q=> ?_
  ·rw [b,getElem!_pos c.parts j hj]
   exact (adO c _).2 ⟨j,hj,rfl⟩
  ·obtain ⟨k,hk,e⟩:=(adO c _).1 ⟨i,hi,rfl⟩
   rw [e] at q⊢;have:=d k hk (by rw [getElem!_pos c.parts k hk,xW];exact q);rw [getElem!_pos c.parts k hk] at this;exact this
end
section
attribute [local irreducible] Ev PWp
set_option maxRecDepth 10000
set_option maxHeartbeats 4000000
theorem aFt (a b:Vl):cX a b=((decide (a.kind<b.kind)||(decide (a.kind=b.kind)&&decide (a.n<b.n)))||((decide (a.kind=b.kind)&&decide (a.n=b.n))&&Op.bytesLess a.s.toList b.s.toList)):=by
 rw [Bool.eq_iff_iff,agO];simp only [Bool.or_eq_true,zba,zde];constructor
 ·rintro (h|⟨h,c|⟨c,d⟩⟩)
  ·exact .inl (.inl h)
  ·exact .inl (.inr ⟨h,c⟩)
  ·exact .inr ⟨⟨h,c⟩,d⟩
 ·rintro ((h|⟨h,c⟩)|⟨⟨h,c⟩,d⟩)
  ·exact .inl h
  ·exact .inr ⟨h, .inl c⟩
  ·exact .inr ⟨h, .inr ⟨c,d⟩⟩
theorem oP (a b:Vl):PF Tryz.prog 202 [.agg a.cells, .agg b.cells] (vb (cX a b)):=by
 rw [aFt];refine pF Tryz.func202 rfl (λst=> ?_)
 (repeat' first|apply wZ;rfl|show Cn _;constructor|exact rfl|show (_:PV)=_;(first|simp [*];done|grind);done|(intro h;simp at h)|intro h)
theorem amX {c:Cl} (h:bU c=0):c.val=⟨1,c.val.n,e0⟩:=by
 unfold bU at h;split at h
 ·cases h
 ·rename_i a
  split at h
  ·cases h
  ·rename_i b
   simp only [ne_eq,not_or,Decidable.not_not] at a b;rw [Vl.ext_iff];exact ⟨a.2,rfl,b.1⟩
theorem apB (c:Cl):PF Tryz.prog 126 [.agg c.cells] (.agg (adM c).cells):=by
 have hc:=akP c;have hz:= @amX c;unfold adM;by_cases h:bU c=0
 ·rw [zp h,hz h]
  rw [h] at hc;clear hz;refine pF Tryz.func126 rfl (λst=> ?_)
  (repeat' first|apply wZ;rfl|show Cn _;constructor|exact rfl|(apply hc)|apply wY;rfl)
 ·rw [zn h]
  clear hz;generalize bU c=R at*;refine pF Tryz.func126 rfl (λst=> ?_)
  (repeat' first|apply wZ;rfl|show Cn _;constructor|exact rfl|(apply hc)|apply wY;rfl|omega|intro h)
end
end Go.Proofs.YtfablfldonhkiaaGreatDoor
namespace Go.Proofs.YtfablfldonhkiaaGreatDoor.T
open Go Go.Abs
attribute [local irreducible] Ev PWp
set_option maxRecDepth 10000
set_option maxHeartbeats 4000000
theorem mJ (p:Pt):PF Tryz.prog 310 [.agg p.cells] (.agg (aN p).cells):=by
 refine pF Tryz.func310 rfl (λst=> ?_)
 (repeat' first|apply wZ;rfl|show Cn _;constructor|exact rfl)
theorem agK (d:Dt) (n:Int):PF Tryz.prog 335 [.agg d.cells,(vi (n))] (vb (mayN ⟨d,n⟩)):=by
 refine pF Tryz.func335 rfl (λst=> ?_)
 (repeat' first|apply wZ;rfl|show Cn _;constructor|exact rfl|show (_:PV)=_;(simp only [mayN,withinB,Bool.and_assoc]);done)
theorem oP (a b:Sp):PF Tryz.prog 311 [.agg a.cells, .agg b.cells] (vb (gI a b)):=by
 refine pF Tryz.func311 rfl (λst=> ?_)
 (repeat' first|apply wZ;rfl|show Cn _;constructor|exact rfl|show (_:PV)=_;(simp only [gI];grind);done|intro h)
theorem ajG (p:Pt):PF Tryz.prog 308 [.agg p.cells] (vb (bL p)):=by
 have hz:aH p=Nm.zero↔(p.after.dev=0/\p.after.seq=0)/\p.afterAt=0:=by rw [Nm.ext_iff,Dt.ext_iff];rfl
 refine pF Tryz.func308 rfl (λst=> ?_)
 (repeat' first|apply wZ;rfl|show Cn _;constructor|exact rfl|((first|apply (agK p.dot p.at_)|apply (agK p.after p.afterAt)))|show (_:PV)=_;(first|have e:bL p=false:=(by simp only [bL,withinB,e0];grind);rw [e];done|have e:bL p=(mayN (aG p)&&(mayN (aH p)||decide (aH p=Nm.zero))):=(by simp only [bL,withinB,e0];grind);rw [e];congr 2;rw [Bool.eq_iff_iff];simp only [Bool.or_eq_true,zba,zde,hz];rfl);done|apply wY;rfl|(intro h;simp at h))
def atP (l:List Pt) (k:Nm):Int:=match l.findIdx? (λp=>decide (aG p=k)) with|some j=>((j:Nat):Int)|none=> -1
theorem uV (l:List Pt) (d:Dt) (n:Int) (hl:l.length<1000000000000):PF Tryz.prog 309 [.seq (l.map Pt.cells), .agg d.cells,(vi (n))] (vi (atP l ⟨d,n⟩)):=by
 refine pF Tryz.func309 rfl (λst=> ?_)
 (repeat' first|apply wZ;rfl|show Cn _;constructor)
 refine aC (X:={x:Nat//x<=l.length/\∀j (h:j<x) (c:j<l.length),decide (aG l[j]=⟨d,n⟩)=false}) (λi=>(((((St.nil 31 st).pv 0 (.seq (l.map Pt.cells))).pv 2 ((vi (n)))).var 4 80 (d.cells)).pv 7 ((vi ((i.1:Nat)))))) (λi=>l.length-i.1) ⟨0,by omega,by omega⟩ ?_ (λi=> ?_)
 ·(repeat' first|show Cn _;constructor|exact rfl)
 obtain ⟨i,hi,a⟩:=i;dsimp only;have hd:=λh:i<l.length=>abI (l[i]'h) d n;by_cases b:i<l.length
 ·have hd:aG l[i]=⟨d,n⟩↔(l[i].dot.dev=d.dev/\l[i].dot.seq=d.seq)/\l[i].at_=n:=hd b
  (repeat' first|(refine ⟨⟨i+1,by omega,λj e c=>by rcases zls.1 e with q|q;exact a j q c;subst q;rw [decide_eq_false_iff_not,hd];grind⟩, ?_, ?_⟩)|apply wZ;rfl|show Cn _;constructor|exact rfl|apply KR.mk;kernel_rfl|show (_:PV)=_;(rw [atP,lK b (decide_eq_true (hd.2 (by grind))) a]);done|apply wI;rfl|apply gE;omega|omega|simp only [zql];omega|(intro h;simp at h))
 ·(repeat' first|apply wZ;rfl|show Cn _;constructor|exact rfl|show (_:PV)=_;(rw [atP,mS (by omega) a]);done|simp only [zql];omega|(intro h;simp at h))
end Go.Proofs.YtfablfldonhkiaaGreatDoor.T
