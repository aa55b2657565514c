import Derived.Test.YtloecjjehapblaaGreatDoorOpAo
import Derived.Test.YtloecjjehapblaaGreatDoorOpAl
import Derived.Test.YtloecjjehapblaaGreatDoorOpAg
import Derived.Test.YtloecjjehapblaaGreatDoorOpAa
set_option linter.unusedSimpArgs false
set_option linter.unusedVariables false
namespace Go.Proofs.YtloecjjehapblaaGreatDoor
open Go Go.Abs
attribute [local irreducible] Ev PWp
namespace X
set_option maxRecDepth 10000
set_option maxHeartbeats 4000000
theorem aoP (c:Co):PF Tryz.prog 200 [.agg c.cells] (PV.val (Value.int .i64 (dW c))):=by
 unfold dW
 refine aG aF Tryz.func200 (by kernel_rfl) rfl rfl rfl rfl (λst=> ?_)
 (try apply wO pk;rfl);(repeat' first|show All _;constructor|apply wC pk;rfl;rfl|refine aA rfl ?_ ?_<;>intro h<;>(try simp at h)<;>try omega|(refine aC ?_;refine ⟨_,_,_,rfl,zwr _,zsr _, ?_,rfl⟩;try first|rfl|((simp [*];done));done))
theorem Right_spec {e:Ex} (hok:e.ok) (cols:List Co) (hl:cols.length<10000000000):PF Tryz.prog 147 [.agg e.cells, .seq (cols.map Co.cells)] (PV.val (Value.int .i64 (RightR e (cols.map dW)))):=by
 have hT:=atD hok (l:=cols.map dW) (by rw [zql];omega)
 have hR:RightR e (cols.map dW)=if (jZ e (cols.map dW)).2=0 then (if (jZ e (cols.map dW)).1=2 then 6 else 0) else (jZ e (cols.map dW)).2:=rfl
 generalize jZ e (cols.map dW)=T at*
 generalize RightR e (cols.map dW)=R at*
 unfold jW at hT
 obtain ⟨k,n,v,of⟩:=e
 obtain ⟨T1,T2⟩:=T
 dsimp only at*
 refine aG aF Tryz.func147 (by kernel_rfl) rfl rfl rfl rfl (λst=> ?_)
 focus ((try apply wO pk;rfl);(repeat' (show All _;constructor)))
 refine yC 5 3 rfl rfl (λid hid=> ?_)
 have hid:st id=none:=hid
 refine aK (X:={x:Nat×Nat//x.1<=cols.length/\st x.2=none}) (λi=>((((((St.nil 35 (upd st i.1.2 (some (.tok 3)))).var 2 88 ((Ex.mk k n v of).cells)).pv 5 (.own i.1.2 (((cols.take i.1.1).map dW).map I1))).pv 10 (.seq (cols.map Co.cells))).pv 11 ((PV.val (Value.int .i64 ((((cols.map Co.cells)).length:Nat)))))).pv 12 ((PV.val (Value.int .i64 ((i.1.1:Nat))))))) (λi=>cols.length-i.1.1) ⟨(0,id),by simp,hid⟩ ?_ (λi=> ?_)
 ·(((repeat (first|refine Sub.pv ?_ rfl|refine Sub.var ?_ rfl rfl));(exact Sub.nil _ _ _ (zsr _) rfl)))
 obtain ⟨⟨i,id⟩,hi,hid⟩:=i
 simp only at hi hid
 dsimp only
 by_cases hend:cols.length<=i
 ·rw [List.take_of_length_le hend]
  by_cases h0:T2=0<;>by_cases h1:T1=2
  ·rw [if_pos h0,if_pos h1] at hR
   subst hR
   (try apply wO pk;rfl);(repeat' first|show All _;constructor|show Imp _ _;constructor|show ImpX _ _ _ _;constructor|apply wC pk;rfl;rfl|apply wE pk;rfl;rfl|refine aA rfl ?_ ?_<;>intro h<;>(try simp at h)<;>try omega|(refine aC ?_;first|refine ⟨_,_,_,rfl,zwr _,zsr _, ?_,rfl⟩;(fail)|refine ⟨_,_,_,rfl,zwr _,aL ‹_›, ?_,rfl⟩;(rfl)|refine ⟨_,_,_,rfl,zwf _,zsr _, ?_,rfl⟩;(fail)|refine ⟨_,_,_,rfl,zwf _,aL ‹_›, ?_,rfl⟩;(fail)|(refine ⟨_,_,_,rfl,zwr _,zsr _, ?_,rfl⟩)|(refine ⟨_,_,_,rfl,zwf _,aL ‹_›, ?_,rfl⟩))|(apply tI;rfl;rfl;rfl;(intro _;apply hT<;>first|assumption|omega);rotate_left;rfl;rfl))
  ·rw [if_pos h0,if_neg h1] at hR
   subst hR
   subst h0
   (try apply wO pk;rfl);(repeat' first|show All _;constructor|show Imp _ _;constructor|show ImpX _ _ _ _;constructor|apply wC pk;rfl;rfl|apply wE pk;rfl;rfl|refine aA rfl ?_ ?_<;>intro h<;>(try simp at h)<;>try omega|(refine aC ?_;first|refine ⟨_,_,_,rfl,zwr _,zsr _, ?_,rfl⟩;(fail)|refine ⟨_,_,_,rfl,zwr _,aL ‹_›, ?_,rfl⟩;(rfl)|refine ⟨_,_,_,rfl,zwf _,zsr _, ?_,rfl⟩;(fail)|refine ⟨_,_,_,rfl,zwf _,aL ‹_›, ?_,rfl⟩;(fail)|(refine ⟨_,_,_,rfl,zwr _,zsr _, ?_,rfl⟩)|(refine ⟨_,_,_,rfl,zwf _,aL ‹_›, ?_,rfl⟩))|(apply tI;rfl;rfl;rfl;(intro _;apply hT<;>first|assumption|omega);rotate_left;rfl;rfl))
  ·rw [if_neg h0] at hR
   subst hR
   (try apply wO pk;rfl);(repeat' first|show All _;constructor|show Imp _ _;constructor|show ImpX _ _ _ _;constructor|apply wC pk;rfl;rfl|apply wE pk;rfl;rfl|refine aA rfl ?_ ?_<;>intro h<;>(try simp at h)<;>try omega|(refine aC ?_;first|refine ⟨_,_,_,rfl,zwr _,zsr _, ?_,rfl⟩;(fail)|refine ⟨_,_,_,rfl,zwr _,aL ‹_›, ?_,rfl⟩;(rfl)|refine ⟨_,_,_,rfl,zwf _,zsr _, ?_,rfl⟩;(fail)|refine ⟨_,_,_,rfl,zwf _,aL ‹_›, ?_,rfl⟩;(fail)|(refine ⟨_,_,_,rfl,zwr _,zsr _, ?_,rfl⟩)|(refine ⟨_,_,_,rfl,zwf _,aL ‹_›, ?_,rfl⟩))|(apply tI;rfl;rfl;rfl;(intro _;apply hT<;>first|assumption|omega);rotate_left;rfl;rfl))
  ·rw [if_neg h0] at hR
   subst hR
   (try apply wO pk;rfl);(repeat' first|show All _;constructor|show Imp _ _;constructor|show ImpX _ _ _ _;constructor|apply wC pk;rfl;rfl|apply wE pk;rfl;rfl|refine aA rfl ?_ ?_<;>intro h<;>(try simp at h)<;>try omega|(refine aC ?_;first|refine ⟨_,_,_,rfl,zwr _,zsr _, ?_,rfl⟩;(fail)|refine ⟨_,_,_,rfl,zwr _,aL ‹_›, ?_,rfl⟩;(rfl)|refine ⟨_,_,_,rfl,zwf _,zsr _, ?_,rfl⟩;(fail)|refine ⟨_,_,_,rfl,zwf _,aL ‹_›, ?_,rfl⟩;(fail)|(refine ⟨_,_,_,rfl,zwr _,zsr _, ?_,rfl⟩)|(refine ⟨_,_,_,rfl,zwf _,aL ‹_›, ?_,rfl⟩))|(apply tI;rfl;rfl;rfl;(intro _;apply hT<;>first|assumption|omega);rotate_left;rfl;rfl))
 have hil:i<cols.length:=by omega
 have hs:=aoP cols[i]
 have hmap:((cols.take (i+1)).map dW).map I1=((cols.take i).map dW).map I1++[I1 (dW cols[i])]:=by rw [List.take_succ_eq_append_getElem hil,List.map_append,List.map_append];rfl
 have htl:((cols.take i).map dW).length<=i:=by rw [zql];exact List.length_take_le ..
 generalize dW cols[i]=K at*
 (try apply wO pk;rfl);(repeat' first|show All _;constructor|show Imp _ _;constructor|apply wC pk;rfl;rfl|apply wE pk;rfl;rfl|refine aA rfl ?_ ?_<;>intro h<;>(try simp at h)<;>try omega|(apply aH;rfl;rfl;rfl;(intro _;apply hs<;>first|assumption|omega);rotate_left;rfl;rfl)|apply aN pk;(iterate 6 rfl);rotate_left;rfl;(intro hw;rfl);(intro hw;apply aI<;>omega);(intro _;rfl);rfl|(refine ⟨⟨(i+1,id'),by simp only;omega,iK hid'⟩, ?_,by simp only;omega⟩;((dsimp only;rw [hmap]));(((repeat (first|refine Sub.pv ?_ rfl|refine Sub.var ?_ rfl rfl|refine Sub.pv' ?_ rfl (by (first|rfl|simp [I1];done))));(exact Sub.nil _ _ _ (cQ ‹_›) rfl))))|(apply apS pk (K) 8;(iterate 8 rfl);exact aB _ _ _;exact λ_=>rfl;exact λ_=>rfl;exact vJ;(omega);(omega);rfl;intro id' hid')|intros;(try simp only [zql]);omega)
end X
theorem ajM (s:Sc) (hl:s.length<200000000000000) (hB:∀t∈s,TbB t) (hT:∀t∈s,oT t) (hc:∀t∈s,t.cols.length<10000000000):PF Tryz.prog 98 [.agg (scC s)] (PV.val (Value.int .i64 (rightC s))):=by
 have hr:=wI s hl hB
 by_cases h0:¬cL s=0
 ·have e:rightC s=cL s:=by unfold rightC;rw [if_neg h0]
  rw [e]
  generalize cL s=R at*
  refine aG aF Tryz.func98 (by kernel_rfl) rfl rfl rfl rfl (λst=> ?_)
  (try apply wO pk;rfl);(repeat' first|show All _;constructor|show Imp _ _;constructor|apply wC pk;rfl;rfl|apply wE pk;rfl;rfl|refine aA rfl ?_ ?_<;>intro h<;>(try simp at h)<;>try omega|(refine aC ?_;refine ⟨_,_,_,rfl,zwr _,zsr _, ?_,rfl⟩;try rfl)|(apply aH;rfl;rfl;rfl;(intro _;apply hr<;>first|assumption|omega);rotate_left;rfl;rfl))
 replace h0:=Decidable.of_not_not h0
 have e:rightC s=dR rightX s:=by unfold rightC;rw [if_pos h0]
 rw [e]
 rw [h0] at hr
 clear e h0
 refine aG aF Tryz.func98 (by kernel_rfl) rfl rfl rfl rfl (λst=> ?_)
 focus ((try apply wO pk;rfl);(repeat' first|show All _;constructor|show Imp _ _;constructor|apply wC pk;rfl;rfl|apply wE pk;rfl;rfl|refine aA rfl ?_ ?_<;>intro h<;>(try simp at h)<;>try omega|(apply aH;rfl;rfl;rfl;(intro _;apply hr<;>first|assumption|omega);rotate_left;rfl;rfl)))
 refine aK (X:={x:Nat//x<=s.length/\∀j (h:j<s.length),j<x->rightX s[j]=0}) (λi=>((((St.nil 37 st).pv 15 (.seq (s.map Tb.cells))).pv 16 ((PV.val (Value.int .i64 (((s.map Tb.cells).length:Nat)))))).pv 17 ((PV.val (Value.int .i64 ((i.1:Nat))))))) (λi=>s.length-i.1) ⟨0,by omega,by omega⟩ ?_ (λi=> ?_)
 ·((repeat refine Sub.pv ?_ rfl);exact Sub.nil _ _ _ (zsr _) rfl)
 obtain ⟨i,hi,hI⟩:=i
 dsimp only
 by_cases hend:s.length<=i
 ·have e:dR rightX s=0:=mU λj hj=>hI j hj (by omega)
  (try apply wO pk;rfl);(repeat' first|show All _;constructor|apply wC pk;rfl;rfl|refine aA rfl ?_ ?_<;>intro h<;>(try simp at h)<;>try omega|(refine aC ?_;refine ⟨_,_,_,rfl,zwr _,zsr _, ?_,rfl⟩;try first|rfl|(rw [e]);done))
 have hil:i<s.length:=by omega
 have hk:=hT _ (zgm hil)
 have hcl:=hc _ (zgm hil)
 have hkl:=(hB _ (zgm hil)).k
 have e:=sJ hI hil
 have hu:=sE hI hil
 focus ((try apply wO pk;rfl);(repeat' first|show All _;constructor|show Imp _ _;constructor|apply wC pk;rfl;rfl|apply wE pk;rfl;rfl|refine aA rfl ?_ ?_<;>intro h<;>(try simp at h)<;>try omega|apply aN pk;(iterate 6 rfl);rotate_left;rfl;(intro hw;rfl);(intro hw;apply aI<;>omega);(intro _;rfl);rfl|intros;(try simp only [zql]);omega))
 refine aK (X:={x:Nat//x<=s[i].checks.length/\∀j (h:j<s[i].checks.length),j<x->X.RightR (exOf s[i].checks[j]) (s[i].cols.map dW)=0}) (λy=>((((((((St.nil 37 st).var 5 121 (s[i].cells)).pv 15 (.seq (s.map Tb.cells))).pv 16 ((PV.val (Value.int .i64 (((s.map Tb.cells).length:Nat)))))).pv 17 ((PV.val (Value.int .i64 ((i:Nat)))))).pv 22 (.seq s[i].checks)).pv 23 ((PV.val (Value.int .i64 ((s[i].checks.length:Nat)))))).pv 24 ((PV.val (Value.int .i64 ((y.1:Nat))))))) (λy=>s[i].checks.length-y.1) ⟨0,by omega,by omega⟩ ?_ (λy=> ?_)
 ·((repeat (first|refine Sub.pv ?_ rfl|refine Sub.var ?_ rfl rfl));exact Sub.nil _ _ _ (zsr _) rfl)
 obtain ⟨y,hy,hyI⟩:=y
 dsimp only
 by_cases hend2:s[i].checks.length<=y
 ·have e2:rightX s[i]=0:=mU λj hj=>hyI j hj (by omega)
  (try apply wO pk;rfl);(repeat' first|show All _;constructor|apply wC pk;rfl;rfl|refine aA rfl ?_ ?_<;>intro h<;>(try simp at h)<;>try omega|refine ⟨⟨i+1,by omega,hu e2⟩, ?_,by simp only;omega⟩;((repeat refine Sub.pv ?_ rfl);exact Sub.nil _ _ _ (zsr _) rfl)|intros;(try simp only [zql]);omega)
 have hyl:y<s[i].checks.length:=by omega
 obtain ⟨hok,hcc⟩:=yH (hk _ (zgm hyl))
 have he:=sJ (f:=λc=>X.RightR (exOf c) (s[i].cols.map dW)) hyI hyl
 have hyu:=sE (f:=λc=>X.RightR (exOf c) (s[i].cols.map dW)) hyI hyl
 change X.RightR (exOf s[i].checks[y]) (s[i].cols.map dW)≠0->rightX s[i]=X.RightR (exOf s[i].checks[y]) (s[i].cols.map dW) at he
 change X.RightR (exOf s[i].checks[y]) (s[i].cols.map dW)=0->_ at hyu
 have hE:=X.Right_spec hok s[i].cols hcl
 have hget:s[i].checks[y]?=some (exOf s[i].checks[y]).cells:=by rw [hcc,List.getElem?_eq_getElem hyl]
 generalize X.RightR (exOf s[i].checks[y]) (s[i].cols.map dW)=p at*
 generalize exOf s[i].checks[y]=x at*
 obtain ⟨xk,xn,xv,xo⟩:=x
 by_cases hp:p=0
 ·(try apply wO pk;rfl);(repeat' first|show All _;constructor|show Imp _ _;constructor|apply wC pk;rfl;rfl|apply wE pk;rfl;rfl|refine aA rfl ?_ ?_<;>intro h<;>(try simp at h)<;>try omega|(apply aH;rfl;rfl;rfl;(intro _;apply hE<;>first|assumption|omega);rotate_left;rfl;rfl)|apply aN pk;(iterate 6 rfl);rotate_left;rfl;(intro hw;rfl);(intro hw;apply hget<;>omega);(intro _;rfl);rfl|(refine ⟨⟨y+1,by omega,hyu hp⟩, ?_,by simp only;omega⟩;((repeat (first|refine Sub.pv ?_ rfl|refine Sub.var ?_ rfl rfl));exact Sub.nil _ _ _ (zsr _) rfl))|intros;(try simp only [zql]);omega)
 ·have hfin:dR rightX s=p:=by rw [e (by rw [he hp];exact hp),he hp]
  (try apply wO pk;rfl);(repeat' first|show All _;constructor|show Imp _ _;constructor|apply wC pk;rfl;rfl|apply wE pk;rfl;rfl|refine aA rfl ?_ ?_<;>intro h<;>(try simp at h)<;>try omega|(refine aC ?_;refine ⟨_,_,_,rfl,zwr _,zsr _, ?_,rfl⟩;try first|rfl|(rw [hfin]);done)|(apply aH;rfl;rfl;rfl;(intro _;apply hE<;>first|assumption|omega);rotate_left;rfl;rfl)|apply aN pk;(iterate 6 rfl);rotate_left;rfl;(intro hw;rfl);(intro hw;apply hget<;>omega);(intro _;rfl);rfl)
end Go.Proofs.YtloecjjehapblaaGreatDoor
namespace Go.Proofs.YtloecjjehapblaaGreatDoor
open Go Go.Abs
attribute [local irreducible] Ev PWp
set_option maxRecDepth 10000
set_option maxHeartbeats 4000000
def dS (xs:List Vl) (i:Nat) (ys:List Vl):List Vl:=xs.take i++ys++xs.drop i
theorem akA (xs:List Vl) (i:Nat) (ys:List Vl):(dS xs i ys).map Vl.cells=(xs.map Vl.cells).take i++ys.map Vl.cells++(xs.map Vl.cells).drop i:=by
 unfold dS
 rw [List.map_append,List.map_append,List.map_take,List.map_drop]
theorem xG {xs:List Vl} {i:Nat} {ys:List Vl} (hi:i<=xs.length):(dS xs i ys).length=xs.length+ys.length:=by
 unfold dS
 simp only [zla,zlt,zld];omega
def aFD (st:aJ) (id:Nat) (zs:List Vl) (r:PV) (S:aJ):Prop:=∃id',r= .vec id' 3 0 zs.length/\upd st id none id'=none/\S=upd (upd st id none) id' (some (.arr 57 (zs.map Vl.cells)))
theorem aiO (xs ys:List Vl) (i id n:Nat) (st:aJ) (hst:st id=some (.arr 57 (xs.map Vl.cells))) (hn:xs.length=n) (hi:i<=n) (hy:ys≠[]) (hl:n+ys.length<1000000000000):PC Tryz.prog 182 [.vec id 3 0 n,(PV.val (Value.int .i64 ((i:Nat)))), .seq (ys.map Vl.cells)] st (aFD st id (dS xs i ys)):=by
 obtain ⟨m,hm⟩:∃m,ys.length=m:=⟨_,rfl⟩
 have hln:(ys.map Vl.cells).length=m:=(zql _).trans hm
 have hm0:0<m:=by rw [<-hm];exact List.length_pos_iff.2 hy
 rw [hm] at hl
 have hzl:(dS xs i ys).length=n+m:=by rw [xG (by omega),hn,hm]
 have hzm:=akA xs i ys
 have hB:=asO
 refine bZ aF Tryz.func182 (by kernel_rfl) rfl rfl rfl rfl ?_
 by_cases hin:i=n
 ·subst hin
  have hz:dS xs i ys=xs++ys:=by unfold dS;rw [List.take_of_length_le (by omega),List.drop_of_length_le (by omega),List.append_nil]
  (try apply wO pk;rfl);(repeat' first|exact absurd (show ys=[] by assumption) hy|show All _;constructor|show Imp _ _;constructor|apply wC pk;rfl;rfl|apply wE pk;rfl;rfl|refine aA rfl ?_ ?_<;>intro h<;>(try simp at h)<;>try omega|(try refine aC ?_);((refine ⟨_,_,_,rfl,zwr _,zsr _, ?_⟩;(exact ⟨id',(by rw [hzl,hm]),iW hid',(by rw [hz];rfl)⟩);done))|(apply apV pk (f:=Vl.cells) ys 32;(iterate 9 rfl);(assumption);(omega);exact λ_=>rfl;exact λ_=>rfl;exact hB;(omega);(omega);rfl;intro id' hid')|apply asD pk i i;(iterate 4 rfl);rotate_left;rfl;(intro _;exact aT rfl rfl);(intro _;exact bD);(intro _;omega);(intro _;omega);rfl)
 have hlt:i<n:=by omega
 have hxl:(xs.map Vl.cells).length=n:=(zql _).trans hn
 have hX1:∀r∈xs.map Vl.cells,r.all PV.one=true:=λr hr=>by obtain ⟨a,_,rfl⟩:=List.mem_map.1 hr;rfl
 have hX3:∀r∈xs.map Vl.cells,r.length=3:=λr hr=>by obtain ⟨a,_,rfl⟩:=List.mem_map.1 hr;rfl
 have hY1:∀r∈ys.map Vl.cells,r.all PV.one=true:=λr hr=>by obtain ⟨a,_,rfl⟩:=List.mem_map.1 hr;rfl
 have hY3:∀r∈ys.map Vl.cells,r.length=3:=λr hr=>by obtain ⟨a,_,rfl⟩:=List.mem_map.1 hr;rfl
 have hj:∀k,(xs.map Vl.cells++aZ k 3).length=n+k:=λk=>by rw [zla,hxl];unfold aZ;rw [List.length_replicate]
 generalize hXe:xs.map Vl.cells=X at*
 generalize hYe:ys.map Vl.cells=Y at*
 have hYn:Y≠[]:=λe=>by rw [e] at hln;simp at hln;omega
 obtain ⟨yc,ycs,yr,hYc⟩:∃c cs rest,Y=(c::cs)::rest:=by
  cases hY0:Y with
  |nil=>exact absurd hY0 hYn
  |cons a b=>
   cases ha:a with
   |nil=>have:=hY3 a (by rw [hY0];simp);rw [ha] at this;cases this
   |cons c cs=>exact ⟨c,cs,b,rfl⟩
 refine sI 0 m (id:=id) (rows:=X) rfl hst tL hxl (by omega) (by omega) (λk id1 hk hid1=> ?_) (λid1 hid1=> ?_)
 ·have hid1:st id1=none:=hid1
  have htk:(X++aZ k 3).take i=X.take i:=List.take_append_of_le_length (by omega)
  have hgl:(X.take i++aZ (n+m-i) 3).length=n+m:=by rw [zla,zlt];unfold aZ;rw [List.length_replicate];omega
  have hg2:(aU (X.take i++aZ (n+m-i) 3) i Y).length=n+m:=by rw [dX (by omega),hgl]
  have hgr:aU (aU (X.take i++aZ (n+m-i) 3) i Y) (i+m) (X.drop i)=(dS xs i ys).map Vl.cells:=by rw [hzm];rw [<-hxl];exact sS hln (by omega)
  (try apply wO pk;rfl);(repeat' first|exact absurd (show Y=[] by assumption) hYn|(refine aC ?_;refine ⟨_,_,upd (upd st id none) id2 (some (.arr 57 ((dS xs i ys).map Vl.cells))),rfl,zwr _,nD (by rw [hgr]) hid1,id2,(by rw [hzl];congr 1;omega),lO hid2,rfl⟩)|apply wD pk [8] [];kernel_rfl;rfl;rfl|show All _;constructor|show Imp _ _;constructor|apply wC pk;rfl;rfl|apply wE pk;rfl;rfl|refine aA rfl ?_ ?_<;>intro h<;>(try simp at h)<;>try omega|(refine ahO pk (rows:=X++aZ k 3) rfl rfl rfl rfl (.inr (aB _ _ _)) (by rw [hj];omega) rfl (λc hc1 hc2=> ?_);have hc3:=hc2 (aB _ _ _);rw [hj] at hc3)|apply xD pk (j:=i) (rows:=X++aZ k 3);(iterate 4 rfl);rotate_left;rfl;rfl;exact .inr (aB _ _ _);(rw [hj];omega);exact aT rfl rfl;(rw [hj];omega)|(refine apZ pk (kq:= .i64) (kn:= .i64) (i:=i) (m:=n+m-i) (sz:=3) (rows:=X++aZ k 3) 32 rfl (congrArg (λz=>some (PV.val (.int .i64 z))) (show _=((n+m-i:Nat):Int) from by omega)) rfl (by kernel_rfl) rfl rfl rfl rfl (aB _ _ _) (by rw [hj];omega) (by rw [hj];omega) (by rw [hj];omega) hB (by omega) (by omega) (by omega) rfl (λid2 hid2=> ?_);rw [htk];have hne:id1≠id2:=(λe=>by rw [<-e] at hid2;have hid2:=(aB _ _ _).symm.trans hid2;cases hid2))|apply eQ pk (i) (n+m-i);(iterate 4 rfl);rotate_left;rfl;(intro _;exact ⟨_,aT rfl rfl,by omega⟩);(intro _;exact ⟨_,bD,by omega⟩);(intro _;omega);(intro _;omega);rfl|apply eQ pk (i+m) (n-i);(iterate 4 rfl);rotate_left;rfl;(intro _;exact ⟨_,aT rfl (show _=((i+m:Nat):Int) from by omega),by omega⟩);(intro _;exact ⟨_,bD,by omega⟩);(intro _;omega);(intro _;omega);rfl|apply eQ pk (i) (n-i);(iterate 4 rfl);rotate_left;rfl;(intro _;exact ⟨_,aT rfl rfl,by omega⟩);(intro _;exact ⟨_,bD,by omega⟩);(intro _;omega);(intro _;omega);rfl|(refine jK pk (e:=57) (sz:=3) (rows:=X.take i++aZ (n+m-i) 3) (new:=Y) (m:=Y.length) (n:=Y.length) (len:=n+m-i) rfl rfl rfl rfl rfl (aB _ _ _) (by omega) (pV aF rfl rfl rfl hY3 hY1) rfl hY3 (by omega) (by omega) rfl ?_)|(refine jK pk (e:=57) (sz:=3) (rows:=aU (X.take i++aZ (n+m-i) 3) i Y) (new:=X.drop i) (m:=n-i) (n:=n-i) (len:=n-i) rfl rfl rfl rfl rfl (aB _ _ _) (by omega) (lN (k:=k) rfl (.inr ((aD ‹_›).trans ((aD ‹_›).trans (aB _ _ _)))) hxl (by omega) tL hX1 (by omega) (by omega)) (by rw [zld];omega) (λr hr=>hX3 r (List.mem_of_mem_drop hr)) (by omega) (by omega) rfl ?_)|intros;(try simp only [zql]);omega)
 ·have hid1:st id1=none:=hid1
  have hg2:(aU (X++aZ m 3) (i+m) (X.drop i)).length=n+m:=by rw [dX (by rw [zld,hj];omega),hj]
  have hgr:aU (aU (X++aZ m 3) (i+m) (X.drop i)) i Y=(dS xs i ys).map Vl.cells:=by rw [hzm];exact tK hln (by omega)
  (try apply wO pk;rfl);(repeat' first|exact absurd (show Y=[] by assumption) hYn|(refine aC ?_;refine ⟨_,_,upd (upd st id none) id1 (some (.arr 57 ((dS xs i ys).map Vl.cells))),rfl,zwr _,nC (by rw [hgr]),id1,(by rw [hzl]),iW hid1,rfl⟩)|apply wD pk [8] [];kernel_rfl;rfl;rfl|show All _;constructor|show Imp _ _;constructor|apply wC pk;rfl;rfl|apply wE pk;rfl;rfl|refine aA rfl ?_ ?_<;>intro h<;>(try simp at h)<;>try omega|apply eQ pk (i) (n-i);(iterate 4 rfl);rotate_left;rfl;(intro _;exact ⟨_,aT rfl rfl,by omega⟩);(intro _;exact ⟨_,bD,by omega⟩);(intro _;omega);(intro _;omega);rfl|apply eQ pk (i) (n+m-i);(iterate 4 rfl);rotate_left;rfl;(intro _;exact ⟨_,aT rfl rfl,by omega⟩);(intro _;exact ⟨_,bD,by omega⟩);(intro _;omega);(intro _;omega);rfl|apply eQ pk (i+m) (n-i);(iterate 4 rfl);rotate_left;rfl;(intro _;exact ⟨_,aT rfl (show _=((i+m:Nat):Int) from by omega),by omega⟩);(intro _;exact ⟨_,bD,by omega⟩);(intro _;omega);(intro _;omega);rfl|(refine ahO pk (rows:=X++aZ m 3) rfl rfl rfl rfl (.inl (aB _ _ _)) (by rw [hj];omega) rfl (λc hc1 hc2=> ?_);rw [hj] at hc1)|apply xD pk (j:=n+m) (rows:=X++aZ m 3);(iterate 4 rfl);rotate_left;rfl;rfl;exact .inl (aB _ _ _);(rw [hj];omega);exact aT rfl (show _=((n+m:Nat):Int) from by omega);(rw [hj];omega)|(refine ovA pk (w:=true) (tS:=34) (tR:=4) (off:=i+m) (len:=n-i) (e:=57) (sz:=3) (rows:=X++aZ m 3) rfl rfl Tryz.func279 (by kernel_rfl) (by kernel_rfl) (by kernel_rfl) (by kernel_rfl) rfl rfl rfl hYc rfl (.inl (aB _ _ _)) (by rw [hj];omega) tL (by omega) ?_ rfl rfl ?_;rotate_left)|(refine jK pk (e:=57) (sz:=3) (rows:=X++aZ m 3) (new:=X.drop i) (m:=n+m-i) (n:=n-i) (len:=n-i) rfl rfl rfl rfl rfl (aB _ _ _) (by rw [hj];omega) (lN (k:=m) rfl (.inl (aB _ _ _)) hxl (by omega) tL hX1 (by omega) (by omega)) (by rw [zld];omega) (λr hr=>hX3 r (List.mem_of_mem_drop hr)) (by omega) (by omega) rfl ?_)|(refine jK pk (e:=57) (sz:=3) (rows:=aU (X++aZ m 3) (i+m) (X.drop i)) (new:=Y) (m:=Y.length) (n:=Y.length) (len:=n+m-i) rfl rfl rfl rfl rfl (aB _ _ _) (by omega) (pV aF rfl rfl rfl hY3 hY1) rfl hY3 (by omega) (by omega) rfl ?_)|intros;(try simp only [zql]);omega)
def gS (a b:Vl):Bool:=if a.kind≠b.kind then decide (a.kind<b.kind) else if a.n≠b.n then decide (a.n<b.n) else Op.bytesLess a.s.toList b.s.toList
def aaC (a b:Vl):Bool:= !gS a b&& !gS b a
theorem rF (a b:Vl):PF Tryz.prog 142 [.agg a.cells, .agg b.cells] (PV.val (Value.bool (gS a b))):=by
 unfold gS
 refine aG aF Tryz.func142 (by kernel_rfl) rfl rfl rfl rfl (λst=> ?_)
 (try apply wO pk;rfl);(repeat' first|show All _;constructor|apply wC pk;rfl;rfl|refine aA rfl ?_ ?_<;>intro h<;>(try simp at h)<;>try omega|(refine aC ?_;refine ⟨_,_,_,rfl,zwr _,zsr _, ?_,rfl⟩;try first|rfl|(simp [*];done);done))
theorem anP (a b:Vl):PF Tryz.prog 144 [.agg a.cells, .agg b.cells] (PV.val (Value.bool (aaC a b))):=by
 have h1:=rF a b
 have h2:=rF b a
 unfold aaC
 refine aG aF Tryz.func144 (by kernel_rfl) rfl rfl rfl rfl (λst=> ?_)
 (try apply wO pk;rfl);(repeat' first|show All _;constructor|show Imp _ _;constructor|show ImpX _ _ _ _;constructor|apply wE pk;rfl;rfl|(refine aC ?_;refine ⟨_,_,_,rfl,zwr _,zsr _, ?_,rfl⟩;try rfl)|(apply aH;rfl;rfl;rfl;(intro _;(first|apply h1|apply h2)<;>first|assumption|omega);rotate_left;rfl;rfl))
def atV (o:List Vl) (v:Vl):Nat:=(o.findIdx? λx=> !gS x v).getD o.length
def amV (o:List Vl) (v:Vl):List Vl:=if atV o v<o.length/\aaC o[atV o v]! v=true then o else dS o (atV o v) [v]
def jM (l:List Pt):List Vl:=l.foldl (λo p=>amV o p.val) []
theorem aFf (o:List Vl) (v:Vl):atV o v<=o.length:=by
 unfold atV
 cases h:o.findIdx? λx=> !gS x v with
 |none=>exact Nat.le_refl _
 |some k=>exact Nat.le_of_lt (List.findIdx?_eq_some_iff_getElem.1 h).1
theorem ayW {o:List Vl} {v:Vl} {a:Nat} (ha:a<=o.length) (h1:∀j (h:j<o.length),j<a->gS o[j] v=true) (h2:∀h:a<o.length,gS o[a] v=false):atV o v=a:=by
 unfold atV
 rcases Nat.lt_or_ge a o.length with h|h
 ·rw [List.findIdx?_eq_some_iff_getElem.2 ⟨h,by rw [h2 h];rfl,λj hj=>by rw [h1 j (by omega) hj];simp⟩];rfl
 ·rw [List.findIdx?_eq_none_iff.2 λx hx=>by
   obtain ⟨j,hj,rfl⟩:=List.getElem_of_mem hx
   rw [h1 j hj (by omega)];rfl]
  show o.length=a
  omega
theorem aBz (o:List Vl) (v:Vl):(amV o v).length<=o.length+1:=by
 unfold amV
 split
 ·omega
 ·rw [xG (aFf o v)];exact Nat.le_refl _
theorem arO {l:List Pt} {i:Nat} (h:i<l.length):jM (l.take (i+1))=amV (jM (l.take i)) l[i].val:=by
 unfold jM
 rw [List.take_succ_eq_append_getElem h,List.foldl_append];rfl
theorem alH (l:List Pt):(jM l).length<=l.length:=by
 have key:∀i,i<=l.length->(jM (l.take i)).length<=i:=by
  intro i
  induction i with
  |zero=>intro _;simp [jM]
  |succ i ih=>
   intro h
   rw [arO (by omega)]
   have:=aBz (jM (l.take i)) l[i].val
   have:=ih (by omega)
   omega
 have:=key l.length (Nat.le_refl _)
 rwa [List.take_length] at this
theorem aCo (c:Cl) (hl:c.parts.length<1000000000) (st:aJ):PC Tryz.prog 111 [.agg c.cells] st λr S=>∃id,r= .vec id 3 0 (jM c.parts).length/\st id=none/\S=upd st id (some (.arr 57 ((jM c.parts).map Vl.cells))):=by
 refine bZ aF Tryz.func111 (by kernel_rfl) rfl rfl rfl rfl ?_
 focus ((try apply wO pk;rfl);(repeat' (show All _;constructor)))
 refine mV 3 57 3 rfl rfl rfl (λid hid=> ?_)
 refine aK (X:={x:Nat×Nat×List Vl//x.1<=c.parts.length/\st x.2.1=none/\x.2.2=jM (c.parts.take x.1)}) (λi=>(((((St.nil 51 (upd st i.1.2.1 (some (.arr 57 (i.1.2.2.map Vl.cells))))).pv 3 (.vec i.1.2.1 3 0 i.1.2.2.length)).pv 8 (.seq (c.parts.map Pt.cells))).pv 9 ((PV.val (Value.int .i64 (((c.parts.map Pt.cells).length:Nat)))))).pv 10 ((PV.val (Value.int .i64 ((i.1.1:Nat))))))) (λi=>c.parts.length-i.1.1) ⟨(0,id,[]),by simp,hid,rfl⟩ ?_ (λi=> ?_)
 ·dsimp only
  (((repeat refine Sub.pv ?_ rfl);(exact Sub.nil _ _ _ (zsr _) rfl)))
 obtain ⟨⟨i,id,o⟩,hi,hid,ho⟩:=i
 simp only at hi hid ho
 dsimp only
 have hol:o.length<=i:=by rw [ho];have:=alH (c.parts.take i);rw [zlt] at this;omega
 by_cases hend:c.parts.length<=i
 have e:o=jM c.parts:=by rw [ho,List.take_of_length_le hend]
 subst e
 focus ((try apply wO pk;rfl);(repeat' first|show All _;constructor|apply wC pk;rfl;rfl|refine aA rfl ?_ ?_<;>intro h<;>(try simp at h)<;>try omega|(try refine aC ?_);((refine ⟨_,_,_,rfl,zwr _,zsr _, ?_⟩;(exact ⟨id,rfl,hid,rfl⟩);done))))
 have hil:i<c.parts.length:=by omega
 have hu:=arO hil
 rw [<-ho] at hu
 focus ((try apply wO pk;rfl);(repeat' first|show All _;constructor|show Imp _ _;constructor|apply wC pk;rfl;rfl|apply wE pk;rfl;rfl|refine aA rfl ?_ ?_<;>intro h<;>(try simp at h)<;>try omega|apply aN pk;(iterate 6 rfl);rotate_left;rfl;(intro hw;rfl);(intro hw;apply aI<;>omega);(intro _;rfl);rfl|intros;(try simp only [zql]);omega))
 refine aK (X:={x:Nat//x<=o.length/\∀j (h:j<o.length),j<x->gS o[j] c.parts[i].val=true}) (λy=>(((((((St.nil 51 (upd st id (some (.arr 57 (o.map Vl.cells))))).pv 3 (.vec id 3 0 o.length)).var 5 190 (c.parts[i].cells)).pv 6 ((PV.val (Value.int .i64 ((y.1:Nat)))))).pv 8 (.seq (c.parts.map Pt.cells))).pv 9 ((PV.val (Value.int .i64 (((c.parts.map Pt.cells).length:Nat)))))).pv 10 ((PV.val (Value.int .i64 ((i:Nat))))))) (λy=>o.length-y.1) ⟨0,by omega,by omega⟩ ?_ (λy=> ?_)
 ·(((repeat (first|refine Sub.pv ?_ rfl|refine Sub.var ?_ rfl rfl));(exact Sub.nil _ _ _ (zsr _) rfl)))
 obtain ⟨a,ha,hA⟩:=y
 dsimp only
 by_cases hlt:a<o.length
 have ea:o.toArray[a]! =o[a]:=by rw [getElem!_pos o.toArray a (by simpa using hlt)];simp
 have hless:=rF o.toArray[a]! c.parts[i].val
 have hsame:=anP o.toArray[a]! c.parts[i].val
 have hup:gS o[a] c.parts[i].val=true->∀j (h:j<o.length),j<a+1->gS o[j] c.parts[i].val=true:=λh j hj hja=>by
  rcases Nat.lt_succ_iff_lt_or_eq.1 hja with q|q
  ·exact hA j hj q
  ·subst q;exact h
 have hat:=λh:gS o[a] c.parts[i].val=false=>ayW (v:=c.parts[i].val) ha hA λ_=>h
 have hIf:amV o c.parts[i].val=if atV o c.parts[i].val<o.length/\aaC o[atV o c.parts[i].val]! c.parts[i].val=true then o else dS o (atV o c.parts[i].val) [c.parts[i].val]:=rfl
 cases hF:gS o[a] c.parts[i].val with
 |true=>
  rw [show gS o.toArray[a]! c.parts[i].val=true from by rw [ea];exact hF] at hless
  have hA2:=hup hF
  (try apply wO pk;rfl);(repeat' first|show All _;constructor|show Imp _ _;constructor|show ImpX _ _ _ _;constructor|apply wC pk;rfl;rfl|apply wE pk;rfl;rfl|apply wDx pk;rfl;kernel_rfl;rfl;rfl|refine aA rfl ?_ ?_<;>intro h<;>(try simp at h)<;>try omega|(apply aH;rfl;rfl;rfl;(intro _;apply hless<;>first|assumption|omega);rotate_left;rfl;rfl)|apply ixA pk;(iterate 5 rfl);rotate_left;rfl;(intro hw;(exact (show _=((a:Nat):Int) from by omega)));(intro hw;(omega));rfl;(exact Nat.zero_add _)|apply ldA pk Vl.elem;rfl;rfl;rotate_left;rfl;(exact aB _ _ _);(intro hw;(omega));rfl|(refine ⟨⟨a+1,by omega,hA2⟩, ?_,by simp only;omega⟩;(((repeat (first|refine Sub.pv ?_ rfl|refine Sub.var ?_ rfl rfl));(exact Sub.nil _ _ _ (zsr _) rfl))))|intros;(try simp only [zql]);omega)
 |false=>
  rw [show gS o.toArray[a]! c.parts[i].val=false from by rw [ea];exact hF] at hless
  rw [hat hF,getElem!_pos o a hlt] at hIf
  cases hG:aaC o[a] c.parts[i].val with
  |true=>
   rw [show aaC o.toArray[a]! c.parts[i].val=true from by rw [ea];exact hG] at hsame
   rw [hG] at hIf
   rw [if_pos ⟨hlt,rfl⟩] at hIf
   rw [hIf] at hu
   have hu2:o=jM (c.parts.take (i+1)):=hu.symm
   (try apply wO pk;rfl);(repeat' first|show All _;constructor|show Imp _ _;constructor|show ImpX _ _ _ _;constructor|apply wC pk;rfl;rfl|apply wE pk;rfl;rfl|apply wDx pk;rfl;kernel_rfl;rfl;rfl|refine aA rfl ?_ ?_<;>intro h<;>(try simp at h)<;>try omega|(apply aH;rfl;rfl;rfl;(intro _;(first|apply hless|apply hsame)<;>first|assumption|omega);rotate_left;rfl;rfl)|apply ixA pk;(iterate 5 rfl);rotate_left;rfl;(intro hw;(exact (show _=((a:Nat):Int) from by omega)));(intro hw;(omega));rfl;(exact Nat.zero_add _)|apply ldA pk Vl.elem;rfl;rfl;rotate_left;rfl;(exact aB _ _ _);(intro hw;(omega));rfl|refine ⟨⟨(i+1,id,o),by simp only;omega,hid,hu2⟩, ?_,by simp only;omega⟩;(((repeat refine Sub.pv ?_ rfl);(exact Sub.nil _ _ _ (zsr _) rfl)))|intros;(try simp only [zql]);omega)
  |false=>
   rw [show aaC o.toArray[a]! c.parts[i].val=false from by rw [ea];exact hG] at hsame
   rw [hG] at hIf
   rw [if_neg (by simp)] at hIf
   rw [hIf] at hu
   have hu2:dS o a [c.parts[i].val]=jM (c.parts.take (i+1)):=hu.symm
   (try apply wO pk;rfl);(repeat' first|show All _;constructor|show Imp _ _;constructor|show ImpX _ _ _ _;constructor|apply wC pk;rfl;rfl|apply wE pk;rfl;rfl|apply wDx pk;rfl;kernel_rfl;rfl;rfl|refine aA rfl ?_ ?_<;>intro h<;>(try simp at h)<;>try omega|(apply aH;rfl;rfl;rfl;(intro _;(first|apply hless|apply hsame)<;>first|assumption|omega);rotate_left;rfl;rfl)|apply ixA pk;(iterate 5 rfl);rotate_left;rfl;(intro hw;(exact (show _=((a:Nat):Int) from by omega)));(intro hw;(omega));rfl;(exact Nat.zero_add _)|apply ldA pk Vl.elem;rfl;rfl;rotate_left;rfl;(exact aB _ _ _);(intro hw;(omega));rfl|(apply cB;rfl;rfl;(apply (aiO o [c.parts[i].val] a id o.length _ (aB _ _ _) rfl (by omega) (by simp) (by simp;omega))<;>first|exact aB _ _ _|assumption|omega|(fail));rfl;rfl;rfl;intro _ st' hR;obtain ⟨id2,rfl,hid2,rfl⟩:=hR)|refine ⟨⟨(i+1,id2,dS o a [c.parts[i].val]),by simp only;omega,gQ hid hid2,hu2⟩, ?_,by simp only;omega⟩;(((repeat refine Sub.pv ?_ rfl);(exact Sub.nil _ _ _ (cQ ‹_›) rfl)))|intros;(try simp only [zql]);omega)
 have hIf:amV o c.parts[i].val=dS o a [c.parts[i].val]:=by
  unfold amV
  rw [ayW (v:=c.parts[i].val) ha hA λh=>absurd h hlt,if_neg (by simp [hlt])]
 rw [hIf] at hu
 have hu2:dS o a [c.parts[i].val]=jM (c.parts.take (i+1)):=hu.symm
 obtain rfl:a=o.length:=by omega
 (try apply wO pk;rfl);(repeat' first|show All _;constructor|show Imp _ _;constructor|show ImpX _ _ _ _;constructor|apply wC pk;rfl;rfl|apply wE pk;rfl;rfl|apply wDx pk;rfl;kernel_rfl;rfl;rfl|refine aA rfl ?_ ?_<;>intro h<;>(try simp at h)<;>try omega|(apply aH;rfl;rfl;rfl;(intro _;(first|apply (show PF Tryz.prog 142 [_,_] (PV.val (Value.bool (false))) from by rename_i hh;simp [gw] at hh)|apply (show PF Tryz.prog 144 [_,_] (PV.val (Value.bool (false))) from by rename_i hh;simp [gw] at hh))<;>first|assumption|omega);rotate_left;rfl;rfl)|apply ixA pk;(iterate 5 rfl);rotate_left;rfl;(intro hw;(exact (show _=((o.length:Nat):Int) from by omega)));(intro hw;((focus (simp [gw] at hw;done))));rfl;(exact Nat.zero_add _)|apply ldA pk Vl.elem;rfl;rfl;rotate_left;rfl;(exact aB _ _ _);(intro hw;((focus (simp [gw] at hw;done))));rfl|(apply cB;rfl;rfl;(apply (aiO o [c.parts[i].val] o.length id o.length _ (aB _ _ _) rfl (by omega) (by simp) (by simp;omega))<;>first|exact aB _ _ _|assumption|omega|(fail));rfl;rfl;rfl;intro _ st' hR;obtain ⟨id2,rfl,hid2,rfl⟩:=hR)|refine ⟨⟨(i+1,id2,dS o o.length [c.parts[i].val]),by simp only;omega,gQ hid hid2,hu2⟩, ?_,by simp only;omega⟩;(((repeat refine Sub.pv ?_ rfl);(exact Sub.nil _ _ _ (cQ ‹_›) rfl)))|intros;(try simp only [zql]);omega)
end Go.Proofs.YtloecjjehapblaaGreatDoor
