import Derived.Test.YtloecjjehapblaaGreatDoorOpAs
import Derived.Test.YtloecjjehapblaaGreatDoorOpAm
set_option linter.unusedSimpArgs false
set_option linter.unusedVariables false
namespace Go.Proofs.YtloecjjehapblaaGreatDoor
open Go Go.Abs
section
attribute [local irreducible] Ev PWp
set_option maxRecDepth 10000
set_option maxHeartbeats 4000000
theorem yX {n:Nat} {w:Wr} {s:Sc} {b:Bs} {o:Ot} (hD:DoB n w s b o) (hcol:∀t∈s,t.cols.length<10000000000) (hb:cH T.rightP s b=true):PF Tryz.prog 53 [.agg w.cells, .agg (scC s), .agg (bsC b), .agg o.cells] (lD (bU w s b o)):=by
 have h1:=ajB s o (by have:=hD.len;omega) (λt ht=>by have:=hcol t ht;omega) λt ht=>aeK t o.row (by have:=hcol t ht;omega) (by have:=hD.few.1;omega)
 by_cases hr:eH s o≠0
 ·have e:bU w s b o=([],eH s o):=by unfold bU;rw [zp hr]
  rw [e]
  generalize eH s o=R at*
  refine aG aD Tryz.func53 (by kernel_rfl) rfl rfl rfl rfl (λst=> ?_)
  (try apply wO pk;rfl);(repeat' first|refine aB ?_;exact ⟨_,_,_,rfl,nO _,zsr _,rfl,rfl⟩|show Cn _;constructor|apply wC pk;rfl;rfl|apply wE pk;rfl;rfl|refine aA rfl ?_ ?_<;>intro h<;>(try simp at h)<;>try omega|(apply aH;rfl;rfl;rfl;(intro _;apply h1<;>first|assumption|omega);rotate_left;rfl;rfl))
 have hr:=zdn hr
 rw [aBZ hr]
 rw [hr] at h1
 have h2:=aE7 hD hb hr
 generalize apJ w s b o=R at*
 unfold lD at h2
 by_cases hR:R.2≠0
 ·rw [zp hR]
  refine aG aD Tryz.func53 (by kernel_rfl) rfl rfl rfl rfl (λst=> ?_)
  (try apply wO pk;rfl);(repeat' first|refine aB ?_;exact ⟨_,_,_,rfl,nO _,zsr _,rfl,rfl⟩|show Cn _;constructor|apply wC pk;rfl;rfl|apply wE pk;rfl;rfl|refine aA rfl ?_ ?_<;>intro h<;>(try simp at h)<;>try omega|(apply aH;rfl;rfl;rfl;(intro _;(first|apply h1|apply h2)<;>first|assumption|omega);rotate_left;rfl;rfl))
 ·rw [zn hR]
  have hR:=zdn hR
  obtain ⟨B,e⟩:=R
  dsimp only at hR h2
  subst hR
  refine aG aD Tryz.func53 (by kernel_rfl) rfl rfl rfl rfl (λst=> ?_)
  (try apply wO pk;rfl);(repeat' first|show Cn _;constructor|apply wC pk;rfl;rfl|apply wE pk;rfl;rfl|refine aA rfl ?_ ?_<;>intro h<;>(try simp at h)<;>try omega|(refine aB ?_;refine ⟨_,_,_,rfl,zwr _,zsr _, ?_,rfl⟩;try rfl)|(apply aH;rfl;rfl;rfl;(intro _;(first|apply h1|apply h2)<;>first|assumption|omega);rotate_left;rfl;rfl))
theorem auN (w:Wr) (hk:w.knew.length<1000000000000):PF Tryz.prog 99 [.agg w.cells] (.val (.bool (uP w))):=by
 have h1:=dT w.who.time 1 1125899906842624
 have h2:=dT w.who.dev 1 64
 have h3:=dT w.who.seq 1 1048576
 have h4:=ahM w.knew hk
 unfold uP
 generalize T.withinB w.who.time 1 1125899906842624=A at*
 generalize T.withinB w.who.dev 1 64=B at*
 generalize T.withinB w.who.seq 1 1048576=C at*
 generalize aAi w.knew=D at*
 refine aG aD Tryz.func99 (by kernel_rfl) rfl rfl rfl rfl (λst=> ?_)
 (try apply wO pk;rfl);(repeat' first|show Cn _;constructor|apply wE pk;rfl;rfl|(refine aB ?_;refine ⟨_,_,_,rfl,zwr _,zsr _, ?_,rfl⟩;try rfl)|(apply aH;rfl;rfl;rfl;(intro _;(first|apply h1|apply h2|apply h3|apply h4)<;>first|assumption|omega);rotate_left;rfl;rfl))
theorem wT {n:Nat} {s:Sc} {b:Bs} (hB:CkB n s b) (w:Wr) (hk:w.knew.length<1000000000000):PF Tryz.prog 52 [.agg w.cells, .agg (scC s), .agg (bsC b)] (.val (.bool (rightW w s b))):=by
 have h1:=hB.right
 have h2:=pY hB.bs hB.hn hB.sb hB.len
 have h3:=auN w hk
 unfold rightW mayC
 generalize rightC s=R at*
 generalize cH T.rightP s b=B at*
 generalize uP w=M at*
 refine aG aD Tryz.func52 (by kernel_rfl) rfl rfl rfl rfl (λst=> ?_)
 (try apply wO pk;rfl);(repeat' first|show Cn _;constructor|apply wE pk;rfl;rfl|(refine aB ?_;refine ⟨_,_,_,rfl,zwr _,zsr _, ?_,rfl⟩;try rfl)|(apply aH;rfl;rfl;rfl;(intro _;(first|apply h1|apply h2|apply h3)<;>first|assumption|omega);rotate_left;rfl;rfl))
structure ScK (s:Sc):Prop where
 sb:ScB s
 len:s.length<=20
 col:∀t∈s,t.cols.length<10000000000
 chk:∀t∈s,qY t
theorem ScK.ck {s:Sc} (h:ScK s) {n:Nat} {b:Bs} (hb:BsS n b) (hn:n<=1000):CkB n s b:=⟨h.sb,h.len,h.col,h.chk,hb,hn⟩
theorem kY {n:Nat} {w:Wr} {s:Sc} {b:Bs} {o:Ot} (hK:ScK s) (hD:DoB n w s b o):PF Tryz.prog 21 [.agg (scC s), .agg (bsC b), .agg o.cells, .agg w.who.cells, .seq (w.knew.map I1)] (lD (doP w s b o)):=by
 have h1:=wT (hK.ck hD.S (by omega)) w hD.kn
 unfold doP
 cases hR:rightW w s b with
 |false=>
  rw [hR] at h1
  rw [zn (by simp)]
  refine aG aD Tryz.func21 (by kernel_rfl) rfl rfl rfl rfl (λst=> ?_)
  (try apply wO pk;rfl);(repeat' first|refine aB ?_;exact ⟨_,_,_,rfl,nO _,zsr _,rfl,rfl⟩|show Cn _;constructor|apply wC pk;rfl;rfl|apply wE pk;rfl;rfl|refine aA rfl ?_ ?_<;>intro h<;>(try simp at h)<;>try omega|(apply aH;rfl;rfl;rfl;(intro _;apply h1<;>first|assumption|omega);rotate_left;rfl;rfl))
 |true=>
  rw [hR] at h1
  rw [zp rfl]
  have h2:=yX hD hK.col (dQ.1 hR).2.1
  generalize bU w s b o=R at*
  unfold lD at h2
  refine aG aD Tryz.func21 (by kernel_rfl) rfl rfl rfl rfl (λst=> ?_)
  (try apply wO pk;rfl);(repeat' first|show Cn _;constructor|apply wC pk;rfl;rfl|apply wE pk;rfl;rfl|refine aA rfl ?_ ?_<;>intro h<;>(try simp at h)<;>try omega|(refine aB ?_;refine ⟨_,_,_,rfl,zwr _,zsr _, ?_,rfl⟩;try rfl)|(apply aH;rfl;rfl;rfl;(intro _;(first|apply h1|apply h2)<;>first|assumption|omega);rotate_left;rfl;rfl))
theorem aeL {n:Nat} {w:Wr} {s:Sc} {b:Bs} {l:List Ot} (hK:ScK s) (hW:OpW n b) (hn:n+l.length<=20) (hk:w.knew.length<1000000000000) (hf:∀o∈l,rN o):PF Tryz.prog 18 [.agg (scC s), .agg (bsC b), .seq (l.map Ot.cells), .agg w.who.cells, .seq (w.knew.map I1)] (lD (allP w s b l)):=by
 have h1:=wT (hK.ck (hW.S (by omega)) (by omega)) w hk
 unfold allP
 cases hR:rightW w s b with
 |false=>
  rw [hR] at h1
  rw [zp rfl]
  refine aG aD Tryz.func18 (by kernel_rfl) rfl rfl rfl rfl (λst=> ?_)
  (try apply wO pk;rfl);(repeat' first|refine aB ?_;exact ⟨_,_,_,rfl,nO _,zsr _,rfl,rfl⟩|show Cn _;constructor|apply wC pk;rfl;rfl|apply wE pk;rfl;rfl|refine aA rfl ?_ ?_<;>intro h<;>(try simp at h)<;>try omega|(apply aH;rfl;rfl;rfl;(intro _;apply h1<;>first|assumption|omega);rotate_left;rfl;rfl))
 |true=>
 rw [hR] at h1
 rw [zn (by simp),zn (by omega)]
 obtain ⟨_,hb,hm⟩:=dQ.1 hR
 have hok:=λi (hi:i<=l.length) (h0:(bY w s b (l.take i)).2=0)=>ahU hm (l:=l.take i) hb hW (λo ho=>hf o (List.mem_of_mem_take ho)) h0
 refine aG aD Tryz.func18 (by kernel_rfl) rfl rfl rfl rfl (λst=> ?_)
 focus ((try apply wO pk;rfl);(repeat' first|show Cn _;constructor|apply wC pk;rfl;rfl|apply wE pk;rfl;rfl|refine aA rfl ?_ ?_<;>intro h<;>(try simp at h)<;>try omega|(apply aH;rfl;rfl;rfl;(intro _;apply h1<;>first|assumption|omega);rotate_left;rfl;rfl)))
 refine aK (X:={x:Nat//x<=l.length/\(bY w s b (l.take x)).2=0}) (λi=>((((((((St.nil 61 st).var 5 24 ((scC s))).var 6 27 (bsC (bY w s b (l.take i.1)).1)).var 10 27 ([.val (.slice none 0 0)])).var 12 113 (w.cells)).pv 33 (.seq (l.map Ot.cells))).pv 34 ((PV.val (Value.int .i64 ((((l.map Ot.cells)).length:Nat)))))).pv 35 ((PV.val (Value.int .i64 ((i.1:Nat))))))) (λi=>l.length-i.1) ⟨0,by omega,rfl⟩ ?_ (λi=> ?_)
 ·((repeat (first|refine Sub.pv ?_ rfl|refine Sub.var ?_ rfl rfl));exact Sub.nil _ _ _ (zsr _) rfl)
 obtain ⟨i,hi,h0⟩:=i
 dsimp only
 obtain ⟨o1,o2⟩:=hok i hi h0
 rw [zlt,Nat.min_eq_left hi] at o2
 by_cases hend:l.length<=i
 ·have e:l.take i=l:=ztl hend
  rw [e] at h0 o1 o2⊢
  rw [zn (by simp [h0])]
  have hy:=ajY (hK.ck (o2.S (by omega)) (by omega))
  generalize (bY w s b l).1=B at*
  generalize whyC s B=Y at*
  by_cases hY:Y≠0
  ·rw [zp hY]
   (try apply wO pk;rfl);(repeat' first|refine aB ?_;exact ⟨_,_,_,rfl,nO _,zsr _,rfl,rfl⟩|show Cn _;constructor|apply wC pk;rfl;rfl|apply wE pk;rfl;rfl|refine aA rfl ?_ ?_<;>intro h<;>(try simp at h)<;>try omega|(apply aH;rfl;rfl;rfl;(intro _;apply hy<;>first|assumption|omega);rotate_left;rfl;rfl))
  ·rw [zn hY]
   (try apply wO pk;rfl);(repeat' first|show Cn _;constructor|apply wC pk;rfl;rfl|apply wE pk;rfl;rfl|refine aA rfl ?_ ?_<;>intro h<;>(try simp at h)<;>try omega|(refine aB ?_;refine ⟨_,_,_,rfl,zwr _,zsr _, ?_,rfl⟩;try rfl)|(apply aH;rfl;rfl;rfl;(intro _;apply hy<;>first|assumption|omega);rotate_left;rfl;rfl))
 have hil:i<l.length:=by omega
 have hup:=asK hil h0
 have hst:=λh=>akR (i:=i+1) (l:=l) (w:=w) (s:=s) (b:=b) h
 have h2:=yX (w:=w) (o:=l[i]) (n:=n+i) ⟨hK.sb,hK.len,o2,by omega,hk,hf _ (zgm hil)⟩ hK.col o1
 generalize (bY w s b (l.take i)).1=B at*
 generalize bU w s B l[i]=R at*
 unfold lD at h2
 by_cases hR2:R.2≠0
 ·rw [zp hR2] at hup
  have e:=hst (by rw [hup];exact hR2)
  rw [e,hup,zp hR2]
  (try apply wO pk;rfl);(repeat' first|refine aB ?_;exact ⟨_,_,_,rfl,nO _,zsr _,rfl,rfl⟩|show Cn _;constructor|apply wC pk;rfl;rfl|apply wE pk;rfl;rfl|refine aA rfl ?_ ?_<;>intro h<;>(try simp at h)<;>try omega|(apply aH;rfl;rfl;rfl;(intro _;apply h2<;>first|assumption|omega);rotate_left;rfl;rfl)|apply aO pk;(iterate 6 rfl);rotate_left;rfl;(intro hw;rfl);(intro hw;apply aI<;>omega);(intro _;rfl);rfl)
 ·rw [zn hR2] at hup
  have hR2:=zdn hR2
  (try apply wO pk;rfl);(repeat' first|show Cn _;constructor|apply wC pk;rfl;rfl|apply wE pk;rfl;rfl|refine aA rfl ?_ ?_<;>intro h<;>(try simp at h)<;>try omega|(apply aH;rfl;rfl;rfl;(intro _;apply h2<;>first|assumption|omega);rotate_left;rfl;rfl)|apply aO pk;(iterate 6 rfl);rotate_left;rfl;(intro hw;rfl);(intro hw;apply aI<;>omega);(intro _;rfl);rfl|(refine ⟨⟨i+1,by omega,by rw [hup]⟩, ?_,by simp only;omega⟩;((dsimp only;rw [hup]));((repeat (first|refine Sub.pv ?_ rfl|refine Sub.var ?_ rfl rfl));exact Sub.nil _ _ _ (zsr _) rfl))|intros;(try simp only [zql]);omega)
def nM (v:Vl):Bool:=decide (v.s.size<=40)
def fE (o:Ot):Bool:=decide (o.row.length<=20/\o.val.s.size<=40)&&o.row.all nM
theorem gX {o:Ot}:fE o=true↔rN o:=by
 unfold fE rN nM
 rw [zba,zde,zal,and_assoc]
 simp
theorem lM (o:Ot) (hl:o.row.length<200000000000000):PF Tryz.prog 23 [.agg o.cells] (.val (.bool (fE o))):=by
 unfold fE
 by_cases h:o.row.length<=20/\o.val.s.size<=40
 ·rw [decide_eq_true h,Bool.true_and]
  have hno:∀j (hj:j<o.row.length),nM o.row[j]=false->o.row.all nM=false:=λj hj q=>by
   rw [<-Bool.not_eq_true,zal]
   intro z
   rw [z _ (zgm hj)] at q;cases q
  have hyes:(∀j (hj:j<o.row.length),nM o.row[j]=true)->o.row.all nM=true:=λq=>by
   rw [zal]
   intro v hv
   obtain ⟨j,hj,rfl⟩:=zgo hv
   exact q j hj
  generalize o.row.all nM=A at*
  refine aG aD Tryz.func23 (by kernel_rfl) rfl rfl rfl rfl (λst=> ?_)
  focus ((try apply wO pk;rfl);(repeat' first|show Cn _;constructor|apply wC pk;rfl;rfl|refine aA rfl ?_ ?_<;>intro h<;>(try simp at h)<;>try omega))
  refine aK (X:={x:Nat//x<=o.row.length/\∀j (hj:j<o.row.length),j<x->nM o.row[j]=true}) (λi=>(((St.nil 30 st).var 1 61 (o.cells)).pv 3 ((PV.val (Value.int .i64 ((i.1:Nat))))))) (λi=>o.row.length-i.1) ⟨0,by omega,by omega⟩ ?_ (λi=> ?_)
  ·((repeat (first|refine Sub.pv ?_ rfl|refine Sub.var ?_ rfl rfl));exact Sub.nil _ _ _ (zsr _) rfl)
  obtain ⟨i,hi,hI⟩:=i
  dsimp only
  by_cases hend:o.row.length<=i
  ·have e:=hyes λj hj=>hI j hj (by omega)
   (try apply wO pk;rfl);(repeat' first|show Cn _;constructor|apply wC pk;rfl;rfl|refine aA rfl ?_ ?_<;>intro h<;>(try simp at h)<;>try omega|(refine aB ?_;refine ⟨_,_,_,rfl,zwr _,zsr _, ?_,rfl⟩;try first|rfl|(rw [e]);done))
  have hil:i<o.row.length:=by omega
  by_cases hsv:o.row[i].s.size<=40
  ·have hI2:∀j (hj:j<o.row.length),j<i+1->nM o.row[j]=true:=λj hj hji=>by
    rcases zls.1 hji with q|q
    ·exact hI j hj q
    ·subst q;exact decide_eq_true hsv
   (try apply wO pk;rfl);(repeat' first|show Cn _;constructor|apply wC pk;rfl;rfl|apply wE pk;rfl;rfl|refine aA rfl ?_ ?_<;>intro h<;>(try simp at h)<;>try omega|apply aO pk;(iterate 6 rfl);rotate_left;rfl;(intro hw;rfl);(intro hw;apply aI<;>omega);(intro _;rfl);rfl|(refine ⟨⟨i+1,by omega,hI2⟩, ?_,by simp only;omega⟩;((repeat (first|refine Sub.pv ?_ rfl|refine Sub.var ?_ rfl rfl));exact Sub.nil _ _ _ (zsr _) rfl))|intros;(try simp only [zql]);omega)
  ·have e:=hno i hil (decide_eq_false hsv)
   (try apply wO pk;rfl);(repeat' first|show Cn _;constructor|apply wC pk;rfl;rfl|apply wE pk;rfl;rfl|refine aA rfl ?_ ?_<;>intro h<;>(try simp at h)<;>try omega|(refine aB ?_;refine ⟨_,_,_,rfl,zwr _,zsr _, ?_,rfl⟩;try first|rfl|(rw [e]);done)|apply aO pk;(iterate 6 rfl);rotate_left;rfl;(intro hw;rfl);(intro hw;apply aI<;>omega);(intro _;rfl);rfl)
 ·rw [decide_eq_false h,Bool.false_and]
  refine aG aD Tryz.func23 (by kernel_rfl) rfl rfl rfl rfl (λst=> ?_)
  (try apply wO pk;rfl);(repeat' first|show Cn _;constructor|apply wC pk;rfl;rfl|refine aA rfl ?_ ?_<;>intro h<;>(try simp at h)<;>try omega|(refine aB ?_;refine ⟨_,_,_,rfl,zwr _,zsr _, ?_,rfl⟩;try rfl))
theorem ahO (l:List Ot) (m:Int) (hl:l.length<200000000000000) (hrw:∀o∈l,o.row.length<200000000000000):PF Tryz.prog 16 [.seq (l.map Ot.cells),(.val (.int .i64 m))] (.val (.bool (decide ((l.length:Int)<=m)&&l.all fE))):=by
 by_cases hm:(l.length:Int)<=m
 ·rw [decide_eq_true hm,Bool.true_and]
  have hno:∀j (hj:j<l.length),fE l[j]=false->l.all fE=false:=λj hj q=>by
   rw [<-Bool.not_eq_true,zal]
   intro z
   rw [z _ (zgm hj)] at q;cases q
  have hyes:(∀j (hj:j<l.length),fE l[j]=true)->l.all fE=true:=λq=>by
   rw [zal]
   intro v hv
   obtain ⟨j,hj,rfl⟩:=zgo hv
   exact q j hj
  generalize l.all fE=A at*
  refine aG aD Tryz.func16 (by kernel_rfl) rfl rfl rfl rfl (λst=> ?_)
  focus ((try apply wO pk;rfl);(repeat' first|show Cn _;constructor|apply wC pk;rfl;rfl|refine aA rfl ?_ ?_<;>intro h<;>(try simp at h)<;>try omega))
  refine aK (X:={x:Nat//x<=l.length/\∀j (hj:j<l.length),j<x->fE l[j]=true}) (λi=>(((St.nil 24 st).pv 0 (.seq (l.map Ot.cells))).pv 5 ((PV.val (Value.int .i64 ((i.1:Nat))))))) (λi=>l.length-i.1) ⟨0,by omega,by omega⟩ ?_ (λi=> ?_)
  ·((repeat refine Sub.pv ?_ rfl);exact Sub.nil _ _ _ (zsr _) rfl)
  obtain ⟨i,hi,hI⟩:=i
  dsimp only
  by_cases hend:l.length<=i
  ·have e:=hyes λj hj=>hI j hj (by omega)
   (try apply wO pk;rfl);(repeat' first|show Cn _;constructor|apply wC pk;rfl;rfl|refine aA rfl ?_ ?_<;>intro h<;>(try simp at h)<;>try omega|(refine aB ?_;refine ⟨_,_,_,rfl,zwr _,zsr _, ?_,rfl⟩;try first|rfl|(rw [e]);done))
  have hil:i<l.length:=by omega
  have hf:=lM l[i] (hrw _ (zgm hil))
  have hno:=hno i hil
  have hI2:fE l[i]=true->∀j (hj:j<l.length),j<i+1->fE l[j]=true:=λq j hj hji=>by
   rcases zls.1 hji with z|z
   ·exact hI j hj z
   ·subst z;exact q
  generalize fE l[i]=F at*
  cases F with
  |true=>
   have hI2:=hI2 rfl
   (try apply wO pk;rfl);(repeat' first|show Cn _;constructor|apply wC pk;rfl;rfl|apply wE pk;rfl;rfl|refine aA rfl ?_ ?_<;>intro h<;>(try simp at h)<;>try omega|(apply aH;rfl;rfl;rfl;(intro _;apply hf<;>first|assumption|omega);rotate_left;rfl;rfl)|apply aO pk;(iterate 6 rfl);rotate_left;rfl;(intro hw;rfl);(intro hw;apply aI<;>omega);(intro _;rfl);rfl|refine ⟨⟨i+1,by omega,hI2⟩, ?_,by simp only;omega⟩;((repeat refine Sub.pv ?_ rfl);exact Sub.nil _ _ _ (zsr _) rfl)|intros;(try simp only [zql]);omega)
  |false=>
   have e:=hno rfl
   (try apply wO pk;rfl);(repeat' first|show Cn _;constructor|apply wC pk;rfl;rfl|apply wE pk;rfl;rfl|refine aA rfl ?_ ?_<;>intro h<;>(try simp at h)<;>try omega|(refine aB ?_;refine ⟨_,_,_,rfl,zwr _,zsr _, ?_,rfl⟩;try first|rfl|(rw [e]);done)|(apply aH;rfl;rfl;rfl;(intro _;apply hf<;>first|assumption|omega);rotate_left;rfl;rfl)|apply aO pk;(iterate 6 rfl);rotate_left;rfl;(intro hw;rfl);(intro hw;apply aI<;>omega);(intro _;rfl);rfl)
 ·rw [decide_eq_false hm,Bool.false_and]
  refine aG aD Tryz.func16 (by kernel_rfl) rfl rfl rfl rfl (λst=> ?_)
  (try apply wO pk;rfl);(repeat' first|show Cn _;constructor|apply wC pk;rfl;rfl|refine aA rfl ?_ ?_<;>intro h<;>(try simp at h)<;>try omega|(refine aB ?_;refine ⟨_,_,_,rfl,zwr _,zsr _, ?_,rfl⟩;try rfl))
theorem sA (s:Sc) (b:Bs) (hl:s.length<200000000000000) (hB:ScB s) (hK:∀t∈s,qY t) (hb:BsB b):PF Tryz.prog 17 [.agg (scC s), .agg (bsC b)] (.val (.bool (fewC s b))):=by
 have h:=axA s b hl hB hK hb
 generalize fewC s b=F at*
 refine aG aD Tryz.func17 (by kernel_rfl) rfl rfl rfl rfl (λst=> ?_)
 (try apply wO pk;rfl);(repeat' first|show Cn _;constructor|apply wE pk;rfl;rfl|(refine aB ?_;refine ⟨_,_,_,rfl,zwr _,zsr _, ?_,rfl⟩;try rfl)|(apply aH;rfl;rfl;rfl;(intro _;apply h<;>first|assumption|omega);rotate_left;rfl;rfl))
theorem ScK.of {s:Sc} {b:Bs} (h:fewC s b=true) (hB:ScB s) (hK:∀t∈s,qY t):ScK s/\OpW 0 b:=by
 have hC:=CkB.of h hB hK
 refine ⟨⟨hC.sb,hC.len,hC.col,hC.chk⟩,aFW ?_⟩
 unfold fewC at h
 simp only [zba] at h
 first|exact h.1.2|exact h.2.1|exact h.1.1|exact h.2|exact h.1
end
section
attribute [local irreducible] Ev PWp
set_option maxRecDepth 10000
set_option maxHeartbeats 4000000
theorem aCJ {w:Wr} {s:Sc} {b:Bs} {o:Ot} {k:Nat} (h:OpW k b) (ho:rN o):OpW (k+1) (doP w s b o).1:=by
 unfold doP
 split
 ·exact aBY h ho
 ·exact OpW.nil _
section
variable (hA:PF Tryz.prog 15 [] (PV.val (Value.bool (true))))
include hA
theorem agR (s:Sc) (b:Bs) (l:List Ot) (who:T.Sp) (kn:List Int) (hs:ScG s) (hb:BsB b) (hl:l.length<200000000000000) (hro:∀o∈l,o.row.length<200000000000000) (hkn:kn.length<200000000000000):PF Tryz.prog 5 [.agg (scC s), .agg (bsC b), .seq (l.map Ot.cells), .agg who.cells, .seq (kn.map I1)] (.val (.bool true)):=by
 have hf:=sA s b hs.l hs.b hs.k hb
 have hfo:=ahO l 8 hl hro
 cases g1:fewC s b with
 |false=>
  rw [g1] at hf
  generalize (decide ((l.length:Int)<=8)&&l.all fE)=F at*
  refine aG aD Tryz.func5 (by kernel_rfl) rfl rfl rfl rfl (λst=> ?_)
  (try apply wO pk;rfl);(repeat' first|show Cn _;constructor|apply wC pk;rfl;rfl|apply wE pk;rfl;rfl|apply wX pk;rfl|apply wN pk;rfl|apply wD pk [] [];kernel_rfl;rfl;rfl|apply aM;simp only [zqt,zqf]|refine aA rfl ?_ ?_<;>intro h<;>(try simp at h)<;>try omega|(refine aB ?_;refine ⟨_,_,_,rfl,zwr _,zsr _, ?_,rfl⟩;try rfl)|(apply aH;rfl;rfl;rfl;(intro _;(first|apply hA|apply hf|apply hfo)<;>first|assumption|omega);rotate_left;rfl;rfl)|intros;(try simp only [zql]);omega|((exfalso;simp at*;done)))
 |true=>
 rw [g1] at hf
 cases g2:(decide ((l.length:Int)<=8)&&l.all fE) with
 |false=>
  rw [g2] at hfo
  refine aG aD Tryz.func5 (by kernel_rfl) rfl rfl rfl rfl (λst=> ?_)
  (try apply wO pk;rfl);(repeat' first|show Cn _;constructor|apply wC pk;rfl;rfl|apply wE pk;rfl;rfl|apply wX pk;rfl|apply wN pk;rfl|apply wD pk [] [];kernel_rfl;rfl;rfl|apply aM;simp only [zqt,zqf]|refine aA rfl ?_ ?_<;>intro h<;>(try simp at h)<;>try omega|(refine aB ?_;refine ⟨_,_,_,rfl,zwr _,zsr _, ?_,rfl⟩;try rfl)|(apply aH;rfl;rfl;rfl;(intro _;(first|apply hA|apply hf|apply hfo)<;>first|assumption|omega);rotate_left;rfl;rfl)|intros;(try simp only [zql]);omega|((exfalso;simp at*;done)))
 |true=>
 rw [g2] at hfo
 rw [zba,zde,zal] at g2
 obtain ⟨g2,g2'⟩:=g2
 by_cases g3:kn.length>100
 ·refine aG aD Tryz.func5 (by kernel_rfl) rfl rfl rfl rfl (λst=> ?_)
  (try apply wO pk;rfl);(repeat' first|show Cn _;constructor|apply wC pk;rfl;rfl|apply wE pk;rfl;rfl|apply wX pk;rfl|apply wN pk;rfl|apply wD pk [] [];kernel_rfl;rfl;rfl|apply aM;simp only [zqt,zqf]|refine aA rfl ?_ ?_<;>intro h<;>(try simp at h)<;>try omega|(refine aB ?_;refine ⟨_,_,_,rfl,zwr _,zsr _, ?_,rfl⟩;try rfl)|(apply aH;rfl;rfl;rfl;(intro _;(first|apply hA|apply hf|apply hfo)<;>first|assumption|omega);rotate_left;rfl;rfl)|intros;(try simp only [zql]);omega|((exfalso;simp only [zql] at*;omega)))
 have hkn:kn.length<1000000000000:=by omega
 obtain ⟨hK,hW⟩:=ScK.of g1 hs.b hs.k
 have hfw:∀o∈l,rN o:=λo ho=>gX.1 (g2' o ho)
 have hall:=aeL (w:=⟨who,kn⟩) hK hW (l:=l) (by omega) hkn hfw
 dsimp only at hall
 by_cases hl0:l.length=0
 ·obtain rfl:=List.eq_nil_of_length_eq_zero hl0
  have hx:(allP ⟨who,kn⟩ s b []).2=0->(allP ⟨who,kn⟩ s b []).1=b:=λh=>(aEM h).2.2.2
  have hy:(allP ⟨who,kn⟩ s b []).2≠0->(allP ⟨who,kn⟩ s b []).1=[]:=aFh
  generalize allP ⟨who,kn⟩ s b []=R at*
  obtain ⟨B,e⟩:=R
  dsimp only at hx hy
  unfold lD at hall
  dsimp only at hall
  by_cases he:e=0
  ·obtain rfl:=hx he
   have hsm:=jZ (hW.S (by omega)) (by omega) B
   rw [decide_eq_true rfl] at hsm
   clear hx hy
   refine aG aD Tryz.func5 (by kernel_rfl) rfl rfl rfl rfl (λst=> ?_)
   (try apply wO pk;rfl);(repeat' first|show Cn _;constructor|apply wC pk;rfl;rfl|apply wE pk;rfl;rfl|apply wX pk;rfl|apply wN pk;rfl|apply wD pk [] [];kernel_rfl;rfl;rfl|apply aM;simp only [zqt,zqf]|refine aA rfl ?_ ?_<;>intro h<;>(try simp at h)<;>try omega|(refine aB ?_;refine ⟨_,_,_,rfl,zwr _,zsr _, ?_,rfl⟩;try first|rfl|(simp [he]);done)|(apply aH;rfl;rfl;rfl;(intro _;(first|apply hA|apply hf|apply hfo|apply hall|apply hsm)<;>first|assumption|omega);rotate_left;rfl;rfl)|intros;(try simp only [zql]);omega|((exfalso;simp at*;omega)))
  ·obtain rfl:=hy he
   have hsm:=jZ ((OpW.nil 0).S (by omega)) (by omega) b
   clear hx hy
   generalize decide (([]:Bs)=b)=Sm at*
   refine aG aD Tryz.func5 (by kernel_rfl) rfl rfl rfl rfl (λst=> ?_)
   (try apply wO pk;rfl);(repeat' first|show Cn _;constructor|apply wC pk;rfl;rfl|apply wE pk;rfl;rfl|apply wX pk;rfl|apply wN pk;rfl|apply wD pk [] [];kernel_rfl;rfl;rfl|apply aM;simp only [zqt,zqf]|refine aA rfl ?_ ?_<;>intro h<;>(try simp at h)<;>try omega|(refine aB ?_;refine ⟨_,_,_,rfl,zwr _,zsr _, ?_,rfl⟩;try first|rfl|(simp [he]);done)|(apply aH;rfl;rfl;rfl;(intro _;(first|apply hA|apply hf|apply hfo|apply hall|apply hsm)<;>first|assumption|omega);rotate_left;rfl;rfl)|intros;(try simp only [zql]);omega|((exfalso;simp at*;omega)))
 have hnil:l≠[]:=λq=>hl0 (by rw [q];rfl)
 cases hR:rightW ⟨who,kn⟩ s b with
 |false=>
  have e1:allP ⟨who,kn⟩ s b l=([],1):=by unfold allP;rw [zp hR]
  have hd0:=kY (w:=⟨who,kn⟩) (o:=l[0]'(by omega)) hK (n:=0) (b:=b) ⟨hK.sb,hK.len,hW,by omega,hkn,hfw _ (zgm _)⟩
  have e2:doP ⟨who,kn⟩ s b (l[0]'(by omega))=([],1):=by unfold doP;rw [zn (by rw [hR];simp)]
  rw [e2] at hd0
  rw [e1] at hall
  unfold lD at hall hd0
  dsimp only at hall hd0
  have hg0:(l.map Ot.cells)[0]?=some (l[0]'(by omega)).cells:=by rw [List.getElem?_map,zgg (by omega)];rfl
  refine aG aD Tryz.func5 (by kernel_rfl) rfl rfl rfl rfl (λst=> ?_)
  focus ((try apply wO pk;rfl);(repeat' first|show Cn _;constructor|apply wC pk;rfl;rfl|apply wE pk;rfl;rfl|apply wX pk;rfl|apply wN pk;rfl|apply wD pk [] [];kernel_rfl;rfl;rfl|apply aM;simp only [zqt,zqf]|refine aA rfl ?_ ?_<;>intro h<;>(try simp at h)<;>try omega|(refine aB ?_;refine ⟨_,_,_,rfl,zwr _,zsr _, ?_,rfl⟩;try rfl)|(apply aH;rfl;rfl;rfl;(intro _;(first|apply hA|apply hf|apply hfo|apply hall)<;>first|assumption|omega);rotate_left;rfl;rfl)|intros;(try simp only [zql]);omega|exfalso;exact hnil h|((exfalso;simp only [zql] at*;omega))))
  refine aK (X:={x:Nat//x=0}) (λi=>((((((((((St.nil 105 st).pv 2 (.seq (l.map Ot.cells))).pv 4 (.seq (kn.map I1))).var 5 24 ((scC s))).var 8 47 (who.cells)).pv 11 ((PV.val (Value.bool (true))))).var 13 27 ([.seq []])).pv 14 ((PV.val (Value.int .i64 (1))))).var 15 27 (bsC b)).pv 16 ((PV.val (Value.int .i64 ((i.1:Nat))))))) (λi=>1-i.1) ⟨0,rfl⟩ ?_ (λi=> ?_)
  ·((repeat (first|refine Sub.pv ?_ rfl|refine Sub.var ?_ rfl rfl));exact Sub.nil _ _ _ (zsr _) rfl)
  obtain ⟨i,rfl⟩:=i
  dsimp only
  (try apply wO pk;rfl);(repeat' first|show Cn _;constructor|apply wC pk;rfl;rfl|apply wE pk;rfl;rfl|apply wX pk;rfl|apply wN pk;rfl|apply wD pk [] [];kernel_rfl;rfl;rfl|apply aM;simp only [zqt,zqf]|refine aA rfl ?_ ?_<;>intro h<;>(try simp at h)<;>try omega|(refine aB ?_;refine ⟨_,_,_,rfl,zwr _,zsr _, ?_,rfl⟩;try rfl)|(apply aH;rfl;rfl;rfl;(intro _;apply hd0<;>first|assumption|omega);rotate_left;rfl;rfl)|apply aO pk;(iterate 6 rfl);rotate_left;rfl;(intro hw;rfl);(intro hw;apply hg0<;>omega);(intro _;rfl);rfl|intros;(try simp only [zql]);omega|exfalso;exact hnil h|((exfalso;simp only [zql] at*;omega)))
 |true=>
 obtain ⟨hrc,hbb,hmm⟩:=dQ.1 hR
 have hok:=λi (hi:i<=l.length) (h0:(bY ⟨who,kn⟩ s b (l.take i)).2=0)=>ahU hmm (l:=l.take i) hbb hW (λo ho=>hfw o (List.mem_of_mem_take ho)) h0
 have hae:allP ⟨who,kn⟩ s b l=if (bY ⟨who,kn⟩ s b l).2≠0 then ([],(bY ⟨who,kn⟩ s b l).2) else if whyC s (bY ⟨who,kn⟩ s b l).1≠0 then ([],whyC s (bY ⟨who,kn⟩ s b l).1) else ((bY ⟨who,kn⟩ s b l).1,0):=by unfold allP;rw [zn (by rw [hR];simp),zn (by omega)]
 generalize allP ⟨who,kn⟩ s b l=R at*
 unfold lD at hall
 refine aG aD Tryz.func5 (by kernel_rfl) rfl rfl rfl rfl (λst=> ?_)
 focus ((try apply wO pk;rfl);(repeat' first|show Cn _;constructor|apply wC pk;rfl;rfl|apply wE pk;rfl;rfl|apply wX pk;rfl|apply wN pk;rfl|apply wD pk [] [];kernel_rfl;rfl;rfl|apply aM;simp only [zqt,zqf]|refine aA rfl ?_ ?_<;>intro h<;>(try simp at h)<;>try omega|(refine aB ?_;refine ⟨_,_,_,rfl,zwr _,zsr _, ?_,rfl⟩;try rfl)|(apply aH;rfl;rfl;rfl;(intro _;(first|apply hA|apply hf|apply hfo|apply hall)<;>first|assumption|omega);rotate_left;rfl;rfl)|intros;(try simp only [zql]);omega|exfalso;exact hnil h|((exfalso;simp only [zql] at*;omega))))
 refine aK (X:={x:Nat//x<=l.length/\(bY ⟨who,kn⟩ s b (l.take x)).2=0}) (λi=>((((((((((St.nil 105 st).pv 2 (.seq (l.map Ot.cells))).pv 4 (.seq (kn.map I1))).var 5 24 ((scC s))).var 8 47 (who.cells)).pv 11 ((PV.val (Value.bool (true))))).var 13 27 (bsC R.1)).pv 14 ((PV.val (Value.int .i64 (R.2))))).var 15 27 (bsC (bY ⟨who,kn⟩ s b (l.take i.1)).1)).pv 16 ((PV.val (Value.int .i64 ((i.1:Nat))))))) (λi=>l.length-i.1) ⟨0,by omega,rfl⟩ ?_ (λi=> ?_)
 ·((repeat (first|refine Sub.pv ?_ rfl|refine Sub.var ?_ rfl rfl));exact Sub.nil _ _ _ (zsr _) rfl)
 obtain ⟨i,hi,h0⟩:=i
 dsimp only
 obtain ⟨o1,o2⟩:=hok i hi h0
 rw [zlt,Nat.min_eq_left hi] at o2
 by_cases hend:l.length<=i
 ·have e:l.take i=l:=ztl hend
  rw [e] at h0 o1 o2⊢
  rw [zn (by simp [h0])] at hae
  have hy:=ajY (hK.ck (o2.S (by omega)) (by omega))
  generalize (bY ⟨who,kn⟩ s b l).1=B at*
  generalize whyC s B=Y at*
  by_cases hY:Y≠0
  ·rw [zp hY] at hae
   subst hae
   have hsm:=jZ ((OpW.nil 0).S (by omega)) (by omega) B
   generalize decide (([]:Bs)=B)=Sm at*
   dsimp only
   (try apply wO pk;rfl);(repeat' first|show Cn _;constructor|apply wC pk;rfl;rfl|apply wE pk;rfl;rfl|apply wX pk;rfl|apply wN pk;rfl|apply wD pk [] [];kernel_rfl;rfl;rfl|apply aM;simp only [zqt,zqf]|refine aA rfl ?_ ?_<;>intro h<;>(try simp at h)<;>try omega|(refine aB ?_;refine ⟨_,_,_,rfl,zwr _,zsr _, ?_,rfl⟩;try first|rfl|(simp [hY]);done)|(apply aH;rfl;rfl;rfl;(intro _;(first|apply hy|apply hsm)<;>first|assumption|omega);rotate_left;rfl;rfl)|intros;(try simp only [zql]);omega|((exfalso;simp at*;omega)))
  ·rw [zn hY] at hae
   have hY:=zdn hY
   subst hae
   have hsm:=jZ (o2.S (by omega)) (by omega) B
   rw [decide_eq_true rfl] at hsm
   dsimp only
   (try apply wO pk;rfl);(repeat' first|show Cn _;constructor|apply wC pk;rfl;rfl|apply wE pk;rfl;rfl|apply wX pk;rfl|apply wN pk;rfl|apply wD pk [] [];kernel_rfl;rfl;rfl|apply aM;simp only [zqt,zqf]|refine aA rfl ?_ ?_<;>intro h<;>(try simp at h)<;>try omega|(refine aB ?_;refine ⟨_,_,_,rfl,zwr _,zsr _, ?_,rfl⟩;try first|rfl|(simp [hY]);done)|(apply aH;rfl;rfl;rfl;(intro _;(first|apply hy|apply hsm)<;>first|assumption|omega);rotate_left;rfl;rfl)|intros;(try simp only [zql]);omega|((exfalso;simp at*;omega)))
 have hil:i<l.length:=by omega
 have hup:=asK hil h0
 have hst:=λh=>akR (i:=i+1) (l:=l) (w:=⟨who,kn⟩) (s:=s) (b:=b) h
 have h2:=kY (w:=⟨who,kn⟩) (o:=l[i]) (n:=0+i) hK ⟨hK.sb,hK.len,o2,by omega,hkn,hfw _ (zgm hil)⟩
 have hdo:doP ⟨who,kn⟩ s (bY ⟨who,kn⟩ s b (l.take i)).1 l[i]=bU ⟨who,kn⟩ s (bY ⟨who,kn⟩ s b (l.take i)).1 l[i]:=by unfold doP;rw [zp (dQ.2 ⟨hrc,o1,hmm⟩)]
 rw [hdo] at h2
 generalize (bY ⟨who,kn⟩ s b (l.take i)).1=B at*
 generalize bU ⟨who,kn⟩ s B l[i]=D at*
 unfold lD at h2
 dsimp only at h2
 by_cases hR2:D.2≠0
 ·rw [zp hR2] at hup
  have e:=hst (by rw [hup];exact hR2)
  rw [e,hup,zp hR2] at hae
  subst hae
  dsimp only
  (try apply wO pk;rfl);(repeat' first|show Cn _;constructor|apply wC pk;rfl;rfl|apply wE pk;rfl;rfl|apply wX pk;rfl|apply wN pk;rfl|apply wD pk [] [];kernel_rfl;rfl;rfl|apply aM;simp only [zqt,zqf]|refine aA rfl ?_ ?_<;>intro h<;>(try simp at h)<;>try omega|(refine aB ?_;refine ⟨_,_,_,rfl,zwr _,zsr _, ?_,rfl⟩;try first|rfl|(simp);done)|(apply aH;rfl;rfl;rfl;(intro _;apply h2<;>first|assumption|omega);rotate_left;rfl;rfl)|apply aO pk;(iterate 6 rfl);rotate_left;rfl;(intro hw;rfl);(intro hw;apply aI<;>omega);(intro _;rfl);rfl|intros;(try simp only [zql]);omega|((exfalso;simp at*;omega)))
 ·rw [zn hR2] at hup
  have hR2:=zdn hR2
  clear hae hst
  (try apply wO pk;rfl);(repeat' first|show Cn _;constructor|apply wC pk;rfl;rfl|apply wE pk;rfl;rfl|apply wX pk;rfl|apply wN pk;rfl|apply wD pk [] [];kernel_rfl;rfl;rfl|apply aM;simp only [zqt,zqf]|refine aA rfl ?_ ?_<;>intro h<;>(try simp at h)<;>try omega|(refine aB ?_;refine ⟨_,_,_,rfl,zwr _,zsr _, ?_,rfl⟩;try rfl)|(apply aH;rfl;rfl;rfl;(intro _;apply h2<;>first|assumption|omega);rotate_left;rfl;rfl)|apply aO pk;(iterate 6 rfl);rotate_left;rfl;(intro hw;rfl);(intro hw;apply aI<;>omega);(intro _;rfl);rfl|(refine ⟨⟨i+1,by omega,by rw [hup]⟩, ?_,by simp only;omega⟩;((dsimp only;rw [hup]));((repeat (first|refine Sub.pv ?_ rfl|refine Sub.var ?_ rfl rfl));exact Sub.nil _ _ _ (zsr _) rfl))|intros;(try simp only [zql]);omega|exfalso;omega)
end
end
end Go.Proofs.YtloecjjehapblaaGreatDoor
