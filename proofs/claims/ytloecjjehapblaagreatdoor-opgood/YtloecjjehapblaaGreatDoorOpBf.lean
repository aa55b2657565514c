import Derived.Test.YtloecjjehapblaaGreatDoorOpBe
import Derived.Test.YtloecjjehapblaaGreatDoorOpAs
set_option linter.unusedSimpArgs false
set_option linter.unusedVariables false
namespace Go.Proofs.YtloecjjehapblaaGreatDoor
open Go Go.Abs
attribute [local irreducible] Ev PWp
set_option maxRecDepth 10000
set_option maxHeartbeats 4000000
theorem yX {n:Nat} {w:Wr} {s:Sc} {b:Bs} {o:Ot} (hD:DoB n w s b o) (hcol:∀t∈s,t.cols.length<10000000000) (hb:cP T.rightP s b=true):PF Tryz.prog 53 [.agg w.cells, .agg (scC s), .agg (bsC b), .agg o.cells] (oD (eD w s b o)):=by
 have h1:=aiE s o (by have:=hD.len;omega) (λt ht=>by have:=hcol t ht;omega) λt ht=>adQ t o.row (by have:=hcol t ht;omega) (by have:=hD.few.1;omega)
 by_cases hr:fX s o≠0
 ·have e:eD w s b o=([],fX s o):=by unfold eD;rw [if_pos hr]
  rw [e]
  generalize fX s o=R at*
  refine aG aF Tryz.func53 (by kernel_rfl) rfl rfl rfl rfl (λst=> ?_)
  (try apply wO pk;rfl);(repeat' first|refine aC ?_;exact ⟨_,_,_,rfl,nK _,zsr _,rfl,rfl⟩|show All _;constructor|show Imp _ _;constructor|apply wC pk;rfl;rfl|apply wE pk;rfl;rfl|refine aA rfl ?_ ?_<;>intro h<;>(try simp at h)<;>try omega|(apply aH;rfl;rfl;rfl;(intro _;apply h1<;>first|assumption|omega);rotate_left;rfl;rfl))
 have hr:=Decidable.of_not_not hr
 rw [aBw hr]
 rw [hr] at h1
 have h2:=aEX hD hb hr
 generalize aoB w s b o=R at*
 unfold oD at h2
 by_cases hR:R.2≠0
 ·rw [if_pos hR]
  refine aG aF Tryz.func53 (by kernel_rfl) rfl rfl rfl rfl (λst=> ?_)
  (try apply wO pk;rfl);(repeat' first|refine aC ?_;exact ⟨_,_,_,rfl,nK _,zsr _,rfl,rfl⟩|show All _;constructor|show Imp _ _;constructor|apply wC pk;rfl;rfl|apply wE pk;rfl;rfl|refine aA rfl ?_ ?_<;>intro h<;>(try simp at h)<;>try omega|(apply aH;rfl;rfl;rfl;(intro _;(first|apply h1|apply h2)<;>first|assumption|omega);rotate_left;rfl;rfl))
 ·rw [if_neg hR]
  have hR:=Decidable.of_not_not hR
  obtain ⟨B,e⟩:=R
  dsimp only at hR h2
  subst hR
  refine aG aF Tryz.func53 (by kernel_rfl) rfl rfl rfl rfl (λst=> ?_)
  (try apply wO pk;rfl);(repeat' first|show All _;constructor|show Imp _ _;constructor|apply wC pk;rfl;rfl|apply wE pk;rfl;rfl|refine aA rfl ?_ ?_<;>intro h<;>(try simp at h)<;>try omega|(refine aC ?_;refine ⟨_,_,_,rfl,zwr _,zsr _, ?_,rfl⟩;try rfl)|(apply aH;rfl;rfl;rfl;(intro _;(first|apply h1|apply h2)<;>first|assumption|omega);rotate_left;rfl;rfl))
theorem atC (w:Wr) (hk:w.knew.length<1000000000000):PF Tryz.prog 99 [.agg w.cells] (PV.val (Value.bool (uO w))):=by
 have h1:=dU w.who.time 1 1125899906842624
 have h2:=dU w.who.dev 1 64
 have h3:=dU w.who.seq 1 1048576
 have h4:=agO w.knew hk
 unfold uO
 generalize T.withinB w.who.time 1 1125899906842624=A at*
 generalize T.withinB w.who.dev 1 64=B at*
 generalize T.withinB w.who.seq 1 1048576=C at*
 generalize ayZ w.knew=D at*
 refine aG aF Tryz.func99 (by kernel_rfl) rfl rfl rfl rfl (λst=> ?_)
 (try apply wO pk;rfl);(repeat' first|show All _;constructor|show Imp _ _;constructor|show ImpX _ _ _ _;constructor|apply wE pk;rfl;rfl|(refine aC ?_;refine ⟨_,_,_,rfl,zwr _,zsr _, ?_,rfl⟩;try rfl)|(apply aH;rfl;rfl;rfl;(intro _;(first|apply h1|apply h2|apply h3|apply h4)<;>first|assumption|omega);rotate_left;rfl;rfl))
theorem wU {n:Nat} {s:Sc} {b:Bs} (hB:CkB n s b) (w:Wr) (hk:w.knew.length<1000000000000):PF Tryz.prog 52 [.agg w.cells, .agg (scC s), .agg (bsC b)] (PV.val (Value.bool (rightW w s b))):=by
 have h1:=hB.right
 have h2:=iZ hB.bs hB.hn hB.sb hB.len
 have h3:=atC w hk
 unfold rightW mayC
 generalize rightC s=R at*
 generalize cP T.rightP s b=B at*
 generalize uO w=M at*
 refine aG aF Tryz.func52 (by kernel_rfl) rfl rfl rfl rfl (λst=> ?_)
 (try apply wO pk;rfl);(repeat' first|show All _;constructor|show Imp _ _;constructor|show ImpX _ _ _ _;constructor|apply wE pk;rfl;rfl|(refine aC ?_;refine ⟨_,_,_,rfl,zwr _,zsr _, ?_,rfl⟩;try rfl)|(apply aH;rfl;rfl;rfl;(intro _;(first|apply h1|apply h2|apply h3)<;>first|assumption|omega);rotate_left;rfl;rfl))
structure ScK (s:Sc):Prop where
 sb:ScB s
 len:s.length<=20
 col:∀t∈s,t.cols.length<10000000000
 chk:∀t∈s,oT t
theorem ScK.ck {s:Sc} (h:ScK s) {n:Nat} {b:Bs} (hb:BsS n b) (hn:n<=1000):CkB n s b:=⟨h.sb,h.len,h.col,h.chk,hb,hn⟩
theorem abE {n:Nat} {w:Wr} {s:Sc} {b:Bs} {o:Ot} (hK:ScK s) (hD:DoB n w s b o):PF Tryz.prog 21 [.agg (scC s), .agg (bsC b), .agg o.cells, .agg w.who.cells, .seq (w.knew.map I1)] (oD (doP w s b o)):=by
 have h1:=wU (hK.ck hD.S (by omega)) w hD.kn
 unfold doP
 cases hR:rightW w s b with
 |false=>
  rw [hR] at h1
  rw [if_neg (by simp)]
  refine aG aF Tryz.func21 (by kernel_rfl) rfl rfl rfl rfl (λst=> ?_)
  (try apply wO pk;rfl);(repeat' first|refine aC ?_;exact ⟨_,_,_,rfl,nK _,zsr _,rfl,rfl⟩|show All _;constructor|show Imp _ _;constructor|apply wC pk;rfl;rfl|apply wE pk;rfl;rfl|refine aA rfl ?_ ?_<;>intro h<;>(try simp at h)<;>try omega|(apply aH;rfl;rfl;rfl;(intro _;apply h1<;>first|assumption|omega);rotate_left;rfl;rfl))
 |true=>
  rw [hR] at h1
  rw [if_pos rfl]
  have h2:=yX hD hK.col (gY.1 hR).2.1
  generalize eD w s b o=R at*
  unfold oD at h2
  refine aG aF Tryz.func21 (by kernel_rfl) rfl rfl rfl rfl (λst=> ?_)
  (try apply wO pk;rfl);(repeat' first|show All _;constructor|show Imp _ _;constructor|apply wC pk;rfl;rfl|apply wE pk;rfl;rfl|refine aA rfl ?_ ?_<;>intro h<;>(try simp at h)<;>try omega|(refine aC ?_;refine ⟨_,_,_,rfl,zwr _,zsr _, ?_,rfl⟩;try rfl)|(apply aH;rfl;rfl;rfl;(intro _;(first|apply h1|apply h2)<;>first|assumption|omega);rotate_left;rfl;rfl))
theorem adR {n:Nat} {w:Wr} {s:Sc} {b:Bs} {l:List Ot} (hK:ScK s) (hW:OpW n b) (hn:n+l.length<=20) (hk:w.knew.length<1000000000000) (hf:∀o∈l,xQ o):PF Tryz.prog 18 [.agg (scC s), .agg (bsC b), .seq (l.map Ot.cells), .agg w.who.cells, .seq (w.knew.map I1)] (oD (allP w s b l)):=by
 have h1:=wU (hK.ck (hW.S (by omega)) (by omega)) w hk
 unfold allP
 cases hR:rightW w s b with
 |false=>
  rw [hR] at h1
  rw [if_pos rfl]
  refine aG aF Tryz.func18 (by kernel_rfl) rfl rfl rfl rfl (λst=> ?_)
  (try apply wO pk;rfl);(repeat' first|refine aC ?_;exact ⟨_,_,_,rfl,nK _,zsr _,rfl,rfl⟩|show All _;constructor|show Imp _ _;constructor|apply wC pk;rfl;rfl|apply wE pk;rfl;rfl|refine aA rfl ?_ ?_<;>intro h<;>(try simp at h)<;>try omega|(apply aH;rfl;rfl;rfl;(intro _;apply h1<;>first|assumption|omega);rotate_left;rfl;rfl))
 |true=>
 rw [hR] at h1
 rw [if_neg (by simp),if_neg (by omega)]
 obtain ⟨_,hb,hm⟩:=gY.1 hR
 have hok:=λi (hi:i<=l.length) (h0:(cZ w s b (l.take i)).2=0)=>agX hm (l:=l.take i) hb hW (λo ho=>hf o (List.mem_of_mem_take ho)) h0
 refine aG aF Tryz.func18 (by kernel_rfl) rfl rfl rfl rfl (λst=> ?_)
 focus ((try apply wO pk;rfl);(repeat' first|show All _;constructor|show Imp _ _;constructor|apply wC pk;rfl;rfl|apply wE pk;rfl;rfl|refine aA rfl ?_ ?_<;>intro h<;>(try simp at h)<;>try omega|(apply aH;rfl;rfl;rfl;(intro _;apply h1<;>first|assumption|omega);rotate_left;rfl;rfl)))
 refine aK (X:={x:Nat//x<=l.length/\(cZ w s b (l.take x)).2=0}) (λi=>((((((((St.nil 61 st).var 5 24 ((scC s))).var 6 27 (bsC (cZ w s b (l.take i.1)).1)).var 10 27 ([.val (.slice none 0 0)])).var 12 113 (w.cells)).pv 33 (.seq (l.map Ot.cells))).pv 34 ((PV.val (Value.int .i64 ((((l.map Ot.cells)).length:Nat)))))).pv 35 ((PV.val (Value.int .i64 ((i.1:Nat))))))) (λi=>l.length-i.1) ⟨0,by omega,rfl⟩ ?_ (λi=> ?_)
 ·((repeat (first|refine Sub.pv ?_ rfl|refine Sub.var ?_ rfl rfl));exact Sub.nil _ _ _ (zsr _) rfl)
 obtain ⟨i,hi,h0⟩:=i
 dsimp only
 obtain ⟨o1,o2⟩:=hok i hi h0
 rw [zlt,Nat.min_eq_left hi] at o2
 by_cases hend:l.length<=i
 ·have e:l.take i=l:=List.take_of_length_le hend
  rw [e] at h0 o1 o2⊢
  rw [if_neg (by simp [h0])]
  have hy:=aaB (hK.ck (o2.S (by omega)) (by omega))
  generalize (cZ w s b l).1=B at*
  generalize whyC s B=Y at*
  by_cases hY:Y≠0
  ·rw [if_pos hY]
   (try apply wO pk;rfl);(repeat' first|refine aC ?_;exact ⟨_,_,_,rfl,nK _,zsr _,rfl,rfl⟩|show All _;constructor|show Imp _ _;constructor|apply wC pk;rfl;rfl|apply wE pk;rfl;rfl|refine aA rfl ?_ ?_<;>intro h<;>(try simp at h)<;>try omega|(apply aH;rfl;rfl;rfl;(intro _;apply hy<;>first|assumption|omega);rotate_left;rfl;rfl))
  ·rw [if_neg hY]
   (try apply wO pk;rfl);(repeat' first|show All _;constructor|show Imp _ _;constructor|apply wC pk;rfl;rfl|apply wE pk;rfl;rfl|refine aA rfl ?_ ?_<;>intro h<;>(try simp at h)<;>try omega|(refine aC ?_;refine ⟨_,_,_,rfl,zwr _,zsr _, ?_,rfl⟩;try rfl)|(apply aH;rfl;rfl;rfl;(intro _;apply hy<;>first|assumption|omega);rotate_left;rfl;rfl))
 have hil:i<l.length:=by omega
 have hup:=aCz hil h0
 have hst:=λh=>aAA (i:=i+1) (l:=l) (w:=w) (s:=s) (b:=b) h
 have h2:=yX (w:=w) (o:=l[i]) (n:=n+i) ⟨hK.sb,hK.len,o2,by omega,hk,hf _ (zgm hil)⟩ hK.col o1
 generalize (cZ w s b (l.take i)).1=B at*
 generalize eD w s B l[i]=R at*
 unfold oD at h2
 by_cases hR2:R.2≠0
 ·rw [if_pos hR2] at hup
  have e:=hst (by rw [hup];exact hR2)
  rw [e,hup,if_pos hR2]
  (try apply wO pk;rfl);(repeat' first|refine aC ?_;exact ⟨_,_,_,rfl,nK _,zsr _,rfl,rfl⟩|show All _;constructor|show Imp _ _;constructor|apply wC pk;rfl;rfl|apply wE pk;rfl;rfl|refine aA rfl ?_ ?_<;>intro h<;>(try simp at h)<;>try omega|(apply aH;rfl;rfl;rfl;(intro _;apply h2<;>first|assumption|omega);rotate_left;rfl;rfl)|apply aN pk;(iterate 6 rfl);rotate_left;rfl;(intro hw;rfl);(intro hw;apply aI<;>omega);(intro _;rfl);rfl)
 ·rw [if_neg hR2] at hup
  have hR2:=Decidable.of_not_not hR2
  (try apply wO pk;rfl);(repeat' first|show All _;constructor|show Imp _ _;constructor|apply wC pk;rfl;rfl|apply wE pk;rfl;rfl|refine aA rfl ?_ ?_<;>intro h<;>(try simp at h)<;>try omega|(apply aH;rfl;rfl;rfl;(intro _;apply h2<;>first|assumption|omega);rotate_left;rfl;rfl)|apply aN pk;(iterate 6 rfl);rotate_left;rfl;(intro hw;rfl);(intro hw;apply aI<;>omega);(intro _;rfl);rfl|(refine ⟨⟨i+1,by omega,by rw [hup]⟩, ?_,by simp only;omega⟩;((dsimp only;rw [hup]));((repeat (first|refine Sub.pv ?_ rfl|refine Sub.var ?_ rfl rfl));exact Sub.nil _ _ _ (zsr _) rfl))|intros;(try simp only [zql]);omega)
def nI (v:Vl):Bool:=decide (v.s.size<=40)
def iY (o:Ot):Bool:=decide (o.row.length<=20/\o.val.s.size<=40)&&o.row.all nI
theorem qF {o:Ot}:iY o=true↔xQ o:=by
 unfold iY xQ nI
 rw [zba,zde,zal,and_assoc]
 simp
theorem akY (o:Ot) (hl:o.row.length<200000000000000):PF Tryz.prog 23 [.agg o.cells] (PV.val (Value.bool (iY o))):=by
 unfold iY
 by_cases h:o.row.length<=20/\o.val.s.size<=40
 ·rw [decide_eq_true h,Bool.true_and]
  have hno:∀j (hj:j<o.row.length),nI o.row[j]=false->o.row.all nI=false:=λj hj q=>by
   rw [<-Bool.not_eq_true,zal]
   intro z
   rw [z _ (zgm hj)] at q;cases q
  have hyes:(∀j (hj:j<o.row.length),nI o.row[j]=true)->o.row.all nI=true:=λq=>by
   rw [zal]
   intro v hv
   obtain ⟨j,hj,rfl⟩:=List.getElem_of_mem hv
   exact q j hj
  generalize o.row.all nI=A at*
  refine aG aF Tryz.func23 (by kernel_rfl) rfl rfl rfl rfl (λst=> ?_)
  focus ((try apply wO pk;rfl);(repeat' first|show All _;constructor|show Imp _ _;constructor|show ImpX _ _ _ _;constructor|apply wC pk;rfl;rfl|refine aA rfl ?_ ?_<;>intro h<;>(try simp at h)<;>try omega))
  refine aK (X:={x:Nat//x<=o.row.length/\∀j (hj:j<o.row.length),j<x->nI o.row[j]=true}) (λi=>(((St.nil 30 st).var 1 61 (o.cells)).pv 3 ((PV.val (Value.int .i64 ((i.1:Nat))))))) (λi=>o.row.length-i.1) ⟨0,by omega,by omega⟩ ?_ (λi=> ?_)
  ·((repeat (first|refine Sub.pv ?_ rfl|refine Sub.var ?_ rfl rfl));exact Sub.nil _ _ _ (zsr _) rfl)
  obtain ⟨i,hi,hI⟩:=i
  dsimp only
  by_cases hend:o.row.length<=i
  ·have e:=hyes λj hj=>hI j hj (by omega)
   (try apply wO pk;rfl);(repeat' first|show All _;constructor|apply wC pk;rfl;rfl|refine aA rfl ?_ ?_<;>intro h<;>(try simp at h)<;>try omega|(refine aC ?_;refine ⟨_,_,_,rfl,zwr _,zsr _, ?_,rfl⟩;try first|rfl|(rw [e]);done))
  have hil:i<o.row.length:=by omega
  by_cases hsv:o.row[i].s.size<=40
  ·have hI2:∀j (hj:j<o.row.length),j<i+1->nI o.row[j]=true:=λj hj hji=>by
    rcases Nat.lt_succ_iff_lt_or_eq.1 hji with q|q
    ·exact hI j hj q
    ·subst q;exact decide_eq_true hsv
   (try apply wO pk;rfl);(repeat' first|show All _;constructor|show Imp _ _;constructor|apply wC pk;rfl;rfl|apply wE pk;rfl;rfl|refine aA rfl ?_ ?_<;>intro h<;>(try simp at h)<;>try omega|apply aN pk;(iterate 6 rfl);rotate_left;rfl;(intro hw;rfl);(intro hw;apply aI<;>omega);(intro _;rfl);rfl|(refine ⟨⟨i+1,by omega,hI2⟩, ?_,by simp only;omega⟩;((repeat (first|refine Sub.pv ?_ rfl|refine Sub.var ?_ rfl rfl));exact Sub.nil _ _ _ (zsr _) rfl))|intros;(try simp only [zql]);omega)
  ·have e:=hno i hil (decide_eq_false hsv)
   (try apply wO pk;rfl);(repeat' first|show All _;constructor|show Imp _ _;constructor|apply wC pk;rfl;rfl|apply wE pk;rfl;rfl|refine aA rfl ?_ ?_<;>intro h<;>(try simp at h)<;>try omega|(refine aC ?_;refine ⟨_,_,_,rfl,zwr _,zsr _, ?_,rfl⟩;try first|rfl|(rw [e]);done)|apply aN pk;(iterate 6 rfl);rotate_left;rfl;(intro hw;rfl);(intro hw;apply aI<;>omega);(intro _;rfl);rfl)
 ·rw [decide_eq_false h,Bool.false_and]
  refine aG aF Tryz.func23 (by kernel_rfl) rfl rfl rfl rfl (λst=> ?_)
  (try apply wO pk;rfl);(repeat' first|show All _;constructor|show Imp _ _;constructor|show ImpX _ _ _ _;constructor|apply wC pk;rfl;rfl|refine aA rfl ?_ ?_<;>intro h<;>(try simp at h)<;>try omega|(refine aC ?_;refine ⟨_,_,_,rfl,zwr _,zsr _, ?_,rfl⟩;try rfl))
theorem agQ (l:List Ot) (m:Int) (hl:l.length<200000000000000) (hrw:∀o∈l,o.row.length<200000000000000):PF Tryz.prog 16 [.seq (l.map Ot.cells),(PV.val (Value.int .i64 (m)))] (PV.val (Value.bool (decide ((l.length:Int)<=m)&&l.all iY))):=by
 by_cases hm:(l.length:Int)<=m
 ·rw [decide_eq_true hm,Bool.true_and]
  have hno:∀j (hj:j<l.length),iY l[j]=false->l.all iY=false:=λj hj q=>by
   rw [<-Bool.not_eq_true,zal]
   intro z
   rw [z _ (zgm hj)] at q;cases q
  have hyes:(∀j (hj:j<l.length),iY l[j]=true)->l.all iY=true:=λq=>by
   rw [zal]
   intro v hv
   obtain ⟨j,hj,rfl⟩:=List.getElem_of_mem hv
   exact q j hj
  generalize l.all iY=A at*
  refine aG aF Tryz.func16 (by kernel_rfl) rfl rfl rfl rfl (λst=> ?_)
  focus ((try apply wO pk;rfl);(repeat' first|show All _;constructor|apply wC pk;rfl;rfl|refine aA rfl ?_ ?_<;>intro h<;>(try simp at h)<;>try omega))
  refine aK (X:={x:Nat//x<=l.length/\∀j (hj:j<l.length),j<x->iY l[j]=true}) (λi=>(((St.nil 24 st).pv 0 (.seq (l.map Ot.cells))).pv 5 ((PV.val (Value.int .i64 ((i.1:Nat))))))) (λi=>l.length-i.1) ⟨0,by omega,by omega⟩ ?_ (λi=> ?_)
  ·((repeat refine Sub.pv ?_ rfl);exact Sub.nil _ _ _ (zsr _) rfl)
  obtain ⟨i,hi,hI⟩:=i
  dsimp only
  by_cases hend:l.length<=i
  ·have e:=hyes λj hj=>hI j hj (by omega)
   (try apply wO pk;rfl);(repeat' first|show All _;constructor|apply wC pk;rfl;rfl|refine aA rfl ?_ ?_<;>intro h<;>(try simp at h)<;>try omega|(refine aC ?_;refine ⟨_,_,_,rfl,zwr _,zsr _, ?_,rfl⟩;try first|rfl|(rw [e]);done))
  have hil:i<l.length:=by omega
  have hf:=akY l[i] (hrw _ (zgm hil))
  have hno:=hno i hil
  have hI2:iY l[i]=true->∀j (hj:j<l.length),j<i+1->iY l[j]=true:=λq j hj hji=>by
   rcases Nat.lt_succ_iff_lt_or_eq.1 hji with z|z
   ·exact hI j hj z
   ·subst z;exact q
  generalize iY l[i]=F at*
  cases F with
  |true=>
   have hI2:=hI2 rfl
   (try apply wO pk;rfl);(repeat' first|show All _;constructor|show Imp _ _;constructor|apply wC pk;rfl;rfl|apply wE pk;rfl;rfl|refine aA rfl ?_ ?_<;>intro h<;>(try simp at h)<;>try omega|(apply aH;rfl;rfl;rfl;(intro _;apply hf<;>first|assumption|omega);rotate_left;rfl;rfl)|apply aN pk;(iterate 6 rfl);rotate_left;rfl;(intro hw;rfl);(intro hw;apply aI<;>omega);(intro _;rfl);rfl|refine ⟨⟨i+1,by omega,hI2⟩, ?_,by simp only;omega⟩;((repeat refine Sub.pv ?_ rfl);exact Sub.nil _ _ _ (zsr _) rfl)|intros;(try simp only [zql]);omega)
  |false=>
   have e:=hno rfl
   (try apply wO pk;rfl);(repeat' first|show All _;constructor|show Imp _ _;constructor|apply wC pk;rfl;rfl|apply wE pk;rfl;rfl|refine aA rfl ?_ ?_<;>intro h<;>(try simp at h)<;>try omega|(refine aC ?_;refine ⟨_,_,_,rfl,zwr _,zsr _, ?_,rfl⟩;try first|rfl|(rw [e]);done)|(apply aH;rfl;rfl;rfl;(intro _;apply hf<;>first|assumption|omega);rotate_left;rfl;rfl)|apply aN pk;(iterate 6 rfl);rotate_left;rfl;(intro hw;rfl);(intro hw;apply aI<;>omega);(intro _;rfl);rfl)
 ·rw [decide_eq_false hm,Bool.false_and]
  refine aG aF Tryz.func16 (by kernel_rfl) rfl rfl rfl rfl (λst=> ?_)
  (try apply wO pk;rfl);(repeat' first|show All _;constructor|apply wC pk;rfl;rfl|refine aA rfl ?_ ?_<;>intro h<;>(try simp at h)<;>try omega|(refine aC ?_;refine ⟨_,_,_,rfl,zwr _,zsr _, ?_,rfl⟩;try rfl))
theorem anQ (s:Sc) (b:Bs) (hl:s.length<200000000000000) (hB:ScB s) (hK:∀t∈s,oT t) (hb:BsB b):PF Tryz.prog 17 [.agg (scC s), .agg (bsC b)] (PV.val (Value.bool (fewC s b))):=by
 have h:=avQ s b hl hB hK hb
 generalize fewC s b=F at*
 refine aG aF Tryz.func17 (by kernel_rfl) rfl rfl rfl rfl (λst=> ?_)
 (try apply wO pk;rfl);(repeat' first|show All _;constructor|show Imp _ _;constructor|apply wE pk;rfl;rfl|(refine aC ?_;refine ⟨_,_,_,rfl,zwr _,zsr _, ?_,rfl⟩;try rfl)|(apply aH;rfl;rfl;rfl;(intro _;apply h<;>first|assumption|omega);rotate_left;rfl;rfl))
theorem ScK.of {s:Sc} {b:Bs} (h:fewC s b=true) (hB:ScB s) (hK:∀t∈s,oT t):ScK s/\OpW 0 b:=by
 have hC:=CkB.of h hB hK
 refine ⟨⟨hC.sb,hC.len,hC.col,hC.chk⟩,aF3 ?_⟩
 unfold fewC at h
 simp only [zba] at h
 first|exact h.1.2|exact h.2.1|exact h.1.1|exact h.2|exact h.1
end Go.Proofs.YtloecjjehapblaaGreatDoor
