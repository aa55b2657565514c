import Derived.Test.YtloecjjehapblaaGreatDoorOkAs
import Derived.Test.YtloecjjehapblaaGreatDoorOkAm
set_option linter.unusedSimpArgs false
set_option linter.unusedVariables false
namespace Go.Proofs.YtloecjjehapblaaGreatDoor
open Go Go.Abs
section
attribute [local irreducible] Ev PWp
set_option maxRecDepth 10000
set_option maxHeartbeats 4000000
theorem yX {n:Nat} {w:Wr} {s:Sc} {b:Bs} {o:Ot} (hD:DoB n w s b o) (hcol:∀t∈s,t.cols.length<10000000000) (hb:cE T.rightP s b=true):PF Tryz.prog 53 [.agg w.cells, .agg (scC s), .agg (bsC b), .agg o.cells] (rS (dH w s b o)):=by
 have h1:=aiD s o (by have:=hD.len;omega) (λt ht=>by have:=hcol t ht;omega) λt ht=>adO t o.row (by have:=hcol t ht;omega) (by have:=hD.few.1;omega)
 by_cases hr:fN s o≠0
 ·have e:dH w s b o=([],fN s o):=by unfold dH;rw [zp hr]
  rw [e]
  generalize fN s o=R at*
  refine aG aF Tryz.func53 (by kernel_rfl) rfl rfl rfl rfl (λst=> ?_)
  (try apply wO pk;rfl);(repeat' first|refine aC ?_;exact ⟨_,_,_,rfl,nP _,zsr _,rfl,rfl⟩|show Cn _;constructor|apply wC pk;rfl;rfl|apply wE pk;rfl;rfl|refine aB rfl ?_ ?_<;>intro h<;>(try simp at h)<;>try omega|(apply aH;rfl;rfl;rfl;(intro _;apply h1<;>first|assumption|omega);rotate_left;rfl;rfl))
 have hr:=zdn hr
 rw [aBv hr]
 rw [hr] at h1
 have h2:=aEW hD hb hr
 generalize aoF w s b o=R at*
 unfold rS at h2
 by_cases hR:R.2≠0
 ·rw [zp hR]
  refine aG aF Tryz.func53 (by kernel_rfl) rfl rfl rfl rfl (λst=> ?_)
  (try apply wO pk;rfl);(repeat' first|refine aC ?_;exact ⟨_,_,_,rfl,nP _,zsr _,rfl,rfl⟩|show Cn _;constructor|apply wC pk;rfl;rfl|apply wE pk;rfl;rfl|refine aB rfl ?_ ?_<;>intro h<;>(try simp at h)<;>try omega|(apply aH;rfl;rfl;rfl;(intro _;(first|apply h1|apply h2)<;>first|assumption|omega);rotate_left;rfl;rfl))
 ·rw [zn hR]
  have hR:=zdn hR
  obtain ⟨B,e⟩:=R
  dsimp only at hR h2
  subst hR
  refine aG aF Tryz.func53 (by kernel_rfl) rfl rfl rfl rfl (λst=> ?_)
  (try apply wO pk;rfl);(repeat' first|show Cn _;constructor|apply wC pk;rfl;rfl|apply wE pk;rfl;rfl|refine aB rfl ?_ ?_<;>intro h<;>(try simp at h)<;>try omega|(refine aC ?_;refine ⟨_,_,_,rfl,zwr _,zsr _, ?_,rfl⟩;try rfl)|(apply aH;rfl;rfl;rfl;(intro _;(first|apply h1|apply h2)<;>first|assumption|omega);rotate_left;rfl;rfl))
theorem atC (w:Wr) (hk:w.knew.length<1000000000000):PF Tryz.prog 99 [.agg w.cells] (.val (.bool (rV w))):=by
 have h1:=dV w.who.time 1 1125899906842624
 have h2:=dV w.who.dev 1 64
 have h3:=dV w.who.seq 1 1048576
 have h4:=agK w.knew hk
 unfold rV
 generalize T.withinB w.who.time 1 1125899906842624=A at*
 generalize T.withinB w.who.dev 1 64=B at*
 generalize T.withinB w.who.seq 1 1048576=C at*
 generalize ayZ w.knew=D at*
 refine aG aF Tryz.func99 (by kernel_rfl) rfl rfl rfl rfl (λst=> ?_)
 (try apply wO pk;rfl);(repeat' first|show Cn _;constructor|apply wE pk;rfl;rfl|(refine aC ?_;refine ⟨_,_,_,rfl,zwr _,zsr _, ?_,rfl⟩;try rfl)|(apply aH;rfl;rfl;rfl;(intro _;(first|apply h1|apply h2|apply h3|apply h4)<;>first|assumption|omega);rotate_left;rfl;rfl))
theorem xA {n:Nat} {s:Sc} {b:Bs} (hB:CkB n s b) (w:Wr) (hk:w.knew.length<1000000000000):PF Tryz.prog 52 [.agg w.cells, .agg (scC s), .agg (bsC b)] (.val (.bool (rightW w s b))):=by
 have h1:=hB.right
 have h2:=qD hB.bs hB.hn hB.sb hB.len
 have h3:=atC w hk
 unfold rightW mayC
 generalize rightC s=R at*
 generalize cE T.rightP s b=B at*
 generalize rV w=M at*
 refine aG aF Tryz.func52 (by kernel_rfl) rfl rfl rfl rfl (λst=> ?_)
 (try apply wO pk;rfl);(repeat' first|show Cn _;constructor|apply wE pk;rfl;rfl|(refine aC ?_;refine ⟨_,_,_,rfl,zwr _,zsr _, ?_,rfl⟩;try rfl)|(apply aH;rfl;rfl;rfl;(intro _;(first|apply h1|apply h2|apply h3)<;>first|assumption|omega);rotate_left;rfl;rfl))
structure ScK (s:Sc):Prop where
 sb:ScB s
 len:s.length<=20
 col:∀t∈s,t.cols.length<10000000000
 chk:∀t∈s,zI t
theorem ScK.ck {s:Sc} (h:ScK s) {n:Nat} {b:Bs} (hb:BsS n b) (hn:n<=1000):CkB n s b:=⟨h.sb,h.len,h.col,h.chk,hb,hn⟩
theorem akR {n:Nat} {w:Wr} {s:Sc} {b:Bs} {o:Ot} (hK:ScK s) (hD:DoB n w s b o):PF Tryz.prog 21 [.agg (scC s), .agg (bsC b), .agg o.cells, .agg w.who.cells, .seq (w.knew.map I1)] (rS (doP w s b o)):=by
 have h1:=xA (hK.ck hD.S (by omega)) w hD.kn
 unfold doP
 cases hR:rightW w s b with
 |false=>
  rw [hR] at h1
  rw [zn (by simp)]
  refine aG aF Tryz.func21 (by kernel_rfl) rfl rfl rfl rfl (λst=> ?_)
  (try apply wO pk;rfl);(repeat' first|refine aC ?_;exact ⟨_,_,_,rfl,nP _,zsr _,rfl,rfl⟩|show Cn _;constructor|apply wC pk;rfl;rfl|apply wE pk;rfl;rfl|refine aB rfl ?_ ?_<;>intro h<;>(try simp at h)<;>try omega|(apply aH;rfl;rfl;rfl;(intro _;apply h1<;>first|assumption|omega);rotate_left;rfl;rfl))
 |true=>
  rw [hR] at h1
  rw [zp rfl]
  have h2:=yX hD hK.col (gZ.1 hR).2.1
  generalize dH w s b o=R at*
  unfold rS at h2
  refine aG aF Tryz.func21 (by kernel_rfl) rfl rfl rfl rfl (λst=> ?_)
  (try apply wO pk;rfl);(repeat' first|show Cn _;constructor|apply wC pk;rfl;rfl|apply wE pk;rfl;rfl|refine aB rfl ?_ ?_<;>intro h<;>(try simp at h)<;>try omega|(refine aC ?_;refine ⟨_,_,_,rfl,zwr _,zsr _, ?_,rfl⟩;try rfl)|(apply aH;rfl;rfl;rfl;(intro _;(first|apply h1|apply h2)<;>first|assumption|omega);rotate_left;rfl;rfl))
theorem qR {n:Nat} {w:Wr} {s:Sc} {b:Bs} {l:List Ot} (hK:ScK s) (hW:OpW n b) (hn:n+l.length<=20) (hk:w.knew.length<1000000000000) (hf:∀o∈l,zB o):PF Tryz.prog 18 [.agg (scC s), .agg (bsC b), .seq (l.map Ot.cells), .agg w.who.cells, .seq (w.knew.map I1)] (rS (allP w s b l)):=by
 have h1:=xA (hK.ck (hW.S (by omega)) (by omega)) w hk
 unfold allP
 cases hR:rightW w s b with
 |false=>
  rw [hR] at h1
  rw [zp rfl]
  refine aG aF Tryz.func18 (by kernel_rfl) rfl rfl rfl rfl (λst=> ?_)
  (try apply wO pk;rfl);(repeat' first|refine aC ?_;exact ⟨_,_,_,rfl,nP _,zsr _,rfl,rfl⟩|show Cn _;constructor|apply wC pk;rfl;rfl|apply wE pk;rfl;rfl|refine aB rfl ?_ ?_<;>intro h<;>(try simp at h)<;>try omega|(apply aH;rfl;rfl;rfl;(intro _;apply h1<;>first|assumption|omega);rotate_left;rfl;rfl))
 |true=>
 rw [hR] at h1
 rw [zn (by simp),zn (by omega)]
 obtain ⟨_,hb,hm⟩:=gZ.1 hR
 have hok:=λi (hi:i<=l.length) (h0:(cZ w s b (l.take i)).2=0)=>asN hm (l:=l.take i) hb hW (λo ho=>hf o (List.mem_of_mem_take ho)) h0
 refine aG aF Tryz.func18 (by kernel_rfl) rfl rfl rfl rfl (λst=> ?_)
 focus ((try apply wO pk;rfl);(repeat' first|show Cn _;constructor|apply wC pk;rfl;rfl|apply wE pk;rfl;rfl|refine aB rfl ?_ ?_<;>intro h<;>(try simp at h)<;>try omega|(apply aH;rfl;rfl;rfl;(intro _;apply h1<;>first|assumption|omega);rotate_left;rfl;rfl)))
 refine aK (X:={x:Nat//x<=l.length/\(cZ w s b (l.take x)).2=0}) (λi=>((((((((St.nil 61 st).var 5 24 ((scC s))).var 6 27 (bsC (cZ w s b (l.take i.1)).1)).var 10 27 ([.val (.slice none 0 0)])).var 12 113 (w.cells)).pv 33 (.seq (l.map Ot.cells))).pv 34 ((PV.val (Value.int .i64 ((((l.map Ot.cells)).length:Nat)))))).pv 35 ((PV.val (Value.int .i64 ((i.1:Nat))))))) (λi=>l.length-i.1) ⟨0,by omega,rfl⟩ ?_ (λi=> ?_)
 ·((repeat (first|refine Sub.pv ?_ rfl|refine Sub.var ?_ rfl rfl));exact Sub.nil _ _ _ (zsr _) rfl)
 obtain ⟨i,hi,h0⟩:=i
 dsimp only
 obtain ⟨o1,o2⟩:=hok i hi h0
 rw [zlt,Nat.min_eq_left hi] at o2
 by_cases hend:l.length<=i
 ·have e:l.take i=l:=ztl hend
  rw [e] at h0 o1 o2⊢
  rw [zn (by simp [h0])]
  have hy:=aiZ (hK.ck (o2.S (by omega)) (by omega))
  generalize (cZ w s b l).1=B at*
  generalize whyC s B=Y at*
  by_cases hY:Y≠0
  ·rw [zp hY]
   (try apply wO pk;rfl);(repeat' first|refine aC ?_;exact ⟨_,_,_,rfl,nP _,zsr _,rfl,rfl⟩|show Cn _;constructor|apply wC pk;rfl;rfl|apply wE pk;rfl;rfl|refine aB rfl ?_ ?_<;>intro h<;>(try simp at h)<;>try omega|(apply aH;rfl;rfl;rfl;(intro _;apply hy<;>first|assumption|omega);rotate_left;rfl;rfl))
  ·rw [zn hY]
   (try apply wO pk;rfl);(repeat' first|show Cn _;constructor|apply wC pk;rfl;rfl|apply wE pk;rfl;rfl|refine aB rfl ?_ ?_<;>intro h<;>(try simp at h)<;>try omega|(refine aC ?_;refine ⟨_,_,_,rfl,zwr _,zsr _, ?_,rfl⟩;try rfl)|(apply aH;rfl;rfl;rfl;(intro _;apply hy<;>first|assumption|omega);rotate_left;rfl;rfl))
 have hil:i<l.length:=by omega
 have hup:=aCw hil h0
 have hst:=λh=>aAx (i:=i+1) (l:=l) (w:=w) (s:=s) (b:=b) h
 have h2:=yX (w:=w) (o:=l[i]) (n:=n+i) ⟨hK.sb,hK.len,o2,by omega,hk,hf _ (zgm hil)⟩ hK.col o1
 generalize (cZ w s b (l.take i)).1=B at*
 generalize dH w s B l[i]=R at*
 unfold rS at h2
 by_cases hR2:R.2≠0
 ·rw [zp hR2] at hup
  have e:=hst (by rw [hup];exact hR2)
  rw [e,hup,zp hR2]
  (try apply wO pk;rfl);(repeat' first|refine aC ?_;exact ⟨_,_,_,rfl,nP _,zsr _,rfl,rfl⟩|show Cn _;constructor|apply wC pk;rfl;rfl|apply wE pk;rfl;rfl|refine aB rfl ?_ ?_<;>intro h<;>(try simp at h)<;>try omega|(apply aH;rfl;rfl;rfl;(intro _;apply h2<;>first|assumption|omega);rotate_left;rfl;rfl)|apply aP pk;(iterate 6 rfl);rotate_left;rfl;(intro hw;rfl);(intro hw;apply aJ<;>omega);(intro _;rfl);rfl)
 ·rw [zn hR2] at hup
  have hR2:=zdn hR2
  (try apply wO pk;rfl);(repeat' first|show Cn _;constructor|apply wC pk;rfl;rfl|apply wE pk;rfl;rfl|refine aB rfl ?_ ?_<;>intro h<;>(try simp at h)<;>try omega|(apply aH;rfl;rfl;rfl;(intro _;apply h2<;>first|assumption|omega);rotate_left;rfl;rfl)|apply aP pk;(iterate 6 rfl);rotate_left;rfl;(intro hw;rfl);(intro hw;apply aJ<;>omega);(intro _;rfl);rfl|(refine ⟨⟨i+1,by omega,by rw [hup]⟩, ?_,by simp only;omega⟩;((dsimp only;rw [hup]));((repeat (first|refine Sub.pv ?_ rfl|refine Sub.var ?_ rfl rfl));exact Sub.nil _ _ _ (zsr _) rfl))|intros;(try simp only [zql]);omega)
def azS (v:Vl):Bool:=decide (v.s.size<=40)
def aA7 (o:Ot):Bool:=decide (o.row.length<=20/\o.val.s.size<=40)&&o.row.all azS
theorem mF {o:Ot}:aA7 o=true↔zB o:=by
 unfold aA7 zB azS
 rw [zba,zde,zal,and_assoc]
 simp
theorem ScK.of {s:Sc} {b:Bs} (h:fewC s b=true) (hB:ScB s) (hK:∀t∈s,zI t):ScK s/\OpW 0 b:=by
 have hC:=CkB.of h hB hK
 refine ⟨⟨hC.sb,hC.len,hC.col,hC.chk⟩,aF5 ?_⟩
 unfold fewC at h
 simp only [zba] at h
 first|exact h.1.2|exact h.2.1|exact h.1.1|exact h.2|exact h.1
end
section
attribute [local irreducible] Ev PWp
set_option maxRecDepth 10000
set_option maxHeartbeats 4000000
section
variable (hA:PF Tryz.prog 15 [] (PV.val (Value.bool (true))))
include hA
end
end
end Go.Proofs.YtloecjjehapblaaGreatDoor
