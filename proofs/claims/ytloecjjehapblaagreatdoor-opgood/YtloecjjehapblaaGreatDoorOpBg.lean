import Derived.Test.YtloecjjehapblaaGreatDoorOpBf
import Derived.Test.YtloecjjehapblaaGreatDoorOpAt
set_option linter.unusedSimpArgs false
set_option linter.unusedVariables false
namespace Go.Proofs.YtloecjjehapblaaGreatDoor
open Go Go.Abs
attribute [local irreducible] Ev PWp
set_option maxRecDepth 10000
set_option maxHeartbeats 4000000
theorem aHc {w:Wr} {s:Sc} {b:Bs} {o:Ot} {k:Nat} (h:OpW k b) (ho:xQ o):OpW (k+1) (doP w s b o).1:=by
 unfold doP
 split
 ·exact aBv h ho
 ·exact OpW.nil _
section
variable (hA:PF Tryz.prog 15 [] (PV.val (Value.bool (true))))
include hA
theorem alK (s:Sc) (b:Bs) (l:List Ot) (who:T.Sp) (kn:List Int) (hs:ScG s) (hb:BsB b) (hl:l.length<200000000000000) (hro:∀o∈l,o.row.length<200000000000000) (hkn:kn.length<200000000000000):PF Tryz.prog 4 [.agg (scC s), .agg (bsC b), .seq (l.map Ot.cells), .agg who.cells, .seq (kn.map I1)] (PV.val (Value.bool (true))):=by
 have hf:=anQ s b hs.l hs.b hs.k hb
 have hfo:=agQ l 8 hl hro
 cases g1:fewC s b with
 |false=>
  rw [g1] at hf
  generalize (decide ((l.length:Int)<=8)&&l.all iY)=F at*
  refine aG aF Tryz.func4 (by kernel_rfl) rfl rfl rfl rfl (λst=> ?_)
  (try apply wO pk;rfl);(repeat' first|show All _;constructor|show Imp _ _;constructor|show ImpX _ _ _ _;constructor|apply wC pk;rfl;rfl|apply wE pk;rfl;rfl|apply wX pk;rfl|apply wN pk;rfl|apply wD pk [] [];kernel_rfl;rfl;rfl|apply dL;simp only [zqt,zqf]|refine aA rfl ?_ ?_<;>intro h<;>(try simp at h)<;>try omega|(refine aC ?_;refine ⟨_,_,_,rfl,zwr _,zsr _, ?_,rfl⟩;try rfl)|(apply aH;rfl;rfl;rfl;(intro _;(first|apply hA|apply hf|apply hfo)<;>first|assumption|omega);rotate_left;rfl;rfl)|intros;(try simp only [zql]);omega|((exfalso;simp at*;done)))
 |true=>
 rw [g1] at hf
 cases g2:(decide ((l.length:Int)<=8)&&l.all iY) with
 |false=>
  rw [g2] at hfo
  refine aG aF Tryz.func4 (by kernel_rfl) rfl rfl rfl rfl (λst=> ?_)
  (try apply wO pk;rfl);(repeat' first|show All _;constructor|show Imp _ _;constructor|show ImpX _ _ _ _;constructor|apply wC pk;rfl;rfl|apply wE pk;rfl;rfl|apply wX pk;rfl|apply wN pk;rfl|apply wD pk [] [];kernel_rfl;rfl;rfl|apply dL;simp only [zqt,zqf]|refine aA rfl ?_ ?_<;>intro h<;>(try simp at h)<;>try omega|(refine aC ?_;refine ⟨_,_,_,rfl,zwr _,zsr _, ?_,rfl⟩;try rfl)|(apply aH;rfl;rfl;rfl;(intro _;(first|apply hA|apply hf|apply hfo)<;>first|assumption|omega);rotate_left;rfl;rfl)|intros;(try simp only [zql]);omega|((exfalso;simp at*;done)))
 |true=>
 rw [g2] at hfo
 rw [zba,zde,zal] at g2
 obtain ⟨g2,g2'⟩:=g2
 by_cases g3:kn.length>100
 ·refine aG aF Tryz.func4 (by kernel_rfl) rfl rfl rfl rfl (λst=> ?_)
  (try apply wO pk;rfl);(repeat' first|show All _;constructor|show Imp _ _;constructor|show ImpX _ _ _ _;constructor|apply wC pk;rfl;rfl|apply wE pk;rfl;rfl|apply wX pk;rfl|apply wN pk;rfl|apply wD pk [] [];kernel_rfl;rfl;rfl|apply dL;simp only [zqt,zqf]|refine aA rfl ?_ ?_<;>intro h<;>(try simp at h)<;>try omega|(refine aC ?_;refine ⟨_,_,_,rfl,zwr _,zsr _, ?_,rfl⟩;try rfl)|(apply aH;rfl;rfl;rfl;(intro _;(first|apply hA|apply hf|apply hfo)<;>first|assumption|omega);rotate_left;rfl;rfl)|intros;(try simp only [zql]);omega|((exfalso;simp only [zql] at*;omega)))
 have hkn:kn.length<1000000000000:=by omega
 obtain ⟨hK,hW⟩:=ScK.of g1 hs.b hs.k
 have hfw:∀o∈l,xQ o:=λo ho=>qF.1 (g2' o ho)
 have hall:=adR (w:=⟨who,kn⟩) hK hW (l:=l) (by omega) hkn hfw
 have hdo:=λi (hi:i<l.length)=>abE (w:=⟨who,kn⟩) (o:=l[i]) hK (n:=0) (b:=b) ⟨hK.sb,hK.len,hW,by omega,hkn,hfw _ (zgm hi)⟩
 have hdr:=λi (hi:i<l.length)=> @aAI ⟨who,kn⟩ s b l[i]
 have hdw:=λi (hi:i<l.length)=>aHc (w:=⟨who,kn⟩) (s:=s) (o:=l[i]) hW (hfw _ (zgm hi))
 dsimp only at hall hdo
 by_cases he:(allP ⟨who,kn⟩ s b l).2≠0
 ·have hx:=aFe he
  generalize allP ⟨who,kn⟩ s b l=R at*
  obtain ⟨B,e⟩:=R
  dsimp only at hx he
  subst hx
  unfold oD at hall
  dsimp only at hall
  refine aG aF Tryz.func4 (by kernel_rfl) rfl rfl rfl rfl (λst=> ?_)
  (try apply wO pk;rfl);(repeat' first|show All _;constructor|show Imp _ _;constructor|show ImpX _ _ _ _;constructor|apply wC pk;rfl;rfl|apply wE pk;rfl;rfl|apply wX pk;rfl|apply wN pk;rfl|apply wD pk [] [];kernel_rfl;rfl;rfl|apply dL;simp only [zqt,zqf]|refine aA rfl ?_ ?_<;>intro h<;>(try simp at h)<;>try omega|(refine aC ?_;refine ⟨_,_,_,rfl,zwr _,zsr _, ?_,rfl⟩;try rfl)|(apply aH;rfl;rfl;rfl;(intro _;(first|apply hA|apply hf|apply hfo|apply hall)<;>first|assumption|omega);rotate_left;rfl;rfl)|intros;(try simp only [zql]);omega|((exfalso;simp only [zql] at*;omega)))
 have he:=Decidable.of_not_not he
 obtain ⟨r1,r2,r3,r4⟩:=aEr he
 obtain ⟨_,r5,r6⟩:=gY.1 r1
 obtain ⟨f1,f2⟩:=agX r6 r5 hW hfw r2
 rw [<-r4] at r3 f1 f2
 have hR:=iZ (f2.S (by omega)) (by omega) hK.sb hK.len
 rw [f1] at hR
 have hY:=aaB (hK.ck (f2.S (by omega)) (by omega))
 rw [r3] at hY
 clear r4 r3 f1 f2 r2
 generalize allP ⟨who,kn⟩ s b l=R at*
 obtain ⟨B,e⟩:=R
 dsimp only at he
 subst he
 unfold oD at hall
 dsimp only at hall hR hY
 refine aG aF Tryz.func4 (by kernel_rfl) rfl rfl rfl rfl (λst=> ?_)
 focus ((try apply wO pk;rfl);(repeat' first|show All _;constructor|show Imp _ _;constructor|show ImpX _ _ _ _;constructor|apply wC pk;rfl;rfl|apply wE pk;rfl;rfl|apply wX pk;rfl|apply wN pk;rfl|apply wD pk [] [];kernel_rfl;rfl;rfl|apply dL;simp only [zqt,zqf]|refine aA rfl ?_ ?_<;>intro h<;>(try simp at h)<;>try omega|(refine aC ?_;refine ⟨_,_,_,rfl,zwr _,zsr _, ?_,rfl⟩;try rfl)|(apply aH;rfl;rfl;rfl;(intro _;(first|apply hA|apply hf|apply hfo|apply hall|apply hR|apply hY)<;>first|assumption|omega);rotate_left;rfl;rfl)|intros;(try simp only [zql]);omega|((exfalso;simp only [zql] at*;omega))))
 refine aK (X:={x:Nat//x<=l.length}) (λi=>((((((((St.nil 90 st).pv 2 (.seq (l.map Ot.cells))).pv 4 (.seq (kn.map I1))).var 5 24 ((scC s))).var 6 27 ((bsC b))).var 8 47 (who.cells)).pv 11 ((PV.val (Value.bool (true))))).pv 15 ((PV.val (Value.int .i64 ((i.1:Nat))))))) (λi=>l.length-i.1) ⟨0,by omega⟩ ?_ (λi=> ?_)
 ·((repeat (first|refine Sub.pv ?_ rfl|refine Sub.var ?_ rfl rfl));exact Sub.nil _ _ _ (zsr _) rfl)
 obtain ⟨i,hi⟩:=i
 dsimp only
 by_cases hend:l.length<=i
 ·(try apply wO pk;rfl);(repeat' first|show All _;constructor|show Imp _ _;constructor|show ImpX _ _ _ _;constructor|apply wC pk;rfl;rfl|apply wE pk;rfl;rfl|apply wX pk;rfl|apply wN pk;rfl|apply wD pk [] [];kernel_rfl;rfl;rfl|apply dL;simp only [zqt,zqf]|refine aA rfl ?_ ?_<;>intro h<;>(try simp at h)<;>try omega|(refine aC ?_;refine ⟨_,_,_,rfl,zwr _,zsr _, ?_,rfl⟩;try rfl)|intros;(try simp only [zql]);omega)
 have hil:i<l.length:=by omega
 have hdo:=hdo i hil
 have hdr:=hdr i hil
 have hdw:=hdw i hil
 have hR2:=iZ (hdw.S (by omega)) (by omega) hK.sb hK.len
 generalize doP ⟨who,kn⟩ s b l[i]=D at*
 obtain ⟨Y,f⟩:=D
 unfold oD at hdo
 dsimp only at hdo hdr hR2
 by_cases hz:f=0
 ·have hg:=(hdr hz).2.2
  rw [hg] at hR2
  clear hdr
  (try apply wO pk;rfl);(repeat' first|show All _;constructor|show Imp _ _;constructor|show ImpX _ _ _ _;constructor|apply wC pk;rfl;rfl|apply wE pk;rfl;rfl|apply wX pk;rfl|apply wN pk;rfl|apply wD pk [] [];kernel_rfl;rfl;rfl|apply dL;simp only [zqt,zqf]|refine aA rfl ?_ ?_<;>intro h<;>(try simp at h)<;>try omega|(refine aC ?_;refine ⟨_,_,_,rfl,zwr _,zsr _, ?_,rfl⟩;try rfl)|(apply aH;rfl;rfl;rfl;(intro _;(first|apply hdo|apply hR2)<;>first|assumption|omega);rotate_left;rfl;rfl)|apply aN pk;(iterate 6 rfl);rotate_left;rfl;(intro hw;rfl);(intro hw;apply aI<;>omega);(intro _;rfl);rfl|(refine ⟨⟨i+1,by omega⟩, ?_,by simp only;omega⟩;((repeat (first|refine Sub.pv ?_ rfl|refine Sub.var ?_ rfl rfl));exact Sub.nil _ _ _ (zsr _) rfl))|intros;(try simp only [zql]);omega|((exfalso;simp at*;omega)))
 ·clear hdr
  generalize cP T.rightP s Y=G at*
  (try apply wO pk;rfl);(repeat' first|show All _;constructor|show Imp _ _;constructor|show ImpX _ _ _ _;constructor|apply wC pk;rfl;rfl|apply wE pk;rfl;rfl|apply wX pk;rfl|apply wN pk;rfl|apply wD pk [] [];kernel_rfl;rfl;rfl|apply dL;simp only [zqt,zqf]|refine aA rfl ?_ ?_<;>intro h<;>(try simp at h)<;>try omega|(refine aC ?_;refine ⟨_,_,_,rfl,zwr _,zsr _, ?_,rfl⟩;try rfl)|(apply aH;rfl;rfl;rfl;(intro _;(first|apply hdo|apply hR2)<;>first|assumption|omega);rotate_left;rfl;rfl)|apply aN pk;(iterate 6 rfl);rotate_left;rfl;(intro hw;rfl);(intro hw;apply aI<;>omega);(intro _;rfl);rfl|(refine ⟨⟨i+1,by omega⟩, ?_,by simp only;omega⟩;((repeat (first|refine Sub.pv ?_ rfl|refine Sub.var ?_ rfl rfl));exact Sub.nil _ _ _ (zsr _) rfl))|intros;(try simp only [zql]);omega|((exfalso;simp at*;omega)))
end
end Go.Proofs.YtloecjjehapblaaGreatDoor
