import Derived.Test.YtloecjjehapblaaGreatDoorOpAt
set_option linter.unusedSimpArgs false
set_option linter.unusedVariables false
namespace Go.Proofs.YtloecjjehapblaaGreatDoor
open Go Go.Abs
attribute [local irreducible] Ev PWp
set_option maxRecDepth 10000
set_option maxHeartbeats 4000000
def oN (o:Ot):Int:=if o.kind=1/\0<o.row.length then o.row[0]!.n else o.key
theorem anG {w:Wr} {s:Sc} {b:Bs} {o:Ot} (h:(bU w s b o).2=0):oN o=nS o/\(o.kind=1->0<o.row.length):=by
 have hr:eH s o=0:=by
  unfold bU at h
  split at h
  ·rename_i q;exact absurd h q
  ·rename_i q;exact zdn q
 obtain ⟨k,hk,hks,r1,_⟩:=mI hr
 unfold oN nS
 by_cases h1:o.kind=1
 ·have hi:=r1 h1
  unfold amY at hi
  split at hi
  ·cases hi
  split at hi
  ·rename_i q;exact absurd hi q
  split at hi
  ·cases hi
  rename_i u1 u2 u3
  have:0<o.row.length:=by omega
  rw [zp ⟨h1,this⟩,zp h1]
  exact ⟨rfl,λ_=>this⟩
 ·rw [zn (λq=>h1 q.1),zn h1]
  exact ⟨rfl,λq=>absurd q h1⟩
section
variable (hA:PF Tryz.prog 15 [] (PV.val (Value.bool (true))))
include hA
theorem aoC (s:Sc) (b:Bs) (o:Ot) (who:T.Sp) (kn:List Int) (table key:Int) (hs:ScG s) (hb:BsB b) (hro:o.row.length<200000000000000) (hkn:kn.length<200000000000000):PF Tryz.prog 6 [.agg (scC s), .agg (bsC b), .agg o.cells, .agg who.cells, .seq (kn.map I1),(.val (.int .i64 table)),(.val (.int .i64 key))] (.val (.bool true)):=by
 have hf:=sA s b hs.l hs.b hs.k hb
 have hfo:=lM o hro
 cases g1:fewC s b with
 |false=>
  rw [g1] at hf
  generalize fE o=F at*
  refine aG aD Tryz.func6 (by kernel_rfl) rfl rfl rfl rfl (λst=> ?_)
  (try apply wO pk;rfl);(repeat' first|show Cn _;constructor|apply wC pk;rfl;rfl|apply wE pk;rfl;rfl|apply wX pk;rfl|apply wN pk;rfl|apply wD pk [] [];kernel_rfl;rfl;rfl|apply aM;simp only [zqt,zqf]|refine aA rfl ?_ ?_<;>intro h<;>(try simp at h)<;>try omega|(refine aB ?_;refine ⟨_,_,_,rfl,zwr _,zsr _, ?_,rfl⟩;try rfl)|(apply aH;rfl;rfl;rfl;(intro _;(first|apply hA|apply hf|apply hfo)<;>first|assumption|omega);rotate_left;rfl;rfl)|intros;(try simp only [zql]);omega|((exfalso;simp at*;done)))
 |true=>
 rw [g1] at hf
 cases g2:fE o with
 |false=>
  rw [g2] at hfo
  refine aG aD Tryz.func6 (by kernel_rfl) rfl rfl rfl rfl (λst=> ?_)
  (try apply wO pk;rfl);(repeat' first|show Cn _;constructor|apply wC pk;rfl;rfl|apply wE pk;rfl;rfl|apply wX pk;rfl|apply wN pk;rfl|apply wD pk [] [];kernel_rfl;rfl;rfl|apply aM;simp only [zqt,zqf]|refine aA rfl ?_ ?_<;>intro h<;>(try simp at h)<;>try omega|(refine aB ?_;refine ⟨_,_,_,rfl,zwr _,zsr _, ?_,rfl⟩;try rfl)|(apply aH;rfl;rfl;rfl;(intro _;(first|apply hA|apply hf|apply hfo)<;>first|assumption|omega);rotate_left;rfl;rfl)|intros;(try simp only [zql]);omega|((exfalso;simp at*;done)))
 |true=>
 rw [g2] at hfo
 by_cases g3:kn.length>100
 ·refine aG aD Tryz.func6 (by kernel_rfl) rfl rfl rfl rfl (λst=> ?_)
  (try apply wO pk;rfl);(repeat' first|show Cn _;constructor|apply wC pk;rfl;rfl|apply wE pk;rfl;rfl|apply wX pk;rfl|apply wN pk;rfl|apply wD pk [] [];kernel_rfl;rfl;rfl|apply aM;simp only [zqt,zqf]|refine aA rfl ?_ ?_<;>intro h<;>(try simp at h)<;>try omega|(refine aB ?_;refine ⟨_,_,_,rfl,zwr _,zsr _, ?_,rfl⟩;try rfl)|(apply aH;rfl;rfl;rfl;(intro _;(first|apply hA|apply hf|apply hfo)<;>first|assumption|omega);rotate_left;rfl;rfl)|intros;(try simp only [zql]);omega|((exfalso;simp only [zql] at*;omega)))
 by_cases g4:o.kind=8
 ·refine aG aD Tryz.func6 (by kernel_rfl) rfl rfl rfl rfl (λst=> ?_)
  (try apply wO pk;rfl);(repeat' first|show Cn _;constructor|apply wC pk;rfl;rfl|apply wE pk;rfl;rfl|apply wX pk;rfl|apply wN pk;rfl|apply wD pk [] [];kernel_rfl;rfl;rfl|apply aM;simp only [zqt,zqf]|refine aA rfl ?_ ?_<;>intro h<;>(try simp at h)<;>try omega|(refine aB ?_;refine ⟨_,_,_,rfl,zwr _,zsr _, ?_,rfl⟩;try rfl)|(apply aH;rfl;rfl;rfl;(intro _;(first|apply hA|apply hf|apply hfo)<;>first|assumption|omega);rotate_left;rfl;rfl)|intros;(try simp only [zql]);omega|((exfalso;simp only [zql] at*;omega)))
 have hkn:kn.length<1000000000000:=by omega
 obtain ⟨hK,hW⟩:=ScK.of g1 hs.b hs.k
 have hfw:rN o:=gX.1 g2
 have hdo:=kY (w:=⟨who,kn⟩) (o:=o) hK (n:=0) (b:=b) ⟨hK.sb,hK.len,hW,by omega,hkn,hfw⟩
 have hxw:=aCJ (w:=⟨who,kn⟩) (s:=s) (o:=o) hW hfw
 dsimp only at hdo
 by_cases he:(doP ⟨who,kn⟩ s b o).2≠0
 ·generalize doP ⟨who,kn⟩ s b o=R at*
  obtain ⟨B,e⟩:=R
  unfold lD at hdo
  dsimp only at hdo he
  refine aG aD Tryz.func6 (by kernel_rfl) rfl rfl rfl rfl (λst=> ?_)
  (try apply wO pk;rfl);(repeat' first|show Cn _;constructor|apply wC pk;rfl;rfl|apply wE pk;rfl;rfl|apply wX pk;rfl|apply wN pk;rfl|apply wD pk [] [];kernel_rfl;rfl;rfl|apply aM;simp only [zqt,zqf]|refine aA rfl ?_ ?_<;>intro h<;>(try simp at h)<;>try omega|(refine aB ?_;refine ⟨_,_,_,rfl,zwr _,zsr _, ?_,rfl⟩;try rfl)|(apply aH;rfl;rfl;rfl;(intro _;(first|apply hA|apply hf|apply hfo|apply hdo)<;>first|assumption|omega);rotate_left;rfl;rfl)|intros;(try simp only [zql]);omega|((exfalso;simp only [zql] at*;omega)))
 have he:=zdn he
 obtain ⟨r1,r2,r3⟩:=abC he
 obtain ⟨_,hbb,_⟩:=dQ.1 r1
 rw [r2] at he r3
 obtain ⟨a,a1,a2,_,a4,a5⟩:=abW hbb g4 (by have:=(nY hW o.table).1;omega) he
 obtain ⟨w1,w2⟩:=anG he
 rw [r2,a4] at hdo hxw
 unfold lD at hdo
 dsimp only at hdo hxw
 have hxS:=hxw.S (by omega)
 have hg1:=jR hxS (by omega) o.table (nS o)
 rw [yF hbb a5,zp ⟨rfl,a1.symm⟩] at hg1
 have hg1:PF Tryz.prog 24 [.agg (bsC (fP b o.table a)),(.val (.int .i64 o.table)),(.val (.int .i64 (nS o)))] (.tup [.agg a.cells,(.val (.bool true))]):=hg1
 have hg2:=jR (hW.S (by omega)) (by omega) table key
 have hg3:=jR hxS (by omega) table key
 have hgp:=λh:¬(table=o.table/\key=nS o)=>yF (k':=table) (key:=key) (a:=a) hbb a5|>.trans (zn (λq=>h ⟨q.1,q.2.trans a1⟩))
 have hal:a.by_.length<=100:=by
  have hm:a∈aN (fP b o.table a) o.table:=by
   rw [lY a5,zp rfl]
   exact (eC (iZ hbb _) a a).2 (.inl rfl)
  have:=((nY hxw o.table).2 a hm).1
  omega
 have hgL:=(hxS.got table key)
 generalize fP b o.table a=X at*
 generalize nS o=K at*
 have hany:(a.by_.any λy=>decide (y=(⟨who.dev,who.seq⟩:Dt)))=true:=List.any_eq_true.2 ⟨_,a2,decide_eq_true rfl⟩
 by_cases h1:o.kind=1
 ·have hpos:=w2 h1
  have hk0:o.row[0].n=K:=by
   unfold oN at w1
   rw [zp ⟨h1,hpos⟩,getElem!_pos o.row 0 hpos] at w1
   exact w1
  have hnil:o.row≠[]:=λq=>by rw [q] at hpos;simp at hpos
  subst hk0
  have hg0:(o.row.map Vl.cells)[0]?=some o.row[0].cells:=by rw [List.getElem?_map,zgg hpos];rfl
  generalize hV0:o.row[0]=v0 at*
  refine aG aD Tryz.func6 (by kernel_rfl) rfl rfl rfl rfl (λst=> ?_)
  focus ((try apply wO pk;rfl);(repeat' first|show Cn _;constructor|apply wC pk;rfl;rfl|apply wE pk;rfl;rfl|apply wX pk;rfl|apply wN pk;rfl|apply wD pk [] [];kernel_rfl;rfl;rfl|apply aM;simp only [zqt,zqf]|refine aA rfl ?_ ?_<;>intro h<;>(try simp at h)<;>try omega|(refine aB ?_;refine ⟨_,_,_,rfl,zwr _,zsr _, ?_,rfl⟩;try rfl)|(apply aH;rfl;rfl;rfl;(intro _;(first|apply hA|apply hf|apply hfo|apply hdo|apply hg1)<;>first|assumption|omega);rotate_left;rfl;rfl)|apply aO pk;(iterate 6 rfl);rotate_left;rfl;(intro hw;rfl);(intro hw;apply hg0<;>omega);(intro _;rfl);rfl|intros;(try simp only [zql]);omega|exfalso;exact hnil h|((exfalso;simp only [zql] at*;omega))))
  refine aK (X:={x:Nat//x<=a.by_.length}) (λi=>(((((((((((((St.nil 146 st).pv 5 ((PV.val (Value.int .i64 (table))))).pv 6 ((PV.val (Value.int .i64 (key))))).var 8 27 ((bsC b))).var 9 61 (o.cells)).var 10 47 (who.cells)).pv 15 ((PV.val (Value.bool (true))))).var 17 27 (bsC X)).pv 19 ((PV.val (Value.int .i64 (v0.n))))).var 20 67 (a.cells)).pv 21 ((PV.val (Value.bool (true))))).pv 22 ((PV.val (Value.bool ((a.by_.take i.1).any λy=>decide (y=(⟨who.dev,who.seq⟩:Dt))))))).pv 23 ((PV.val (Value.int .i64 ((i.1:Nat))))))) (λi=>a.by_.length-i.1) ⟨0,by omega⟩ ?_ (λi=> ?_)
  ·((repeat (first|refine Sub.pv ?_ rfl|refine Sub.var ?_ rfl rfl));exact Sub.nil _ _ _ (zsr _) rfl)
  obtain ⟨i,hi⟩:=i
  dsimp only
  by_cases hend:a.by_.length<=i
  ·rw [ztl hend,hany]
   by_cases hsame:table=o.table/\key=v0.n
   ·(try apply wO pk;rfl);(repeat' first|show Cn _;constructor|apply wC pk;rfl;rfl|apply wE pk;rfl;rfl|apply wX pk;rfl|apply wN pk;rfl|apply wD pk [] [];kernel_rfl;rfl;rfl|apply aM;simp only [zqt,zqf]|refine aA rfl ?_ ?_<;>intro h<;>(try simp at h)<;>try omega|(refine aB ?_;refine ⟨_,_,_,rfl,zwr _,zsr _, ?_,rfl⟩;try rfl)|intros;(try simp only [zql]);omega|(exfalso;grind))
   ·have hgp:=hgp hsame
    rw [hgp] at hg3
    have hsm:=acJ ((hW.S (by omega)).got table key) ((cL (aN b table) key).getD Ln.zero)
    rw [decide_eq_true rfl] at hsm
    clear hgp hgL
    generalize (cL (aN b table) key).isSome=I at*
    generalize (cL (aN b table) key).getD Ln.zero=P at*
    (try apply wO pk;rfl);(repeat' first|show Cn _;constructor|apply wC pk;rfl;rfl|apply wE pk;rfl;rfl|apply wX pk;rfl|apply wN pk;rfl|apply wD pk [] [];kernel_rfl;rfl;rfl|apply aM;simp only [zqt,zqf]|refine aA rfl ?_ ?_<;>intro h<;>(try simp at h)<;>try omega|(refine aB ?_;refine ⟨_,_,_,rfl,zwr _,zsr _, ?_,rfl⟩;try first|rfl|(simp);done)|(apply aH;rfl;rfl;rfl;(intro _;(first|apply hg2|apply hg3|apply hsm)<;>first|assumption|omega);rotate_left;rfl;rfl)|intros;(try simp only [zql]);omega|(exfalso;grind))
  have hil:i<a.by_.length:=by omega
  have e:((a.by_.take (i+1)).any λy=>decide (y=(⟨who.dev,who.seq⟩:Dt)))=(((a.by_.take i).any λy=>decide (y=(⟨who.dev,who.seq⟩:Dt)))||decide (a.by_[i]=(⟨who.dev,who.seq⟩:Dt))):=by rw [List.take_succ_eq_append_getElem hil,List.any_append];simp
  rw [<-aDe] at e
  generalize ((a.by_.take i).any λy=>decide (y=(⟨who.dev,who.seq⟩:Dt)))=Y at*
  cases Y with
  |true=>
   (try apply wO pk;rfl);(repeat' first|show Cn _;constructor|apply wC pk;rfl;rfl|apply wE pk;rfl;rfl|apply wX pk;rfl|apply wN pk;rfl|apply wD pk [] [];kernel_rfl;rfl;rfl|apply aM;simp only [zqt,zqf]|refine aA rfl ?_ ?_<;>intro h<;>(try simp at h)<;>try omega|(refine aB ?_;first|(refine ⟨_,_,_,rfl,zwr _,zsr _, ?_,rfl⟩;(first|rfl))|(refine ⟨_,_,_,rfl,zwr _,aL ‹_›, ?_,rfl⟩;(first|rfl))|(refine ⟨_,_,_,rfl,zwf _,zsr _, ?_,rfl⟩;(first|rfl))|(refine ⟨_,_,_,rfl,zwf _,aL ‹_›, ?_,rfl⟩;(first|rfl))|(refine ⟨_,_,_,rfl,zwr _,zsr _, ?_,rfl⟩)|(refine ⟨_,_,_,rfl,zwf _,aL ‹_›, ?_,rfl⟩))|apply aO pk;(iterate 6 rfl);rotate_left;rfl;(intro hw;rfl);(intro hw;apply aI<;>omega);(intro _;rfl);rfl|(refine ⟨⟨i+1,by omega⟩, ?_,by simp only;omega⟩;((dsimp only;rw [e]));((repeat (first|refine Sub.pv ?_ rfl|refine Sub.var ?_ rfl rfl));exact Sub.nil _ _ _ (zsr _) rfl))|intros;(try simp only [zql]);omega)
  |false=>
   (try apply wO pk;rfl);(repeat' first|show Cn _;constructor|apply wC pk;rfl;rfl|apply wE pk;rfl;rfl|apply wX pk;rfl|apply wN pk;rfl|apply wD pk [] [];kernel_rfl;rfl;rfl|apply aM;simp only [zqt,zqf]|refine aA rfl ?_ ?_<;>intro h<;>(try simp at h)<;>try omega|(refine aB ?_;first|(refine ⟨_,_,_,rfl,zwr _,zsr _, ?_,rfl⟩;(first|rfl))|(refine ⟨_,_,_,rfl,zwr _,aL ‹_›, ?_,rfl⟩;(first|rfl))|(refine ⟨_,_,_,rfl,zwf _,zsr _, ?_,rfl⟩;(first|rfl))|(refine ⟨_,_,_,rfl,zwf _,aL ‹_›, ?_,rfl⟩;(first|rfl))|(refine ⟨_,_,_,rfl,zwr _,zsr _, ?_,rfl⟩)|(refine ⟨_,_,_,rfl,zwf _,aL ‹_›, ?_,rfl⟩))|apply aO pk;(iterate 6 rfl);rotate_left;rfl;(intro hw;rfl);(intro hw;apply aI<;>omega);(intro _;rfl);rfl|(refine ⟨⟨i+1,by omega⟩, ?_,by simp only;omega⟩;((dsimp only;rw [e]));((repeat (first|refine Sub.pv ?_ rfl|refine Sub.var ?_ rfl rfl));exact Sub.nil _ _ _ (zsr _) rfl))|intros;(try simp only [zql]);omega)
 ·have hk0:o.key=K:=by
   unfold oN at w1
   rw [zn (λq=>h1 q.1)] at w1
   exact w1
  subst hk0
  refine aG aD Tryz.func6 (by kernel_rfl) rfl rfl rfl rfl (λst=> ?_)
  focus ((try apply wO pk;rfl);(repeat' first|show Cn _;constructor|apply wC pk;rfl;rfl|apply wE pk;rfl;rfl|apply wX pk;rfl|apply wN pk;rfl|apply wD pk [] [];kernel_rfl;rfl;rfl|apply aM;simp only [zqt,zqf]|refine aA rfl ?_ ?_<;>intro h<;>(try simp at h)<;>try omega|(refine aB ?_;refine ⟨_,_,_,rfl,zwr _,zsr _, ?_,rfl⟩;try rfl)|(apply aH;rfl;rfl;rfl;(intro _;(first|apply hA|apply hf|apply hfo|apply hdo|apply hg1)<;>first|assumption|omega);rotate_left;rfl;rfl)|apply aO pk;(iterate 6 rfl);rotate_left;rfl;(intro hw;rfl);(intro hw;apply aI<;>omega);(intro _;rfl);rfl|intros;(try simp only [zql]);omega|((exfalso;simp only [zql] at*;omega))))
  refine aK (X:={x:Nat//x<=a.by_.length}) (λi=>(((((((((((((St.nil 146 st).pv 5 ((PV.val (Value.int .i64 (table))))).pv 6 ((PV.val (Value.int .i64 (key))))).var 8 27 ((bsC b))).var 9 61 (o.cells)).var 10 47 (who.cells)).pv 15 ((PV.val (Value.bool (true))))).var 17 27 (bsC X)).pv 19 ((PV.val (Value.int .i64 (o.key))))).var 20 67 (a.cells)).pv 21 ((PV.val (Value.bool (true))))).pv 22 ((PV.val (Value.bool ((a.by_.take i.1).any λy=>decide (y=(⟨who.dev,who.seq⟩:Dt))))))).pv 23 ((PV.val (Value.int .i64 ((i.1:Nat))))))) (λi=>a.by_.length-i.1) ⟨0,by omega⟩ ?_ (λi=> ?_)
  ·((repeat (first|refine Sub.pv ?_ rfl|refine Sub.var ?_ rfl rfl));exact Sub.nil _ _ _ (zsr _) rfl)
  obtain ⟨i,hi⟩:=i
  dsimp only
  by_cases hend:a.by_.length<=i
  ·rw [ztl hend,hany]
   by_cases hsame:table=o.table/\key=o.key
   ·(try apply wO pk;rfl);(repeat' first|show Cn _;constructor|apply wC pk;rfl;rfl|apply wE pk;rfl;rfl|apply wX pk;rfl|apply wN pk;rfl|apply wD pk [] [];kernel_rfl;rfl;rfl|apply aM;simp only [zqt,zqf]|refine aA rfl ?_ ?_<;>intro h<;>(try simp at h)<;>try omega|(refine aB ?_;refine ⟨_,_,_,rfl,zwr _,zsr _, ?_,rfl⟩;try rfl)|intros;(try simp only [zql]);omega|(exfalso;grind))
   ·have hgp:=hgp hsame
    rw [hgp] at hg3
    have hsm:=acJ ((hW.S (by omega)).got table key) ((cL (aN b table) key).getD Ln.zero)
    rw [decide_eq_true rfl] at hsm
    clear hgp hgL
    generalize (cL (aN b table) key).isSome=I at*
    generalize (cL (aN b table) key).getD Ln.zero=P at*
    (try apply wO pk;rfl);(repeat' first|show Cn _;constructor|apply wC pk;rfl;rfl|apply wE pk;rfl;rfl|apply wX pk;rfl|apply wN pk;rfl|apply wD pk [] [];kernel_rfl;rfl;rfl|apply aM;simp only [zqt,zqf]|refine aA rfl ?_ ?_<;>intro h<;>(try simp at h)<;>try omega|(refine aB ?_;refine ⟨_,_,_,rfl,zwr _,zsr _, ?_,rfl⟩;try first|rfl|(simp);done)|(apply aH;rfl;rfl;rfl;(intro _;(first|apply hg2|apply hg3|apply hsm)<;>first|assumption|omega);rotate_left;rfl;rfl)|intros;(try simp only [zql]);omega|(exfalso;grind))
  have hil:i<a.by_.length:=by omega
  have e:((a.by_.take (i+1)).any λy=>decide (y=(⟨who.dev,who.seq⟩:Dt)))=(((a.by_.take i).any λy=>decide (y=(⟨who.dev,who.seq⟩:Dt)))||decide (a.by_[i]=(⟨who.dev,who.seq⟩:Dt))):=by rw [List.take_succ_eq_append_getElem hil,List.any_append];simp
  rw [<-aDe] at e
  generalize ((a.by_.take i).any λy=>decide (y=(⟨who.dev,who.seq⟩:Dt)))=Y at*
  cases Y with
  |true=>
   (try apply wO pk;rfl);(repeat' first|show Cn _;constructor|apply wC pk;rfl;rfl|apply wE pk;rfl;rfl|apply wX pk;rfl|apply wN pk;rfl|apply wD pk [] [];kernel_rfl;rfl;rfl|apply aM;simp only [zqt,zqf]|refine aA rfl ?_ ?_<;>intro h<;>(try simp at h)<;>try omega|(refine aB ?_;first|(refine ⟨_,_,_,rfl,zwr _,zsr _, ?_,rfl⟩;(first|rfl))|(refine ⟨_,_,_,rfl,zwr _,aL ‹_›, ?_,rfl⟩;(first|rfl))|(refine ⟨_,_,_,rfl,zwf _,zsr _, ?_,rfl⟩;(first|rfl))|(refine ⟨_,_,_,rfl,zwf _,aL ‹_›, ?_,rfl⟩;(first|rfl))|(refine ⟨_,_,_,rfl,zwr _,zsr _, ?_,rfl⟩)|(refine ⟨_,_,_,rfl,zwf _,aL ‹_›, ?_,rfl⟩))|apply aO pk;(iterate 6 rfl);rotate_left;rfl;(intro hw;rfl);(intro hw;apply aI<;>omega);(intro _;rfl);rfl|(refine ⟨⟨i+1,by omega⟩, ?_,by simp only;omega⟩;((dsimp only;rw [e]));((repeat (first|refine Sub.pv ?_ rfl|refine Sub.var ?_ rfl rfl));exact Sub.nil _ _ _ (zsr _) rfl))|intros;(try simp only [zql]);omega)
  |false=>
   (try apply wO pk;rfl);(repeat' first|show Cn _;constructor|apply wC pk;rfl;rfl|apply wE pk;rfl;rfl|apply wX pk;rfl|apply wN pk;rfl|apply wD pk [] [];kernel_rfl;rfl;rfl|apply aM;simp only [zqt,zqf]|refine aA rfl ?_ ?_<;>intro h<;>(try simp at h)<;>try omega|(refine aB ?_;first|(refine ⟨_,_,_,rfl,zwr _,zsr _, ?_,rfl⟩;(first|rfl))|(refine ⟨_,_,_,rfl,zwr _,aL ‹_›, ?_,rfl⟩;(first|rfl))|(refine ⟨_,_,_,rfl,zwf _,zsr _, ?_,rfl⟩;(first|rfl))|(refine ⟨_,_,_,rfl,zwf _,aL ‹_›, ?_,rfl⟩;(first|rfl))|(refine ⟨_,_,_,rfl,zwr _,zsr _, ?_,rfl⟩)|(refine ⟨_,_,_,rfl,zwf _,aL ‹_›, ?_,rfl⟩))|apply aO pk;(iterate 6 rfl);rotate_left;rfl;(intro hw;rfl);(intro hw;apply aI<;>omega);(intro _;rfl);rfl|(refine ⟨⟨i+1,by omega⟩, ?_,by simp only;omega⟩;((dsimp only;rw [e]));((repeat (first|refine Sub.pv ?_ rfl|refine Sub.var ?_ rfl rfl));exact Sub.nil _ _ _ (zsr _) rfl))|intros;(try simp only [zql]);omega)
theorem agE (s:Sc) (b:Bs) (o p:Ot) (a c:T.Sp) (kn km:List Int) (hs:ScG s) (hb:BsB b) (hro:o.row.length<200000000000000) (hrp:p.row.length<200000000000000) (hkn:kn.length<200000000000000) (hkm:km.length<200000000000000):PF Tryz.prog 7 [.agg (scC s), .agg (bsC b), .agg o.cells, .agg p.cells, .agg a.cells, .agg c.cells, .seq (kn.map I1), .seq (km.map I1)] (.val (.bool true)):=by
 have hf:=sA s b hs.l hs.b hs.k hb
 have hfo:=lM o hro
 have hfp:=lM p hrp
 cases g1:fewC s b with
 |false=>
  rw [g1] at hf
  generalize fE o=F at*
  generalize fE p=G at*
  refine aG aD Tryz.func7 (by kernel_rfl) rfl rfl rfl rfl (λst=> ?_)
  (try apply wO pk;rfl);(repeat' first|show Cn _;constructor|apply wC pk;rfl;rfl|apply wE pk;rfl;rfl|apply wX pk;rfl|apply wN pk;rfl|apply wD pk [] [];kernel_rfl;rfl;rfl|apply aM;simp only [zqt,zqf]|refine aA rfl ?_ ?_<;>intro h<;>(try simp at h)<;>try omega|(refine aB ?_;refine ⟨_,_,_,rfl,zwr _,zsr _, ?_,rfl⟩;try rfl)|(apply aH;rfl;rfl;rfl;(intro _;(first|apply hA|apply hf|apply hfo|apply hfp)<;>first|assumption|omega);rotate_left;rfl;rfl)|intros;(try simp only [zql]);omega|((exfalso;simp at*;done)))
 |true=>
 rw [g1] at hf
 cases g2:fE o with
 |false=>
  rw [g2] at hfo
  generalize fE p=G at*
  refine aG aD Tryz.func7 (by kernel_rfl) rfl rfl rfl rfl (λst=> ?_)
  (try apply wO pk;rfl);(repeat' first|show Cn _;constructor|apply wC pk;rfl;rfl|apply wE pk;rfl;rfl|apply wX pk;rfl|apply wN pk;rfl|apply wD pk [] [];kernel_rfl;rfl;rfl|apply aM;simp only [zqt,zqf]|refine aA rfl ?_ ?_<;>intro h<;>(try simp at h)<;>try omega|(refine aB ?_;refine ⟨_,_,_,rfl,zwr _,zsr _, ?_,rfl⟩;try rfl)|(apply aH;rfl;rfl;rfl;(intro _;(first|apply hA|apply hf|apply hfo|apply hfp)<;>first|assumption|omega);rotate_left;rfl;rfl)|intros;(try simp only [zql]);omega|((exfalso;simp at*;done)))
 |true=>
 rw [g2] at hfo
 cases g2p:fE p with
 |false=>
  rw [g2p] at hfp
  refine aG aD Tryz.func7 (by kernel_rfl) rfl rfl rfl rfl (λst=> ?_)
  (try apply wO pk;rfl);(repeat' first|show Cn _;constructor|apply wC pk;rfl;rfl|apply wE pk;rfl;rfl|apply wX pk;rfl|apply wN pk;rfl|apply wD pk [] [];kernel_rfl;rfl;rfl|apply aM;simp only [zqt,zqf]|refine aA rfl ?_ ?_<;>intro h<;>(try simp at h)<;>try omega|(refine aB ?_;refine ⟨_,_,_,rfl,zwr _,zsr _, ?_,rfl⟩;try rfl)|(apply aH;rfl;rfl;rfl;(intro _;(first|apply hA|apply hf|apply hfo|apply hfp)<;>first|assumption|omega);rotate_left;rfl;rfl)|intros;(try simp only [zql]);omega|((exfalso;simp at*;done)))
 |true=>
 rw [g2p] at hfp
 by_cases g3:kn.length>100\/km.length>100\/o.kind=8\/p.kind=8
 ·refine aG aD Tryz.func7 (by kernel_rfl) rfl rfl rfl rfl (λst=> ?_)
  (try apply wO pk;rfl);(repeat' first|show Cn _;constructor|apply wC pk;rfl;rfl|apply wE pk;rfl;rfl|apply wX pk;rfl|apply wN pk;rfl|apply wD pk [] [];kernel_rfl;rfl;rfl|apply aM;simp only [zqt,zqf]|refine aA rfl ?_ ?_<;>intro h<;>(try simp at h)<;>try omega|(refine aB ?_;refine ⟨_,_,_,rfl,zwr _,zsr _, ?_,rfl⟩;try rfl)|(apply aH;rfl;rfl;rfl;(intro _;(first|apply hA|apply hf|apply hfo|apply hfp)<;>first|assumption|omega);rotate_left;rfl;rfl)|intros;(try simp only [zql]);omega|((exfalso;simp only [zql] at*;omega)))
 simp only [not_or] at g3
 obtain ⟨g3,g3',g4,g5⟩:=g3
 have hkn:kn.length<1000000000000:=by omega
 have hkm:km.length<1000000000000:=by omega
 obtain ⟨hK,hW⟩:=ScK.of g1 hs.b hs.k
 have hfw:rN o:=gX.1 g2
 have hfwp:rN p:=gX.1 g2p
 have hDo:=λ(n:Nat) (hn:n<=20) (B:Bs) (h:OpW n B)=>kY (w:=⟨a,kn⟩) (o:=o) hK (n:=n) (b:=B) ⟨hK.sb,hK.len,h,hn,hkn,hfw⟩
 have hDp:=λ(n:Nat) (hn:n<=20) (B:Bs) (h:OpW n B)=>kY (w:=⟨c,km⟩) (o:=p) hK (n:=n) (b:=B) ⟨hK.sb,hK.len,h,hn,hkm,hfwp⟩
 dsimp only at hDo hDp
 have hx:=hDo 0 (by omega) b hW
 have hxw:=aCJ (w:=⟨a,kn⟩) (s:=s) (o:=o) hW hfw
 have hu:=hDp 0 (by omega) b hW
 have huw:=aCJ (w:=⟨c,km⟩) (s:=s) (o:=p) hW hfwp
 have hy:=hDp 1 (by omega) _ hxw
 have hyw:=aCJ (w:=⟨c,km⟩) (s:=s) (o:=p) hxw hfwp
 have hv:=hDo 1 (by omega) _ huw
 have hSm:=λc'=>jZ (hyw.S (by omega)) (by omega) c'
 have key:(doP ⟨a,kn⟩ s b o).2=0->(doP ⟨c,km⟩ s (doP ⟨a,kn⟩ s b o).1 p).2=0->¬(o.table=p.table/\oN o=oN p)->(doP ⟨c,km⟩ s b p).2=0/\doP ⟨a,kn⟩ s (doP ⟨c,km⟩ s b p).1 o=((doP ⟨c,km⟩ s (doP ⟨a,kn⟩ s b o).1 p).1,0):=λe1 e2 hne=>by
  obtain ⟨r1,r2,r3⟩:=abC e1
  obtain ⟨s1,s2,s3⟩:=abC e2
  obtain ⟨q1,q2,q3⟩:=dQ.1 r1
  obtain ⟨_,_,z3⟩:=dQ.1 s1
  rw [r2] at e1 e2 r3 s2⊢
  rw [s2] at e2⊢
  have o1:=(anG e1).1
  have o2:=(anG e2).1
  obtain ⟨p1,p2⟩:=aqH (v:=⟨c,km⟩) q2 g4 g5 (λt=>by have:=(nY hW t).1;omega) (by rw [<-o1,<-o2];exact hne) e1 e2 r3
  have hu:doP ⟨c,km⟩ s b p=bU ⟨c,km⟩ s b p:=by unfold doP;rw [zp (dQ.2 ⟨q1,q2,z3⟩)]
  rw [hu]
  refine ⟨p1, ?_⟩
  have hub:=rQ z3 q2 p1
  have hvv:doP ⟨a,kn⟩ s (bU ⟨c,km⟩ s b p).1 o=bU ⟨a,kn⟩ s (bU ⟨c,km⟩ s b p).1 o:=by unfold doP;rw [zp (dQ.2 ⟨q1,hub,q3⟩)]
  rw [hvv,p2]
  exact Prod.ext rfl e2
 have hq1:0<o.row.length->o.row[0]!.n=oN o\/o.kind≠1:=λh=>by
  unfold oN
  by_cases q:o.kind=1
  ·left;rw [zp ⟨q,h⟩]
  ·exact .inr q
 generalize doP ⟨a,kn⟩ s b o=X at*
 generalize doP ⟨c,km⟩ s b p=U at*
 generalize doP ⟨c,km⟩ s X.1 p=Y at*
 generalize doP ⟨a,kn⟩ s U.1 o=V at*
 unfold lD at hx hu hy hv
 obtain ⟨X,ex⟩:=X
 obtain ⟨U,eu⟩:=U
 obtain ⟨Y,ey⟩:=Y
 obtain ⟨V,ev⟩:=V
 dsimp only at*
 obtain ⟨qo,hqo⟩:∃q,oN o=q:=⟨_,rfl⟩
 obtain ⟨qp,hqp⟩:∃q,oN p=q:=⟨_,rfl⟩
 rw [hqo,hqp] at key
 clear hq1
 by_cases h1:o.kind=1/\0<o.row.length
 ·by_cases h2:p.kind=1/\0<p.row.length
  ·have hk1:(o.row[0]'h1.2).n=qo:=by
    unfold oN at hqo
    rw [zp h1,getElem!_pos o.row 0 h1.2] at hqo
    exact hqo
   have hg1:(o.row.map Vl.cells)[0]?=some (o.row[0]'h1.2).cells:=by rw [List.getElem?_map,zgg h1.2];rfl
   have hp1:=h1.2
   have hn1:o.row≠[]:=λq=>by rw [q] at hp1;simp at hp1
   subst hk1
   generalize hV1:(o.row[0]'h1.2)=v1 at*
   have hk2:(p.row[0]'h2.2).n=qp:=by
    unfold oN at hqp
    rw [zp h2,getElem!_pos p.row 0 h2.2] at hqp
    exact hqp
   have hg2:(p.row.map Vl.cells)[0]?=some (p.row[0]'h2.2).cells:=by rw [List.getElem?_map,zgg h2.2];rfl
   have hp2:=h2.2
   have hn2:p.row≠[]:=λq=>by rw [q] at hp2;simp at hp2
   subst hk2
   generalize hV2:(p.row[0]'h2.2)=v2 at*
   by_cases hsm:o.table=p.table/\v1.n=v2.n
   ·clear key hSm
    refine aG aD Tryz.func7 (by kernel_rfl) rfl rfl rfl rfl (λst=> ?_)
    (try apply wO pk;rfl);(repeat' first|show Cn _;constructor|apply wC pk;rfl;rfl|apply wE pk;rfl;rfl|apply wX pk;rfl|apply wN pk;rfl|apply wD pk [] [];kernel_rfl;rfl;rfl|apply aM;simp only [zqt,zqf]|refine aA rfl ?_ ?_<;>intro h<;>(try simp at h)<;>try omega|(refine aB ?_;refine ⟨_,_,_,rfl,zwr _,zsr _, ?_,rfl⟩;try rfl)|(apply aH;rfl;rfl;rfl;(intro _;(first|apply hA|apply hf|apply hfo|apply hfp)<;>first|assumption|omega);rotate_left;rfl;rfl)|apply aO pk;(iterate 6 rfl);rotate_left;rfl;(first|(intro hw;rfl);(intro hw;apply hg1<;>omega);(intro _;rfl)|(intro hw;rfl);(intro hw;apply hg2<;>omega);(intro _;rfl));rfl|intros;(try simp only [zql]);omega|(exfalso;grind)|((exfalso;simp only [zql] at*;omega)))
   by_cases he1:ex≠0
   ·clear key hSm
    refine aG aD Tryz.func7 (by kernel_rfl) rfl rfl rfl rfl (λst=> ?_)
    (try apply wO pk;rfl);(repeat' first|show Cn _;constructor|apply wC pk;rfl;rfl|apply wE pk;rfl;rfl|apply wX pk;rfl|apply wN pk;rfl|apply wD pk [] [];kernel_rfl;rfl;rfl|apply aM;simp only [zqt,zqf]|refine aA rfl ?_ ?_<;>intro h<;>(try simp at h)<;>try omega|(refine aB ?_;refine ⟨_,_,_,rfl,zwr _,zsr _, ?_,rfl⟩;try rfl)|(apply aH;rfl;rfl;rfl;(intro _;(first|apply hA|apply hf|apply hfo|apply hfp|apply hx)<;>first|assumption|omega);rotate_left;rfl;rfl)|apply aO pk;(iterate 6 rfl);rotate_left;rfl;(first|(intro hw;rfl);(intro hw;apply hg1<;>omega);(intro _;rfl)|(intro hw;rfl);(intro hw;apply hg2<;>omega);(intro _;rfl));rfl|intros;(try simp only [zql]);omega|(exfalso;grind)|((exfalso;simp only [zql] at*;omega)))
   have he1:=zdn he1
   by_cases he2:ey≠0
   ·clear key hSm
    refine aG aD Tryz.func7 (by kernel_rfl) rfl rfl rfl rfl (λst=> ?_)
    (try apply wO pk;rfl);(repeat' first|show Cn _;constructor|apply wC pk;rfl;rfl|apply wE pk;rfl;rfl|apply wX pk;rfl|apply wN pk;rfl|apply wD pk [] [];kernel_rfl;rfl;rfl|apply aM;simp only [zqt,zqf]|refine aA rfl ?_ ?_<;>intro h<;>(try simp at h)<;>try omega|(refine aB ?_;refine ⟨_,_,_,rfl,zwr _,zsr _, ?_,rfl⟩;try rfl)|(apply aH;rfl;rfl;rfl;(intro _;(first|apply hA|apply hf|apply hfo|apply hfp|apply hx|apply hy)<;>first|assumption|omega);rotate_left;rfl;rfl)|apply aO pk;(iterate 6 rfl);rotate_left;rfl;(first|(intro hw;rfl);(intro hw;apply hg1<;>omega);(intro _;rfl)|(intro hw;rfl);(intro hw;apply hg2<;>omega);(intro _;rfl));rfl|intros;(try simp only [zql]);omega|(exfalso;grind)|((exfalso;simp only [zql] at*;omega)))
   have he2:=zdn he2
   obtain ⟨k1,k2⟩:=key he1 he2 hsm
   injection k2 with k2 k3
   subst he1 he2 k1 k3
   subst k2
   have hSm:=hSm V
   rw [decide_eq_true rfl] at hSm
   refine aG aD Tryz.func7 (by kernel_rfl) rfl rfl rfl rfl (λst=> ?_)
   (try apply wO pk;rfl);(repeat' first|show Cn _;constructor|apply wC pk;rfl;rfl|apply wE pk;rfl;rfl|apply wX pk;rfl|apply wN pk;rfl|apply wD pk [] [];kernel_rfl;rfl;rfl|apply aM;simp only [zqt,zqf]|refine aA rfl ?_ ?_<;>intro h<;>(try simp at h)<;>try omega|(refine aB ?_;refine ⟨_,_,_,rfl,zwr _,zsr _, ?_,rfl⟩;try rfl)|(apply aH;rfl;rfl;rfl;(intro _;(first|apply hA|apply hf|apply hfo|apply hfp|apply hx|apply hy|apply hu|apply hv|apply hSm)<;>first|assumption|omega);rotate_left;rfl;rfl)|apply aO pk;(iterate 6 rfl);rotate_left;rfl;(first|(intro hw;rfl);(intro hw;apply hg1<;>omega);(intro _;rfl)|(intro hw;rfl);(intro hw;apply hg2<;>omega);(intro _;rfl));rfl|intros;(try simp only [zql]);omega|(exfalso;grind)|((exfalso;simp only [zql] at*;omega)))
  ·have hk1:(o.row[0]'h1.2).n=qo:=by
    unfold oN at hqo
    rw [zp h1,getElem!_pos o.row 0 h1.2] at hqo
    exact hqo
   have hg1:(o.row.map Vl.cells)[0]?=some (o.row[0]'h1.2).cells:=by rw [List.getElem?_map,zgg h1.2];rfl
   have hp1:=h1.2
   have hn1:o.row≠[]:=λq=>by rw [q] at hp1;simp at hp1
   subst hk1
   generalize hV1:(o.row[0]'h1.2)=v1 at*
   have hk2:p.key=qp:=by
    unfold oN at hqp
    rw [zn h2] at hqp
    exact hqp
   subst hk2
   by_cases hsm:o.table=p.table/\v1.n=p.key
   ·clear key hSm
    refine aG aD Tryz.func7 (by kernel_rfl) rfl rfl rfl rfl (λst=> ?_)
    (try apply wO pk;rfl);(repeat' first|show Cn _;constructor|apply wC pk;rfl;rfl|apply wE pk;rfl;rfl|apply wX pk;rfl|apply wN pk;rfl|apply wD pk [] [];kernel_rfl;rfl;rfl|apply aM;simp only [zqt,zqf]|refine aA rfl ?_ ?_<;>intro h<;>(try simp at h)<;>try omega|(refine aB ?_;refine ⟨_,_,_,rfl,zwr _,zsr _, ?_,rfl⟩;try rfl)|(apply aH;rfl;rfl;rfl;(intro _;(first|apply hA|apply hf|apply hfo|apply hfp)<;>first|assumption|omega);rotate_left;rfl;rfl)|apply aO pk;(iterate 6 rfl);rotate_left;rfl;(intro hw;rfl);(intro hw;apply hg1<;>omega);(intro _;rfl);rfl|intros;(try simp only [zql]);omega|(exfalso;grind)|((exfalso;simp only [zql] at*;omega)))
   by_cases he1:ex≠0
   ·clear key hSm
    refine aG aD Tryz.func7 (by kernel_rfl) rfl rfl rfl rfl (λst=> ?_)
    (try apply wO pk;rfl);(repeat' first|show Cn _;constructor|apply wC pk;rfl;rfl|apply wE pk;rfl;rfl|apply wX pk;rfl|apply wN pk;rfl|apply wD pk [] [];kernel_rfl;rfl;rfl|apply aM;simp only [zqt,zqf]|refine aA rfl ?_ ?_<;>intro h<;>(try simp at h)<;>try omega|(refine aB ?_;refine ⟨_,_,_,rfl,zwr _,zsr _, ?_,rfl⟩;try rfl)|(apply aH;rfl;rfl;rfl;(intro _;(first|apply hA|apply hf|apply hfo|apply hfp|apply hx)<;>first|assumption|omega);rotate_left;rfl;rfl)|apply aO pk;(iterate 6 rfl);rotate_left;rfl;(intro hw;rfl);(intro hw;apply hg1<;>omega);(intro _;rfl);rfl|intros;(try simp only [zql]);omega|(exfalso;grind)|((exfalso;simp only [zql] at*;omega)))
   have he1:=zdn he1
   by_cases he2:ey≠0
   ·clear key hSm
    refine aG aD Tryz.func7 (by kernel_rfl) rfl rfl rfl rfl (λst=> ?_)
    (try apply wO pk;rfl);(repeat' first|show Cn _;constructor|apply wC pk;rfl;rfl|apply wE pk;rfl;rfl|apply wX pk;rfl|apply wN pk;rfl|apply wD pk [] [];kernel_rfl;rfl;rfl|apply aM;simp only [zqt,zqf]|refine aA rfl ?_ ?_<;>intro h<;>(try simp at h)<;>try omega|(refine aB ?_;refine ⟨_,_,_,rfl,zwr _,zsr _, ?_,rfl⟩;try rfl)|(apply aH;rfl;rfl;rfl;(intro _;(first|apply hA|apply hf|apply hfo|apply hfp|apply hx|apply hy)<;>first|assumption|omega);rotate_left;rfl;rfl)|apply aO pk;(iterate 6 rfl);rotate_left;rfl;(intro hw;rfl);(intro hw;apply hg1<;>omega);(intro _;rfl);rfl|intros;(try simp only [zql]);omega|(exfalso;grind)|((exfalso;simp only [zql] at*;omega)))
   have he2:=zdn he2
   obtain ⟨k1,k2⟩:=key he1 he2 hsm
   injection k2 with k2 k3
   subst he1 he2 k1 k3
   subst k2
   have hSm:=hSm V
   rw [decide_eq_true rfl] at hSm
   refine aG aD Tryz.func7 (by kernel_rfl) rfl rfl rfl rfl (λst=> ?_)
   (try apply wO pk;rfl);(repeat' first|show Cn _;constructor|apply wC pk;rfl;rfl|apply wE pk;rfl;rfl|apply wX pk;rfl|apply wN pk;rfl|apply wD pk [] [];kernel_rfl;rfl;rfl|apply aM;simp only [zqt,zqf]|refine aA rfl ?_ ?_<;>intro h<;>(try simp at h)<;>try omega|(refine aB ?_;refine ⟨_,_,_,rfl,zwr _,zsr _, ?_,rfl⟩;try rfl)|(apply aH;rfl;rfl;rfl;(intro _;(first|apply hA|apply hf|apply hfo|apply hfp|apply hx|apply hy|apply hu|apply hv|apply hSm)<;>first|assumption|omega);rotate_left;rfl;rfl)|apply aO pk;(iterate 6 rfl);rotate_left;rfl;(intro hw;rfl);(intro hw;apply hg1<;>omega);(intro _;rfl);rfl|intros;(try simp only [zql]);omega|(exfalso;grind)|((exfalso;simp only [zql] at*;omega)))
 ·by_cases h2:p.kind=1/\0<p.row.length
  ·have hk1:o.key=qo:=by
    unfold oN at hqo
    rw [zn h1] at hqo
    exact hqo
   subst hk1
   have hk2:(p.row[0]'h2.2).n=qp:=by
    unfold oN at hqp
    rw [zp h2,getElem!_pos p.row 0 h2.2] at hqp
    exact hqp
   have hg2:(p.row.map Vl.cells)[0]?=some (p.row[0]'h2.2).cells:=by rw [List.getElem?_map,zgg h2.2];rfl
   have hp2:=h2.2
   have hn2:p.row≠[]:=λq=>by rw [q] at hp2;simp at hp2
   subst hk2
   generalize hV2:(p.row[0]'h2.2)=v2 at*
   by_cases hsm:o.table=p.table/\o.key=v2.n
   ·clear key hSm
    refine aG aD Tryz.func7 (by kernel_rfl) rfl rfl rfl rfl (λst=> ?_)
    (try apply wO pk;rfl);(repeat' first|show Cn _;constructor|apply wC pk;rfl;rfl|apply wE pk;rfl;rfl|apply wX pk;rfl|apply wN pk;rfl|apply wD pk [] [];kernel_rfl;rfl;rfl|apply aM;simp only [zqt,zqf]|refine aA rfl ?_ ?_<;>intro h<;>(try simp at h)<;>try omega|(refine aB ?_;refine ⟨_,_,_,rfl,zwr _,zsr _, ?_,rfl⟩;try rfl)|(apply aH;rfl;rfl;rfl;(intro _;(first|apply hA|apply hf|apply hfo|apply hfp)<;>first|assumption|omega);rotate_left;rfl;rfl)|apply aO pk;(iterate 6 rfl);rotate_left;rfl;(intro hw;rfl);(intro hw;apply hg2<;>omega);(intro _;rfl);rfl|intros;(try simp only [zql]);omega|(exfalso;grind)|((exfalso;simp only [zql] at*;omega)))
   by_cases he1:ex≠0
   ·clear key hSm
    refine aG aD Tryz.func7 (by kernel_rfl) rfl rfl rfl rfl (λst=> ?_)
    (try apply wO pk;rfl);(repeat' first|show Cn _;constructor|apply wC pk;rfl;rfl|apply wE pk;rfl;rfl|apply wX pk;rfl|apply wN pk;rfl|apply wD pk [] [];kernel_rfl;rfl;rfl|apply aM;simp only [zqt,zqf]|refine aA rfl ?_ ?_<;>intro h<;>(try simp at h)<;>try omega|(refine aB ?_;refine ⟨_,_,_,rfl,zwr _,zsr _, ?_,rfl⟩;try rfl)|(apply aH;rfl;rfl;rfl;(intro _;(first|apply hA|apply hf|apply hfo|apply hfp|apply hx)<;>first|assumption|omega);rotate_left;rfl;rfl)|apply aO pk;(iterate 6 rfl);rotate_left;rfl;(intro hw;rfl);(intro hw;apply hg2<;>omega);(intro _;rfl);rfl|intros;(try simp only [zql]);omega|(exfalso;grind)|((exfalso;simp only [zql] at*;omega)))
   have he1:=zdn he1
   by_cases he2:ey≠0
   ·clear key hSm
    refine aG aD Tryz.func7 (by kernel_rfl) rfl rfl rfl rfl (λst=> ?_)
    (try apply wO pk;rfl);(repeat' first|show Cn _;constructor|apply wC pk;rfl;rfl|apply wE pk;rfl;rfl|apply wX pk;rfl|apply wN pk;rfl|apply wD pk [] [];kernel_rfl;rfl;rfl|apply aM;simp only [zqt,zqf]|refine aA rfl ?_ ?_<;>intro h<;>(try simp at h)<;>try omega|(refine aB ?_;refine ⟨_,_,_,rfl,zwr _,zsr _, ?_,rfl⟩;try rfl)|(apply aH;rfl;rfl;rfl;(intro _;(first|apply hA|apply hf|apply hfo|apply hfp|apply hx|apply hy)<;>first|assumption|omega);rotate_left;rfl;rfl)|apply aO pk;(iterate 6 rfl);rotate_left;rfl;(intro hw;rfl);(intro hw;apply hg2<;>omega);(intro _;rfl);rfl|intros;(try simp only [zql]);omega|(exfalso;grind)|((exfalso;simp only [zql] at*;omega)))
   have he2:=zdn he2
   obtain ⟨k1,k2⟩:=key he1 he2 hsm
   injection k2 with k2 k3
   subst he1 he2 k1 k3
   subst k2
   have hSm:=hSm V
   rw [decide_eq_true rfl] at hSm
   refine aG aD Tryz.func7 (by kernel_rfl) rfl rfl rfl rfl (λst=> ?_)
   (try apply wO pk;rfl);(repeat' first|show Cn _;constructor|apply wC pk;rfl;rfl|apply wE pk;rfl;rfl|apply wX pk;rfl|apply wN pk;rfl|apply wD pk [] [];kernel_rfl;rfl;rfl|apply aM;simp only [zqt,zqf]|refine aA rfl ?_ ?_<;>intro h<;>(try simp at h)<;>try omega|(refine aB ?_;refine ⟨_,_,_,rfl,zwr _,zsr _, ?_,rfl⟩;try rfl)|(apply aH;rfl;rfl;rfl;(intro _;(first|apply hA|apply hf|apply hfo|apply hfp|apply hx|apply hy|apply hu|apply hv|apply hSm)<;>first|assumption|omega);rotate_left;rfl;rfl)|apply aO pk;(iterate 6 rfl);rotate_left;rfl;(intro hw;rfl);(intro hw;apply hg2<;>omega);(intro _;rfl);rfl|intros;(try simp only [zql]);omega|(exfalso;grind)|((exfalso;simp only [zql] at*;omega)))
  ·have hk1:o.key=qo:=by
    unfold oN at hqo
    rw [zn h1] at hqo
    exact hqo
   subst hk1
   have hk2:p.key=qp:=by
    unfold oN at hqp
    rw [zn h2] at hqp
    exact hqp
   subst hk2
   by_cases hsm:o.table=p.table/\o.key=p.key
   ·clear key hSm
    refine aG aD Tryz.func7 (by kernel_rfl) rfl rfl rfl rfl (λst=> ?_)
    (try apply wO pk;rfl);(repeat' first|show Cn _;constructor|apply wC pk;rfl;rfl|apply wE pk;rfl;rfl|apply wX pk;rfl|apply wN pk;rfl|apply wD pk [] [];kernel_rfl;rfl;rfl|apply aM;simp only [zqt,zqf]|refine aA rfl ?_ ?_<;>intro h<;>(try simp at h)<;>try omega|(refine aB ?_;refine ⟨_,_,_,rfl,zwr _,zsr _, ?_,rfl⟩;try rfl)|(apply aH;rfl;rfl;rfl;(intro _;(first|apply hA|apply hf|apply hfo|apply hfp)<;>first|assumption|omega);rotate_left;rfl;rfl)|apply aO pk;(iterate 6 rfl);rotate_left;rfl;(intro hw;rfl);(intro hw;apply aI<;>omega);(intro _;rfl);rfl|intros;(try simp only [zql]);omega|(exfalso;grind)|((exfalso;simp only [zql] at*;omega)))
   by_cases he1:ex≠0
   ·clear key hSm
    refine aG aD Tryz.func7 (by kernel_rfl) rfl rfl rfl rfl (λst=> ?_)
    (try apply wO pk;rfl);(repeat' first|show Cn _;constructor|apply wC pk;rfl;rfl|apply wE pk;rfl;rfl|apply wX pk;rfl|apply wN pk;rfl|apply wD pk [] [];kernel_rfl;rfl;rfl|apply aM;simp only [zqt,zqf]|refine aA rfl ?_ ?_<;>intro h<;>(try simp at h)<;>try omega|(refine aB ?_;refine ⟨_,_,_,rfl,zwr _,zsr _, ?_,rfl⟩;try rfl)|(apply aH;rfl;rfl;rfl;(intro _;(first|apply hA|apply hf|apply hfo|apply hfp|apply hx)<;>first|assumption|omega);rotate_left;rfl;rfl)|apply aO pk;(iterate 6 rfl);rotate_left;rfl;(intro hw;rfl);(intro hw;apply aI<;>omega);(intro _;rfl);rfl|intros;(try simp only [zql]);omega|(exfalso;grind)|((exfalso;simp only [zql] at*;omega)))
   have he1:=zdn he1
   by_cases he2:ey≠0
   ·clear key hSm
    refine aG aD Tryz.func7 (by kernel_rfl) rfl rfl rfl rfl (λst=> ?_)
    (try apply wO pk;rfl);(repeat' first|show Cn _;constructor|apply wC pk;rfl;rfl|apply wE pk;rfl;rfl|apply wX pk;rfl|apply wN pk;rfl|apply wD pk [] [];kernel_rfl;rfl;rfl|apply aM;simp only [zqt,zqf]|refine aA rfl ?_ ?_<;>intro h<;>(try simp at h)<;>try omega|(refine aB ?_;refine ⟨_,_,_,rfl,zwr _,zsr _, ?_,rfl⟩;try rfl)|(apply aH;rfl;rfl;rfl;(intro _;(first|apply hA|apply hf|apply hfo|apply hfp|apply hx|apply hy)<;>first|assumption|omega);rotate_left;rfl;rfl)|apply aO pk;(iterate 6 rfl);rotate_left;rfl;(intro hw;rfl);(intro hw;apply aI<;>omega);(intro _;rfl);rfl|intros;(try simp only [zql]);omega|(exfalso;grind)|((exfalso;simp only [zql] at*;omega)))
   have he2:=zdn he2
   obtain ⟨k1,k2⟩:=key he1 he2 hsm
   injection k2 with k2 k3
   subst he1 he2 k1 k3
   subst k2
   have hSm:=hSm V
   rw [decide_eq_true rfl] at hSm
   refine aG aD Tryz.func7 (by kernel_rfl) rfl rfl rfl rfl (λst=> ?_)
   (try apply wO pk;rfl);(repeat' first|show Cn _;constructor|apply wC pk;rfl;rfl|apply wE pk;rfl;rfl|apply wX pk;rfl|apply wN pk;rfl|apply wD pk [] [];kernel_rfl;rfl;rfl|apply aM;simp only [zqt,zqf]|refine aA rfl ?_ ?_<;>intro h<;>(try simp at h)<;>try omega|(refine aB ?_;refine ⟨_,_,_,rfl,zwr _,zsr _, ?_,rfl⟩;try rfl)|(apply aH;rfl;rfl;rfl;(intro _;(first|apply hA|apply hf|apply hfo|apply hfp|apply hx|apply hy|apply hu|apply hv|apply hSm)<;>first|assumption|omega);rotate_left;rfl;rfl)|apply aO pk;(iterate 6 rfl);rotate_left;rfl;(intro hw;rfl);(intro hw;apply aI<;>omega);(intro _;rfl);rfl|intros;(try simp only [zql]);omega|(exfalso;grind)|((exfalso;simp only [zql] at*;omega)))
end
end Go.Proofs.YtloecjjehapblaaGreatDoor
