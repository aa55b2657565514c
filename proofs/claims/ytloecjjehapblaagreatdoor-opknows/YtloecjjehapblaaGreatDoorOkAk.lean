import Derived.Test.YtloecjjehapblaaGreatDoorOkAj
import Derived.Test.YtloecjjehapblaaGreatDoorOkAh
import Derived.Test.YtloecjjehapblaaGreatDoorAcG
import Derived.Test.YtloecjjehapblaaGreatDoorOkAe
import Derived.Test.YtloecjjehapblaaGreatDoorOkAa
set_option linter.unusedSimpArgs false
set_option linter.unusedVariables false
namespace Go.Proofs.YtloecjjehapblaaGreatDoor
open Go Go.Abs
section
attribute [local irreducible] Ev PWp
set_option maxRecDepth 10000
set_option maxHeartbeats 4000000
variable (t:Tb) (rows:List (List Vl)) (b:Bs)
theorem akL (hl:rows.length<1000000000000000) (hx:t.checks.length<1000000000000000) (hk:zI t) (hr:∀r∈rows,X.rowOK r):PF Tryz.prog 59 [.agg (mW t rows b)] (.val (.int .i64 (dT (exR t) rows))):=by
 refine aG aF Tryz.func59 (by kernel_rfl) rfl rfl rfl rfl (λst=> ?_)
 focus ((try apply wO pk;rfl);(repeat' ((show Cn _;constructor))))
 refine aK (X:={x:Nat//x<=rows.length/\∀j (h:j<rows.length),j<x->exR t rows[j]=0}) (λi=>(((((St.nil 38 st).var 1 123 ((mW t rows b))).pv 10 (.seq (rows.map roC))).pv 11 ((PV.val (Value.int .i64 (((rows.map roC).length:Nat)))))).pv 12 ((PV.val (Value.int .i64 ((i.1:Nat))))))) (λi=>rows.length-i.1) ⟨0,by omega,by omega⟩ ?_ (λi=> ?_)
 ·((repeat (first|refine Sub.pv ?_ rfl|refine Sub.var ?_ rfl rfl));exact Sub.nil _ _ _ (zsr _) rfl)
 obtain ⟨i,hi,hI⟩:=i
 dsimp only
 by_cases hend:rows.length<=i
 ·have e:dT (exR t) rows=0:=mY λj hj=>hI j hj (by omega)
  (try apply wO pk;rfl);(repeat' first|show Cn _;constructor|apply wC pk;rfl;rfl|refine aB rfl ?_ ?_<;>intro h<;>(try simp at h)<;>try omega|(refine aC ?_;refine ⟨_,_,_,rfl,zwr _,zsr _, ?_,rfl⟩;try first|rfl|(rw [e]);done))
 have hil:i<rows.length:=by omega
 have hro:=hr _ (zgm hil)
 have e:=sR hI hil
 have hu:=sN hI hil
 focus ((try apply wO pk;rfl);(repeat' first|show Cn _;constructor|apply wC pk;rfl;rfl|apply wE pk;rfl;rfl|refine aB rfl ?_ ?_<;>intro h<;>(try simp at h)<;>try omega|apply aP pk;(iterate 6 rfl);rotate_left;rfl;(intro hw;rfl);(intro hw;apply aJ<;>omega);(intro _;rfl);rfl|intros;(try simp only [zql]);omega))
 refine aK (X:={x:Nat//x<=t.checks.length/\∀j (h:j<t.checks.length),j<x->chE (X.EvalR (exOf t.checks[j]) rows[i])=0}) (λy=>(((((((((St.nil 38 st).var 1 123 ((mW t rows b))).pv 4 (.seq (rows[i].map Vl.cells))).pv 10 (.seq (rows.map roC))).pv 11 ((PV.val (Value.int .i64 (((rows.map roC).length:Nat)))))).pv 12 ((PV.val (Value.int .i64 ((i:Nat)))))).pv 18 (.seq t.checks)).pv 19 ((PV.val (Value.int .i64 ((t.checks.length:Nat)))))).pv 20 ((PV.val (Value.int .i64 ((y.1:Nat))))))) (λy=>t.checks.length-y.1) ⟨0,by omega,by omega⟩ ?_ (λy=> ?_)
 ·((repeat (first|refine Sub.pv ?_ rfl|refine Sub.var ?_ rfl rfl));exact Sub.nil _ _ _ (zsr _) rfl)
 obtain ⟨y,hy,hyI⟩:=y
 dsimp only
 by_cases hend2:t.checks.length<=y
 ·have e2:exR t rows[i]=0:=mY λj hj=>hyI j hj (by omega)
  (try apply wO pk;rfl);(repeat' first|show Cn _;constructor|apply wC pk;rfl;rfl|refine aB rfl ?_ ?_<;>intro h<;>(try simp at h)<;>try omega|(refine ⟨⟨i+1,by omega,hu e2⟩, ?_,by simp only;omega⟩;((repeat (first|refine Sub.pv ?_ rfl|refine Sub.var ?_ rfl rfl));exact Sub.nil _ _ _ (zsr _) rfl))|intros;(try simp only [zql]);omega)
 have hyl:y<t.checks.length:=by omega
 obtain ⟨hok,hcc⟩:=agH (hk _ (zgm hyl))
 have he:=sR (f:=λc=>chE (X.EvalR (exOf c) rows[i])) hyI hyl
 have hyu:=sN (f:=λc=>chE (X.EvalR (exOf c) rows[i])) hyI hyl
 change chE _≠0->exR t rows[i]=chE _ at he
 change chE (X.EvalR (exOf t.checks[y]) rows[i])=0->_ at hyu
 have hE:=X.Eval_spec hok hro
 have hget:t.checks[y]?=some (exOf t.checks[y]).cells:=by rw [hcc,zgg hyl]
 generalize X.EvalR (exOf t.checks[y]) rows[i]=p at*
 generalize exOf t.checks[y]=x at*
 obtain ⟨xk,xn,xv,xo⟩:=x
 obtain ⟨⟨v1,v2,v3⟩,pe⟩:=p
 have hfin:chE (⟨v1,v2,v3⟩,pe)≠0->dT (exR t) rows=chE (⟨v1,v2,v3⟩,pe):=λh=>by
  have:=he h
  rw [e (by rw [this];exact h),this]
 by_cases h1:pe=0
 ·by_cases h2:v1=1/\v2=0/\v3=e0
  ·have e9:chE (⟨v1,v2,v3⟩,pe)=9:=by unfold chE;rw [zp h1,zp (by simp [h2])]
   rw [e9] at hfin
   have hf:=hfin (by decide)
   obtain ⟨rfl,rfl,rfl⟩:=h2
   (try apply wO pk;rfl);(repeat' first|show Cn _;constructor|apply wC pk;rfl;rfl|apply wE pk;rfl;rfl|refine aB rfl ?_ ?_<;>intro h<;>(try simp at h)<;>try omega|(refine aC ?_;refine ⟨_,_,_,rfl,zwr _,zsr _, ?_,rfl⟩;try first|rfl|(rw [hf]);done)|(apply aH;rfl;rfl;rfl;(intro _;apply hE<;>first|assumption|omega);rotate_left;rfl;rfl)|apply aP pk;(iterate 6 rfl);rotate_left;rfl;(intro hw;rfl);(intro hw;apply hget<;>omega);(intro _;rfl);rfl)
  ·have e0':chE (⟨v1,v2,v3⟩,pe)=0:=by unfold chE;rw [zp h1,zn (λq=>h2 (by simpa using q))]
   have hw:=hyu e0'
   (try apply wO pk;rfl);(repeat' first|show Cn _;constructor|apply wC pk;rfl;rfl|apply wE pk;rfl;rfl|refine aB rfl ?_ ?_<;>intro h<;>(try simp at h)<;>try omega|(refine aC ?_;refine ⟨_,_,_,rfl,zwr _,zsr _, ?_,rfl⟩;try rfl)|(apply aH;rfl;rfl;rfl;(intro _;apply hE<;>first|assumption|omega);rotate_left;rfl;rfl)|apply aP pk;(iterate 6 rfl);rotate_left;rfl;(intro hw;rfl);(intro hw;apply hget<;>omega);(intro _;rfl);rfl|(refine ⟨⟨y+1,by omega,hw⟩, ?_,by simp only;omega⟩;((repeat (first|refine Sub.pv ?_ rfl|refine Sub.var ?_ rfl rfl));exact Sub.nil _ _ _ (zsr _) rfl))|intros;(try simp only [zql]);omega|exfalso;simp_all;done)
 ·have e1:chE (⟨v1,v2,v3⟩,pe)=pe:=by unfold chE;rw [zn h1]
  rw [e1] at hfin
  have hf:=hfin h1
  (try apply wO pk;rfl);(repeat' first|show Cn _;constructor|apply wC pk;rfl;rfl|apply wE pk;rfl;rfl|refine aB rfl ?_ ?_<;>intro h<;>(try simp at h)<;>try omega|(refine aC ?_;refine ⟨_,_,_,rfl,zwr _,zsr _, ?_,rfl⟩;try first|rfl|(rw [hf]);done)|(apply aH;rfl;rfl;rfl;(intro _;apply hE<;>first|assumption|omega);rotate_left;rfl;rfl)|apply aP pk;(iterate 6 rfl);rotate_left;rfl;(intro hw;rfl);(intro hw;apply hget<;>omega);(intro _;rfl);rfl)
theorem afJ (hl:rows.length<1000000000000000) (hx:t.foreign.length<1000000000000000) (hr:∀f∈t.foreign,0<=f.col/\∀r∈rows,f.col<r.length) {n:Nat} (hb:BsS n b) (hn:n<=1000):PF Tryz.prog 60 [.agg (mW t rows b)] (.val (.int .i64 (if tI b t rows=false then 10 else 0))):=by
 have hyes:(∀j (h:j<t.foreign.length),(rows.all λr=> !decide (r[t.foreign[j].col.toNat]!.kind=1)||(eD (aN b t.foreign[j].table) r[t.foreign[j].col.toNat]!.n).isSome)=true)->tI b t rows=true:=λh=>by
  unfold tI
  rw [zal]
  intro f hf
  obtain ⟨j,hj,rfl⟩:=zgo hf
  exact h j hj
 have hno:∀j (h:j<t.foreign.length),(rows.all λr=> !decide (r[t.foreign[j].col.toNat]!.kind=1)||(eD (aN b t.foreign[j].table) r[t.foreign[j].col.toNat]!.n).isSome)=false->tI b t rows=false:=λj hj h=>by
  unfold tI
  rw [<-Bool.not_eq_true,zal]
  intro q
  rw [q _ (zgm hj)] at h;cases h
 generalize tI b t rows=B at*
 refine aG aF Tryz.func60 (by kernel_rfl) rfl rfl rfl rfl (λst=> ?_)
 focus ((try apply wO pk;rfl);(repeat' ((show Cn _;constructor))))
 refine aK (X:={x:Nat//x<=t.foreign.length/\∀j (h:j<t.foreign.length),j<x->(rows.all λr=> !decide (r[t.foreign[j].col.toNat]!.kind=1)||(eD (aN b t.foreign[j].table) r[t.foreign[j].col.toNat]!.n).isSome)=true}) (λi=>(((((St.nil 51 st).var 1 123 ((mW t rows b))).pv 11 (.seq (t.foreign.map Fr.cells))).pv 12 ((PV.val (Value.int .i64 (((t.foreign.map Fr.cells).length:Nat)))))).pv 13 ((PV.val (Value.int .i64 ((i.1:Nat))))))) (λi=>t.foreign.length-i.1) ⟨0,by omega,by omega⟩ ?_ (λi=> ?_)
 ·((repeat (first|refine Sub.pv ?_ rfl|refine Sub.var ?_ rfl rfl));exact Sub.nil _ _ _ (zsr _) rfl)
 obtain ⟨i,hi,hI⟩:=i
 dsimp only
 by_cases hend:t.foreign.length<=i
 ·have e:B=true:=hyes λj hj=>hI j hj (by omega)
  (try apply wO pk;rfl);(repeat' first|show Cn _;constructor|apply wC pk;rfl;rfl|refine aB rfl ?_ ?_<;>intro h<;>(try simp at h)<;>try omega|(refine aC ?_;refine ⟨_,_,_,rfl,zwr _,zsr _, ?_,rfl⟩;try first|rfl|(rw [e];rfl);done))
 have hil:i<t.foreign.length:=by omega
 obtain ⟨hf0,hfr⟩:=hr _ (zgm hil)
 have hno:=hno i hil
 have hup:(rows.all λr=> !decide (r[t.foreign[i].col.toNat]!.kind=1)||(eD (aN b t.foreign[i].table) r[t.foreign[i].col.toNat]!.n).isSome)=true->∀j (h:j<t.foreign.length),j<i+1->(rows.all λr=> !decide (r[t.foreign[j].col.toNat]!.kind=1)||(eD (aN b t.foreign[j].table) r[t.foreign[j].col.toNat]!.n).isSome)=true:=λh j hj hji=>by
  rcases zls.1 hji with q|q
  ·exact hI j hj q
  ·subst q;exact h
 focus ((try apply wO pk;rfl);(repeat' first|show Cn _;constructor|apply wC pk;rfl;rfl|apply wE pk;rfl;rfl|refine aB rfl ?_ ?_<;>intro h<;>(try simp at h)<;>try omega|apply aP pk;(iterate 6 rfl);rotate_left;rfl;(intro hw;rfl);(intro hw;apply aJ<;>omega);(intro _;rfl);rfl|intros;(try simp only [zql]);omega))
 refine aK (X:={x:Nat//x<=rows.length/\∀j (h:j<rows.length),j<x->(!decide (rows[j][t.foreign[i].col.toNat]!.kind=1)||(eD (aN b t.foreign[i].table) rows[j][t.foreign[i].col.toNat]!.n).isSome)=true}) (λy=>(((((((((St.nil 51 st).var 1 123 ((mW t rows b))).var 4 182 (t.foreign[i].cells)).pv 11 (.seq (t.foreign.map Fr.cells))).pv 12 ((PV.val (Value.int .i64 (((t.foreign.map Fr.cells).length:Nat)))))).pv 13 ((PV.val (Value.int .i64 ((i:Nat)))))).pv 18 (.seq (rows.map roC))).pv 19 ((PV.val (Value.int .i64 (((rows.map roC).length:Nat)))))).pv 20 ((PV.val (Value.int .i64 ((y.1:Nat))))))) (λy=>rows.length-y.1) ⟨0,by omega,by omega⟩ ?_ (λy=> ?_)
 ·((repeat (first|refine Sub.pv ?_ rfl|refine Sub.var ?_ rfl rfl));exact Sub.nil _ _ _ (zsr _) rfl)
 obtain ⟨y,hy,hyI⟩:=y
 dsimp only
 by_cases hend2:rows.length<=y
 ·have hw:=hup (by
   rw [zal]
   intro r hr
   obtain ⟨j,hj,rfl⟩:=zgo hr
   exact hyI j hj (by omega))
  (try apply wO pk;rfl);(repeat' first|show Cn _;constructor|apply wC pk;rfl;rfl|refine aB rfl ?_ ?_<;>intro h<;>(try simp at h)<;>try omega|(refine ⟨⟨i+1,by omega,hw⟩, ?_,by simp only;omega⟩;((repeat (first|refine Sub.pv ?_ rfl|refine Sub.var ?_ rfl rfl));exact Sub.nil _ _ _ (zsr _) rfl))|intros;(try simp only [zql]);omega)
 have hyl:y<rows.length:=by omega
 have hcr:=hfr _ (zgm hyl)
 have hG:=vU hb hn t.foreign[i].table rows[y][t.foreign[i].col.toNat]!.n
 have hno2:(!decide (rows[y][t.foreign[i].col.toNat]!.kind=1)||(eD (aN b t.foreign[i].table) rows[y][t.foreign[i].col.toNat]!.n).isSome)=false->B=false:=λh=>hno (by
  rw [<-Bool.not_eq_true,zal]
  intro q
  rw [q _ (zgm hyl)] at h;cases h)
 have hyu:(!decide (rows[y][t.foreign[i].col.toNat]!.kind=1)||(eD (aN b t.foreign[i].table) rows[y][t.foreign[i].col.toNat]!.n).isSome)=true->∀j (h:j<rows.length),j<y+1->(!decide (rows[j][t.foreign[i].col.toNat]!.kind=1)||(eD (aN b t.foreign[i].table) rows[j][t.foreign[i].col.toNat]!.n).isSome)=true:=λh j hj hji=>by
  rcases zls.1 hji with q|q
  ·exact hyI j hj q
  ·subst q;exact h
 have hci:t.foreign[i].col=((t.foreign[i].col.toNat:Nat):Int):=by omega
 have hlt:t.foreign[i].col.toNat<rows[y].length:=by omega
 have hgu:=getElem!_pos rows[y] t.foreign[i].col.toNat hlt
 rw [hgu] at hG hno2 hyu
 clear hgu
 generalize (eD (aN b t.foreign[i].table) rows[y][t.foreign[i].col.toNat].n).isSome=G at*
 cases G<;>by_cases hk1:rows[y][t.foreign[i].col.toNat].kind=1
 ·have e:B=false:=hno2 (by simp [hk1])
  (try apply wO pk;rfl);(repeat' first|show Cn _;constructor|apply wC pk;rfl;rfl|apply wE pk;rfl;rfl|apply wD pk [] [];kernel_rfl;rfl;rfl|refine aB rfl ?_ ?_<;>intro h<;>(try simp at h)<;>try omega|(refine aC ?_;refine ⟨_,_,_,rfl,zwr _,zsr _, ?_,rfl⟩;try first|rfl|(rw [e];rfl);done)|(apply aH;rfl;rfl;rfl;(intro _;apply hG<;>first|assumption|omega);rotate_left;rfl;rfl)|apply aP pk;(iterate 6 rfl);rotate_left;rfl;(first|(intro hw;rfl);(intro hw;apply aJ<;>omega);(intro _;rfl)|(intro hw;exact hci);(intro hw;apply aJ<;>omega);(intro _;rfl));rfl)
 ·have hw:=hyu (by simp [hk1])
  (try apply wO pk;rfl);(repeat' first|show Cn _;constructor|apply wC pk;rfl;rfl|apply wE pk;rfl;rfl|apply wD pk [] [];kernel_rfl;rfl;rfl|refine aB rfl ?_ ?_<;>intro h<;>(try simp at h)<;>try omega|(apply aH;rfl;rfl;rfl;(intro _;apply hG<;>first|assumption|omega);rotate_left;rfl;rfl)|apply aP pk;(iterate 6 rfl);rotate_left;rfl;(first|(intro hw;rfl);(intro hw;apply aJ<;>omega);(intro _;rfl)|(intro hw;exact hci);(intro hw;apply aJ<;>omega);(intro _;rfl));rfl|(refine ⟨⟨y+1,by omega,hw⟩, ?_,by simp only;omega⟩;((repeat (first|refine Sub.pv ?_ rfl|refine Sub.var ?_ rfl rfl));exact Sub.nil _ _ _ (zsr _) rfl))|intros;(try simp only [zql]);omega)
 ·have hw:=hyu (by simp)
  (try apply wO pk;rfl);(repeat' first|show Cn _;constructor|apply wC pk;rfl;rfl|apply wE pk;rfl;rfl|apply wD pk [] [];kernel_rfl;rfl;rfl|refine aB rfl ?_ ?_<;>intro h<;>(try simp at h)<;>try omega|(apply aH;rfl;rfl;rfl;(intro _;apply hG<;>first|assumption|omega);rotate_left;rfl;rfl)|apply aP pk;(iterate 6 rfl);rotate_left;rfl;(first|(intro hw;rfl);(intro hw;apply aJ<;>omega);(intro _;rfl)|(intro hw;exact hci);(intro hw;apply aJ<;>omega);(intro _;rfl));rfl|(refine ⟨⟨y+1,by omega,hw⟩, ?_,by simp only;omega⟩;((repeat (first|refine Sub.pv ?_ rfl|refine Sub.var ?_ rfl rfl));exact Sub.nil _ _ _ (zsr _) rfl))|intros;(try simp only [zql]);omega)
 ·have hw:=hyu (by simp)
  (try apply wO pk;rfl);(repeat' first|show Cn _;constructor|apply wC pk;rfl;rfl|apply wE pk;rfl;rfl|apply wD pk [] [];kernel_rfl;rfl;rfl|refine aB rfl ?_ ?_<;>intro h<;>(try simp at h)<;>try omega|(apply aH;rfl;rfl;rfl;(intro _;apply hG<;>first|assumption|omega);rotate_left;rfl;rfl)|apply aP pk;(iterate 6 rfl);rotate_left;rfl;(first|(intro hw;rfl);(intro hw;apply aJ<;>omega);(intro _;rfl)|(intro hw;exact hci);(intro hw;apply aJ<;>omega);(intro _;rfl));rfl|(refine ⟨⟨y+1,by omega,hw⟩, ?_,by simp only;omega⟩;((repeat (first|refine Sub.pv ?_ rfl|refine Sub.var ?_ rfl rfl));exact Sub.nil _ _ _ (zsr _) rfl))|intros;(try simp only [zql]);omega)
end
section
attribute [local irreducible] Ev PWp
set_option maxRecDepth 10000
set_option maxHeartbeats 4000000
structure TotOK (m:Su) (rows:List (List Vl)):Prop where
 len:rows.length<=2000
 c0:0<=m.col
 b0:0<=m.by_
 cl:∀r∈rows,m.col<r.length/\m.by_<r.length
 num:∀r∈rows,(-1099511627776<=r[m.col.toNat]!.n/\r[m.col.toNat]!.n<=1099511627776)/\(r[m.col.toNat]!.kind≠1->r[m.col.toNat]!.n=0)
theorem TotOK.ns {m:Su} {rows:List (List Vl)} (h:TotOK m rows):azC m rows:=λr hr=>(h.num r hr).2
theorem adU {m:Su} {g:Int}:∀{rows:List (List Vl)},(∀r∈rows, -1099511627776<=r[m.col.toNat]!.n/\r[m.col.toNat]!.n<=1099511627776)-> -1099511627776*(rows.length:Int)<=kL m g rows/\kL m g rows<=1099511627776*(rows.length:Int)
 |[],_=>by simp [kL]
 |r::rows,h=>by
  have ih:=adU (m:=m) (g:=g) (rows:=rows) λx hx=>h x (List.mem_cons_of_mem _ hx)
  have h0:=h r (List.mem_cons_self ..)
  rw [ahA]
  have: -1099511627776<=abQ m g r/\abQ m g r<=1099511627776:=by
   unfold abQ
   split
   ·exact h0
   ·omega
  simp only [zlc]
  omega
theorem aFC {m:Su} {rows:List (List Vl)} (h:azC m rows) (g:Int):(bW g (mS m rows)).getD 0=kL m g rows:=by
 have:=afT g [] h
 simp only [bW,Option.getD_none,Int.zero_add] at this
 exact this
theorem aBY {m:Su} {rows:List (List Vl)} {k:Nat} (h:k<rows.length):sE m (rows.take (k+1))=(sE m (rows.take k)&&decide (rows[k][m.col.toNat]!.n>=0)):=by
 unfold sE
 rw [List.take_succ_eq_append_getElem h,List.all_append];simp
theorem ahP (m:Su) (rows:List (List Vl)) (h:TotOK m rows):PF Tryz.prog 107 [.agg m.cells, .seq (rows.map roC)] (.tup [.fmap (aY Ie lZ (mS m rows)),(.val (.bool (sE m rows)))]):=by
 have hlen:=h.len
 refine aG aF Tryz.func107 (by kernel_rfl) rfl rfl rfl rfl (λst=> ?_)
 focus ((try apply wO pk;rfl);(repeat' first|(apply mkM (enc:=Ie) (f:=lZ);rfl;intro id hid)|show Cn _;constructor|apply wE pk;rfl;rfl))
 have hid0:st id=none:=hid
 clear hid
 refine aK (X:={x:Nat//x<=rows.length}) (λi=>(((((((St.nil 52 (upd st id (some (.map (aY Ie lZ (mS m (rows.take i.1))))))).var 2 184 (m.cells)).pv 6 (.mref id)).pv 7 ((PV.val (Value.bool (sE m (rows.take i.1)))))).pv 11 (.seq (rows.map roC))).pv 12 ((PV.val (Value.int .i64 ((((rows.map roC)).length:Nat)))))).pv 13 ((PV.val (Value.int .i64 ((i.1:Nat))))))) (λi=>rows.length-i.1) ⟨0,by omega⟩ ?_ (λi=> ?_)
 ·(((repeat (first|refine Sub.pv ?_ rfl|refine Sub.var ?_ rfl rfl));(exact Sub.nil _ _ _ (zsr _) rfl)))
 obtain ⟨i,hi⟩:=i
 dsimp only
 by_cases hend:rows.length<=i
 ·rw [ztl hend]
  (try apply wO pk;rfl);(repeat' first|apply iU 4;rfl;exact aA _ _ _|refine aC ?_;exact ⟨_,_,st,rfl,zwr _,qI hid0,rfl,rfl⟩|show Cn _;constructor|apply wC pk;rfl;rfl|refine aB rfl ?_ ?_<;>intro h<;>(try simp at h)<;>try omega)
 have hil:i<rows.length:=by omega
 obtain ⟨c1,c2⟩:=h.cl _ (zgm hil)
 have hc0:=h.c0
 have hb0:=h.b0
 have n1:=(h.num _ (zgm hil)).1
 have hns:azC m (rows.take i):=λr hr=>h.ns r (List.mem_of_mem_take hr)
 have hg:=aFC hns rows[i][m.by_.toNat]!.n
 have hbd:=adU (m:=m) (g:=rows[i][m.by_.toNat]!.n) (rows:=rows.take i) λr hr=>(h.num r (List.mem_of_mem_take hr)).1
 have hti:(rows.take i).length<=2000:=by rw [zlt];omega
 have hup:=aCr m hil
 have hpu:=aBY (m:=m) hil
 have hci:m.col=((m.col.toNat:Nat):Int):=by omega
 have hbi:m.by_=((m.by_.toNat:Nat):Int):=by omega
 have l1:m.col.toNat<rows[i].length:=by omega
 have l2:m.by_.toNat<rows[i].length:=by omega
 rw [hg] at hup
 have g1:=getElem!_pos rows[i] m.col.toNat l1
 have g2:=getElem!_pos rows[i] m.by_.toNat l2
 rw [g2] at hg hbd
 rw [g1,g2] at hup
 rw [g1] at hpu n1
 clear g1 g2
 generalize mS m (rows.take i)=M at*
 generalize sE m (rows.take i)=G at*
 generalize kL m rows[i][m.by_.toNat].n (rows.take i)=T at*
 have t1: -2199023255552000<=T:=by omega
 have t2:T<=2199023255552000:=by omega
 clear hbd
 by_cases hk:rows[i][m.by_.toNat].kind=1
 ·rw [zp hk] at hup
  (try apply wO pk;rfl);(repeat' first|apply wD pk [15] [7];kernel_rfl;rfl;rfl|show Cn _;constructor|apply wC pk;rfl;rfl|apply wE pk;rfl;rfl|refine aB rfl ?_ ?_<;>intro h<;>(try simp at h)<;>try omega|apply aP pk;(iterate 6 rfl);rotate_left;rfl;(first|(intro hw;rfl);(intro hw;apply aJ<;>omega);(intro _;rfl)|(intro hw;exact (by first|exact hci|exact hbi));(intro hw;apply aJ<;>omega);(intro _;rfl));rfl|apply lkD pk zD (f:=lZ) (z:=0) (k:=rows[i][m.by_.toNat].n) (n:=T);(iterate 5 rfl);rotate_left;rfl;exact aA _ _ _;rfl;exact hg|apply muA pk zD (f:=lZ) (k:=rows[i][m.by_.toNat].n) (v:=T+rows[i][m.col.toNat].n);(exact .inr rfl);(iterate 5 rfl);exact aA _ _ _;rfl|(refine ⟨⟨i+1,by omega⟩, ?_,by simp only;omega⟩;((dsimp only;rw [hup,hpu]));(((repeat (first|refine Sub.pv ?_ rfl|refine Sub.var ?_ rfl rfl));(exact Sub.nil _ _ _ (eY (by first|rfl|exact fV ‹_›|((simp only [St.pv,St.put,St.sst,St.setv,St.nil,St.var,fG]);first|done|rfl))) rfl))))|intros;(try simp only [zql]);omega)
 ·rw [zn hk] at hup
  (try apply wO pk;rfl);(repeat' first|show Cn _;constructor|apply wC pk;rfl;rfl|apply wE pk;rfl;rfl|refine aB rfl ?_ ?_<;>intro h<;>(try simp at h)<;>try omega|apply aP pk;(iterate 6 rfl);rotate_left;rfl;(first|(intro hw;rfl);(intro hw;apply aJ<;>omega);(intro _;rfl)|(intro hw;exact (by first|exact hci|exact hbi));(intro hw;apply aJ<;>omega);(intro _;rfl));rfl|(refine ⟨⟨i+1,by omega⟩, ?_,by simp only;omega⟩;((dsimp only;rw [hup,hpu]));(((repeat (first|refine Sub.pv ?_ rfl|refine Sub.var ?_ rfl rfl));(exact Sub.nil _ _ _ (zsr _) rfl))))|intros;(try simp only [zql]);omega)
theorem abC {α β:Type} (f:α->β):∀(l:List α) (i:Nat),(l.map f).eraseIdx i=(l.eraseIdx i).map f
 |[],_=>rfl
 |_::_,0=>rfl
 |a::l,i+1=>by simp only [zmp,List.eraseIdx_cons_succ,abC f l i]
theorem auC (es:List (Int×Int)) (i:Nat):(aY Ie lZ es).eraseIdx i=aY Ie lZ (es.eraseIdx i):=by unfold aY;rw [abC]
theorem aDo {es:List (Int×Int)} {i:Nat} {e:Value×PV} (h:(aY Ie lZ es)[i]?=some e):∃x,es[i]?=some x/\e=(Ie x.1,lZ x.2):=by
 unfold aY at h
 rw [List.getElem?_map] at h
 cases hx:es[i]? with
 |none=>rw [hx] at h;cases h
 |some x=>rw [hx] at h;exact ⟨x,rfl,(Option.some.inj h).symm⟩
theorem arM {es:List (Int×Int)} (h:aY Ie lZ es=[]):es=[]:=by cases es with
 |nil=>rfl
 |cons x l=>cases h
theorem adC {α:Type} {p:α->Bool}:∀{l:List α} {i:Nat} {x:α},l[i]?=some x->l.all p=(p x&&(l.eraseIdx i).all p)
 |[],_,_,h=>by simp at h
 |a::l,0,x,h=>by simp at h;subst h;rfl
 |a::l,i+1,x,h=>by
  simp only [List.getElem?_cons_succ] at h
  rw [List.eraseIdx_cons_succ,List.all_cons,List.all_cons,adC h]
  cases p a<;>cases p x<;>simp
theorem aDd (x:Int) (g:G):Rep g (PV.val (Value.int .i64 (x))) (Ie x):=by unfold Rep;rfl
theorem amF (t:Tb) (rows:List (List Vl)) (b:Bs) (hx:t.sums.length<1000000000000000) (hT:∀m∈t.sums,TotOK m rows):PF Tryz.prog 61 [.agg (mW t rows b)] (.val (.int .i64 (if vA t rows=false then 11 else 0))):=by
 have hyes:(∀j (h:j<t.sums.length),(sE t.sums[j] rows&&(mS t.sums[j] rows).all λe=>decide (e.2<=t.sums[j].max))=true)->vA t rows=true:=λh=>by
  unfold vA
  rw [zal]
  intro m hm
  obtain ⟨j,hj,rfl⟩:=zgo hm
  rw [<-asT (hT _ hm).ns];exact h j hj
 have hno:∀j (h:j<t.sums.length),(sE t.sums[j] rows&&(mS t.sums[j] rows).all λe=>decide (e.2<=t.sums[j].max))=false->vA t rows=false:=λj hj h=>by
  unfold vA
  rw [<-Bool.not_eq_true,zal]
  intro q
  have:=q _ (zgm hj)
  rw [<-asT (hT _ (zgm hj)).ns,h] at this;cases this
 generalize vA t rows=B at*
 refine aG aF Tryz.func61 (by kernel_rfl) rfl rfl rfl rfl (λst=> ?_)
 focus ((try apply wO pk;rfl);(repeat' ((show Cn _;constructor))))
 refine aK (X:={x:Nat//x<=t.sums.length/\∀j (h:j<t.sums.length),j<x->(sE t.sums[j] rows&&(mS t.sums[j] rows).all λe=>decide (e.2<=t.sums[j].max))=true}) (λi=>(((((St.nil 40 st).var 1 123 ((mW t rows b))).pv 11 (.seq (t.sums.map Su.cells))).pv 12 ((PV.val (Value.int .i64 (((t.sums.map Su.cells).length:Nat)))))).pv 13 ((PV.val (Value.int .i64 ((i.1:Nat))))))) (λi=>t.sums.length-i.1) ⟨0,by omega,by omega⟩ ?_ (λi=> ?_)
 ·((repeat (first|refine Sub.pv ?_ rfl|refine Sub.var ?_ rfl rfl));exact Sub.nil _ _ _ (zsr _) rfl)
 obtain ⟨i,hi,hI⟩:=i
 dsimp only
 by_cases hend:t.sums.length<=i
 ·have e:B=true:=hyes λj hj=>hI j hj (by omega)
  (try apply wO pk;rfl);(repeat' first|show Cn _;constructor|apply wC pk;rfl;rfl|refine aB rfl ?_ ?_<;>intro h<;>(try simp at h)<;>try omega|(refine aC ?_;refine ⟨_,_,_,rfl,zwr _,zsr _, ?_,rfl⟩;try first|rfl|(rw [e];rfl);done))
 have hil:i<t.sums.length:=by omega
 have hts:=ahP t.sums[i] rows (hT _ (zgm hil))
 have hno:=hno i hil
 have hup:(sE t.sums[i] rows&&(mS t.sums[i] rows).all λe=>decide (e.2<=t.sums[i].max))=true->∀j (h:j<t.sums.length),j<i+1->(sE t.sums[j] rows&&(mS t.sums[j] rows).all λe=>decide (e.2<=t.sums[j].max))=true:=λh j hj hji=>by
  rcases zls.1 hji with q|q
  ·exact hI j hj q
  ·subst q;exact h
 generalize mS t.sums[i] rows=M at*
 generalize sE t.sums[i] rows=G at*
 focus ((try apply wO pk;rfl);(repeat' first|(apply aFx pk;(iterate 5 rfl);intro it hit)|show Cn _;constructor|apply wC pk;rfl;rfl|apply wE pk;rfl;rfl|refine aB rfl ?_ ?_<;>intro h<;>(try simp at h)<;>try omega|(apply aH;rfl;rfl;rfl;(intro _;apply hts<;>first|assumption|omega);rotate_left;rfl;rfl)|apply aP pk;(iterate 6 rfl);rotate_left;rfl;(intro hw;rfl);(intro hw;apply aJ<;>omega);(intro _;rfl);rfl))
 have hit0:st it=none:=hit
 clear hit
 refine aK (X:={x:List (Int×Int)×Bool×Option (Value×PV)//(G&&M.all λe=>decide (e.2<=t.sums[i].max))=(x.2.1&&x.1.all λe=>decide (e.2<=t.sums[i].max))}) (λy=>((((((((St.nil 40 (upd st it (some (.iter y.1.2.2 (aY Ie lZ y.1.1))))).var 1 123 ((mW t rows b))).var 4 184 (t.sums[i].cells)).pv 6 ((PV.val (Value.bool (y.1.2.1))))).pv 11 (.seq (t.sums.map Su.cells))).pv 12 ((PV.val (Value.int .i64 (((t.sums.map Su.cells).length:Nat)))))).pv 13 ((PV.val (Value.int .i64 ((i:Nat)))))).pv 25 (.ref it 0))) (λy=>y.1.1.length) ⟨(M,G,none),rfl⟩ ?_ (λy=> ?_)
 ·(((repeat (first|refine Sub.pv ?_ rfl|refine Sub.var ?_ rfl rfl));(exact Sub.nil _ _ _ (zsr _) rfl)))
 obtain ⟨⟨rest,g,cur⟩,hI2⟩:=y
 dsimp only at hI2
 dsimp only
 have hdone:aY Ie lZ rest=[]->g=true->∀j (h:j<t.sums.length),j<i+1->(sE t.sums[j] rows&&(mS t.sums[j] rows).all λe=>decide (e.2<=t.sums[j].max))=true:=λh1 h2=>hup (by
  obtain rfl:=arM h1
  rw [hI2,h2];rfl)
 have hfail:aY Ie lZ rest=[]->g=false->B=false:=λh1 h2=>hno (by
  obtain rfl:=arM h1
  rw [hI2,h2];rfl)
 have hltg:∀{j:Nat} {x:Int×Int},rest[j]?=some x->(rest.eraseIdx j).length<rest.length:=fun {j x} hx=>by
  have:=(zge.1 hx).1
  rw [List.length_eraseIdx_of_lt this];omega
 have hn2:∀{j:Nat} {x:Int×Int},rest[j]?=some x->(G&&M.all λe=>decide (e.2<=t.sums[i].max))=((g&&decide (x.2<=t.sums[i].max))&&(rest.eraseIdx j).all λe=>decide (e.2<=t.sums[i].max)):=fun {j x} hx=>by
  rw [hI2,adC hx,Bool.and_assoc]
 clear hup hno hI2
 (try apply wO pk;rfl);(repeat' first|((refine aC ?_;exact ⟨_,_,st,rfl,zwr _,(by first|exact oB hit0|exact qI hit0),(by rw [hfail ‹_› ‹_›];rfl),rfl⟩))|show Cn _;constructor|apply wC pk;rfl;rfl|apply wE pk;rfl;rfl|refine aB rfl ?_ ?_<;>intro h<;>(try simp at h)<;>try omega|((apply aGs;rfl;exact aA _ _ _;rfl;rfl;rfl;intro hleft;rotate_left;intro j e he;obtain ⟨x,hx,rfl⟩:=aDo he;rw [auC];have hlt:=hltg hx;rotate_left))|apply aFg;rfl;rfl;exact aA _ _ _;exact aDd x.1;rotate_left;rfl;rfl|(refine ⟨⟨i+1,by omega,hdone ‹_› ‹_›⟩, ?_,by simp only;omega⟩;(((repeat (first|refine Sub.pv ?_ rfl|refine Sub.var ?_ rfl rfl));(exact Sub.nil _ _ _ (by first|exact qI hit0|exact oB hit0) rfl))))|(refine ⟨⟨(rest.eraseIdx j,g&&decide (x.2<=t.sums[i].max),some (Ie x.1,lZ x.2)),hn2 hx⟩, ?_,by simp only;omega⟩;((dsimp only));(((repeat (first|refine Sub.pv ?_ rfl|refine Sub.var ?_ rfl rfl));(exact Sub.nil _ _ _ (eY (by first|rfl|exact fV ‹_›|((simp only [St.pv,St.put,St.sst,St.setv,St.nil,St.var,fG]);first|done|rfl))) rfl))))|intros;(try simp only [zql]);omega)
end
end Go.Proofs.YtloecjjehapblaaGreatDoor
namespace Go.Proofs.YtloecjjehapblaaGreatDoor
open Go Go.Abs
attribute [local irreducible] Ev PWp
namespace X
set_option maxRecDepth 10000
set_option maxHeartbeats 4000000
theorem aoT (c:Co):PF Tryz.prog 200 [.agg c.cells] (.val (.int .i64 (dY c))):=by
 unfold dY
 refine aG aF Tryz.func200 (by kernel_rfl) rfl rfl rfl rfl (λst=> ?_)
 (try apply wO pk;rfl);(repeat' first|show Cn _;constructor|apply wC pk;rfl;rfl|refine aB rfl ?_ ?_<;>intro h<;>(try simp at h)<;>try omega|(refine aC ?_;refine ⟨_,_,_,rfl,zwr _,zsr _, ?_,rfl⟩;try first|rfl|((simp [*];done));done))
theorem Right_spec {e:Ex} (hok:e.ok) (cols:List Co) (hl:cols.length<10000000000):PF Tryz.prog 147 [.agg e.cells, .seq (cols.map Co.cells)] (.val (.int .i64 (RightR e (cols.map dY)))):=by
 have hT:=atD hok (l:=cols.map dY) (by rw [zql];omega)
 have hR:RightR e (cols.map dY)=if (kD e (cols.map dY)).2=0 then (if (kD e (cols.map dY)).1=2 then 6 else 0) else (kD e (cols.map dY)).2:=rfl
 generalize kD e (cols.map dY)=T at*
 generalize RightR e (cols.map dY)=R at*
 unfold jX at hT
 obtain ⟨k,n,v,of⟩:=e
 obtain ⟨T1,T2⟩:=T
 dsimp only at*
 refine aG aF Tryz.func147 (by kernel_rfl) rfl rfl rfl rfl (λst=> ?_)
 focus ((try apply wO pk;rfl);(repeat' ((show Cn _;constructor))))
 refine yC 5 3 rfl rfl (λid hid=> ?_)
 have hid:st id=none:=hid
 refine aK (X:={x:Nat×Nat//x.1<=cols.length/\st x.2=none}) (λi=>((((((St.nil 35 (upd st i.1.2 (some (.tok 3)))).var 2 88 ((Ex.mk k n v of).cells)).pv 5 (.own i.1.2 (((cols.take i.1.1).map dY).map I1))).pv 10 (.seq (cols.map Co.cells))).pv 11 ((PV.val (Value.int .i64 ((((cols.map Co.cells)).length:Nat)))))).pv 12 ((PV.val (Value.int .i64 ((i.1.1:Nat))))))) (λi=>cols.length-i.1.1) ⟨(0,id),by simp,hid⟩ ?_ (λi=> ?_)
 ·(((repeat (first|refine Sub.pv ?_ rfl|refine Sub.var ?_ rfl rfl));(exact Sub.nil _ _ _ (zsr _) rfl)))
 obtain ⟨⟨i,id⟩,hi,hid⟩:=i
 simp only at hi hid
 dsimp only
 by_cases hend:cols.length<=i
 ·rw [ztl hend]
  by_cases h0:T2=0<;>by_cases h1:T1=2
  ·rw [zp h0,zp h1] at hR
   subst hR
   (try apply wO pk;rfl);(repeat' first|show Cn _;constructor|apply wC pk;rfl;rfl|apply wE pk;rfl;rfl|refine aB rfl ?_ ?_<;>intro h<;>(try simp at h)<;>try omega|(refine aC ?_;first|refine ⟨_,_,_,rfl,zwr _,zsr _, ?_,rfl⟩;(fail)|refine ⟨_,_,_,rfl,zwr _,aL ‹_›, ?_,rfl⟩;(rfl)|refine ⟨_,_,_,rfl,zwf _,zsr _, ?_,rfl⟩;(fail)|refine ⟨_,_,_,rfl,zwf _,aL ‹_›, ?_,rfl⟩;(fail)|(refine ⟨_,_,_,rfl,zwr _,zsr _, ?_,rfl⟩)|(refine ⟨_,_,_,rfl,zwf _,aL ‹_›, ?_,rfl⟩))|(apply tT;rfl;rfl;rfl;(intro _;apply hT<;>first|assumption|omega);rotate_left;rfl;rfl))
  ·rw [zp h0,zn h1] at hR
   subst hR
   subst h0
   (try apply wO pk;rfl);(repeat' first|show Cn _;constructor|apply wC pk;rfl;rfl|apply wE pk;rfl;rfl|refine aB rfl ?_ ?_<;>intro h<;>(try simp at h)<;>try omega|(refine aC ?_;first|refine ⟨_,_,_,rfl,zwr _,zsr _, ?_,rfl⟩;(fail)|refine ⟨_,_,_,rfl,zwr _,aL ‹_›, ?_,rfl⟩;(rfl)|refine ⟨_,_,_,rfl,zwf _,zsr _, ?_,rfl⟩;(fail)|refine ⟨_,_,_,rfl,zwf _,aL ‹_›, ?_,rfl⟩;(fail)|(refine ⟨_,_,_,rfl,zwr _,zsr _, ?_,rfl⟩)|(refine ⟨_,_,_,rfl,zwf _,aL ‹_›, ?_,rfl⟩))|(apply tT;rfl;rfl;rfl;(intro _;apply hT<;>first|assumption|omega);rotate_left;rfl;rfl))
  ·rw [zn h0] at hR
   subst hR
   (try apply wO pk;rfl);(repeat' first|show Cn _;constructor|apply wC pk;rfl;rfl|apply wE pk;rfl;rfl|refine aB rfl ?_ ?_<;>intro h<;>(try simp at h)<;>try omega|(refine aC ?_;first|refine ⟨_,_,_,rfl,zwr _,zsr _, ?_,rfl⟩;(fail)|refine ⟨_,_,_,rfl,zwr _,aL ‹_›, ?_,rfl⟩;(rfl)|refine ⟨_,_,_,rfl,zwf _,zsr _, ?_,rfl⟩;(fail)|refine ⟨_,_,_,rfl,zwf _,aL ‹_›, ?_,rfl⟩;(fail)|(refine ⟨_,_,_,rfl,zwr _,zsr _, ?_,rfl⟩)|(refine ⟨_,_,_,rfl,zwf _,aL ‹_›, ?_,rfl⟩))|(apply tT;rfl;rfl;rfl;(intro _;apply hT<;>first|assumption|omega);rotate_left;rfl;rfl))
  ·rw [zn h0] at hR
   subst hR
   (try apply wO pk;rfl);(repeat' first|show Cn _;constructor|apply wC pk;rfl;rfl|apply wE pk;rfl;rfl|refine aB rfl ?_ ?_<;>intro h<;>(try simp at h)<;>try omega|(refine aC ?_;first|refine ⟨_,_,_,rfl,zwr _,zsr _, ?_,rfl⟩;(fail)|refine ⟨_,_,_,rfl,zwr _,aL ‹_›, ?_,rfl⟩;(rfl)|refine ⟨_,_,_,rfl,zwf _,zsr _, ?_,rfl⟩;(fail)|refine ⟨_,_,_,rfl,zwf _,aL ‹_›, ?_,rfl⟩;(fail)|(refine ⟨_,_,_,rfl,zwr _,zsr _, ?_,rfl⟩)|(refine ⟨_,_,_,rfl,zwf _,aL ‹_›, ?_,rfl⟩))|(apply tT;rfl;rfl;rfl;(intro _;apply hT<;>first|assumption|omega);rotate_left;rfl;rfl))
 have hil:i<cols.length:=by omega
 have hs:=aoT cols[i]
 have hmap:((cols.take (i+1)).map dY).map I1=((cols.take i).map dY).map I1++[I1 (dY cols[i])]:=by rw [List.take_succ_eq_append_getElem hil,List.map_append,List.map_append];rfl
 have htl:((cols.take i).map dY).length<=i:=by rw [zql];exact List.length_take_le ..
 generalize dY cols[i]=K at*
 (try apply wO pk;rfl);(repeat' first|show Cn _;constructor|apply wC pk;rfl;rfl|apply wE pk;rfl;rfl|refine aB rfl ?_ ?_<;>intro h<;>(try simp at h)<;>try omega|(apply aH;rfl;rfl;rfl;(intro _;apply hs<;>first|assumption|omega);rotate_left;rfl;rfl)|apply aP pk;(iterate 6 rfl);rotate_left;rfl;(intro hw;rfl);(intro hw;apply aJ<;>omega);(intro _;rfl);rfl|(refine ⟨⟨(i+1,id'),by simp only;omega,iO hid'⟩, ?_,by simp only;omega⟩;((dsimp only;rw [hmap]));(((repeat (first|refine Sub.pv ?_ rfl|refine Sub.var ?_ rfl rfl|refine Sub.pv' ?_ rfl (by (first|rfl|simp [I1];done))));(exact Sub.nil _ _ _ (cR ‹_›) rfl))))|(apply apS pk (K) 8;(iterate 8 rfl);exact aA _ _ _;exact λ_=>rfl;exact λ_=>rfl;exact vR;(omega);(omega);rfl;intro id' hid')|intros;(try simp only [zql]);omega)
end X
theorem ajL (s:Sc) (hl:s.length<200000000000000) (hB:∀t∈s,TbB t) (hT:∀t∈s,zI t) (hc:∀t∈s,t.cols.length<10000000000):PF Tryz.prog 98 [.agg (scC s)] (.val (.int .i64 (rightC s))):=by
 have hr:=wR s hl hB
 by_cases h0:¬cM s=0
 ·have e:rightC s=cM s:=by unfold rightC;rw [zn h0]
  rw [e]
  generalize cM s=R at*
  refine aG aF Tryz.func98 (by kernel_rfl) rfl rfl rfl rfl (λst=> ?_)
  (try apply wO pk;rfl);(repeat' first|show Cn _;constructor|apply wC pk;rfl;rfl|apply wE pk;rfl;rfl|refine aB rfl ?_ ?_<;>intro h<;>(try simp at h)<;>try omega|(refine aC ?_;refine ⟨_,_,_,rfl,zwr _,zsr _, ?_,rfl⟩;try rfl)|(apply aH;rfl;rfl;rfl;(intro _;apply hr<;>first|assumption|omega);rotate_left;rfl;rfl))
 replace h0:=zdn h0
 have e:rightC s=dT rightX s:=by unfold rightC;rw [zp h0]
 rw [e]
 rw [h0] at hr
 clear e h0
 refine aG aF Tryz.func98 (by kernel_rfl) rfl rfl rfl rfl (λst=> ?_)
 focus ((try apply wO pk;rfl);(repeat' first|show Cn _;constructor|apply wC pk;rfl;rfl|apply wE pk;rfl;rfl|refine aB rfl ?_ ?_<;>intro h<;>(try simp at h)<;>try omega|(apply aH;rfl;rfl;rfl;(intro _;apply hr<;>first|assumption|omega);rotate_left;rfl;rfl)))
 refine aK (X:={x:Nat//x<=s.length/\∀j (h:j<s.length),j<x->rightX s[j]=0}) (λi=>((((St.nil 37 st).pv 15 (.seq (s.map Tb.cells))).pv 16 ((PV.val (Value.int .i64 (((s.map Tb.cells).length:Nat)))))).pv 17 ((PV.val (Value.int .i64 ((i.1:Nat))))))) (λi=>s.length-i.1) ⟨0,by omega,by omega⟩ ?_ (λi=> ?_)
 ·((repeat refine Sub.pv ?_ rfl);exact Sub.nil _ _ _ (zsr _) rfl)
 obtain ⟨i,hi,hI⟩:=i
 dsimp only
 by_cases hend:s.length<=i
 ·have e:dT rightX s=0:=mY λj hj=>hI j hj (by omega)
  (try apply wO pk;rfl);(repeat' first|show Cn _;constructor|apply wC pk;rfl;rfl|refine aB rfl ?_ ?_<;>intro h<;>(try simp at h)<;>try omega|(refine aC ?_;refine ⟨_,_,_,rfl,zwr _,zsr _, ?_,rfl⟩;try first|rfl|(rw [e]);done))
 have hil:i<s.length:=by omega
 have hk:=hT _ (zgm hil)
 have hcl:=hc _ (zgm hil)
 have hkl:=(hB _ (zgm hil)).k
 have e:=sR hI hil
 have hu:=sN hI hil
 focus ((try apply wO pk;rfl);(repeat' first|show Cn _;constructor|apply wC pk;rfl;rfl|apply wE pk;rfl;rfl|refine aB rfl ?_ ?_<;>intro h<;>(try simp at h)<;>try omega|apply aP pk;(iterate 6 rfl);rotate_left;rfl;(intro hw;rfl);(intro hw;apply aJ<;>omega);(intro _;rfl);rfl|intros;(try simp only [zql]);omega))
 refine aK (X:={x:Nat//x<=s[i].checks.length/\∀j (h:j<s[i].checks.length),j<x->X.RightR (exOf s[i].checks[j]) (s[i].cols.map dY)=0}) (λy=>((((((((St.nil 37 st).var 5 121 (s[i].cells)).pv 15 (.seq (s.map Tb.cells))).pv 16 ((PV.val (Value.int .i64 (((s.map Tb.cells).length:Nat)))))).pv 17 ((PV.val (Value.int .i64 ((i:Nat)))))).pv 22 (.seq s[i].checks)).pv 23 ((PV.val (Value.int .i64 ((s[i].checks.length:Nat)))))).pv 24 ((PV.val (Value.int .i64 ((y.1:Nat))))))) (λy=>s[i].checks.length-y.1) ⟨0,by omega,by omega⟩ ?_ (λy=> ?_)
 ·((repeat (first|refine Sub.pv ?_ rfl|refine Sub.var ?_ rfl rfl));exact Sub.nil _ _ _ (zsr _) rfl)
 obtain ⟨y,hy,hyI⟩:=y
 dsimp only
 by_cases hend2:s[i].checks.length<=y
 ·have e2:rightX s[i]=0:=mY λj hj=>hyI j hj (by omega)
  (try apply wO pk;rfl);(repeat' first|show Cn _;constructor|apply wC pk;rfl;rfl|refine aB rfl ?_ ?_<;>intro h<;>(try simp at h)<;>try omega|refine ⟨⟨i+1,by omega,hu e2⟩, ?_,by simp only;omega⟩;((repeat refine Sub.pv ?_ rfl);exact Sub.nil _ _ _ (zsr _) rfl)|intros;(try simp only [zql]);omega)
 have hyl:y<s[i].checks.length:=by omega
 obtain ⟨hok,hcc⟩:=agH (hk _ (zgm hyl))
 have he:=sR (f:=λc=>X.RightR (exOf c) (s[i].cols.map dY)) hyI hyl
 have hyu:=sN (f:=λc=>X.RightR (exOf c) (s[i].cols.map dY)) hyI hyl
 change X.RightR (exOf s[i].checks[y]) (s[i].cols.map dY)≠0->rightX s[i]=X.RightR (exOf s[i].checks[y]) (s[i].cols.map dY) at he
 change X.RightR (exOf s[i].checks[y]) (s[i].cols.map dY)=0->_ at hyu
 have hE:=X.Right_spec hok s[i].cols hcl
 have hget:s[i].checks[y]?=some (exOf s[i].checks[y]).cells:=by rw [hcc,zgg hyl]
 generalize X.RightR (exOf s[i].checks[y]) (s[i].cols.map dY)=p at*
 generalize exOf s[i].checks[y]=x at*
 obtain ⟨xk,xn,xv,xo⟩:=x
 by_cases hp:p=0
 ·(try apply wO pk;rfl);(repeat' first|show Cn _;constructor|apply wC pk;rfl;rfl|apply wE pk;rfl;rfl|refine aB rfl ?_ ?_<;>intro h<;>(try simp at h)<;>try omega|(apply aH;rfl;rfl;rfl;(intro _;apply hE<;>first|assumption|omega);rotate_left;rfl;rfl)|apply aP pk;(iterate 6 rfl);rotate_left;rfl;(intro hw;rfl);(intro hw;apply hget<;>omega);(intro _;rfl);rfl|(refine ⟨⟨y+1,by omega,hyu hp⟩, ?_,by simp only;omega⟩;((repeat (first|refine Sub.pv ?_ rfl|refine Sub.var ?_ rfl rfl));exact Sub.nil _ _ _ (zsr _) rfl))|intros;(try simp only [zql]);omega)
 ·have hfin:dT rightX s=p:=by rw [e (by rw [he hp];exact hp),he hp]
  (try apply wO pk;rfl);(repeat' first|show Cn _;constructor|apply wC pk;rfl;rfl|apply wE pk;rfl;rfl|refine aB rfl ?_ ?_<;>intro h<;>(try simp at h)<;>try omega|(refine aC ?_;refine ⟨_,_,_,rfl,zwr _,zsr _, ?_,rfl⟩;try first|rfl|(rw [hfin]);done)|(apply aH;rfl;rfl;rfl;(intro _;apply hE<;>first|assumption|omega);rotate_left;rfl;rfl)|apply aP pk;(iterate 6 rfl);rotate_left;rfl;(intro hw;rfl);(intro hw;apply hget<;>omega);(intro _;rfl);rfl)
end Go.Proofs.YtloecjjehapblaaGreatDoor
namespace Go.Proofs.YtloecjjehapblaaGreatDoor
open Go Go.Abs
attribute [local irreducible] Ev PWp
set_option maxRecDepth 10000
set_option maxHeartbeats 4000000
def dO (xs:List Vl) (i:Nat) (ys:List Vl):List Vl:=xs.take i++ys++xs.drop i
theorem ajZ (xs:List Vl) (i:Nat) (ys:List Vl):(dO xs i ys).map Vl.cells=(xs.map Vl.cells).take i++ys.map Vl.cells++(xs.map Vl.cells).drop i:=by
 unfold dO
 rw [List.map_append,List.map_append,List.map_take,List.map_drop]
theorem xI {xs:List Vl} {i:Nat} {ys:List Vl} (hi:i<=xs.length):(dO xs i ys).length=xs.length+ys.length:=by
 unfold dO
 simp only [zla,zlt,zld];omega
def aFE (st:aI) (id:Nat) (zs:List Vl) (r:PV) (S:aI):Prop:=∃id',r= .vec id' 3 0 zs.length/\upd st id none id'=none/\S=upd (upd st id none) id' (some (.arr 57 (zs.map Vl.cells)))
theorem aiO (xs ys:List Vl) (i id n:Nat) (st:aI) (hst:st id=some (.arr 57 (xs.map Vl.cells))) (hn:xs.length=n) (hi:i<=n) (hy:ys≠[]) (hl:n+ys.length<1000000000000):PC Tryz.prog 182 [.vec id 3 0 n,(.val (.int .i64 ((i:Nat)))), .seq (ys.map Vl.cells)] st (aFE st id (dO xs i ys)):=by
 obtain ⟨m,hm⟩:∃m,ys.length=m:=⟨_,rfl⟩
 have hln:(ys.map Vl.cells).length=m:=(zql _).trans hm
 have hm0:0<m:=by rw [<-hm];exact List.length_pos_iff.2 hy
 rw [hm] at hl
 have hzl:(dO xs i ys).length=n+m:=by rw [xI (by omega),hn,hm]
 have hzm:=ajZ xs i ys
 have hB:=asP
 refine cB aF Tryz.func182 (by kernel_rfl) rfl rfl rfl rfl ?_
 by_cases hin:i=n
 ·subst hin
  have hz:dO xs i ys=xs++ys:=by unfold dO;rw [ztl (by omega),List.drop_of_length_le (by omega),List.append_nil]
  (try apply wO pk;rfl);(repeat' first|exact absurd (show ys=[] by assumption) hy|show Cn _;constructor|apply wC pk;rfl;rfl|apply wE pk;rfl;rfl|refine aB rfl ?_ ?_<;>intro h<;>(try simp at h)<;>try omega|(try refine aC ?_);((refine ⟨_,_,_,rfl,zwr _,zsr _, ?_⟩;(exact ⟨id',(by rw [hzl,hm]),jB hid',(by rw [hz];rfl)⟩);done))|(apply apV pk (f:=Vl.cells) ys 32;(iterate 9 rfl);(assumption);(omega);exact λ_=>rfl;exact λ_=>rfl;exact hB;(omega);(omega);rfl;intro id' hid')|apply asD pk i i;(iterate 4 rfl);rotate_left;rfl;(intro _;exact aU rfl rfl);(intro _;exact bE);(intro _;omega);(intro _;omega);rfl)
 have hlt:i<n:=by omega
 have hxl:(xs.map Vl.cells).length=n:=(zql _).trans hn
 have hX1:∀r∈xs.map Vl.cells,r.all PV.one=true:=λr hr=>by obtain ⟨a,_,rfl⟩:=List.mem_map.1 hr;rfl
 have hX3:∀r∈xs.map Vl.cells,r.length=3:=λr hr=>by obtain ⟨a,_,rfl⟩:=List.mem_map.1 hr;rfl
 have hY1:∀r∈ys.map Vl.cells,r.all PV.one=true:=λr hr=>by obtain ⟨a,_,rfl⟩:=List.mem_map.1 hr;rfl
 have hY3:∀r∈ys.map Vl.cells,r.length=3:=λr hr=>by obtain ⟨a,_,rfl⟩:=List.mem_map.1 hr;rfl
 have hj:∀k,(xs.map Vl.cells++aZ k 3).length=n+k:=λk=>by rw [zla,hxl];unfold aZ;rw [List.length_replicate]
 generalize hXe:xs.map Vl.cells=X at*
 generalize hYe:ys.map Vl.cells=Y at*
 have hYn:Y≠[]:=λe=>by rw [e] at hln;simp at hln;omega
 obtain ⟨yc,ycs,yr,hYc⟩:∃c cs rest,Y=(c::cs)::rest:=by
  cases hY0:Y with
  |nil=>exact absurd hY0 hYn
  |cons a b=>
   cases ha:a with
   |nil=>have:=hY3 a (by rw [hY0];simp);rw [ha] at this;cases this
   |cons c cs=>exact ⟨c,cs,b,rfl⟩
 refine sQ 0 m (id:=id) (rows:=X) rfl hst tX hxl (by omega) (by omega) (λk id1 hk hid1=> ?_) (λid1 hid1=> ?_)
 ·have hid1:st id1=none:=hid1
  have htk:(X++aZ k 3).take i=X.take i:=List.take_append_of_le_length (by omega)
  have hgl:(X.take i++aZ (n+m-i) 3).length=n+m:=by rw [zla,zlt];unfold aZ;rw [List.length_replicate];omega
  have hg2:(aV (X.take i++aZ (n+m-i) 3) i Y).length=n+m:=by rw [dZ (by omega),hgl]
  have hgr:aV (aV (X.take i++aZ (n+m-i) 3) i Y) (i+m) (X.drop i)=(dO xs i ys).map Vl.cells:=by rw [hzm];rw [<-hxl];exact sZ hln (by omega)
  (try apply wO pk;rfl);(repeat' first|exact absurd (show Y=[] by assumption) hYn|(refine aC ?_;refine ⟨_,_,upd (upd st id none) id2 (some (.arr 57 ((dO xs i ys).map Vl.cells))),rfl,zwr _,nH (by rw [hgr]) hid1,id2,(by rw [hzl];congr 1;omega),lR hid2,rfl⟩)|apply wD pk [8] [];kernel_rfl;rfl;rfl|show Cn _;constructor|apply wC pk;rfl;rfl|apply wE pk;rfl;rfl|refine aB rfl ?_ ?_<;>intro h<;>(try simp at h)<;>try omega|(refine ahK pk (rows:=X++aZ k 3) rfl rfl rfl rfl (.inr (aA _ _ _)) (by rw [hj];omega) rfl (λc hc1 hc2=> ?_);have hc3:=hc2 (aA _ _ _);rw [hj] at hc3)|apply xF pk (j:=i) (rows:=X++aZ k 3);(iterate 4 rfl);rotate_left;rfl;rfl;exact .inr (aA _ _ _);(rw [hj];omega);exact aU rfl rfl;(rw [hj];omega)|(refine apZ pk (kq:= .i64) (kn:= .i64) (i:=i) (m:=n+m-i) (sz:=3) (rows:=X++aZ k 3) 32 rfl (congrArg (λz=>some (PV.val (.int .i64 z))) (show _=((n+m-i:Nat):Int) from by omega)) rfl (by kernel_rfl) rfl rfl rfl rfl (aA _ _ _) (by rw [hj];omega) (by rw [hj];omega) (by rw [hj];omega) hB (by omega) (by omega) (by omega) rfl (λid2 hid2=> ?_);rw [htk];have hne:id1≠id2:=(λe=>by rw [<-e] at hid2;have hid2:=(aA _ _ _).symm.trans hid2;cases hid2))|apply eO pk (i) (n+m-i);(iterate 4 rfl);rotate_left;rfl;(intro _;exact ⟨_,aU rfl rfl,by omega⟩);(intro _;exact ⟨_,bE,by omega⟩);(intro _;omega);(intro _;omega);rfl|apply eO pk (i+m) (n-i);(iterate 4 rfl);rotate_left;rfl;(intro _;exact ⟨_,aU rfl (show _=((i+m:Nat):Int) from by omega),by omega⟩);(intro _;exact ⟨_,bE,by omega⟩);(intro _;omega);(intro _;omega);rfl|apply eO pk (i) (n-i);(iterate 4 rfl);rotate_left;rfl;(intro _;exact ⟨_,aU rfl rfl,by omega⟩);(intro _;exact ⟨_,bE,by omega⟩);(intro _;omega);(intro _;omega);rfl|(refine jK pk (e:=57) (sz:=3) (rows:=X.take i++aZ (n+m-i) 3) (new:=Y) (m:=Y.length) (n:=Y.length) (len:=n+m-i) rfl rfl rfl rfl rfl (aA _ _ _) (by omega) (qF aF rfl rfl rfl hY3 hY1) rfl hY3 (by omega) (by omega) rfl ?_)|(refine jK pk (e:=57) (sz:=3) (rows:=aV (X.take i++aZ (n+m-i) 3) i Y) (new:=X.drop i) (m:=n-i) (n:=n-i) (len:=n-i) rfl rfl rfl rfl rfl (aA _ _ _) (by omega) (lQ (k:=k) rfl (.inr ((aD ‹_›).trans ((aD ‹_›).trans (aA _ _ _)))) hxl (by omega) tX hX1 (by omega) (by omega)) (by rw [zld];omega) (λr hr=>hX3 r (List.mem_of_mem_drop hr)) (by omega) (by omega) rfl ?_)|intros;(try simp only [zql]);omega)
 ·have hid1:st id1=none:=hid1
  have hg2:(aV (X++aZ m 3) (i+m) (X.drop i)).length=n+m:=by rw [dZ (by rw [zld,hj];omega),hj]
  have hgr:aV (aV (X++aZ m 3) (i+m) (X.drop i)) i Y=(dO xs i ys).map Vl.cells:=by rw [hzm];exact tW hln (by omega)
  (try apply wO pk;rfl);(repeat' first|exact absurd (show Y=[] by assumption) hYn|(refine aC ?_;refine ⟨_,_,upd (upd st id none) id1 (some (.arr 57 ((dO xs i ys).map Vl.cells))),rfl,zwr _,nG (by rw [hgr]),id1,(by rw [hzl]),jB hid1,rfl⟩)|apply wD pk [8] [];kernel_rfl;rfl;rfl|show Cn _;constructor|apply wC pk;rfl;rfl|apply wE pk;rfl;rfl|refine aB rfl ?_ ?_<;>intro h<;>(try simp at h)<;>try omega|apply eO pk (i) (n-i);(iterate 4 rfl);rotate_left;rfl;(intro _;exact ⟨_,aU rfl rfl,by omega⟩);(intro _;exact ⟨_,bE,by omega⟩);(intro _;omega);(intro _;omega);rfl|apply eO pk (i) (n+m-i);(iterate 4 rfl);rotate_left;rfl;(intro _;exact ⟨_,aU rfl rfl,by omega⟩);(intro _;exact ⟨_,bE,by omega⟩);(intro _;omega);(intro _;omega);rfl|apply eO pk (i+m) (n-i);(iterate 4 rfl);rotate_left;rfl;(intro _;exact ⟨_,aU rfl (show _=((i+m:Nat):Int) from by omega),by omega⟩);(intro _;exact ⟨_,bE,by omega⟩);(intro _;omega);(intro _;omega);rfl|(refine ahK pk (rows:=X++aZ m 3) rfl rfl rfl rfl (.inl (aA _ _ _)) (by rw [hj];omega) rfl (λc hc1 hc2=> ?_);rw [hj] at hc1)|apply xF pk (j:=n+m) (rows:=X++aZ m 3);(iterate 4 rfl);rotate_left;rfl;rfl;exact .inl (aA _ _ _);(rw [hj];omega);exact aU rfl (show _=((n+m:Nat):Int) from by omega);(rw [hj];omega)|(refine ovA pk (w:=true) (tS:=34) (tR:=4) (off:=i+m) (len:=n-i) (e:=57) (sz:=3) (rows:=X++aZ m 3) rfl rfl Tryz.func279 (by kernel_rfl) (by kernel_rfl) (by kernel_rfl) (by kernel_rfl) rfl rfl rfl hYc rfl (.inl (aA _ _ _)) (by rw [hj];omega) tX (by omega) ?_ rfl rfl ?_;rotate_left)|(refine jK pk (e:=57) (sz:=3) (rows:=X++aZ m 3) (new:=X.drop i) (m:=n+m-i) (n:=n-i) (len:=n-i) rfl rfl rfl rfl rfl (aA _ _ _) (by rw [hj];omega) (lQ (k:=m) rfl (.inl (aA _ _ _)) hxl (by omega) tX hX1 (by omega) (by omega)) (by rw [zld];omega) (λr hr=>hX3 r (List.mem_of_mem_drop hr)) (by omega) (by omega) rfl ?_)|(refine jK pk (e:=57) (sz:=3) (rows:=aV (X++aZ m 3) (i+m) (X.drop i)) (new:=Y) (m:=Y.length) (n:=Y.length) (len:=n+m-i) rfl rfl rfl rfl rfl (aA _ _ _) (by omega) (qF aF rfl rfl rfl hY3 hY1) rfl hY3 (by omega) (by omega) rfl ?_)|intros;(try simp only [zql]);omega)
end Go.Proofs.YtloecjjehapblaaGreatDoor
