import Derived.Test.YtloecjjehapblaaGreatDoorOpAo
import Derived.Test.YtloecjjehapblaaGreatDoorOpAl
import Derived.Test.YtloecjjehapblaaGreatDoorAbsG
set_option linter.unusedSimpArgs false
set_option linter.unusedVariables false
namespace Go.Proofs.YtloecjjehapblaaGreatDoor
open Go Go.Abs
attribute [local irreducible] Ev PWp
set_option maxRecDepth 10000
set_option maxHeartbeats 4000000
variable (t:Tb) (rows:List (List Vl)) (b:Bs)
theorem akL (hl:rows.length<1000000000000000) (hx:t.checks.length<1000000000000000) (hk:oT t) (hr:∀r∈rows,X.rowOK r):PF Tryz.prog 59 [.agg (mS t rows b)] (PV.val (Value.int .i64 (dR (exR t) rows))):=by
 refine aG aF Tryz.func59 (by kernel_rfl) rfl rfl rfl rfl (λst=> ?_)
 focus ((try apply wO pk;rfl);(repeat' (show All _;constructor)))
 refine aK (X:={x:Nat//x<=rows.length/\∀j (h:j<rows.length),j<x->exR t rows[j]=0}) (λi=>(((((St.nil 38 st).var 1 123 ((mS t rows b))).pv 10 (.seq (rows.map roC))).pv 11 ((PV.val (Value.int .i64 (((rows.map roC).length:Nat)))))).pv 12 ((PV.val (Value.int .i64 ((i.1:Nat))))))) (λi=>rows.length-i.1) ⟨0,by omega,by omega⟩ ?_ (λi=> ?_)
 ·((repeat (first|refine Sub.pv ?_ rfl|refine Sub.var ?_ rfl rfl));exact Sub.nil _ _ _ (zsr _) rfl)
 obtain ⟨i,hi,hI⟩:=i
 dsimp only
 by_cases hend:rows.length<=i
 ·have e:dR (exR t) rows=0:=mU λj hj=>hI j hj (by omega)
  (try apply wO pk;rfl);(repeat' first|show All _;constructor|apply wC pk;rfl;rfl|refine aA rfl ?_ ?_<;>intro h<;>(try simp at h)<;>try omega|(refine aC ?_;refine ⟨_,_,_,rfl,zwr _,zsr _, ?_,rfl⟩;try first|rfl|(rw [e]);done))
 have hil:i<rows.length:=by omega
 have hro:=hr _ (zgm hil)
 have e:=sJ hI hil
 have hu:=sE hI hil
 focus ((try apply wO pk;rfl);(repeat' first|show All _;constructor|show Imp _ _;constructor|apply wC pk;rfl;rfl|apply wE pk;rfl;rfl|refine aA rfl ?_ ?_<;>intro h<;>(try simp at h)<;>try omega|apply aN pk;(iterate 6 rfl);rotate_left;rfl;(intro hw;rfl);(intro hw;apply aI<;>omega);(intro _;rfl);rfl|intros;(try simp only [zql]);omega))
 refine aK (X:={x:Nat//x<=t.checks.length/\∀j (h:j<t.checks.length),j<x->chE (X.EvalR (exOf t.checks[j]) rows[i])=0}) (λy=>(((((((((St.nil 38 st).var 1 123 ((mS t rows b))).pv 4 (.seq (rows[i].map Vl.cells))).pv 10 (.seq (rows.map roC))).pv 11 ((PV.val (Value.int .i64 (((rows.map roC).length:Nat)))))).pv 12 ((PV.val (Value.int .i64 ((i:Nat)))))).pv 18 (.seq t.checks)).pv 19 ((PV.val (Value.int .i64 ((t.checks.length:Nat)))))).pv 20 ((PV.val (Value.int .i64 ((y.1:Nat))))))) (λy=>t.checks.length-y.1) ⟨0,by omega,by omega⟩ ?_ (λy=> ?_)
 ·((repeat (first|refine Sub.pv ?_ rfl|refine Sub.var ?_ rfl rfl));exact Sub.nil _ _ _ (zsr _) rfl)
 obtain ⟨y,hy,hyI⟩:=y
 dsimp only
 by_cases hend2:t.checks.length<=y
 ·have e2:exR t rows[i]=0:=mU λj hj=>hyI j hj (by omega)
  (try apply wO pk;rfl);(repeat' first|show All _;constructor|apply wC pk;rfl;rfl|refine aA rfl ?_ ?_<;>intro h<;>(try simp at h)<;>try omega|(refine ⟨⟨i+1,by omega,hu e2⟩, ?_,by simp only;omega⟩;((repeat (first|refine Sub.pv ?_ rfl|refine Sub.var ?_ rfl rfl));exact Sub.nil _ _ _ (zsr _) rfl))|intros;(try simp only [zql]);omega)
 have hyl:y<t.checks.length:=by omega
 obtain ⟨hok,hcc⟩:=yH (hk _ (zgm hyl))
 have he:=sJ (f:=λc=>chE (X.EvalR (exOf c) rows[i])) hyI hyl
 have hyu:=sE (f:=λc=>chE (X.EvalR (exOf c) rows[i])) hyI hyl
 change chE _≠0->exR t rows[i]=chE _ at he
 change chE (X.EvalR (exOf t.checks[y]) rows[i])=0->_ at hyu
 have hE:=X.Eval_spec hok hro
 have hget:t.checks[y]?=some (exOf t.checks[y]).cells:=by rw [hcc,List.getElem?_eq_getElem hyl]
 generalize X.EvalR (exOf t.checks[y]) rows[i]=p at*
 generalize exOf t.checks[y]=x at*
 obtain ⟨xk,xn,xv,xo⟩:=x
 obtain ⟨⟨v1,v2,v3⟩,pe⟩:=p
 have hfin:chE (⟨v1,v2,v3⟩,pe)≠0->dR (exR t) rows=chE (⟨v1,v2,v3⟩,pe):=λh=>by
  have:=he h
  rw [e (by rw [this];exact h),this]
 by_cases h1:pe=0
 ·by_cases h2:v1=1/\v2=0/\v3=e0
  ·have e9:chE (⟨v1,v2,v3⟩,pe)=9:=by unfold chE;rw [if_pos h1,if_pos (by simp [h2])]
   rw [e9] at hfin
   have hf:=hfin (by decide)
   obtain ⟨rfl,rfl,rfl⟩:=h2
   (try apply wO pk;rfl);(repeat' first|show All _;constructor|show Imp _ _;constructor|apply wC pk;rfl;rfl|apply wE pk;rfl;rfl|refine aA rfl ?_ ?_<;>intro h<;>(try simp at h)<;>try omega|(refine aC ?_;refine ⟨_,_,_,rfl,zwr _,zsr _, ?_,rfl⟩;try first|rfl|(rw [hf]);done)|(apply aH;rfl;rfl;rfl;(intro _;apply hE<;>first|assumption|omega);rotate_left;rfl;rfl)|apply aN pk;(iterate 6 rfl);rotate_left;rfl;(intro hw;rfl);(intro hw;apply hget<;>omega);(intro _;rfl);rfl)
  ·have e0':chE (⟨v1,v2,v3⟩,pe)=0:=by unfold chE;rw [if_pos h1,if_neg (λq=>h2 (by simpa using q))]
   have hw:=hyu e0'
   (try apply wO pk;rfl);(repeat' first|show All _;constructor|show Imp _ _;constructor|apply wC pk;rfl;rfl|apply wE pk;rfl;rfl|refine aA rfl ?_ ?_<;>intro h<;>(try simp at h)<;>try omega|(refine aC ?_;refine ⟨_,_,_,rfl,zwr _,zsr _, ?_,rfl⟩;try rfl)|(apply aH;rfl;rfl;rfl;(intro _;apply hE<;>first|assumption|omega);rotate_left;rfl;rfl)|apply aN pk;(iterate 6 rfl);rotate_left;rfl;(intro hw;rfl);(intro hw;apply hget<;>omega);(intro _;rfl);rfl|(refine ⟨⟨y+1,by omega,hw⟩, ?_,by simp only;omega⟩;((repeat (first|refine Sub.pv ?_ rfl|refine Sub.var ?_ rfl rfl));exact Sub.nil _ _ _ (zsr _) rfl))|intros;(try simp only [zql]);omega|exfalso;simp_all;done)
 ·have e1:chE (⟨v1,v2,v3⟩,pe)=pe:=by unfold chE;rw [if_neg h1]
  rw [e1] at hfin
  have hf:=hfin h1
  (try apply wO pk;rfl);(repeat' first|show All _;constructor|show Imp _ _;constructor|apply wC pk;rfl;rfl|apply wE pk;rfl;rfl|refine aA rfl ?_ ?_<;>intro h<;>(try simp at h)<;>try omega|(refine aC ?_;refine ⟨_,_,_,rfl,zwr _,zsr _, ?_,rfl⟩;try first|rfl|(rw [hf]);done)|(apply aH;rfl;rfl;rfl;(intro _;apply hE<;>first|assumption|omega);rotate_left;rfl;rfl)|apply aN pk;(iterate 6 rfl);rotate_left;rfl;(intro hw;rfl);(intro hw;apply hget<;>omega);(intro _;rfl);rfl)
theorem afR (hl:rows.length<1000000000000000) (hx:t.foreign.length<1000000000000000) (hr:∀f∈t.foreign,0<=f.col/\∀r∈rows,f.col<r.length) {n:Nat} (hb:BsS n b) (hn:n<=1000):PF Tryz.prog 60 [.agg (mS t rows b)] (PV.val (Value.int .i64 (if xT b t rows=false then 10 else 0))):=by
 have hyes:(∀j (h:j<t.foreign.length),(rows.all λr=> !decide (r[t.foreign[j].col.toNat]!.kind=1)||(eH (aO b t.foreign[j].table) r[t.foreign[j].col.toNat]!.n).isSome)=true)->xT b t rows=true:=λh=>by
  unfold xT
  rw [zal]
  intro f hf
  obtain ⟨j,hj,rfl⟩:=List.getElem_of_mem hf
  exact h j hj
 have hno:∀j (h:j<t.foreign.length),(rows.all λr=> !decide (r[t.foreign[j].col.toNat]!.kind=1)||(eH (aO b t.foreign[j].table) r[t.foreign[j].col.toNat]!.n).isSome)=false->xT b t rows=false:=λj hj h=>by
  unfold xT
  rw [<-Bool.not_eq_true,zal]
  intro q
  rw [q _ (zgm hj)] at h;cases h
 generalize xT b t rows=B at*
 refine aG aF Tryz.func60 (by kernel_rfl) rfl rfl rfl rfl (λst=> ?_)
 focus ((try apply wO pk;rfl);(repeat' (show All _;constructor)))
 refine aK (X:={x:Nat//x<=t.foreign.length/\∀j (h:j<t.foreign.length),j<x->(rows.all λr=> !decide (r[t.foreign[j].col.toNat]!.kind=1)||(eH (aO b t.foreign[j].table) r[t.foreign[j].col.toNat]!.n).isSome)=true}) (λi=>(((((St.nil 51 st).var 1 123 ((mS t rows b))).pv 11 (.seq (t.foreign.map Fr.cells))).pv 12 ((PV.val (Value.int .i64 (((t.foreign.map Fr.cells).length:Nat)))))).pv 13 ((PV.val (Value.int .i64 ((i.1:Nat))))))) (λi=>t.foreign.length-i.1) ⟨0,by omega,by omega⟩ ?_ (λi=> ?_)
 ·((repeat (first|refine Sub.pv ?_ rfl|refine Sub.var ?_ rfl rfl));exact Sub.nil _ _ _ (zsr _) rfl)
 obtain ⟨i,hi,hI⟩:=i
 dsimp only
 by_cases hend:t.foreign.length<=i
 ·have e:B=true:=hyes λj hj=>hI j hj (by omega)
  (try apply wO pk;rfl);(repeat' first|show All _;constructor|apply wC pk;rfl;rfl|refine aA rfl ?_ ?_<;>intro h<;>(try simp at h)<;>try omega|(refine aC ?_;refine ⟨_,_,_,rfl,zwr _,zsr _, ?_,rfl⟩;try first|rfl|(rw [e];rfl);done))
 have hil:i<t.foreign.length:=by omega
 obtain ⟨hf0,hfr⟩:=hr _ (zgm hil)
 have hno:=hno i hil
 have hup:(rows.all λr=> !decide (r[t.foreign[i].col.toNat]!.kind=1)||(eH (aO b t.foreign[i].table) r[t.foreign[i].col.toNat]!.n).isSome)=true->∀j (h:j<t.foreign.length),j<i+1->(rows.all λr=> !decide (r[t.foreign[j].col.toNat]!.kind=1)||(eH (aO b t.foreign[j].table) r[t.foreign[j].col.toNat]!.n).isSome)=true:=λh j hj hji=>by
  rcases Nat.lt_succ_iff_lt_or_eq.1 hji with q|q
  ·exact hI j hj q
  ·subst q;exact h
 focus ((try apply wO pk;rfl);(repeat' first|show All _;constructor|show Imp _ _;constructor|apply wC pk;rfl;rfl|apply wE pk;rfl;rfl|refine aA rfl ?_ ?_<;>intro h<;>(try simp at h)<;>try omega|apply aN pk;(iterate 6 rfl);rotate_left;rfl;(intro hw;rfl);(intro hw;apply aI<;>omega);(intro _;rfl);rfl|intros;(try simp only [zql]);omega))
 refine aK (X:={x:Nat//x<=rows.length/\∀j (h:j<rows.length),j<x->(!decide (rows[j][t.foreign[i].col.toNat]!.kind=1)||(eH (aO b t.foreign[i].table) rows[j][t.foreign[i].col.toNat]!.n).isSome)=true}) (λy=>(((((((((St.nil 51 st).var 1 123 ((mS t rows b))).var 4 182 (t.foreign[i].cells)).pv 11 (.seq (t.foreign.map Fr.cells))).pv 12 ((PV.val (Value.int .i64 (((t.foreign.map Fr.cells).length:Nat)))))).pv 13 ((PV.val (Value.int .i64 ((i:Nat)))))).pv 18 (.seq (rows.map roC))).pv 19 ((PV.val (Value.int .i64 (((rows.map roC).length:Nat)))))).pv 20 ((PV.val (Value.int .i64 ((y.1:Nat))))))) (λy=>rows.length-y.1) ⟨0,by omega,by omega⟩ ?_ (λy=> ?_)
 ·((repeat (first|refine Sub.pv ?_ rfl|refine Sub.var ?_ rfl rfl));exact Sub.nil _ _ _ (zsr _) rfl)
 obtain ⟨y,hy,hyI⟩:=y
 dsimp only
 by_cases hend2:rows.length<=y
 ·have hw:=hup (by
   rw [zal]
   intro r hr
   obtain ⟨j,hj,rfl⟩:=List.getElem_of_mem hr
   exact hyI j hj (by omega))
  (try apply wO pk;rfl);(repeat' first|show All _;constructor|apply wC pk;rfl;rfl|refine aA rfl ?_ ?_<;>intro h<;>(try simp at h)<;>try omega|(refine ⟨⟨i+1,by omega,hw⟩, ?_,by simp only;omega⟩;((repeat (first|refine Sub.pv ?_ rfl|refine Sub.var ?_ rfl rfl));exact Sub.nil _ _ _ (zsr _) rfl))|intros;(try simp only [zql]);omega)
 have hyl:y<rows.length:=by omega
 have hcr:=hfr _ (zgm hyl)
 have hG:=vM hb hn t.foreign[i].table rows[y][t.foreign[i].col.toNat]!.n
 have hno2:(!decide (rows[y][t.foreign[i].col.toNat]!.kind=1)||(eH (aO b t.foreign[i].table) rows[y][t.foreign[i].col.toNat]!.n).isSome)=false->B=false:=λh=>hno (by
  rw [<-Bool.not_eq_true,zal]
  intro q
  rw [q _ (zgm hyl)] at h;cases h)
 have hyu:(!decide (rows[y][t.foreign[i].col.toNat]!.kind=1)||(eH (aO b t.foreign[i].table) rows[y][t.foreign[i].col.toNat]!.n).isSome)=true->∀j (h:j<rows.length),j<y+1->(!decide (rows[j][t.foreign[i].col.toNat]!.kind=1)||(eH (aO b t.foreign[i].table) rows[j][t.foreign[i].col.toNat]!.n).isSome)=true:=λh j hj hji=>by
  rcases Nat.lt_succ_iff_lt_or_eq.1 hji with q|q
  ·exact hyI j hj q
  ·subst q;exact h
 have hci:t.foreign[i].col=((t.foreign[i].col.toNat:Nat):Int):=by omega
 have hlt:t.foreign[i].col.toNat<rows[y].length:=by omega
 have hgu:=getElem!_pos rows[y] t.foreign[i].col.toNat hlt
 rw [hgu] at hG hno2 hyu
 clear hgu
 generalize (eH (aO b t.foreign[i].table) rows[y][t.foreign[i].col.toNat].n).isSome=G at*
 cases G<;>by_cases hk1:rows[y][t.foreign[i].col.toNat].kind=1
 ·have e:B=false:=hno2 (by simp [hk1])
  (try apply wO pk;rfl);(repeat' first|show All _;constructor|show Imp _ _;constructor|show ImpX _ _ _ _;constructor|apply wC pk;rfl;rfl|apply wE pk;rfl;rfl|apply wD pk [] [];kernel_rfl;rfl;rfl|refine aA rfl ?_ ?_<;>intro h<;>(try simp at h)<;>try omega|(refine aC ?_;refine ⟨_,_,_,rfl,zwr _,zsr _, ?_,rfl⟩;try first|rfl|(rw [e];rfl);done)|(apply aH;rfl;rfl;rfl;(intro _;apply hG<;>first|assumption|omega);rotate_left;rfl;rfl)|apply aN pk;(iterate 6 rfl);rotate_left;rfl;(first|(intro hw;rfl);(intro hw;apply aI<;>omega);(intro _;rfl)|(intro hw;exact hci);(intro hw;apply aI<;>omega);(intro _;rfl));rfl)
 ·have hw:=hyu (by simp [hk1])
  (try apply wO pk;rfl);(repeat' first|show All _;constructor|show Imp _ _;constructor|show ImpX _ _ _ _;constructor|apply wC pk;rfl;rfl|apply wE pk;rfl;rfl|apply wD pk [] [];kernel_rfl;rfl;rfl|refine aA rfl ?_ ?_<;>intro h<;>(try simp at h)<;>try omega|(apply aH;rfl;rfl;rfl;(intro _;apply hG<;>first|assumption|omega);rotate_left;rfl;rfl)|apply aN pk;(iterate 6 rfl);rotate_left;rfl;(first|(intro hw;rfl);(intro hw;apply aI<;>omega);(intro _;rfl)|(intro hw;exact hci);(intro hw;apply aI<;>omega);(intro _;rfl));rfl|(refine ⟨⟨y+1,by omega,hw⟩, ?_,by simp only;omega⟩;((repeat (first|refine Sub.pv ?_ rfl|refine Sub.var ?_ rfl rfl));exact Sub.nil _ _ _ (zsr _) rfl))|intros;(try simp only [zql]);omega)
 ·have hw:=hyu (by simp)
  (try apply wO pk;rfl);(repeat' first|show All _;constructor|show Imp _ _;constructor|show ImpX _ _ _ _;constructor|apply wC pk;rfl;rfl|apply wE pk;rfl;rfl|apply wD pk [] [];kernel_rfl;rfl;rfl|refine aA rfl ?_ ?_<;>intro h<;>(try simp at h)<;>try omega|(apply aH;rfl;rfl;rfl;(intro _;apply hG<;>first|assumption|omega);rotate_left;rfl;rfl)|apply aN pk;(iterate 6 rfl);rotate_left;rfl;(first|(intro hw;rfl);(intro hw;apply aI<;>omega);(intro _;rfl)|(intro hw;exact hci);(intro hw;apply aI<;>omega);(intro _;rfl));rfl|(refine ⟨⟨y+1,by omega,hw⟩, ?_,by simp only;omega⟩;((repeat (first|refine Sub.pv ?_ rfl|refine Sub.var ?_ rfl rfl));exact Sub.nil _ _ _ (zsr _) rfl))|intros;(try simp only [zql]);omega)
 ·have hw:=hyu (by simp)
  (try apply wO pk;rfl);(repeat' first|show All _;constructor|show Imp _ _;constructor|show ImpX _ _ _ _;constructor|apply wC pk;rfl;rfl|apply wE pk;rfl;rfl|apply wD pk [] [];kernel_rfl;rfl;rfl|refine aA rfl ?_ ?_<;>intro h<;>(try simp at h)<;>try omega|(apply aH;rfl;rfl;rfl;(intro _;apply hG<;>first|assumption|omega);rotate_left;rfl;rfl)|apply aN pk;(iterate 6 rfl);rotate_left;rfl;(first|(intro hw;rfl);(intro hw;apply aI<;>omega);(intro _;rfl)|(intro hw;exact hci);(intro hw;apply aI<;>omega);(intro _;rfl));rfl|(refine ⟨⟨y+1,by omega,hw⟩, ?_,by simp only;omega⟩;((repeat (first|refine Sub.pv ?_ rfl|refine Sub.var ?_ rfl rfl));exact Sub.nil _ _ _ (zsr _) rfl))|intros;(try simp only [zql]);omega)
end Go.Proofs.YtloecjjehapblaaGreatDoor
namespace Go.Proofs.YtloecjjehapblaaGreatDoor
open Go Go.Abs
attribute [local irreducible] Ev PWp
set_option maxRecDepth 10000
set_option maxHeartbeats 4000000
structure TotOK (m:Su) (rows:List (List Vl)):Prop where
 len:rows.length<=2000
 c0:0<=m.col
 b0:0<=m.by_
 cl:∀r∈rows,m.col<r.length/\m.by_<r.length
 num:∀r∈rows,(-1099511627776<=r[m.col.toNat]!.n/\r[m.col.toNat]!.n<=1099511627776)/\(r[m.col.toNat]!.kind≠1->r[m.col.toNat]!.n=0)
theorem TotOK.ns {m:Su} {rows:List (List Vl)} (h:TotOK m rows):azD m rows:=λr hr=>(h.num r hr).2
theorem adX {m:Su} {g:Int}:∀{rows:List (List Vl)},(∀r∈rows, -1099511627776<=r[m.col.toNat]!.n/\r[m.col.toNat]!.n<=1099511627776)-> -1099511627776*(rows.length:Int)<=pB m g rows/\pB m g rows<=1099511627776*(rows.length:Int)
 |[],_=>by simp [pB]
 |r::rows,h=>by
  have ih:=adX (m:=m) (g:=g) (rows:=rows) λx hx=>h x (List.mem_cons_of_mem _ hx)
  have h0:=h r (List.mem_cons_self ..)
  rw [ahD]
  have: -1099511627776<=ahK m g r/\ahK m g r<=1099511627776:=by
   unfold ahK
   split
   ·exact h0
   ·omega
  simp only [zlc]
  omega
theorem aFB {m:Su} {rows:List (List Vl)} (h:azD m rows) (g:Int):(bX g (mO m rows)).getD 0=pB m g rows:=by
 have:=afY g [] h
 simp only [bX,Option.getD_none,Int.zero_add] at this
 exact this
theorem aB0 {m:Su} {rows:List (List Vl)} {k:Nat} (h:k<rows.length):rS m (rows.take (k+1))=(rS m (rows.take k)&&decide (rows[k][m.col.toNat]!.n>=0)):=by
 unfold rS
 rw [List.take_succ_eq_append_getElem h,List.all_append];simp
theorem ahS (m:Su) (rows:List (List Vl)) (h:TotOK m rows):PF Tryz.prog 107 [.agg m.cells, .seq (rows.map roC)] (.tup [.fmap (aY Ie lX (mO m rows)),(PV.val (Value.bool (rS m rows)))]):=by
 have hlen:=h.len
 refine aG aF Tryz.func107 (by kernel_rfl) rfl rfl rfl rfl (λst=> ?_)
 focus ((try apply wO pk;rfl);(repeat' first|(apply mkM (enc:=Ie) (f:=lX);rfl;intro id hid)|show All _;constructor|apply wE pk;rfl;rfl))
 have hid0:st id=none:=hid
 clear hid
 refine aK (X:={x:Nat//x<=rows.length}) (λi=>(((((((St.nil 52 (upd st id (some (.map (aY Ie lX (mO m (rows.take i.1))))))).var 2 184 (m.cells)).pv 6 (.mref id)).pv 7 ((PV.val (Value.bool (rS m (rows.take i.1)))))).pv 11 (.seq (rows.map roC))).pv 12 ((PV.val (Value.int .i64 ((((rows.map roC)).length:Nat)))))).pv 13 ((PV.val (Value.int .i64 ((i.1:Nat))))))) (λi=>rows.length-i.1) ⟨0,by omega⟩ ?_ (λi=> ?_)
 ·(((repeat (first|refine Sub.pv ?_ rfl|refine Sub.var ?_ rfl rfl));(exact Sub.nil _ _ _ (zsr _) rfl)))
 obtain ⟨i,hi⟩:=i
 dsimp only
 by_cases hend:rows.length<=i
 ·rw [List.take_of_length_le hend]
  (try apply wO pk;rfl);(repeat' first|apply iP 4;rfl;exact aB _ _ _|refine aC ?_;exact ⟨_,_,st,rfl,zwr _,pY hid0,rfl,rfl⟩|show All _;constructor|apply wC pk;rfl;rfl|refine aA rfl ?_ ?_<;>intro h<;>(try simp at h)<;>try omega)
 have hil:i<rows.length:=by omega
 obtain ⟨c1,c2⟩:=h.cl _ (zgm hil)
 have hc0:=h.c0
 have hb0:=h.b0
 have n1:=(h.num _ (zgm hil)).1
 have hns:azD m (rows.take i):=λr hr=>h.ns r (List.mem_of_mem_take hr)
 have hg:=aFB hns rows[i][m.by_.toNat]!.n
 have hbd:=adX (m:=m) (g:=rows[i][m.by_.toNat]!.n) (rows:=rows.take i) λr hr=>(h.num r (List.mem_of_mem_take hr)).1
 have hti:(rows.take i).length<=2000:=by rw [zlt];omega
 have hup:=aCu m hil
 have hpu:=aB0 (m:=m) hil
 have hci:m.col=((m.col.toNat:Nat):Int):=by omega
 have hbi:m.by_=((m.by_.toNat:Nat):Int):=by omega
 have l1:m.col.toNat<rows[i].length:=by omega
 have l2:m.by_.toNat<rows[i].length:=by omega
 rw [hg] at hup
 have g1:=getElem!_pos rows[i] m.col.toNat l1
 have g2:=getElem!_pos rows[i] m.by_.toNat l2
 rw [g2] at hg hbd
 rw [g1,g2] at hup
 rw [g1] at hpu n1
 clear g1 g2
 generalize mO m (rows.take i)=M at*
 generalize rS m (rows.take i)=G at*
 generalize pB m rows[i][m.by_.toNat].n (rows.take i)=T at*
 have t1: -2199023255552000<=T:=by omega
 have t2:T<=2199023255552000:=by omega
 clear hbd
 by_cases hk:rows[i][m.by_.toNat].kind=1
 ·rw [if_pos hk] at hup
  (try apply wO pk;rfl);(repeat' first|apply wD pk [15] [7];kernel_rfl;rfl;rfl|show All _;constructor|show Imp _ _;constructor|show ImpX _ _ _ _;constructor|apply wC pk;rfl;rfl|apply wE pk;rfl;rfl|refine aA rfl ?_ ?_<;>intro h<;>(try simp at h)<;>try omega|apply aN pk;(iterate 6 rfl);rotate_left;rfl;(first|(intro hw;rfl);(intro hw;apply aI<;>omega);(intro _;rfl)|(intro hw;exact (by first|exact hci|exact hbi));(intro hw;apply aI<;>omega);(intro _;rfl));rfl|apply lkD pk zD (f:=lX) (z:=0) (k:=rows[i][m.by_.toNat].n) (n:=T);(iterate 5 rfl);rotate_left;rfl;exact aB _ _ _;rfl;exact hg|apply muA pk zD (f:=lX) (k:=rows[i][m.by_.toNat].n) (v:=T+rows[i][m.col.toNat].n);(exact .inr rfl);(iterate 5 rfl);exact aB _ _ _;rfl|(refine ⟨⟨i+1,by omega⟩, ?_,by simp only;omega⟩;((dsimp only;rw [hup,hpu]));(((repeat (first|refine Sub.pv ?_ rfl|refine Sub.var ?_ rfl rfl));(exact Sub.nil _ _ _ (eY (by first|rfl|exact fT ‹_›|((simp only [St.pv,St.put,St.sst,St.setv,St.nil,St.var,fF]);first|done|rfl))) rfl))))|intros;(try simp only [zql]);omega)
 ·rw [if_neg hk] at hup
  (try apply wO pk;rfl);(repeat' first|show All _;constructor|show Imp _ _;constructor|show ImpX _ _ _ _;constructor|apply wC pk;rfl;rfl|apply wE pk;rfl;rfl|refine aA rfl ?_ ?_<;>intro h<;>(try simp at h)<;>try omega|apply aN pk;(iterate 6 rfl);rotate_left;rfl;(first|(intro hw;rfl);(intro hw;apply aI<;>omega);(intro _;rfl)|(intro hw;exact (by first|exact hci|exact hbi));(intro hw;apply aI<;>omega);(intro _;rfl));rfl|(refine ⟨⟨i+1,by omega⟩, ?_,by simp only;omega⟩;((dsimp only;rw [hup,hpu]));(((repeat (first|refine Sub.pv ?_ rfl|refine Sub.var ?_ rfl rfl));(exact Sub.nil _ _ _ (zsr _) rfl))))|intros;(try simp only [zql]);omega)
theorem abF {α β:Type} (f:α->β):∀(l:List α) (i:Nat),(l.map f).eraseIdx i=(l.eraseIdx i).map f
 |[],_=>rfl
 |_::_,0=>rfl
 |a::l,i+1=>by simp only [List.map_cons,List.eraseIdx_cons_succ,abF f l i]
theorem auD (es:List (Int×Int)) (i:Nat):(aY Ie lX es).eraseIdx i=aY Ie lX (es.eraseIdx i):=by unfold aY;rw [abF]
theorem aDt {es:List (Int×Int)} {i:Nat} {e:Value×PV} (h:(aY Ie lX es)[i]?=some e):∃x,es[i]?=some x/\e=(Ie x.1,lX x.2):=by
 unfold aY at h
 rw [List.getElem?_map] at h
 cases hx:es[i]? with
 |none=>rw [hx] at h;cases h
 |some x=>rw [hx] at h;exact ⟨x,rfl,(Option.some.inj h).symm⟩
theorem arM {es:List (Int×Int)} (h:aY Ie lX es=[]):es=[]:=by cases es with
 |nil=>rfl
 |cons x l=>cases h
theorem adF {α:Type} {p:α->Bool}:∀{l:List α} {i:Nat} {x:α},l[i]?=some x->l.all p=(p x&&(l.eraseIdx i).all p)
 |[],_,_,h=>by simp at h
 |a::l,0,x,h=>by simp at h;subst h;rfl
 |a::l,i+1,x,h=>by
  simp only [List.getElem?_cons_succ] at h
  rw [List.eraseIdx_cons_succ,List.all_cons,List.all_cons,adF h]
  cases p a<;>cases p x<;>simp
theorem aDh (x:Int) (g:G):Rep g (PV.val (Value.int .i64 (x))) (Ie x):=by unfold Rep;rfl
theorem amB (t:Tb) (rows:List (List Vl)) (b:Bs) (hx:t.sums.length<1000000000000000) (hT:∀m∈t.sums,TotOK m rows):PF Tryz.prog 61 [.agg (mS t rows b)] (PV.val (Value.int .i64 (if zJ t rows=false then 11 else 0))):=by
 have hyes:(∀j (h:j<t.sums.length),(rS t.sums[j] rows&&(mO t.sums[j] rows).all λe=>decide (e.2<=t.sums[j].max))=true)->zJ t rows=true:=λh=>by
  unfold zJ
  rw [zal]
  intro m hm
  obtain ⟨j,hj,rfl⟩:=List.getElem_of_mem hm
  rw [<-asT (hT _ hm).ns];exact h j hj
 have hno:∀j (h:j<t.sums.length),(rS t.sums[j] rows&&(mO t.sums[j] rows).all λe=>decide (e.2<=t.sums[j].max))=false->zJ t rows=false:=λj hj h=>by
  unfold zJ
  rw [<-Bool.not_eq_true,zal]
  intro q
  have:=q _ (zgm hj)
  rw [<-asT (hT _ (zgm hj)).ns,h] at this;cases this
 generalize zJ t rows=B at*
 refine aG aF Tryz.func61 (by kernel_rfl) rfl rfl rfl rfl (λst=> ?_)
 focus ((try apply wO pk;rfl);(repeat' (show All _;constructor)))
 refine aK (X:={x:Nat//x<=t.sums.length/\∀j (h:j<t.sums.length),j<x->(rS t.sums[j] rows&&(mO t.sums[j] rows).all λe=>decide (e.2<=t.sums[j].max))=true}) (λi=>(((((St.nil 40 st).var 1 123 ((mS t rows b))).pv 11 (.seq (t.sums.map Su.cells))).pv 12 ((PV.val (Value.int .i64 (((t.sums.map Su.cells).length:Nat)))))).pv 13 ((PV.val (Value.int .i64 ((i.1:Nat))))))) (λi=>t.sums.length-i.1) ⟨0,by omega,by omega⟩ ?_ (λi=> ?_)
 ·((repeat (first|refine Sub.pv ?_ rfl|refine Sub.var ?_ rfl rfl));exact Sub.nil _ _ _ (zsr _) rfl)
 obtain ⟨i,hi,hI⟩:=i
 dsimp only
 by_cases hend:t.sums.length<=i
 ·have e:B=true:=hyes λj hj=>hI j hj (by omega)
  (try apply wO pk;rfl);(repeat' first|show All _;constructor|apply wC pk;rfl;rfl|refine aA rfl ?_ ?_<;>intro h<;>(try simp at h)<;>try omega|(refine aC ?_;refine ⟨_,_,_,rfl,zwr _,zsr _, ?_,rfl⟩;try first|rfl|(rw [e];rfl);done))
 have hil:i<t.sums.length:=by omega
 have hts:=ahS t.sums[i] rows (hT _ (zgm hil))
 have hno:=hno i hil
 have hup:(rS t.sums[i] rows&&(mO t.sums[i] rows).all λe=>decide (e.2<=t.sums[i].max))=true->∀j (h:j<t.sums.length),j<i+1->(rS t.sums[j] rows&&(mO t.sums[j] rows).all λe=>decide (e.2<=t.sums[j].max))=true:=λh j hj hji=>by
  rcases Nat.lt_succ_iff_lt_or_eq.1 hji with q|q
  ·exact hI j hj q
  ·subst q;exact h
 generalize mO t.sums[i] rows=M at*
 generalize rS t.sums[i] rows=G at*
 focus ((try apply wO pk;rfl);(repeat' first|(apply aFx pk;(iterate 5 rfl);intro it hit)|show All _;constructor|show Imp _ _;constructor|apply wC pk;rfl;rfl|apply wE pk;rfl;rfl|refine aA rfl ?_ ?_<;>intro h<;>(try simp at h)<;>try omega|(apply aH;rfl;rfl;rfl;(intro _;apply hts<;>first|assumption|omega);rotate_left;rfl;rfl)|apply aN pk;(iterate 6 rfl);rotate_left;rfl;(intro hw;rfl);(intro hw;apply aI<;>omega);(intro _;rfl);rfl))
 have hit0:st it=none:=hit
 clear hit
 refine aK (X:={x:List (Int×Int)×Bool×Option (Value×PV)//(G&&M.all λe=>decide (e.2<=t.sums[i].max))=(x.2.1&&x.1.all λe=>decide (e.2<=t.sums[i].max))}) (λy=>((((((((St.nil 40 (upd st it (some (.iter y.1.2.2 (aY Ie lX y.1.1))))).var 1 123 ((mS t rows b))).var 4 184 (t.sums[i].cells)).pv 6 ((PV.val (Value.bool (y.1.2.1))))).pv 11 (.seq (t.sums.map Su.cells))).pv 12 ((PV.val (Value.int .i64 (((t.sums.map Su.cells).length:Nat)))))).pv 13 ((PV.val (Value.int .i64 ((i:Nat)))))).pv 25 (.ref it 0))) (λy=>y.1.1.length) ⟨(M,G,none),rfl⟩ ?_ (λy=> ?_)
 ·(((repeat (first|refine Sub.pv ?_ rfl|refine Sub.var ?_ rfl rfl));(exact Sub.nil _ _ _ (zsr _) rfl)))
 obtain ⟨⟨rest,g,cur⟩,hI2⟩:=y
 dsimp only at hI2
 dsimp only
 have hdone:aY Ie lX rest=[]->g=true->∀j (h:j<t.sums.length),j<i+1->(rS t.sums[j] rows&&(mO t.sums[j] rows).all λe=>decide (e.2<=t.sums[j].max))=true:=λh1 h2=>hup (by
  obtain rfl:=arM h1
  rw [hI2,h2];rfl)
 have hfail:aY Ie lX rest=[]->g=false->B=false:=λh1 h2=>hno (by
  obtain rfl:=arM h1
  rw [hI2,h2];rfl)
 have hltg:∀{j:Nat} {x:Int×Int},rest[j]?=some x->(rest.eraseIdx j).length<rest.length:=fun {j x} hx=>by
  have:=(List.getElem?_eq_some_iff.1 hx).1
  rw [List.length_eraseIdx_of_lt this];omega
 have hn2:∀{j:Nat} {x:Int×Int},rest[j]?=some x->(G&&M.all λe=>decide (e.2<=t.sums[i].max))=((g&&decide (x.2<=t.sums[i].max))&&(rest.eraseIdx j).all λe=>decide (e.2<=t.sums[i].max)):=fun {j x} hx=>by
  rw [hI2,adF hx,Bool.and_assoc]
 clear hup hno hI2
 (try apply wO pk;rfl);(repeat' first|((refine aC ?_;exact ⟨_,_,st,rfl,zwr _,(by first|exact nR hit0|exact pY hit0),(by rw [hfail ‹_› ‹_›];rfl),rfl⟩))|show All _;constructor|show Imp _ _;constructor|show ImpX _ _ _ _;constructor|apply wC pk;rfl;rfl|apply wE pk;rfl;rfl|refine aA rfl ?_ ?_<;>intro h<;>(try simp at h)<;>try omega|((apply aGx;rfl;exact aB _ _ _;rfl;rfl;rfl;intro hleft;rotate_left;intro j e he;obtain ⟨x,hx,rfl⟩:=aDt he;rw [auD];have hlt:=hltg hx;rotate_left))|apply aFh;rfl;rfl;exact aB _ _ _;exact aDh x.1;rotate_left;rfl;rfl|(refine ⟨⟨i+1,by omega,hdone ‹_› ‹_›⟩, ?_,by simp only;omega⟩;(((repeat (first|refine Sub.pv ?_ rfl|refine Sub.var ?_ rfl rfl));(exact Sub.nil _ _ _ (by first|exact pY hit0|exact nR hit0) rfl))))|(refine ⟨⟨(rest.eraseIdx j,g&&decide (x.2<=t.sums[i].max),some (Ie x.1,lX x.2)),hn2 hx⟩, ?_,by simp only;omega⟩;((dsimp only));(((repeat (first|refine Sub.pv ?_ rfl|refine Sub.var ?_ rfl rfl));(exact Sub.nil _ _ _ (eY (by first|rfl|exact fT ‹_›|((simp only [St.pv,St.put,St.sst,St.setv,St.nil,St.var,fF]);first|done|rfl))) rfl))))|intros;(try simp only [zql]);omega)
end Go.Proofs.YtloecjjehapblaaGreatDoor
