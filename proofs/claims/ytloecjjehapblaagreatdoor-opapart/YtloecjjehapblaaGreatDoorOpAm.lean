import Derived.Test.YtloecjjehapblaaGreatDoorOpAl
import Derived.Test.YtloecjjehapblaaGreatDoorOpAe
import Derived.Test.YtloecjjehapblaaGreatDoorOpAf
import Derived.Test.YtloecjjehapblaaGreatDoorOpAa
set_option linter.unusedSimpArgs false
set_option linter.unusedVariables false
namespace Go.Proofs.YtloecjjehapblaaGreatDoor
open Go Go.Abs
attribute [local irreducible] Ev PWp
set_option maxRecDepth 10000
set_option maxHeartbeats 4000000
def aCb (t:Tb):Nat:=t.cols.length+t.unique.length+t.checks.length+t.foreign.length+t.sums.length
def agL (s:Sc):Nat:=(s.map aCb).sum
def abA (s:Sc):Bool:=decide (s.length<=20)&&decide (agL s<=400)
theorem aEW {s:Sc} {i:Nat} (h:i<s.length):agL (s.take (i+1))=agL (s.take i)+aCb s[i]:=by
 unfold agL
 rw [List.take_succ_eq_append_getElem h,List.map_append,List.sum_append];simp
theorem aC5 {s:Sc} {t:Tb} (h:t∈s):aCb t<=agL s:=by
 unfold agL
 induction s with
 |nil=>cases h
 |cons a s ih=>
  rw [zmp,List.sum_cons]
  rcases zmc.1 h with rfl|h
  ·omega
  ·have:=ih h;omega
theorem aAj (s:Sc) (hl:s.length<200000000000000) (h20:¬s.length<=20):PF Tryz.prog 96 [.agg (scC s)] (.val (.bool false)):=by
 refine aG aD Tryz.func96 (by kernel_rfl) rfl rfl rfl rfl (λst=> ?_)
 focus ((try apply wO pk;rfl);(repeat' ((show Cn _;constructor))))
 refine aK (X:={x:Nat×Int//x.1<=s.length}) (λi=>((((St.nil 47 st).var 1 24 ((scC s))).pv 3 ((PV.val (Value.int .i64 (i.1.2))))).pv 4 ((PV.val (Value.int .i64 ((i.1.1:Nat))))))) (λi=>s.length-i.1.1) ⟨(0,0),by simp⟩ ?_ (λi=> ?_)
 ·((repeat (first|refine Sub.pv ?_ rfl|refine Sub.var ?_ rfl rfl));exact Sub.nil _ _ _ (zsr _) rfl)
 obtain ⟨⟨i,n⟩,hi⟩:=i
 simp only at hi
 dsimp only
 by_cases hend:s.length<=i
 ·(try apply wO pk;rfl);(repeat' first|show Cn _;constructor|apply wC pk;rfl;rfl|refine aA rfl ?_ ?_<;>intro h<;>(try simp at h)<;>try omega|(refine aB ?_;refine ⟨_,_,_,rfl,zwr _,zsr _, ?_,rfl⟩;try first|rfl|(rw [zql,decide_eq_false (by omega)];rfl);done))
 have hil:i<s.length:=by omega
 focus ((try apply wO pk;rfl);(repeat' first|show Cn _;constructor|apply wC pk;rfl;rfl|refine aA rfl ?_ ?_<;>intro h<;>(try simp at h)<;>try omega))
 (apply aO pk;(iterate 6 rfl);rotate_left;rfl;(intro hw;rfl);(intro hw;apply aI<;>omega);(intro _;rfl);rfl)
 ·(repeat (first|apply lS aD;iterate 4 rfl|apply amF aD;iterate 4 rfl|apply ajU aD;iterate 5 rfl))
  refine sJ ?_
  refine jY ?_
  (repeat (first|(apply aGb;(iterate 5 rfl);intro n')|apply lS aD;iterate 4 rfl|apply aBd aD;rfl;rfl;exact λ_=>rfl;rfl;rfl|apply auE aD;rfl;rfl;rfl;rfl;exact λ_=>rfl;rfl;rfl))
  (try apply wO pk;rfl);(repeat' first|show Cn _;constructor|apply wE pk;rfl;rfl|(refine ⟨⟨(i+1,n'),by simp only;omega⟩, ?_,by simp only;omega⟩;((repeat (first|refine Sub.pv ?_ rfl|refine Sub.var ?_ rfl rfl));exact Sub.nil _ _ _ (zsr _) rfl))|intros;(try simp only [zql]);omega)
 ·(try apply wO pk;rfl);(repeat' first|show Cn _;constructor)
theorem apB (s:Sc) (hl:s.length<200000000000000) (hB:ScB s):PF Tryz.prog 96 [.agg (scC s)] (.val (.bool (abA s))):=by
 by_cases h20:¬s.length<=20
 ·have hF:abA s=false:=by unfold abA;rw [decide_eq_false h20];rfl
  rw [hF]
  exact aAj s hl h20
 replace h20:=zdn h20
 refine aG aD Tryz.func96 (by kernel_rfl) rfl rfl rfl rfl (λst=> ?_)
 focus ((try apply wO pk;rfl);(repeat' ((show Cn _;constructor))))
 refine aK (X:={x:Nat×Int//x.1<=s.length/\x.2=((agL (s.take x.1):Nat):Int)/\x.2<=x.1*1000000000000000}) (λi=>((((St.nil 47 st).var 1 24 ((scC s))).pv 3 ((PV.val (Value.int .i64 (i.1.2))))).pv 4 ((PV.val (Value.int .i64 ((i.1.1:Nat))))))) (λi=>s.length-i.1.1) ⟨(0,0),by simp,rfl,by simp⟩ ?_ (λi=> ?_)
 ·((repeat (first|refine Sub.pv ?_ rfl|refine Sub.var ?_ rfl rfl));exact Sub.nil _ _ _ (zsr _) rfl)
 obtain ⟨⟨i,n⟩,hi,hn,hb2⟩:=i
 simp only at hi hn hb2
 dsimp only
 by_cases hend:s.length<=i
 ·rw [ztl hend] at hn
  subst hn
  have e:abA s=(decide ((s.length:Int)<=20)&&decide ((agL s:Int)<=400)):=by unfold abA;rw [Bool.eq_iff_iff];simp;omega
  rw [e]
  (try apply wO pk;rfl);(repeat' first|show Cn _;constructor|apply wC pk;rfl;rfl|refine aA rfl ?_ ?_<;>intro h<;>(try simp at h)<;>try omega|(refine aB ?_;refine ⟨_,_,_,rfl,zwr _,zsr _, ?_,rfl⟩;try first|rfl|(rw [zql]);done))
 have hil:i<s.length:=by omega
 have hu:=aEW hil
 have hT:=hB _ (zgm hil)
 obtain ⟨c1,c2,c3,c4,c5⟩:=hT
 have hs:aCb s[i]=s[i].cols.length+s[i].unique.length+s[i].checks.length+s[i].foreign.length+s[i].sums.length:=rfl
 have l1:(s[i].cols.map Co.cells).length=s[i].cols.length:=zql _
 have l2:(s[i].unique.map I1).length=s[i].unique.length:=zql _
 have l3:(s[i].foreign.map Fr.cells).length=s[i].foreign.length:=zql _
 have l4:(s[i].sums.map Su.cells).length=s[i].sums.length:=zql _
 have w1:n+((s[i].cols.map Co.cells).length:Int)+((s[i].unique.map I1).length:Int)+(s[i].checks.length:Int)+((s[i].foreign.map Fr.cells).length:Int)+((s[i].sums.map Su.cells).length:Int)=((agL (s.take (i+1)):Nat):Int):=by omega
 have w2:n+((s[i].cols.map Co.cells).length:Int)+((s[i].unique.map I1).length:Int)+(s[i].checks.length:Int)+((s[i].foreign.map Fr.cells).length:Int)+((s[i].sums.map Su.cells).length:Int)<=((i+1:Nat):Int)*1000000000000000:=by omega
 have n0:0<=n:=by omega
 (try apply wO pk;rfl);(repeat' first|show Cn _;constructor|apply wC pk;rfl;rfl|apply wE pk;rfl;rfl|refine aA rfl ?_ ?_<;>intro h<;>(try simp at h)<;>try omega|apply aO pk;(iterate 6 rfl);rotate_left;rfl;(intro hw;rfl);(intro hw;apply aI<;>omega);(intro _;rfl);rfl|(refine ⟨⟨(i+1,n+((s[i].cols.map Co.cells).length:Int)+((s[i].unique.map I1).length:Int)+(s[i].checks.length:Int)+((s[i].foreign.map Fr.cells).length:Int)+((s[i].sums.map Su.cells).length:Int)),by simp only;omega,w1,w2⟩, ?_,by simp only;omega⟩;((repeat (first|refine Sub.pv ?_ rfl|refine Sub.var ?_ rfl rfl));exact Sub.nil _ _ _ (zsr _) rfl))|intros;(try simp only [zql]);omega)
noncomputable def fewX (s:Sc):Bool:=s.all λt=>t.checks.all λc=>decide (X.nodesR 25 (exOf c) 60<=60)
noncomputable def fewC (s:Sc) (b:Bs):Bool:=(abA s&&uD b)&&fewX s
theorem axA (s:Sc) (b:Bs) (hl:s.length<200000000000000) (hB:ScB s) (hK:∀t∈s,qY t) (hb:BsB b):PF Tryz.prog 51 [.agg (scC s), .agg (bsC b)] (.val (.bool (fewC s b))):=by
 have h1:=apB s hl hB
 have h2:=azV b hb.1 hb.2
 unfold fewC
 by_cases hg:¬(abA s&&uD b)=true
 ·have hg:(abA s&&uD b)=false:=by simpa using hg
  rw [hg]
  generalize abA s=A at*
  generalize uD b=B at*
  refine aG aD Tryz.func51 (by kernel_rfl) rfl rfl rfl rfl (λst=> ?_)
  (try apply wO pk;rfl);(repeat' first|show Cn _;constructor|apply wC pk;rfl;rfl|apply wE pk;rfl;rfl|refine aA rfl ?_ ?_<;>intro h<;>(try simp at h)<;>try omega|(refine aB ?_;refine ⟨_,_,_,rfl,zwr _,zsr _, ?_,rfl⟩;try first|rfl|(fail);done)|(apply aH;rfl;rfl;rfl;(intro _;(first|apply h1|apply h2)<;>first|assumption|omega);rotate_left;rfl;rfl)|exfalso;simp_all;done)
 replace hg:=zdn hg
 rw [hg]
 rw [zba] at hg
 rw [hg.1] at h1
 rw [hg.2] at h2
 have hl20:s.length<=20:=by have:=hg.1;unfold abA at this;simp at this;exact this.1
 have hyes:(∀j (h:j<s.length),(s[j].checks.all λc=>decide (X.nodesR 25 (exOf c) 60<=60))=true)->fewX s=true:=λh=>by
  unfold fewX
  rw [zal]
  intro t ht
  obtain ⟨j,hj,rfl⟩:=zgo ht
  exact h j hj
 have hno:∀j (h:j<s.length),∀y (hy:y<s[j].checks.length),decide (X.nodesR 25 (exOf s[j].checks[y]) 60<=60)=false->fewX s=false:=λj hj y hy h=>by
  unfold fewX
  rw [<-Bool.not_eq_true,zal]
  intro q
  have:=zal.1 (q _ (zgm hj)) _ (zgm hy)
  rw [h] at this;cases this
 generalize fewX s=W at*
 refine aG aD Tryz.func51 (by kernel_rfl) rfl rfl rfl rfl (λst=> ?_)
 focus ((try apply wO pk;rfl);(repeat' first|show Cn _;constructor|apply wC pk;rfl;rfl|apply wE pk;rfl;rfl|refine aA rfl ?_ ?_<;>intro h<;>(try simp at h)<;>try omega|(apply aH;rfl;rfl;rfl;(intro _;(first|apply h1|apply h2)<;>first|assumption|omega);rotate_left;rfl;rfl)))
 refine aK (X:={x:Nat//x<=s.length/\∀j (h:j<s.length),j<x->(s[j].checks.all λc=>decide (X.nodesR 25 (exOf c) 60<=60))=true}) (λi=>(((St.nil 50 st).var 2 24 ((scC s))).pv 7 ((PV.val (Value.int .i64 ((i.1:Nat))))))) (λi=>s.length-i.1) ⟨0,by omega,by omega⟩ ?_ (λi=> ?_)
 ·((repeat (first|refine Sub.pv ?_ rfl|refine Sub.var ?_ rfl rfl));exact Sub.nil _ _ _ (zsr _) rfl)
 obtain ⟨i,hi,hI⟩:=i
 dsimp only
 by_cases hend:s.length<=i
 ·have e:W=true:=hyes λj hj=>hI j hj (by omega)
  (try apply wO pk;rfl);(repeat' first|show Cn _;constructor|apply wC pk;rfl;rfl|refine aA rfl ?_ ?_<;>intro h<;>(try simp at h)<;>try omega|(refine aB ?_;refine ⟨_,_,_,rfl,zwr _,zsr _, ?_,rfl⟩;try first|rfl|(rw [e];rfl);done))
 have hil:i<s.length:=by omega
 have hup:(s[i].checks.all λc=>decide (X.nodesR 25 (exOf c) 60<=60))=true->∀j (h:j<s.length),j<i+1->(s[j].checks.all λc=>decide (X.nodesR 25 (exOf c) 60<=60))=true:=λh j hj hji=>by
  rcases zls.1 hji with q|q
  ·exact hI j hj q
  ·subst q;exact h
 have hchk:=hK _ (zgm hil)
 have hckl:=(hB _ (zgm hil)).k
 have hno:=hno i hil
 focus ((try apply wO pk;rfl);(repeat' first|show Cn _;constructor|apply wC pk;rfl;rfl|refine aA rfl ?_ ?_<;>intro h<;>(try simp at h)<;>try omega))
 refine aK (X:={x:Nat//x<=s[i].checks.length/\∀j (h:j<s[i].checks.length),j<x->decide (X.nodesR 25 (exOf s[i].checks[j]) 60<=60)=true}) (λy=>((((St.nil 50 st).var 2 24 ((scC s))).pv 7 ((PV.val (Value.int .i64 ((i:Nat)))))).pv 8 ((PV.val (Value.int .i64 ((y.1:Nat))))))) (λy=>s[i].checks.length-y.1) ⟨0,by omega,by omega⟩ ?_ (λy=> ?_)
 ·((repeat (first|refine Sub.pv ?_ rfl|refine Sub.var ?_ rfl rfl));exact Sub.nil _ _ _ (zsr _) rfl)
 obtain ⟨y,hy,hyI⟩:=y
 dsimp only
 by_cases hend2:s[i].checks.length<=y
 ·have hw:=hup (by
   rw [zal]
   intro c hc
   obtain ⟨j,hj,rfl⟩:=zgo hc
   exact hyI j hj (by omega))
  (try apply wO pk;rfl);(repeat' first|show Cn _;constructor|apply wC pk;rfl;rfl|apply wE pk;rfl;rfl|refine aA rfl ?_ ?_<;>intro h<;>(try simp at h)<;>try omega|apply aO pk;(iterate 6 rfl);rotate_left;rfl;(intro hw;rfl);(intro hw;apply aI<;>omega);(intro _;rfl);rfl|(refine ⟨⟨i+1,by omega,hw⟩, ?_,by simp only;omega⟩;((repeat (first|refine Sub.pv ?_ rfl|refine Sub.var ?_ rfl rfl));exact Sub.nil _ _ _ (zsr _) rfl))|intros;(try simp only [zql]);omega)
 have hyl:y<s[i].checks.length:=by omega
 obtain ⟨hok,hcc⟩:=ahJ (hchk _ (zgm hyl))
 have hF:=X.Few_spec hok
 have hno:=hno y hyl
 have hyu:decide (X.nodesR 25 (exOf s[i].checks[y]) 60<=60)=true->∀j (h:j<s[i].checks.length),j<y+1->decide (X.nodesR 25 (exOf s[i].checks[j]) 60<=60)=true:=λh j hj hji=>by
  rcases zls.1 hji with q|q
  ·exact hyI j hj q
  ·subst q;exact h
 have hget:s[i].checks[y]?=some (exOf s[i].checks[y]).cells:=by rw [hcc,zgg hyl]
 generalize decide (X.nodesR 25 (exOf s[i].checks[y]) 60<=60)=D at*
 generalize exOf s[i].checks[y]=x at*
 obtain ⟨xk,xn,xv,xo⟩:=x
 cases D with
 |true=>
  (try apply wO pk;rfl);(repeat' first|show Cn _;constructor|apply wC pk;rfl;rfl|apply wE pk;rfl;rfl|refine aA rfl ?_ ?_<;>intro h<;>(try simp at h)<;>try omega|(apply aH;rfl;rfl;rfl;(intro _;apply hF<;>first|assumption|omega);rotate_left;rfl;rfl)|apply aO pk;(iterate 6 rfl);rotate_left;rfl;(first|(intro hw;rfl);(intro hw;apply aI<;>omega);(intro _;rfl)|(intro hw;rfl);(intro hw;apply hget<;>omega);(intro _;rfl));rfl|(refine ⟨⟨y+1,by omega,hyu rfl⟩, ?_,by simp only;omega⟩;((repeat (first|refine Sub.pv ?_ rfl|refine Sub.var ?_ rfl rfl));exact Sub.nil _ _ _ (zsr _) rfl))|intros;(try simp only [zql]);omega)
 |false=>
  have e:=hno rfl
  (try apply wO pk;rfl);(repeat' first|show Cn _;constructor|apply wC pk;rfl;rfl|apply wE pk;rfl;rfl|refine aA rfl ?_ ?_<;>intro h<;>(try simp at h)<;>try omega|(refine aB ?_;refine ⟨_,_,_,rfl,zwr _,zsr _, ?_,rfl⟩;try first|rfl|(rw [e];rfl);done)|(apply aH;rfl;rfl;rfl;(intro _;apply hF<;>first|assumption|omega);rotate_left;rfl;rfl)|apply aO pk;(iterate 6 rfl);rotate_left;rfl;(first|(intro hw;rfl);(intro hw;apply aI<;>omega);(intro _;rfl)|(intro hw;rfl);(intro hw;apply hget<;>omega);(intro _;rfl));rfl)
theorem CkB.of {s:Sc} {b:Bs} (h:fewC s b=true) (hB:ScB s) (hK:∀t∈s,qY t):CkB 100 s b:=by
 unfold fewC abA at h
 simp only [zba,zde] at h
 obtain ⟨⟨⟨h1,h2⟩,h3⟩,h4⟩:=h
 exact ⟨hB,h1,λt ht=>by have:=aC5 ht;unfold aCb at this;omega,hK,aEn h3,by omega⟩
theorem aGS {A B:List (List PV)} (hl:A.length=B.length) (h:∀x∈A.zip B,WkL x.1 x.2):Wk (.seq A) (.seq B):=by
 have:=Wk.rows (f:=Prod.fst) (k:=Prod.snd) (l:=A.zip B) h
 rwa [List.map_fst_zip (by omega),List.map_snd_zip (by omega)] at this
def amP :PV:= .val (.slice none 0 0)
structure ScG (s:Sc):Prop where
 l:s.length<200000000000000
 b:ScB s
 k:∀t∈s,qY t
end Go.Proofs.YtloecjjehapblaaGreatDoor
namespace Go.Proofs.YtloecjjehapblaaGreatDoor
open Go Go.Abs Go.ChangeShapes Go.WideShapes Go.ChangeAt Go.RowKit
set_option maxRecDepth 10000
theorem aFY {N n:Nat} {ps:List PV} (h:bK Tryz.prog N n 136 ps):∃v:Co,ps=v.cells:=by
 obtain ⟨m,pss,_,rfl,h2⟩:=cA aD rfl h
 cases h2 with|cons ha h2=>cases h2 with|cons hb h2=>cases h2 with|cons hc h2=>cases h2 with|cons hd h2=>cases h2 with|nil=>
 obtain ⟨a,rfl,_⟩:=vZ aD rfl ha
 obtain ⟨b,rfl,_⟩:=bL aD rfl hb
 obtain ⟨c,rfl,_⟩:=bL aD rfl hc
 obtain ⟨d,rfl⟩:=abG aD rfl hd
 exact ⟨⟨a,b,c,d⟩,rfl⟩
theorem aEq {N n t:Nat} {fs:List (TypeId×Nat)} (ht:tiK tt t=some (.struct fs)) {α:Type} {f:α->List PV} (hf:fs.map (·.1)=[3,3,3]) (mk:Int->Int->Int->α) (hm:∀a b c,f (mk a b c)=[(PV.val (Value.int .i64 (a))),(PV.val (Value.int .i64 (b))),(PV.val (Value.int .i64 (c)))]) {ps:List PV} (h:bK Tryz.prog N n t ps):∃v:α,ps=f v:=by
 obtain ⟨m,pss,_,rfl,h2⟩:=cA aD ht h
 rw [hf] at h2
 cases h2 with|cons ha h2=>cases h2 with|cons hb h2=>cases h2 with|cons hc h2=>cases h2 with|nil=>
 obtain ⟨a,rfl,_⟩:=bL aD rfl ha
 obtain ⟨b,rfl,_⟩:=bL aD rfl hb
 obtain ⟨c,rfl,_⟩:=bL aD rfl hc
 exact ⟨mk a b c,(hm a b c).symm⟩
theorem asD :∀{l:List X.Ex},(∀e∈l,e.ok)->X.Ex.oks l
 |[],_=>by simp [X.Ex.oks]
 |e::l,h=>by
  simp only [X.Ex.oks]
  exact ⟨h e (List.mem_cons_self ..),asD λx hx=>h x (List.mem_cons_of_mem _ hx)⟩
theorem aGv :∀{n:Nat} {ps:List PV},bK Tryz.prog reachBytes n 88 ps->∃e:X.Ex,ps=e.cells/\e.ok:=by
 intro n
 induction n using Nat.strongRecOn with
 |_ n ih=>
  intro ps h
  obtain ⟨m,pss,hm,rfl,h2⟩:=cA aD rfl h
  cases h2 with|cons ha h2=>cases h2 with|cons hb h2=>cases h2 with|cons hc h2=>cases h2 with|cons hd h2=>cases h2 with|nil=>
  obtain ⟨a,rfl,_⟩:=bL aD rfl ha
  obtain ⟨b,rfl,_⟩:=bL aD rfl hb
  obtain ⟨c,rfl⟩:=akC hc
  obtain ⟨m',rows,hm',rfl,hl,hr⟩:=cK aD rfl hd
  obtain ⟨l,rfl,hl2,hq⟩:=wP (f:=X.Ex.cells) λr hr'=>ih m' (by omega) (hr r hr')
  refine ⟨.mk a b c l,by rw [<-X.Ex.rows_map];rfl, ?_⟩
  simp only [X.Ex.ok]
  have h62:reachBytes<2^62:=by decide
  exact ⟨by omega,asD hq⟩
theorem aGh {n:Nat} {ps:List PV} (h:bK Tryz.prog reachBytes n 121 ps):∃v:Tb,ps=v.cells/\TbB v/\qY v:=by
 obtain ⟨m,pss,_,rfl,h2⟩:=cA aD rfl h
 cases h2 with|cons ha h2=>cases h2 with|cons hb h2=>cases h2 with|cons hc h2=>cases h2 with|cons hd h2=>cases h2 with|cons he h2=>cases h2 with|cons hf h2=>cases h2 with|nil=>
 obtain ⟨a,rfl,_⟩:=vZ aD rfl ha
 obtain ⟨_,b,_,rfl,lb,hr⟩:=cK aD rfl hb
 obtain ⟨b,rfl⟩:=qR (f:=Co.cells) λr hr'=>aFY (hr r hr')
 obtain ⟨_,c,_,rfl,lc,hr⟩:=cK aD rfl hc
 obtain ⟨c,rfl⟩:=qR (f:=I1) λr hr'=>by
  obtain ⟨x,rfl,_⟩:=bL aD rfl (hr r hr');exact ⟨x,rfl⟩
 obtain ⟨_,d,_,rfl,ld,hrd⟩:=cK aD rfl hd
 have hck:∀c∈d,∃e:X.Ex,e.ok/\e.cells=c:=λc hc=>by
  obtain ⟨e,h1,h2⟩:=aGv (hrd c hc)
  exact ⟨e,h2,h1.symm⟩
 obtain ⟨_,e,_,rfl,le,hr⟩:=cK aD rfl he
 obtain ⟨e,rfl⟩:=qR (f:=Fr.cells) λr hr'=>aEq rfl rfl Fr.mk (λ_ _ _=>rfl) (hr r hr')
 obtain ⟨_,f,_,rfl,lf,hr⟩:=cK aD rfl hf
 obtain ⟨f,rfl⟩:=qR (f:=Su.cells) λr hr'=>aEq rfl rfl Su.mk (λ_ _ _=>rfl) (hr r hr')
 rw [zql] at lb lc le lf
 have h:=show reachBytes<200000000000000 by decide
 exact ⟨⟨a,b,c,d,e,f⟩,rfl,⟨Nat.lt_of_le_of_lt lb h,Nat.lt_of_le_of_lt lc h,Nat.lt_of_le_of_lt ld h,Nat.lt_of_le_of_lt le h,Nat.lt_of_le_of_lt lf h⟩,hck⟩
theorem aDK :Tryz.prog.bytesOf 121=136:=by kernel_rfl
theorem aAT {n:Nat} {ps:List PV} (h:bK Tryz.prog reachBytes n 24 ps):∃v:{s:Sc//ScG s/\s.length<2000000000000},ps=scC v.1:=by
 obtain ⟨m,pss,_,rfl,h2⟩:=cA aD rfl h
 cases h2 with|cons ha h2=>cases h2 with|nil=>
 obtain ⟨_,c,_,rfl,lc,hr⟩:=afS aD rfl ha
 obtain ⟨c,rfl,hl,hq⟩:=wP λr hr'=>aGh (hr r hr')
 rw [aDK,zql] at lc
 have h:reachBytes=140737488351232:=by decide
 exact ⟨⟨c,⟨by omega,λt ht=>(hq t ht).1,λt ht=>(hq t ht).2⟩,by omega⟩,rfl⟩
end Go.Proofs.YtloecjjehapblaaGreatDoor
namespace Go.Proofs.YtloecjjehapblaaGreatDoor
open Go Go.Abs
attribute [local irreducible] Ev PWp
set_option maxRecDepth 10000
set_option maxHeartbeats 4000000
theorem apA (l:List Pt) (st:aJ) (hl:l.length<1000000000000):PC Tryz.prog 318 [.seq (l.map Pt.cells)] st (LR 190 11 st (l.map Pt.cells)):=by
 refine cE aD Tryz.func318 (by kernel_rfl) rfl rfl rfl rfl ?_
 (try apply wO pk;rfl);(repeat' first|show Cn _;constructor|apply wC pk;rfl;rfl|apply wE pk;rfl;rfl|refine aA rfl ?_ ?_<;>intro h<;>(try simp at h)<;>try omega|((try refine aB ?_);((refine ⟨_,_,_,rfl,zwr _,zsr _, ?_⟩;((first|exact .inr ⟨rfl,hb h,zsr _⟩|exact .inl ⟨id',by rw [zql],hid',aC _ _ _,dD hid'⟩));done)))|(apply ap0 pk (f:=Pt.cells) l 96;(iterate 10 rfl);exact λ_=>rfl;exact λ_=>rfl;exact tX;(omega);(omega);rfl;intro id' hid')|(apply aAQ pk;(iterate 6 rfl);intro b hb))
theorem vE (l:List Pt) (st:aJ) (hl:l.length<1000000000000):PC Tryz.prog 318 [.seq (l.map Pt.cells)] st λp S=>∃id,p= .vec id 11 0 l.length/\st id=none/\S=upd st id (some (.arr 190 (l.map Pt.cells))):=
 vM (aaV (apA l st hl)) λp st' ⟨id,h1,h2,h3⟩=>⟨p,st',zwr _,zsr _,id,by rw [h1,zql],h2,h3⟩
end Go.Proofs.YtloecjjehapblaaGreatDoor
namespace Go.Proofs.YtloecjjehapblaaGreatDoor.T
open Go Go.Abs
attribute [local irreducible] Ev PWp
set_option maxRecDepth 10000
set_option maxHeartbeats 4000000
def afO (p:Pt):Pt:={p with gone:=true}
def oD (k:Nm) (l:List Pt):List Pt:=l.map λp=>if aP p=k then afO p else p
def eraseP (c:Cl) (k:Nm):Cl:={c with parts:=oD k c.parts}
def iJ (k:Nm) (l:List Pt) (i:Nat):List Pt:=oD k (l.take i)++l.drop i
theorem anB {k:Nm} {l:List Pt} {i:Nat} (h:i<l.length):(iJ k l i)[i]?=some l[i]:=by
 unfold iJ oD
 rw [List.getElem?_append_right (by simp;omega)]
 simp [Nat.min_eq_left (Nat.le_of_lt h)]
theorem tD {k:Nm} {l:List Pt} {i:Nat} (h:i<l.length):iJ k l (i+1)=if aP l[i]=k then (iJ k l i).set i (afO l[i]) else iJ k l i:=by
 unfold iJ oD
 rw [List.take_succ_eq_append_getElem h,List.map_append]
 have hlen:((l.take i).map λp=>if aP p=k then afO p else p).length=i:=by simp;omega
 split
 ·rename_i e
  rw [List.set_append_right _ _ (by omega),hlen,List.drop_eq_getElem_cons h];simp only [zmp,List.map_nil,zp e,Nat.sub_self,List.set_cons_zero,List.append_assoc,List.cons_append,List.nil_append]
 ·rename_i e
  rw [List.drop_eq_getElem_cons h];simp [e]
def aFa (st:aJ) (c:Cl) (k:Nm) (p:PV) (st':aJ):Prop:=
 ∃id,p= .agg [(PV.val (Value.int .i64 (c.kind))),(PV.val (Value.int .i64 (c.val.kind))),(PV.val (Value.int .i64 (c.val.n))),(PV.val (Value.string (c.val.s))), .vec id 11 0 c.parts.length]/\st'=upd st id (some (.arr 190 ((oD k c.parts).map Pt.cells)))/\st id=none
theorem atW (p:Pt) (d:Dt) (n:Int):aP p=⟨d,n⟩↔((aP p).dot.dev=d.dev/\(aP p).dot.seq=d.seq)/\(aP p).at_=n:=by
 rw [Nm.ext_iff,Dt.ext_iff]
theorem aCg (c:Cl) (d:Dt) (at_:Int) (st:aJ) (hl:c.parts.length<1000000000000):PC Tryz.prog 252 [.agg c.cells, .agg d.cells,(.val (.int .i64 at_))] st (aFa st c ⟨d,at_⟩):=by
 refine cE aD Tryz.func252 (by kernel_rfl) rfl rfl rfl rfl ?_
 (try apply wO pk;rfl);(repeat' first|show Cn _;constructor|apply wE pk;rfl;rfl|(apply cG;rfl;rfl;(apply (vE c.parts _ hl)<;>first|exact aC _ _ _|assumption|omega|(fail));rfl;rfl;rfl;intro _ st' hR;obtain ⟨id,rfl,hid,rfl⟩:=hR))
 ·have hid:st id=none:=hid
  have e00:iJ ⟨d,at_⟩ c.parts 0=c.parts:=rfl
  refine aK (X:={x:Nat//x<=c.parts.length}) (λi=>((((((((St.nil 34 (upd st id (some (.arr 190 ((iJ ⟨d,at_⟩ c.parts i.1).map Pt.cells))))).pv 2 ((PV.val (Value.int .i64 (at_))))).var 3 80 ([(PV.val (Value.int .i64 (c.kind))),(PV.val (Value.int .i64 (c.val.kind))),(PV.val (Value.int .i64 (c.val.n))),(PV.val (Value.string (c.val.s))), .vec id 11 0 c.parts.length])).var 4 59 (d.cells)).var 6 80 ([(PV.val (Value.int .i64 (0))),(PV.val (Value.int .i64 (0))),(PV.val (Value.int .i64 (0))),(PV.val (Value.string (e0))), .val (.slice none 0 0)])).pv 14 (.vec id 11 0 c.parts.length)).pv 15 ((PV.val (Value.int .i64 ((c.parts.length:Nat)))))).pv 16 ((PV.val (Value.int .i64 ((i.1:Nat))))))) (λi=>c.parts.length-i.1) ⟨0,by omega⟩ ?_ (λi=> ?_)
  ·(((repeat (first|refine Sub.pv ?_ rfl|refine Sub.var ?_ rfl rfl));(exact Sub.nil _ _ _ (zsr _) rfl)))
  obtain ⟨i,hi⟩:=i
  dsimp only
  have hf:c.parts.length<=i->iJ ⟨d,at_⟩ c.parts i=oD ⟨d,at_⟩ c.parts:=λh=>by unfold iJ;rw [ztl h,List.drop_eq_nil_of_le h,List.append_nil]
  have hg:=λh:i<c.parts.length=>anB (k:=⟨d,at_⟩) h
  (try apply wO pk;rfl);(repeat' first|show Cn _;constructor|apply wC pk;rfl;rfl|apply wE pk;rfl;rfl|apply wDx pk;rfl;kernel_rfl;rfl;rfl|refine aA rfl ?_ ?_<;>intro h<;>(try simp at h)<;>try omega|(try refine aB ?_);((refine ⟨_,_,_,rfl,zwr _,zsr _, ?_⟩;((have e:=hf (by omega);refine ⟨id,rfl, ?_,hid⟩;show upd st id _=upd st id _;rw [e]));done))|(apply aH;rfl;rfl;rfl;(intro _;apply nE<;>first|assumption|omega);rotate_left;rfl;rfl)|apply ldL pk Pt.elem (a:=(c.parts[i]'‹_›));rfl;rfl;rotate_left;rfl;(exact aC _ _ _);(intro _;exact (hg ‹_›));rfl|apply ixA pk;(iterate 5 rfl);rotate_left;rfl;(intro hw;(exact (show _=((i:Nat):Int) from by omega)));(intro hw;(omega));rfl;(exact Nat.zero_add _)|apply stF pk (f:=Pt.cells) (c.parts[i]'‹_›) (afO (c.parts[i]'‹_›));rfl;rfl;exact aC _ _ _;rfl;exact (hg ‹_›);rfl;rfl|(refine ⟨⟨i+1,by omega⟩, ?_,by simp only;omega⟩;(rw [tD ‹_›,zp ((atW _ _ _).2 h)]);(((repeat (first|refine Sub.pv ?_ rfl|refine Sub.var ?_ rfl rfl));(exact Sub.nil _ _ _ (eX (by first|rfl|exact fS ‹_›|((simp only [St.pv,St.put,St.sst,St.setv,St.nil,St.var,fD]);first|done|rfl))) rfl))))|(refine ⟨⟨i+1,by omega⟩, ?_,by simp only;omega⟩;(rw [tD ‹_›,zn (λq=>by have:=(atW _ _ _).1 q;exact h this.1.1 this.1.2 this.2)]);(((repeat (first|refine Sub.pv ?_ rfl|refine Sub.var ?_ rfl rfl));(exact Sub.nil _ _ _ (zsr _) rfl))))|intros;(try simp only [zql]);omega)
theorem erase_spec (c:Cl) (d:Dt) (at_:Int) (hl:c.parts.length<1000000000000):PF Tryz.prog 252 [.agg c.cells, .agg d.cells,(.val (.int .i64 at_))] (.agg (eraseP c ⟨d,at_⟩).cells):=λst=>
 gI (sz:=11) (aCg c d at_ st hl) λp st' h=>by
  obtain ⟨id,rfl,rfl,h3⟩:=h
  refine .inl ⟨id,190,(oD ⟨d,at_⟩ c.parts).map Pt.cells,_,st,aC _ _ _,aoK, .agg (.cons .refl (.cons .refl (.cons .refl (.cons .refl (.cons ?_ .nil))))),dD h3,rfl,rfl⟩
  have e:((oD ⟨d,at_⟩ c.parts).map Pt.cells).length=c.parts.length:=by simp [oD]
  rw [<-e];exact .all
def wrF (d:Dt) (t:Int):List Pt->Int->Int
 |[],n=>n
 |p::r,n=>if p.dot≠d then wrF d t r n else if p.time≠t then-1 else wrF d t r (max n (p.at_+1))
def dH (c:Cl) (w:Sp):Int:=if withinB w.time 1 1125899906842624=true/\mayN ⟨⟨w.dev,w.seq⟩,0⟩=true then wrF ⟨w.dev,w.seq⟩ w.time c.parts 0 else-1
theorem aBC {d:Dt} {t n:Int} {l:List Pt} {i:Nat} (h:i<l.length):wrF d t (l.drop i) n=if l[i].dot≠d then wrF d t (l.drop (i+1)) n else if l[i].time≠t then-1 else wrF d t (l.drop (i+1)) (max n (l[i].at_+1)):=by
 rw [List.drop_eq_getElem_cons h];rfl
theorem aiY (c:Cl) (w:Sp) (hl:c.parts.length<1000000000000) (hf:∀p∈c.parts,bZ p=true):PF Tryz.prog 321 [.agg c.cells, .agg w.cells] (.val (.int .i64 (dH c w))):=by
 refine aG aD Tryz.func321 (by kernel_rfl) rfl rfl rfl rfl (λst=> ?_)
 (try apply wO pk;rfl);(repeat' first|show Cn _;constructor|apply wC pk;rfl;rfl|apply wE pk;rfl;rfl|refine aA rfl ?_ ?_<;>intro h<;>(try simp at h)<;>try omega|(refine aB ?_;refine ⟨_,_,_,rfl,zwr _,zsr _, ?_,rfl⟩;try first|rfl|(rw [dH,zn (by grind)]);done)|(apply aH;rfl;rfl;rfl;(intro _;(first|apply pX|apply (iN ⟨⟨w.dev,w.seq⟩,0⟩))<;>first|assumption|omega);rotate_left;rfl;rfl))
 have hok:withinB w.time 1 1125899906842624=true/\mayN ⟨⟨w.dev,w.seq⟩,0⟩=true:=by grind
 refine aK (X:={x:Nat×Int//x.1<=c.parts.length/\0<=x.2/\x.2<=2000/\wrF ⟨w.dev,w.seq⟩ w.time (c.parts.drop x.1) x.2=wrF ⟨w.dev,w.seq⟩ w.time c.parts 0}) (λi=>(((((((St.nil 47 st).var 3 47 (w.cells)).var 5 59 ([(PV.val (Value.int .i64 (w.dev))),(PV.val (Value.int .i64 (w.seq)))])).pv 6 ((PV.val (Value.int .i64 (i.1.2))))).pv 25 (.seq (c.parts.map Pt.cells))).pv 26 ((PV.val (Value.int .i64 ((c.parts.length:Nat)))))).pv 27 ((PV.val (Value.int .i64 ((i.1.1:Nat))))))) (λi=>c.parts.length-i.1.1) ⟨(0,0),by simp,by simp,by simp,rfl⟩ ?_ (λi=> ?_)
 ·((repeat (first|refine Sub.pv ?_ rfl|refine Sub.var ?_ rfl rfl|refine Sub.pv' ?_ rfl (by simp)));exact Sub.nil _ _ _ (zsr _) rfl)
 obtain ⟨⟨i,n⟩,hi,hn0,hn1,hinv⟩:=i
 simp only at hi hn0 hn1 hinv
 dsimp only
 have hs:=λh:i<c.parts.length=>aBC (d:=⟨w.dev,w.seq⟩) (t:=w.time) (n:=n) h
 have hb:=λh:i<c.parts.length=>mJ (hf _ (zgm h))
 have hd:=λh:i<c.parts.length=>(Dt.ext_iff (c.parts[i]'h).dot ⟨w.dev,w.seq⟩)
 by_cases him:i<c.parts.length
 ·have hs:=hs him
  have hb:=hb him
  have hd:=hd him
  (try apply wO pk;rfl);(repeat' first|show Cn _;constructor|apply wC pk;rfl;rfl|apply wE pk;rfl;rfl|refine aA rfl ?_ ?_<;>intro h<;>(try simp at h)<;>try omega|(refine aB ?_;refine ⟨_,_,_,rfl,zwr _,zsr _, ?_,rfl⟩;try first|rfl|(rw [dH,zp hok,<-hinv,hs];grind);done)|apply aO pk;(iterate 6 rfl);rotate_left;rfl;(intro hw;rfl);(intro hw;apply aI<;>omega);(intro _;rfl);rfl|((first|refine ⟨⟨(i+1,n),by simp only;omega,hn0,hn1,by rw [<-hinv,hs];grind⟩, ?_,by simp only;omega⟩|refine ⟨⟨(i+1,max n ((c.parts[i]'him).at_+1)),by simp only;omega,by simp only;omega,by simp only;omega,by rw [<-hinv,hs];grind⟩, ?_,by simp only;omega⟩);((repeat (first|refine Sub.pv ?_ rfl|refine Sub.var ?_ rfl rfl));exact Sub.nil _ _ _ (zsr _) rfl))|intros;(try simp only [zql]);omega)
 ·(try apply wO pk;rfl);(repeat' first|show Cn _;constructor|apply wC pk;rfl;rfl|refine aA rfl ?_ ?_<;>intro h<;>(try simp at h)<;>try omega|(refine aB ?_;refine ⟨_,_,_,rfl,zwr _,zsr _, ?_,rfl⟩;try first|rfl|(rw [dH,zp hok,<-hinv,List.drop_eq_nil_of_le (by omega)];rfl);done))
theorem aAD (fid:FuncId) (caps:List PV) (f:Pt->Bool) (l:List Pt) (hl:l.length<4611686018427387904) (hf:∀p,PF Tryz.prog fid ([.agg p.cells]++caps) (.val (.bool (f p)))):PF Tryz.prog 372 [.seq (l.map Pt.cells), .fn fid caps] (.val (.int .i64 (match l.findIdx? f with|some k=>((k:Nat):Int)|none=> -1))):=by
 refine aG aD Tryz.func372 (by kernel_rfl) rfl rfl rfl rfl (λst=> ?_)
 (try apply wO pk;rfl);(repeat' ((show Cn _;constructor)))
 refine aK (X:={x:Nat//x<=l.length/\∀j (h:j<x) (h2:j<l.length),f l[j]=false}) (λi=>(((((St.nil 19 st).pv 0 (.seq (l.map Pt.cells))).pv 1 (.fn fid caps)).pv 7 ((PV.val (Value.int .i64 ((((l.map Pt.cells)).length:Nat)))))).pv 8 ((PV.val (Value.int .i64 ((i.1:Nat))))))) (λi=>l.length-i.1) ⟨0,by omega,by omega⟩ ?_ (λi=> ?_)
 ·((repeat refine Sub.pv ?_ rfl);exact Sub.nil _ _ _ (zsr _) rfl)
 obtain ⟨i,hi,hinv⟩:=i
 dsimp only
 (try apply wO pk;rfl);(repeat' first|show Cn _;constructor|apply wC pk;rfl;rfl|apply wE pk;rfl;rfl|refine aA rfl ?_ ?_<;>intro h<;>(try simp at h)<;>try omega|(refine aB ?_;refine ⟨_,_,_,rfl,zwr _,zsr _, ?_,rfl⟩;try first|rfl|(first|rw [nN ‹_› ‹_› hinv];done|rw [mZ ‹_› hinv]);done)|(apply aH;rfl;rfl;rfl;(intro _;apply hf<;>first|assumption|omega);rotate_left;rfl;rfl)|apply aO pk;(iterate 6 rfl);rotate_left;rfl;(intro hw;rfl);(intro hw;apply aI<;>omega);(intro _;rfl);rfl|refine ⟨⟨i+1,by omega,λj h1 h2=>by rcases zls.1 h1 with q|q;exact hinv j q h2;subst q;assumption⟩, ?_,by simp only;omega⟩;((repeat refine Sub.pv ?_ rfl);exact Sub.nil _ _ _ (zsr _) rfl)|intros;(try simp only [zql]);omega)
def eU (c:Cl) (w:Sp) (up:Nm):Int:=if up=Nm.zero then 0 else match c.parts.findIdx? (λp=>decide (aP p=up)) with
 |none=>4
 |some k=>match c.parts[k]? with
  |none=>4
  |some p=>if bN p≠w/\jH (bN p) w=false then 14 else 0
theorem aCo (up:Nm) (p:Pt):PF Tryz.prog 373 ([.agg p.cells]++[.rp up.cells]) (.val (.bool (decide (aP p=up)))):=by
 refine aG aD Tryz.func373 (by kernel_rfl) rfl rfl rfl rfl (λst=> ?_)
 (try apply wO pk;rfl);(repeat' first|show Cn _;constructor|apply wE pk;rfl;rfl|apply wD pk [] [];kernel_rfl;rfl;rfl|(refine aB ?_;refine ⟨_,_,_,rfl,zwr _,zsr _, ?_,rfl⟩;try first|rfl|(rw [Dt.eqb,Nm.eqb]);done)|(apply aH;rfl;rfl;rfl;(intro _;apply nE<;>first|assumption|omega);rotate_left;rfl;rfl))
theorem akG (c:Cl) (w:Sp) (up:Nm) (hl:c.parts.length<1000000000000):PF Tryz.prog 322 [.agg c.cells, .agg w.cells, .agg up.cells] (.val (.int .i64 (eU c w up))):=by
 have hz:up=Nm.zero↔(up.dot.dev=0/\up.dot.seq=0)/\up.at_=0:=by rw [Nm.ext_iff,Dt.ext_iff];rfl
 have hx:=aAD _ _ (λp=>decide (aP p=up)) c.parts (by omega) (aCo up)
 cases hI:c.parts.findIdx? (λp=>decide (aP p=up)) with
 |none=>
  rw [hI] at hx
  refine aG aD Tryz.func322 (by kernel_rfl) rfl rfl rfl rfl (λst=> ?_)
  (try apply wO pk;rfl);(repeat' first|show Cn _;constructor|apply wC pk;rfl;rfl|apply wE pk;rfl;rfl|refine aA rfl ?_ ?_<;>intro h<;>(try simp at h)<;>try omega|(refine aB ?_;refine ⟨_,_,_,rfl,zwr _,zsr _, ?_,rfl⟩;try first|rfl|(first|rw [eU,zp (hz.2 h)];done|(rw [eU,zn (λq=>by have:=hz.1 q;grind),hI]));done)|(apply aH;rfl;rfl;rfl;(intro _;apply hx<;>first|assumption|omega);rotate_left;rfl;rfl)|apply bE 5;rfl;rfl)
 |some k=>
  rw [hI] at hx
  obtain ⟨hk,hk1,hk2⟩:=List.findIdx?_eq_some_iff_getElem.1 hI
  have hS:=Sp.ext_iff (bN c.parts[k]) w
  have hbe:up≠Nm.zero->eU c w up=if bN c.parts[k]≠w/\jH (bN c.parts[k]) w=false then 14 else 0:=λh=>by
   rw [eU,zn h,hI];simp only [zgg hk]
  refine aG aD Tryz.func322 (by kernel_rfl) rfl rfl rfl rfl (λst=> ?_)
  (try apply wO pk;rfl);(repeat' first|show Cn _;constructor|apply wC pk;rfl;rfl|apply wE pk;rfl;rfl|refine aA rfl ?_ ?_<;>intro h<;>(try simp at h)<;>try omega|(refine aB ?_;refine ⟨_,_,_,rfl,zwr _,zsr _, ?_,rfl⟩;try first|rfl|(first|rw [eU,zp (hz.2 h)];done|(rw [hbe (λq=>by have:=hz.1 q;grind)];grind));done)|(apply aH;rfl;rfl;rfl;(intro _;(first|apply hx|apply (kT (c.parts[k]'hk))|apply (mD (bN (c.parts[k]'hk)) w))<;>first|assumption|omega);rotate_left;rfl;rfl)|apply aO pk;(iterate 6 rfl);rotate_left;rfl;(intro hw;rfl);(intro hw;apply aI<;>omega);(intro _;rfl);rfl|apply bE 5;rfl;rfl)
def tyF (w:Sp):List UInt8->Int->Nm->List Pt
 |[],_,_=>[]
 |b::r,n,up=>⟨⟨1,(b.toNat:Int),e0⟩,⟨w.dev,w.seq⟩,n,w.time,up.dot,up.at_,false⟩::tyF w r (n+1) ⟨⟨w.dev,w.seq⟩,n⟩
def typeP (c:Cl) (s:ByteArray) (w:Sp) (up:Nm):Cl×Int:=
 if rightP c≠0 then (Cl.zero,rightP c)
 else if dH c w<0 then (Cl.zero,1)
 else if 200<s.size\/2000<c.parts.length+s.size\/2000<dH c w+s.size then (Cl.zero,2)
 else if eU c w up≠0 then (Cl.zero,eU c w up)
 else ({c with parts:=dJ (c.parts++tyF w s.data.toList (dH c w) up)},0)
theorem yK {d:Dt} {t:Int}:∀{l:List Pt} {n:Int},(∀p∈l,bZ p=true)->0<=n->n<=2000-> -1<=wrF d t l n/\wrF d t l n<=2000
 |[],n,_,h1,h2=>by simp only [wrF];omega
 |p::r,n,hf,h1,h2=>by
  have hp:=mJ (hf p (by simp))
  have hr:∀q∈r,bZ q=true:=λq hq=>hf q (by simp [hq])
  simp only [wrF]
  split
  ·exact yK hr h1 h2
  ·split
   ·omega
   ·exact yK hr (by omega) (by omega)
theorem agD {c:Cl} {w:Sp} (hf:∀p∈c.parts,bZ p=true): -1<=dH c w/\dH c w<=2000:=by
 unfold dH
 split
 ·exact yK hf (by omega) (by omega)
 ·omega
def upI (w:Sp) (n:Int) (up:Nm) (i:Nat):Nm:=if i=0 then up else ⟨⟨w.dev,w.seq⟩,n+i-1⟩
def tyE (w:Sp) (n:Int) (up:Nm) (i:Nat) (b:UInt8):Pt:=⟨⟨1,(b.toNat:Int),e0⟩,⟨w.dev,w.seq⟩,n+i,w.time,(upI w n up i).dot,(upI w n up i).at_,false⟩
theorem atI (w:Sp):∀(bs:List UInt8) (n:Int) (up:Nm) (i:Nat) (b:UInt8),bs[i]?=some b->(tyF w bs n up)[i]?=some (tyE w n up i b)
 |[],_,_,_,_,h=>by simp at h
 |c::bs,n,up,0,b,h=>by
  simp at h;subst h
  simp [tyF,upI,tyE]
 |c::bs,n,up,i+1,b,h=>by
  rw [List.getElem?_cons_succ] at h
  have:=atI w bs (n+1) ⟨⟨w.dev,w.seq⟩,n⟩ i b h
  rw [tyF,List.getElem?_cons_succ,this]
  have e:upI w (n+1) ⟨⟨w.dev,w.seq⟩,n⟩ i=upI w n up (i+1):=by
   unfold upI
   by_cases hi:i=0
   ·subst hi;simp
   ·rw [zn hi,zn (by omega)];congr 1;omega
  rw [tyE,tyE,e];congr 2;omega
theorem yG (w:Sp):∀(bs:List UInt8) (n:Int) (up:Nm),(tyF w bs n up).length=bs.length
 |[],_,_=>rfl
 |c::bs,n,up=>by rw [tyF,zlc,yG w bs];rfl
theorem aFC (w:Sp) (n:Int) (up:Nm) (i:Nat) (b:UInt8):PF Tryz.prog 282 [.agg [(.val (.int .i64 1)),(.val (.int .i64 ((b.toNat:Int)))),(.val (.string e0)),(.val (.int .i64 w.dev)),(.val (.int .i64 w.seq)),(.val (.int .i64 (n+i))),(.val (.int .i64 w.time)),(.val (.int .i64 ((upI w n up i).dot.dev))),(.val (.int .i64 ((upI w n up i).dot.seq))),(.val (.int .i64 ((upI w n up i).at_))),(.val (.bool false))]] (.agg [(.val (.int .i64 w.dev)),(.val (.int .i64 w.seq)),(.val (.int .i64 (n+i)))]):=nE (tyE w n up i b)
theorem type_spec (c:Cl) (s:ByteArray) (w:Sp) (d:Dt) (at_:Int) (hl:c.parts.length<1000000000000) (hs:s.size<1000000):PF Tryz.prog 250 [.agg c.cells,(.val (.string s)), .agg w.cells, .agg d.cells,(.val (.int .i64 at_))] (.tup [.agg (typeP c s w ⟨d,at_⟩).1.cells,(.val (.int .i64 ((typeP c s w ⟨d,at_⟩).2)))]):=by
 intro st
 by_cases hr:rightP c=0
 ·have hW:=(jK hr).2.2.1
  have hwr:=agD (c:=c) (w:=w) hW.formed
  have hr0:=hr
  obtain ⟨tyL,htl⟩:∃t,tyF w s.data.toList (dH c w) ⟨d,at_⟩=t:=⟨_,rfl⟩
  have hty0:tyL.length=s.size:=by rw [<-htl,yG];rfl
  refine cE aD Tryz.func250 (by kernel_rfl) rfl rfl rfl rfl ?_
  (try apply wO pk;rfl);(repeat' first|show Cn _;constructor|apply wC pk;rfl;rfl|apply wE pk;rfl;rfl|refine aA rfl ?_ ?_<;>intro h<;>(try simp at h)<;>try omega|(refine aB ?_;first|refine ⟨_,_,_,rfl,zwr _,zsr _, ?_,rfl⟩;(fail)|refine ⟨_,_,_,rfl,zwr _,aL ‹_›, ?_,rfl⟩;(fail)|(refine ⟨_,_,_,rfl,zwf _,zsr _, ?_,rfl⟩;(((first|have e:typeP c s w ⟨d,at_⟩=(Cl.zero,1):=(by unfold typeP;grind);rw [e];rfl|have e:typeP c s w ⟨d,at_⟩=(Cl.zero,2):=(by unfold typeP;grind);rw [e];rfl|have e:typeP c s w ⟨d,at_⟩=(Cl.zero,eU c w ⟨d,at_⟩):=(by unfold typeP;grind);rw [e];rfl);done)))|refine ⟨_,_,_,rfl,zwf _,aL ‹_›, ?_,rfl⟩;(fail)|(refine ⟨_,_,_,rfl,zwr _,zsr _, ?_,rfl⟩)|(refine ⟨_,_,_,rfl,zwf _,aL ‹_›, ?_,rfl⟩))|(apply aH;rfl;rfl;rfl;(intro _;(first|apply (right_spec c (by omega))|apply (aiY c w hl hW.formed)|apply (akG c w ⟨d,at_⟩ hl))<;>first|assumption|omega);rotate_left;rfl;rfl)|(apply cG;rfl;rfl;(apply (vE c.parts _ hl)<;>first|exact aC _ _ _|assumption|omega|(fail));rfl;rfl;rfl;intro _ st' hR;obtain ⟨id,rfl,hid,rfl⟩:=hR)|intros;(try simp only [zql]);omega)
  ·have hid:st id=none:=hid
   refine aK (X:={x:Nat×Nat//x.1<=s.size/\st x.2=none}) (λi=>((((((((((St.nil 103 (upd st i.1.2 (some (.arr 190 ((c.parts++tyL.take i.1.1).map Pt.cells))))).pv 1 ((PV.val (Value.string (s))))).var 5 80 (c.cells)).var 7 47 (w.cells)).var 10 80 ([(PV.val (Value.int .i64 (0))),(PV.val (Value.int .i64 (0))),(PV.val (Value.int .i64 (0))),(PV.val (Value.string (e0))), .val (.slice none 0 0)])).pv 13 ((PV.val (Value.int .i64 (dH c w))))).var 14 351 ([(PV.val (Value.int .i64 ((upI w (dH c w) ⟨d,at_⟩ i.1.1).dot.dev))),(PV.val (Value.int .i64 ((upI w (dH c w) ⟨d,at_⟩ i.1.1).dot.seq))),(PV.val (Value.int .i64 ((upI w (dH c w) ⟨d,at_⟩ i.1.1).at_)))])).pv 16 (.vec i.1.2 11 0 (c.parts.length+i.1.1))).pv 68 ((PV.val (Value.int .i64 ((s.size:Nat)))))).pv 69 ((PV.val (Value.int .i64 ((i.1.1:Nat))))))) (λi=>s.size-i.1.1) ⟨(0,id),by simp,hid⟩ ?_ (λi=> ?_)
   ·dsimp only
    rw [List.take_zero,List.append_nil]
    (((repeat (first|refine Sub.pv ?_ rfl|refine Sub.var ?_ rfl rfl));(exact Sub.nil _ _ _ (zsr _) rfl)))
   obtain ⟨⟨i,id⟩,hi,hid⟩:=i
   simp only at hi hid
   dsimp only
   have hlen:(c.parts++tyL.take i).length=c.parts.length+i:=by rw [zla,zlt];omega
   have hlen2:((c.parts++tyL.take i).map Pt.cells).length=c.parts.length+i:=by rw [zql,hlen]
   by_cases him:i<s.size
   ·have hb:s[i]?=some s[i]:=getElem?_pos s i him
    have hp:=atI w s.data.toList (dH c w) ⟨d,at_⟩ i s[i] (by rw [<-hb];simp [him];rfl)
    rw [htl] at hp
    have hsplit:tyL.take (i+1)=tyL.take i++[tyE w (dH c w) ⟨d,at_⟩ i s[i]]:=by rw [List.take_add_one,hp];rfl
    (try apply wO pk;rfl);(repeat' first|show Cn _;constructor|apply wC pk;rfl;rfl|apply wE pk;rfl;rfl|apply wDx pk;rfl;kernel_rfl;rfl;rfl|refine aA rfl ?_ ?_<;>intro h<;>(try simp at h)<;>try omega|(apply aH;rfl;rfl;rfl;(intro _;apply (aFC w (dH c w) ⟨d,at_⟩ i s[i])<;>first|assumption|omega);rotate_left;rfl;rfl)|(apply apV pk (f:=Pt.cells) [tyE w (dH c w) ⟨d,at_⟩ i s[i]] 96;(iterate 9 rfl);(exact aC _ _ _);(omega);exact λ_=>rfl;exact λ_=>rfl;exact zI;((focus (simp;omega)));((focus (simp;omega)));rfl;intro id' hid')|apply cvA pk.htt;(iterate 5 rfl);(refine ⟨?_, ?_⟩<;>(first|omega|have q:=(s[i]'him).toNat_lt;omega));rfl|apply sxA pk.htt i s[i];(iterate 6 rfl);exact hb;rfl|(refine ⟨⟨(i+1,id'),by simp only;omega,iG hid'⟩, ?_,by simp only;omega⟩;((dsimp only;rw [hsplit,<-List.append_assoc]));(((repeat (first|refine Sub.pv ?_ rfl|refine Sub.var ?_ rfl rfl|refine Sub.var' ?_ rfl rfl (by (first|rfl|(focus (simp [upI];omega))))));(exact Sub.nil _ _ _ (cW ‹_›) rfl))))|intros;(try simp only [zql]);omega)
   ·have hfin:tyL.take i=tyL:=ztl (by omega)
    rw [hfin]
    have hty:typeP c s w ⟨d,at_⟩=({c with parts:=dJ (c.parts++tyL)},0):=by
     unfold typeP;rw [zn (by omega),zn (by omega),zn (by omega),zn (by omega),<-htl]
    (try apply wO pk;rfl);(repeat' first|refine aB ?_;refine ⟨_,_,st,rfl,zwr _,bR (bR (zsr _) hid) hid, ?_,rfl⟩;rw [hty];rfl|show Cn _;constructor|apply wC pk;rfl;rfl|apply wE pk;rfl;rfl|refine aA rfl ?_ ?_<;>intro h<;>(try simp at h)<;>try omega|(apply aH;rfl;rfl;rfl;(intro _;apply (abU (c.parts++tyL) (by rw [hfin] at hlen;omega))<;>first|assumption|omega);rotate_left;rfl;rfl)|apply aEd 99;rfl;exact aC _ _ _;(rw [hfin] at hlen2;exact hlen2);exact aoK)
 ·refine cE aD Tryz.func250 (by kernel_rfl) rfl rfl rfl rfl ?_
  (try apply wO pk;rfl);(repeat' first|show Cn _;constructor|apply wC pk;rfl;rfl|apply wE pk;rfl;rfl|refine aA rfl ?_ ?_<;>intro h<;>(try simp at h)<;>try omega|(refine aB ?_;first|refine ⟨_,_,_,rfl,zwr _,zsr _, ?_,rfl⟩;(fail)|refine ⟨_,_,_,rfl,zwr _,aL ‹_›, ?_,rfl⟩;(fail)|refine ⟨_,_,_,rfl,zwf _,zsr _, ?_,rfl⟩;(((have e:typeP c s w ⟨d,at_⟩=(Cl.zero,rightP c):=(by unfold typeP;rw [zp hr]);rw [e];rfl);done))|refine ⟨_,_,_,rfl,zwf _,aL ‹_›, ?_,rfl⟩;(fail)|(refine ⟨_,_,_,rfl,zwr _,zsr _, ?_,rfl⟩)|(refine ⟨_,_,_,rfl,zwf _,aL ‹_›, ?_,rfl⟩))|(apply aH;rfl;rfl;rfl;(intro _;apply (right_spec c (by omega))<;>first|assumption|omega);rotate_left;rfl;rfl))
end Go.Proofs.YtloecjjehapblaaGreatDoor.T
