import Derived.Test.YtppdefkgmegipaaGreatDoorClAo
import Derived.Test.YtppdefkgmegipaaGreatDoorAbsK
import Derived.Test.YtppdefkgmegipaaGreatDoorAbsL
set_option linter.unusedSimpArgs false
set_option linter.unusedVariables false
namespace Go.Proofs.YtppdefkgmegipaaGreatDoor
open Go Go.Abs
section
attribute [local irreducible] Ev PWp
set_option maxRecDepth 10000
set_option maxHeartbeats 4000000
theorem cQ (s:Sc) (q:Qu) (hc:∀t∈s,t.cols.length<=1000):PF Tryz.prog 72 [.agg (scC s), .agg q.cells] (.tup [.seq ((dC s q).1.map I1),(vi ((dC s q).2))]):=λst=>
 eZ (sz:=1) (avZ s q hc st) λp st' h=>by
  rcases h with ⟨id,rfl,h2,h3,rfl⟩|⟨rfl,h2,h3⟩
  ·rw [h2]
   exact .inl ⟨id,3,(dC s q).1.map I1,_,st,aA _ _ _,atJ, .tup (.cons (eH (by simp)) (.cons .refl .nil)),cY h3,rfl,rfl⟩
  ·rw [h2]
   exact .inr ⟨_,st,Wk.tup (.cons Wk.nil (.cons (zwr _) .nil)),h3,rfl,rfl⟩
def rF (K:List Int) (e:X.Ex):Int:=if (X.TypeR e K).2≠0 then (X.TypeR e K).2 else if (X.TypeR e K).1=2 then 6 else 0
def afM (K:List Int) (o:Ou):Int:=if o.agg<0\/o.agg>4 then 1 else if (X.TypeR o.of K).2≠0 then (X.TypeR o.of K).2 else if (X.TypeR o.of K).1=2/\o.agg=2 then 6 else 0
def auW (m:Nat) (n:Int):Int:=if max n (-1-n)>=m then 1 else 0
def abP (q:Qu):Prop:=q.outs.length<1\/q.where_.length>16\/q.group.length>16\/q.outs.length>16\/q.order.length>16
instance (q :Qu):Decidable (abP q):=by unfold abP;exact inferInstance
def fB (s:Sc) (q:Qu):Int:=if (dC s q).2≠0 then (dC s q).2 else if abP q then 2 else if nU (rF (dC s q).1) q.where_≠0 then nU (rF (dC s q).1) q.where_ else if nU (afM (dC s q).1) q.outs≠0 then nU (afM (dC s q).1) q.outs else nU (auW q.outs.length) q.order
theorem avW (q:Qu) (hl:q.outs.length<4611686018427387904) (hg:nD q=false) (o:Ou) (hok:o.of.ok) (K:List Int) (hK:K.length<2^62):PF Tryz.prog 74 [.agg q.cells, .agg o.cells, .seq (K.map I1)] (vi (afM K o)):=by
 have hgs:=pU q hl
 rw [hg] at hgs
 have hT:=X.Type_spec hok hK
 unfold X.irows at hT
 unfold afM
 generalize X.TypeR o.of K=R at*
 obtain ⟨a,⟨k,n,v,of⟩⟩:=o
 simp only at hT
 dsimp only
 by_cases h1:a<0\/a>4
 ·rw [zp h1]
  refine pF Tryz.func74 rfl (λst=> ?_)
  (repeat' first|(show Cn (.r _ _ _);refine .any ⟨_,_,_,rfl,zwr _,zsr _, ?_,rfl⟩;try rfl)|apply wZ;rfl|show Cn _;constructor|exact rfl|apply KR.mk;kernel_rfl|omega|intros;omega|simp only [zql];omega|intros;simp only [zql];omega|intros;simp only;omega|exfalso;omega|intro h;omega|intro h;simp at h;done|intro h;simp at h;omega|(intro h;simp at h)|intro h)
 rw [zn h1]
 by_cases h2:R.2≠0
 ·rw [zp h2]
  refine pF Tryz.func74 rfl (λst=> ?_)
  (repeat' first|(show Cn (.r _ _ _);refine .any ⟨_,_,_,rfl,zwr _,zsr _, ?_,rfl⟩;try rfl)|apply wZ;rfl|show Cn _;constructor|exact rfl|apply KR.mk;kernel_rfl|(apply hT<;>(first|assumption|omega))|apply wY;rfl|omega|intros;omega|simp only [zql];omega|intros;simp only [zql];omega|intros;simp only;omega|exfalso;omega|intro h;omega|intro h;simp at h;done|intro h;simp at h;omega|(intro h;simp at h)|intro h)
 rw [zn h2]
 by_cases h3:R.1=2/\a=2
 ·rw [zp h3]
  refine pF Tryz.func74 rfl (λst=> ?_)
  (repeat' first|(show Cn (.r _ _ _);refine .any ⟨_,_,_,rfl,zwr _,zsr _, ?_,rfl⟩;try rfl)|apply wZ;rfl|show Cn _;constructor|exact rfl|apply KR.mk;kernel_rfl|(apply hT<;>(first|assumption|omega))|apply wY;rfl|omega|intros;omega|simp only [zql];omega|intros;simp only [zql];omega|intros;simp only;omega|exfalso;omega|intro h;omega|intro h;simp at h;done|intro h;simp at h;omega|(intro h;simp at h)|intro h)
 rw [zn h3]
 refine pF Tryz.func74 rfl (λst=> ?_)
 (repeat' first|(apply cW;focus (intro _;(apply (show PF Tryz.prog 120 [_,_] (vb (true)) from by rename_i hh;exfalso;simp [gw] at hh;done)<;>(first|assumption|omega));done))|(show Cn (.r _ _ _);refine .any ⟨_,_,_,rfl,zwr _,zsr _, ?_,rfl⟩;try rfl)|apply wZ;rfl|show Cn _;constructor|exact rfl|apply KR.mk;kernel_rfl|((first|apply hT|apply hgs)<;>(first|assumption|omega))|apply aQ 4;rfl;rfl|apply wY;rfl|omega|intros;omega|simp only [zql];omega|intros;simp only [zql];omega|intros;simp only;omega|exfalso;omega|intro h;omega|intro h;simp at h;done|intro h;simp at h;omega|(intro h;simp at h)|intro h)
section
variable {P:Program} {l:List Oper} {d:Md} {r:List Oper} {s:St} {K:St->Prop} {t:Nat} {ty:TypeId} {pos:String} {after:Array Edge} {gd:Option (Nat×Bool)}
theorem mx4 {w:Bool} {x y z u:Operand} {ts:Array TypeId} {a b c e:Int} (hw:bF l ⟨some t, .call ⟨.builtin .max, #[x,y,z,u],ts⟩,ty,pos,after,gd⟩ s=some w) (hx:opd s x=some (vi a)) (hy:opd s y=some (vi b)) (hz:opd s z=some (vi c)) (hu:opd s u=some (vi e))
  (hf:All (flagsI s w [x,y,z,u] [])) (hd:Nat.blt t s.n=true) (ht:cI d l r=true) (k:Ev P l d r (s.put (some t) w (.pv (vi (max (max (max a b) c) e)))) K):Ev P l d (⟨some t, .call ⟨.builtin .max, #[x,y,z,u],ts⟩,ty,pos,after,gd⟩::r) s K:=
 cN hw (λ_ st'=>aM λw g ρ hm hρ=>by
  have r1:=aK (hρ x (by simp [Op.operands,Call.operands]) _ hx)
  have r2:=aK (hρ y (by simp [Op.operands,Call.operands]) _ hy)
  have r3:=aK (hρ z (by simp [Op.operands,Call.operands]) _ hz)
  have r4:=aK (hρ u (by simp [Op.operands,Call.operands]) _ hu)
  refine ⟨.int .i64 (max (max (max a b) c) e),bO rfl ?_,by simp [Rep]⟩
  simp only [List.map_toArray,zmp,List.map_nil,builtin,Builtin.max_,r1,r2,r3,r4]
  simp [Builtin.max2]
  omega) (λz hz=>aR (λ_ _ _ e=>by cases e) hz) (flagsI.g hf).1 hd ht k
end
theorem aaV {α:Type} {f:α->Int} {l:List α} {i:Nat} (h:i<l.length) (hI:∀j (h:j<l.length),j<i->f l[j]=0) (h0:f l[i]=0):∀j (h:j<l.length),j<i+1->f l[j]=0:=λj hj hji=>by
 rcases zls.1 hji with q|q
 ·exact hI j hj q
 ·subst q;exact h0
theorem uU {α:Type} {f:α->Int} {l:List α} {i:Nat} (h:l.length<=i) (hI:∀j (h:j<l.length),j<i->f l[j]=0):nU f l=0:=aaJ.2 λx hx=>by
 obtain ⟨j,hj,rfl⟩:=zgo hx
 exact hI j hj (by omega)
structure QuS (q:Qu):Prop where
 joins:q.joins.length<4611686018427387904
 wl:q.where_.length<4611686018427387904
 gl:q.group.length<4611686018427387904
 ol:q.outs.length<4611686018427387904
 rl:q.order.length<4611686018427387904
 wok:∀e∈q.where_,e.ok
 ook:∀o∈q.outs,o.of.ok
 rng:∀n∈q.order, -9223372036854775808<=n/\n<=9223372036854775807
theorem right_spec (s:Sc) (q:Qu) (hc:∀t∈s,t.cols.length<=1000) (hS:QuS q) (hg:nD q=false):PF Tryz.prog 45 [.agg (scC s), .agg q.cells] (vi (fB s q)):=by
 have hk:=cQ s q hc
 have hwm:(q.where_.map X.Ex.cells).length=q.where_.length:=zql _
 have hgm:(q.group.map X.Ex.cells).length=q.group.length:=zql _
 have hom:(q.outs.map Ou.cells).length=q.outs.length:=zql _
 have hrm:(q.order.map I1).length=q.order.length:=zql _
 have hg0:q.group.length=0:=by
  unfold nD at hg
  rw [Bool.or_eq_false_iff] at hg
  have:=hg.1
  simpa using this
 have hgn:q.group=[]:=List.eq_nil_of_length_eq_zero hg0
 have hKl:(dC s q).1.length<2^62:=by
  unfold dC
  cases hT:jI s q.table with
  |none=>simp
  |some out=>
   have h1:=iD hc hT
   dsimp only
   split
   ·simp
   ·rename_i h4
    have key:∀(l:List Jn) (o:List Int),(nK s l o).1.length<=o.length+1000*l.length:=λl=>by
     induction l with
     |nil=>intro o;simp [nK]
     |cons j l ih=>
      intro o
      unfold nK
      cases hm:jI s j.table with
      |none=>simp
      |some more=>
       have:=iD hc hm
       dsimp only
       split
       ·simp
       ·split
        ·simp
        ·have:=ih (o++more)
         rw [zla] at this
         rw [zlc]
         omega
    have:=key q.joins out
    omega
 have hwl:=hS.wl
 have hol:=hS.ol
 have hrl:=hS.rl
 unfold fB
 have hoS:=λo (ho:o∈q.outs)=>avW q hol hg o (hS.ook o ho) (dC s q).1 hKl
 have hTy:=λe (he:e∈q.where_)=>X.Type_spec (hS.wok e he) hKl
 unfold X.irows at hTy
 generalize hKK:dC s q=KK at*
 by_cases h1:KK.2≠0
 ·rw [zp h1]
  refine pF Tryz.func45 rfl (λst=> ?_)
  (repeat' first|(show Cn (.r _ _ _);refine .any ⟨_,_,_,rfl,zwr _,zsr _, ?_,rfl⟩;try rfl)|apply wZ;rfl|show Cn _;constructor|exact rfl|apply KR.mk;kernel_rfl|(apply hk<;>(first|assumption|omega))|apply wY;rfl|omega|intros;omega|simp only [zql];omega|intros;simp only [zql];omega|intros;simp only;omega|exfalso;omega|intro h;omega|intro h;simp at h;done|intro h;simp at h;omega|(intro h;simp at h)|intro h)
 rw [zn h1]
 have h1':KK.2=0:=zdn h1
 by_cases h2:abP q
 ·rw [zp h2]
  unfold abP at h2
  refine pF Tryz.func45 rfl (λst=> ?_)
  (repeat' first|(show Cn (.r _ _ _);refine .any ⟨_,_,_,rfl,zwr _,zsr _, ?_,rfl⟩;try rfl)|apply wZ;rfl|show Cn _;constructor|exact rfl|apply KR.mk;kernel_rfl|(apply hk<;>(first|assumption|omega))|apply mx4;(iterate 5 rfl);rotate_left;rfl;rfl|apply wY;rfl|omega|intros;omega|simp only [zql];omega|intros;simp only [zql];omega|intros;simp only;omega|exfalso;omega|intro h;omega|intro h;simp at h;done|intro h;simp at h;omega|(intro h;simp at h)|intro h)
 rw [zn h2]
 have h2':=h2
 unfold abP at h2'
 generalize hW:nU (rF KK.1) q.where_=WW
 generalize hO:nU (afM KK.1) q.outs=OO
 generalize hR:nU (auW q.outs.length) q.order=RR
 refine pF Tryz.func45 rfl (λst=> ?_)
 focus ((repeat' first|(show Cn (.r _ _ _);refine .any ⟨_,_,_,rfl,zwr _,zsr _, ?_,rfl⟩;try rfl)|apply wZ;rfl|show Cn _;constructor|exact rfl|apply KR.mk;kernel_rfl|(apply hk<;>(first|assumption|omega))|apply mx4;(iterate 5 rfl);rotate_left;rfl;rfl|apply wY;rfl|omega|intros;omega|simp only [zql];omega|intros;simp only [zql];omega|intros;simp only;omega|exfalso;omega|intro h;omega|intro h;simp at h;done|intro h;simp at h;omega|(intro h;simp at h)|intro h))
 refine aG (X:={x:Nat//x<=q.where_.length/\∀j (h:j<q.where_.length),j<x->rF KK.1 q.where_[j]=0}) (λi=>((((((St.nil 118 st).var 3 33 (q.cells)).pv 5 (.seq (KK.1.map I1))).pv 52 (.seq (q.where_.map X.Ex.cells))).pv 53 ((vi (((q.where_.map X.Ex.cells).length:Nat))))).pv 54 ((vi ((i.1:Nat)))))) (λi=>q.where_.length-i.1) ⟨0,by omega,by omega⟩ ?_ (λi=> ?_)
 ·(repeat' first|show Cn _;constructor|exact rfl)
 obtain ⟨i,hi,hI⟩:=i
 dsimp only
 by_cases hend:q.where_.length<=i
 ·have hW0:WW=0:=hW▸uU hend hI
  rw [zn (λh=>h hW0)]
  focus ((repeat' first|(show Cn (.r _ _ _);refine .any ⟨_,_,_,rfl,zwr _,zsr _, ?_,rfl⟩;try rfl)|apply wZ;rfl|show Cn _;constructor|exact rfl|apply KR.mk;kernel_rfl|omega|intros;omega|simp only [zql];omega|intros;simp only [zql];omega|intros;simp only;omega|intro h;omega|intro h;simp at h;done|intro h;simp at h;omega|(intro h;simp at h)|intro h))
  refine aG (X:={x:Nat//x<=0}) (λi=>((((((St.nil 118 st).var 3 33 (q.cells)).pv 5 (.seq (KK.1.map I1))).pv 71 (.seq (q.group.map X.Ex.cells))).pv 72 ((vi (((q.group.map X.Ex.cells).length:Nat))))).pv 73 ((vi ((i.1:Nat)))))) (λi=>0-i.1) ⟨0,by omega⟩ ?_ (λi=> ?_)
  ·(repeat' first|show Cn _;constructor|exact rfl)
  obtain ⟨i,hi⟩:=i
  obtain rfl:i=0:=by omega
  dsimp only
  focus ((repeat' first|(show Cn (.r _ _ _);refine .any ⟨_,_,_,rfl,zwr _,zsr _, ?_,rfl⟩;try rfl)|apply wZ;rfl|show Cn _;constructor|exact rfl|apply KR.mk;kernel_rfl|omega|intros;omega|simp only [zql];omega|intros;simp only [zql];omega|intros;simp only;omega|exfalso;omega|intro h;omega|intro h;simp at h;done|intro h;simp at h;omega|(intro h;simp at h)|intro h))
  refine aG (X:={x:Nat//x<=q.outs.length/\∀j (h:j<q.outs.length),j<x->afM KK.1 q.outs[j]=0}) (λi=>((((((St.nil 118 st).var 3 33 (q.cells)).pv 5 (.seq (KK.1.map I1))).pv 88 (.seq (q.outs.map Ou.cells))).pv 89 ((vi (((q.outs.map Ou.cells).length:Nat))))).pv 90 ((vi ((i.1:Nat)))))) (λi=>q.outs.length-i.1) ⟨0,by omega,by omega⟩ ?_ (λi=> ?_)
  ·(repeat' first|show Cn _;constructor|exact rfl)
  clear hi hI hend
  obtain ⟨i,hi,hI⟩:=i
  dsimp only
  by_cases hend:q.outs.length<=i
  ·have hO0:OO=0:=hO▸uU hend hI
   rw [zn (λh=>h hO0)]
   focus ((repeat' first|(show Cn (.r _ _ _);refine .any ⟨_,_,_,rfl,zwr _,zsr _, ?_,rfl⟩;try rfl)|apply wZ;rfl|show Cn _;constructor|exact rfl|apply KR.mk;kernel_rfl|omega|intros;omega|simp only [zql];omega|intros;simp only [zql];omega|intros;simp only;omega|intro h;omega|intro h;simp at h;done|intro h;simp at h;omega|(intro h;simp at h)|intro h))
   refine aG (X:={x:Nat//x<=q.order.length/\∀j (h:j<q.order.length),j<x->auW q.outs.length q.order[j]=0}) (λi=>(((((St.nil 118 st).var 3 33 (q.cells)).pv 103 (.seq (q.order.map I1))).pv 104 ((vi (((q.order.map I1).length:Nat))))).pv 105 ((vi ((i.1:Nat)))))) (λi=>q.order.length-i.1) ⟨0,by omega,by omega⟩ ?_ (λi=> ?_)
   ·(repeat' first|show Cn _;constructor|exact rfl)
   clear hi hI hend
   obtain ⟨i,hi,hI⟩:=i
   dsimp only
   by_cases hend:q.order.length<=i
   ·have hR0:RR=0:=hR▸uU hend hI
    (repeat' first|(show Cn (.r _ _ _);refine .any ⟨_,_,_,rfl,zwr _,zsr _, ?_,rfl⟩;try first|rfl|(rw [hR0]);done)|apply wZ;rfl|show Cn _;constructor|exact rfl|apply KR.mk;kernel_rfl|show (_:PV)=_;(rw [hR0]);done|omega|intros;omega|simp only [zql];omega|intros;simp only [zql];omega|intros;simp only;omega|intro h;omega|intro h;simp at h;done|intro h;simp at h;omega|(intro h;simp at h)|intro h)
   have hil:i<q.order.length:=by omega
   have hrg:=hS.rng _ (zgm hil)
   by_cases hb:max q.order[i] (-1-q.order[i])>=q.outs.length
   ·have hv:auW q.outs.length q.order[i]=1:=zp hb
    have hR1:RR=1:=by rw [<-hR,tX hil (λj hj=>hI j _ hj) (by rw [hv];decide),hv]
    (repeat' first|(show Cn (.r _ _ _);refine .any ⟨_,_,_,rfl,zwr _,zsr _, ?_,rfl⟩;try first|rfl|(rw [hR1]);done)|apply wZ;rfl|show Cn _;constructor|exact rfl|apply KR.mk;kernel_rfl|show (_:PV)=_;(rw [hR1]);done|apply wI;rfl|apply gE;omega|apply gE;show 0<_;omega|apply gE;show 1<_;omega|omega|intros;omega|simp only [zql];omega|intros;simp only [zql];omega|intros;simp only;omega|exfalso;omega|intro h;omega|intro h;simp at h;done|intro h;simp at h;omega|(intro h;simp at h)|intro h)
   ·have hup:=aaV hil hI (zn hb)
    (repeat' first|(show Cn (.r _ _ _);refine .any ⟨_,_,_,rfl,zwr _,zsr _, ?_,rfl⟩;try rfl)|(refine ⟨⟨i+1,hil,hup⟩, ?_, ?_⟩)|apply wZ;rfl|show Cn _;constructor|exact rfl|apply KR.mk;kernel_rfl|apply wI;rfl|apply gE;omega|apply gE;show 0<_;omega|apply gE;show 1<_;omega|omega|intros;omega|simp only [zql];omega|intros;simp only [zql];omega|intros;simp only;omega|exfalso;omega|intro h;omega|intro h;simp at h;done|intro h;simp at h;omega|(intro h;simp at h)|intro h)
  have hil:i<q.outs.length:=by omega
  have hos:=hoS _ (zgm hil)
  have hrow:=abI hil
  have hup:=aaV hil hI
  have hat:=tX (f:=afM KK.1) hil (λj hj=>hI j _ hj)
  rw [hO] at hat
  generalize afM KK.1 q.outs[i]=V at*
  generalize q.outs[i]=o at hos hrow
  obtain ⟨a,⟨k,n,v,of⟩⟩:=o
  by_cases hb:V=0
  ·subst hb
   have hup:=hup rfl
   (repeat' first|(show Cn (.r _ _ _);refine .any ⟨_,_,_,rfl,zwr _,zsr _, ?_,rfl⟩;try rfl)|(refine ⟨⟨i+1,hil,hup⟩, ?_, ?_⟩)|apply wZ;rfl|show Cn _;constructor|exact rfl|apply KR.mk;kernel_rfl|apply bX pk;(iterate 6 rfl);rotate_left;rfl;(intro hw;rfl);(intro hw;apply hrow<;>omega);(intro _;rfl);rfl|(apply hos<;>(first|assumption|omega))|apply wY;rfl|apply wI;rfl|apply gE;omega|apply gE;show 0<_;omega|apply gE;show 1<_;omega|omega|intros;omega|simp only [zql];omega|intros;simp only [zql];omega|intros;simp only;omega|intro h;omega|intro h;simp at h;done|intro h;simp at h;omega|(intro h;simp at h)|intro h)
  ·have hat:=hat hb
   subst hat
   rw [zp hb]
   (repeat' first|(show Cn (.r _ _ _);refine .any ⟨_,_,_,rfl,zwr _,zsr _, ?_,rfl⟩;try rfl)|apply wZ;rfl|show Cn _;constructor|exact rfl|apply KR.mk;kernel_rfl|apply bX pk;(iterate 6 rfl);rotate_left;rfl;(intro hw;rfl);(intro hw;apply hrow<;>omega);(intro _;rfl);rfl|(apply hos<;>(first|assumption|omega))|apply wY;rfl|apply wI;rfl|apply gE;omega|apply gE;show 0<_;omega|apply gE;show 1<_;omega|omega|intros;omega|simp only [zql];omega|intros;simp only [zql];omega|intros;simp only;omega|intro h;omega|intro h;simp at h;done|intro h;simp at h;omega|(intro h;simp at h)|intro h)
 have hil:i<q.where_.length:=by omega
 have hty:=hTy _ (zgm hil)
 have hrow:=arG hil
 have hup:=aaV hil hI
 have hat:=tX (f:=rF KK.1) hil (λj hj=>hI j _ hj)
 rw [hW] at hat
 unfold rF at hup hat
 generalize X.TypeR q.where_[i] KK.1=V at*
 generalize q.where_[i]=e at hty hrow
 obtain ⟨k,n,v,of⟩:=e
 by_cases hb:V.2≠0
 ·rw [zp hb] at hat
  have hat:=hat hb
  rw [hat,zp hb]
  (repeat' first|(show Cn (.r _ _ _);refine .any ⟨_,_,_,rfl,zwr _,zsr _, ?_,rfl⟩;try rfl)|apply wZ;rfl|show Cn _;constructor|exact rfl|apply KR.mk;kernel_rfl|apply bX pk;(iterate 6 rfl);rotate_left;rfl;(intro hw;rfl);(intro hw;apply hrow<;>omega);(intro _;rfl);rfl|(apply hty<;>(first|assumption|omega))|apply wY;rfl|apply wI;rfl|apply gE;omega|apply gE;show 0<_;omega|apply gE;show 1<_;omega|omega|intros;omega|simp only [zql];omega|intros;simp only [zql];omega|intros;simp only;omega|intro h;omega|intro h;simp at h;done|intro h;simp at h;omega|(intro h;simp at h)|intro h)
 rw [zn hb] at hat hup
 by_cases hb2:V.1=2
 ·rw [zp hb2] at hat
  have hat:=hat (by decide)
  rw [hat,zp (by decide)]
  (repeat' first|(show Cn (.r _ _ _);refine .any ⟨_,_,_,rfl,zwr _,zsr _, ?_,rfl⟩;try rfl)|apply wZ;rfl|show Cn _;constructor|exact rfl|apply KR.mk;kernel_rfl|apply bX pk;(iterate 6 rfl);rotate_left;rfl;(intro hw;rfl);(intro hw;apply hrow<;>omega);(intro _;rfl);rfl|(apply hty<;>(first|assumption|omega))|apply wY;rfl|apply wI;rfl|apply gE;omega|apply gE;show 0<_;omega|apply gE;show 1<_;omega|omega|intros;omega|simp only [zql];omega|intros;simp only [zql];omega|intros;simp only;omega|exfalso;omega|intro h;omega|intro h;simp at h;done|intro h;simp at h;omega|(intro h;simp at h)|intro h)
 ·rw [zn hb2] at hup
  have hup:=hup rfl
  (repeat' first|(show Cn (.r _ _ _);refine .any ⟨_,_,_,rfl,zwr _,zsr _, ?_,rfl⟩;try rfl)|(refine ⟨⟨i+1,hil,hup⟩, ?_, ?_⟩)|apply wZ;rfl|show Cn _;constructor|exact rfl|apply KR.mk;kernel_rfl|apply bX pk;(iterate 6 rfl);rotate_left;rfl;(intro hw;rfl);(intro hw;apply hrow<;>omega);(intro _;rfl);rfl|(apply hty<;>(first|assumption|omega))|apply wY;rfl|apply wI;rfl|apply gE;omega|apply gE;show 0<_;omega|apply gE;show 1<_;omega|omega|intros;omega|simp only [zql];omega|intros;simp only [zql];omega|intros;simp only;omega|exfalso;omega|intro h;omega|intro h;simp at h;done|intro h;simp at h;omega|(intro h;simp at h)|intro h)
end
section
set_option maxRecDepth 10000
set_option maxHeartbeats 4000000
theorem akV (a b:UInt8) (x y:List UInt8):Op.bytesLess (a::x) (b::y)=true↔a.toNat<b.toNat\/a.toNat=b.toNat/\Op.bytesLess x y=true:=by
 simp only [Op.bytesLess,Bool.or_eq_true,zde,zba,beq_iff_eq,UInt8.lt_iff_toNat_lt,<-UInt8.toNat_inj]
theorem vV (a b:UInt8) (x y:List UInt8):Op.bytesLess (a::x) (b::y)=false↔b.toNat<a.toNat\/a.toNat=b.toNat/\Op.bytesLess x y=false:=by
 rw [<-Bool.not_eq_true,akV]
 cases Op.bytesLess x y<;>simp<;>omega
theorem bl_ord :OrdX Op.bytesLess:=by
 refine ⟨fun {a b} h=> ?_,fun {a b c} h1 h2=> ?_,fun {a b} h1 h2=> ?_⟩
 ·induction a generalizing b with
  |nil=>cases b<;>simp [Op.bytesLess] at h⊢
  |cons x a ih=>
   cases b with
   |nil=>simp [Op.bytesLess] at h
   |cons y b=>
    rw [akV] at h
    rw [vV]
    rcases h with h|⟨h,h'⟩
    ·exact .inl h
    ·exact .inr ⟨h.symm,ih h'⟩
 ·induction a generalizing b c with
  |nil=>
   cases b with
   |nil=>exact h2
   |cons y b=>simp [Op.bytesLess] at h1
  |cons x a ih=>
   cases c with
   |nil=>simp [Op.bytesLess] at h2
   |cons z c=>
    cases b with
    |nil=>simp [Op.bytesLess]
    |cons y b=>
     rw [vV] at h1 h2⊢
     rcases h1 with h1|⟨h1,h1'⟩
     ·left;omega
     ·rcases h2 with h2|⟨h2,h2'⟩
      ·left;omega
      ·exact .inr ⟨by omega,ih h1' h2'⟩
 ·induction a generalizing b with
  |nil=>cases b<;>simp [Op.bytesLess] at h1⊢
  |cons x a ih=>
   cases b with
   |nil=>simp [Op.bytesLess] at h2
   |cons y b=>
    rw [vV] at h1 h2
    rcases h1 with h1|⟨h1,h1'⟩
    ·omega
    ·rcases h2 with h2|⟨h2,h2'⟩
     ·omega
     ·rw [ih h1' h2',UInt8.toNat_inj.1 h1]
theorem lessV_ord :OrdX bS:=by
 refine ⟨fun {a b} h=> ?_,fun {a b c} h1 h2=> ?_,fun {a b} h1 h2=> ?_⟩
 ·unfold bS at h⊢
  by_cases k:a.kind=b.kind
  ·rw [zn (λq=>q k)] at h
   rw [zn (λq=>q k.symm)]
   by_cases n:a.n=b.n
   ·rw [zn (λq=>q n)] at h
    rw [zn (λq=>q n.symm)]
    exact bl_ord.asy h
   ·rw [zp n] at h
    rw [zp (Ne.symm n)]
    simp only [zde,decide_eq_false_iff_not] at*
    omega
  ·rw [zp k] at h
   rw [zp (Ne.symm k)]
   simp only [zde,decide_eq_false_iff_not] at*
   omega
 ·have key:∀x y:Vl,bS x y=false↔y.kind<x.kind\/x.kind=y.kind/\(y.n<x.n\/x.n=y.n/\Op.bytesLess x.s.toList y.s.toList=false):=λx y=>by
   unfold bS
   by_cases k:x.kind=y.kind
   ·rw [zn (λq=>q k)]
    by_cases n:x.n=y.n
    ·rw [zn (λq=>q n)]
     constructor
     ·intro h;exact .inr ⟨k, .inr ⟨n,h⟩⟩
     ·rintro (h|⟨_,h|⟨_,h⟩⟩)
      ·omega
      ·omega
      ·exact h
    ·rw [zp n,decide_eq_false_iff_not]
     constructor
     ·intro h;exact .inr ⟨k, .inl (by omega)⟩
     ·rintro (h|⟨_,h|⟨h,_⟩⟩)<;>omega
   ·rw [zp k,decide_eq_false_iff_not]
    constructor
    ·intro h;exact .inl (by omega)
    ·rintro (h|⟨h,_⟩)<;>omega
  rw [key] at h1 h2⊢
  rcases h1 with h1|⟨k1,h1|⟨n1,h1⟩⟩
  ·rcases h2 with h2|⟨k2,_⟩<;>(left;omega)
  ·rcases h2 with h2|⟨k2,h2|⟨n2,h2⟩⟩
   ·left;omega
   ·right;exact ⟨by omega, .inl (by omega)⟩
   ·right;exact ⟨by omega, .inl (by omega)⟩
  ·rcases h2 with h2|⟨k2,h2|⟨n2,h2⟩⟩
   ·left;omega
   ·right;exact ⟨by omega, .inl (by omega)⟩
   ·right;exact ⟨by omega, .inr ⟨by omega,bl_ord.neg h1 h2⟩⟩
 ·unfold bS at h1 h2
  by_cases k:a.kind=b.kind
  ·rw [zn (λq=>q k)] at h1
   rw [zn (λq=>q k.symm)] at h2
   by_cases n:a.n=b.n
   ·rw [zn (λq=>q n)] at h1
    rw [zn (λq=>q n.symm)] at h2
    have hs:=bl_ord.eq h1 h2
    obtain ⟨a1,a2,a3⟩:=a
    obtain ⟨b1,b2,b3⟩:=b
    simp only at k n hs
    have:a3=b3:=by
     have h3:a3.data.toList=b3.data.toList:=by simpa [ByteArray.toList_eq] using hs
     cases a3;cases b3
     simp at h3;rw [h3]
    rw [k,n,this]
   ·rw [zp n,decide_eq_false_iff_not] at h1
    rw [zp (Ne.symm n),decide_eq_false_iff_not] at h2
    omega
  ·rw [zp k,decide_eq_false_iff_not] at h1
   rw [zp (Ne.symm k),decide_eq_false_iff_not] at h2
   omega
theorem OrdX.tr {α:Type} {lt:α->α->Bool} (h:OrdX lt) {a b c:α} (h1:lt a b=true) (h2:lt b c=true):lt a c=true:=by
 cases e:lt a c with
 |true=>rfl
 |false=>have:=h.neg (h.asy h2) e;rw [h1] at this;cases this
theorem OrdX.irr {α:Type} {lt:α->α->Bool} (h:OrdX lt) (a:α):lt a a=false:=by
 cases e:lt a a with
 |false=>rfl
 |true=>have:=h.asy e;rw [e] at this;cases this
theorem pT (a b:Vl):eM a b=true↔a=b:=by
 unfold eM
 rw [zba,Bool.not_eq_true',Bool.not_eq_true']
 constructor
 ·rintro ⟨h1,h2⟩;exact lessV_ord.eq h1 h2
 ·rintro rfl;exact ⟨rR a,rR a⟩
theorem vK :∀{a b:List Vl},a.length=b.length->(apR a b=a.length↔a=b)
 |[],[],_=>by simp [apR]
 |[],_::_,h=>by simp at h
 |_::_,[],h=>by simp at h
 |a::l,b::m,h=>by
  unfold apR
  have ih:=vK (a:=l) (b:=m) (by simpa using h)
  by_cases e:eM b a=true
  ·rw [zp e]
   have e:=(pT b a).1 e
   subst e
   simp only [zlc,List.cons.injEq,true_and]
   rw [<-ih];omega
  ·rw [zn e]
   simp only [zlc,List.cons.injEq]
   constructor
   ·intro q;omega
   ·rintro ⟨q,_⟩;exact absurd ((pT b a).2 q.symm) e
theorem asQ (a b:List Vl):akD a b=decide (a=b):=by
 unfold akD
 rw [Bool.eq_iff_iff,zba,zde,zde,zde]
 constructor
 ·rintro ⟨h1,h2⟩;exact (vK h1).1 h2
 ·rintro rfl;exact ⟨rfl,(vK rfl).2 rfl⟩
end
section
attribute [local irreducible] Ev PWp
set_option maxRecDepth 10000
set_option maxHeartbeats 4000000
theorem lV (a b:List Vl) (ha:a.length<4611686018427387904) (hb:b.length<4611686018427387904):PF Tryz.prog 21 [.seq (a.map Vl.cells), .seq (b.map Vl.cells)] (vb (decide (a=b))):=asQ a b▸ahN a b ha hb
theorem anU (a r:List Vl) (ha:a.length<4611686018427387904) (hb:r.length<4611686018427387904):PF Tryz.prog 131 [.seq (a.map Vl.cells), .rp [.seq (r.map Vl.cells)]] (vb (decide (a=r))):=by
 have h:=lV a r ha hb
 generalize decide (a=r)=D at*
 refine pF Tryz.func131 rfl (λst=> ?_)
 (repeat' first|(show Cn (.r _ _ _);refine .any ⟨_,_,_,rfl,zwr _,zsr _, ?_,rfl⟩;try rfl)|apply wZ;rfl|show Cn _;constructor|exact rfl|apply KR.mk;kernel_rfl|(apply h<;>(first|assumption|omega))|apply wY;rfl|omega|intros;omega|simp only [zql];omega|intros;simp only [zql];omega|intros;simp only;omega|intro h;omega|intro h;simp at h;done|intro h;simp at h;omega|(intro h;simp at h)|intro h)
theorem zP (l:List (List Vl)) (r:List Vl) (hl:l.length<4611686018427387904) (hs:∀x∈l,x.length<4611686018427387904) (hr:r.length<4611686018427387904):PF Tryz.prog 130 [.seq (l.map roC), .fn 131 [.rp [.seq (r.map Vl.cells)]]] (vi (bT (λx=>decide (x=r)) l)):=by
 have hf:=λx hx=>anU x r hx hr
 refine pF Tryz.func130 rfl (λst=> ?_)
 focus ((repeat' first|(show Cn (.r _ _ _);refine .any ⟨_,_,_,rfl,zwr _,zsr _, ?_,rfl⟩;try rfl)|apply wZ;rfl|show Cn _;constructor|exact rfl|apply KR.mk;kernel_rfl|omega|intros;omega|simp only [zql];omega|intros;simp only [zql];omega|intros;simp only;omega|intro h;omega|intro h;simp at h;done|intro h;simp at h;omega|(intro h;simp at h)|intro h))
 refine aG (X:={x:Nat//x<=l.length/\∀j (h:j<x) (h2:j<l.length),(λx=>decide (x=r)) l[j]=false}) (λi=>(((((St.nil 19 st).pv 0 (.seq (l.map roC))).pv 1 (.fn 131 [.rp [.seq (r.map Vl.cells)]])).pv 7 ((vi ((((l.map roC)).length:Nat))))).pv 8 ((vi ((i.1:Nat)))))) (λi=>l.length-i.1) ⟨0,by omega,by omega⟩ ?_ (λi=> ?_)
 ·(repeat' first|show Cn _;constructor|exact rfl)
 obtain ⟨i,hi,hinv⟩:=i
 dsimp only at hinv⊢
 by_cases hend:l.length<=i
 ·(repeat' first|(show Cn (.r _ _ _);refine .any ⟨_,_,_,rfl,zwr _,zsr _, ?_,rfl⟩;try first|rfl|(unfold bT;rw [eP hend hinv]);done)|apply wZ;rfl|show Cn _;constructor|exact rfl|apply KR.mk;kernel_rfl|show (_:PV)=_;(unfold bT;rw [eP hend hinv]);done|omega|intros;omega|simp only [zql];omega|intros;simp only [zql];omega|intros;simp only;omega|intro h;omega|intro h;simp at h;done|intro h;simp at h;omega|(intro h;simp at h)|intro h)
 have hil:i<l.length:=by omega
 have hf:=hf l[i] (hs _ (zgm hil))
 by_cases hx:l[i]=r
 ·rw [decide_eq_true hx] at hf
  have e:bT (λx=>decide (x=r)) l=((i:Nat):Int):=by unfold bT;rw [gQ hil (decide_eq_true hx) hinv]
  (repeat' first|(show Cn (.r _ _ _);refine .any ⟨_,_,_,rfl,zwr _,zsr _, ?_,rfl⟩;try first|rfl|(rw [e]);done)|apply wZ;rfl|show Cn _;constructor|exact rfl|apply KR.mk;kernel_rfl|(apply hf<;>(first|assumption|omega))|show (_:PV)=_;(rw [e]);done|apply wY;rfl|apply wI;rfl|apply gE;omega|apply gE;show 0<_;omega|apply gE;show 1<_;omega|omega|intros;omega|simp only [zql];omega|intros;simp only [zql];omega|intros;simp only;omega|intro h;omega|intro h;simp at h;done|intro h;simp at h;omega|(intro h;simp at h)|intro h)
 ·rw [decide_eq_false hx] at hf
  (repeat' first|(show Cn (.r _ _ _);refine .any ⟨_,_,_,rfl,zwr _,zsr _, ?_,rfl⟩;try rfl)|(refine ⟨⟨i+1,hil,λj h1 h2=>(by rcases zls.1 h1 with q|q;exact hinv j q h2;subst q;exact decide_eq_false hx)⟩, ?_, ?_⟩)|apply wZ;rfl|show Cn _;constructor|exact rfl|apply KR.mk;kernel_rfl|(apply hf<;>(first|assumption|omega))|apply wY;rfl|apply wI;rfl|apply gE;omega|apply gE;show 0<_;omega|apply gE;show 1<_;omega|omega|intros;omega|simp only [zql];omega|intros;simp only [zql];omega|intros;simp only;omega|intro h;omega|intro h;simp at h;done|intro h;simp at h;omega|(intro h;simp at h)|intro h)
def itC :Option It->List PV
 |none=>[.val (.slice none 0 0),(vi (0)), .val (.slice none 0 0)]
 |some x=>x.cells
theorem akG (a:Option It):(itC a).length=3:=by cases a<;>rfl
theorem akS (a:Option It):(itC a).all PV.one=true:=by cases a<;>rfl
theorem qO (l:List It):(l.map some).map itC=l.map It.cells:=by rw [List.map_map];rfl
def hpV :Option (Nat×Nat)->List It->List PV
 |none,_=>[.val (.slice none 0 0), .val (.slice none 0 0)]
 |some (i,j),l=>[.vec i 1 0 l.length, .vec j 3 0 l.length]
structure HpS (S:aD) (idH:Nat) (a:Option (Nat×Nat)) (l:List It):Prop where
 box:S idH=some (.cells 164 (hpV a l))
 no:a=none->l=[]
 yes:∀i j,a=some (i,j)->S i=some (.arr 35 ((l.map (·.row)).map roC))/\S j=some (.arr 77 (l.map It.cells))/\i≠j/\i≠idH/\j≠idH/\0<l.length
theorem awK (r:List Vl) (hr:r.length<4611686018427387904) {st:aD} {idH:Nat} (h:HpS st idH none []):PC Tryz.prog 81 [.ref idH 0, .seq (r.map Vl.cells)] st λp S=>∃i j,p= .el j 3 0 0/\i≠j/\st i=none/\st j=none/\S=upd (upd (upd st i (some (.arr 35 [roC r]))) j (some (.arr 77 [itC none]))) idH (some (.cells 164 [.vec i 1 0 1, .vec j 3 0 1])):=by
 have hb:st idH=some (.cells 164 [.val (.slice none 0 0), .val (.slice none 0 0)]):=h.box
 have hix:PF Tryz.prog 130 [.seq [], .fn 131 [.rp [.seq (r.map Vl.cells)]]] (vi (-1)):=zP [] r (by simp) (by simp) hr
 refine pC Tryz.func81 rfl ?_
 (repeat' first|apply arI pk [0,1,2,3,4,6,7,9,10,11,13,14] 12 [5,8,15,16,17,18,19,20,21] 5 8 [12,15,16,17,18,19,20,21] 12 [8,15,16,17,18,19,20,21] [5,8,12,15,18,21] [] [12,13,14,15,18,21] [] [21] [13,14,15,18,21] [] [13,14,15,18,21] [];(iterate 7 rfl);kernel_rfl;rfl|(apply Both.mk)|apply wDx pk;rfl;kernel_rfl;rfl;rfl|(apply Cn.cf;focus ((apply hix<;>(first|assumption|omega));done))|(apply cV;focus ((apply hix<;>(first|assumption|omega));done))|(show Cn (.e _ _ _ _);refine .any ?_;(first|(refine ⟨_,_,_,rfl,zwr _,zsr _, ?_,rfl⟩;(first|rfl))|(refine ⟨_,_,_,rfl,zwr _,aB ‹_›, ?_,rfl⟩;(first|rfl))|(refine ⟨_,_,_,rfl,zwf _,zsr _, ?_,rfl⟩;(first|rfl))|(refine ⟨_,_,_,rfl,zwf _,aB ‹_›, ?_,rfl⟩;(first|rfl))|(refine ⟨_,_,_,rfl,zwr _,zsr _, ?_,rfl⟩)|(refine ⟨_,_,_,rfl,zwf _,aB ‹_›, ?_,rfl⟩)))|show Cn (.r _ _ _);refine .rr ?_;(exact ⟨i1,i2,rfl,Ne.symm n12,hi1,hi2,aH _ _ _ _⟩);done|show Cn (.r _ _ _);refine .any ⟨_,_, ?zs,rfl,zwr _, ?zh, ?zr⟩;(case zh=>(refine aF ?_ ‹_›;(repeat refine aF ?_ ‹_›);exact zsr _));(case zr=>(exact ⟨i1,i2,rfl,Ne.symm n12,hi1,hi2,aH _ _ _ _⟩))|apply wZ;rfl|show Cn _;constructor|exact rfl|apply KR.mk;kernel_rfl|apply ncA;rfl;rfl;rfl;rotate_left;rfl;rfl|apply ldR pk;rfl;rfl;rotate_left;rfl;(focus ((repeat (first|exact aA _ _ _|assumption|refine (aC ‹_›).trans ?_));done));rfl;rfl|apply stR pk;rfl;rfl;(focus ((repeat (first|exact aA _ _ _|assumption|refine (aC ‹_›).trans ?_));done));rfl;rfl|apply aQ 3;rfl;rfl|((apply ldR pk;rfl;rfl;rotate_left;rfl;(first|exact hb|exact (aC (Ne.symm n1)).trans hb);rfl;rfl))|((apply aCT pk;rfl;rfl;rfl;(first|exact hb|exact (aC (Ne.symm n1)).trans hb);rfl;rfl))|((apply stR pk;rfl;rfl;(first|exact (aC (Ne.symm n2)).trans ((aC (Ne.symm n1)).trans hb)|exact aA _ _ _);rfl;rfl))|((apply ap0 pk (f:=roC) [r] 24;(iterate 10 rfl);exact λ_=>rfl;exact λ_=>rfl;exact aaL;(first|omega|assumption|(focus (simp;done))|(focus (simp;omega)));(first|omega|assumption|(focus (simp;done))|(focus (simp;omega)));rfl;intro i1 hi1;have hi1:st i1=none:=hi1;have n1:i1≠idH:=λe=>by rw [e,hb] at hi1;cases hi1))|((apply ap0 pk (f:=itC) [none] 56;(iterate 10 rfl);exact akG;exact akS;exact alG;(first|omega|assumption|(focus (simp;done))|(focus (simp;omega)));(first|omega|assumption|(focus (simp;done))|(focus (simp;omega)));rfl;intro i2 hi2;have hi2:upd st i1 (some (.arr 35 ([r].map roC))) i2=none:=hi2;have n2:i2≠idH:=(λe=>by rw [e,aC (Ne.symm n1),hb] at hi2;cases hi2);have n12:i2≠i1:=(λe=>by rw [e,aA] at hi2;cases hi2);rw [aC n12] at hi2))|apply ixA pk (j:=0);(iterate 5 rfl);rotate_left;rfl;(intro _;rfl);(intro _;exact Nat.zero_lt_one);rfl;exact Nat.zero_add _|apply wY;rfl|omega|intros;omega|simp only [zql];omega|intros;simp only [zql];omega|intros;simp only;omega|intro h;omega|intro h;simp at h;done|intro h;simp at h;omega|(intro h;simp at h)|intro h)
def bW (l:List It):List (List Vl):=l.map (·.row)
def atL (l:List It) (r:List Vl):List (List Vl)×List (Option It)×Nat:=match (bW l).findIdx? (λx=>decide (x=r)) with
 |some k=>(bW l,l.map some,k)
 |none=>(bW l++[r],l.map some++[none],l.length)
structure AtR (st:aD) (idH:Nat) (a:Option (Nat×Nat)) (R:List (List Vl)) (L:List (Option It)) (k:Nat) (p:PV) (S:aD):Prop where
 ex:∃i j,p= .el j 3 k 0/\S idH=some (.cells 164 [.vec i 1 0 L.length, .vec j 3 0 L.length])/\S i=some (.arr 35 (R.map roC))/\S j=some (.arr 77 (L.map itC))/\i≠j/\i≠idH/\j≠idH/\∀q,q≠idH->(∀x y,a=some (x,y)->q≠x/\q≠y)->st q≠none->S q=st q/\q≠i/\q≠j
theorem ajZ (r:List Vl) (hr:r.length<4611686018427387904) {st:aD} {idH:Nat} (h:HpS st idH none []):PC Tryz.prog 81 [.ref idH 0, .seq (r.map Vl.cells)] st (AtR st idH none [r] [none] 0):=by
 have:=awK r hr h
 refine ⟨this.1,λw g vs h1 h2=>(this.2 w g vs h1 h2).mono ?_⟩
 rintro e w' ⟨v,p,S,g',h3,⟨i,j,rfl,hij,hi,hj,rfl⟩,h4⟩
 have hb:=h.box
 have n1:i≠idH:=λe=>by rw [e,hb] at hi;cases hi
 have n2:j≠idH:=λe=>by rw [e,hb] at hj;cases hj
 refine ⟨v,_,_,g',h3,⟨i,j,rfl,aA _ _ _, ?_, ?_,hij,n1,n2,λq h1 _ h2=> ?_⟩,h4⟩
 ·rw [aC n1,aC hij,aA];rfl
 ·rw [aC n2,aA];rfl
 ·have q1:q≠i:=λe=>h2 (e▸hi)
  have q2:q≠j:=λe=>h2 (e▸hj)
  exact ⟨by rw [aC h1,aC q2,aC q1],q1,q2⟩
theorem avX {st S:aD} {idH i j i1 i2:Nat} {R:List (List Vl)} {L:List (Option It)} {n:Nat} {c:AObj} (hb:st idH=some c) (hiH:i≠idH) (hjH:j≠idH) (hij:i≠j) (hi1:st i1=none) (n1:i1≠idH) (n1j:i1≠j) {A:AObj} (hi2:upd (upd st i none) i1 (some A) i2=none) (n2:i2≠idH) (n12:i2≠i1) (hA:A= .arr 35 (R.map roC)) (hL:L.length=n)
  (hS:S=upd (upd (upd (upd (upd st i none) i1 (some A)) j none) i2 (some (.arr 77 (L.map itC)))) idH (some (.cells 164 [.vec i1 1 0 n, .vec i2 3 0 n]))) (k:Nat):AtR st idH (some (i,j)) R L k (.el i2 3 k 0) S:=by
 subst hS;subst hA;subst hL
 refine ⟨⟨i1,i2,rfl,aA _ _ _, ?_, ?_,Ne.symm n12,n1,n2,λq h1 h2 h3=> ?_⟩⟩
 ·rw [aC n1,aC (Ne.symm n12),aC n1j,aA]
 ·rw [aC n2,aA]
 ·obtain ⟨q1,q2⟩:=h2 i j rfl
  have q3:q≠i1:=λe=>h3 (e▸hi1)
  have q4:q≠i2:=λe=>by rw [<-e,aC q3,aC q1] at hi2;exact h3 hi2
  exact ⟨by rw [aC h1,aC q4,aC q2,aC q3,aC q1],q3,q4⟩
theorem aiK (r:List Vl) (hr:r.length<4611686018427387904) {st:aD} {idH i j:Nat} {l:List It} (h:HpS st idH (some (i,j)) l) (hl:l.length<=100000) (hrow:∀x∈l,x.row.length<4611686018427387904):PC Tryz.prog 81 [.ref idH 0, .seq (r.map Vl.cells)] st (AtR st idH (some (i,j)) (atL l r).1 (atL l r).2.1 (atL l r).2.2):=by
 have hb:st idH=some (.cells 164 [.vec i 1 0 l.length, .vec j 3 0 l.length]):=h.box
 obtain ⟨hsi,hsj,hij,hiH,hjH,hl0⟩:=h.yes i j rfl
 have hrl:(bW l).length=l.length:=by unfold bW;simp
 have hsi:st i=some (.arr 35 ((bW l).map roC)):=hsi
 rw [<-qO] at hsj
 have hml:(l.map some).length=l.length:=zql _
 have hix:=zP (bW l) r (by omega) (λx hx=>by unfold bW at hx;obtain ⟨y,hy,rfl⟩:=List.mem_map.1 hx;exact hrow y hy) hr
 have hib:PC Tryz.prog 130 [.vec i 1 0 l.length, .fn 131 [.rp [.seq (r.map Vl.cells)]]] st λp S=>p=(vi (bT (λx=>decide (x=r)) (bW l)))/\st=S:=by
  have:=PC.borrow 0 hsi acZ (by rw [zql];omega) (.cons (eH hrl) (.cons .refl .nil)) (WkL.refl _) hix rfl
  exact ⟨this.1,λw g vs h1 h2=>(this.2 w g vs h1 h2).mono λe w' ⟨v,p,S,g',a,⟨b1,b2⟩,c⟩=>⟨v,p,S,g',a,⟨b1,b2.symm⟩,c⟩⟩
 unfold atL
 unfold bT at hib
 cases hf:(bW l).findIdx? (λx=>decide (x=r)) with
 |some k=>
  rw [hf] at hib
  dsimp only at hib⊢
  have hk:k<l.length:=by
   have:=(List.findIdx?_eq_some_iff_getElem.1 hf).1
   omega
  refine pC Tryz.func81 rfl ?_
  (repeat' first|apply wDx pk;rfl;kernel_rfl;rfl;rfl|(show Cn (.e _ _ _ _);refine .any ?_;(first|(refine ⟨_,_,_,rfl,zwr _,zsr _, ?_,rfl⟩;(first|rfl))|(refine ⟨_,_,_,rfl,zwr _,aB ‹_›, ?_,rfl⟩;(first|rfl))|(refine ⟨_,_,_,rfl,zwf _,zsr _, ?_,rfl⟩;(first|rfl))|(refine ⟨_,_,_,rfl,zwf _,aB ‹_›, ?_,rfl⟩;(first|rfl))|(refine ⟨_,_,_,rfl,zwr _,zsr _, ?_,rfl⟩)|(refine ⟨_,_,_,rfl,zwf _,aB ‹_›, ?_,rfl⟩)))|show Cn (.r _ _ _);refine .rr ?_;(exact ⟨⟨i,j,rfl,by rw [hml];exact hb,hsi,hsj,hij,hiH,hjH,λq _ hq _=>⟨rfl,(hq i j rfl).1,(hq i j rfl).2⟩⟩⟩);done|(show Cn (.r _ _ _);refine .any ⟨_,_, ?zs,rfl,zwr _, ?zh, ?zr⟩;(case zh=>(refine aF ?_ ‹_›;(repeat refine aF ?_ ‹_›);exact zsr _));(case zr=>(exact ⟨⟨i,j,rfl,by rw [hml];exact hb,hsi,hsj,hij,hiH,hjH,λq _ hq _=>⟨rfl,(hq i j rfl).1,(hq i j rfl).2⟩⟩⟩)))|apply wZ;rfl|show Cn _;constructor|exact rfl|apply KR.mk;kernel_rfl|apply ncA;rfl;rfl;rfl;rotate_left;rfl;rfl|apply ldR pk;rfl;rfl;rotate_left;rfl;(focus ((repeat (first|exact aA _ _ _|assumption|refine (aC ‹_›).trans ?_));done));rfl;rfl|apply stR pk;rfl;rfl;(focus ((repeat (first|exact aA _ _ _|assumption|refine (aC ‹_›).trans ?_));done));rfl;rfl|apply aQ 3;rfl;rfl|apply ldR pk;rfl;rfl;rotate_left;rfl;exact hb;rfl;rfl|((apply eE;rfl;rfl;exact hib;rfl;rfl;rfl;intro _ st' hR;obtain ⟨rfl,rfl⟩:=hR))|apply ixA pk (j:=k);(iterate 5 rfl);rotate_left;rfl;(intro _;rfl);(intro _;exact hk);rfl;exact Nat.zero_add _|omega|intros;omega|simp only [zql];omega|intros;simp only [zql];omega|intros;simp only;omega|intro h;omega|intro h;simp at h;done|intro h;simp at h;omega|(intro h;simp at h)|intro h)
 |none=>
  rw [hf] at hib
  dsimp only at hib⊢
  refine pC Tryz.func81 rfl ?_
  (repeat' first|apply arI pk [0,1,2,3,4,6,7,9,10,11,13,14] 12 [5,8,15,16,17,18,19,20,21] 5 8 [12,15,16,17,18,19,20,21] 12 [8,15,16,17,18,19,20,21] [5,8,12,15,18,21] [] [12,13,14,15,18,21] [] [21] [13,14,15,18,21] [] [13,14,15,18,21] [];(iterate 7 rfl);kernel_rfl;rfl|(apply Both.mk)|apply wDx pk;rfl;kernel_rfl;rfl;rfl|(show Cn (.e _ _ _ _);refine .any ?_;(first|(refine ⟨_,_,_,rfl,zwr _,zsr _, ?_,rfl⟩;(first|rfl))|(refine ⟨_,_,_,rfl,zwr _,aB ‹_›, ?_,rfl⟩;(first|rfl))|(refine ⟨_,_,_,rfl,zwf _,zsr _, ?_,rfl⟩;(first|rfl))|(refine ⟨_,_,_,rfl,zwf _,aB ‹_›, ?_,rfl⟩;(first|rfl))|(refine ⟨_,_,_,rfl,zwr _,zsr _, ?_,rfl⟩)|(refine ⟨_,_,_,rfl,zwf _,aB ‹_›, ?_,rfl⟩)))|show Cn (.r _ _ _);refine .rr ?_;(exact avX hb hiH hjH hij hi1 n1 n1j hi2 n2 n12 rfl (by simp) (aH _ _ _ _) l.length);done|show Cn (.r _ _ _);refine .any ⟨_,_, ?zs,rfl,zwr _, ?zh, ?zr⟩;(case zh=>(refine aF ?_ ‹_›;(repeat refine aF ?_ ‹_›);exact zsr _));(case zr=>(exact avX hb hiH hjH hij hi1 n1 n1j hi2 n2 n12 rfl (by simp) (aH _ _ _ _) l.length))|apply wZ;rfl|show Cn _;constructor|exact rfl|apply KR.mk;kernel_rfl|apply ncA;rfl;rfl;rfl;rotate_left;rfl;rfl|apply ldR pk;rfl;rfl;rotate_left;rfl;(focus ((repeat (first|exact aA _ _ _|assumption|refine (aC ‹_›).trans ?_));done));rfl;rfl|apply stR pk;rfl;rfl;(focus ((repeat (first|exact aA _ _ _|assumption|refine (aC ‹_›).trans ?_));done));rfl;rfl|apply aQ 3;rfl;rfl|((apply ldR pk;rfl;rfl;rotate_left;rfl;(first|exact hb|exact (aC (Ne.symm n1)).trans ((aC (Ne.symm hiH)).trans hb));rfl;rfl))|((apply aCT pk;rfl;rfl;rfl;(first|exact hb|exact (aC (Ne.symm n1)).trans ((aC (Ne.symm hiH)).trans hb));rfl;rfl))|((apply eE;rfl;rfl;exact hib;rfl;rfl;rfl;intro _ st' hR;obtain ⟨rfl,rfl⟩:=hR))|((apply apV pk (f:=roC) (xs:=bW l) [r] 24;(iterate 9 rfl);exact hsi;exact hrl;exact λ_=>rfl;exact λ_=>rfl;exact aaL;(simp only [zlc,List.length_nil];omega);(simp only [zlc,List.length_nil];omega);rfl;intro i1 hi1;have hi1:st i1=none:=hi1;have n1:i1≠idH:=(λe=>by rw [e,hb] at hi1;cases hi1);have n1j:i1≠j:=(λe=>by rw [e,hsj] at hi1;cases hi1)))|((apply apV pk (f:=itC) (xs:=l.map some) [none] 56;(iterate 9 rfl);exact (aC (Ne.symm n1j)).trans ((aC (Ne.symm hij)).trans hsj);exact hml;exact akG;exact akS;exact alG;(simp only [zlc,List.length_nil];omega);(simp only [zlc,List.length_nil];omega);rfl;intro i2 hi2;have hi2:upd (upd st i none) i1 (some (.arr 35 ((bW l++[r]).map roC))) i2=none:=hi2;have n2:i2≠idH:=(λe=>by rw [e,aC (Ne.symm n1),aC (Ne.symm hiH),hb] at hi2;cases hi2);have n12:i2≠i1:=(λe=>by rw [e,aA] at hi2;cases hi2)))|((apply stR pk;rfl;rfl;(first|exact (aC (Ne.symm n2)).trans ((aC (Ne.symm hjH)).trans ((aC (Ne.symm n1)).trans ((aC (Ne.symm hiH)).trans hb)))|exact aA _ _ _);rfl;rfl))|apply ixA pk (j:=l.length);(iterate 5 rfl);rotate_left;rfl;(intro _;rfl);(intro _;exact Nat.lt_succ_self _);rfl;exact Nat.zero_add _|omega|intros;omega|simp only [zql];omega|intros;simp only [zql];omega|intros;simp only;omega|intro h;omega|intro h;simp at h;done|intro h;simp at h;omega|(intro h;simp at h)|intro h)
end
end Go.Proofs.YtppdefkgmegipaaGreatDoor
