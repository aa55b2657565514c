import Derived.Test.YtloecjjehapblaaGreatDoorOpAb
set_option linter.unusedSimpArgs false
set_option linter.unusedVariables false
namespace Go.Proofs.YtloecjjehapblaaGreatDoor
open Go Go.Abs
attribute [local irreducible] Ev PWp
set_option maxRecDepth 10000
set_option maxHeartbeats 4000000
def cJ (v:Vl):Bool:=if v.kind=0 then decide (v.n=0)&&decide (v.s=e0) else if v.kind=1 then (decide (v.s=e0)&&decide (v.n>= -1099511627776))&&decide (v.n<=1099511627776) else if v.kind=2 then decide (v.n=0)&&decide ((v.s.size:Int)<=200) else false
theorem iS (v:Vl):PF Tryz.prog 175 [.agg v.cells] (PV.val (Value.bool (cJ v))):=by
 unfold cJ
 by_cases h0:v.kind=0
 ·rw [if_pos h0]
  refine aG aF Tryz.func175 (by kernel_rfl) rfl rfl rfl rfl (λst=> ?_)
  (try apply wO pk;rfl);(repeat' first|show All _;constructor|apply wC pk;rfl;rfl|refine aA rfl ?_ ?_<;>intro h<;>(try simp at h)<;>try omega|(refine aC ?_;refine ⟨_,_,_,rfl,zwr _,zsr _, ?_,rfl⟩;try first|rfl|((simp [h0];done));done))
 by_cases h1:v.kind=1
 ·rw [if_neg h0,if_pos h1]
  refine aG aF Tryz.func175 (by kernel_rfl) rfl rfl rfl rfl (λst=> ?_)
  (try apply wO pk;rfl);(repeat' first|show All _;constructor|show Imp _ _;constructor|show ImpX _ _ _ _;constructor|apply wC pk;rfl;rfl|refine aA rfl ?_ ?_<;>intro h<;>(try simp at h)<;>try omega|(refine aC ?_;refine ⟨_,_,_,rfl,zwr _,zsr _, ?_,rfl⟩;try first|rfl|(fail);done))
 rw [if_neg h0,if_neg h1]
 by_cases h2:v.kind=2
 ·rw [if_pos h2]
  refine aG aF Tryz.func175 (by kernel_rfl) rfl rfl rfl rfl (λst=> ?_)
  (try apply wO pk;rfl);(repeat' first|show All _;constructor|show Imp _ _;constructor|show ImpX _ _ _ _;constructor|apply wC pk;rfl;rfl|refine aA rfl ?_ ?_<;>intro h<;>(try simp at h)<;>try omega|(refine aC ?_;refine ⟨_,_,_,rfl,zwr _,zsr _, ?_,rfl⟩;try first|rfl|(fail);done))
 rw [if_neg h2]
 refine aG aF Tryz.func175 (by kernel_rfl) rfl rfl rfl rfl (λst=> ?_)
 (try apply wO pk;rfl);(repeat' first|show All _;constructor|apply wC pk;rfl;rfl|refine aA rfl ?_ ?_<;>intro h<;>(try simp at h)<;>try omega|(refine aC ?_;refine ⟨_,_,_,rfl,zwr _,zsr _, ?_,rfl⟩;try first|rfl|(fail);done))
def cI (c:Cl):Int:=if c.kind≠2\/c.val.kind≠1 then 6 else if c.val.s≠e0\/0<c.parts.length then 1 else if c.val.n< -1099511627776\/c.val.n>1099511627776 then 20 else 0
theorem asY (n:Int):PF Tryz.prog 271 [(PV.val (Value.int .i64 (n)))] (PV.val (Value.bool (decide (n>= -1099511627776)&&decide (n<=1099511627776)))):=by
 refine aG aF Tryz.func271 (by kernel_rfl) rfl rfl rfl rfl (λst=> ?_)
 (try apply wO pk;rfl);(repeat' first|show All _;constructor|show Imp _ _;constructor|show ImpX _ _ _ _;constructor|(refine aC ?_;refine ⟨_,_,_,rfl,zwr _,zsr _, ?_,rfl⟩;try rfl))
theorem lM (c:Cl):PF Tryz.prog 177 [.agg c.cells] (PV.val (Value.int .i64 (cI c))):=by
 have hf:=asY c.val.n
 unfold cI
 by_cases h1:c.kind≠2\/c.val.kind≠1
 ·rw [if_pos h1]
  refine aG aF Tryz.func177 (by kernel_rfl) rfl rfl rfl rfl (λst=> ?_)
  (try apply wO pk;rfl);(repeat' first|show All _;constructor|show Imp _ _;constructor|show ImpX _ _ _ _;constructor|apply wC pk;rfl;rfl|refine aA rfl ?_ ?_<;>intro h<;>(try simp at h)<;>try omega|(refine aC ?_;refine ⟨_,_,_,rfl,zwr _,zsr _, ?_,rfl⟩;try first|rfl|(fail);done))
 rw [if_neg h1]
 by_cases h2:c.val.s≠e0\/0<c.parts.length
 ·rw [if_pos h2]
  refine aG aF Tryz.func177 (by kernel_rfl) rfl rfl rfl rfl (λst=> ?_)
  (try apply wO pk;rfl);(repeat' first|show All _;constructor|show Imp _ _;constructor|show ImpX _ _ _ _;constructor|apply wC pk;rfl;rfl|apply wE pk;rfl;rfl|refine aA rfl ?_ ?_<;>intro h<;>(try simp at h)<;>try omega|(refine aC ?_;refine ⟨_,_,_,rfl,zwr _,zsr _, ?_,rfl⟩;try first|rfl|((exfalso;simp at*;grind));done)|(apply aH;rfl;rfl;rfl;(intro _;apply hf<;>first|assumption|omega);rotate_left;rfl;rfl))
 rw [if_neg h2]
 by_cases h3:c.val.n< -1099511627776\/c.val.n>1099511627776
 ·rw [if_pos h3]
  refine aG aF Tryz.func177 (by kernel_rfl) rfl rfl rfl rfl (λst=> ?_)
  (try apply wO pk;rfl);(repeat' first|show All _;constructor|show Imp _ _;constructor|show ImpX _ _ _ _;constructor|apply wC pk;rfl;rfl|apply wE pk;rfl;rfl|refine aA rfl ?_ ?_<;>intro h<;>(try simp at h)<;>try omega|(refine aC ?_;refine ⟨_,_,_,rfl,zwr _,zsr _, ?_,rfl⟩;try first|rfl|((exfalso;simp at*;grind));done)|(apply aH;rfl;rfl;rfl;(intro _;apply hf<;>first|assumption|omega);rotate_left;rfl;rfl))
 rw [if_neg h3]
 refine aG aF Tryz.func177 (by kernel_rfl) rfl rfl rfl rfl (λst=> ?_)
 (try apply wO pk;rfl);(repeat' first|show All _;constructor|show Imp _ _;constructor|show ImpX _ _ _ _;constructor|apply wC pk;rfl;rfl|apply wE pk;rfl;rfl|refine aA rfl ?_ ?_<;>intro h<;>(try simp at h)<;>try omega|(refine aC ?_;refine ⟨_,_,_,rfl,zwr _,zsr _, ?_,rfl⟩;try first|rfl|((exfalso;simp at*;grind));done)|(apply aH;rfl;rfl;rfl;(intro _;apply hf<;>first|assumption|omega);rotate_left;rfl;rfl))
theorem tD (c:Cl):PF Tryz.prog 112 [.seq [c.cells]] (PV.val (Value.int .i64 (cI c))):=by
 have hc:=lM c
 generalize cI c=R at*
 refine aG aF Tryz.func112 (by kernel_rfl) rfl rfl rfl rfl (λst=> ?_)
 (try apply wO pk;rfl);(repeat' (show All _;constructor))
 refine aK (X:={x:Nat//x<=1/\(x=1->R=0)}) (λi=>((((St.nil 18 st).pv 6 (.seq [c.cells])).pv 7 ((PV.val (Value.int .i64 ((([c.cells]).length:Nat)))))).pv 8 ((PV.val (Value.int .i64 ((i.1:Nat))))))) (λi=>1-i.1) ⟨0,by omega,by omega⟩ ?_ (λi=> ?_)
 ·((repeat refine Sub.pv ?_ rfl);exact Sub.nil _ _ _ (zsr _) rfl)
 obtain ⟨i,h1,hinv⟩:=i
 dsimp only
 rcases (show i=0\/i=1 by omega) with rfl|rfl
 ·(try apply wO pk;rfl);(repeat' first|show All _;constructor|show Imp _ _;constructor|apply wC pk;rfl;rfl|apply wE pk;rfl;rfl|refine aA rfl ?_ ?_<;>intro h<;>(try simp at h)<;>try omega|(refine aC ?_;refine ⟨_,_,_,rfl,zwr _,zsr _, ?_,rfl⟩;try first|rfl|rfl;done)|(apply aH;rfl;rfl;rfl;(intro _;apply hc<;>first|assumption|omega);rotate_left;rfl;rfl)|apply aN pk;(iterate 6 rfl);rotate_left;rfl;(intro hw;rfl);(intro hw;apply (rfl:([c.cells]:List (List PV))[0]?=some c.cells)<;>omega);(intro _;rfl);rfl|refine ⟨⟨1,by omega,λ_=>by assumption⟩, ?_,by simp only;omega⟩;((repeat refine Sub.pv ?_ rfl);exact Sub.nil _ _ _ (zsr _) rfl)|intros;(try simp only [zql]);omega)
 ·have h0:=hinv rfl
  (try apply wO pk;rfl);(repeat' first|show All _;constructor|apply wC pk;rfl;rfl|refine aA rfl ?_ ?_<;>intro h<;>(try simp at h)<;>try omega|(refine aC ?_;refine ⟨_,_,_,rfl,zwr _,zsr _, ?_,rfl⟩;try first|rfl|(rw [h0]);done))
def arP (c:Cl):Vl:=if cI c=0 then c.val else Vl.zero
theorem anV (c:Cl):PF Tryz.prog 67 [.agg c.cells] (.agg (arP c).cells):=by
 have hc:=tD c
 unfold arP
 by_cases h:cI c=0
 ·rw [if_pos h]
  rw [h] at hc
  refine aG aF Tryz.func67 (by kernel_rfl) rfl rfl rfl rfl (λst=> ?_)
  (try apply wO pk;rfl);(repeat' first|show All _;constructor|show Imp _ _;constructor|apply wC pk;rfl;rfl|apply wE pk;rfl;rfl|refine aA rfl ?_ ?_<;>intro h<;>(try simp at h)<;>try omega|(refine aC ?_;refine ⟨_,_,_,rfl,zwr _,zsr _, ?_,rfl⟩;try rfl)|(apply aH;rfl;rfl;rfl;(intro _;apply hc<;>first|assumption|omega);rotate_left;rfl;rfl))
 rw [if_neg h]
 refine aG aF Tryz.func67 (by kernel_rfl) rfl rfl rfl rfl (λst=> ?_)
 (try apply wO pk;rfl);(repeat' first|show All _;constructor|show Imp _ _;constructor|apply wC pk;rfl;rfl|apply wE pk;rfl;rfl|refine aA rfl ?_ ?_<;>intro h<;>(try simp at h)<;>try omega|(refine aC ?_;refine ⟨_,_,_,rfl,zwr _,zsr _, ?_,rfl⟩;try first|rfl|(exfalso;omega);done)|(apply aH;rfl;rfl;rfl;(intro _;apply hc<;>first|assumption|omega);rotate_left;rfl;rfl))
theorem adZ (a b:Dt):PF Tryz.prog 270 [.agg a.cells, .agg b.cells] (PV.val (Value.int .i64 (byD a b))):=by
 have ho:=afS [gZ a.dev b.dev,gZ a.seq b.seq] (by simp)
 refine aG aF Tryz.func270 (by kernel_rfl) rfl rfl rfl rfl (λst=> ?_)
 (try apply wO pk;rfl);(repeat' first|show All _;constructor|show Imp _ _;constructor|apply wE pk;rfl;rfl|apply wD pk [] [];kernel_rfl;rfl;rfl|(refine aC ?_;refine ⟨_,_,_,rfl,zwr _,zsr _, ?_,rfl⟩;try rfl)|(apply aH;rfl;rfl;rfl;(intro _;(first|apply (jB a.dev b.dev)|apply (jB a.seq b.seq)|apply ho)<;>first|assumption|omega);rotate_left;rfl;rfl))
theorem aqT (a b:Dt):decide (byD a b>=0)= !bG b a:=by
 unfold byD bG gZ
 simp only [orI]
 rw [Bool.eq_iff_iff]
 simp only [zde,Bool.not_eq_true',Bool.or_eq_false_iff,Bool.and_eq_false_iff,decide_eq_false_iff_not]
 grind
def lL (p:Pt):Prop:=p.at_=0/\p.time=0/\p.after=Dt.zero/\p.afterAt=0/\p.gone=false
instance (p :Pt):Decidable (lL p):=by unfold lL;infer_instance
def fI (d:Dt):Bool:=((decide (1<=d.dev)&&decide (d.dev<=64))&&decide (1<=d.seq))&&decide (d.seq<=1048576)
def jD (p:Pt):Bool:=(decide (lL p)&&cJ p.val)&&fI p.dot
def jE (p:Pt):Bool:=(decide (lL p)&&(decide (p.val.kind=1)&&cJ p.val))&&fI p.dot
def xU (ok:Pt->Bool) (bh:Pt->Pt->Bool) (l:List Pt):Bool:=(List.range l.length).all λj=>ok l[j]! &&(decide (j=0)||bh l[j]! l[j-1]!)
theorem azS {ok:Pt->Bool} {bh:Pt->Pt->Bool} {l:List Pt} {j:Nat} (h:j<l.length) (hf:(ok l[j]&&(decide (j=0)||bh l[j] (l[j-1]'(by omega))))=false):xU ok bh l=false:=by
 unfold xU
 rw [<-Bool.not_eq_true,zal]
 intro q
 have:=q j (List.mem_range.2 h)
 rw [getElem!_pos l j h,getElem!_pos l (j-1) (by omega),hf] at this
 cases this
theorem agD {ok:Pt->Bool} {bh:Pt->Pt->Bool} {l:List Pt} (hf:∀j (h:j<l.length),(ok l[j]&&(decide (j=0)||bh l[j] (l[j-1]'(by omega))))=true):xU ok bh l=true:=by
 unfold xU
 rw [zal]
 intro j hj
 have h:=List.mem_range.1 hj
 rw [getElem!_pos l j h,getElem!_pos l (j-1) (by omega)]
 exact hf j h
def lR (c:Cl):Bool:=decide (c.kind=1/\c.val=Vl.zero)&&xU jD (λp q=>bG p.dot q.dot) c.parts
def apO (p:Pt):List PV:=[(PV.val (Value.int .i64 (p.val.n))),(PV.val (Value.int .i64 (p.dot.dev))),(PV.val (Value.int .i64 (p.dot.seq)))]
theorem uE (p:Pt):PF Tryz.prog 272 [.agg p.cells] (.agg (apO p)):=by
 refine aG aF Tryz.func272 (by kernel_rfl) rfl rfl rfl rfl (λst=> ?_)
 (try apply wO pk;rfl);(repeat' first|show All _;constructor|(refine aC ?_;refine ⟨_,_,_,rfl,zwr _,zsr _, ?_,rfl⟩;try rfl))
def ahI (p q:Pt):Int:=orI [gZ p.val.n q.val.n,gZ p.dot.dev q.dot.dev,gZ p.dot.seq q.dot.seq]
theorem aqI (p q:Pt):PF Tryz.prog 273 [.agg (apO p), .agg (apO q)] (PV.val (Value.int .i64 (ahI p q))):=by
 have ho:=afS [gZ p.val.n q.val.n,gZ p.dot.dev q.dot.dev,gZ p.dot.seq q.dot.seq] (by simp)
 refine aG aF Tryz.func273 (by kernel_rfl) rfl rfl rfl rfl (λst=> ?_)
 (try apply wO pk;rfl);(repeat' first|show All _;constructor|show Imp _ _;constructor|apply wE pk;rfl;rfl|apply wD pk [] [];kernel_rfl;rfl;rfl|(refine aC ?_;refine ⟨_,_,_,rfl,zwr _,zsr _, ?_,rfl⟩;try rfl)|(apply aH;rfl;rfl;rfl;(intro _;(first|apply (jB p.val.n q.val.n)|apply (jB p.dot.dev q.dot.dev)|apply (jB p.dot.seq q.dot.seq)|apply ho)<;>first|assumption|omega);rotate_left;rfl;rfl))
def dP (p q:Pt):Bool:=decide (p.val.n>q.val.n)||(decide (p.val.n=q.val.n)&&bG p.dot q.dot)
theorem aBF (p q:Pt):decide (ahI p q>=0)= !dP q p:=by
 unfold ahI dP bG gZ
 simp only [orI]
 rw [Bool.eq_iff_iff]
 simp only [zde,Bool.not_eq_true',Bool.or_eq_false_iff,Bool.and_eq_false_iff,decide_eq_false_iff_not]
 grind
def jI (c:Cl):Bool:=decide (c.kind=3/\c.val=Vl.zero)&&xU jE dP c.parts
theorem tU {x:Bool} (h:gw x (decide (((0:Nat):Int)>0)) true=true):False:=by
 cases x<;>simp [gw] at h
theorem aiK (c:Cl) (hl:c.parts.length<4611686018427387904):PF Tryz.prog 176 [.agg c.cells] (PV.val (Value.bool (lR c))):=by
 unfold lR
 by_cases hk:¬(c.kind=1/\c.val=Vl.zero)
 ·rw [decide_eq_false hk,Bool.false_and]
  rw [Vl.ext_iff] at hk
  simp only [Vl.zero] at hk
  refine aG aF Tryz.func176 (by kernel_rfl) rfl rfl rfl rfl (λst=> ?_)
  (try apply wO pk;rfl);(repeat' first|(exfalso;grind)|show All _;constructor|show Imp _ _;constructor|show ImpX _ _ _ _;constructor|apply wC pk;rfl;rfl|refine aA rfl ?_ ?_<;>intro h<;>(try simp at h)<;>try omega|(refine aC ?_;refine ⟨_,_,_,rfl,zwr _,zsr _, ?_,rfl⟩;try first|rfl|(exfalso;grind);done))
 replace hk:=Decidable.of_not_not hk
 rw [decide_eq_true hk,Bool.true_and]
 obtain ⟨k1,k2⟩:=hk
 rw [Vl.ext_iff] at k2
 obtain ⟨k2,k3,k4⟩:=k2
 simp only [Vl.zero] at k2 k3 k4
 refine aG aF Tryz.func176 (by kernel_rfl) rfl rfl rfl rfl (λst=> ?_)
 (try apply wO pk;rfl);(repeat' first|show All _;constructor|show Imp _ _;constructor|show ImpX _ _ _ _;constructor|apply wC pk;rfl;rfl|refine aA rfl ?_ ?_<;>intro h<;>(try simp at h)<;>try omega|(refine aC ?_;refine ⟨_,_,_,rfl,zwr _,zsr _, ?_,rfl⟩;try first|rfl|(exfalso;grind);done))
 refine aK (X:={x:Nat//x<=c.parts.length/\∀j (h:j<x) (h1:j<c.parts.length),(jD c.parts[j]&&(decide (j=0)||bG c.parts[j].dot (c.parts[j-1]'(by omega)).dot))=true}) (λi=>(((((St.nil 79 st).var 1 80 (c.cells)).pv 16 (.seq (c.parts.map Pt.cells))).pv 17 ((PV.val (Value.int .i64 (((c.parts.map Pt.cells).length:Nat)))))).pv 18 ((PV.val (Value.int .i64 ((i.1:Nat))))))) (λi=>c.parts.length-i.1) ⟨0,by omega,λ_ h=>absurd h (Nat.not_lt_zero _)⟩ ?_ (λi=> ?_)
 ·((repeat (first|refine Sub.pv ?_ rfl|refine Sub.var ?_ rfl rfl));exact Sub.nil _ _ _ (zsr _) rfl)
 obtain ⟨i,hi,hI⟩:=i
 dsimp only
 by_cases hend:c.parts.length<=i
 ·have e:=agD (ok:=jD) (bh:=λp q=>bG p.dot q.dot) λj h=>hI j (by omega) h
  (try apply wO pk;rfl);(repeat' first|show All _;constructor|apply wC pk;rfl;rfl|refine aA rfl ?_ ?_<;>intro h<;>(try simp at h)<;>try omega|(refine aC ?_;refine ⟨_,_,_,rfl,zwr _,zsr _, ?_,rfl⟩;try first|rfl|(rw [e]);done))
 have h1:i<c.parts.length:=by omega
 have hF:=azS (ok:=jD) (bh:=λp q=>bG p.dot q.dot) h1
 have hS:(jD c.parts[i]&&(decide (i=0)||bG c.parts[i].dot (c.parts[i-1]'(by omega)).dot))=true->∀j (h:j<i+1) (h1:j<c.parts.length),(jD c.parts[j]&&(decide (j=0)||bG c.parts[j].dot (c.parts[j-1]'(by omega)).dot))=true:=λh j hj h1=>by
  rcases Nat.lt_succ_iff_lt_or_eq.1 hj with q|q
  ·exact hI j q h1
  ·subst q;exact h
 have hv:=iS c.parts[i].val
 by_cases h0:i=0
 ·subst h0
  have hF':¬(jD c.parts[0]=true)->xU jD (λp q=>bG p.dot q.dot) c.parts=false:=λh=>hF (by rw [<-Bool.not_eq_true];intro q;rw [zba] at q;exact h q.1)
  simp only [jD,lL,fI,Dt.ext_iff,Dt.zero,zba,zde] at hF'
  (try apply wO pk;rfl);(repeat' first|show All _;constructor|show Imp _ _;constructor|show ImpX _ _ _ _;constructor|apply wC pk;rfl;rfl|apply wE pk;rfl;rfl|apply wD pk [] [];kernel_rfl;rfl;rfl|refine aA rfl ?_ ?_<;>intro h<;>(try simp at h)<;>try omega|(refine aC ?_;refine ⟨_,_,_,rfl,zwr _,zsr _, ?_,rfl⟩;try first|rfl|(first|rw [hF' (by grind)];done|exact absurd (by assumption:c.parts=[]) (List.ne_nil_of_length_pos h1));done)|(apply aH;rfl;rfl;rfl;(intro _;(first|apply hv|apply (show PF Tryz.prog 270 [_, .agg c.parts[0].dot.cells] (PV.val (Value.int .i64 (0))) from by rename_i hh;exact (tU hh).elim))<;>first|assumption|omega);rotate_left;rfl;rfl)|apply aN pk;(iterate 6 rfl);rotate_left;rfl;(first|(intro hw;exact (show _=((0:Nat):Int) from by exact (tU hw).elim));(intro hw;apply aI<;>omega);(intro _;rfl)|(intro hw;rfl);(intro hw;apply aI<;>omega);(intro _;rfl));rfl|(refine ⟨⟨1,by omega,hS (by simp [jD,lL,fI,Dt.ext_iff,Dt.zero];grind)⟩, ?_,by simp only;omega⟩;((repeat (first|refine Sub.pv ?_ rfl|refine Sub.var ?_ rfl rfl));exact Sub.nil _ _ _ (zsr _) rfl))|intros;(try simp only [zql]);omega)
 obtain ⟨k,rfl⟩:∃k,i=k+1:=⟨i-1,by omega⟩
 have hd:=adZ c.parts[k].dot c.parts[k+1].dot
 have hb:byD c.parts[k].dot c.parts[k+1].dot>=0↔bG c.parts[k+1].dot c.parts[k].dot=false:=by have:=aqT c.parts[k].dot c.parts[k+1].dot;cases h:bG c.parts[k+1].dot c.parts[k].dot<;>simp [h] at this⊢ <;>omega
 have hF':¬(jD c.parts[k+1]=true/\byD c.parts[k].dot c.parts[k+1].dot<0)->xU jD (λp q=>bG p.dot q.dot) c.parts=false:=λh=>hF (by rw [<-Bool.not_eq_true];intro q;rw [zba] at q;exact h ⟨q.1,by have q2:=q.2;simp at q2;grind⟩)
 simp only [jD,lL,fI,Dt.ext_iff,Dt.zero,zba,zde] at hF'
 (try apply wO pk;rfl);(repeat' first|show All _;constructor|show Imp _ _;constructor|show ImpX _ _ _ _;constructor|apply wC pk;rfl;rfl|apply wE pk;rfl;rfl|apply wD pk [] [];kernel_rfl;rfl;rfl|refine aA rfl ?_ ?_<;>intro h<;>(try simp at h)<;>try omega|(refine aC ?_;refine ⟨_,_,_,rfl,zwr _,zsr _, ?_,rfl⟩;try first|rfl|(rw [hF' (by grind)]);done)|(apply aH;rfl;rfl;rfl;(intro _;(first|apply hv|apply hd)<;>first|assumption|omega);rotate_left;rfl;rfl)|apply aN pk;(iterate 6 rfl);rotate_left;rfl;(first|(intro hw;exact (show ((((k+1:Nat):Int))-1=((k:Nat):Int)) from by omega));(intro hw;apply aI<;>omega);(intro _;rfl)|(intro hw;rfl);(intro hw;apply aI<;>omega);(intro _;rfl));rfl|(refine ⟨⟨k+2,by omega,hS (by simp [jD,lL,fI,Dt.ext_iff,Dt.zero];grind)⟩, ?_,by simp only;omega⟩;((repeat (first|refine Sub.pv ?_ rfl|refine Sub.var ?_ rfl rfl));exact Sub.nil _ _ _ (zsr _) rfl))|intros;(try simp only [zql]);omega)
theorem ahQ (c:Cl) (hl:c.parts.length<4611686018427387904):PF Tryz.prog 178 [.agg c.cells] (PV.val (Value.bool (jI c))):=by
 unfold jI
 by_cases hk:¬(c.kind=3/\c.val=Vl.zero)
 ·rw [decide_eq_false hk,Bool.false_and]
  rw [Vl.ext_iff] at hk
  simp only [Vl.zero] at hk
  refine aG aF Tryz.func178 (by kernel_rfl) rfl rfl rfl rfl (λst=> ?_)
  (try apply wO pk;rfl);(repeat' first|(exfalso;grind)|show All _;constructor|show Imp _ _;constructor|show ImpX _ _ _ _;constructor|apply wC pk;rfl;rfl|refine aA rfl ?_ ?_<;>intro h<;>(try simp at h)<;>try omega|(refine aC ?_;refine ⟨_,_,_,rfl,zwr _,zsr _, ?_,rfl⟩;try first|rfl|(exfalso;grind);done))
 replace hk:=Decidable.of_not_not hk
 rw [decide_eq_true hk,Bool.true_and]
 obtain ⟨k1,k2⟩:=hk
 rw [Vl.ext_iff] at k2
 obtain ⟨k2,k3,k4⟩:=k2
 simp only [Vl.zero] at k2 k3 k4
 refine aG aF Tryz.func178 (by kernel_rfl) rfl rfl rfl rfl (λst=> ?_)
 (try apply wO pk;rfl);(repeat' first|show All _;constructor|show Imp _ _;constructor|show ImpX _ _ _ _;constructor|apply wC pk;rfl;rfl|refine aA rfl ?_ ?_<;>intro h<;>(try simp at h)<;>try omega|(refine aC ?_;refine ⟨_,_,_,rfl,zwr _,zsr _, ?_,rfl⟩;try first|rfl|(exfalso;grind);done))
 refine aK (X:={x:Nat//x<=c.parts.length/\∀j (h:j<x) (h1:j<c.parts.length),(jE c.parts[j]&&(decide (j=0)||dP c.parts[j] (c.parts[j-1]'(by omega))))=true}) (λi=>(((((St.nil 85 st).var 1 80 (c.cells)).pv 16 (.seq (c.parts.map Pt.cells))).pv 17 ((PV.val (Value.int .i64 (((c.parts.map Pt.cells).length:Nat)))))).pv 18 ((PV.val (Value.int .i64 ((i.1:Nat))))))) (λi=>c.parts.length-i.1) ⟨0,by omega,λ_ h=>absurd h (Nat.not_lt_zero _)⟩ ?_ (λi=> ?_)
 ·((repeat (first|refine Sub.pv ?_ rfl|refine Sub.var ?_ rfl rfl));exact Sub.nil _ _ _ (zsr _) rfl)
 obtain ⟨i,hi,hI⟩:=i
 dsimp only
 by_cases hend:c.parts.length<=i
 ·have e:=agD (ok:=jE) (bh:=dP) λj h=>hI j (by omega) h
  (try apply wO pk;rfl);(repeat' first|show All _;constructor|apply wC pk;rfl;rfl|refine aA rfl ?_ ?_<;>intro h<;>(try simp at h)<;>try omega|(refine aC ?_;refine ⟨_,_,_,rfl,zwr _,zsr _, ?_,rfl⟩;try first|rfl|(rw [e]);done))
 have h1:i<c.parts.length:=by omega
 have hF:=azS (ok:=jE) (bh:=dP) h1
 have hS:(jE c.parts[i]&&(decide (i=0)||dP c.parts[i] (c.parts[i-1]'(by omega))))=true->∀j (h:j<i+1) (h1:j<c.parts.length),(jE c.parts[j]&&(decide (j=0)||dP c.parts[j] (c.parts[j-1]'(by omega))))=true:=λh j hj h1=>by
  rcases Nat.lt_succ_iff_lt_or_eq.1 hj with q|q
  ·exact hI j q h1
  ·subst q;exact h
 have hv:=iS c.parts[i].val
 by_cases h0:i=0
 ·subst h0
  have hof:=uE c.parts[0]
  have hF':¬(jE c.parts[0]=true)->xU jE (dP) c.parts=false:=λh=>hF (by rw [<-Bool.not_eq_true];intro q;rw [zba] at q;exact h q.1)
  simp only [jE,lL,fI,Dt.ext_iff,Dt.zero,zba,zde] at hF'
  (try apply wO pk;rfl);(repeat' first|show All _;constructor|show Imp _ _;constructor|show ImpX _ _ _ _;constructor|apply wC pk;rfl;rfl|apply wE pk;rfl;rfl|apply wD pk [] [];kernel_rfl;rfl;rfl|refine aA rfl ?_ ?_<;>intro h<;>(try simp at h)<;>try omega|(refine aC ?_;refine ⟨_,_,_,rfl,zwr _,zsr _, ?_,rfl⟩;try first|rfl|(first|rw [hF' (by grind)];done|exact absurd (by assumption:c.parts=[]) (List.ne_nil_of_length_pos h1));done)|(apply aH;rfl;rfl;rfl;(intro _;(first|apply hv|apply hof|apply (show PF Tryz.prog 273 [_,_] (PV.val (Value.int .i64 (0))) from by rename_i hh;exact (tU hh).elim))<;>first|assumption|omega);rotate_left;rfl;rfl)|apply aN pk;(iterate 6 rfl);rotate_left;rfl;(first|(intro hw;exact (show _=((0:Nat):Int) from by exact (tU hw).elim));(intro hw;apply aI<;>omega);(intro _;rfl)|(intro hw;rfl);(intro hw;apply aI<;>omega);(intro _;rfl));rfl|(refine ⟨⟨1,by omega,hS (by simp [jE,lL,fI,Dt.ext_iff,Dt.zero];grind)⟩, ?_,by simp only;omega⟩;((repeat (first|refine Sub.pv ?_ rfl|refine Sub.var ?_ rfl rfl));exact Sub.nil _ _ _ (zsr _) rfl))|intros;(try simp only [zql]);omega)
 obtain ⟨k,rfl⟩:∃k,i=k+1:=⟨i-1,by omega⟩
 have hd1:=uE c.parts[k]
 have hd2:=uE c.parts[k+1]
 have hd:=aqI c.parts[k] c.parts[k+1]
 have hb:ahI c.parts[k] c.parts[k+1]>=0↔dP c.parts[k+1] c.parts[k]=false:=by have:=aBF c.parts[k] c.parts[k+1];cases h:dP c.parts[k+1] c.parts[k]<;>simp [h] at this⊢ <;>omega
 have hF':¬(jE c.parts[k+1]=true/\ahI c.parts[k] c.parts[k+1]<0)->xU jE (dP) c.parts=false:=λh=>hF (by rw [<-Bool.not_eq_true];intro q;rw [zba] at q;exact h ⟨q.1,by have q2:=q.2;simp at q2;grind⟩)
 simp only [jE,lL,fI,Dt.ext_iff,Dt.zero,zba,zde] at hF'
 (try apply wO pk;rfl);(repeat' first|show All _;constructor|show Imp _ _;constructor|show ImpX _ _ _ _;constructor|apply wC pk;rfl;rfl|apply wE pk;rfl;rfl|apply wD pk [] [];kernel_rfl;rfl;rfl|refine aA rfl ?_ ?_<;>intro h<;>(try simp at h)<;>try omega|(refine aC ?_;refine ⟨_,_,_,rfl,zwr _,zsr _, ?_,rfl⟩;try first|rfl|(rw [hF' (by grind)]);done)|(apply aH;rfl;rfl;rfl;(intro _;(first|apply hv|apply hd1|apply hd2|apply hd)<;>first|assumption|omega);rotate_left;rfl;rfl)|apply aN pk;(iterate 6 rfl);rotate_left;rfl;(first|(intro hw;exact (show ((((k+1:Nat):Int))-1=((k:Nat):Int)) from by omega));(intro hw;apply aI<;>omega);(intro _;rfl)|(intro hw;rfl);(intro hw;apply aI<;>omega);(intro _;rfl));rfl|(refine ⟨⟨k+2,by omega,hS (by simp [jE,lL,fI,Dt.ext_iff,Dt.zero];grind)⟩, ?_,by simp only;omega⟩;((repeat (first|refine Sub.pv ?_ rfl|refine Sub.var ?_ rfl rfl));exact Sub.nil _ _ _ (zsr _) rfl))|intros;(try simp only [zql]);omega)
structure Tb where
 name:ByteArray
 cols:List Co
 unique:List Int
 checks:List (List PV)
 foreign:List Fr
 sums:List Su
 deriving Inhabited
def Tb.cells (a:Tb):List PV:=[.val (.string (a.name)), .seq (a.cols.map Co.cells), .seq (a.unique.map I1), .seq a.checks, .seq (a.foreign.map Fr.cells), .seq (a.sums.map Su.cells)]
abbrev Sc :=List Tb
def scC (s:Sc):List PV:=[.seq (s.map Tb.cells)]
theorem awY (fid:FuncId) (caps:List PV) (f:Co->Bool) (l:List Co) (hl:l.length<4611686018427387904) (hf:∀p,PF Tryz.prog fid ([.agg p.cells]++caps) (PV.val (Value.bool (f p)))):PF Tryz.prog 333 [.seq (l.map Co.cells), .fn fid caps] (PV.val (Value.int .i64 (cR f l))):=by
 refine aG aF Tryz.func333 (by kernel_rfl) rfl rfl rfl rfl (λst=> ?_)
 (try apply wO pk;rfl);(repeat' (show All _;constructor))
 refine aK (X:={x:Nat//x<=l.length/\∀j (h:j<x) (h2:j<l.length),f l[j]=false}) (λi=>(((((St.nil 19 st).pv 0 (.seq (l.map Co.cells))).pv 1 (.fn fid caps)).pv 7 ((PV.val (Value.int .i64 ((((l.map Co.cells)).length:Nat)))))).pv 8 ((PV.val (Value.int .i64 ((i.1:Nat))))))) (λi=>l.length-i.1) ⟨0,by omega,by omega⟩ ?_ (λi=> ?_)
 ·((repeat refine Sub.pv ?_ rfl);exact Sub.nil _ _ _ (zsr _) rfl)
 obtain ⟨i,hi,hinv⟩:=i
 dsimp only
 (try apply wO pk;rfl);(repeat' first|show All _;constructor|show Imp _ _;constructor|apply wC pk;rfl;rfl|apply wE pk;rfl;rfl|refine aA rfl ?_ ?_<;>intro h<;>(try simp at h)<;>try omega|(refine aC ?_;refine ⟨_,_,_,rfl,zwr _,zsr _, ?_,rfl⟩;try first|rfl|(first|unfold cR;rw [nJ ‹_› ‹_› hinv];done|unfold cR;rw [mW ‹_› hinv]);done)|(apply aH;rfl;rfl;rfl;(intro _;apply hf<;>first|assumption|omega);rotate_left;rfl;rfl)|apply aN pk;(iterate 6 rfl);rotate_left;rfl;(intro hw;rfl);(intro hw;apply aI<;>omega);(intro _;rfl);rfl|refine ⟨⟨i+1,by omega,λj h1 h2=>by rcases Nat.lt_succ_iff_lt_or_eq.1 h1 with q|q;exact hinv j q h2;subst q;assumption⟩, ?_,by simp only;omega⟩;((repeat refine Sub.pv ?_ rfl);exact Sub.nil _ _ _ (zsr _) rfl)|intros;(try simp only [zql]);omega)
theorem atL (fid:FuncId) (caps:List PV) (f:Su->Bool) (l:List Su) (hl:l.length<4611686018427387904) (hf:∀p,PF Tryz.prog fid ([.agg p.cells]++caps) (PV.val (Value.bool (f p)))):PF Tryz.prog 334 [.seq (l.map Su.cells), .fn fid caps] (PV.val (Value.int .i64 (cR f l))):=by
 refine aG aF Tryz.func334 (by kernel_rfl) rfl rfl rfl rfl (λst=> ?_)
 (try apply wO pk;rfl);(repeat' (show All _;constructor))
 refine aK (X:={x:Nat//x<=l.length/\∀j (h:j<x) (h2:j<l.length),f l[j]=false}) (λi=>(((((St.nil 19 st).pv 0 (.seq (l.map Su.cells))).pv 1 (.fn fid caps)).pv 7 ((PV.val (Value.int .i64 ((((l.map Su.cells)).length:Nat)))))).pv 8 ((PV.val (Value.int .i64 ((i.1:Nat))))))) (λi=>l.length-i.1) ⟨0,by omega,by omega⟩ ?_ (λi=> ?_)
 ·((repeat refine Sub.pv ?_ rfl);exact Sub.nil _ _ _ (zsr _) rfl)
 obtain ⟨i,hi,hinv⟩:=i
 dsimp only
 (try apply wO pk;rfl);(repeat' first|show All _;constructor|show Imp _ _;constructor|apply wC pk;rfl;rfl|apply wE pk;rfl;rfl|refine aA rfl ?_ ?_<;>intro h<;>(try simp at h)<;>try omega|(refine aC ?_;refine ⟨_,_,_,rfl,zwr _,zsr _, ?_,rfl⟩;try first|rfl|(first|unfold cR;rw [nJ ‹_› ‹_› hinv];done|unfold cR;rw [mW ‹_› hinv]);done)|(apply aH;rfl;rfl;rfl;(intro _;apply hf<;>first|assumption|omega);rotate_left;rfl;rfl)|apply aN pk;(iterate 6 rfl);rotate_left;rfl;(intro hw;rfl);(intro hw;apply aI<;>omega);(intro _;rfl);rfl|refine ⟨⟨i+1,by omega,λj h1 h2=>by rcases Nat.lt_succ_iff_lt_or_eq.1 h1 with q|q;exact hinv j q h2;subst q;assumption⟩, ?_,by simp only;omega⟩;((repeat refine Sub.pv ?_ rfl);exact Sub.nil _ _ _ (zsr _) rfl)|intros;(try simp only [zql]);omega)
theorem auS (fid:FuncId) (caps:List PV) (f:Tb->Bool) (l:List Tb) (hl:l.length<4611686018427387904) (hf:∀p,PF Tryz.prog fid ([.agg p.cells]++caps) (PV.val (Value.bool (f p)))):PF Tryz.prog 258 [.seq (l.map Tb.cells), .fn fid caps] (PV.val (Value.int .i64 (cR f l))):=by
 refine aG aF Tryz.func258 (by kernel_rfl) rfl rfl rfl rfl (λst=> ?_)
 (try apply wO pk;rfl);(repeat' (show All _;constructor))
 refine aK (X:={x:Nat//x<=l.length/\∀j (h:j<x) (h2:j<l.length),f l[j]=false}) (λi=>(((((St.nil 19 st).pv 0 (.seq (l.map Tb.cells))).pv 1 (.fn fid caps)).pv 7 ((PV.val (Value.int .i64 ((((l.map Tb.cells)).length:Nat)))))).pv 8 ((PV.val (Value.int .i64 ((i.1:Nat))))))) (λi=>l.length-i.1) ⟨0,by omega,by omega⟩ ?_ (λi=> ?_)
 ·((repeat refine Sub.pv ?_ rfl);exact Sub.nil _ _ _ (zsr _) rfl)
 obtain ⟨i,hi,hinv⟩:=i
 dsimp only
 (try apply wO pk;rfl);(repeat' first|show All _;constructor|show Imp _ _;constructor|apply wC pk;rfl;rfl|apply wE pk;rfl;rfl|refine aA rfl ?_ ?_<;>intro h<;>(try simp at h)<;>try omega|(refine aC ?_;refine ⟨_,_,_,rfl,zwr _,zsr _, ?_,rfl⟩;try first|rfl|(first|unfold cR;rw [nJ ‹_› ‹_› hinv];done|unfold cR;rw [mW ‹_› hinv]);done)|(apply aH;rfl;rfl;rfl;(intro _;apply hf<;>first|assumption|omega);rotate_left;rfl;rfl)|apply aN pk;(iterate 6 rfl);rotate_left;rfl;(intro hw;rfl);(intro hw;apply aI<;>omega);(intro _;rfl);rfl|refine ⟨⟨i+1,by omega,λj h1 h2=>by rcases Nat.lt_succ_iff_lt_or_eq.1 h1 with q|q;exact hinv j q h2;subst q;assumption⟩, ?_,by simp only;omega⟩;((repeat refine Sub.pv ?_ rfl);exact Sub.nil _ _ _ (zsr _) rfl)|intros;(try simp only [zql]);omega)
theorem avV (fid:FuncId) (caps:List PV) (f:Co->Bool) (l:List Co) (hl:l.length<4611686018427387904) (hf:∀p,PF Tryz.prog fid ([.agg p.cells]++caps) (PV.val (Value.bool (f p)))):PF Tryz.prog 263 [.seq (l.map Co.cells), .fn fid caps] (PV.val (Value.bool (l.any f))):=by
 have h:=awY fid caps f l hl hf
 refine aG aF Tryz.func263 (by kernel_rfl) rfl rfl rfl rfl (λst=> ?_)
 (try apply wO pk;rfl);(repeat' first|show All _;constructor|show Imp _ _;constructor|apply wE pk;rfl;rfl|(refine aC ?_;refine ⟨_,_,_,rfl,zwr _,zsr _, ?_,rfl⟩;try first|rfl|(rw [pH]);done)|(apply aH;rfl;rfl;rfl;(intro _;apply h<;>first|assumption|omega);rotate_left;rfl;rfl))
theorem atT (fid:FuncId) (caps:List PV) (f:Su->Bool) (l:List Su) (hl:l.length<4611686018427387904) (hf:∀p,PF Tryz.prog fid ([.agg p.cells]++caps) (PV.val (Value.bool (f p)))):PF Tryz.prog 269 [.seq (l.map Su.cells), .fn fid caps] (PV.val (Value.bool (l.any f))):=by
 have h:=atL fid caps f l hl hf
 refine aG aF Tryz.func269 (by kernel_rfl) rfl rfl rfl rfl (λst=> ?_)
 (try apply wO pk;rfl);(repeat' first|show All _;constructor|show Imp _ _;constructor|apply wE pk;rfl;rfl|(refine aC ?_;refine ⟨_,_,_,rfl,zwr _,zsr _, ?_,rfl⟩;try first|rfl|(rw [pH]);done)|(apply aH;rfl;rfl;rfl;(intro _;apply h<;>first|assumption|omega);rotate_left;rfl;rfl))
def eI (f:Nat->Int) (n:Nat):Int:=orI ((List.range n).map f)
theorem aAp {l:List Int} {i:Nat} (h:i<l.length) (hf:l[i]≠0) (hn:∀j (h:j<i) (h2:j<l.length),l[j]=0):orI l=l[i]:=by
 induction l generalizing i with
 |nil=>simp at h
 |cons a l ih=>
  cases i with
  |zero=>simp only [List.getElem_cons_zero] at hf⊢;rw [orI,if_neg hf]
  |succ i=>
   have h0:=hn 0 (by omega) (by simp)
   simp only [List.getElem_cons_zero] at h0
   rw [orI,if_pos h0]
   simp only [List.getElem_cons_succ] at hf⊢
   exact ih (by simpa using h) hf λj hj h2=>by have:=hn (j+1) (by omega) (by simpa using h2);simpa using this
theorem axW {l:List Int} (hn:∀x∈l,x=0):orI l=0:=by
 induction l with
 |nil=>rfl
 |cons a l ih=>rw [orI,if_pos (hn a (by simp))];exact ih λx hx=>hn x (by simp [hx])
theorem ajQ {f:Nat->Int} {n i:Nat} (h:i<n) (hf:f i≠0) (hn:∀j<i,f j=0):eI f n=f i:=by
 unfold eI
 have:=aAp (l:=(List.range n).map f) (i:=i) (by simpa using h) (by simpa using hf) (λj hj h2=>by simpa using hn j hj)
 simpa using this
theorem ajR {f:Nat->Int} {n:Nat} (hn:∀j<n,f j=0):eI f n=0:=
 axW λx hx=>by
  obtain ⟨j,hj,rfl⟩:=List.mem_map.1 hx
  exact hn j (List.mem_range.1 hj)
theorem iA (fid:FuncId) (caps:List PV) (f:Nat->Int) (n:Nat) (hn:n<4611686018427387904) (hf:∀k,k<n->(∀j<k,f j=0)->PF Tryz.prog fid ([(PV.val (Value.int .i64 ((k:Nat))))]++caps) (PV.val (Value.int .i64 (f k)))):PF Tryz.prog 260 [(PV.val (Value.int .i64 ((n:Nat)))), .fn fid caps] (PV.val (Value.int .i64 (eI f n))):=by
 refine aG aF Tryz.func260 (by kernel_rfl) rfl rfl rfl rfl (λst=> ?_)
 (try apply wO pk;rfl);(repeat' (show All _;constructor))
 refine aK (X:={x:Nat//x<=n/\∀j<x,f j=0}) (λi=>((((St.nil 18 st).pv 1 (.fn fid caps)).pv 7 ((PV.val (Value.int .i64 ((n:Nat)))))).pv 8 ((PV.val (Value.int .i64 ((i.1:Nat))))))) (λi=>n-i.1) ⟨0,by omega,by omega⟩ ?_ (λi=> ?_)
 ·((repeat refine Sub.pv ?_ rfl);exact Sub.nil _ _ _ (zsr _) rfl)
 obtain ⟨i,hi,hinv⟩:=i
 dsimp only
 by_cases hend:n<=i
 ·rw [ajR (f:=f) (n:=n) λj hj=>hinv j (by omega)]
  (try apply wO pk;rfl);(repeat' first|show All _;constructor|apply wC pk;rfl;rfl|refine aA rfl ?_ ?_<;>intro h<;>(try simp at h)<;>try omega|(refine aC ?_;refine ⟨_,_,_,rfl,zwr _,zsr _, ?_,rfl⟩;try first|rfl|(exfalso;omega);done))
 have hfi:=hf i (by omega) hinv
 (try apply wO pk;rfl);(repeat' first|show All _;constructor|show Imp _ _;constructor|apply wC pk;rfl;rfl|apply wE pk;rfl;rfl|refine aA rfl ?_ ?_<;>intro h<;>(try simp at h)<;>try omega|(refine aC ?_;refine ⟨_,_,_,rfl,zwr _,zsr _, ?_,rfl⟩;try first|rfl|(rw [ajQ (by omega) ‹_› hinv]);done)|(apply aH;rfl;rfl;rfl;(intro _;apply hfi<;>first|assumption|omega);rotate_left;rfl;rfl)|refine ⟨⟨i+1,by omega,λj hj=>by rcases Nat.lt_succ_iff_lt_or_eq.1 hj with q|q;exact hinv j q;subst q;assumption⟩, ?_,by simp only;omega⟩;((repeat refine Sub.pv ?_ rfl);exact Sub.nil _ _ _ (zsr _) rfl)|intros;(try simp only [zql]);omega)
end Go.Proofs.YtloecjjehapblaaGreatDoor
