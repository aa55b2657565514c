import Derived.Test.YtcglimangneafaaGreatDoorCkRow
import Derived.Test.YtcglimangneafaaGreatDoorBsPutS
import Derived.Test.YtcglimangneafaaGreatDoorAbsJ
import Derived.Test.YtcglimangneafaaGreatDoorCkNum
import Derived.Test.YtcglimangneafaaGreatDoorAbsG
set_option linter.unusedSimpArgs false
set_option linter.unusedVariables false
namespace Go.Proofs.YtcglimangneafaaGreatDoor
open Go Go.Abs
attribute [local irreducible] Ev PWp
set_option maxRecDepth 10000
set_option maxHeartbeats 4000000
def kP (t:Tb) (rows:List (List Vl)) (b:Bs):List PV:=t.cells++[.seq (rows.map roC), .seq (b.map Da.cells)]
variable (t:Tb) (rows:List (List Vl)) (b:Bs)
theorem aiB (hc:t.cols.length<1000000000000000) (hl:rows.length<1000000000000000) (hr:∀r∈rows,r.length<1000000000000000):PF Tryz.prog 35 [.agg (kP t rows b)] (PV.val (Value.int .i64 (cC (dE t) rows))):=by
  refine aH aD Tryz.func35 (by kernel_rfl) rfl rfl rfl rfl (fun st=> ?_)
  focus ((try (apply wO pk;exact rfl));(repeat' ((show All _;constructor))))
  refine aJ (X:={x:Nat//x≤rows.length∧∀j (h:j<rows.length),j<x→dE t rows[j]=0}) (fun i=>(((((St.nil 22 st).var 1 78 ((kP t rows b))).pv 7 (.seq (rows.map roC))).pv 8 ((PV.val (Value.int .i64 (((rows.map roC).length:Nat)))))).pv 9 ((PV.val (Value.int .i64 ((i.1:Nat))))))) (fun i=>rows.length-i.1) ⟨0,by omega,by omega⟩ ?_ (fun i=> ?_)
  · ((repeat (first|refine Sub.pv ?_ rfl|refine Sub.var ?_ rfl rfl));exact Sub.nil _ _ _ (StSub.refl _) rfl)
  obtain ⟨i,hi,hI⟩:=i
  dsimp only
  by_cases hend:rows.length≤i
  · have e:cC (dE t) rows=0:=eB fun j hj=>hI j hj (by omega)
    (try (apply wO pk;exact rfl));(repeat' (first|(show All _;constructor)|(apply wC pk;(iterate 2 exact rfl))|(refine aA rfl (fun h=> ?_) (fun h=> ?_)<;>(try simp at h)<;>try (exfalso;omega))|(refine aB ?_;refine ⟨_,_,_,rfl,Wk.refl _,StSub.refl _, ?_,rfl⟩;try first|rfl|((rw [e]);done))))
  have hil:i<rows.length:=by omega
  have hk:=amL t rows[i] hc (hr _ (List.getElem_mem hil))
  have e:=gO hI hil
  have hu:=gN hI hil
  generalize dE t rows[i]=E at*
  (try (apply wO pk;exact rfl));(repeat' (first|(show All _;constructor)|(show Imp _ _;constructor)|(apply wC pk;(iterate 2 exact rfl))|(apply wE pk;(iterate 2 exact rfl))|(refine aA rfl (fun h=> ?_) (fun h=> ?_)<;>(try simp at h)<;>try (exfalso;omega))|(refine aB ?_;refine ⟨_,_,_,rfl,Wk.refl _,StSub.refl _, ?_,rfl⟩;try first|rfl|((rw [e (by assumption)]);done))|(apply aI;(iterate 3 exact rfl);(intro _;apply hk<;>first|assumption|omega);rotate_left;(iterate 2 exact rfl))|(apply aM pk;(iterate 6 exact rfl);rotate_left;exact rfl;(intro hw;exact rfl);(intro hw;apply aF<;>omega);(intro _;exact rfl);exact rfl)|(refine ⟨⟨i+1,by omega,hu (by assumption)⟩, ?_,by simp only;omega⟩;((repeat (first|refine Sub.pv ?_ rfl|refine Sub.var ?_ rfl rfl));exact Sub.nil _ _ _ (StSub.refl _) rfl))|(intros;(try simp only [zql]);omega)))
def bF' (b:Bool):PV:=(PV.val (Value.bool (b)))
theorem nD {st:aL} {id:Nat} {a b:Option AObj} (h:st id=none):StSub st (upd (upd st id a) id b):=fun j=>by
  by_cases hj:j=id
  · subst hj;left;exact h
  · right;rw [aG hj,aG hj]
theorem lH {st:aL} {id:Nat} {a:Option AObj} (h:st id=none):StSub st (upd st id a):=fun j=>by
  by_cases hj:j=id
  · subst hj;left;exact h
  · right;rw [aG hj]
theorem afK (hl:rows.length<1000000000000000) (hu:t.unique.length<1000000000000000) (hr:∀u∈t.unique,0≤u∧∀r∈rows,u<r.length):PF Tryz.prog 36 [.agg (kP t rows b)] (PV.val (Value.int .i64 (if fW t rows=false then 8 else 0))):=by
  have hyes:=acB (t:=t) (rows:=rows)
  have hno:=fun j k hj h=>ajZ (t:=t) (rows:=rows) (j:=j) (k:=k) hj h
  generalize fW t rows=B at*
  refine aH aD Tryz.func36 (by kernel_rfl) rfl rfl rfl rfl (fun st=> ?_)
  focus ((try (apply wO pk;exact rfl));(repeat' ((show All _;constructor))))
  refine aJ (X:={x:Nat//x≤t.unique.length∧∀j (h:j<t.unique.length),j<x→pwU t.unique[j].toNat rows}) (fun i=>(((((St.nil 45 st).var 1 78 ((kP t rows b))).pv 10 (.seq (t.unique.map I1))).pv 11 ((PV.val (Value.int .i64 (((t.unique.map I1).length:Nat)))))).pv 12 ((PV.val (Value.int .i64 ((i.1:Nat))))))) (fun i=>t.unique.length-i.1) ⟨0,by omega,by omega⟩ ?_ (fun i=> ?_)
  · ((repeat (first|refine Sub.pv ?_ rfl|refine Sub.var ?_ rfl rfl));exact Sub.nil _ _ _ (StSub.refl _) rfl)
  obtain ⟨i,hi,hI⟩:=i
  dsimp only
  by_cases hend:t.unique.length≤i
  · have e:B=true:=hyes fun j hj=>hI j hj (by omega)
    (try (apply wO pk;exact rfl));(repeat' (first|(show All _;constructor)|(apply wC pk;(iterate 2 exact rfl))|(refine aA rfl (fun h=> ?_) (fun h=> ?_)<;>(try simp at h)<;>try (exfalso;omega))|(refine aB ?_;refine ⟨_,_,_,rfl,Wk.refl _,StSub.refl _, ?_,rfl⟩;try first|rfl|((rw [e];rfl);done))))
  have hil:i<t.unique.length:=by omega
  obtain ⟨hu0,hur⟩:=hr _ (List.getElem_mem hil)
  have hno:=fun k=>hno i k hil
  have hup:pwU t.unique[i].toNat rows→∀j (h:j<t.unique.length),j<i+1→pwU t.unique[j].toNat rows:=fun h j hj hji=>by
    rcases Nat.lt_succ_iff_lt_or_eq.1 hji with q|q
    · exact hI j hj q
    · subst q;exact h
  focus ((try (apply wO pk;exact rfl));(repeat' (first|((apply mkM (enc:=Ie) (f:=bF');exact rfl;intro id hid))|(show All _;constructor)|(show Imp _ _;constructor)|(apply wC pk;(iterate 2 exact rfl))|(apply wE pk;(iterate 2 exact rfl))|(refine aA rfl (fun h=> ?_) (fun h=> ?_)<;>(try simp at h)<;>try (exfalso;omega))|(apply aM pk;(iterate 6 exact rfl);rotate_left;exact rfl;(intro hw;exact rfl);(intro hw;apply aF<;>omega);(intro _;exact rfl);exact rfl)|(intros;(try simp only [zql]);omega))))
  have hid0:st id=none:=hid
  clear hid
  obtain ⟨u,hu⟩:∃u:Nat,t.unique[i]=(u:Int):=⟨t.unique[i].toNat,by omega⟩
  have hto:t.unique[i].toNat=u:=by omega
  rw [hto] at hno hup
  refine aJ (X:={x:Nat//x≤rows.length∧pwU u (rows.take x)}) (fun y=>((((((((((St.nil 45 (upd st id (some (.map (bA Ie bF' (agW u (rows.take y.1))))))).var 1 78 ((kP t rows b))).pv 4 ((PV.val (Value.int .i64 (t.unique[i]))))).pv 5 (.mref id)).pv 10 (.seq (t.unique.map I1))).pv 11 ((PV.val (Value.int .i64 (((t.unique.map I1).length:Nat)))))).pv 12 ((PV.val (Value.int .i64 ((i:Nat)))))).pv 18 (.seq (rows.map roC))).pv 19 ((PV.val (Value.int .i64 (((rows.map roC).length:Nat)))))).pv 20 ((PV.val (Value.int .i64 ((y.1:Nat))))))) (fun y=>rows.length-y.1) ⟨0,by omega,by unfold pwU;simp⟩ ?_ (fun y=> ?_)
  · (((repeat (first|refine Sub.pv ?_ rfl|refine Sub.var ?_ rfl rfl));(exact Sub.nil _ _ _ (StSub.refl _) rfl)))
  obtain ⟨y,hy,hyI⟩:=y
  dsimp only
  by_cases hend2:rows.length≤y
  · rw [List.take_of_length_le hend2] at hyI
    (try (apply wO pk;exact rfl));(repeat' (first|(show All _;constructor)|(apply wC pk;(iterate 2 exact rfl))|(refine aA rfl (fun h=> ?_) (fun h=> ?_)<;>(try simp at h)<;>try (exfalso;omega))|(refine ⟨⟨i+1,by omega,hup hyI⟩, ?_,by simp only;omega⟩;(((repeat (first|refine Sub.pv ?_ rfl|refine Sub.var ?_ rfl rfl));(exact Sub.nil _ _ _ (lH hid0) rfl))))|(intros;(try simp only [zql]);omega)))
  have hyl:y<rows.length:=by omega
  have hru:=hur _ (List.getElem_mem hyl)
  have hru':u<rows[y].length:=by rw [hu] at hru;omega
  have hgu:=getElem!_pos rows[y] u hru'
  have hup2:=asE (u:=u) hyl
  have hno2:=hno (y+1)
  have hget:=apK u rows[y][u]!.n (rows.take y)
  have hmet:=axE u hyl
  rw [hgu] at hup2 hget hmet
  clear hgu
  generalize hM:agW u (rows.take y)=M at*
  generalize ((rows.take y).any fun r=>decide (r[u]!.kind=1)&&decide (r[u]!.n=rows[y][u].n))=Q at*
  by_cases hk:rows[y][u].kind=1
  · rw [if_pos hk] at hmet
    cases Q with
    |true=>
      have e:B=false:=hno2 fun h=>by have:=(hup2.1 h).2 hk;cases this
      (try (apply wO pk;exact rfl));(repeat' (first|(show All _;constructor)|(show Imp _ _;constructor)|(apply wC pk;(iterate 2 exact rfl))|(apply wE pk;(iterate 2 exact rfl))|(refine aA rfl (fun h=> ?_) (fun h=> ?_)<;>(try simp at h)<;>try (exfalso;omega))|(refine aB ?_;first|(refine ⟨_,_,_,rfl,Wk.refl _,StSub.refl _, ?_,rfl⟩;(fail))|(refine ⟨_,_,_,rfl,Wk.refl _,aK (by assumption), ?_,rfl⟩;(((rw [e];rfl);done)))|(refine ⟨_,_,_,rfl,Wk.soft _,StSub.refl _, ?_,rfl⟩;(fail))|(refine ⟨_,_,_,rfl,Wk.soft _,aK (by assumption), ?_,rfl⟩;(fail))|(refine ⟨_,_,_,rfl,Wk.refl _,StSub.refl _, ?_,rfl⟩)|(refine ⟨_,_,_,rfl,Wk.soft _,aK (by assumption), ?_,rfl⟩))|(apply aM pk;(iterate 6 exact rfl);rotate_left;exact rfl;(first|((intro hw;exact rfl);(intro hw;apply aF<;>omega);(intro _;exact rfl))|((intro hw;exact hu);(intro hw;apply aF<;>omega);(intro _;exact rfl)));exact rfl)|(apply lkD pk qW (f:=bF') (z:=false) (k:=rows[y][u].n) (n:=true);(iterate 5 exact rfl);rotate_left;exact rfl;exact aC _ _ _;exact rfl;exact hget)))
    |false=>
      have hw:=hup2.2 ⟨hyI,fun _=>rfl⟩
      (try (apply wO pk;exact rfl));(repeat' (first|(show All _;constructor)|(show Imp _ _;constructor)|(apply wC pk;(iterate 2 exact rfl))|(apply wE pk;(iterate 2 exact rfl))|(refine aA rfl (fun h=> ?_) (fun h=> ?_)<;>(try simp at h)<;>try (exfalso;omega))|(apply aM pk;(iterate 6 exact rfl);rotate_left;exact rfl;(first|((intro hw;exact rfl);(intro hw;apply aF<;>omega);(intro _;exact rfl))|((intro hw;exact hu);(intro hw;apply aF<;>omega);(intro _;exact rfl)));exact rfl)|(apply lkD pk qW (f:=bF') (z:=false) (k:=rows[y][u].n) (n:=false);(iterate 5 exact rfl);rotate_left;exact rfl;exact aC _ _ _;exact rfl;exact hget)|(apply muA pk qW (f:=bF') (k:=rows[y][u].n) (v:=true);(exact .inr rfl);(iterate 5 exact rfl);exact aC _ _ _;exact rfl)|(refine ⟨⟨y+1,by omega,hw⟩, ?_,by simp only;omega⟩;((dsimp only;rw [hmet]));(((repeat (first|refine Sub.pv ?_ rfl|refine Sub.var ?_ rfl rfl));(exact Sub.nil _ _ _ (iO (by first|rfl|exact gQ (by assumption)|((simp only [St.pv,St.put,St.sst,St.setv,St.nil,St.var,gP]);first|done|rfl))) rfl))))|(intros;(try simp only [zql]);omega)))
  · rw [if_neg hk] at hmet
    have hw:=hup2.2 ⟨hyI,fun q=>absurd q hk⟩
    (try (apply wO pk;exact rfl));(repeat' (first|(show All _;constructor)|(show Imp _ _;constructor)|(apply wC pk;(iterate 2 exact rfl))|(apply wE pk;(iterate 2 exact rfl))|(refine aA rfl (fun h=> ?_) (fun h=> ?_)<;>(try simp at h)<;>try (exfalso;omega))|(apply aM pk;(iterate 6 exact rfl);rotate_left;exact rfl;(first|((intro hw;exact rfl);(intro hw;apply aF<;>omega);(intro _;exact rfl))|((intro hw;exact hu);(intro hw;apply aF<;>omega);(intro _;exact rfl)));exact rfl)|(refine ⟨⟨y+1,by omega,hw⟩, ?_,by simp only;omega⟩;((dsimp only;rw [hmet]));(((repeat (first|refine Sub.pv ?_ rfl|refine Sub.var ?_ rfl rfl));(exact Sub.nil _ _ _ (StSub.refl _) rfl))))|(intros;(try simp only [zql]);omega)))
end Go.Proofs.YtcglimangneafaaGreatDoor
namespace Go.Proofs.YtcglimangneafaaGreatDoor
open Go Go.Abs
attribute [local irreducible] Ev PWp
set_option maxRecDepth 10000
set_option maxHeartbeats 4000000
variable (t:Tb) (rows:List (List Vl)) (b:Bs)
theorem aeR (hl:rows.length<1000000000000000) (hx:t.checks.length<1000000000000000) (hk:mB t) (hr:∀r∈rows,X.rowOK r):PF Tryz.prog 37 [.agg (kP t rows b)] (PV.val (Value.int .i64 (cC (exR t) rows))):=by
  refine aH aD Tryz.func37 (by kernel_rfl) rfl rfl rfl rfl (fun st=> ?_)
  focus ((try (apply wO pk;exact rfl));(repeat' ((show All _;constructor))))
  refine aJ (X:={x:Nat//x≤rows.length∧∀j (h:j<rows.length),j<x→exR t rows[j]=0}) (fun i=>(((((St.nil 38 st).var 1 78 ((kP t rows b))).pv 10 (.seq (rows.map roC))).pv 11 ((PV.val (Value.int .i64 (((rows.map roC).length:Nat)))))).pv 12 ((PV.val (Value.int .i64 ((i.1:Nat))))))) (fun i=>rows.length-i.1) ⟨0,by omega,by omega⟩ ?_ (fun i=> ?_)
  · ((repeat (first|refine Sub.pv ?_ rfl|refine Sub.var ?_ rfl rfl));exact Sub.nil _ _ _ (StSub.refl _) rfl)
  obtain ⟨i,hi,hI⟩:=i
  dsimp only
  by_cases hend:rows.length≤i
  · have e:cC (exR t) rows=0:=eB fun j hj=>hI j hj (by omega)
    (try (apply wO pk;exact rfl));(repeat' (first|(show All _;constructor)|(apply wC pk;(iterate 2 exact rfl))|(refine aA rfl (fun h=> ?_) (fun h=> ?_)<;>(try simp at h)<;>try (exfalso;omega))|(refine aB ?_;refine ⟨_,_,_,rfl,Wk.refl _,StSub.refl _, ?_,rfl⟩;try first|rfl|((rw [e]);done))))
  have hil:i<rows.length:=by omega
  have hro:=hr _ (List.getElem_mem hil)
  have e:=gO hI hil
  have hu:=gN hI hil
  focus ((try (apply wO pk;exact rfl));(repeat' (first|(show All _;constructor)|(show Imp _ _;constructor)|(apply wC pk;(iterate 2 exact rfl))|(apply wE pk;(iterate 2 exact rfl))|(refine aA rfl (fun h=> ?_) (fun h=> ?_)<;>(try simp at h)<;>try (exfalso;omega))|(apply aM pk;(iterate 6 exact rfl);rotate_left;exact rfl;(intro hw;exact rfl);(intro hw;apply aF<;>omega);(intro _;exact rfl);exact rfl)|(intros;(try simp only [zql]);omega))))
  refine aJ (X:={x:Nat//x≤t.checks.length∧∀j (h:j<t.checks.length),j<x→chE (X.EvalR (exOf t.checks[j]) rows[i])=0}) (fun y=>(((((((((St.nil 38 st).var 1 78 ((kP t rows b))).pv 4 (.seq (rows[i].map Vl.cells))).pv 10 (.seq (rows.map roC))).pv 11 ((PV.val (Value.int .i64 (((rows.map roC).length:Nat)))))).pv 12 ((PV.val (Value.int .i64 ((i:Nat)))))).pv 18 (.seq t.checks)).pv 19 ((PV.val (Value.int .i64 ((t.checks.length:Nat)))))).pv 20 ((PV.val (Value.int .i64 ((y.1:Nat))))))) (fun y=>t.checks.length-y.1) ⟨0,by omega,by omega⟩ ?_ (fun y=> ?_)
  · ((repeat (first|refine Sub.pv ?_ rfl|refine Sub.var ?_ rfl rfl));exact Sub.nil _ _ _ (StSub.refl _) rfl)
  obtain ⟨y,hy,hyI⟩:=y
  dsimp only
  by_cases hend2:t.checks.length≤y
  · have e2:exR t rows[i]=0:=eB fun j hj=>hyI j hj (by omega)
    (try (apply wO pk;exact rfl));(repeat' (first|(show All _;constructor)|(apply wC pk;(iterate 2 exact rfl))|(refine aA rfl (fun h=> ?_) (fun h=> ?_)<;>(try simp at h)<;>try (exfalso;omega))|(refine ⟨⟨i+1,by omega,hu e2⟩, ?_,by simp only;omega⟩;((repeat (first|refine Sub.pv ?_ rfl|refine Sub.var ?_ rfl rfl));exact Sub.nil _ _ _ (StSub.refl _) rfl))|(intros;(try simp only [zql]);omega)))
  have hyl:y<t.checks.length:=by omega
  obtain ⟨hok,hcc⟩:=nN (hk _ (List.getElem_mem hyl))
  have he:=gO (f:=fun c=>chE (X.EvalR (exOf c) rows[i])) hyI hyl
  have hyu:=gN (f:=fun c=>chE (X.EvalR (exOf c) rows[i])) hyI hyl
  change chE _≠0→exR t rows[i]=chE _ at he
  change chE (X.EvalR (exOf t.checks[y]) rows[i])=0→_ at hyu
  have hE:=X.Eval_spec hok hro
  have hget:t.checks[y]?=some (exOf t.checks[y]).cells:=by rw [hcc,List.getElem?_eq_getElem hyl]
  generalize X.EvalR (exOf t.checks[y]) rows[i]=p at*
  generalize exOf t.checks[y]=x at*
  obtain ⟨xk,xn,xv,xo⟩:=x
  obtain ⟨⟨v1,v2,v3⟩,pe⟩:=p
  have hfin:chE (⟨v1,v2,v3⟩,pe)≠0→cC (exR t) rows=chE (⟨v1,v2,v3⟩,pe):=fun h=>by
    have:=he h
    rw [e (by rw [this];exact h),this]
  by_cases h1:pe=0
  · by_cases h2:v1=1∧v2=0∧v3=e0
    · have e9:chE (⟨v1,v2,v3⟩,pe)=9:=by unfold chE;rw [if_pos h1,if_pos (by simp [h2])]
      rw [e9] at hfin
      have hf:=hfin (by decide)
      obtain ⟨rfl,rfl,rfl⟩:=h2
      (try (apply wO pk;exact rfl));(repeat' (first|(show All _;constructor)|(show Imp _ _;constructor)|(apply wC pk;(iterate 2 exact rfl))|(apply wE pk;(iterate 2 exact rfl))|(refine aA rfl (fun h=> ?_) (fun h=> ?_)<;>(try simp at h)<;>try (exfalso;omega))|(refine aB ?_;refine ⟨_,_,_,rfl,Wk.refl _,StSub.refl _, ?_,rfl⟩;try first|rfl|((rw [hf]);done))|(apply aI;(iterate 3 exact rfl);(intro _;apply hE<;>first|assumption|omega);rotate_left;(iterate 2 exact rfl))|(apply aM pk;(iterate 6 exact rfl);rotate_left;exact rfl;(intro hw;exact rfl);(intro hw;apply hget<;>omega);(intro _;exact rfl);exact rfl)))
    · have e0':chE (⟨v1,v2,v3⟩,pe)=0:=by unfold chE;rw [if_pos h1,if_neg (fun q=>h2 (by simpa using q))]
      have hw:=hyu e0'
      (try (apply wO pk;exact rfl));(repeat' (first|(show All _;constructor)|(show Imp _ _;constructor)|(apply wC pk;(iterate 2 exact rfl))|(apply wE pk;(iterate 2 exact rfl))|(refine aA rfl (fun h=> ?_) (fun h=> ?_)<;>(try simp at h)<;>try (exfalso;omega))|(refine aB ?_;refine ⟨_,_,_,rfl,Wk.refl _,StSub.refl _, ?_,rfl⟩;try rfl)|(apply aI;(iterate 3 exact rfl);(intro _;apply hE<;>first|assumption|omega);rotate_left;(iterate 2 exact rfl))|(apply aM pk;(iterate 6 exact rfl);rotate_left;exact rfl;(intro hw;exact rfl);(intro hw;apply hget<;>omega);(intro _;exact rfl);exact rfl)|(refine ⟨⟨y+1,by omega,hw⟩, ?_,by simp only;omega⟩;((repeat (first|refine Sub.pv ?_ rfl|refine Sub.var ?_ rfl rfl));exact Sub.nil _ _ _ (StSub.refl _) rfl))|(intros;(try simp only [zql]);omega)|((exfalso;simp_all;done))))
  · have e1:chE (⟨v1,v2,v3⟩,pe)=pe:=by unfold chE;rw [if_neg h1]
    rw [e1] at hfin
    have hf:=hfin h1
    (try (apply wO pk;exact rfl));(repeat' (first|(show All _;constructor)|(show Imp _ _;constructor)|(apply wC pk;(iterate 2 exact rfl))|(apply wE pk;(iterate 2 exact rfl))|(refine aA rfl (fun h=> ?_) (fun h=> ?_)<;>(try simp at h)<;>try (exfalso;omega))|(refine aB ?_;refine ⟨_,_,_,rfl,Wk.refl _,StSub.refl _, ?_,rfl⟩;try first|rfl|((rw [hf]);done))|(apply aI;(iterate 3 exact rfl);(intro _;apply hE<;>first|assumption|omega);rotate_left;(iterate 2 exact rfl))|(apply aM pk;(iterate 6 exact rfl);rotate_left;exact rfl;(intro hw;exact rfl);(intro hw;apply hget<;>omega);(intro _;exact rfl);exact rfl)))
theorem aaP (hl:rows.length<1000000000000000) (hx:t.foreign.length<1000000000000000) (hr:∀f∈t.foreign,0≤f.col∧∀r∈rows,f.col<r.length) {n:Nat} (hb:BsS n b) (hn:n≤1000):PF Tryz.prog 38 [.agg (kP t rows b)] (PV.val (Value.int .i64 (if kJ b t rows=false then 10 else 0))):=by
  have hyes:(∀j (h:j<t.foreign.length),(rows.all fun r=> !decide (r[t.foreign[j].col.toNat]!.kind=1)||(dH (aV b t.foreign[j].table) r[t.foreign[j].col.toNat]!.n).isSome)=true)→kJ b t rows=true:=fun h=>by
    unfold kJ
    rw [List.all_eq_true]
    intro f hf
    obtain ⟨j,hj,rfl⟩:=List.getElem_of_mem hf
    exact h j hj
  have hno:∀j (h:j<t.foreign.length),(rows.all fun r=> !decide (r[t.foreign[j].col.toNat]!.kind=1)||(dH (aV b t.foreign[j].table) r[t.foreign[j].col.toNat]!.n).isSome)=false→kJ b t rows=false:=fun j hj h=>by
    unfold kJ
    rw [←Bool.not_eq_true,List.all_eq_true]
    intro q
    rw [q _ (List.getElem_mem hj)] at h;cases h
  generalize kJ b t rows=B at*
  refine aH aD Tryz.func38 (by kernel_rfl) rfl rfl rfl rfl (fun st=> ?_)
  focus ((try (apply wO pk;exact rfl));(repeat' ((show All _;constructor))))
  refine aJ (X:={x:Nat//x≤t.foreign.length∧∀j (h:j<t.foreign.length),j<x→(rows.all fun r=> !decide (r[t.foreign[j].col.toNat]!.kind=1)||(dH (aV b t.foreign[j].table) r[t.foreign[j].col.toNat]!.n).isSome)=true}) (fun i=>(((((St.nil 51 st).var 1 78 ((kP t rows b))).pv 11 (.seq (t.foreign.map Fr.cells))).pv 12 ((PV.val (Value.int .i64 (((t.foreign.map Fr.cells).length:Nat)))))).pv 13 ((PV.val (Value.int .i64 ((i.1:Nat))))))) (fun i=>t.foreign.length-i.1) ⟨0,by omega,by omega⟩ ?_ (fun i=> ?_)
  · ((repeat (first|refine Sub.pv ?_ rfl|refine Sub.var ?_ rfl rfl));exact Sub.nil _ _ _ (StSub.refl _) rfl)
  obtain ⟨i,hi,hI⟩:=i
  dsimp only
  by_cases hend:t.foreign.length≤i
  · have e:B=true:=hyes fun j hj=>hI j hj (by omega)
    (try (apply wO pk;exact rfl));(repeat' (first|(show All _;constructor)|(apply wC pk;(iterate 2 exact rfl))|(refine aA rfl (fun h=> ?_) (fun h=> ?_)<;>(try simp at h)<;>try (exfalso;omega))|(refine aB ?_;refine ⟨_,_,_,rfl,Wk.refl _,StSub.refl _, ?_,rfl⟩;try first|rfl|((rw [e];rfl);done))))
  have hil:i<t.foreign.length:=by omega
  obtain ⟨hf0,hfr⟩:=hr _ (List.getElem_mem hil)
  have hno:=hno i hil
  have hup:(rows.all fun r=> !decide (r[t.foreign[i].col.toNat]!.kind=1)||(dH (aV b t.foreign[i].table) r[t.foreign[i].col.toNat]!.n).isSome)=true→∀j (h:j<t.foreign.length),j<i+1→(rows.all fun r=> !decide (r[t.foreign[j].col.toNat]!.kind=1)||(dH (aV b t.foreign[j].table) r[t.foreign[j].col.toNat]!.n).isSome)=true:=fun h j hj hji=>by
    rcases Nat.lt_succ_iff_lt_or_eq.1 hji with q|q
    · exact hI j hj q
    · subst q;exact h
  focus ((try (apply wO pk;exact rfl));(repeat' (first|(show All _;constructor)|(show Imp _ _;constructor)|(apply wC pk;(iterate 2 exact rfl))|(apply wE pk;(iterate 2 exact rfl))|(refine aA rfl (fun h=> ?_) (fun h=> ?_)<;>(try simp at h)<;>try (exfalso;omega))|(apply aM pk;(iterate 6 exact rfl);rotate_left;exact rfl;(intro hw;exact rfl);(intro hw;apply aF<;>omega);(intro _;exact rfl);exact rfl)|(intros;(try simp only [zql]);omega))))
  refine aJ (X:={x:Nat//x≤rows.length∧∀j (h:j<rows.length),j<x→(!decide (rows[j][t.foreign[i].col.toNat]!.kind=1)||(dH (aV b t.foreign[i].table) rows[j][t.foreign[i].col.toNat]!.n).isSome)=true}) (fun y=>(((((((((St.nil 51 st).var 1 78 ((kP t rows b))).var 4 49 (t.foreign[i].cells)).pv 11 (.seq (t.foreign.map Fr.cells))).pv 12 ((PV.val (Value.int .i64 (((t.foreign.map Fr.cells).length:Nat)))))).pv 13 ((PV.val (Value.int .i64 ((i:Nat)))))).pv 18 (.seq (rows.map roC))).pv 19 ((PV.val (Value.int .i64 (((rows.map roC).length:Nat)))))).pv 20 ((PV.val (Value.int .i64 ((y.1:Nat))))))) (fun y=>rows.length-y.1) ⟨0,by omega,by omega⟩ ?_ (fun y=> ?_)
  · ((repeat (first|refine Sub.pv ?_ rfl|refine Sub.var ?_ rfl rfl));exact Sub.nil _ _ _ (StSub.refl _) rfl)
  obtain ⟨y,hy,hyI⟩:=y
  dsimp only
  by_cases hend2:rows.length≤y
  · have hw:=hup (by
      rw [List.all_eq_true]
      intro r hr
      obtain ⟨j,hj,rfl⟩:=List.getElem_of_mem hr
      exact hyI j hj (by omega))
    (try (apply wO pk;exact rfl));(repeat' (first|(show All _;constructor)|(apply wC pk;(iterate 2 exact rfl))|(refine aA rfl (fun h=> ?_) (fun h=> ?_)<;>(try simp at h)<;>try (exfalso;omega))|(refine ⟨⟨i+1,by omega,hw⟩, ?_,by simp only;omega⟩;((repeat (first|refine Sub.pv ?_ rfl|refine Sub.var ?_ rfl rfl));exact Sub.nil _ _ _ (StSub.refl _) rfl))|(intros;(try simp only [zql]);omega)))
  have hyl:y<rows.length:=by omega
  have hcr:=hfr _ (List.getElem_mem hyl)
  have hG:=anR hb hn t.foreign[i].table rows[y][t.foreign[i].col.toNat]!.n
  have hno2:(!decide (rows[y][t.foreign[i].col.toNat]!.kind=1)||(dH (aV b t.foreign[i].table) rows[y][t.foreign[i].col.toNat]!.n).isSome)=false→B=false:=fun h=>hno (by
    rw [←Bool.not_eq_true,List.all_eq_true]
    intro q
    rw [q _ (List.getElem_mem hyl)] at h;cases h)
  have hyu:(!decide (rows[y][t.foreign[i].col.toNat]!.kind=1)||(dH (aV b t.foreign[i].table) rows[y][t.foreign[i].col.toNat]!.n).isSome)=true→∀j (h:j<rows.length),j<y+1→(!decide (rows[j][t.foreign[i].col.toNat]!.kind=1)||(dH (aV b t.foreign[i].table) rows[j][t.foreign[i].col.toNat]!.n).isSome)=true:=fun h j hj hji=>by
    rcases Nat.lt_succ_iff_lt_or_eq.1 hji with q|q
    · exact hyI j hj q
    · subst q;exact h
  have hci:t.foreign[i].col=((t.foreign[i].col.toNat:Nat):Int):=by omega
  have hlt:t.foreign[i].col.toNat<rows[y].length:=by omega
  have hgu:=getElem!_pos rows[y] t.foreign[i].col.toNat hlt
  rw [hgu] at hG hno2 hyu
  clear hgu
  generalize (dH (aV b t.foreign[i].table) rows[y][t.foreign[i].col.toNat].n).isSome=G at*
  cases G<;>by_cases hk1:rows[y][t.foreign[i].col.toNat].kind=1
  · have e:B=false:=hno2 (by simp [hk1])
    (try (apply wO pk;exact rfl));(repeat' (first|(show All _;constructor)|(show Imp _ _;constructor)|(show ImpX _ _ _ _;constructor)|(apply wC pk;(iterate 2 exact rfl))|(apply wE pk;(iterate 2 exact rfl))|(apply wD pk [] [];kernel_rfl;exact rfl;exact rfl)|(refine aA rfl (fun h=> ?_) (fun h=> ?_)<;>(try simp at h)<;>try (exfalso;omega))|(refine aB ?_;refine ⟨_,_,_,rfl,Wk.refl _,StSub.refl _, ?_,rfl⟩;try first|rfl|((rw [e];rfl);done))|(apply aI;(iterate 3 exact rfl);(intro _;apply hG<;>first|assumption|omega);rotate_left;(iterate 2 exact rfl))|(apply aM pk;(iterate 6 exact rfl);rotate_left;exact rfl;(first|((intro hw;exact rfl);(intro hw;apply aF<;>omega);(intro _;exact rfl))|((intro hw;exact hci);(intro hw;apply aF<;>omega);(intro _;exact rfl)));exact rfl)))
  · have hw:=hyu (by simp [hk1])
    (try (apply wO pk;exact rfl));(repeat' (first|(show All _;constructor)|(show Imp _ _;constructor)|(show ImpX _ _ _ _;constructor)|(apply wC pk;(iterate 2 exact rfl))|(apply wE pk;(iterate 2 exact rfl))|(apply wD pk [] [];kernel_rfl;exact rfl;exact rfl)|(refine aA rfl (fun h=> ?_) (fun h=> ?_)<;>(try simp at h)<;>try (exfalso;omega))|(apply aI;(iterate 3 exact rfl);(intro _;apply hG<;>first|assumption|omega);rotate_left;(iterate 2 exact rfl))|(apply aM pk;(iterate 6 exact rfl);rotate_left;exact rfl;(first|((intro hw;exact rfl);(intro hw;apply aF<;>omega);(intro _;exact rfl))|((intro hw;exact hci);(intro hw;apply aF<;>omega);(intro _;exact rfl)));exact rfl)|(refine ⟨⟨y+1,by omega,hw⟩, ?_,by simp only;omega⟩;((repeat (first|refine Sub.pv ?_ rfl|refine Sub.var ?_ rfl rfl));exact Sub.nil _ _ _ (StSub.refl _) rfl))|(intros;(try simp only [zql]);omega)))
  · have hw:=hyu (by simp)
    (try (apply wO pk;exact rfl));(repeat' (first|(show All _;constructor)|(show Imp _ _;constructor)|(show ImpX _ _ _ _;constructor)|(apply wC pk;(iterate 2 exact rfl))|(apply wE pk;(iterate 2 exact rfl))|(apply wD pk [] [];kernel_rfl;exact rfl;exact rfl)|(refine aA rfl (fun h=> ?_) (fun h=> ?_)<;>(try simp at h)<;>try (exfalso;omega))|(apply aI;(iterate 3 exact rfl);(intro _;apply hG<;>first|assumption|omega);rotate_left;(iterate 2 exact rfl))|(apply aM pk;(iterate 6 exact rfl);rotate_left;exact rfl;(first|((intro hw;exact rfl);(intro hw;apply aF<;>omega);(intro _;exact rfl))|((intro hw;exact hci);(intro hw;apply aF<;>omega);(intro _;exact rfl)));exact rfl)|(refine ⟨⟨y+1,by omega,hw⟩, ?_,by simp only;omega⟩;((repeat (first|refine Sub.pv ?_ rfl|refine Sub.var ?_ rfl rfl));exact Sub.nil _ _ _ (StSub.refl _) rfl))|(intros;(try simp only [zql]);omega)))
  · have hw:=hyu (by simp)
    (try (apply wO pk;exact rfl));(repeat' (first|(show All _;constructor)|(show Imp _ _;constructor)|(show ImpX _ _ _ _;constructor)|(apply wC pk;(iterate 2 exact rfl))|(apply wE pk;(iterate 2 exact rfl))|(apply wD pk [] [];kernel_rfl;exact rfl;exact rfl)|(refine aA rfl (fun h=> ?_) (fun h=> ?_)<;>(try simp at h)<;>try (exfalso;omega))|(apply aI;(iterate 3 exact rfl);(intro _;apply hG<;>first|assumption|omega);rotate_left;(iterate 2 exact rfl))|(apply aM pk;(iterate 6 exact rfl);rotate_left;exact rfl;(first|((intro hw;exact rfl);(intro hw;apply aF<;>omega);(intro _;exact rfl))|((intro hw;exact hci);(intro hw;apply aF<;>omega);(intro _;exact rfl)));exact rfl)|(refine ⟨⟨y+1,by omega,hw⟩, ?_,by simp only;omega⟩;((repeat (first|refine Sub.pv ?_ rfl|refine Sub.var ?_ rfl rfl));exact Sub.nil _ _ _ (StSub.refl _) rfl))|(intros;(try simp only [zql]);omega)))
end Go.Proofs.YtcglimangneafaaGreatDoor
