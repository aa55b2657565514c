import Derived.Test.YtcglimangneafaaGreatDoorCkRow
import Derived.Test.YtcglimangneafaaGreatDoorXpT
set_option linter.unusedSimpArgs false
set_option linter.unusedVariables false
namespace Go.Proofs.YtcglimangneafaaGreatDoor.X
open Go Go.Abs
attribute [local irreducible] Ev PWp
set_option maxRecDepth 10000
set_option maxHeartbeats 4000000
def Ex.lit (e:Ex):List PV:=[(PV.val (Value.int .i64 (e.k))),(PV.val (Value.int .i64 (e.n))),(PV.val (Value.int .i64 (e.v.kind))),(PV.val (Value.int .i64 (e.v.n))),(PV.val (Value.string (e.v.s))), .seq (Ex.rows e.of)]
theorem Ex.lit_eq (e:Ex):e.lit=e.cells:=by cases e;simp [Ex.lit,Ex.cells,Ex.k,Ex.n,Ex.v,Ex.of]
theorem Ex.ok' {e:Ex} (h:e.ok):e.of.length<2^62∧Ex.oks e.of:=by cases e;simpa [Ex.ok,Ex.of] using h
theorem Ex.rows_at {l:List Ex} {i:Nat} (h:i<l.length):(Ex.rows l)[i]?=some (l[i]'h).lit:=by rw [Ex.lit_eq];exact Ex.rows_get (by simp [h])
attribute [local simp] Vl.eta Ex.rows_len nR yJ
theorem aeD {k n:Int} {b:ByteArray}:PF Tryz.prog 205 [.agg [(PV.val (Value.int .i64 (k))),(PV.val (Value.int .i64 (n))),(PV.val (Value.string (b)))]] (PV.val (Value.bool (rightV ⟨k,n,b⟩))):=by
  refine aH aD Tryz.func205 (by kernel_rfl) rfl rfl rfl rfl (fun st=> ?_)
  (try (apply wO pk;exact rfl));(repeat' (first|(show All _;constructor)|(show Imp _ _;constructor)|(show ImpX _ _ _ _;constructor)|(apply wC pk;(iterate 2 exact rfl))|(refine aA rfl (fun h=> ?_) (fun h=> ?_)<;>(try simp at h)<;>try (exfalso;omega))|(refine aB ?_;refine ⟨_,_,_,rfl,Wk.refl _,StSub.refl _, ?_,rfl⟩;try first|rfl|(simp_all [rightV];done))))
def fV (k a b:Int):Bool:=if k=2∨k=3∨k=4∨k=7∨k=8∨k=9 then (decide (a=0)||decide (a=1))&&(decide (b=0)||decide (b=1)) else if k=5∨k=6 then decide (a=b)||decide (a=0)||decide (b=0) else true
theorem rG {k a b:Int}:PF Tryz.prog 152 [(PV.val (Value.int .i64 (k))),(PV.val (Value.int .i64 (a))),(PV.val (Value.int .i64 (b)))] (PV.val (Value.bool (fV k a b))):=by
  refine aH aD Tryz.func152 (by kernel_rfl) rfl rfl rfl rfl (fun st=> ?_)
  (try (apply wO pk;exact rfl));(repeat' (first|(show All _;constructor)|(show Imp _ _;constructor)|(show ImpX _ _ _ _;constructor)|(apply wC pk;(iterate 2 exact rfl))|(refine aA rfl (fun h=> ?_) (fun h=> ?_)<;>(try simp at h)<;>try (exfalso;omega))|(refine aB ?_;refine ⟨_,_,_,rfl,Wk.refl _,StSub.refl _, ?_,rfl⟩;try first|rfl|(simp_all [fV];done))))
def eW :Nat→Ex→Int
  |0,_=>1
  |l+1,e=>e.of.foldl (fun n x=>max n (1+eW l x)) 1
theorem vU (f:Int→Ex→Int) (B:Int) (hf:∀n x,n≤B→f n x≤B):∀(l:List Ex) (n:Int),n≤B→l.foldl f n≤B
  |[],n,h=>h
  |x::l,n,h=>vU f B hf l _ (hf n x h)
theorem xE (f:Int→Ex→Int) (hf:∀n x,n≤f n x):∀(l:List Ex) (n:Int),n≤l.foldl f n
  |[],n=>Int.le_refl _
  |x::l,n=>Int.le_trans (hf n x) (xE f hf l _)
theorem kI :∀(l:Nat) (e:Ex),eW l e≤l+1∧1≤eW l e
  |0,_=>by simp [eW]
  |l+1,e=>by
    simp only [eW]
    refine ⟨vU _ _ (fun n x h=> ?_) _ _ (by omega),xE _ (fun n x=>by omega) _ _⟩
    have:=(kI l x).1
    omega
theorem vY (l:Nat) (hl:∀x,(eW l x=l+1)↔dF l x=true):∀(os:List Ex) (n:Int),n≤l+2→(os.foldl (fun n x=>max n (1+eW l x)) n=l+2↔(n=l+2∨os.any (dF l)=true))
  |[],n,_=>by simp
  |x::os,n,h=>by
    have h1:=kI l x
    rw [List.foldl_cons,vY l hl os _ (by omega),List.any_cons,Bool.or_eq_true,←hl x]
    constructor
    · rintro (h2|h2)
      · by_cases h3:n=l+2
        · exact .inl h3
        · exact .inr (.inl (by omega))
      · exact .inr (.inr h2)
    · rintro (h2|h2|h2)
      · exact .inl (by omega)
      · exact .inl (by omega)
      · exact .inr h2
theorem vB :∀(l:Nat) (e:Ex),(eW l e=l+1)↔dF l e=true
  |0,_=>by simp [eW,dF]
  |l+1,e=>by
    simp only [eW,dF]
    have:=vY l (vB l) e.of 1 (by omega)
    rw [show ((l+1:Nat):Int)+1=l+2 from by omega,this]
    constructor
    · rintro (h|h)
      · omega
      · exact h
    · exact .inr
def kW (l:Nat) (of:List Ex) (i:Nat):Int:=(of.take i).foldl (fun n x=>max n (1+eW l x)) 1
theorem abY (l:Nat) {of:List Ex} {i:Nat} {x:Ex} (h:of[i]?=some x):kW l of (i+1)=max (kW l of i) (1+eW l x):=by
  unfold kW
  have hl:i<of.length:=(List.getElem?_eq_some_iff.1 h).1
  rw [List.take_succ_eq_append_getElem hl,List.foldl_append]
  have:of[i]=x:=(List.getElem?_eq_some_iff.1 h).2
  simp [this]
theorem anL (l:Nat) (of:List Ex) (i:Nat):kW l of i≤l+2∧1≤kW l of i:=by
  unfold kW
  exact ⟨vU _ _ (fun n x h=>by have:=(kI l x).1;omega) _ _ (by omega),xE _ (fun n x=>by omega) _ _⟩
theorem Ex.oks_at {l:List Ex} (h:Ex.oks l) {i:Nat} (hi:i<l.length):(l[i]'hi).ok:=Ex.oks_mem h (List.getElem_mem hi)
theorem ahM {α:Type} {l:List α} {i:Nat} (hi:i<l.length):l[i]?=some (l[i]'hi):=by simp [hi]
theorem vL :∀(left:Nat) (e:Ex) (z:Int),z=(left:Nat)→left≤1000→e.ok→PF Tryz.prog 150 [.agg e.lit,(PV.val (Value.int .i64 (z)))] (PV.val (Value.int .i64 (eW left e)))
  |left,e,z,hz,hl,hok=>by
    have hok:=Ex.ok' hok
    have ih:∀(l:Nat) (i:Nat) (hi:i<e.of.length) (z:Int),left=l+1→z=(l:Nat)→PF Tryz.prog 150 [.agg (e.of[i]'hi).lit,(PV.val (Value.int .i64 (z)))] (PV.val (Value.int .i64 (eW l (e.of[i]'hi)))):=fun l i hi z hl' hz=>vL l _ z hz (by omega) (Ex.oks_at hok.2 hi)
    refine aH aD Tryz.func150 (by kernel_rfl) rfl rfl rfl rfl (fun st=> ?_)
    (try (apply wO pk;exact rfl));(repeat' ((show All _;constructor)))
    refine aJ (X:={i:Nat//i≤e.of.length∧(left=0→i=0)}) (fun i=>(((((St.nil 30 st).pv 1 ((PV.val (Value.int .i64 (z))))).var 2 75 (e.lit)).pv 5 ((PV.val (Value.int .i64 (kW (left-1) e.of i.1))))).pv 6 ((PV.val (Value.int .i64 ((i.1:Nat))))))) (fun i=>e.of.length-i.1) ⟨0,by omega,by omega⟩ ?_ (fun i=> ?_)
    · ((repeat (first|refine Sub.pv ?_ rfl|refine Sub.var ?_ rfl rfl));exact Sub.nil _ _ _ (StSub.refl _) rfl)
    obtain ⟨i,hi,h0⟩:=i
    dsimp only
    have h2:=anL (left-1) e.of i
    rcases Nat.lt_or_ge i e.of.length with hlt|hlt
    · have h3:=abY (left-1) (ahM hlt)
      have h4:=kI (left-1) (e.of[i]'hlt)
      have ih:=fun z=>ih (left-1) i hlt z
      (try (apply wO pk;exact rfl));(repeat' (first|(show All _;constructor)|(show Imp _ _;constructor)|(show ImpX _ _ _ _;constructor)|(apply wC pk;(iterate 2 exact rfl))|(apply wE pk;(iterate 2 exact rfl))|(refine aA rfl (fun h=> ?_) (fun h=> ?_)<;>(try simp at h)<;>try (exfalso;omega))|(refine aB ?_;refine ⟨_,_,_,rfl,Wk.refl _,StSub.refl _, ?_,rfl⟩;try first|rfl|((rcases left with _|left)<;>simp_all [eW,kW]<;>omega;done))|(apply aI;(iterate 3 exact rfl);(intro _;apply ih<;>first|assumption|omega);rotate_left;(iterate 2 exact rfl))|(apply aM pk;(iterate 6 exact rfl);rotate_left;exact rfl;(intro hw;exact rfl);(intro hw;apply Ex.rows_at<;>omega);(intro _;exact rfl);exact rfl)|(refine ⟨⟨i+1,by omega,by omega⟩, ?_,by simp only;omega⟩;((repeat (first|refine Sub.pv ?_ rfl|refine Sub.var ?_ rfl rfl|refine Sub.pv' ?_ rfl (by rw [h3])));exact Sub.nil _ _ _ (StSub.refl _) rfl))|(intros;(try simp only [zql]);omega)))
    · (try (apply wO pk;exact rfl));(repeat' (first|(show All _;constructor)|(show Imp _ _;constructor)|(show ImpX _ _ _ _;constructor)|(apply wC pk;(iterate 2 exact rfl))|(refine aA rfl (fun h=> ?_) (fun h=> ?_)<;>(try simp at h)<;>try (exfalso;omega))|(refine aB ?_;refine ⟨_,_,_,rfl,Wk.refl _,StSub.refl _, ?_,rfl⟩;try first|rfl|((rcases left with _|left)<;>simp_all [eW,kW,List.take_of_length_le];done))))
theorem pP {l:Nat} {e:Ex} (h:dF (l+1) e=false) {i:Nat} (hi:i<e.of.length):dF l (e.of[i]'hi)=false:=by
  simp only [dF] at h
  cases hd:dF l (e.of[i]'hi) with
  |false=>rfl
  |true=>rw [List.any_eq_true.2 ⟨_,List.getElem_mem hi,hd⟩] at h;cases h
theorem lB (e:Ex):aY e=(dR e.k e.n e.v e.of.length&&(decide (e.k=0)||decide (e.k=1)||e.of.all aY)):=by
  cases e;rw [aY,iD];rfl
theorem yY (m:Int) (e:Ex):cL m e=((!decide (e.k=0)||decide (e.n<m))&&e.of.all (cL m)):=by
  cases e;rw [cL,jI];rfl
theorem acT {α:Type} {l:List α} {p:α→Bool} {i:Nat} (h:i<l.length):(l.drop i).all p=(p (l[i]'h)&&(l.drop (i+1)).all p):=by
  rw [List.drop_eq_getElem_cons h,List.all_cons]
theorem iE :∀(l:Nat) (e:Ex) (z:Int),z=(l:Nat)→l≤1000→dF l e=false→e.ok→PF Tryz.prog 151 [.agg e.lit,(PV.val (Value.int .i64 (z)))] (PV.val (Value.bool (aY e)))
  |0,e,z,_,_,hd,_=>by simp [dF] at hd
  |l+1,e,z,hz,hl,hd,hok=>by
    have hok:=Ex.ok' hok
    have ih:∀(i:Nat) (hi:i<e.of.length) (z:Int),z=(l:Nat)→PF Tryz.prog 151 [.agg (e.of[i]'hi).lit,(PV.val (Value.int .i64 (z)))] (PV.val (Value.bool (aY (e.of[i]'hi)))):=fun i hi z hz=>iE l _ z hz (by omega) (pP hd hi) (Ex.oks_at hok.2 hi)
    rw [lB]
    refine aH aD Tryz.func151 (by kernel_rfl) rfl rfl rfl rfl (fun st=> ?_)
    (apply wO pk;exact rfl;exact All.nil;exact All.nil)
    refine aA rfl (fun h0=> ?_) (fun h0=> ?_)
    · (try (apply wO pk;exact rfl));(repeat' (first|(show All _;constructor)|(show Imp _ _;constructor)|(show ImpX _ _ _ _;constructor)|(refine aB ?_;refine ⟨_,_,_,rfl,Wk.refl _,StSub.refl _, ?_,rfl⟩;try first|rfl|(simp_all [dR,vz];done))))
    apply wC pk;exact rfl;exact rfl;exact All.nil;exact All.nil
    refine aA rfl (fun h1=> ?_) (fun h1=> ?_)
    · simp at h0 h1
      (try (apply wO pk;exact rfl));(repeat' (first|(show All _;constructor)|(show Imp _ _;constructor)|(show ImpX _ _ _ _;constructor)|(apply wE pk;(iterate 2 exact rfl))|(refine aB ?_;refine ⟨_,_,_,rfl,Wk.refl _,StSub.refl _, ?_,rfl⟩;try first|rfl|(simp_all [dR,vz];grind;done))|(apply aI;(iterate 3 exact rfl);(intro _;apply aeD<;>first|assumption|omega);rotate_left;(iterate 2 exact rfl))))
    simp at h0 h1
    by_cases hk:2≤e.k∧e.k≤10
    case neg=>(try (apply wO pk;exact rfl));(repeat' (first|(show All _;constructor)|(apply wC pk;(iterate 2 exact rfl))|(refine aA rfl (fun h=> ?_) (fun h=> ?_)<;>(try simp at h)<;>try (exfalso;omega))|(refine aB ?_;refine ⟨_,_,_,rfl,Wk.refl _,StSub.refl _, ?_,rfl⟩;try first|rfl|(simp_all [dR];omega;done))))
    refine azJ 0 ((((St.nil 93 st).pv 1 ((PV.val (Value.int .i64 (z))))).var 2 75 (e.lit)).pv 5 ((PV.val (Value.int .i64 (cT e.k))))) rfl ?_ ?_
    · (try (apply wO pk;exact rfl));(repeat' (first|(show All _;constructor)|(apply wC pk;(iterate 2 exact rfl))|(apply wN pk;exact rfl)|(refine aA rfl (fun h=> ?_) (fun h=> ?_)<;>(try simp at h)<;>try (exfalso;omega))|(((repeat (first|refine Sub.pv ?_ rfl|refine Sub.var ?_ rfl rfl|refine Sub.pv' ?_ rfl (by simp_all [cT])));(exact Sub.nil _ _ _ (StSub.refl _) rfl)))))
    (try (apply wO pk;exact rfl));(repeat' (first|(show All _;constructor)|(show Imp _ _;constructor)|(show ImpX _ _ _ _;constructor)|(apply wC pk;(iterate 2 exact rfl))|(refine aA rfl (fun h=> ?_) (fun h=> ?_)<;>(try simp at h)<;>try (exfalso;omega))|(refine aB ?_;refine ⟨_,_,_,rfl,Wk.refl _,StSub.refl _, ?_,rfl⟩;try rfl)))
    · simp only [dR,if_neg h0,if_neg h1];simp_all [vz,dF];grind
    refine aJ (X:={i:Nat//i≤e.of.length∧e.of.all aY=(e.of.drop i).all aY}) (fun i=>((((St.nil 93 st).pv 1 ((PV.val (Value.int .i64 (z))))).var 2 75 (e.lit)).pv 7 ((PV.val (Value.int .i64 ((i.1:Nat))))))) (fun i=>e.of.length-i.1) ⟨0,by omega,by simp⟩ ?_ (fun i=> ?_)
    · ((repeat (first|refine Sub.pv ?_ rfl|refine Sub.var ?_ rfl rfl));exact Sub.nil _ _ _ (StSub.refl _) rfl)
    obtain ⟨i,hi,hall⟩:=i
    dsimp only
    rcases Nat.lt_or_ge i e.of.length with hlt|hlt
    · rw [acT hlt] at hall
      have ih:=fun z=>ih i hlt z
      (try (apply wO pk;exact rfl));(repeat' (first|(show All _;constructor)|(show Imp _ _;constructor)|(apply wC pk;(iterate 2 exact rfl))|(apply wE pk;(iterate 2 exact rfl))|(refine aA rfl (fun h=> ?_) (fun h=> ?_)<;>(try simp at h)<;>try (exfalso;omega))|(refine aB ?_;refine ⟨_,_,_,rfl,Wk.refl _,StSub.refl _, ?_,rfl⟩;try first|rfl|(simp_all [dR,cT];done))|(apply aI;(iterate 3 exact rfl);(intro _;apply ih<;>first|assumption|omega);rotate_left;(iterate 2 exact rfl))|(apply aM pk;(iterate 6 exact rfl);rotate_left;exact rfl;(intro hw;exact rfl);(intro hw;apply Ex.rows_at<;>omega);(intro _;exact rfl);exact rfl)|(refine ⟨⟨i+1,by omega,by simp_all⟩, ?_,by simp only;omega⟩;((repeat (first|refine Sub.pv ?_ rfl|refine Sub.var ?_ rfl rfl));exact Sub.nil _ _ _ (StSub.refl _) rfl))|(intros;(try simp only [zql]);omega)))
    · (try (apply wO pk;exact rfl));(repeat' (first|(show All _;constructor)|(apply wC pk;(iterate 2 exact rfl))|(refine aA rfl (fun h=> ?_) (fun h=> ?_)<;>(try simp at h)<;>try (exfalso;omega))|(refine aB ?_;refine ⟨_,_,_,rfl,Wk.refl _,StSub.refl _, ?_,rfl⟩;try first|rfl|(simp_all [dR,cT,vz,List.drop_eq_nil_of_le];done))))
theorem oP (m:Int):∀(l:Nat) (e:Ex) (z:Int),z=(l:Nat)→l≤1000→dF l e=false→e.ok→PF Tryz.prog 107 [.agg e.lit,(PV.val (Value.int .i64 (m))),(PV.val (Value.int .i64 (z)))] (PV.val (Value.bool (cL m e)))
  |0,e,z,_,_,hd,_=>by simp [dF] at hd
  |l+1,e,z,hz,hl,hd,hok=>by
    have hok:=Ex.ok' hok
    have ih:∀(i:Nat) (hi:i<e.of.length) (z:Int),z=(l:Nat)→PF Tryz.prog 107 [.agg (e.of[i]'hi).lit,(PV.val (Value.int .i64 (m))),(PV.val (Value.int .i64 (z)))] (PV.val (Value.bool (cL m (e.of[i]'hi)))):=fun i hi z hz=>oP m l _ z hz (by omega) (pP hd hi) (Ex.oks_at hok.2 hi)
    rw [yY]
    refine aH aD Tryz.func107 (by kernel_rfl) rfl rfl rfl rfl (fun st=> ?_)
    (try (apply wO pk;exact rfl));(repeat' (first|(show All _;constructor)|(show Imp _ _;constructor)|(show ImpX _ _ _ _;constructor)|(apply wC pk;(iterate 2 exact rfl))|(refine aA rfl (fun h=> ?_) (fun h=> ?_)<;>(try simp at h)<;>try (exfalso;omega))|(refine aB ?_;refine ⟨_,_,_,rfl,Wk.refl _,StSub.refl _, ?_,rfl⟩;try first|rfl|(simp_all;omega;done))))
    refine aJ (X:={i:Nat//i≤e.of.length∧e.of.all (cL m)=(e.of.drop i).all (cL m)}) (fun i=>(((((St.nil 40 st).pv 1 ((PV.val (Value.int .i64 (m))))).pv 2 ((PV.val (Value.int .i64 (z))))).var 3 75 (e.lit)).pv 7 ((PV.val (Value.int .i64 ((i.1:Nat))))))) (fun i=>e.of.length-i.1) ⟨0,by omega,by simp⟩ ?_ (fun i=> ?_)
    · ((repeat (first|refine Sub.pv ?_ rfl|refine Sub.var ?_ rfl rfl));exact Sub.nil _ _ _ (StSub.refl _) rfl)
    obtain ⟨i,hi,hall⟩:=i
    dsimp only
    rcases Nat.lt_or_ge i e.of.length with hlt|hlt
    · rw [acT hlt] at hall
      have ih:=fun z=>ih i hlt z
      (try (apply wO pk;exact rfl));(repeat' (first|(show All _;constructor)|(show Imp _ _;constructor)|(show ImpX _ _ _ _;constructor)|(apply wC pk;(iterate 2 exact rfl))|(apply wE pk;(iterate 2 exact rfl))|(refine aA rfl (fun h=> ?_) (fun h=> ?_)<;>(try simp at h)<;>try (exfalso;omega))|(refine aB ?_;refine ⟨_,_,_,rfl,Wk.refl _,StSub.refl _, ?_,rfl⟩;try first|rfl|(simp_all;done))|(apply aI;(iterate 3 exact rfl);(intro _;apply ih<;>first|assumption|omega);rotate_left;(iterate 2 exact rfl))|(apply aM pk;(iterate 6 exact rfl);rotate_left;exact rfl;(intro hw;exact rfl);(intro hw;apply Ex.rows_at<;>omega);(intro _;exact rfl);exact rfl)|(refine ⟨⟨i+1,by omega,by simp_all⟩, ?_,by simp only;omega⟩;((repeat (first|refine Sub.pv ?_ rfl|refine Sub.var ?_ rfl rfl));exact Sub.nil _ _ _ (StSub.refl _) rfl))|(intros;(try simp only [zql]);omega)))
    · (try (apply wO pk;exact rfl));(repeat' (first|(show All _;constructor)|(show Imp _ _;constructor)|(show ImpX _ _ _ _;constructor)|(apply wC pk;(iterate 2 exact rfl))|(refine aA rfl (fun h=> ?_) (fun h=> ?_)<;>(try simp at h)<;>try (exfalso;omega))|(refine aB ?_;refine ⟨_,_,_,rfl,Wk.refl _,StSub.refl _, ?_,rfl⟩;try first|rfl|(simp_all [List.drop_eq_nil_of_le];omega;done))))
theorem yK {e:Ex} (hok:e.ok):PF Tryz.prog 106 [.agg e.lit] (PV.val (Value.int .i64 (jC e))):=by
  have h1:=vL 20 e 20 rfl (by omega) hok
  have h2:=iE 20 e 20 rfl (by omega)
  have h3:=vB 20 e
  have h4:=kI 20 e
  rcases hd:dF 20 e with _|_<;>rw [hd] at h3<;>simp at h3
  · have h2:=h2 hd hok
    refine aH aD Tryz.func106 (by kernel_rfl) rfl rfl rfl rfl (fun st=> ?_)
    (try (apply wO pk;exact rfl));(repeat' (first|(show All _;constructor)|(show Imp _ _;constructor)|(apply wC pk;(iterate 2 exact rfl))|(apply wE pk;(iterate 2 exact rfl))|(refine aA rfl (fun h=> ?_) (fun h=> ?_)<;>(try simp at h)<;>try (exfalso;omega))|(refine aB ?_;refine ⟨_,_,_,rfl,Wk.refl _,StSub.refl _, ?_,rfl⟩;try first|rfl|(simp_all [jC];(try omega);done))|(apply aI;(iterate 3 exact rfl);(intro _;(first|apply h1|apply h2)<;>first|assumption|omega);rotate_left;(iterate 2 exact rfl))))
  · refine aH aD Tryz.func106 (by kernel_rfl) rfl rfl rfl rfl (fun st=> ?_)
    (try (apply wO pk;exact rfl));(repeat' (first|(show All _;constructor)|(show Imp _ _;constructor)|(apply wC pk;(iterate 2 exact rfl))|(apply wE pk;(iterate 2 exact rfl))|(refine aA rfl (fun h=> ?_) (fun h=> ?_)<;>(try simp at h)<;>try (exfalso;omega))|(refine aB ?_;refine ⟨_,_,_,rfl,Wk.refl _,StSub.refl _, ?_,rfl⟩;try first|rfl|(simp_all [jC];(try omega);done))|(apply aI;(iterate 3 exact rfl);(intro _;apply h1<;>first|assumption|omega);rotate_left;(iterate 2 exact rfl))))
def rN (k:Int) (n:Nat) (a c:Int×Int):Int×Int:=if a.2≠0 then (0,a.2) else if n>1 then (if c.2≠0 then (0,c.2) else if fV k a.1 c.1 then (1,0) else (0,6)) else if fV k a.1 0 then (1,0) else (0,6)
theorem yS {l:List Int} {e:Ex} (hf:aY e=true) (h0:¬e.k=0) (h1:¬e.k=1) (h:0<e.of.length) (d:Int×Int):aX l e=rN e.k e.of.length (aX l (e.of[0]'h)) (if h':1<e.of.length then aX l (e.of[1]'(h')) else d):=by
  obtain ⟨k,n,v,of⟩:=e
  rw [lB] at hf
  simp only [Ex.k,Ex.n,Ex.v,Ex.of] at*
  have hl:of.length=(cT k).toNat∧2≤k∧k≤10:=by simp_all [dR];omega
  rcases of with _|⟨x,_|⟨y,_|⟨w,of⟩⟩⟩
  · exact absurd h (Nat.lt_irrefl _)
  · have hk:k=9∨k=10:=by simp [cT] at hl;omega
    simp only [aX,eS,if_neg h0,if_neg h1,rN]
    by_cases hx:(aX l x).2=0<;>simp [hx,kC,fV,fR]<;>rcases hk with rfl|rfl<;>simp<;>grind
  · have hk:k=2∨k=3∨k=4∨k=5∨k=6∨k=7∨k=8:=by simp [cT] at hl;omega
    show aX l (.mk k n v [x,y])=rN k 2 (aX l x) (aX l y)
    clear hf h hl
    simp only [aX,eS,if_neg h0,if_neg h1,rN]
    generalize aX l x=a
    generalize aX l y=c
    obtain ⟨a,a'⟩:=a
    obtain ⟨c,c'⟩:=c
    by_cases hx:a'=0<;>by_cases hy:c'=0<;>simp [hx,hy]
    have h3:kC (fR k) 0 [a,c]=fV k a c:=by
      rw [Bool.eq_iff_iff]
      simp only [kC,fV,fR]
      rcases hk with rfl|rfl|rfl|rfl|rfl|rfl|rfl<;>simp<;>by_cases ha:a=0<;>simp [ha]<;>omega
    rw [h3]
  · simp [cT] at hl;split at hl<;>omega
theorem ahJ {l:List Int} {e:Ex} (h:e.k=0):aX l e=(l.getD e.n.toNat 0,0):=by
  cases e;simp only [Ex.k] at h;rw [aX,if_pos h];rfl
theorem ahO {l:List Int} {e:Ex} (h0:¬e.k=0) (h:e.k=1):aX l e=(e.v.kind,0):=by
  cases e;simp only [Ex.k] at h h0;rw [aX,if_neg h0,if_pos h];rfl
theorem arU {l:List Int} {i:Nat} (h:i<l.length):(fG l)[i]?=some [(PV.val (Value.int .i64 (l[i]'h)))]:=rA (by simp [h])
theorem arW {l:List Vl} {i:Nat} (h:i<l.length):(wU l)[i]?=some (l[i]'h).cells:=by simp [wU,h]
theorem sR (t:List Int):∀(l:Nat) (e:Ex) (z:Int),z=(l:Nat)→l≤1000→dF l e=false→aY e=true→cL t.length e=true→e.ok→PF Tryz.prog 108 [.agg e.lit, .seq (fG t),(PV.val (Value.int .i64 (z)))] (.tup [(PV.val (Value.int .i64 ((aX t e).1))),(PV.val (Value.int .i64 ((aX t e).2)))])
  |0,e,z,_,_,hd,_,_,_=>by simp [dF] at hd
  |l+1,e,z,hz,hl,hd,hf,ht,hok=>by
    have hok:=Ex.ok' hok
    have hf':=hf
    have ht':=ht
    rw [lB] at hf'
    rw [yY] at ht'
    have ih:∀(i:Nat) (hi:i<e.of.length) (z:Int),z=(l:Nat)→¬e.k=0→¬e.k=1→PF Tryz.prog 108 [.agg (e.of[i]'hi).lit, .seq (fG t),(PV.val (Value.int .i64 (z)))] (.tup [(PV.val (Value.int .i64 ((aX t (e.of[i]'hi)).1))),(PV.val (Value.int .i64 ((aX t (e.of[i]'hi)).2)))]):=fun i hi z hz h0 h1=>sR t l _ z hz (by omega) (pP hd hi) (by simp_all) (by simp_all) (Ex.oks_at hok.2 hi)
    refine aH aD Tryz.func108 (by kernel_rfl) rfl rfl rfl rfl (fun st=> ?_)
    by_cases h0:e.k=0
    · have h2:0≤e.n∧e.n<t.length:=by simp_all [dR]
      rw [ahJ h0]
      (try (apply wO pk;exact rfl));(repeat' (first|(show All _;constructor)|(show Imp _ _;constructor)|(apply wC pk;(iterate 2 exact rfl))|(apply wE pk;(iterate 2 exact rfl))|(refine aA rfl (fun h=> ?_) (fun h=> ?_)<;>(try simp at h)<;>try (exfalso;omega))|(refine aB ?_;refine ⟨_,_,_,rfl,Wk.refl _,StSub.refl _, ?_,rfl⟩;try first|rfl|(simp_all [List.getD,show e.n.toNat<t.length from by omega];done))|(apply aM pk;(iterate 6 exact rfl);rotate_left;exact rfl;(intro hw;exact (Int.toNat_of_nonneg (by omega)).symm);(intro hw;apply arU<;>omega);(intro _;exact rfl);exact rfl)|(intros;(try simp only [zql]);omega)))
    by_cases h1:e.k=1
    · rw [ahO h0 h1]
      (try (apply wO pk;exact rfl));(repeat' (first|(show All _;constructor)|(apply wC pk;(iterate 2 exact rfl))|(refine aA rfl (fun h=> ?_) (fun h=> ?_)<;>(try simp at h)<;>try (exfalso;omega))|(refine aB ?_;refine ⟨_,_,_,rfl,Wk.refl _,StSub.refl _, ?_,rfl⟩;try first|rfl|(simp_all;done))))
    have h2:e.of.length=(cT e.k).toNat:=by simp_all [dR];omega
    have h2':e.of.length=1∨e.of.length=2:=by simp only [h2,cT];split<;>simp
    clear h2
    rcases h2' with h2'|h2'
    · rw [yS hf h0 h1 (by omega) (0,0),dif_neg (by omega)]
      simp only [rN,h2']
      have ih:=fun z hz=>ih 0 (by omega) z hz h0 h1
      (try (apply wO pk;exact rfl));(repeat' (first|(show All _;constructor)|(show Imp _ _;constructor)|(apply wC pk;(iterate 2 exact rfl))|(apply wE pk;(iterate 2 exact rfl))|(refine aA rfl (fun h=> ?_) (fun h=> ?_)<;>(try simp at h)<;>try (exfalso;omega))|(refine aB ?_;refine ⟨_,_,_,rfl,Wk.refl _,StSub.refl _, ?_,rfl⟩;try first|rfl|(simp_all;done))|(apply aI;(iterate 3 exact rfl);(intro _;(first|apply ih|apply rG)<;>first|assumption|omega);rotate_left;(iterate 2 exact rfl))|(apply aM pk;(iterate 6 exact rfl);rotate_left;exact rfl;(intro hw;exact rfl);(intro hw;apply Ex.rows_at<;>omega);(intro _;exact rfl);exact rfl)|(intros;(try simp only [zql]);omega)))
    · rw [yS hf h0 h1 (by omega) (0,0),dif_pos (by omega)]
      simp only [rN,h2']
      have ih1:=fun z hz=>ih 0 (by omega) z hz h0 h1
      have ih2:=fun z hz=>ih 1 (by omega) z hz h0 h1
      (try (apply wO pk;exact rfl));(repeat' (first|(show All _;constructor)|(show Imp _ _;constructor)|(apply wC pk;(iterate 2 exact rfl))|(apply wE pk;(iterate 2 exact rfl))|(refine aA rfl (fun h=> ?_) (fun h=> ?_)<;>(try simp at h)<;>try (exfalso;omega))|(refine aB ?_;refine ⟨_,_,_,rfl,Wk.refl _,StSub.refl _, ?_,rfl⟩;try first|rfl|(simp_all;done))|(apply aI;(iterate 3 exact rfl);(intro _;(first|apply ih1|apply ih2|apply rG)<;>first|assumption|omega);rotate_left;(iterate 2 exact rfl))|(apply aM pk;(iterate 6 exact rfl);rotate_left;exact rfl;(intro hw;exact rfl);(intro hw;apply Ex.rows_at<;>omega);(intro _;exact rfl);exact rfl)|(intros;(try simp only [zql]);omega)))
theorem aeM (c:Co):PF Tryz.prog 64 [.agg c.cells] (PV.val (Value.int .i64 (bK c))):=by
  unfold bK
  refine aH aD Tryz.func64 (by kernel_rfl) rfl rfl rfl rfl (fun st=> ?_)
  (try (apply wO pk;exact rfl));(repeat' (first|(show All _;constructor)|(apply wC pk;(iterate 2 exact rfl))|(refine aA rfl (fun h=> ?_) (fun h=> ?_)<;>(try simp at h)<;>try (exfalso;omega))|(refine aB ?_;refine ⟨_,_,_,rfl,Wk.refl _,StSub.refl _, ?_,rfl⟩;try first|rfl|(((simp [*];done));done))))
theorem agX {e:Ex} (hok:e.ok) {l:List Int} (hl:l.length<2^62):PF Tryz.prog 65 [.agg e.lit, .seq (fG l)] (.tup [(PV.val (Value.int .i64 ((eJ e l).1))),(PV.val (Value.int .i64 ((eJ e l).2)))]):=by
  have h1:=yK hok
  have h2:=fun h=>oP ((l.length:Nat):Int) 20 e 20 rfl (by omega) h hok
  have h3:jC e=0→cL l.length e=true→_:=fun hm ht=>sR l 20 e 20 rfl (by omega) (fY hm).1 (fY hm).2 ht hok
  rw [←nR] at h2
  have h4:= @fY e
  by_cases hm:jC e=0
  · have h2:=h2 (h4 hm).1
    have h3:=h3 hm
    refine aH aD Tryz.func65 (by kernel_rfl) rfl rfl rfl rfl (fun st=> ?_)
    (try (apply wO pk;exact rfl));(repeat' (first|(show All _;constructor)|(show Imp _ _;constructor)|(apply wC pk;(iterate 2 exact rfl))|(apply wE pk;(iterate 2 exact rfl))|(refine aA rfl (fun h=> ?_) (fun h=> ?_)<;>(try simp at h)<;>try (exfalso;omega))|(refine aB ?_;refine ⟨_,_,_,rfl,Wk.refl _,StSub.refl _, ?_,rfl⟩;try first|rfl|(simp_all [eJ];done))|(apply aI;(iterate 3 exact rfl);(intro _;(first|apply h1|apply h2|apply h3)<;>first|assumption|omega);rotate_left;(iterate 2 exact rfl))))
  · refine aH aD Tryz.func65 (by kernel_rfl) rfl rfl rfl rfl (fun st=> ?_)
    (try (apply wO pk;exact rfl));(repeat' (first|(show All _;constructor)|(show Imp _ _;constructor)|(apply wC pk;(iterate 2 exact rfl))|(apply wE pk;(iterate 2 exact rfl))|(refine aA rfl (fun h=> ?_) (fun h=> ?_)<;>(try simp at h)<;>try (exfalso;omega))|(refine aB ?_;refine ⟨_,_,_,rfl,Wk.refl _,StSub.refl _, ?_,rfl⟩;try first|rfl|(simp_all [eJ];done))|(apply aI;(iterate 3 exact rfl);(intro _;apply h1<;>first|assumption|omega);rotate_left;(iterate 2 exact rfl))))
theorem rright_spec {e:Ex} (hok:e.ok) (cols:List Co) (hl:cols.length<10000000000):PF Tryz.prog 33 [.agg e.lit, .seq (cols.map Co.cells)] (PV.val (Value.int .i64 (RightR e (cols.map bK)))):=by
  have hT:=agX hok (l:=cols.map bK) (by rw [zql];omega)
  have hR:RightR e (cols.map bK)=if (eJ e (cols.map bK)).2=0 then (if (eJ e (cols.map bK)).1=2 then 6 else 0) else (eJ e (cols.map bK)).2:=rfl
  generalize eJ e (cols.map bK)=T at*
  generalize RightR e (cols.map bK)=R at*
  unfold fG at hT
  obtain ⟨T1,T2⟩:=T
  dsimp only at*
  refine aH aD Tryz.func33 (by kernel_rfl) rfl rfl rfl rfl (fun st=> ?_)
  focus ((try (apply wO pk;exact rfl));(repeat' ((show All _;constructor))))
  refine pT 5 3 rfl rfl (fun id hid=> ?_)
  have hid:st id=none:=hid
  refine aJ (X:={x:Nat×Nat//x.1≤cols.length∧st x.2=none}) (fun i=>(((((St.nil 34 (upd st i.1.2 (some (.tok 3)))).pv 1 (.seq (cols.map Co.cells))).var 2 75 (e.lit)).pv 5 (.own i.1.2 (((cols.take i.1.1).map bK).map I1))).pv 6 ((PV.val (Value.int .i64 ((i.1.1:Nat))))))) (fun i=>cols.length-i.1.1) ⟨(0,id),by simp,hid⟩ ?_ (fun i=> ?_)
  · (((repeat (first|refine Sub.pv ?_ rfl|refine Sub.var ?_ rfl rfl));(exact Sub.nil _ _ _ (StSub.refl _) rfl)))
  obtain ⟨⟨i,id⟩,hi,hid⟩:=i
  simp only at hi hid
  dsimp only
  by_cases hend:cols.length≤i
  · rw [List.take_of_length_le hend]
    by_cases h0:T2=0<;>by_cases h1:T1=2
    · rw [if_pos h0,if_pos h1] at hR
      subst hR
      (try (apply wO pk;exact rfl));(repeat' (first|(show All _;constructor)|(show Imp _ _;constructor)|(apply wC pk;(iterate 2 exact rfl))|(apply wE pk;(iterate 2 exact rfl))|(refine aA rfl (fun h=> ?_) (fun h=> ?_)<;>(try simp at h)<;>try (exfalso;omega))|(refine aB ?_;first|(refine ⟨_,_,_,rfl,Wk.refl _,StSub.refl _, ?_,rfl⟩;(fail))|(refine ⟨_,_,_,rfl,Wk.refl _,aK (by assumption), ?_,rfl⟩;(rfl))|(refine ⟨_,_,_,rfl,Wk.soft _,StSub.refl _, ?_,rfl⟩;(fail))|(refine ⟨_,_,_,rfl,Wk.soft _,aK (by assumption), ?_,rfl⟩;(fail))|(refine ⟨_,_,_,rfl,Wk.refl _,StSub.refl _, ?_,rfl⟩)|(refine ⟨_,_,_,rfl,Wk.soft _,aK (by assumption), ?_,rfl⟩))|(apply kK;(iterate 3 exact rfl);(intro _;apply hT<;>first|assumption|omega);rotate_left;(iterate 2 exact rfl))))
    · rw [if_pos h0,if_neg h1] at hR
      subst hR
      subst h0
      (try (apply wO pk;exact rfl));(repeat' (first|(show All _;constructor)|(show Imp _ _;constructor)|(apply wC pk;(iterate 2 exact rfl))|(apply wE pk;(iterate 2 exact rfl))|(refine aA rfl (fun h=> ?_) (fun h=> ?_)<;>(try simp at h)<;>try (exfalso;omega))|(refine aB ?_;first|(refine ⟨_,_,_,rfl,Wk.refl _,StSub.refl _, ?_,rfl⟩;(fail))|(refine ⟨_,_,_,rfl,Wk.refl _,aK (by assumption), ?_,rfl⟩;(rfl))|(refine ⟨_,_,_,rfl,Wk.soft _,StSub.refl _, ?_,rfl⟩;(fail))|(refine ⟨_,_,_,rfl,Wk.soft _,aK (by assumption), ?_,rfl⟩;(fail))|(refine ⟨_,_,_,rfl,Wk.refl _,StSub.refl _, ?_,rfl⟩)|(refine ⟨_,_,_,rfl,Wk.soft _,aK (by assumption), ?_,rfl⟩))|(apply kK;(iterate 3 exact rfl);(intro _;apply hT<;>first|assumption|omega);rotate_left;(iterate 2 exact rfl))))
    · rw [if_neg h0] at hR
      subst hR
      (try (apply wO pk;exact rfl));(repeat' (first|(show All _;constructor)|(show Imp _ _;constructor)|(apply wC pk;(iterate 2 exact rfl))|(apply wE pk;(iterate 2 exact rfl))|(refine aA rfl (fun h=> ?_) (fun h=> ?_)<;>(try simp at h)<;>try (exfalso;omega))|(refine aB ?_;first|(refine ⟨_,_,_,rfl,Wk.refl _,StSub.refl _, ?_,rfl⟩;(fail))|(refine ⟨_,_,_,rfl,Wk.refl _,aK (by assumption), ?_,rfl⟩;(rfl))|(refine ⟨_,_,_,rfl,Wk.soft _,StSub.refl _, ?_,rfl⟩;(fail))|(refine ⟨_,_,_,rfl,Wk.soft _,aK (by assumption), ?_,rfl⟩;(fail))|(refine ⟨_,_,_,rfl,Wk.refl _,StSub.refl _, ?_,rfl⟩)|(refine ⟨_,_,_,rfl,Wk.soft _,aK (by assumption), ?_,rfl⟩))|(apply kK;(iterate 3 exact rfl);(intro _;apply hT<;>first|assumption|omega);rotate_left;(iterate 2 exact rfl))))
    · rw [if_neg h0] at hR
      subst hR
      (try (apply wO pk;exact rfl));(repeat' (first|(show All _;constructor)|(show Imp _ _;constructor)|(apply wC pk;(iterate 2 exact rfl))|(apply wE pk;(iterate 2 exact rfl))|(refine aA rfl (fun h=> ?_) (fun h=> ?_)<;>(try simp at h)<;>try (exfalso;omega))|(refine aB ?_;first|(refine ⟨_,_,_,rfl,Wk.refl _,StSub.refl _, ?_,rfl⟩;(fail))|(refine ⟨_,_,_,rfl,Wk.refl _,aK (by assumption), ?_,rfl⟩;(rfl))|(refine ⟨_,_,_,rfl,Wk.soft _,StSub.refl _, ?_,rfl⟩;(fail))|(refine ⟨_,_,_,rfl,Wk.soft _,aK (by assumption), ?_,rfl⟩;(fail))|(refine ⟨_,_,_,rfl,Wk.refl _,StSub.refl _, ?_,rfl⟩)|(refine ⟨_,_,_,rfl,Wk.soft _,aK (by assumption), ?_,rfl⟩))|(apply kK;(iterate 3 exact rfl);(intro _;apply hT<;>first|assumption|omega);rotate_left;(iterate 2 exact rfl))))
  have hil:i<cols.length:=by omega
  have hs:=aeM cols[i]
  have hmap:((cols.take (i+1)).map bK).map I1=((cols.take i).map bK).map I1++[I1 (bK cols[i])]:=by rw [List.take_succ_eq_append_getElem hil,List.map_append,List.map_append];rfl
  have htl:((cols.take i).map bK).length≤i:=by rw [zql];exact List.length_take_le ..
  generalize bK cols[i]=K at*
  (try (apply wO pk;exact rfl));(repeat' (first|(show All _;constructor)|(show Imp _ _;constructor)|(apply wC pk;(iterate 2 exact rfl))|(apply wE pk;(iterate 2 exact rfl))|(refine aA rfl (fun h=> ?_) (fun h=> ?_)<;>(try simp at h)<;>try (exfalso;omega))|(apply aI;(iterate 3 exact rfl);(intro _;apply hs<;>first|assumption|omega);rotate_left;(iterate 2 exact rfl))|(apply aM pk;(iterate 6 exact rfl);rotate_left;exact rfl;(intro hw;exact rfl);(intro hw;apply aF<;>omega);(intro _;exact rfl);exact rfl)|(refine ⟨⟨(i+1,id'),by simp only;omega,gL hid'⟩, ?_,by simp only;omega⟩;((dsimp only;rw [hmap]));(((repeat (first|refine Sub.pv ?_ rfl|refine Sub.var ?_ rfl rfl|refine Sub.pv' ?_ rfl (by (first|rfl|(simp [I1];done)))));(exact Sub.nil _ _ _ (cE (by assumption)) rfl))))|(apply apS pk (K) 8;(iterate 8 exact rfl);exact aC _ _ _;exact fun _=>rfl;exact fun _=>rfl;exact mR;(omega);(omega);exact rfl;intro id' hid')|(intros;(try simp only [zql]);omega)))
end Go.Proofs.YtcglimangneafaaGreatDoor.X
namespace Go.Proofs.YtcglimangneafaaGreatDoor.X
open Go Go.Abs
attribute [local irreducible] Ev PWp
set_option maxRecDepth 10000
set_option maxHeartbeats 4000000
def inM (n:Int):Prop:= -1099511627776≤n∧n≤1099511627776
theorem fB {n:Int} (h1: -9223372036854775808≤n) (h2:n≤9223372036854775807):IntKind.wrap .i64 n=n:=acY (k:= .i64) ⟨h1,h2⟩
theorem arJ {a b:Int} (ha:inM a) (hb:inM b):lR (· + ·) a b=(decide (a+b>1099511627776)||decide (a+b< -1099511627776)):=by
  unfold inM at ha hb
  unfold lR amO
  simp only
  rw [fB (n:=a+b) (by omega) (by omega),fB (n:=1+1) (by omega) (by omega)]
  simp
theorem aqQ {a b:Int} (ha:inM a) (hb:inM b):lR (· - ·) a b=(decide (a-b>1099511627776)||decide (a-b< -1099511627776)):=by
  unfold inM at ha hb
  unfold lR amO
  simp only
  rw [fB (n:=a-b) (by omega) (by omega),fB (n:=1-1) (by omega) (by omega)]
  simp
theorem uB {x b:Int} (hx:0<x):(b>1099511627776/x∨b< -(1099511627776/x))↔(x*b>1099511627776∨x*b< -1099511627776):=by
  have h1:b≤1099511627776/x↔b*x≤1099511627776:=Int.le_ediv_iff_mul_le hx
  have h2: -b≤1099511627776/x↔ -b*x≤1099511627776:=Int.le_ediv_iff_mul_le hx
  rw [Int.neg_mul] at h2
  rw [Int.mul_comm x b]
  omega
theorem avB (a b:Int):(max a (0-a))*(max b (0-b))=a*b∨(max a (0-a))*(max b (0-b))= -(a*b):=by
  have hA:max a (0-a)=a∨max a (0-a)= -a:=by omega
  have hB:max b (0-b)=b∨max b (0-b)= -b:=by omega
  rcases hA with hA|hA<;>rcases hB with hB|hB<;>rw [hA,hB]
  · exact .inl rfl
  · exact .inr (by rw [Int.mul_neg])
  · exact .inr (by rw [Int.neg_mul])
  · exact .inl (by rw [Int.neg_mul,Int.mul_neg,Int.neg_neg])
theorem aqL {a b:Int}:lR (· * ·) a b=(decide (a*b>1099511627776)||decide (a*b< -1099511627776)):=by
  have hab:=avB a b
  unfold lR amO
  simp only
  rw [fB (n:=1*1) (by omega) (by omega)]
  generalize hA:max a (0-a)=A at*
  generalize hB:max b (0-b)=B at*
  have hA0:0≤A:=by omega
  have hB0:0≤B:=by omega
  have hAB:0≤A*B:=Int.mul_nonneg hA0 hB0
  by_cases hb:B>0
  · have hl:A≤1099511627776/B↔A*B≤1099511627776:=Int.le_ediv_iff_mul_le hb
    by_cases ho:A*B>1099511627776
    · have ha:A>0:=by
        rcases Int.lt_or_eq_of_le hA0 with h|h
        · exact h
        · rw [←h] at ho;simp at ho
      have h1:A>1099511627776/B:=by omega
      have h2:a*b>1099511627776∨a*b< -1099511627776:=by omega
      have e1:(((decide (A>0)&&decide (B>0))&&decide ((1:Int)*1=1))&&decide (A>1099511627776/B))=true:=by
        rw [decide_eq_true ha,decide_eq_true hb,decide_eq_true h1];rfl
      have e2:(decide (a*b>1099511627776)||decide (a*b< -1099511627776))=true:=by
        rcases h2 with h2|h2
        · rw [decide_eq_true h2];rfl
        · rw [decide_eq_true h2,Bool.or_true]
      rw [e1,e2,Bool.true_or,Bool.true_or]
    · have h1:¬A>1099511627776/B:=by omega
      have e1:IntKind.wrap .i64 (a*b)=a*b:=fB (by omega) (by omega)
      rw [decide_eq_false h1,Bool.and_false,Bool.false_or]
      show (decide (IntKind.wrap .i64 (a*b)>1099511627776)||decide (IntKind.wrap .i64 (a*b)< -1099511627776))=_
      rw [e1]
  · have h0:B=0:=by omega
    have h1:a*b=0:=by rw [h0] at hab;simp at hab;omega
    have e1:IntKind.wrap .i64 (a*b)=a*b:=fB (by omega) (by omega)
    rw [decide_eq_false hb,Bool.and_false,Bool.false_and,Bool.false_and,Bool.false_or]
    show (decide (IntKind.wrap .i64 (a*b)>1099511627776)||decide (IntKind.wrap .i64 (a*b)< -1099511627776))=_
    rw [e1]
theorem tdiv_neg {x:Int} (hx:0<x):Int.tdiv 1099511627776 (-x)= -(1099511627776/x):=by
  rw [Int.tdiv_neg,Int.tdiv_eq_ediv_of_nonneg (by omega)]
def oK (k a b:Int):Bool:=if k=2 then decide (a+b>1099511627776)||decide (a+b< -1099511627776) else if k=3 then decide (a-b>1099511627776)||decide (a-b< -1099511627776) else decide (a*b>1099511627776)||decide (a*b< -1099511627776)
def opQ (k a b:Int):Int:=if k=2 then a+b else if k=3 then a-b else a*b
theorem ajE {k a b:Int} (ha:inM a) (hb:inM b):PF Tryz.prog 213 [(PV.val (Value.int .i64 (k))),(PV.val (Value.int .i64 (a))),(PV.val (Value.int .i64 (b)))] (cS (if oK k a b=true then (v0,20) else (vN (opQ k a b),0))):=by
  unfold inM at ha hb
  obtain ⟨a1,a2⟩:=ha
  obtain ⟨b1,b2⟩:=hb
  by_cases h2:k=2
  · subst h2
    have e:oK 2 a b=(decide (a+b>1099511627776)||decide (a+b< -1099511627776)):=rfl
    have e2:opQ 2 a b=a+b:=rfl
    rw [e,e2]
    by_cases ho:a+b>1099511627776∨a+b< -1099511627776
    · rw [if_pos (by simpa using ho)]
      refine aH aD Tryz.func213 (by kernel_rfl) rfl rfl rfl rfl (fun st=> ?_)
      (try (apply wO pk;exact rfl));(repeat' (first|(show All _;constructor)|(show Imp _ _;constructor)|(show ImpX _ _ _ _;constructor)|(apply wC pk;(iterate 2 exact rfl))|(refine aA rfl (fun h=> ?_) (fun h=> ?_)<;>(try simp at h)<;>try (exfalso;omega))|(refine aB ?_;refine ⟨_,_,_,rfl,Wk.refl _,StSub.refl _, ?_,rfl⟩;try rfl)|(intros;(try simp only [zql]);omega)))
    · rw [if_neg (by simpa using ho)]
      refine aH aD Tryz.func213 (by kernel_rfl) rfl rfl rfl rfl (fun st=> ?_)
      (try (apply wO pk;exact rfl));(repeat' (first|(show All _;constructor)|(show Imp _ _;constructor)|(show ImpX _ _ _ _;constructor)|(apply wC pk;(iterate 2 exact rfl))|(refine aA rfl (fun h=> ?_) (fun h=> ?_)<;>(try simp at h)<;>try (exfalso;omega))|(refine aB ?_;refine ⟨_,_,_,rfl,Wk.refl _,StSub.refl _, ?_,rfl⟩;try rfl)|(intros;(try simp only [zql]);omega)))
  by_cases h3:k=3
  · subst h3
    have e:oK 3 a b=(decide (a-b>1099511627776)||decide (a-b< -1099511627776)):=rfl
    have e2:opQ 3 a b=a-b:=rfl
    rw [e,e2]
    by_cases ho:a-b>1099511627776∨a-b< -1099511627776
    · rw [if_pos (by simpa using ho)]
      refine aH aD Tryz.func213 (by kernel_rfl) rfl rfl rfl rfl (fun st=> ?_)
      (try (apply wO pk;exact rfl));(repeat' (first|(show All _;constructor)|(show Imp _ _;constructor)|(show ImpX _ _ _ _;constructor)|(apply wC pk;(iterate 2 exact rfl))|(refine aA rfl (fun h=> ?_) (fun h=> ?_)<;>(try simp at h)<;>try (exfalso;omega))|(refine aB ?_;refine ⟨_,_,_,rfl,Wk.refl _,StSub.refl _, ?_,rfl⟩;try rfl)|(intros;(try simp only [zql]);omega)))
    · rw [if_neg (by simpa using ho)]
      refine aH aD Tryz.func213 (by kernel_rfl) rfl rfl rfl rfl (fun st=> ?_)
      (try (apply wO pk;exact rfl));(repeat' (first|(show All _;constructor)|(show Imp _ _;constructor)|(show ImpX _ _ _ _;constructor)|(apply wC pk;(iterate 2 exact rfl))|(refine aA rfl (fun h=> ?_) (fun h=> ?_)<;>(try simp at h)<;>try (exfalso;omega))|(refine aB ?_;refine ⟨_,_,_,rfl,Wk.refl _,StSub.refl _, ?_,rfl⟩;try rfl)|(intros;(try simp only [zql]);omega)))
  have e:oK k a b=(decide (a*b>1099511627776)||decide (a*b< -1099511627776)):=by unfold oK;rw [if_neg h2,if_neg h3]
  have e2:opQ k a b=a*b:=by unfold opQ;rw [if_neg h2,if_neg h3]
  rw [e,e2]
  clear e e2
  by_cases ho:a*b>1099511627776∨a*b< -1099511627776
  · rw [if_pos (by simpa using ho)]
    rcases Int.lt_trichotomy a 0 with h0|h0|h0
    · obtain ⟨x,rfl⟩:∃x,a= -x:=⟨-a,by omega⟩
      have hx:0<x:=by omega
      have hd:=tdiv_neg hx
      have hli:=uB (b:=b) hx
      rw [Int.neg_mul] at ho
      have hli2:=hli.2 (by omega)
      have hp:1≤1099511627776/x:=(Int.le_ediv_iff_mul_le hx).2 (by omega)
      have hq:1099511627776/x≤1099511627776:=Int.ediv_le_self _ (by omega)
      generalize 1099511627776/x=D at*
      refine aH aD Tryz.func213 (by kernel_rfl) rfl rfl rfl rfl (fun st=> ?_)
      ((apply aqR pk 50);exact rfl;(focus repeat' constructor);(focus repeat' (exact All.nil)))
      refine aA rfl (fun h=>by simp at h;omega) (fun h=> ?_)
      ((apply gon pk 50);exact rfl;(focus repeat' constructor);(focus repeat' (exact All.nil)))
      refine aA rfl (fun h=>by simp at h;omega) (fun h=> ?_)
      ((apply gon pk 50);exact rfl;(focus repeat' constructor);(focus repeat' (exact All.nil)))
      refine aA rfl (fun h=> ?_) (fun h=>by simp at h;omega)
      ((apply gon pk 1);exact rfl;(focus repeat' constructor);(focus repeat' (exact All.nil)))
      refine fC ?_
      (apply gI aD;iterate 4 exact rfl)
      (apply atX (c:= -D);exact rfl;exact rfl;omega;(rw [hd];exact fB (by omega) (by omega));exact rfl;exact rfl;exact rfl)
      (apply gI aD;iterate 4 exact rfl)
      refine nA ?_
      (try (apply wO pk;exact rfl));(repeat' (first|(show All _;constructor)|(show Imp _ _;constructor)|(show ImpX _ _ _ _;constructor)|(apply wC pk;(iterate 2 exact rfl))|(refine aA rfl (fun h=> ?_) (fun h=> ?_)<;>(try simp at h)<;>try (exfalso;omega))|(refine aB ?_;refine ⟨_,_,_,rfl,Wk.refl _,StSub.refl _, ?_,rfl⟩;try rfl)|(intros;(try simp only [zql]);omega)))
    · subst h0
      simp at ho
    · have hli2:=(uB (b:=b) h0).2 ho
      have hp:0≤1099511627776/a:=Int.ediv_nonneg (by omega) (by omega)
      have hq:1099511627776/a≤1099511627776:=Int.ediv_le_self _ (by omega)
      refine aH aD Tryz.func213 (by kernel_rfl) rfl rfl rfl rfl (fun st=> ?_)
      (try (apply wO pk;exact rfl));(repeat' (first|(show All _;constructor)|(show Imp _ _;constructor)|(show ImpX _ _ _ _;constructor)|(apply wC pk;(iterate 2 exact rfl))|(refine aA rfl (fun h=> ?_) (fun h=> ?_)<;>(try simp at h)<;>try (exfalso;omega))|(refine aB ?_;refine ⟨_,_,_,rfl,Wk.refl _,StSub.refl _, ?_,rfl⟩;try rfl)|(intros;(try simp only [zql]);omega)))
  · rw [if_neg (by simpa using ho)]
    rcases Int.lt_trichotomy a 0 with h0|h0|h0
    · obtain ⟨x,rfl⟩:∃x,a= -x:=⟨-a,by omega⟩
      have hx:0<x:=by omega
      have hd:=tdiv_neg hx
      have hli:=uB (b:=b) hx
      rw [Int.neg_mul] at ho
      have hli2:¬(b>1099511627776/x∨b< -(1099511627776/x)):=fun q=>by have:=hli.1 q;omega
      have hp:1≤1099511627776/x:=(Int.le_ediv_iff_mul_le hx).2 (by omega)
      have hq:1099511627776/x≤1099511627776:=Int.ediv_le_self _ (by omega)
      have hnm: -x*b= -(x*b):=Int.neg_mul ..
      generalize 1099511627776/x=D at*
      refine aH aD Tryz.func213 (by kernel_rfl) rfl rfl rfl rfl (fun st=> ?_)
      ((apply aqR pk 50);exact rfl;(focus repeat' constructor);(focus repeat' (exact All.nil)))
      refine aA rfl (fun h=>by simp at h;omega) (fun h=> ?_)
      ((apply gon pk 50);exact rfl;(focus repeat' constructor);(focus repeat' (exact All.nil)))
      refine aA rfl (fun h=>by simp at h;omega) (fun h=> ?_)
      ((apply gon pk 50);exact rfl;(focus repeat' constructor);(focus repeat' (exact All.nil)))
      refine aA rfl (fun h=> ?_) (fun h=>by simp at h;omega)
      ((apply gon pk 1);exact rfl;(focus repeat' constructor);(focus repeat' (exact All.nil)))
      refine fC ?_
      (apply gI aD;iterate 4 exact rfl)
      (apply atX (c:= -D);exact rfl;exact rfl;omega;(rw [hd];exact fB (by omega) (by omega));exact rfl;exact rfl;exact rfl)
      (apply gI aD;iterate 4 exact rfl)
      refine nA ?_
      (try (apply wO pk;exact rfl));(repeat' (first|(show All _;constructor)|(show Imp _ _;constructor)|(show ImpX _ _ _ _;constructor)|(apply wC pk;(iterate 2 exact rfl))|(refine aA rfl (fun h=> ?_) (fun h=> ?_)<;>(try simp at h)<;>try (exfalso;omega))|(refine aB ?_;refine ⟨_,_,_,rfl,Wk.refl _,StSub.refl _, ?_,rfl⟩;try rfl)|(intros;(try simp only [zql]);omega)))
    · subst h0
      have hz:(0:Int)*b=0:=Int.zero_mul b
      refine aH aD Tryz.func213 (by kernel_rfl) rfl rfl rfl rfl (fun st=> ?_)
      (try (apply wO pk;exact rfl));(repeat' (first|(show All _;constructor)|(show Imp _ _;constructor)|(show ImpX _ _ _ _;constructor)|(apply wC pk;(iterate 2 exact rfl))|(refine aA rfl (fun h=> ?_) (fun h=> ?_)<;>(try simp at h)<;>try (exfalso;omega))|(refine aB ?_;refine ⟨_,_,_,rfl,Wk.refl _,StSub.refl _, ?_,rfl⟩;try rfl)|(intros;(try simp only [zql]);omega)))
    · have hli2:¬(b>1099511627776/a∨b< -(1099511627776/a)):=fun q=>ho ((uB h0).1 q)
      have hp:0≤1099511627776/a:=Int.ediv_nonneg (by omega) (by omega)
      have hq:1099511627776/a≤1099511627776:=Int.ediv_le_self _ (by omega)
      refine aH aD Tryz.func213 (by kernel_rfl) rfl rfl rfl rfl (fun st=> ?_)
      (try (apply wO pk;exact rfl));(repeat' (first|(show All _;constructor)|(show Imp _ _;constructor)|(show ImpX _ _ _ _;constructor)|(apply wC pk;(iterate 2 exact rfl))|(refine aA rfl (fun h=> ?_) (fun h=> ?_)<;>(try simp at h)<;>try (exfalso;omega))|(refine aB ?_;refine ⟨_,_,_,rfl,Wk.refl _,StSub.refl _, ?_,rfl⟩;try rfl)|(intros;(try simp only [zql]);omega)))
theorem fJ {x:Bool}:PF Tryz.prog 212 [(PV.val (Value.bool (x)))] (.agg [(PV.val (Value.int .i64 (1))),(PV.val (Value.int .i64 (if x then 1 else 0))),(PV.val (Value.string (e0)))]):=by
  refine aH aD Tryz.func212 (by kernel_rfl) rfl rfl rfl rfl (fun st=> ?_)
  (try (apply wO pk;exact rfl));(repeat' (first|(show All _;constructor)|(apply wC pk;(iterate 2 exact rfl))|(refine aA rfl (fun h=> ?_) (fun h=> ?_)<;>(try simp at h)<;>try (exfalso;omega))|(refine aB ?_;refine ⟨_,_,_,rfl,Wk.refl _,StSub.refl _, ?_,rfl⟩;try first|rfl|((simp [*];done);done))))
theorem rE {v:Vl} (h:rightV v=true):inM v.n:=by
  unfold rightV at h
  unfold inM
  split at h
  · simp at h;omega
  · split at h
    · simp at h;omega
    · split at h
      · simp at h;omega
      · cases h
def isZ (v:Vl):Bool:=decide (v.kind=1)&&decide (v.n=0)
def isO (v:Vl):Bool:=decide (v.kind=1)&& !decide (v.n=0)
def kF (k:Int) (a b:Vl):Vl×Int:=
  if fV k a.kind b.kind=false then (v0,6) else if k=10 then (dV (decide (a.kind=0)),0) else if k=7∧(isZ a||isZ b)=true then (dV false,0) else if k=8∧(isO a||isO b)=true then (dV true,0)
  else if (decide (a.kind=0)||decide (b.kind=0))=true then (v0,0) else if k=2∨k=3∨k=4 then (if oK k a.n b.n=true then (v0,20) else (vN (opQ k a.n b.n),0))
  else if k=5 then (dV (eqV a b),0) else if k=6 then (if a.kind=2 then (dV (tM a.s b.s),0) else (dV (decide (a.n<b.n)),0)) else if k=7 then (dV true,0) else if k=8 then (dV false,0) else (dV (decide (a.n=0)),0)
theorem wS {k:Int} (a b:Vl) (h1:2≤k) (h2:k≤10) (ha:inM a.n) (hb:inM b.n):PF Tryz.prog 163 [(PV.val (Value.int .i64 (k))), .agg a.cells, .agg b.cells] (cS (kF k a b)):=by
  have hg:= @rG k a.kind b.kind
  have hr:=fun k' (_:k'=k)=>ajE (k:=k) ha hb
  have hr:=hr k rfl
  have hk:k=2∨k=3∨k=4∨k=5∨k=6∨k=7∨k=8∨k=9∨k=10:=by omega
  have hd:kF k a b=kF k a b:=rfl
  conv at hd=>rhs;unfold kF isZ isO eqV dV
  generalize kF k a b=R at*
  generalize fV k a.kind b.kind=G at*
  generalize (if oK k a.n b.n=true then (v0,(20:Int)) else (vN (opQ k a.n b.n),0))=Q at*
  obtain ⟨⟨q1,q2,q3⟩,q4⟩:=Q
  unfold cS at hr
  dsimp only at hr
  rcases hk with rfl|rfl|rfl|rfl|rfl|rfl|rfl|rfl|rfl
  all_goals simp only [Int.reduceEq,if_false,false_and,true_and,or_self,or_false,false_or,or_true,true_or,if_true,reduceIte] at hd
  · refine aH aD Tryz.func163 (by kernel_rfl) rfl rfl rfl rfl (fun st=> ?_)
    (try (apply wO pk;exact rfl));(repeat' (first|(show All _;constructor)|(show Imp _ _;constructor)|(show ImpX _ _ _ _;constructor)|(apply wC pk;(iterate 2 exact rfl))|(apply wE pk;(iterate 2 exact rfl))|(refine aA rfl (fun h=> ?_) (fun h=> ?_)<;>(try simp at h)<;>try (exfalso;omega))|(refine aB ?_;refine ⟨_,_,_,rfl,Wk.refl _,StSub.refl _, ?_,rfl⟩;try first|rfl|(((rw [hd];simp [*,cS,v0,vN];done));done))|(apply aI;(iterate 3 exact rfl);(intro _;(first|apply hg|apply hr)<;>first|assumption|omega);rotate_left;(iterate 2 exact rfl))))
  · refine aH aD Tryz.func163 (by kernel_rfl) rfl rfl rfl rfl (fun st=> ?_)
    (try (apply wO pk;exact rfl));(repeat' (first|(show All _;constructor)|(show Imp _ _;constructor)|(show ImpX _ _ _ _;constructor)|(apply wC pk;(iterate 2 exact rfl))|(apply wE pk;(iterate 2 exact rfl))|(refine aA rfl (fun h=> ?_) (fun h=> ?_)<;>(try simp at h)<;>try (exfalso;omega))|(refine aB ?_;refine ⟨_,_,_,rfl,Wk.refl _,StSub.refl _, ?_,rfl⟩;try first|rfl|(((rw [hd];simp [*,cS,v0,vN];done));done))|(apply aI;(iterate 3 exact rfl);(intro _;(first|apply hg|apply hr)<;>first|assumption|omega);rotate_left;(iterate 2 exact rfl))))
  · refine aH aD Tryz.func163 (by kernel_rfl) rfl rfl rfl rfl (fun st=> ?_)
    (try (apply wO pk;exact rfl));(repeat' (first|(show All _;constructor)|(show Imp _ _;constructor)|(show ImpX _ _ _ _;constructor)|(apply wC pk;(iterate 2 exact rfl))|(apply wE pk;(iterate 2 exact rfl))|(refine aA rfl (fun h=> ?_) (fun h=> ?_)<;>(try simp at h)<;>try (exfalso;omega))|(refine aB ?_;refine ⟨_,_,_,rfl,Wk.refl _,StSub.refl _, ?_,rfl⟩;try first|rfl|(((rw [hd];simp [*,cS,v0,vN];done));done))|(apply aI;(iterate 3 exact rfl);(intro _;(first|apply hg|apply hr)<;>first|assumption|omega);rotate_left;(iterate 2 exact rfl))))
  · refine aH aD Tryz.func163 (by kernel_rfl) rfl rfl rfl rfl (fun st=> ?_)
    (try (apply wO pk;exact rfl));(repeat' (first|(show All _;constructor)|(show Imp _ _;constructor)|(show ImpX _ _ _ _;constructor)|(apply wC pk;(iterate 2 exact rfl))|(apply wE pk;(iterate 2 exact rfl))|(refine aA rfl (fun h=> ?_) (fun h=> ?_)<;>(try simp at h)<;>try (exfalso;omega))|(refine aB ?_;refine ⟨_,_,_,rfl,Wk.refl _,StSub.refl _, ?_,rfl⟩;try first|rfl|(((rw [hd];simp [*,cS,v0,vN];done));done))|(apply aI;(iterate 3 exact rfl);(intro _;(first|apply hg|apply fJ)<;>first|assumption|omega);rotate_left;(iterate 2 exact rfl))))
  · refine aH aD Tryz.func163 (by kernel_rfl) rfl rfl rfl rfl (fun st=> ?_)
    (try (apply wO pk;exact rfl));(repeat' (first|(show All _;constructor)|(show Imp _ _;constructor)|(show ImpX _ _ _ _;constructor)|(apply wC pk;(iterate 2 exact rfl))|(apply wE pk;(iterate 2 exact rfl))|(refine aA rfl (fun h=> ?_) (fun h=> ?_)<;>(try simp at h)<;>try (exfalso;omega))|(refine aB ?_;refine ⟨_,_,_,rfl,Wk.refl _,StSub.refl _, ?_,rfl⟩;try first|rfl|((first|(rw [hd];simp [*,cS,v0,vN];done)|(rw [hd];by_cases z1:a.kind=1<;>by_cases z2:a.n=0<;>by_cases z3:b.kind=1<;>by_cases z4:b.n=0<;>by_cases z5:a.kind=0<;>by_cases z6:b.kind=0<;>(first|(exfalso;omega)|(simp [*,cS,v0,vN,tM];by_cases hz:Op.bytesLess a.s.toList b.s.toList=true<;>simp [hz];done))));done))|(apply aI;(iterate 3 exact rfl);(intro _;(first|apply hg|apply fJ)<;>first|assumption|omega);rotate_left;(iterate 2 exact rfl))))
  · refine aH aD Tryz.func163 (by kernel_rfl) rfl rfl rfl rfl (fun st=> ?_)
    (try (apply wO pk;exact rfl));(repeat' (first|(show All _;constructor)|(show Imp _ _;constructor)|(show ImpX _ _ _ _;constructor)|(apply wC pk;(iterate 2 exact rfl))|(apply wE pk;(iterate 2 exact rfl))|(refine aA rfl (fun h=> ?_) (fun h=> ?_)<;>(try simp at h)<;>try (exfalso;omega))|(refine aB ?_;refine ⟨_,_,_,rfl,Wk.refl _,StSub.refl _, ?_,rfl⟩;try first|rfl|((first|(rw [hd];simp [*,cS,v0,vN];done)|(rw [hd];by_cases z1:a.kind=1<;>by_cases z2:a.n=0<;>by_cases z3:b.kind=1<;>by_cases z4:b.n=0<;>by_cases z5:a.kind=0<;>by_cases z6:b.kind=0<;>(first|(exfalso;omega)|(simp [*,cS,v0,vN,tM];done))));done))|(apply aI;(iterate 3 exact rfl);(intro _;(first|apply hg|apply fJ)<;>first|assumption|omega);rotate_left;(iterate 2 exact rfl))))
  · refine aH aD Tryz.func163 (by kernel_rfl) rfl rfl rfl rfl (fun st=> ?_)
    (try (apply wO pk;exact rfl));(repeat' (first|(show All _;constructor)|(show Imp _ _;constructor)|(show ImpX _ _ _ _;constructor)|(apply wC pk;(iterate 2 exact rfl))|(apply wE pk;(iterate 2 exact rfl))|(refine aA rfl (fun h=> ?_) (fun h=> ?_)<;>(try simp at h)<;>try (exfalso;omega))|(refine aB ?_;refine ⟨_,_,_,rfl,Wk.refl _,StSub.refl _, ?_,rfl⟩;try first|rfl|((first|(rw [hd];simp [*,cS,v0,vN];done)|(rw [hd];by_cases z1:a.kind=1<;>by_cases z2:a.n=0<;>by_cases z3:b.kind=1<;>by_cases z4:b.n=0<;>by_cases z5:a.kind=0<;>by_cases z6:b.kind=0<;>(first|(exfalso;omega)|(simp [*,cS,v0,vN,tM];done))));done))|(apply aI;(iterate 3 exact rfl);(intro _;(first|apply hg|apply fJ)<;>first|assumption|omega);rotate_left;(iterate 2 exact rfl))))
  · refine aH aD Tryz.func163 (by kernel_rfl) rfl rfl rfl rfl (fun st=> ?_)
    (try (apply wO pk;exact rfl));(repeat' (first|(show All _;constructor)|(show Imp _ _;constructor)|(show ImpX _ _ _ _;constructor)|(apply wC pk;(iterate 2 exact rfl))|(apply wE pk;(iterate 2 exact rfl))|(refine aA rfl (fun h=> ?_) (fun h=> ?_)<;>(try simp at h)<;>try (exfalso;omega))|(refine aB ?_;refine ⟨_,_,_,rfl,Wk.refl _,StSub.refl _, ?_,rfl⟩;try first|rfl|(((rw [hd];simp [*,cS,v0,vN];done));done))|(apply aI;(iterate 3 exact rfl);(intro _;(first|apply hg|apply fJ)<;>first|assumption|omega);rotate_left;(iterate 2 exact rfl))))
  · refine aH aD Tryz.func163 (by kernel_rfl) rfl rfl rfl rfl (fun st=> ?_)
    (try (apply wO pk;exact rfl));(repeat' (first|(show All _;constructor)|(show Imp _ _;constructor)|(show ImpX _ _ _ _;constructor)|(apply wC pk;(iterate 2 exact rfl))|(apply wE pk;(iterate 2 exact rfl))|(refine aA rfl (fun h=> ?_) (fun h=> ?_)<;>(try simp at h)<;>try (exfalso;omega))|(refine aB ?_;refine ⟨_,_,_,rfl,Wk.refl _,StSub.refl _, ?_,rfl⟩;try first|rfl|(((rw [hd];simp [*,cS,v0,vN];done));done))|(apply aI;(iterate 3 exact rfl);(intro _;(first|apply hg|apply fJ)<;>first|assumption|omega);rotate_left;(iterate 2 exact rfl))))
theorem right_cases {v:Vl} (h:rightV v=true):(v.kind=0∧v.n=0∧v.s=e0)∨(v.kind=1∧v.s=e0∧inM v.n)∨(v.kind=2∧v.n=0):=by
  unfold rightV at h
  unfold inM
  split at h
  · simp at h;exact .inl ⟨by assumption,h⟩
  · split at h
    · simp at h;exact .inr (.inl ⟨by assumption,h.1.1,h.1.2,h.2⟩)
    · split at h
      · simp at h;exact .inr (.inr ⟨by assumption,h.1⟩)
      · cases h
theorem gX :rightV v0=true:=by simp [rightV,v0]
theorem xN {n:Int} (h1: -1099511627776≤n) (h2:n≤1099511627776):rightV (vN n)=true:=by simp [rightV,vN,h1,h2]
theorem sY (b:Bool):rightV (dV b)=true:=by cases b<;>exact xN (by simp) (by simp)
theorem ahS {op:Int→Int→Int} {a b:Vl}:rightV (lM op a b).1=true:=by
  unfold lM
  split
  · exact gX
  · rename_i h
    simp [lR] at h
    exact xN (by omega) (by omega)
theorem tG {r:Vl→Vl→Vl×Int} {a b:Vl} (h:rightV (r a b).1=true):rightV (fQ r a b).1=true:=by
  unfold fQ
  split
  · exact gX
  · exact h
theorem ahW (k:Int) (a b:Vl):rightV (jK k a b).1=true:=by
  unfold jK
  repeat' split
  all_goals first
    |exact tG ahS
    |exact tG (sY _)
    |exact sY _
    |(unfold sQ;(repeat' split)<;>first|exact gX|exact xN (by simp) (by simp))
theorem jD {row:List Vl} (hr:∀v∈row,rightV v=true):∀{e:Ex},aY e=true→rightV (bD row e).1=true
  | .mk k n v of,hf=>by
    simp only [bD]
    split
    · split
      · exact gX
      · rw [List.getD_eq_getElem?_getD]
        cases hi:row[n.toNat]? with
        |none=>exact gX
        |some x=>exact hr x (List.mem_of_getElem? hi)
    · split
      · rename_i h0 h1
        subst h1
        simp [aY,dR] at hf
        exact hf.1.2
      · split
        · exact gX
        · split
          · exact ahW _ _ _
          · exact gX
theorem aeJ {v:Vl} (h:rightV v=true):aeB v=isZ v:=by
  unfold aeB isZ
  rcases right_cases h with ⟨h1,_,h3⟩|⟨h1,h2,_⟩|⟨h1,_⟩
  · rw [h3];simp
  · rw [h2];simp
  · rw [h1];simp
theorem aqV :∀l:List UInt8,Op.bytesLess l l=false
  |[]=>rfl
  |a::l=>by simp [Op.bytesLess,aqV l]
theorem awL :tM e0 e0=false:=aqV _
theorem aiY {a b:Vl} (ha:rightV a=true) (hb:rightV b=true) (h:a.kind=b.kind) (h0:¬a.kind=0):cA a b=if a.kind=2 then tM a.s b.s else decide (a.n<b.n):=by
  unfold cA
  rcases right_cases ha with ⟨h1,_,_⟩|⟨h1,h2,_⟩|⟨h1,h2⟩
  · exact absurd h1 h0
  · rcases right_cases hb with ⟨h4,_,_⟩|⟨h4,h5,_⟩|⟨h4,h5⟩
    · omega
    · rw [h2,h5,awL,Bool.or_false,if_neg (by omega)]
    · omega
  · rcases right_cases hb with ⟨h4,_,_⟩|⟨h4,h5,_⟩|⟨h4,h5⟩
    · omega
    · omega
    · rw [h2,h5,if_pos h1];simp
theorem auG {k:Int} {a b:Vl} (h1:2≤k) (h2:k≤10) (ha:rightV a=true) (hb:rightV b=true) (hg:fV k a.kind b.kind=true):jK k a b=kF k a b:=by
  have hA:=rE ha
  have hB:=rE hb
  have hA':=hA
  have hB':=hB
  unfold inM at hA' hB'
  have hk:k=2∨k=3∨k=4∨k=5∨k=6∨k=7∨k=8∨k=9∨k=10:=by omega
  have hG:¬fV k a.kind b.kind=false:=by rw [hg];simp
  unfold kF
  rw [if_neg hG]
  rcases hk with rfl|rfl|rfl|rfl|rfl|rfl|rfl|rfl|rfl
  all_goals simp only [jK,fQ,sQ,Int.reduceEq,if_false,false_and,true_and,or_self,or_false,false_or,or_true,true_or,if_true,reduceIte]
  · by_cases hn:(decide (a.kind=0)||decide (b.kind=0))=true
    · rw [if_pos hn,if_pos hn]
    rw [if_neg hn,if_neg hn]
    unfold lM
    dsimp only
    rw [arJ hA hB,show oK 2 a.n b.n=(decide (a.n+b.n>1099511627776)||decide (a.n+b.n< -1099511627776)) from rfl,fB (by omega) (by omega)]
    rfl
  · by_cases hn:(decide (a.kind=0)||decide (b.kind=0))=true
    · rw [if_pos hn,if_pos hn]
    rw [if_neg hn,if_neg hn]
    unfold lM
    dsimp only
    rw [aqQ hA hB,show oK 3 a.n b.n=(decide (a.n-b.n>1099511627776)||decide (a.n-b.n< -1099511627776)) from rfl,fB (by omega) (by omega)]
    rfl
  · by_cases hn:(decide (a.kind=0)||decide (b.kind=0))=true
    · rw [if_pos hn,if_pos hn]
    rw [if_neg hn,if_neg hn]
    unfold lM
    dsimp only
    rw [aqL,show oK 4 a.n b.n=(decide (a.n*b.n>1099511627776)||decide (a.n*b.n< -1099511627776)) from rfl]
    by_cases ho:(decide (a.n*b.n>1099511627776)||decide (a.n*b.n< -1099511627776))=true
    · rw [if_pos ho,if_pos ho]
    · rw [if_neg ho,if_neg ho]
      simp at ho
      rw [fB (by omega) (by omega)]
      rfl
  · by_cases hn:(decide (a.kind=0)||decide (b.kind=0))=true
    · rw [if_pos hn,if_pos hn]
    rw [if_neg hn,if_neg hn]
    simp [fV] at hg hn
    rw [aiY ha hb (by omega) (by omega)]
    by_cases h5:a.kind=2
    · rw [if_pos h5,if_pos h5]
    · rw [if_neg h5,if_neg h5]
  · rw [aeJ ha,aeJ hb]
    rfl
  · rfl
def xF (k:Int) (n:Nat) (a c:Vl×Int):Vl×Int:=if a.2≠0 then (v0,a.2) else if n>1 then (if c.2≠0 then (v0,c.2) else kF k a.1 c.1) else kF k a.1 a.1
theorem atC {k a c:Int} (h1:2≤k) (h2:k≤8):kC (fR k) 0 [a,c]=fV k a c:=by
  have hk:k=2∨k=3∨k=4∨k=5∨k=6∨k=7∨k=8:=by omega
  rw [Bool.eq_iff_iff]
  simp only [kC,fV,fR]
  rcases hk with rfl|rfl|rfl|rfl|rfl|rfl|rfl<;>simp<;>by_cases ha:a=0<;>simp [ha]<;>omega
theorem arH {k a:Int} (h:k=9∨k=10):kC (fR k) 0 [a]=fV k a a:=by
  rw [Bool.eq_iff_iff]
  simp only [kC,fV,fR]
  rcases h with rfl|rfl<;>simp<;>by_cases ha:a=0<;>simp [ha]
theorem ajN {k:Int} {a b:Vl} {g:Bool} (h1:2≤k) (h2:k≤10) (ha:rightV a=true) (hb:rightV b=true) (hg:g=fV k a.kind b.kind):(if g=true then jK k a b else (v0,6))=kF k a b:=by
  subst hg
  by_cases h:fV k a.kind b.kind=true
  · rw [if_pos h,auG h1 h2 ha hb h]
  · rw [if_neg h];unfold kF;rw [if_pos (by simpa using h)]
theorem afO {row:List Vl} (hr:∀v∈row,rightV v=true) {e:Ex} (hf:aY e=true) (h0:¬e.k=0) (h1:¬e.k=1) (h:0<e.of.length) (d:Vl×Int):bD row e=xF e.k e.of.length (bD row (e.of[0]'h)) (if h':1<e.of.length then bD row (e.of[1]'(h')) else d):=by
  obtain ⟨k,n,v,of⟩:=e
  obtain ⟨hk,hn,hv,hlen,hall⟩:=lC hf h0 h1
  simp only [Ex.k,Ex.n,Ex.v,Ex.of] at*
  rcases of with _|⟨x,_|⟨y,_|⟨w,of⟩⟩⟩
  · exact absurd h (Nat.lt_irrefl _)
  · have hk':k=9∨k=10:=by simp [cT] at hlen;omega
    have hx:=jD hr (hall x (by simp))
    have hm:cT k=1:=by unfold cT;rw [if_pos hk']
    show bD row (.mk k n v [x])=xF k 1 (bD row x) d
    simp only [bD,gG,if_neg h0,if_neg h1,xF,hm]
    generalize bD row x=a at*
    obtain ⟨a,a'⟩:=a
    by_cases hz:a'=0
    · simp only [hz,if_true]
      have:=ajN (g:=kC (fR k) 0 ([a].map Vl.kind)) hk.1 hk.2 hx hx (arH hk')
      simpa using this
    · simp [hz]
  · have hk':k=2∨k=3∨k=4∨k=5∨k=6∨k=7∨k=8:=by simp [cT] at hlen;omega
    have hx:=jD hr (hall x (by simp))
    have hy:=jD hr (hall y (by simp))
    have hm:cT k=2:=by unfold cT;rw [if_neg (by omega)]
    show bD row (.mk k n v [x,y])=xF k 2 (bD row x) (bD row y)
    simp only [bD,gG,if_neg h0,if_neg h1,xF,hm]
    generalize bD row x=a at*
    generalize bD row y=c at*
    obtain ⟨a,a'⟩:=a
    obtain ⟨c,c'⟩:=c
    by_cases hz:a'=0<;>by_cases hz':c'=0
    · simp only [hz,hz',if_true]
      have:=ajN (g:=kC (fR k) 0 ([a,c].map Vl.kind)) hk.1 hk.2 hx hy (atC hk.1 (by omega))
      simpa using this
    · simp [hz,hz']
    · simp [hz]
    · simp [hz]
  · simp [cT] at hlen;split at hlen<;>omega
theorem aoF {row:List Vl} {e:Ex} (h:e.k=0):bD row e=if e.n≥row.length then (v0,4) else (row.getD e.n.toNat v0,0):=by
  cases e;simp only [Ex.k] at h;rw [bD,if_pos h];rfl
theorem alP {row:List Vl} {e:Ex} (h0:¬e.k=0) (h:e.k=1):bD row e=(e.v,0):=by
  cases e;simp only [Ex.k] at h h0;rw [bD,if_neg h0,if_pos h];rfl
theorem wK {row:List Vl} (hlen:row.length<2^62) (hr:∀v∈row,rightV v=true):∀(l:Nat) (e:Ex) (z:Int),z=(l:Nat)→l≤1000→dF l e=false→aY e=true→e.ok→PF Tryz.prog 116 [.agg e.lit, .seq (wU row),(PV.val (Value.int .i64 (z)))] (cS (bD row e))
  |0,e,z,_,_,hd,_,_=>by simp [dF] at hd
  |l+1,e,z,hz,hl,hd,hf,hok=>by
    have hok:=Ex.ok' hok
    have hf':=hf
    rw [lB] at hf'
    have ih:∀(i:Nat) (hi:i<e.of.length) (z:Int),z=(l:Nat)→¬e.k=0→¬e.k=1→PF Tryz.prog 116 [.agg (e.of[i]'hi).lit, .seq (wU row),(PV.val (Value.int .i64 (z)))] (cS (bD row (e.of[i]'hi))):=fun i hi z hz h0 h1=>wK hlen hr l _ z hz (by omega) (pP hd hi) (by simp_all) (Ex.oks_at hok.2 hi)
    have hvl:=yJ row
    refine aH aD Tryz.func116 (by kernel_rfl) rfl rfl rfl rfl (fun st=> ?_)
    by_cases h0:e.k=0
    · have h2:0≤e.n:=by simp_all [dR]
      rw [aoF h0]
      by_cases h3:e.n≥row.length
      · rw [if_pos h3]
        (try (apply wO pk;exact rfl));(repeat' (first|(show All _;constructor)|(apply wC pk;(iterate 2 exact rfl))|(refine aA rfl (fun h=> ?_) (fun h=> ?_)<;>(try simp at h)<;>try (exfalso;omega))|(refine aB ?_;refine ⟨_,_,_,rfl,Wk.refl _,StSub.refl _, ?_,rfl⟩;try first|rfl|((fail);done))))
      · rw [if_neg h3]
        have h4:e.n.toNat<row.length:=by omega
        have hrow:=arW h4
        rw [List.getD_eq_getElem?_getD,List.getElem?_eq_getElem h4,Option.getD_some]
        generalize row[e.n.toNat]'h4=w at*
        (try (apply wO pk;exact rfl));(repeat' (first|(show All _;constructor)|(show Imp _ _;constructor)|(apply wC pk;(iterate 2 exact rfl))|(apply wE pk;(iterate 2 exact rfl))|(refine aA rfl (fun h=> ?_) (fun h=> ?_)<;>(try simp at h)<;>try (exfalso;omega))|(refine aB ?_;refine ⟨_,_,_,rfl,Wk.refl _,StSub.refl _, ?_,rfl⟩;try first|rfl|((fail);done))|(apply aM pk;(iterate 6 exact rfl);rotate_left;exact rfl;(intro hw;exact (Int.toNat_of_nonneg (by omega)).symm);(intro hw;apply hrow<;>omega);(intro _;exact rfl);exact rfl)))
    by_cases h1:e.k=1
    · rw [alP h0 h1]
      (try (apply wO pk;exact rfl));(repeat' (first|(show All _;constructor)|(apply wC pk;(iterate 2 exact rfl))|(refine aA rfl (fun h=> ?_) (fun h=> ?_)<;>(try simp at h)<;>try (exfalso;omega))|(refine aB ?_;refine ⟨_,_,_,rfl,Wk.refl _,StSub.refl _, ?_,rfl⟩;try first|rfl|((fail);done))))
    have h2:e.of.length=(cT e.k).toNat:=by simp_all [dR];omega
    have h2':e.of.length=1∨e.of.length=2:=by simp only [h2,cT];split<;>simp
    have hk:2≤e.k∧e.k≤10:=by simp_all [dR]
    clear h2
    have hrt:∀(i:Nat) (hi:i<e.of.length),inM (bD row (e.of[i]'hi)).1.n:=fun i hi=>rE (jD hr (by simp_all))
    rcases h2' with h2'|h2'
    · rw [afO hr hf h0 h1 (by omega) (v0,0),dif_neg (by omega)]
      simp only [xF,h2']
      have i0:0<e.of.length:=by omega
      have hrl:=Ex.rows_len e.of
      have ih:=fun z hz=>ih 0 i0 z hz h0 h1
      have hs:=wS (bD row (e.of[0]'(by omega))).1 (bD row (e.of[0]'(by omega))).1 hk.1 hk.2 (hrt 0 (by omega)) (hrt 0 (by omega))
      generalize bD row (e.of[0]'(by omega))=A at*
      generalize hS:kF e.k A.1 A.1=S at*
      obtain ⟨⟨a1,a2,a3⟩,a4⟩:=A
      unfold cS at ih
      unfold Vl.cells at hs
      dsimp only at*
      (try (apply wO pk;exact rfl));(repeat' (first|(show All _;constructor)|(show Imp _ _;constructor)|(apply wC pk;(iterate 2 exact rfl))|(apply wE pk;(iterate 2 exact rfl))|(refine aA rfl (fun h=> ?_) (fun h=> ?_)<;>(try simp at h)<;>try (exfalso;omega))|(refine aB ?_;refine ⟨_,_,_,rfl,Wk.refl _,StSub.refl _, ?_,rfl⟩;try first|rfl|(((simp_all [cS,v0];done));done))|(apply aI;(iterate 3 exact rfl);(intro _;(first|apply ih|apply hs)<;>first|assumption|omega);rotate_left;(iterate 2 exact rfl))|(apply aM pk;(iterate 6 exact rfl);rotate_left;exact rfl;(intro hw;exact rfl);(intro hw;apply Ex.rows_at<;>omega);(intro _;exact rfl);exact rfl)|(intros;(try simp only [zql]);omega)))
    · rw [afO hr hf h0 h1 (by omega) (v0,0),dif_pos (by omega)]
      simp only [xF,h2']
      have i0:0<e.of.length:=by omega
      have hrl:=Ex.rows_len e.of
      have i1:1<e.of.length:=by omega
      have ih1:=fun z hz=>ih 0 i0 z hz h0 h1
      have ih2:=fun z hz=>ih 1 i1 z hz h0 h1
      have hs:=wS (bD row (e.of[0]'(by omega))).1 (bD row (e.of[1]'(by omega))).1 hk.1 hk.2 (hrt 0 (by omega)) (hrt 1 (by omega))
      generalize bD row (e.of[0]'(by omega))=A at*
      generalize bD row (e.of[1]'(by omega))=C at*
      generalize hS:kF e.k A.1 C.1=S at*
      obtain ⟨⟨a1,a2,a3⟩,a4⟩:=A
      obtain ⟨⟨c1,c2,c3⟩,c4⟩:=C
      unfold cS at ih1 ih2
      unfold Vl.cells at hs
      dsimp only at*
      (try (apply wO pk;exact rfl));(repeat' (first|(show All _;constructor)|(show Imp _ _;constructor)|(apply wC pk;(iterate 2 exact rfl))|(apply wE pk;(iterate 2 exact rfl))|(refine aA rfl (fun h=> ?_) (fun h=> ?_)<;>(try simp at h)<;>try (exfalso;omega))|(refine aB ?_;refine ⟨_,_,_,rfl,Wk.refl _,StSub.refl _, ?_,rfl⟩;try first|rfl|(((simp_all [cS,v0];done));done))|(apply aI;(iterate 3 exact rfl);(intro _;(first|apply ih1|apply ih2|apply hs)<;>first|assumption|omega);rotate_left;(iterate 2 exact rfl))|(apply aM pk;(iterate 6 exact rfl);rotate_left;exact rfl;(intro hw;exact rfl);(intro hw;apply Ex.rows_at<;>omega);(intro _;exact rfl);exact rfl)|(intros;(try simp only [zql]);omega)))
theorem Eval_right {e:Ex} {row:List Vl} (hr:∀v∈row,rightV v=true):rightV (EvalR e row).1=true:=by
  unfold EvalR
  by_cases h:jC e=0
  · rw [if_neg (fun q=>q h)];exact jD hr (fY h).2
  · rw [if_pos h];exact gX
theorem rEval_spec {e:Ex} (hok:e.ok) {row:List Vl} (hlen:row.length<2^62) (hr:∀v∈row,rightV v=true):PF Tryz.prog 72 [.agg e.lit, .seq (wU row)] (cS (EvalR e row)):=by
  have h1:=yK hok
  have h4:= @fY e
  by_cases hm:jC e=0
  · have h3:=wK hlen hr 20 e 20 rfl (by omega) (h4 hm).1 (h4 hm).2 hok
    rw [hm] at h1
    have e1:EvalR e row=bD row e:=by unfold EvalR;rw [if_neg (fun q=>q hm)]
    rw [e1]
    generalize bD row e=R at*
    refine aH aD Tryz.func72 (by kernel_rfl) rfl rfl rfl rfl (fun st=> ?_)
    (try (apply wO pk;exact rfl));(repeat' (first|(show All _;constructor)|(show Imp _ _;constructor)|(apply wC pk;(iterate 2 exact rfl))|(apply wE pk;(iterate 2 exact rfl))|(refine aA rfl (fun h=> ?_) (fun h=> ?_)<;>(try simp at h)<;>try (exfalso;omega))|(refine aB ?_;refine ⟨_,_,_,rfl,Wk.refl _,StSub.refl _, ?_,rfl⟩;try first|rfl|((fail);done))|(apply aI;(iterate 3 exact rfl);(intro _;(first|apply h1|apply h3)<;>first|assumption|omega);rotate_left;(iterate 2 exact rfl))))
  · have e1:EvalR e row=(v0,jC e):=by unfold EvalR;rw [if_pos hm]
    rw [e1]
    generalize jC e=M at*
    refine aH aD Tryz.func72 (by kernel_rfl) rfl rfl rfl rfl (fun st=> ?_)
    (try (apply wO pk;exact rfl));(repeat' (first|(show All _;constructor)|(show Imp _ _;constructor)|(apply wC pk;(iterate 2 exact rfl))|(apply wE pk;(iterate 2 exact rfl))|(refine aA rfl (fun h=> ?_) (fun h=> ?_)<;>(try simp at h)<;>try (exfalso;omega))|(refine aB ?_;refine ⟨_,_,_,rfl,Wk.refl _,StSub.refl _, ?_,rfl⟩;try first|rfl|((fail);done))|(apply aI;(iterate 3 exact rfl);(intro _;apply h1<;>first|assumption|omega);rotate_left;(iterate 2 exact rfl))))
end Go.Proofs.YtcglimangneafaaGreatDoor.X
