import Derived.Test.YtcglimangneafaaGreatDoorData
import Derived.Test.YtcglimangneafaaGreatDoorAbsG
set_option linter.unusedSimpArgs false
set_option linter.unusedVariables false
namespace Go.Proofs.YtcglimangneafaaGreatDoor
open Go Go.Abs
attribute [local irreducible] Ev PWp
set_option maxRecDepth 10000
set_option maxHeartbeats 1000000
theorem apT (a:Int):PF Tryz.prog 182 [(PV.val (Value.int .i64 (a)))] (PV.val (Value.bool (false))):=by
  refine aH aD Tryz.func182 (by kernel_rfl) rfl rfl rfl rfl (fun st=> ?_)
  (try (apply wO pk;exact rfl));(repeat' (first|(show All _;constructor)|(refine aB ?_;refine ⟨_,_,_,rfl,Wk.refl _,StSub.refl _, ?_,rfl⟩;try first|rfl|(simp;done))))
def iB (a b:Int):Int:=if a<b then-1 else if a>b then 1 else 0
theorem hZ (a b:Int):PF Tryz.prog 138 [(PV.val (Value.int .i64 (a))),(PV.val (Value.int .i64 (b)))] (PV.val (Value.int .i64 (iB a b))):=by
  refine aH aD Tryz.func138 (by kernel_rfl) rfl rfl rfl rfl (fun st=> ?_)
  (try (apply wO pk;exact rfl));(repeat' (first|(show All _;constructor)|(show Imp _ _;constructor)|(apply wC pk;(iterate 2 exact rfl))|(apply wE pk;(iterate 2 exact rfl))|(refine aA rfl (fun h=> ?_) (fun h=> ?_)<;>(try simp at h)<;>try (exfalso;omega))|(refine aB ?_;refine ⟨_,_,_,rfl,Wk.refl _,StSub.refl _, ?_,rfl⟩;try first|rfl|((first|(simp_all [iB];done)|(obtain rfl:a=b:=(by omega);simp [iB]));done))|(apply aI;(iterate 3 exact rfl);(intro _;apply apT<;>first|assumption|omega);rotate_left;(iterate 2 exact rfl))))
def orI :List Int→Int
  |[]=>0
  |x::l=>if x=0 then orI l else x
theorem aeZ {l:List Int} {i:Nat} (h:i<l.length):orI (l.drop i)=if l[i]=0 then orI (l.drop (i+1)) else l[i]:=by
  rw [List.drop_eq_getElem_cons h,orI]
theorem aaS (l:List Int) (hl:l.length<4611686018427387904):PF Tryz.prog 137 [.seq (l.map I1)] (PV.val (Value.int .i64 (orI l))):=by
  refine aH aD Tryz.func137 (by kernel_rfl) rfl rfl rfl rfl (fun st=> ?_)
  (try (apply wO pk;exact rfl));(repeat' ((show All _;constructor)))
  refine aJ (X:={x:Nat//x≤l.length∧orI (l.drop x)=orI l}) (fun i=>(((((St.nil 18 st).pv 3 ((PV.val (Value.int .i64 (0))))).pv 6 (.seq (l.map I1))).pv 7 ((PV.val (Value.int .i64 ((((l.map I1)).length:Nat)))))).pv 8 ((PV.val (Value.int .i64 ((i.1:Nat))))))) (fun i=>l.length-i.1) ⟨0,by omega,by simp⟩ ?_ (fun i=> ?_)
  · ((repeat (refine Sub.pv ?_ rfl));exact Sub.nil _ _ _ (StSub.refl _) rfl)
  obtain ⟨i,h1,hinv⟩:=i
  dsimp only
  (try (apply wO pk;exact rfl));(repeat' (first|(show All _;constructor)|(show Imp _ _;constructor)|(apply wC pk;(iterate 2 exact rfl))|(apply wE pk;(iterate 2 exact rfl))|(refine aA rfl (fun h=> ?_) (fun h=> ?_)<;>(try simp at h)<;>try (exfalso;omega))|(refine aB ?_;refine ⟨_,_,_,rfl,Wk.refl _,StSub.refl _, ?_,rfl⟩;try first|rfl|((rw [←hinv];(first|(rw [aeZ (by omega),if_neg (by assumption)];done)|(rw [List.drop_eq_nil_of_le (show l.length≤i by omega)];rfl)));done))|(apply aM pk;(iterate 6 exact rfl);rotate_left;exact rfl;(intro hw;exact rfl);(intro hw;apply aF<;>omega);(intro _;exact rfl);exact rfl)|(refine ⟨⟨i+1,by omega,by rw [←hinv,aeZ (i:=i) (by omega),if_pos (by assumption)]⟩, ?_,by simp only;omega⟩;((repeat (refine Sub.pv ?_ rfl));exact Sub.nil _ _ _ (StSub.refl _) rfl))|(intros;(try simp only [zql]);omega)))
def byD (a b:Dt):Int:=orI [iB a.dev b.dev,iB a.seq b.seq]
theorem aqM (a b:Dt):PF Tryz.prog 94 [.agg a.cells, .agg b.cells] (PV.val (Value.int .i64 (byD a b))):=by
  have ho:=aaS [iB a.dev b.dev,iB a.seq b.seq] (by simp)
  refine aH aD Tryz.func94 (by kernel_rfl) rfl rfl rfl rfl (fun st=> ?_)
  (try (apply wO pk;exact rfl));(repeat' (first|(show All _;constructor)|(show Imp _ _;constructor)|(apply wE pk;(iterate 2 exact rfl))|(apply wD pk [] [];kernel_rfl;exact rfl;exact rfl)|(refine aB ?_;refine ⟨_,_,_,rfl,Wk.refl _,StSub.refl _, ?_,rfl⟩;try rfl)|(apply aI;(iterate 3 exact rfl);(intro _;(first|apply (hZ a.dev b.dev)|apply (hZ a.seq b.seq)|apply ho)<;>first|assumption|omega);rotate_left;(iterate 2 exact rfl))))
def cZ (a b:Dt):Bool:=decide (a.dev>b.dev)||(decide (a.dev=b.dev)&&decide (a.seq>b.seq))
theorem kR (a b:Dt):PF Tryz.prog 158 [.agg a.cells, .agg b.cells] (PV.val (Value.bool (cZ a b))):=by
  refine aH aD Tryz.func158 (by kernel_rfl) rfl rfl rfl rfl (fun st=> ?_)
  (try (apply wO pk;exact rfl));(repeat' (first|(show All _;constructor)|(show Imp _ _;constructor)|(show ImpX _ _ _ _;constructor)|(refine aB ?_;refine ⟨_,_,_,rfl,Wk.refl _,StSub.refl _, ?_,rfl⟩;try rfl)))
theorem rI {α:Type} {f:α→Bool} {l:List α} {i:Nat} (h:i<l.length) (hf:f l[i]=true) (hn:∀j (h:j<i) (h2:j<l.length),f l[j]=false):l.findIdx? f=some i:=
  List.findIdx?_eq_some_iff_getElem.2 ⟨h,hf,fun j hj=>by rw [hn j hj (by omega)];simp⟩
theorem uP {α:Type} {f:α→Bool} {l:List α} {i:Nat} (h:l.length≤i) (hn:∀j (h:j<i) (h2:j<l.length),f l[j]=false):l.findIdx? f=none:=
  List.findIdx?_eq_none_iff.2 fun x hx=>by
    obtain ⟨j,hj,rfl⟩:=List.getElem_of_mem hx
    exact hn j (by omega) hj
def dZ {α:Type} (f:α→Bool) (l:List α):Int:=match l.findIdx? f with|some k=>((k:Nat):Int)|none=> -1
theorem sX {α:Type} (f:α→Bool) (l:List α):decide (dZ f l≥0)=l.any f:=by
  unfold dZ
  cases h:l.findIdx? f with
  |none=>
    rw [List.findIdx?_eq_none_iff] at h
    have:l.any f=false:=by rw [←Bool.not_eq_true,List.any_eq_true];rintro ⟨x,hx,hf⟩;rw [h x hx] at hf;cases hf
    rw [this];rfl
  |some k=>
    obtain ⟨hk,hf,_⟩:=List.findIdx?_eq_some_iff_getElem.1 h
    have:l.any f=true:=List.any_eq_true.2 ⟨_,List.getElem_mem hk,hf⟩
    rw [this]
    show decide (((k:Nat):Int)≥0)=true
    rw [decide_eq_true_eq];omega
theorem yZ (fid:FuncId) (caps:List PV) (f:Ln→Bool) (l:List Ln) (hl:l.length<4611686018427387904) (hf:∀p,PF Tryz.prog fid ([.agg p.cells]++caps) (PV.val (Value.bool (f p)))):PF Tryz.prog 73 [.seq (l.map Ln.cells), .fn fid caps] (PV.val (Value.int .i64 (dZ f l))):=by
  refine aH aD Tryz.func73 (by kernel_rfl) rfl rfl rfl rfl (fun st=> ?_)
  (try (apply wO pk;exact rfl));(repeat' ((show All _;constructor)))
  refine aJ (X:={x:Nat//x≤l.length∧∀j (h:j<x) (h2:j<l.length),f l[j]=false}) (fun i=>(((((St.nil 19 st).pv 0 (.seq (l.map Ln.cells))).pv 1 (.fn fid caps)).pv 7 ((PV.val (Value.int .i64 ((((l.map Ln.cells)).length:Nat)))))).pv 8 ((PV.val (Value.int .i64 ((i.1:Nat))))))) (fun i=>l.length-i.1) ⟨0,by omega,by omega⟩ ?_ (fun i=> ?_)
  · ((repeat (refine Sub.pv ?_ rfl));exact Sub.nil _ _ _ (StSub.refl _) rfl)
  obtain ⟨i,hi,hinv⟩:=i
  dsimp only
  (try (apply wO pk;exact rfl));(repeat' (first|(show All _;constructor)|(show Imp _ _;constructor)|(apply wC pk;(iterate 2 exact rfl))|(apply wE pk;(iterate 2 exact rfl))|(refine aA rfl (fun h=> ?_) (fun h=> ?_)<;>(try simp at h)<;>try (exfalso;omega))|(refine aB ?_;refine ⟨_,_,_,rfl,Wk.refl _,StSub.refl _, ?_,rfl⟩;try first|rfl|((first|(unfold dZ;rw [rI (by assumption) (by assumption) hinv];done)|(unfold dZ;rw [uP (by assumption) hinv]));done))|(apply aI;(iterate 3 exact rfl);(intro _;apply hf<;>first|assumption|omega);rotate_left;(iterate 2 exact rfl))|(apply aM pk;(iterate 6 exact rfl);rotate_left;exact rfl;(intro hw;exact rfl);(intro hw;apply aF<;>omega);(intro _;exact rfl);exact rfl)|(refine ⟨⟨i+1,by omega,fun j h1 h2=>by rcases Nat.lt_succ_iff_lt_or_eq.1 h1 with q|q;exact hinv j q h2;subst q;assumption⟩, ?_,by simp only;omega⟩;((repeat (refine Sub.pv ?_ rfl));exact Sub.nil _ _ _ (StSub.refl _) rfl))|(intros;(try simp only [zql]);omega)))
end Go.Proofs.YtcglimangneafaaGreatDoor
