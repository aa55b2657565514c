import Derived.Test.YtddmbnddgiebgaaGreatDoorBsSch
import Derived.Test.YtddmbnddgiebgaaGreatDoorBsNum
import Derived.Test.YtddmbnddgiebgaaGreatDoorBsRef
set_option linter.unusedSimpArgs false
set_option linter.unusedVariables false
namespace Go.Proofs.YtddmbnddgiebgaaGreatDoor
open Go Go.Abs
attribute [local irreducible] Ev PWp
set_option maxRecDepth 10000
set_option maxHeartbeats 4000000
def tG (f:Nat→Bool) (n:Nat):Bool:=(List.range n).all f
theorem wA {f:Nat→Bool} {n k:Nat} (h:k<n) (hf:f k=false):tG f n=false:=by
  unfold tG
  rw [←Bool.not_eq_true,List.all_eq_true]
  exact fun q=>by rw [q k (List.mem_range.2 h)] at hf;cases hf
theorem sD {f:Nat→Bool} {n:Nat} (hf:∀k<n,f k=true):tG f n=true:=by
  unfold tG
  rw [List.all_eq_true]
  exact fun k h=>hf k (List.mem_range.1 h)
theorem nA {f:Nat→Bool} {n:Nat}:tG f n=true↔∀k<n,f k=true:=by
  unfold tG
  rw [List.all_eq_true]
  exact ⟨fun h k hk=>h k (List.mem_range.2 hk),fun h k hk=>h k (List.mem_range.1 hk)⟩
theorem anC {f:Nat→Bool} {i:Nat} (hI:∀j<i,f j=true) (h:f i=true):∀j<i+1,f j=true:=fun j hj=>by
  rcases Nat.lt_succ_iff_lt_or_eq.1 hj with q|q
  · exact hI j q
  · subst q;exact h
theorem uT {f:Nat→Bool} {i:Nat} {p:Prop} (hI:∀j<i,f j=true) (e:f i=true↔p) (h:p):∀j<i+1,f j=true:=anC hI (e.2 h)
theorem adU {f:Nat→Bool} {i:Nat} {p R:Prop} (h:f i=false→R) (e:f i=true↔p) (hp:¬p):R:=h (by rw [←Bool.not_eq_true];exact fun q=>hp (e.1 q))
theorem akH {α β:Type} [Inhabited α] {f:α→β} {l:List α} {i:Nat} (h:i<l.length):(l.map f)[i]?=some (f l[i]!):=by
  rw [getElem!_pos l i h,List.getElem?_map,List.getElem?_eq_getElem h];rfl
variable (tx:Cl→Int)
def anV (c:Cl):Prop:=c.parts.length<1000000000000∧(c.kind=4→PF Tryz.prog 107 [.agg c.cells] (PV.val (Value.int .i64 (tx c))))
def yL (c:Cl):Bool:=if c.kind=0 then pC c.val&&decide (c.parts.length=0) else if c.kind=1 then wG c else if c.kind=2 then decide (xD c=0) else if c.kind=3 then vZ c else if c.kind=4 then decide (tx c=0) else false
theorem aeY (c:Cl) (h:anV tx c):PF Tryz.prog 66 [.agg c.cells] (PV.val (Value.bool (yL tx c))):=by
  obtain ⟨hl,ht⟩:=h
  have h1:=xL c (by omega)
  have h3:=xS c (by omega)
  have hv:=lC c.val
  have h2:=yV c
  unfold yL
  generalize pC c.val=A at*
  generalize wG c=B at*
  generalize xD c=C at*
  generalize vZ c=D at*
  generalize tx c=E at*
  refine aL aH Tryz.func66 (by kernel_rfl) rfl rfl rfl rfl (fun st=> ?_)
  (try (apply wO pk;exact rfl));(repeat' (first|(show All _;constructor)|(show Imp _ _;constructor)|(show ImpX _ _ _ _;constructor)|(apply wC pk;(iterate 2 exact rfl))|(apply wE pk;(iterate 2 exact rfl))|(apply wX pk;exact rfl)|(apply wN pk;exact rfl)|(apply wD pk [] [];kernel_rfl;exact rfl;exact rfl)|(apply aC;simp only [cond_true,cond_false])|(refine aD rfl (fun h=> ?_) (fun h=> ?_)<;>(try simp at h)<;>try (exfalso;omega))|(refine aF ?_;refine ⟨_,_,_,rfl,Wk.refl _,StSub.refl _, ?_,rfl⟩;try first|rfl|((simp [*];done);done))|(apply aM;(iterate 3 exact rfl);(intro _;(first|apply hv|apply h1|apply h2|apply h3|apply (ht (by assumption)))<;>first|assumption|omega);rotate_left;(iterate 2 exact rfl))|(intros;(try simp only [List.length_map]);omega)))
def aaP (l:List Dt) (k:Nat):Bool:=iH l[k]! &&(decide (k=0)||cS l[k]! l[k-1]!)
def adO (l:List Dt):Bool:=tG (aaP l) l.length
def qB (t:Tb) (l:Ln) (k:Nat):Bool:=decide (l.cells_[k]!.kind=t.cols[k]!.kind)&&yL tx l.cells_[k]!
def lV (t:Tb) (l:Ln):Bool:=decide (0≤l.key∧l.key<1073741824∧l.cells_.length=t.cols.length)&&decide (l.cells_[0]!.val=⟨1,l.key,e0⟩)
def gV (t:Tb) (l:Ln):Bool:=lV t l&&(tG (qB tx t l) l.cells_.length&&adO l.by_)
theorem adM {t:Tb} {l:Ln} (h:lV t l=false):gV tx t l=false:=by unfold gV;rw [h];rfl
theorem aoL {t:Tb} {l:Ln} {k:Nat} (h:k<l.cells_.length) (hf:qB tx t l k=false):gV tx t l=false:=by unfold gV;rw [wA h hf];simp
theorem alU {t:Tb} {l:Ln} {k:Nat} (h:k<l.by_.length) (hf:aaP l.by_ k=false):gV tx t l=false:=by unfold gV adO;rw [wA h hf];simp
theorem akV {t:Tb} {l:Ln} (h:lV t l=true) (hc:∀k<l.cells_.length,qB tx t l k=true) (hd:∀k<l.by_.length,aaP l.by_ k=true):gV tx t l=true:=by
  unfold gV adO
  rw [h,sD hc,sD hd];rfl
theorem agZ (t:Tb) (l:Ln) (ht:0<t.cols.length) (hl:l.cells_.length<1000000000000∧l.by_.length<1000000000000) (hp:∀c∈l.cells_,anV tx c):PF Tryz.prog 35 [.agg t.cells, .agg l.cells] (PV.val (Value.bool (gV tx t l))):=by
  by_cases h0:¬((0≤l.key∧l.key<1073741824)∧l.cells_.length=t.cols.length)
  · rw [adM tx (by unfold lV;rw [decide_eq_false (fun h=>h0 ⟨⟨h.1,h.2.1⟩,h.2.2⟩)];rfl)]
    refine aL aH Tryz.func35 (by kernel_rfl) rfl rfl rfl rfl (fun st=> ?_)
    (try (apply wO pk;exact rfl));(repeat' (first|(show All _;constructor)|(show Imp _ _;constructor)|(show ImpX _ _ _ _;constructor)|(apply wC pk;(iterate 2 exact rfl))|(apply wE pk;(iterate 2 exact rfl))|(apply wX pk;exact rfl)|(apply wN pk;exact rfl)|(apply wD pk [] [];kernel_rfl;exact rfl;exact rfl)|(apply aC;simp only [cond_true,cond_false])|(refine aD rfl (fun h=> ?_) (fun h=> ?_)<;>(try simp at h)<;>try (exfalso;omega))|(refine aF ?_;refine ⟨_,_,_,rfl,Wk.refl _,StSub.refl _, ?_,rfl⟩;try rfl)|(apply bK pk;(iterate 6 exact rfl);rotate_left;exact rfl;(intro hw;exact rfl);(intro hw;apply akH<;>first|omega|((exfalso;simp [gw] at hw;omega)));(intro _;exact rfl);exact rfl)|(intros;(try simp only [List.length_map]);omega)))
  obtain ⟨⟨h1,h2⟩,h3⟩:=Decidable.of_not_not h0
  have hh:¬l.cells_[0].val=⟨1,l.key,e0⟩→lV t l=false:=fun h=>by unfold lV;rw [getElem!_pos l.cells_ 0 (by omega),decide_eq_false h];simp
  rw [Vl.ext_iff] at hh
  have hy:l.cells_[0].val=⟨1,l.key,e0⟩→lV t l=true:=fun h=>by unfold lV;rw [getElem!_pos l.cells_ 0 (by omega),decide_eq_true h,decide_eq_true ⟨h1,h2,h3⟩];rfl
  rw [Vl.ext_iff] at hy
  refine aL aH Tryz.func35 (by kernel_rfl) rfl rfl rfl rfl (fun st=> ?_)
  (try (apply wO pk;exact rfl));(repeat' (first|(show All _;constructor)|(show Imp _ _;constructor)|(show ImpX _ _ _ _;constructor)|(apply wC pk;(iterate 2 exact rfl))|(apply wE pk;(iterate 2 exact rfl))|(apply wX pk;exact rfl)|(apply wN pk;exact rfl)|(apply wD pk [] [];kernel_rfl;exact rfl;exact rfl)|(apply aC;simp only [cond_true,cond_false])|(refine aD rfl (fun h=> ?_) (fun h=> ?_)<;>(try simp at h)<;>try (exfalso;omega))|(refine aF ?_;refine ⟨_,_,_,rfl,Wk.refl _,StSub.refl _, ?_,rfl⟩;try first|rfl|((first|(rw [adM tx (hh (by grind))];done)|(exfalso;omega));done))|(apply bK pk;(iterate 6 exact rfl);rotate_left;exact rfl;(intro hw;exact rfl);(intro hw;apply aK<;>omega);(intro _;exact rfl);exact rfl)|(intros;(try simp only [List.length_map]);omega)))
  have hy1:lV t l=true:=hy (by grind)
  refine aP (X:={x:Nat//x≤l.cells_.length∧∀j<x,qB tx t l j=true}) (fun i=>((((((St.nil 102 st).var 2 52 (t.cells)).var 3 43 (l.cells)).pv 38 (.seq (l.cells_.map Cl.cells))).pv 39 ((PV.val (Value.int .i64 (((l.cells_.map Cl.cells).length:Nat)))))).pv 40 ((PV.val (Value.int .i64 ((i.1:Nat))))))) (fun i=>l.cells_.length-i.1) ⟨0,by omega,by omega⟩ ?_ (fun i=> ?_)
  · ((repeat (first|refine Sub.pv ?_ rfl|refine Sub.var ?_ rfl rfl));exact Sub.nil _ _ _ (StSub.refl _) rfl)
  obtain ⟨i,hi,hI⟩:=i
  dsimp only
  by_cases hend:l.cells_.length≤i
  · (try (apply wO pk;exact rfl));(repeat' (first|(show All _;constructor)|(show Imp _ _;constructor)|(show ImpX _ _ _ _;constructor)|(apply wC pk;(iterate 2 exact rfl))|(apply wE pk;(iterate 2 exact rfl))|(apply wX pk;exact rfl)|(apply wN pk;exact rfl)|(apply wD pk [] [];kernel_rfl;exact rfl;exact rfl)|(apply aC;simp only [cond_true,cond_false])|(refine aD rfl (fun h=> ?_) (fun h=> ?_)<;>(try simp at h)<;>try (exfalso;omega))|(refine aF ?_;refine ⟨_,_,_,rfl,Wk.refl _,StSub.refl _, ?_,rfl⟩;try rfl)|(intros;(try simp only [List.length_map]);omega)))
    refine aP (X:={x:Nat//x≤l.by_.length∧∀j<x,aaP l.by_ j=true}) (fun y=>(((((St.nil 102 st).var 3 43 (l.cells)).pv 61 (.seq (l.by_.map Dt.cells))).pv 62 ((PV.val (Value.int .i64 (((l.by_.map Dt.cells).length:Nat)))))).pv 63 ((PV.val (Value.int .i64 ((y.1:Nat))))))) (fun y=>l.by_.length-y.1) ⟨0,by omega,by omega⟩ ?_ (fun y=> ?_)
    · ((repeat (first|refine Sub.pv ?_ rfl|refine Sub.var ?_ rfl rfl));exact Sub.nil _ _ _ (StSub.refl _) rfl)
    obtain ⟨y,hy,hyI⟩:=y
    dsimp only
    by_cases hend2:l.by_.length≤y
    have e:=akV tx hy1 (fun k hk=>hI k (by omega)) fun k hk=>hyI k (by omega)
    rotate_left
    have h1:y<l.by_.length:=by omega
    have e:=Iff.refl (aaP l.by_ y=true)
    by_cases h0:y=0
    subst h0
    conv at e=>rhs;simp only [aaP,iH,getElem!_pos l.by_ 0 h1,Bool.and_eq_true,decide_eq_true_eq,decide_true,Bool.true_or,and_true]
    have hF:=adU (alU tx (t:=t) h1) e
    have hS:=uT hyI e
    rotate_left
    obtain ⟨k,rfl⟩:∃k,y=k+1:=⟨y-1,by omega⟩
    have hd:=yG l.by_[k] l.by_[k+1]
    have hb:=aeG l.by_[k] l.by_[k+1]
    conv at e=>rhs;simp only [aaP,iH,getElem!_pos l.by_ (k+1) h1,show k+1-1=k from rfl,getElem!_pos l.by_ k (by omega),Bool.and_eq_true,decide_eq_true_eq,Bool.or_eq_true,h0,false_or]
    have hF:=adU (alU tx (t:=t) h1) e
    have hS:=uT hyI e
    rotate_left
    all_goals ((try (apply wO pk;exact rfl));(repeat' (first|(show All _;constructor)|(show Imp _ _;constructor)|(show ImpX _ _ _ _;constructor)|(apply wC pk;(iterate 2 exact rfl))|(apply wE pk;(iterate 2 exact rfl))|(apply wX pk;exact rfl)|(apply wN pk;exact rfl)|(apply wD pk [] [];kernel_rfl;exact rfl;exact rfl)|(apply aC;simp only [cond_true,cond_false])|(refine aD rfl (fun h=> ?_) (fun h=> ?_)<;>(try simp at h)<;>try (exfalso;omega))|(refine aF ?_;refine ⟨_,_,_,rfl,Wk.refl _,StSub.refl _, ?_,rfl⟩;try first|rfl|((first|((rw [e]);done)|((first|(rw [hF (by grind)];done)|(exfalso;grind));done)|((rw [hF (by grind)]);done));done))|(apply aM;(iterate 3 exact rfl);(intro _;(first|apply (show PF Tryz.prog 46 [_,_] (PV.val (Value.int .i64 (0))) from by rename_i hh;exact (nR hh).elim)|apply hd)<;>first|assumption|omega);rotate_left;(iterate 2 exact rfl))|(apply bK pk;(iterate 6 exact rfl);rotate_left;exact rfl;(first|((intro hw;exact (show _=((0:Nat):Int) from by exact (nR hw).elim));(intro hw;apply aK<;>omega);(intro _;exact rfl))|((intro hw;exact rfl);(intro hw;apply aK<;>omega);(intro _;exact rfl))|((intro hw;exact (show ((((k+1:Nat):Int))-1=((k:Nat):Int)) from by omega));(intro hw;apply aK<;>omega);(intro _;exact rfl)));exact rfl)|((first|refine ⟨⟨1,by omega,hS (by grind)⟩, ?_,by simp only;omega⟩|refine ⟨⟨k+2,by omega,hS (by grind)⟩, ?_,by simp only;omega⟩);((repeat (first|refine Sub.pv ?_ rfl|refine Sub.var ?_ rfl rfl));exact Sub.nil _ _ _ (StSub.refl _) rfl))|(intros;(try simp only [List.length_map]);omega))))
  have h1:i<l.cells_.length:=by omega
  have hc:=aeY tx l.cells_[i] (hp _ (List.getElem_mem h1))
  have e:=Iff.refl (qB tx t l i=true)
  conv at e=>rhs;simp only [qB,getElem!_pos l.cells_ i h1,getElem!_pos t.cols i (show i<t.cols.length by omega),Bool.and_eq_true,decide_eq_true_eq]
  have hF:=adU (aoL tx (t:=t) h1) e
  have hS:=uT hI e
  (try (apply wO pk;exact rfl));(repeat' (first|(show All _;constructor)|(show Imp _ _;constructor)|(show ImpX _ _ _ _;constructor)|(apply wC pk;(iterate 2 exact rfl))|(apply wE pk;(iterate 2 exact rfl))|(apply wX pk;exact rfl)|(apply wN pk;exact rfl)|(apply wD pk [] [];kernel_rfl;exact rfl;exact rfl)|(apply aC;simp only [cond_true,cond_false])|(refine aD rfl (fun h=> ?_) (fun h=> ?_)<;>(try simp at h)<;>try (exfalso;omega))|(refine aF ?_;refine ⟨_,_,_,rfl,Wk.refl _,StSub.refl _, ?_,rfl⟩;try first|rfl|((rw [hF (by grind)]);done))|(apply aM;(iterate 3 exact rfl);(intro _;apply hc<;>first|assumption|omega);rotate_left;(iterate 2 exact rfl))|(apply bK pk;(iterate 6 exact rfl);rotate_left;exact rfl;(intro hw;exact rfl);(intro hw;apply aK<;>omega);(intro _;exact rfl);exact rfl)|(refine ⟨⟨i+1,by omega,hS (by grind)⟩, ?_,by simp only;omega⟩;((repeat (first|refine Sub.pv ?_ rfl|refine Sub.var ?_ rfl rfl));exact Sub.nil _ _ _ (StSub.refl _) rfl))|(intros;(try simp only [List.length_map]);omega)))
end Go.Proofs.YtddmbnddgiebgaaGreatDoor
namespace Go.Proofs.YtddmbnddgiebgaaGreatDoor
open Go Go.Abs
attribute [local irreducible] Ev PWp
set_option maxRecDepth 10000
set_option maxHeartbeats 4000000
theorem sG :∀{l:List Int},orI l=0→∀x∈l,x=0
  |[],_,_,h=>by cases h
  |a::l,h,x,hx=>by
    rw [orI] at h
    split at h
    · rename_i e
      rcases List.mem_cons.1 hx with rfl|q
      · exact e
      · exact sG h x q
    · rename_i e;exact absurd h e
theorem sI {f:Nat→Int} {n:Nat} (h:dI f n=0) {k:Nat} (hk:k<n):f k=0:=
  sG h _ (List.mem_map.2 ⟨k,List.mem_range.2 hk,rfl⟩)
theorem mS {s:Sc} (h:dP s=0) {k:Nat} (hk:k<s.length):∀x∈lks s k,x=0:=by
  unfold dP at h
  split at h
  · cases h
  · exact sG (sI h hk)
theorem zR {s:Sc} (h:dP s=0) {k:Nat} (hk:k<s.length):0<s[k].cols.length:=by
  have:=mS h hk (lk1 s[k]!) (by simp [lks])
  rw [getElem!_pos s k hk] at this
  unfold lk1 at this
  split at this
  · cases this
  · omega
variable (tx:Cl→Int)
def atV (l:Ln):Prop:=(l.cells_.length<1000000000000∧l.by_.length<1000000000000)∧∀c∈l.cells_,anV tx c
def aoR (d:Da):Prop:=d.lines.length<1000000000000∧∀l∈d.lines,atV tx l
def lnR (t:Tb) (L:List Ln) (i:Nat):Bool:=gV tx t L[i]! &&(decide (i=0)||decide (L[i-1]!.key<L[i]!.key))
def aaD (t:Tb) (L:List Ln):Bool:=decide (L.length≤2000)&&tG (lnR tx t L) L.length
def uZ (s:Sc) (b:Bs) (k:Nat):Bool:=aaD tx s[k]! b[k]!.lines
def bO (s:Sc) (b:Bs):Bool:=decide (dP s=0∧b.length=s.length)&&tG (uZ tx s b) b.length
theorem aoF {s:Sc} {b:Bs} (h:¬(dP s=0∧b.length=s.length)):bO tx s b=false:=by unfold bO;rw [decide_eq_false h];rfl
theorem apD {s:Sc} {b:Bs} {k:Nat} (h:k<b.length) (hf:uZ tx s b k=false):bO tx s b=false:=by unfold bO;rw [wA h hf];simp
theorem aiU {s:Sc} {b:Bs} (h:dP s=0∧b.length=s.length) (hf:∀k<b.length,uZ tx s b k=true):bO tx s b=true:=by unfold bO;rw [sD hf,decide_eq_true h];rfl
theorem mV (s:Sc) (b:Bs) (hl:s.length<1000000000000) (hB:∀t∈s,TbB t) (hb:b.length<1000000000000) (hd:∀d∈b,aoR tx d):PF Tryz.prog 14 [.agg (scC s), .agg (bsC b)] (PV.val (Value.bool (bO tx s b))):=by
  have hs:=qE s (by omega) hB
  by_cases h0:¬(dP s=0∧b.length=s.length)
  · rw [aoF tx h0]
    generalize dP s=R at*
    refine aL aH Tryz.func14 (by kernel_rfl) rfl rfl rfl rfl (fun st=> ?_)
    (try (apply wO pk;exact rfl));(repeat' (first|((exfalso;omega))|(show All _;constructor)|(show Imp _ _;constructor)|(show ImpX _ _ _ _;constructor)|(apply wC pk;(iterate 2 exact rfl))|(apply wE pk;(iterate 2 exact rfl))|(apply wX pk;exact rfl)|(apply wN pk;exact rfl)|(apply wD pk [] [];kernel_rfl;exact rfl;exact rfl)|(apply aC;simp only [cond_true,cond_false])|(refine aD rfl (fun h=> ?_) (fun h=> ?_)<;>(try simp at h)<;>try (exfalso;omega))|(refine aF ?_;refine ⟨_,_,_,rfl,Wk.refl _,StSub.refl _, ?_,rfl⟩;try first|rfl|((exfalso;omega);done))|(apply aM;(iterate 3 exact rfl);(intro _;apply hs<;>first|assumption|omega);rotate_left;(iterate 2 exact rfl))|(intros;(try simp only [List.length_map]);omega)))
  replace h0:=Decidable.of_not_not h0
  obtain ⟨h1,h2⟩:=h0
  rw [h1] at hs
  refine aL aH Tryz.func14 (by kernel_rfl) rfl rfl rfl rfl (fun st=> ?_)
  (try (apply wO pk;exact rfl));(repeat' (first|(show All _;constructor)|(show Imp _ _;constructor)|(show ImpX _ _ _ _;constructor)|(apply wC pk;(iterate 2 exact rfl))|(apply wE pk;(iterate 2 exact rfl))|(apply wX pk;exact rfl)|(apply wN pk;exact rfl)|(apply wD pk [] [];kernel_rfl;exact rfl;exact rfl)|(apply aC;simp only [cond_true,cond_false])|(refine aD rfl (fun h=> ?_) (fun h=> ?_)<;>(try simp at h)<;>try (exfalso;omega))|(refine aF ?_;refine ⟨_,_,_,rfl,Wk.refl _,StSub.refl _, ?_,rfl⟩;try first|rfl|((exfalso;omega);done))|(apply aM;(iterate 3 exact rfl);(intro _;apply hs<;>first|assumption|omega);rotate_left;(iterate 2 exact rfl))|(intros;(try simp only [List.length_map]);omega)))
  refine aP (X:={x:Nat//x≤b.length∧∀j<x,uZ tx s b j=true}) (fun i=>(((((St.nil 67 st).var 2 24 ((scC s))).pv 22 (.seq (b.map Da.cells))).pv 23 ((PV.val (Value.int .i64 (((b.map Da.cells).length:Nat)))))).pv 24 ((PV.val (Value.int .i64 ((i.1:Nat))))))) (fun i=>b.length-i.1) ⟨0,by omega,by omega⟩ ?_ (fun i=> ?_)
  · ((repeat (first|refine Sub.pv ?_ rfl|refine Sub.var ?_ rfl rfl));exact Sub.nil _ _ _ (StSub.refl _) rfl)
  obtain ⟨i,hi,hI⟩:=i
  dsimp only
  by_cases hend:b.length≤i
  have e:=aiU tx ⟨h1,h2⟩ fun k hk=>hI k (by omega)
  rotate_left
  have hib:i<b.length:=by omega
  have his:i<s.length:=by omega
  have hcl:=zR h1 his
  obtain ⟨d1,d2⟩:=hd _ (List.getElem_mem hib)
  have e:=Iff.refl (uZ tx s b i=true)
  conv at e=>rhs;simp only [uZ,aaD,getElem!_pos s i his,getElem!_pos b i hib,Bool.and_eq_true,decide_eq_true_eq,nA]
  have hF:=adU (apD tx (s:=s) hib) e
  have hS:=uT hI e
  by_cases h2k:¬b[i].lines.length≤2000
  have hF0:=hF fun q=>h2k q.1
  rotate_left
  all_goals ((try (apply wO pk;exact rfl));(repeat' (first|((exfalso;omega))|(show All _;constructor)|(show Imp _ _;constructor)|(show ImpX _ _ _ _;constructor)|(apply wC pk;(iterate 2 exact rfl))|(apply wE pk;(iterate 2 exact rfl))|(apply wX pk;exact rfl)|(apply wN pk;exact rfl)|(apply wD pk [] [];kernel_rfl;exact rfl;exact rfl)|(apply aC;simp only [cond_true,cond_false])|(refine aD rfl (fun h=> ?_) (fun h=> ?_)<;>(try simp at h)<;>try (exfalso;omega))|(refine aF ?_;refine ⟨_,_,_,rfl,Wk.refl _,StSub.refl _, ?_,rfl⟩;try first|rfl|((first|((rw [e]);done)|((rw [hF0]);done));done))|(apply bK pk;(iterate 6 exact rfl);rotate_left;exact rfl;(intro hw;exact rfl);(intro hw;apply aK<;>omega);(intro _;exact rfl);exact rfl)|(intros;(try simp only [List.length_map]);omega))))
  focus ((try (apply wO pk;exact rfl));(repeat' (first|((exfalso;omega))|(show All _;constructor)|(show Imp _ _;constructor)|(show ImpX _ _ _ _;constructor)|(apply wC pk;(iterate 2 exact rfl))|(apply wE pk;(iterate 2 exact rfl))|(apply wX pk;exact rfl)|(apply wN pk;exact rfl)|(apply wD pk [] [];kernel_rfl;exact rfl;exact rfl)|(apply aC;simp only [cond_true,cond_false])|(refine aD rfl (fun h=> ?_) (fun h=> ?_)<;>(try simp at h)<;>try (exfalso;omega))|(refine aF ?_;refine ⟨_,_,_,rfl,Wk.refl _,StSub.refl _, ?_,rfl⟩;try rfl)|(apply bK pk;(iterate 6 exact rfl);rotate_left;exact rfl;(intro hw;exact rfl);(intro hw;apply aK<;>omega);(intro _;exact rfl);exact rfl)|(intros;(try simp only [List.length_map]);omega))))
  refine aP (X:={x:Nat//x≤b[i].lines.length∧∀j<x,lnR tx s[i] b[i].lines j=true}) (fun y=>((((((((((St.nil 67 st).var 2 24 ((scC s))).pv 5 ((PV.val (Value.int .i64 ((i:Nat)))))).var 6 55 (b[i].cells)).pv 22 (.seq (b.map Da.cells))).pv 23 ((PV.val (Value.int .i64 (((b.map Da.cells).length:Nat)))))).pv 24 ((PV.val (Value.int .i64 ((i:Nat)))))).pv 34 (.seq (b[i].lines.map Ln.cells))).pv 35 ((PV.val (Value.int .i64 (((b[i].lines.map Ln.cells).length:Nat)))))).pv 36 ((PV.val (Value.int .i64 ((y.1:Nat))))))) (fun y=>b[i].lines.length-y.1) ⟨0,by omega,by omega⟩ ?_ (fun y=> ?_)
  · ((repeat (first|refine Sub.pv ?_ rfl|refine Sub.var ?_ rfl rfl));exact Sub.nil _ _ _ (StSub.refl _) rfl)
  obtain ⟨y,hy,hyI⟩:=y
  dsimp only
  by_cases hend2:b[i].lines.length≤y
  rotate_left
  have hyl:y<b[i].lines.length:=by omega
  obtain ⟨l1,l2⟩:=d2 _ (List.getElem_mem hyl)
  have hls:=agZ tx s[i] b[i].lines[y] hcl l1 l2
  have e:=Iff.refl (lnR tx s[i] b[i].lines y=true)
  have hF2:=fun h:¬lnR tx s[i] b[i].lines y=true=>hF fun q=>h (q.2 y hyl)
  by_cases h0:y=0
  subst h0
  conv at e=>rhs;simp only [lnR,getElem!_pos b[i].lines 0 hyl,decide_true,Bool.true_or,Bool.and_true]
  have hS2:=uT hyI e
  rw [e] at hF2
  rotate_left
  obtain ⟨k,rfl⟩:∃k,y=k+1:=⟨y-1,by omega⟩
  conv at e=>rhs;simp only [lnR,getElem!_pos b[i].lines (k+1) hyl,show k+1-1=k from rfl,getElem!_pos b[i].lines k (by omega),Bool.and_eq_true,decide_eq_true_eq,Bool.or_eq_true,h0,false_or]
  have hS2:=uT hyI e
  rw [e] at hF2
  rotate_left
  all_goals ((try (apply wO pk;exact rfl));(repeat' (first|(show All _;constructor)|(show Imp _ _;constructor)|(show ImpX _ _ _ _;constructor)|(apply wC pk;(iterate 2 exact rfl))|(apply wE pk;(iterate 2 exact rfl))|(apply wX pk;exact rfl)|(apply wN pk;exact rfl)|(apply wD pk [] [];kernel_rfl;exact rfl;exact rfl)|(apply aC;simp only [cond_true,cond_false])|(refine aD rfl (fun h=> ?_) (fun h=> ?_)<;>(try simp at h)<;>try (exfalso;omega))|(refine aF ?_;refine ⟨_,_,_,rfl,Wk.refl _,StSub.refl _, ?_,rfl⟩;try first|rfl|((rw [hF2 (by grind)]);done))|(apply aM;(iterate 3 exact rfl);(intro _;apply hls<;>first|assumption|omega);rotate_left;(iterate 2 exact rfl))|(apply bK pk;(iterate 6 exact rfl);rotate_left;exact rfl;(first|((intro hw;exact rfl);(intro hw;apply aK<;>omega);(intro _;exact rfl))|((intro hw;exact (show _=((0:Nat):Int) from by exact (nR hw).elim));(intro hw;apply aK<;>omega);(intro _;exact rfl))|((intro hw;exact (show ((((k+1:Nat):Int))-1=((k:Nat):Int)) from by omega));(intro hw;apply aK<;>omega);(intro _;exact rfl)));exact rfl)|(exact absurd (by assumption:b[i].lines=[]) (List.ne_nil_of_length_pos hyl))|((first|refine ⟨⟨i+1,by omega,hS ⟨by omega,fun k hk=>hyI k (by omega)⟩⟩, ?_,by simp only;omega⟩|refine ⟨⟨1,by omega,hS2 (by grind)⟩, ?_,by simp only;omega⟩|refine ⟨⟨k+2,by omega,hS2 (by grind)⟩, ?_,by simp only;omega⟩);((repeat (first|refine Sub.pv ?_ rfl|refine Sub.var ?_ rfl rfl));exact Sub.nil _ _ _ (StSub.refl _) rfl))|(intros;(try simp only [List.length_map]);omega))))
end Go.Proofs.YtddmbnddgiebgaaGreatDoor
