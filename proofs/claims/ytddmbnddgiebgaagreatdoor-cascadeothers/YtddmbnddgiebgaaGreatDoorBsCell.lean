import Derived.Test.YtddmbnddgiebgaaGreatDoorBsSch
import Derived.Test.YtddmbnddgiebgaaGreatDoorBsNum
import Derived.Test.YtddmbnddgiebgaaGreatDoorBsRef
set_option linter.unusedSimpArgs false
set_option linter.unusedVariables false
namespace Go.Proofs.YtddmbnddgiebgaaGreatDoor
open Go Go.Abs
attribute [local irreducible] Ev PWp
set_option maxRecDepth 10000
set_option maxHeartbeats 4000000
def uG (f:Nat→Bool) (n:Nat):Bool:=(List.range n).all f
theorem xC {f:Nat→Bool} {n k:Nat} (h:k<n) (hf:f k=false):uG f n=false:=by
  unfold uG
  rw [←Bool.not_eq_true,List.all_eq_true]
  exact fun q=>by rw [q k (List.mem_range.2 h)] at hf;cases hf
theorem sU {f:Nat→Bool} {n:Nat} (hf:∀k<n,f k=true):uG f n=true:=by
  unfold uG
  rw [List.all_eq_true]
  exact fun k h=>hf k (List.mem_range.1 h)
theorem lK {f:Nat→Bool} {n:Nat}:uG f n=true↔∀k<n,f k=true:=by
  unfold uG
  rw [List.all_eq_true]
  exact ⟨fun h k hk=>h k (List.mem_range.2 hk),fun h k hk=>h k (List.mem_range.1 hk)⟩
theorem aqB {f:Nat→Bool} {i:Nat} (hI:∀j<i,f j=true) (h:f i=true):∀j<i+1,f j=true:=fun j hj=>by
  rcases Nat.lt_succ_iff_lt_or_eq.1 hj with q|q
  · exact hI j q
  · subst q;exact h
theorem vY {f:Nat→Bool} {i:Nat} {p:Prop} (hI:∀j<i,f j=true) (e:f i=true↔p) (h:p):∀j<i+1,f j=true:=aqB hI (e.2 h)
theorem afH {f:Nat→Bool} {i:Nat} {p R:Prop} (h:f i=false→R) (e:f i=true↔p) (hp:¬p):R:=h (by rw [←Bool.not_eq_true];exact fun q=>hp (e.1 q))
theorem alH {α β:Type} [Inhabited α] {f:α→β} {l:List α} {i:Nat} (h:i<l.length):(l.map f)[i]?=some (f l[i]!):=by
  rw [getElem!_pos l i h,List.getElem?_map,List.getElem?_eq_getElem h];rfl
variable (tx:Cl→Int)
def apJ (c:Cl):Prop:=c.parts.length<1000000000000∧(c.kind=4→PF Tryz.prog 107 [.agg c.cells] (PV.val (Value.int .i64 (tx c))))
def qA (c:Cl):Bool:=if c.kind=0 then pE c.val&&decide (c.parts.length=0) else if c.kind=1 then wH c else if c.kind=2 then decide (wY c=0) else if c.kind=3 then xA c else if c.kind=4 then decide (tx c=0) else false
theorem agJ (c:Cl) (h:apJ tx c):PF Tryz.prog 66 [.agg c.cells] (PV.val (Value.bool (qA tx c))):=by
  obtain ⟨hl,ht⟩:=h
  have h1:=yZ c (by omega)
  have h3:=yI c (by omega)
  have hv:=lF c.val
  have h2:=aaK c
  unfold qA
  generalize pE c.val=A at*
  generalize wH c=B at*
  generalize wY c=C at*
  generalize xA c=D at*
  generalize tx c=E at*
  refine aL aH Tryz.func66 (by kernel_rfl) rfl rfl rfl rfl (fun st=> ?_)
  (try (apply wO pk;exact rfl));(repeat' (first|(show All _;constructor)|(show Imp _ _;constructor)|(show ImpX _ _ _ _;constructor)|(apply wC pk;(iterate 2 exact rfl))|(apply wE pk;(iterate 2 exact rfl))|(apply wX pk;exact rfl)|(apply wN pk;exact rfl)|(apply wD pk [] [];kernel_rfl;exact rfl;exact rfl)|(apply aC;simp only [zqt,zqf])|(refine aD rfl (fun h=> ?_) (fun h=> ?_)<;>(try simp at h)<;>try (exfalso;omega))|(refine aF ?_;refine ⟨_,_,_,rfl,Wk.refl _,StSub.refl _, ?_,rfl⟩;try first|rfl|((simp [*];done);done))|(apply aK;(iterate 3 exact rfl);(intro _;(first|apply hv|apply h1|apply h2|apply h3|apply (ht (by assumption)))<;>first|assumption|omega);rotate_left;(iterate 2 exact rfl))|(intros;(try simp only [zql]);omega)))
def uL (l:List Dt) (k:Nat):Bool:=eY l[k]! &&(decide (k=0)||bQ l[k]! l[k-1]!)
def qD (l:List Dt):Bool:=uG (uL l) l.length
def qU (t:Tb) (l:Ln) (k:Nat):Bool:=decide (l.cells_[k]!.kind=t.cols[k]!.kind)&&qA tx l.cells_[k]!
def nB (t:Tb) (l:Ln):Bool:=decide (0≤l.key∧l.key<1073741824∧l.cells_.length=t.cols.length)&&decide (l.cells_[0]!.val=⟨1,l.key,e0⟩)
def iD (t:Tb) (l:Ln):Bool:=nB t l&&(uG (qU tx t l) l.cells_.length&&qD l.by_)
theorem aeW {t:Tb} {l:Ln} (h:nB t l=false):iD tx t l=false:=by unfold iD;rw [h];rfl
theorem aqP {t:Tb} {l:Ln} {k:Nat} (h:k<l.cells_.length) (hf:qU tx t l k=false):iD tx t l=false:=by unfold iD;rw [xC h hf];simp
theorem anD {t:Tb} {l:Ln} {k:Nat} (h:k<l.by_.length) (hf:uL l.by_ k=false):iD tx t l=false:=by unfold iD qD;rw [xC h hf];simp
theorem alE {t:Tb} {l:Ln} (h:nB t l=true) (hc:∀k<l.cells_.length,qU tx t l k=true) (hd:∀k<l.by_.length,uL l.by_ k=true):iD tx t l=true:=by
  unfold iD qD
  rw [h,sU hc,sU hd];rfl
theorem ahJ (t:Tb) (l:Ln) (ht:0<t.cols.length) (hl:l.cells_.length<1000000000000∧l.by_.length<1000000000000) (hp:∀c∈l.cells_,apJ tx c):PF Tryz.prog 35 [.agg t.cells, .agg l.cells] (PV.val (Value.bool (iD tx t l))):=by
  by_cases h0:¬((0≤l.key∧l.key<1073741824)∧l.cells_.length=t.cols.length)
  · rw [aeW tx (by unfold nB;rw [decide_eq_false (fun h=>h0 ⟨⟨h.1,h.2.1⟩,h.2.2⟩)];rfl)]
    refine aL aH Tryz.func35 (by kernel_rfl) rfl rfl rfl rfl (fun st=> ?_)
    (try (apply wO pk;exact rfl));(repeat' (first|(show All _;constructor)|(show Imp _ _;constructor)|(show ImpX _ _ _ _;constructor)|(apply wC pk;(iterate 2 exact rfl))|(apply wE pk;(iterate 2 exact rfl))|(apply wX pk;exact rfl)|(apply wN pk;exact rfl)|(apply wD pk [] [];kernel_rfl;exact rfl;exact rfl)|(apply aC;simp only [zqt,zqf])|(refine aD rfl (fun h=> ?_) (fun h=> ?_)<;>(try simp at h)<;>try (exfalso;omega))|(refine aF ?_;refine ⟨_,_,_,rfl,Wk.refl _,StSub.refl _, ?_,rfl⟩;try rfl)|(apply bC pk;(iterate 6 exact rfl);rotate_left;exact rfl;(intro hw;exact rfl);(intro hw;apply alH<;>first|omega|((exfalso;simp [gw] at hw;omega)));(intro _;exact rfl);exact rfl)|(intros;(try simp only [zql]);omega)))
  obtain ⟨⟨h1,h2⟩,h3⟩:=Decidable.of_not_not h0
  have hh:¬l.cells_[0].val=⟨1,l.key,e0⟩→nB t l=false:=fun h=>by unfold nB;rw [getElem!_pos l.cells_ 0 (by omega),decide_eq_false h];simp
  rw [Vl.ext_iff] at hh
  have hy:l.cells_[0].val=⟨1,l.key,e0⟩→nB t l=true:=fun h=>by unfold nB;rw [getElem!_pos l.cells_ 0 (by omega),decide_eq_true h,decide_eq_true ⟨h1,h2,h3⟩];rfl
  rw [Vl.ext_iff] at hy
  refine aL aH Tryz.func35 (by kernel_rfl) rfl rfl rfl rfl (fun st=> ?_)
  (try (apply wO pk;exact rfl));(repeat' (first|(show All _;constructor)|(show Imp _ _;constructor)|(show ImpX _ _ _ _;constructor)|(apply wC pk;(iterate 2 exact rfl))|(apply wE pk;(iterate 2 exact rfl))|(apply wX pk;exact rfl)|(apply wN pk;exact rfl)|(apply wD pk [] [];kernel_rfl;exact rfl;exact rfl)|(apply aC;simp only [zqt,zqf])|(refine aD rfl (fun h=> ?_) (fun h=> ?_)<;>(try simp at h)<;>try (exfalso;omega))|(refine aF ?_;refine ⟨_,_,_,rfl,Wk.refl _,StSub.refl _, ?_,rfl⟩;try first|rfl|((first|(rw [aeW tx (hh (by grind))];done)|(exfalso;omega));done))|(apply bC pk;(iterate 6 exact rfl);rotate_left;exact rfl;(intro hw;exact rfl);(intro hw;apply aJ<;>omega);(intro _;exact rfl);exact rfl)|(intros;(try simp only [zql]);omega)))
  have hy1:nB t l=true:=hy (by grind)
  refine aP (X:={x:Nat//x≤l.cells_.length∧∀j<x,qU tx t l j=true}) (fun i=>((((((St.nil 102 st).var 2 52 (t.cells)).var 3 43 (l.cells)).pv 38 (.seq (l.cells_.map Cl.cells))).pv 39 ((PV.val (Value.int .i64 (((l.cells_.map Cl.cells).length:Nat)))))).pv 40 ((PV.val (Value.int .i64 ((i.1:Nat))))))) (fun i=>l.cells_.length-i.1) ⟨0,by omega,by omega⟩ ?_ (fun i=> ?_)
  · ((repeat (first|refine Sub.pv ?_ rfl|refine Sub.var ?_ rfl rfl));exact Sub.nil _ _ _ (StSub.refl _) rfl)
  obtain ⟨i,hi,hI⟩:=i
  dsimp only
  by_cases hend:l.cells_.length≤i
  · (try (apply wO pk;exact rfl));(repeat' (first|(show All _;constructor)|(show Imp _ _;constructor)|(show ImpX _ _ _ _;constructor)|(apply wC pk;(iterate 2 exact rfl))|(apply wE pk;(iterate 2 exact rfl))|(apply wX pk;exact rfl)|(apply wN pk;exact rfl)|(apply wD pk [] [];kernel_rfl;exact rfl;exact rfl)|(apply aC;simp only [zqt,zqf])|(refine aD rfl (fun h=> ?_) (fun h=> ?_)<;>(try simp at h)<;>try (exfalso;omega))|(refine aF ?_;refine ⟨_,_,_,rfl,Wk.refl _,StSub.refl _, ?_,rfl⟩;try rfl)|(intros;(try simp only [zql]);omega)))
    refine aP (X:={x:Nat//x≤l.by_.length∧∀j<x,uL l.by_ j=true}) (fun y=>(((((St.nil 102 st).var 3 43 (l.cells)).pv 61 (.seq (l.by_.map Dt.cells))).pv 62 ((PV.val (Value.int .i64 (((l.by_.map Dt.cells).length:Nat)))))).pv 63 ((PV.val (Value.int .i64 ((y.1:Nat))))))) (fun y=>l.by_.length-y.1) ⟨0,by omega,by omega⟩ ?_ (fun y=> ?_)
    · ((repeat (first|refine Sub.pv ?_ rfl|refine Sub.var ?_ rfl rfl));exact Sub.nil _ _ _ (StSub.refl _) rfl)
    obtain ⟨y,hy,hyI⟩:=y
    dsimp only
    by_cases hend2:l.by_.length≤y
    have e:=alE tx hy1 (fun k hk=>hI k (by omega)) fun k hk=>hyI k (by omega)
    rotate_left
    have h1:y<l.by_.length:=by omega
    have e:=Iff.refl (uL l.by_ y=true)
    by_cases h0:y=0
    subst h0
    conv at e=>rhs;simp only [uL,eY,getElem!_pos l.by_ 0 h1,Bool.and_eq_true,decide_eq_true_eq,decide_true,Bool.true_or,and_true]
    have hF:=afH (anD tx (t:=t) h1) e
    have hS:=vY hyI e
    rotate_left
    obtain ⟨k,rfl⟩:∃k,y=k+1:=⟨y-1,by omega⟩
    have hd:=zK l.by_[k] l.by_[k+1]
    have hb:=aeH l.by_[k] l.by_[k+1]
    conv at e=>rhs;simp only [uL,eY,getElem!_pos l.by_ (k+1) h1,show k+1-1=k from rfl,getElem!_pos l.by_ k (by omega),Bool.and_eq_true,decide_eq_true_eq,Bool.or_eq_true,h0,false_or]
    have hF:=afH (anD tx (t:=t) h1) e
    have hS:=vY hyI e
    rotate_left
    all_goals ((try (apply wO pk;exact rfl));(repeat' (first|(show All _;constructor)|(show Imp _ _;constructor)|(show ImpX _ _ _ _;constructor)|(apply wC pk;(iterate 2 exact rfl))|(apply wE pk;(iterate 2 exact rfl))|(apply wX pk;exact rfl)|(apply wN pk;exact rfl)|(apply wD pk [] [];kernel_rfl;exact rfl;exact rfl)|(apply aC;simp only [zqt,zqf])|(refine aD rfl (fun h=> ?_) (fun h=> ?_)<;>(try simp at h)<;>try (exfalso;omega))|(refine aF ?_;refine ⟨_,_,_,rfl,Wk.refl _,StSub.refl _, ?_,rfl⟩;try first|rfl|((first|((rw [e]);done)|((first|(rw [hF (by grind)];done)|(exfalso;grind));done)|((rw [hF (by grind)]);done));done))|(apply aK;(iterate 3 exact rfl);(intro _;(first|apply (show PF Tryz.prog 46 [_,_] (PV.val (Value.int .i64 (0))) from by rename_i hh;exact (oJ hh).elim)|apply hd)<;>first|assumption|omega);rotate_left;(iterate 2 exact rfl))|(apply bC pk;(iterate 6 exact rfl);rotate_left;exact rfl;(first|((intro hw;exact (show _=((0:Nat):Int) from by exact (oJ hw).elim));(intro hw;apply aJ<;>omega);(intro _;exact rfl))|((intro hw;exact rfl);(intro hw;apply aJ<;>omega);(intro _;exact rfl))|((intro hw;exact (show ((((k+1:Nat):Int))-1=((k:Nat):Int)) from by omega));(intro hw;apply aJ<;>omega);(intro _;exact rfl)));exact rfl)|((first|refine ⟨⟨1,by omega,hS (by grind)⟩, ?_,by simp only;omega⟩|refine ⟨⟨k+2,by omega,hS (by grind)⟩, ?_,by simp only;omega⟩);((repeat (first|refine Sub.pv ?_ rfl|refine Sub.var ?_ rfl rfl));exact Sub.nil _ _ _ (StSub.refl _) rfl))|(intros;(try simp only [zql]);omega))))
  have h1:i<l.cells_.length:=by omega
  have hc:=agJ tx l.cells_[i] (hp _ (List.getElem_mem h1))
  have e:=Iff.refl (qU tx t l i=true)
  conv at e=>rhs;simp only [qU,getElem!_pos l.cells_ i h1,getElem!_pos t.cols i (show i<t.cols.length by omega),Bool.and_eq_true,decide_eq_true_eq]
  have hF:=afH (aqP tx (t:=t) h1) e
  have hS:=vY hI e
  (try (apply wO pk;exact rfl));(repeat' (first|(show All _;constructor)|(show Imp _ _;constructor)|(show ImpX _ _ _ _;constructor)|(apply wC pk;(iterate 2 exact rfl))|(apply wE pk;(iterate 2 exact rfl))|(apply wX pk;exact rfl)|(apply wN pk;exact rfl)|(apply wD pk [] [];kernel_rfl;exact rfl;exact rfl)|(apply aC;simp only [zqt,zqf])|(refine aD rfl (fun h=> ?_) (fun h=> ?_)<;>(try simp at h)<;>try (exfalso;omega))|(refine aF ?_;refine ⟨_,_,_,rfl,Wk.refl _,StSub.refl _, ?_,rfl⟩;try first|rfl|((rw [hF (by grind)]);done))|(apply aK;(iterate 3 exact rfl);(intro _;apply hc<;>first|assumption|omega);rotate_left;(iterate 2 exact rfl))|(apply bC pk;(iterate 6 exact rfl);rotate_left;exact rfl;(intro hw;exact rfl);(intro hw;apply aJ<;>omega);(intro _;exact rfl);exact rfl)|(refine ⟨⟨i+1,by omega,hS (by grind)⟩, ?_,by simp only;omega⟩;((repeat (first|refine Sub.pv ?_ rfl|refine Sub.var ?_ rfl rfl));exact Sub.nil _ _ _ (StSub.refl _) rfl))|(intros;(try simp only [zql]);omega)))
end Go.Proofs.YtddmbnddgiebgaaGreatDoor
namespace Go.Proofs.YtddmbnddgiebgaaGreatDoor
open Go Go.Abs
attribute [local irreducible] Ev PWp
set_option maxRecDepth 10000
set_option maxHeartbeats 4000000
theorem tZ :∀{l:List Int},orI l=0→∀x∈l,x=0
  |[],_,_,h=>by cases h
  |a::l,h,x,hx=>by
    rw [orI] at h
    split at h
    · rename_i e
      rcases List.mem_cons.1 hx with rfl|q
      · exact e
      · exact tZ h x q
    · rename_i e;exact absurd h e
theorem sB {f:Nat→Int} {n:Nat} (h:dJ f n=0) {k:Nat} (hk:k<n):f k=0:=
  tZ h _ (List.mem_map.2 ⟨k,List.mem_range.2 hk,rfl⟩)
theorem nQ {s:Sc} (h:dP s=0) {k:Nat} (hk:k<s.length):∀x∈lks s k,x=0:=by
  unfold dP at h
  split at h
  · cases h
  · exact tZ (sB h hk)
theorem abE {s:Sc} (h:dP s=0) {k:Nat} (hk:k<s.length):0<s[k].cols.length:=by
  have:=nQ h hk (lk1 s[k]!) (by simp [lks])
  rw [getElem!_pos s k hk] at this
  unfold lk1 at this
  split at this
  · cases this
  · omega
variable (tx:Cl→Int)
def avB (l:Ln):Prop:=(l.cells_.length<1000000000000∧l.by_.length<1000000000000)∧∀c∈l.cells_,apJ tx c
def aoM (d:Da):Prop:=d.lines.length<1000000000000∧∀l∈d.lines,avB tx l
def lnR (t:Tb) (L:List Ln) (i:Nat):Bool:=iD tx t L[i]! &&(decide (i=0)||decide (L[i-1]!.key<L[i]!.key))
def yD (t:Tb) (L:List Ln):Bool:=decide (L.length≤2000)&&uG (lnR tx t L) L.length
def vP (s:Sc) (b:Bs) (k:Nat):Bool:=yD tx s[k]! b[k]!.lines
def bK (s:Sc) (b:Bs):Bool:=decide (dP s=0∧b.length=s.length)&&uG (vP tx s b) b.length
theorem aqW {s:Sc} {b:Bs} (h:¬(dP s=0∧b.length=s.length)):bK tx s b=false:=by unfold bK;rw [decide_eq_false h];rfl
theorem apX {s:Sc} {b:Bs} {k:Nat} (h:k<b.length) (hf:vP tx s b k=false):bK tx s b=false:=by unfold bK;rw [xC h hf];simp
theorem akF {s:Sc} {b:Bs} (h:dP s=0∧b.length=s.length) (hf:∀k<b.length,vP tx s b k=true):bK tx s b=true:=by unfold bK;rw [sU hf,decide_eq_true h];rfl
theorem nR (s:Sc) (b:Bs) (hl:s.length<1000000000000) (hB:∀t∈s,TbB t) (hb:b.length<1000000000000) (hd:∀d∈b,aoM tx d):PF Tryz.prog 14 [.agg (scC s), .agg (bsC b)] (PV.val (Value.bool (bK tx s b))):=by
  have hs:=qC s (by omega) hB
  by_cases h0:¬(dP s=0∧b.length=s.length)
  · rw [aqW tx h0]
    generalize dP s=R at*
    refine aL aH Tryz.func14 (by kernel_rfl) rfl rfl rfl rfl (fun st=> ?_)
    (try (apply wO pk;exact rfl));(repeat' (first|((exfalso;omega))|(show All _;constructor)|(show Imp _ _;constructor)|(show ImpX _ _ _ _;constructor)|(apply wC pk;(iterate 2 exact rfl))|(apply wE pk;(iterate 2 exact rfl))|(apply wX pk;exact rfl)|(apply wN pk;exact rfl)|(apply wD pk [] [];kernel_rfl;exact rfl;exact rfl)|(apply aC;simp only [zqt,zqf])|(refine aD rfl (fun h=> ?_) (fun h=> ?_)<;>(try simp at h)<;>try (exfalso;omega))|(refine aF ?_;refine ⟨_,_,_,rfl,Wk.refl _,StSub.refl _, ?_,rfl⟩;try first|rfl|((exfalso;omega);done))|(apply aK;(iterate 3 exact rfl);(intro _;apply hs<;>first|assumption|omega);rotate_left;(iterate 2 exact rfl))|(intros;(try simp only [zql]);omega)))
  replace h0:=Decidable.of_not_not h0
  obtain ⟨h1,h2⟩:=h0
  rw [h1] at hs
  refine aL aH Tryz.func14 (by kernel_rfl) rfl rfl rfl rfl (fun st=> ?_)
  (try (apply wO pk;exact rfl));(repeat' (first|(show All _;constructor)|(show Imp _ _;constructor)|(show ImpX _ _ _ _;constructor)|(apply wC pk;(iterate 2 exact rfl))|(apply wE pk;(iterate 2 exact rfl))|(apply wX pk;exact rfl)|(apply wN pk;exact rfl)|(apply wD pk [] [];kernel_rfl;exact rfl;exact rfl)|(apply aC;simp only [zqt,zqf])|(refine aD rfl (fun h=> ?_) (fun h=> ?_)<;>(try simp at h)<;>try (exfalso;omega))|(refine aF ?_;refine ⟨_,_,_,rfl,Wk.refl _,StSub.refl _, ?_,rfl⟩;try first|rfl|((exfalso;omega);done))|(apply aK;(iterate 3 exact rfl);(intro _;apply hs<;>first|assumption|omega);rotate_left;(iterate 2 exact rfl))|(intros;(try simp only [zql]);omega)))
  refine aP (X:={x:Nat//x≤b.length∧∀j<x,vP tx s b j=true}) (fun i=>(((((St.nil 67 st).var 2 24 ((scC s))).pv 22 (.seq (b.map Da.cells))).pv 23 ((PV.val (Value.int .i64 (((b.map Da.cells).length:Nat)))))).pv 24 ((PV.val (Value.int .i64 ((i.1:Nat))))))) (fun i=>b.length-i.1) ⟨0,by omega,by omega⟩ ?_ (fun i=> ?_)
  · ((repeat (first|refine Sub.pv ?_ rfl|refine Sub.var ?_ rfl rfl));exact Sub.nil _ _ _ (StSub.refl _) rfl)
  obtain ⟨i,hi,hI⟩:=i
  dsimp only
  by_cases hend:b.length≤i
  have e:=akF tx ⟨h1,h2⟩ fun k hk=>hI k (by omega)
  rotate_left
  have hib:i<b.length:=by omega
  have his:i<s.length:=by omega
  have hcl:=abE h1 his
  obtain ⟨d1,d2⟩:=hd _ (List.getElem_mem hib)
  have e:=Iff.refl (vP tx s b i=true)
  conv at e=>rhs;simp only [vP,yD,getElem!_pos s i his,getElem!_pos b i hib,Bool.and_eq_true,decide_eq_true_eq,lK]
  have hF:=afH (apX tx (s:=s) hib) e
  have hS:=vY hI e
  by_cases h2k:¬b[i].lines.length≤2000
  have hF0:=hF fun q=>h2k q.1
  rotate_left
  all_goals ((try (apply wO pk;exact rfl));(repeat' (first|((exfalso;omega))|(show All _;constructor)|(show Imp _ _;constructor)|(show ImpX _ _ _ _;constructor)|(apply wC pk;(iterate 2 exact rfl))|(apply wE pk;(iterate 2 exact rfl))|(apply wX pk;exact rfl)|(apply wN pk;exact rfl)|(apply wD pk [] [];kernel_rfl;exact rfl;exact rfl)|(apply aC;simp only [zqt,zqf])|(refine aD rfl (fun h=> ?_) (fun h=> ?_)<;>(try simp at h)<;>try (exfalso;omega))|(refine aF ?_;refine ⟨_,_,_,rfl,Wk.refl _,StSub.refl _, ?_,rfl⟩;try first|rfl|((first|((rw [e]);done)|((rw [hF0]);done));done))|(apply bC pk;(iterate 6 exact rfl);rotate_left;exact rfl;(intro hw;exact rfl);(intro hw;apply aJ<;>omega);(intro _;exact rfl);exact rfl)|(intros;(try simp only [zql]);omega))))
  focus ((try (apply wO pk;exact rfl));(repeat' (first|((exfalso;omega))|(show All _;constructor)|(show Imp _ _;constructor)|(show ImpX _ _ _ _;constructor)|(apply wC pk;(iterate 2 exact rfl))|(apply wE pk;(iterate 2 exact rfl))|(apply wX pk;exact rfl)|(apply wN pk;exact rfl)|(apply wD pk [] [];kernel_rfl;exact rfl;exact rfl)|(apply aC;simp only [zqt,zqf])|(refine aD rfl (fun h=> ?_) (fun h=> ?_)<;>(try simp at h)<;>try (exfalso;omega))|(refine aF ?_;refine ⟨_,_,_,rfl,Wk.refl _,StSub.refl _, ?_,rfl⟩;try rfl)|(apply bC pk;(iterate 6 exact rfl);rotate_left;exact rfl;(intro hw;exact rfl);(intro hw;apply aJ<;>omega);(intro _;exact rfl);exact rfl)|(intros;(try simp only [zql]);omega))))
  refine aP (X:={x:Nat//x≤b[i].lines.length∧∀j<x,lnR tx s[i] b[i].lines j=true}) (fun y=>((((((((((St.nil 67 st).var 2 24 ((scC s))).pv 5 ((PV.val (Value.int .i64 ((i:Nat)))))).var 6 55 (b[i].cells)).pv 22 (.seq (b.map Da.cells))).pv 23 ((PV.val (Value.int .i64 (((b.map Da.cells).length:Nat)))))).pv 24 ((PV.val (Value.int .i64 ((i:Nat)))))).pv 34 (.seq (b[i].lines.map Ln.cells))).pv 35 ((PV.val (Value.int .i64 (((b[i].lines.map Ln.cells).length:Nat)))))).pv 36 ((PV.val (Value.int .i64 ((y.1:Nat))))))) (fun y=>b[i].lines.length-y.1) ⟨0,by omega,by omega⟩ ?_ (fun y=> ?_)
  · ((repeat (first|refine Sub.pv ?_ rfl|refine Sub.var ?_ rfl rfl));exact Sub.nil _ _ _ (StSub.refl _) rfl)
  obtain ⟨y,hy,hyI⟩:=y
  dsimp only
  by_cases hend2:b[i].lines.length≤y
  rotate_left
  have hyl:y<b[i].lines.length:=by omega
  obtain ⟨l1,l2⟩:=d2 _ (List.getElem_mem hyl)
  have hls:=ahJ tx s[i] b[i].lines[y] hcl l1 l2
  have e:=Iff.refl (lnR tx s[i] b[i].lines y=true)
  have hF2:=fun h:¬lnR tx s[i] b[i].lines y=true=>hF fun q=>h (q.2 y hyl)
  by_cases h0:y=0
  subst h0
  conv at e=>rhs;simp only [lnR,getElem!_pos b[i].lines 0 hyl,decide_true,Bool.true_or,Bool.and_true]
  have hS2:=vY hyI e
  rw [e] at hF2
  rotate_left
  obtain ⟨k,rfl⟩:∃k,y=k+1:=⟨y-1,by omega⟩
  conv at e=>rhs;simp only [lnR,getElem!_pos b[i].lines (k+1) hyl,show k+1-1=k from rfl,getElem!_pos b[i].lines k (by omega),Bool.and_eq_true,decide_eq_true_eq,Bool.or_eq_true,h0,false_or]
  have hS2:=vY hyI e
  rw [e] at hF2
  rotate_left
  all_goals ((try (apply wO pk;exact rfl));(repeat' (first|(show All _;constructor)|(show Imp _ _;constructor)|(show ImpX _ _ _ _;constructor)|(apply wC pk;(iterate 2 exact rfl))|(apply wE pk;(iterate 2 exact rfl))|(apply wX pk;exact rfl)|(apply wN pk;exact rfl)|(apply wD pk [] [];kernel_rfl;exact rfl;exact rfl)|(apply aC;simp only [zqt,zqf])|(refine aD rfl (fun h=> ?_) (fun h=> ?_)<;>(try simp at h)<;>try (exfalso;omega))|(refine aF ?_;refine ⟨_,_,_,rfl,Wk.refl _,StSub.refl _, ?_,rfl⟩;try first|rfl|((rw [hF2 (by grind)]);done))|(apply aK;(iterate 3 exact rfl);(intro _;apply hls<;>first|assumption|omega);rotate_left;(iterate 2 exact rfl))|(apply bC pk;(iterate 6 exact rfl);rotate_left;exact rfl;(first|((intro hw;exact rfl);(intro hw;apply aJ<;>omega);(intro _;exact rfl))|((intro hw;exact (show _=((0:Nat):Int) from by exact (oJ hw).elim));(intro hw;apply aJ<;>omega);(intro _;exact rfl))|((intro hw;exact (show ((((k+1:Nat):Int))-1=((k:Nat):Int)) from by omega));(intro hw;apply aJ<;>omega);(intro _;exact rfl)));exact rfl)|(exact absurd (by assumption:b[i].lines=[]) (List.ne_nil_of_length_pos hyl))|((first|refine ⟨⟨i+1,by omega,hS ⟨by omega,fun k hk=>hyI k (by omega)⟩⟩, ?_,by simp only;omega⟩|refine ⟨⟨1,by omega,hS2 (by grind)⟩, ?_,by simp only;omega⟩|refine ⟨⟨k+2,by omega,hS2 (by grind)⟩, ?_,by simp only;omega⟩);((repeat (first|refine Sub.pv ?_ rfl|refine Sub.var ?_ rfl rfl));exact Sub.nil _ _ _ (StSub.refl _) rfl))|(intros;(try simp only [zql]);omega))))
end Go.Proofs.YtddmbnddgiebgaaGreatDoor
