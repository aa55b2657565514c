import Derived.Test.YtddmbnddgiebgaaGreatDoorBsSch
import Derived.Test.YtddmbnddgiebgaaGreatDoorBsNum
import Derived.Test.YtddmbnddgiebgaaGreatDoorBsRef
set_option linter.unusedSimpArgs false
set_option linter.unusedVariables false
namespace Go.Proofs.YtddmbnddgiebgaaGreatDoor
open Go Go.Abs
attribute [local irreducible] Ev PWp
set_option maxRecDepth 10000
set_option maxHeartbeats 4000000
def uW (f:Nat→Bool) (n:Nat):Bool:=(List.range n).all f
theorem rU {f:Nat→Bool} {n k:Nat} (h:k<n) (hf:f k=false):uW f n=false:=by
  unfold uW
  rw [←Bool.not_eq_true,List.all_eq_true]
  exact fun q=>by rw [q k (List.mem_range.2 h)] at hf;cases hf
theorem lK {f:Nat→Bool} {n:Nat} (hf:∀k<n,f k=true):uW f n=true:=by
  unfold uW
  rw [List.all_eq_true]
  exact fun k h=>hf k (List.mem_range.1 h)
theorem lP {f:Nat→Bool} {n:Nat}:uW f n=true↔∀k<n,f k=true:=by
  unfold uW
  rw [List.all_eq_true]
  exact ⟨fun h k hk=>h k (List.mem_range.2 hk),fun h k hk=>h k (List.mem_range.1 hk)⟩
theorem aqY {f:Nat→Bool} {i:Nat} (hI:∀j<i,f j=true) (h:f i=true):∀j<i+1,f j=true:=fun j hj=>by
  rcases Nat.lt_succ_iff_lt_or_eq.1 hj with q|q
  · exact hI j q
  · subst q;exact h
theorem kU {f:Nat→Bool} {i:Nat} {p:Prop} (hI:∀j<i,f j=true) (e:f i=true↔p) (h:p):∀j<i+1,f j=true:=aqY hI (e.2 h)
theorem rH {f:Nat→Bool} {i:Nat} {p R:Prop} (h:f i=false→R) (e:f i=true↔p) (hp:¬p):R:=h (by rw [←Bool.not_eq_true];exact fun q=>hp (e.1 q))
theorem amG {α β:Type} [Inhabited α] {f:α→β} {l:List α} {i:Nat} (h:i<l.length):(l.map f)[i]?=some (f l[i]!):=by
  rw [getElem!_pos l i h,List.getElem?_map,List.getElem?_eq_getElem h];rfl
variable (tx:Cl→Int)
def aqH (c:Cl):Prop:=c.parts.length<1000000000000∧(c.kind=4→PF Tryz.prog 107 [.agg c.cells] (PV.val (Value.int .i64 (tx c))))
def rY (c:Cl):Bool:=if c.kind=0 then kC c.val&&decide (c.parts.length=0) else if c.kind=1 then nM c else if c.kind=2 then decide (nV c=0) else if c.kind=3 then nX c else if c.kind=4 then decide (tx c=0) else false
theorem ahP (c:Cl) (h:aqH tx c):PF Tryz.prog 66 [.agg c.cells] (PV.val (Value.bool (rY tx c))):=by
  obtain ⟨hl,ht⟩:=h
  have h1:=aaD c (by omega)
  have h3:=zL c (by omega)
  have hv:=lM c.val
  have h2:=abR c
  unfold rY
  generalize kC c.val=A at*
  generalize nM c=B at*
  generalize nV c=C at*
  generalize nX c=D at*
  generalize tx c=E at*
  refine aL aH Tryz.func66 (by kernel_rfl) rfl rfl rfl rfl (fun st=> ?_)
  (try (apply wO pk;exact rfl));(repeat' (first|(show All _;constructor)|(show Imp _ _;constructor)|(show ImpX _ _ _ _;constructor)|(apply wC pk;(iterate 2 exact rfl))|(apply wE pk;(iterate 2 exact rfl))|(apply wX pk;exact rfl)|(apply wN pk;exact rfl)|(apply wD pk [] [];kernel_rfl;exact rfl;exact rfl)|(apply aB;simp only [zqt,zqf])|(refine aD rfl (fun h=> ?_) (fun h=> ?_)<;>(try simp at h)<;>try (exfalso;omega))|(refine aF ?_;refine ⟨_,_,_,rfl,Wk.refl _,StSub.refl _, ?_,rfl⟩;try first|rfl|((simp [*];done);done))|(apply aN;(iterate 3 exact rfl);(intro _;(first|apply hv|apply h1|apply h2|apply h3|apply (ht (by assumption)))<;>first|assumption|omega);rotate_left;(iterate 2 exact rfl))|(intros;(try simp only [zql]);omega)))
def rQ (l:List Dt) (k:Nat):Bool:=eE l[k]! &&(decide (k=0)||bO l[k]! l[k-1]!)
def nE (l:List Dt):Bool:=uW (rQ l) l.length
def kT (t:Tb) (l:Ln) (k:Nat):Bool:=decide (l.cells_[k]!.kind=t.cols[k]!.kind)&&rY tx l.cells_[k]!
def kR (t:Tb) (l:Ln):Bool:=decide (0≤l.key∧l.key<1073741824∧l.cells_.length=t.cols.length)&&decide (l.cells_[0]!.val=⟨1,l.key,e0⟩)
def fV (t:Tb) (l:Ln):Bool:=kR t l&&(uW (kT tx t l) l.cells_.length&&nE l.by_)
theorem yA {t:Tb} {l:Ln} (h:kR t l=false):fV tx t l=false:=by unfold fV;rw [h];rfl
theorem agR {t:Tb} {l:Ln} {k:Nat} (h:k<l.cells_.length) (hf:kT tx t l k=false):fV tx t l=false:=by unfold fV;rw [rU h hf];simp
theorem anX {t:Tb} {l:Ln} {k:Nat} (h:k<l.by_.length) (hf:rQ l.by_ k=false):fV tx t l=false:=by unfold fV nE;rw [rU h hf];simp
theorem amE {t:Tb} {l:Ln} (h:kR t l=true) (hc:∀k<l.cells_.length,kT tx t l k=true) (hd:∀k<l.by_.length,rQ l.by_ k=true):fV tx t l=true:=by
  unfold fV nE
  rw [h,lK hc,lK hd];rfl
theorem aiP (t:Tb) (l:Ln) (ht:0<t.cols.length) (hl:l.cells_.length<1000000000000∧l.by_.length<1000000000000) (hp:∀c∈l.cells_,aqH tx c):PF Tryz.prog 35 [.agg t.cells, .agg l.cells] (PV.val (Value.bool (fV tx t l))):=by
  by_cases h0:¬((0≤l.key∧l.key<1073741824)∧l.cells_.length=t.cols.length)
  · rw [yA tx (by unfold kR;rw [decide_eq_false (fun h=>h0 ⟨⟨h.1,h.2.1⟩,h.2.2⟩)];rfl)]
    refine aL aH Tryz.func35 (by kernel_rfl) rfl rfl rfl rfl (fun st=> ?_)
    (try (apply wO pk;exact rfl));(repeat' (first|(show All _;constructor)|(show Imp _ _;constructor)|(show ImpX _ _ _ _;constructor)|(apply wC pk;(iterate 2 exact rfl))|(apply wE pk;(iterate 2 exact rfl))|(apply wX pk;exact rfl)|(apply wN pk;exact rfl)|(apply wD pk [] [];kernel_rfl;exact rfl;exact rfl)|(apply aB;simp only [zqt,zqf])|(refine aD rfl (fun h=> ?_) (fun h=> ?_)<;>(try simp at h)<;>try (exfalso;omega))|(refine aF ?_;refine ⟨_,_,_,rfl,Wk.refl _,StSub.refl _, ?_,rfl⟩;try rfl)|(apply aW pk;(iterate 6 exact rfl);rotate_left;exact rfl;(intro hw;exact rfl);(intro hw;apply amG<;>first|omega|((exfalso;simp [gw] at hw;omega)));(intro _;exact rfl);exact rfl)|(intros;(try simp only [zql]);omega)))
  obtain ⟨⟨h1,h2⟩,h3⟩:=Decidable.of_not_not h0
  have hh:¬l.cells_[0].val=⟨1,l.key,e0⟩→kR t l=false:=fun h=>by unfold kR;rw [getElem!_pos l.cells_ 0 (by omega),decide_eq_false h];simp
  rw [Vl.ext_iff] at hh
  have hy:l.cells_[0].val=⟨1,l.key,e0⟩→kR t l=true:=fun h=>by unfold kR;rw [getElem!_pos l.cells_ 0 (by omega),decide_eq_true h,decide_eq_true ⟨h1,h2,h3⟩];rfl
  rw [Vl.ext_iff] at hy
  refine aL aH Tryz.func35 (by kernel_rfl) rfl rfl rfl rfl (fun st=> ?_)
  (try (apply wO pk;exact rfl));(repeat' (first|(show All _;constructor)|(show Imp _ _;constructor)|(show ImpX _ _ _ _;constructor)|(apply wC pk;(iterate 2 exact rfl))|(apply wE pk;(iterate 2 exact rfl))|(apply wX pk;exact rfl)|(apply wN pk;exact rfl)|(apply wD pk [] [];kernel_rfl;exact rfl;exact rfl)|(apply aB;simp only [zqt,zqf])|(refine aD rfl (fun h=> ?_) (fun h=> ?_)<;>(try simp at h)<;>try (exfalso;omega))|(refine aF ?_;refine ⟨_,_,_,rfl,Wk.refl _,StSub.refl _, ?_,rfl⟩;try first|rfl|((first|(rw [yA tx (hh (by grind))];done)|(exfalso;omega));done))|(apply aW pk;(iterate 6 exact rfl);rotate_left;exact rfl;(intro hw;exact rfl);(intro hw;apply aI<;>omega);(intro _;exact rfl);exact rfl)|(intros;(try simp only [zql]);omega)))
  have hy1:kR t l=true:=hy (by grind)
  refine aO (X:={x:Nat//x≤l.cells_.length∧∀j<x,kT tx t l j=true}) (fun i=>((((((St.nil 102 st).var 2 52 (t.cells)).var 3 43 (l.cells)).pv 38 (.seq (l.cells_.map Cl.cells))).pv 39 ((PV.val (Value.int .i64 (((l.cells_.map Cl.cells).length:Nat)))))).pv 40 ((PV.val (Value.int .i64 ((i.1:Nat))))))) (fun i=>l.cells_.length-i.1) ⟨0,by omega,by omega⟩ ?_ (fun i=> ?_)
  · ((repeat (first|refine Sub.pv ?_ rfl|refine Sub.var ?_ rfl rfl));exact Sub.nil _ _ _ (StSub.refl _) rfl)
  obtain ⟨i,hi,hI⟩:=i
  dsimp only
  by_cases hend:l.cells_.length≤i
  · (try (apply wO pk;exact rfl));(repeat' (first|(show All _;constructor)|(show Imp _ _;constructor)|(show ImpX _ _ _ _;constructor)|(apply wC pk;(iterate 2 exact rfl))|(apply wE pk;(iterate 2 exact rfl))|(apply wX pk;exact rfl)|(apply wN pk;exact rfl)|(apply wD pk [] [];kernel_rfl;exact rfl;exact rfl)|(apply aB;simp only [zqt,zqf])|(refine aD rfl (fun h=> ?_) (fun h=> ?_)<;>(try simp at h)<;>try (exfalso;omega))|(refine aF ?_;refine ⟨_,_,_,rfl,Wk.refl _,StSub.refl _, ?_,rfl⟩;try rfl)|(intros;(try simp only [zql]);omega)))
    refine aO (X:={x:Nat//x≤l.by_.length∧∀j<x,rQ l.by_ j=true}) (fun y=>(((((St.nil 102 st).var 3 43 (l.cells)).pv 61 (.seq (l.by_.map Dt.cells))).pv 62 ((PV.val (Value.int .i64 (((l.by_.map Dt.cells).length:Nat)))))).pv 63 ((PV.val (Value.int .i64 ((y.1:Nat))))))) (fun y=>l.by_.length-y.1) ⟨0,by omega,by omega⟩ ?_ (fun y=> ?_)
    · ((repeat (first|refine Sub.pv ?_ rfl|refine Sub.var ?_ rfl rfl));exact Sub.nil _ _ _ (StSub.refl _) rfl)
    obtain ⟨y,hy,hyI⟩:=y
    dsimp only
    by_cases hend2:l.by_.length≤y
    have e:=amE tx hy1 (fun k hk=>hI k (by omega)) fun k hk=>hyI k (by omega)
    rotate_left
    have h1:y<l.by_.length:=by omega
    have e:=Iff.refl (rQ l.by_ y=true)
    by_cases h0:y=0
    subst h0
    conv at e=>rhs;simp only [rQ,eE,getElem!_pos l.by_ 0 h1,Bool.and_eq_true,decide_eq_true_eq,decide_true,Bool.true_or,and_true]
    have hF:=rH (anX tx (t:=t) h1) e
    have hS:=kU hyI e
    rotate_left
    obtain ⟨k,rfl⟩:∃k,y=k+1:=⟨y-1,by omega⟩
    have hd:=aaP l.by_[k] l.by_[k+1]
    have hb:=afN l.by_[k] l.by_[k+1]
    conv at e=>rhs;simp only [rQ,eE,getElem!_pos l.by_ (k+1) h1,show k+1-1=k from rfl,getElem!_pos l.by_ k (by omega),Bool.and_eq_true,decide_eq_true_eq,Bool.or_eq_true,h0,false_or]
    have hF:=rH (anX tx (t:=t) h1) e
    have hS:=kU hyI e
    rotate_left
    all_goals ((try (apply wO pk;exact rfl));(repeat' (first|(show All _;constructor)|(show Imp _ _;constructor)|(show ImpX _ _ _ _;constructor)|(apply wC pk;(iterate 2 exact rfl))|(apply wE pk;(iterate 2 exact rfl))|(apply wX pk;exact rfl)|(apply wN pk;exact rfl)|(apply wD pk [] [];kernel_rfl;exact rfl;exact rfl)|(apply aB;simp only [zqt,zqf])|(refine aD rfl (fun h=> ?_) (fun h=> ?_)<;>(try simp at h)<;>try (exfalso;omega))|(refine aF ?_;refine ⟨_,_,_,rfl,Wk.refl _,StSub.refl _, ?_,rfl⟩;try first|rfl|((first|((rw [e]);done)|((first|(rw [hF (by grind)];done)|(exfalso;grind));done)|((rw [hF (by grind)]);done));done))|(apply aN;(iterate 3 exact rfl);(intro _;(first|apply (show PF Tryz.prog 46 [_,_] (PV.val (Value.int .i64 (0))) from by rename_i hh;exact (fZ hh).elim)|apply hd)<;>first|assumption|omega);rotate_left;(iterate 2 exact rfl))|(apply aW pk;(iterate 6 exact rfl);rotate_left;exact rfl;(first|((intro hw;exact (show _=((0:Nat):Int) from by exact (fZ hw).elim));(intro hw;apply aI<;>omega);(intro _;exact rfl))|((intro hw;exact rfl);(intro hw;apply aI<;>omega);(intro _;exact rfl))|((intro hw;exact (show ((((k+1:Nat):Int))-1=((k:Nat):Int)) from by omega));(intro hw;apply aI<;>omega);(intro _;exact rfl)));exact rfl)|((first|refine ⟨⟨1,by omega,hS (by grind)⟩, ?_,by simp only;omega⟩|refine ⟨⟨k+2,by omega,hS (by grind)⟩, ?_,by simp only;omega⟩);((repeat (first|refine Sub.pv ?_ rfl|refine Sub.var ?_ rfl rfl));exact Sub.nil _ _ _ (StSub.refl _) rfl))|(intros;(try simp only [zql]);omega))))
  have h1:i<l.cells_.length:=by omega
  have hc:=ahP tx l.cells_[i] (hp _ (List.getElem_mem h1))
  have e:=Iff.refl (kT tx t l i=true)
  conv at e=>rhs;simp only [kT,getElem!_pos l.cells_ i h1,getElem!_pos t.cols i (show i<t.cols.length by omega),Bool.and_eq_true,decide_eq_true_eq]
  have hF:=rH (agR tx (t:=t) h1) e
  have hS:=kU hI e
  (try (apply wO pk;exact rfl));(repeat' (first|(show All _;constructor)|(show Imp _ _;constructor)|(show ImpX _ _ _ _;constructor)|(apply wC pk;(iterate 2 exact rfl))|(apply wE pk;(iterate 2 exact rfl))|(apply wX pk;exact rfl)|(apply wN pk;exact rfl)|(apply wD pk [] [];kernel_rfl;exact rfl;exact rfl)|(apply aB;simp only [zqt,zqf])|(refine aD rfl (fun h=> ?_) (fun h=> ?_)<;>(try simp at h)<;>try (exfalso;omega))|(refine aF ?_;refine ⟨_,_,_,rfl,Wk.refl _,StSub.refl _, ?_,rfl⟩;try first|rfl|((rw [hF (by grind)]);done))|(apply aN;(iterate 3 exact rfl);(intro _;apply hc<;>first|assumption|omega);rotate_left;(iterate 2 exact rfl))|(apply aW pk;(iterate 6 exact rfl);rotate_left;exact rfl;(intro hw;exact rfl);(intro hw;apply aI<;>omega);(intro _;exact rfl);exact rfl)|(refine ⟨⟨i+1,by omega,hS (by grind)⟩, ?_,by simp only;omega⟩;((repeat (first|refine Sub.pv ?_ rfl|refine Sub.var ?_ rfl rfl));exact Sub.nil _ _ _ (StSub.refl _) rfl))|(intros;(try simp only [zql]);omega)))
end Go.Proofs.YtddmbnddgiebgaaGreatDoor
namespace Go.Proofs.YtddmbnddgiebgaaGreatDoor
open Go Go.Abs
attribute [local irreducible] Ev PWp
set_option maxRecDepth 10000
set_option maxHeartbeats 4000000
theorem uO :∀{l:List Int},orI l=0→∀x∈l,x=0
  |[],_,_,h=>by cases h
  |a::l,h,x,hx=>by
    rw [orI] at h
    split at h
    · rename_i e
      rcases List.mem_cons.1 hx with rfl|q
      · exact e
      · exact uO h x q
    · rename_i e;exact absurd h e
theorem sP {f:Nat→Int} {n:Nat} (h:dB f n=0) {k:Nat} (hk:k<n):f k=0:=
  uO h _ (List.mem_map.2 ⟨k,List.mem_range.2 hk,rfl⟩)
theorem oD {s:Sc} (h:dF s=0) {k:Nat} (hk:k<s.length):∀x∈lks s k,x=0:=by
  unfold dF at h
  split at h
  · cases h
  · exact uO (sP h hk)
theorem rM {s:Sc} (h:dF s=0) {k:Nat} (hk:k<s.length):0<s[k].cols.length:=by
  have:=oD h hk (lk1 s[k]!) (by simp [lks])
  rw [getElem!_pos s k hk] at this
  unfold lk1 at this
  split at this
  · cases this
  · omega
variable (tx:Cl→Int)
def awG (l:Ln):Prop:=(l.cells_.length<1000000000000∧l.by_.length<1000000000000)∧∀c∈l.cells_,aqH tx c
def apG (d:Da):Prop:=d.lines.length<1000000000000∧∀l∈d.lines,awG tx l
def lnR (t:Tb) (L:List Ln) (i:Nat):Bool:=fV tx t L[i]! &&(decide (i=0)||decide (L[i-1]!.key<L[i]!.key))
def vH (t:Tb) (L:List Ln):Bool:=decide (L.length≤2000)&&uW (lnR tx t L) L.length
def oY (s:Sc) (b:Bs) (k:Nat):Bool:=vH tx s[k]! b[k]!.lines
def dW (s:Sc) (b:Bs):Bool:=decide (dF s=0∧b.length=s.length)&&uW (oY tx s b) b.length
theorem agU {s:Sc} {b:Bs} (h:¬(dF s=0∧b.length=s.length)):dW tx s b=false:=by unfold dW;rw [decide_eq_false h];rfl
theorem agL {s:Sc} {b:Bs} {k:Nat} (h:k<b.length) (hf:oY tx s b k=false):dW tx s b=false:=by unfold dW;rw [rU h hf];simp
theorem aaA {s:Sc} {b:Bs} (h:dF s=0∧b.length=s.length) (hf:∀k<b.length,oY tx s b k=true):dW tx s b=true:=by unfold dW;rw [lK hf,decide_eq_true h];rfl
theorem oE (s:Sc) (b:Bs) (hl:s.length<1000000000000) (hB:∀t∈s,TbB t) (hb:b.length<1000000000000) (hd:∀d∈b,apG tx d):PF Tryz.prog 14 [.agg (scC s), .agg (bsC b)] (PV.val (Value.bool (dW tx s b))):=by
  have hs:=zH s (by omega) hB
  by_cases h0:¬(dF s=0∧b.length=s.length)
  · rw [agU tx h0]
    generalize dF s=R at*
    refine aL aH Tryz.func14 (by kernel_rfl) rfl rfl rfl rfl (fun st=> ?_)
    (try (apply wO pk;exact rfl));(repeat' (first|((exfalso;omega))|(show All _;constructor)|(show Imp _ _;constructor)|(show ImpX _ _ _ _;constructor)|(apply wC pk;(iterate 2 exact rfl))|(apply wE pk;(iterate 2 exact rfl))|(apply wX pk;exact rfl)|(apply wN pk;exact rfl)|(apply wD pk [] [];kernel_rfl;exact rfl;exact rfl)|(apply aB;simp only [zqt,zqf])|(refine aD rfl (fun h=> ?_) (fun h=> ?_)<;>(try simp at h)<;>try (exfalso;omega))|(refine aF ?_;refine ⟨_,_,_,rfl,Wk.refl _,StSub.refl _, ?_,rfl⟩;try first|rfl|((exfalso;omega);done))|(apply aN;(iterate 3 exact rfl);(intro _;apply hs<;>first|assumption|omega);rotate_left;(iterate 2 exact rfl))|(intros;(try simp only [zql]);omega)))
  replace h0:=Decidable.of_not_not h0
  obtain ⟨h1,h2⟩:=h0
  rw [h1] at hs
  refine aL aH Tryz.func14 (by kernel_rfl) rfl rfl rfl rfl (fun st=> ?_)
  (try (apply wO pk;exact rfl));(repeat' (first|(show All _;constructor)|(show Imp _ _;constructor)|(show ImpX _ _ _ _;constructor)|(apply wC pk;(iterate 2 exact rfl))|(apply wE pk;(iterate 2 exact rfl))|(apply wX pk;exact rfl)|(apply wN pk;exact rfl)|(apply wD pk [] [];kernel_rfl;exact rfl;exact rfl)|(apply aB;simp only [zqt,zqf])|(refine aD rfl (fun h=> ?_) (fun h=> ?_)<;>(try simp at h)<;>try (exfalso;omega))|(refine aF ?_;refine ⟨_,_,_,rfl,Wk.refl _,StSub.refl _, ?_,rfl⟩;try first|rfl|((exfalso;omega);done))|(apply aN;(iterate 3 exact rfl);(intro _;apply hs<;>first|assumption|omega);rotate_left;(iterate 2 exact rfl))|(intros;(try simp only [zql]);omega)))
  refine aO (X:={x:Nat//x≤b.length∧∀j<x,oY tx s b j=true}) (fun i=>(((((St.nil 67 st).var 2 24 ((scC s))).pv 22 (.seq (b.map Da.cells))).pv 23 ((PV.val (Value.int .i64 (((b.map Da.cells).length:Nat)))))).pv 24 ((PV.val (Value.int .i64 ((i.1:Nat))))))) (fun i=>b.length-i.1) ⟨0,by omega,by omega⟩ ?_ (fun i=> ?_)
  · ((repeat (first|refine Sub.pv ?_ rfl|refine Sub.var ?_ rfl rfl));exact Sub.nil _ _ _ (StSub.refl _) rfl)
  obtain ⟨i,hi,hI⟩:=i
  dsimp only
  by_cases hend:b.length≤i
  have e:=aaA tx ⟨h1,h2⟩ fun k hk=>hI k (by omega)
  rotate_left
  have hib:i<b.length:=by omega
  have his:i<s.length:=by omega
  have hcl:=rM h1 his
  obtain ⟨d1,d2⟩:=hd _ (List.getElem_mem hib)
  have e:=Iff.refl (oY tx s b i=true)
  conv at e=>rhs;simp only [oY,vH,getElem!_pos s i his,getElem!_pos b i hib,Bool.and_eq_true,decide_eq_true_eq,lP]
  have hF:=rH (agL tx (s:=s) hib) e
  have hS:=kU hI e
  by_cases h2k:¬b[i].lines.length≤2000
  have hF0:=hF fun q=>h2k q.1
  rotate_left
  all_goals ((try (apply wO pk;exact rfl));(repeat' (first|((exfalso;omega))|(show All _;constructor)|(show Imp _ _;constructor)|(show ImpX _ _ _ _;constructor)|(apply wC pk;(iterate 2 exact rfl))|(apply wE pk;(iterate 2 exact rfl))|(apply wX pk;exact rfl)|(apply wN pk;exact rfl)|(apply wD pk [] [];kernel_rfl;exact rfl;exact rfl)|(apply aB;simp only [zqt,zqf])|(refine aD rfl (fun h=> ?_) (fun h=> ?_)<;>(try simp at h)<;>try (exfalso;omega))|(refine aF ?_;refine ⟨_,_,_,rfl,Wk.refl _,StSub.refl _, ?_,rfl⟩;try first|rfl|((first|((rw [e]);done)|((rw [hF0]);done));done))|(apply aW pk;(iterate 6 exact rfl);rotate_left;exact rfl;(intro hw;exact rfl);(intro hw;apply aI<;>omega);(intro _;exact rfl);exact rfl)|(intros;(try simp only [zql]);omega))))
  focus ((try (apply wO pk;exact rfl));(repeat' (first|((exfalso;omega))|(show All _;constructor)|(show Imp _ _;constructor)|(show ImpX _ _ _ _;constructor)|(apply wC pk;(iterate 2 exact rfl))|(apply wE pk;(iterate 2 exact rfl))|(apply wX pk;exact rfl)|(apply wN pk;exact rfl)|(apply wD pk [] [];kernel_rfl;exact rfl;exact rfl)|(apply aB;simp only [zqt,zqf])|(refine aD rfl (fun h=> ?_) (fun h=> ?_)<;>(try simp at h)<;>try (exfalso;omega))|(refine aF ?_;refine ⟨_,_,_,rfl,Wk.refl _,StSub.refl _, ?_,rfl⟩;try rfl)|(apply aW pk;(iterate 6 exact rfl);rotate_left;exact rfl;(intro hw;exact rfl);(intro hw;apply aI<;>omega);(intro _;exact rfl);exact rfl)|(intros;(try simp only [zql]);omega))))
  refine aO (X:={x:Nat//x≤b[i].lines.length∧∀j<x,lnR tx s[i] b[i].lines j=true}) (fun y=>((((((((((St.nil 67 st).var 2 24 ((scC s))).pv 5 ((PV.val (Value.int .i64 ((i:Nat)))))).var 6 55 (b[i].cells)).pv 22 (.seq (b.map Da.cells))).pv 23 ((PV.val (Value.int .i64 (((b.map Da.cells).length:Nat)))))).pv 24 ((PV.val (Value.int .i64 ((i:Nat)))))).pv 34 (.seq (b[i].lines.map Ln.cells))).pv 35 ((PV.val (Value.int .i64 (((b[i].lines.map Ln.cells).length:Nat)))))).pv 36 ((PV.val (Value.int .i64 ((y.1:Nat))))))) (fun y=>b[i].lines.length-y.1) ⟨0,by omega,by omega⟩ ?_ (fun y=> ?_)
  · ((repeat (first|refine Sub.pv ?_ rfl|refine Sub.var ?_ rfl rfl));exact Sub.nil _ _ _ (StSub.refl _) rfl)
  obtain ⟨y,hy,hyI⟩:=y
  dsimp only
  by_cases hend2:b[i].lines.length≤y
  rotate_left
  have hyl:y<b[i].lines.length:=by omega
  obtain ⟨l1,l2⟩:=d2 _ (List.getElem_mem hyl)
  have hls:=aiP tx s[i] b[i].lines[y] hcl l1 l2
  have e:=Iff.refl (lnR tx s[i] b[i].lines y=true)
  have hF2:=fun h:¬lnR tx s[i] b[i].lines y=true=>hF fun q=>h (q.2 y hyl)
  by_cases h0:y=0
  subst h0
  conv at e=>rhs;simp only [lnR,getElem!_pos b[i].lines 0 hyl,decide_true,Bool.true_or,Bool.and_true]
  have hS2:=kU hyI e
  rw [e] at hF2
  rotate_left
  obtain ⟨k,rfl⟩:∃k,y=k+1:=⟨y-1,by omega⟩
  conv at e=>rhs;simp only [lnR,getElem!_pos b[i].lines (k+1) hyl,show k+1-1=k from rfl,getElem!_pos b[i].lines k (by omega),Bool.and_eq_true,decide_eq_true_eq,Bool.or_eq_true,h0,false_or]
  have hS2:=kU hyI e
  rw [e] at hF2
  rotate_left
  all_goals ((try (apply wO pk;exact rfl));(repeat' (first|(show All _;constructor)|(show Imp _ _;constructor)|(show ImpX _ _ _ _;constructor)|(apply wC pk;(iterate 2 exact rfl))|(apply wE pk;(iterate 2 exact rfl))|(apply wX pk;exact rfl)|(apply wN pk;exact rfl)|(apply wD pk [] [];kernel_rfl;exact rfl;exact rfl)|(apply aB;simp only [zqt,zqf])|(refine aD rfl (fun h=> ?_) (fun h=> ?_)<;>(try simp at h)<;>try (exfalso;omega))|(refine aF ?_;refine ⟨_,_,_,rfl,Wk.refl _,StSub.refl _, ?_,rfl⟩;try first|rfl|((rw [hF2 (by grind)]);done))|(apply aN;(iterate 3 exact rfl);(intro _;apply hls<;>first|assumption|omega);rotate_left;(iterate 2 exact rfl))|(apply aW pk;(iterate 6 exact rfl);rotate_left;exact rfl;(first|((intro hw;exact rfl);(intro hw;apply aI<;>omega);(intro _;exact rfl))|((intro hw;exact (show _=((0:Nat):Int) from by exact (fZ hw).elim));(intro hw;apply aI<;>omega);(intro _;exact rfl))|((intro hw;exact (show ((((k+1:Nat):Int))-1=((k:Nat):Int)) from by omega));(intro hw;apply aI<;>omega);(intro _;exact rfl)));exact rfl)|(exact absurd (by assumption:b[i].lines=[]) (List.ne_nil_of_length_pos hyl))|((first|refine ⟨⟨i+1,by omega,hS ⟨by omega,fun k hk=>hyI k (by omega)⟩⟩, ?_,by simp only;omega⟩|refine ⟨⟨1,by omega,hS2 (by grind)⟩, ?_,by simp only;omega⟩|refine ⟨⟨k+2,by omega,hS2 (by grind)⟩, ?_,by simp only;omega⟩);((repeat (first|refine Sub.pv ?_ rfl|refine Sub.var ?_ rfl rfl));exact Sub.nil _ _ _ (StSub.refl _) rfl))|(intros;(try simp only [zql]);omega))))
end Go.Proofs.YtddmbnddgiebgaaGreatDoor
