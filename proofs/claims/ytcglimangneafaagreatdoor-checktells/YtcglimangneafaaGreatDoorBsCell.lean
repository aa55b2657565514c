import Derived.Test.YtcglimangneafaaGreatDoorBsSch
import Derived.Test.YtcglimangneafaaGreatDoorBsNum
import Derived.Test.YtcglimangneafaaGreatDoorBsRef
set_option linter.unusedSimpArgs false
set_option linter.unusedVariables false
namespace Go.Proofs.YtcglimangneafaaGreatDoor
open Go Go.Abs
attribute [local irreducible] Ev PWp
set_option maxRecDepth 10000
set_option maxHeartbeats 4000000
def xX (f:Nat→Bool) (n:Nat):Bool:=(List.range n).all f
theorem uE {f:Nat→Bool} {n k:Nat} (h:k<n) (hf:f k=false):xX f n=false:=by
  unfold xX
  rw [←Bool.not_eq_true,List.all_eq_true]
  exact fun q=>by rw [q k (List.mem_range.2 h)] at hf;cases hf
theorem mN {f:Nat→Bool} {n:Nat} (hf:∀k<n,f k=true):xX f n=true:=by
  unfold xX
  rw [List.all_eq_true]
  exact fun k h=>hf k (List.mem_range.1 h)
theorem mQ {f:Nat→Bool} {n:Nat}:xX f n=true↔∀k<n,f k=true:=by
  unfold xX
  rw [List.all_eq_true]
  exact ⟨fun h k hk=>h k (List.mem_range.2 hk),fun h k hk=>h k (List.mem_range.1 hk)⟩
theorem awJ {f:Nat→Bool} {i:Nat} (hI:∀j<i,f j=true) (h:f i=true):∀j<i+1,f j=true:=fun j hj=>by
  rcases Nat.lt_succ_iff_lt_or_eq.1 hj with q|q
  · exact hI j q
  · subst q;exact h
theorem lU {f:Nat→Bool} {i:Nat} {p:Prop} (hI:∀j<i,f j=true) (e:f i=true↔p) (h:p):∀j<i+1,f j=true:=awJ hI (e.2 h)
theorem tH {f:Nat→Bool} {i:Nat} {p R:Prop} (h:f i=false→R) (e:f i=true↔p) (hp:¬p):R:=h (by rw [←Bool.not_eq_true];exact fun q=>hp (e.1 q))
theorem arK {α β:Type} [Inhabited α] {f:α→β} {l:List α} {i:Nat} (h:i<l.length):(l.map f)[i]?=some (f l[i]!):=by
  rw [getElem!_pos l i h,List.getElem?_map,List.getElem?_eq_getElem h];rfl
variable (tx:Cl→Int)
def avV (c:Cl):Prop:=c.parts.length<1000000000000∧(c.kind=4→PF Tryz.prog 136 [.agg c.cells] (PV.val (Value.int .i64 (tx c))))
def sF (c:Cl):Bool:=if c.kind=0 then eD c.val&&decide (c.parts.length=0) else if c.kind=1 then oR c else if c.kind=2 then decide (fE c=0) else if c.kind=3 then pB c else if c.kind=4 then decide (tx c=0) else false
theorem alX (c:Cl) (h:avV tx c):PF Tryz.prog 93 [.agg c.cells] (PV.val (Value.bool (sF tx c))):=by
  obtain ⟨hl,ht⟩:=h
  have h1:=acZ c (by omega)
  have h3:=acE c (by omega)
  have hv:=jQ c.val
  have h2:=tD c
  unfold sF
  generalize eD c.val=A at*
  generalize oR c=B at*
  generalize fE c=C at*
  generalize pB c=D at*
  generalize tx c=E at*
  refine aH aD Tryz.func93 (by kernel_rfl) rfl rfl rfl rfl (fun st=> ?_)
  (try (apply wO pk;exact rfl));(repeat' (first|(show All _;constructor)|(show Imp _ _;constructor)|(show ImpX _ _ _ _;constructor)|(apply wC pk;(iterate 2 exact rfl))|(apply wE pk;(iterate 2 exact rfl))|(refine aA rfl (fun h=> ?_) (fun h=> ?_)<;>(try simp at h)<;>try (exfalso;omega))|(refine aB ?_;refine ⟨_,_,_,rfl,Wk.refl _,StSub.refl _, ?_,rfl⟩;try first|rfl|((simp [*];done);done))|(apply aI;(iterate 3 exact rfl);(intro _;(first|apply hv|apply h1|apply h2|apply h3|apply (ht (by assumption)))<;>first|assumption|omega);rotate_left;(iterate 2 exact rfl))))
def tX (l:List Dt) (k:Nat):Bool:=eN l[k]! &&(decide (k=0)||cZ l[k]! l[k-1]!)
def oG (l:List Dt):Bool:=xX (tX l) l.length
def lT (t:Tb) (l:Ln) (k:Nat):Bool:=decide (l.cells_[k]!.kind=t.cols[k]!.kind)&&sF tx l.cells_[k]!
def lS (t:Tb) (l:Ln):Bool:=decide (0≤l.key∧l.key<1073741824∧l.cells_.length=t.cols.length)&&decide (l.cells_[0]!.val=⟨1,l.key,e0⟩)
def gT (t:Tb) (l:Ln):Bool:=lS t l&&(xX (lT tx t l) l.cells_.length&&oG l.by_)
theorem aaZ {t:Tb} {l:Ln} (h:lS t l=false):gT tx t l=false:=by unfold gT;rw [h];rfl
theorem akX {t:Tb} {l:Ln} {k:Nat} (h:k<l.cells_.length) (hf:lT tx t l k=false):gT tx t l=false:=by unfold gT;rw [uE h hf];simp
theorem atN {t:Tb} {l:Ln} {k:Nat} (h:k<l.by_.length) (hf:tX l.by_ k=false):gT tx t l=false:=by unfold gT oG;rw [uE h hf];simp
theorem arF {t:Tb} {l:Ln} (h:lS t l=true) (hc:∀k<l.cells_.length,lT tx t l k=true) (hd:∀k<l.by_.length,tX l.by_ k=true):gT tx t l=true:=by
  unfold gT oG
  rw [h,mN hc,mN hd];rfl
theorem amU (t:Tb) (l:Ln) (ht:0<t.cols.length) (hl:l.cells_.length<1000000000000∧l.by_.length<1000000000000) (hp:∀c∈l.cells_,avV tx c):PF Tryz.prog 54 [.agg t.cells, .agg l.cells] (PV.val (Value.bool (gT tx t l))):=by
  by_cases h0:¬((0≤l.key∧l.key<1073741824)∧l.cells_.length=t.cols.length)
  · rw [aaZ tx (by unfold lS;rw [decide_eq_false (fun h=>h0 ⟨⟨h.1,h.2.1⟩,h.2.2⟩)];rfl)]
    refine aH aD Tryz.func54 (by kernel_rfl) rfl rfl rfl rfl (fun st=> ?_)
    (try (apply wO pk;exact rfl));(repeat' (first|(show All _;constructor)|(show Imp _ _;constructor)|(show ImpX _ _ _ _;constructor)|(apply wC pk;(iterate 2 exact rfl))|(apply wE pk;(iterate 2 exact rfl))|(apply wD pk [] [];kernel_rfl;exact rfl;exact rfl)|(refine aA rfl (fun h=> ?_) (fun h=> ?_)<;>(try simp at h)<;>try (exfalso;omega))|(refine aB ?_;refine ⟨_,_,_,rfl,Wk.refl _,StSub.refl _, ?_,rfl⟩;try rfl)|(apply aM pk;(iterate 6 exact rfl);rotate_left;exact rfl;(intro hw;exact rfl);(intro hw;apply arK<;>first|omega|((exfalso;simp [gw] at hw;omega)));(intro _;exact rfl);exact rfl)))
  obtain ⟨⟨h1,h2⟩,h3⟩:=Decidable.of_not_not h0
  have hh:¬l.cells_[0].val=⟨1,l.key,e0⟩→lS t l=false:=fun h=>by unfold lS;rw [getElem!_pos l.cells_ 0 (by omega),decide_eq_false h];simp
  rw [Vl.ext_iff] at hh
  have hy:l.cells_[0].val=⟨1,l.key,e0⟩→lS t l=true:=fun h=>by unfold lS;rw [getElem!_pos l.cells_ 0 (by omega),decide_eq_true h,decide_eq_true ⟨h1,h2,h3⟩];rfl
  rw [Vl.ext_iff] at hy
  refine aH aD Tryz.func54 (by kernel_rfl) rfl rfl rfl rfl (fun st=> ?_)
  (try (apply wO pk;exact rfl));(repeat' (first|(show All _;constructor)|(show Imp _ _;constructor)|(show ImpX _ _ _ _;constructor)|(apply wC pk;(iterate 2 exact rfl))|(apply wE pk;(iterate 2 exact rfl))|(apply wD pk [] [];kernel_rfl;exact rfl;exact rfl)|(refine aA rfl (fun h=> ?_) (fun h=> ?_)<;>(try simp at h)<;>try (exfalso;omega))|(refine aB ?_;refine ⟨_,_,_,rfl,Wk.refl _,StSub.refl _, ?_,rfl⟩;try first|rfl|(((rw [aaZ tx (hh (by grind))];done));done))|(apply aM pk;(iterate 6 exact rfl);rotate_left;exact rfl;(intro hw;exact rfl);(intro hw;apply aF<;>omega);(intro _;exact rfl);exact rfl)|(intros;(try simp only [zql]);omega)))
  have hy1:lS t l=true:=hy (by grind)
  refine aJ (X:={x:Nat//x≤l.cells_.length∧∀j<x,lT tx t l j=true}) (fun i=>((((((St.nil 102 st).var 2 43 (t.cells)).var 3 53 (l.cells)).pv 38 (.seq (l.cells_.map Cl.cells))).pv 39 ((PV.val (Value.int .i64 (((l.cells_.map Cl.cells).length:Nat)))))).pv 40 ((PV.val (Value.int .i64 ((i.1:Nat))))))) (fun i=>l.cells_.length-i.1) ⟨0,by omega,by omega⟩ ?_ (fun i=> ?_)
  · ((repeat (first|refine Sub.pv ?_ rfl|refine Sub.var ?_ rfl rfl));exact Sub.nil _ _ _ (StSub.refl _) rfl)
  obtain ⟨i,hi,hI⟩:=i
  dsimp only
  by_cases hend:l.cells_.length≤i
  · (try (apply wO pk;exact rfl));(repeat' (first|(show All _;constructor)|(apply wC pk;(iterate 2 exact rfl))|(refine aA rfl (fun h=> ?_) (fun h=> ?_)<;>(try simp at h)<;>try (exfalso;omega))))
    refine aJ (X:={x:Nat//x≤l.by_.length∧∀j<x,tX l.by_ j=true}) (fun y=>(((((St.nil 102 st).var 3 53 (l.cells)).pv 61 (.seq (l.by_.map Dt.cells))).pv 62 ((PV.val (Value.int .i64 (((l.by_.map Dt.cells).length:Nat)))))).pv 63 ((PV.val (Value.int .i64 ((y.1:Nat))))))) (fun y=>l.by_.length-y.1) ⟨0,by omega,by omega⟩ ?_ (fun y=> ?_)
    · ((repeat (first|refine Sub.pv ?_ rfl|refine Sub.var ?_ rfl rfl));exact Sub.nil _ _ _ (StSub.refl _) rfl)
    obtain ⟨y,hy,hyI⟩:=y
    dsimp only
    by_cases hend2:l.by_.length≤y
    have e:=arF tx hy1 (fun k hk=>hI k (by omega)) fun k hk=>hyI k (by omega)
    rotate_left
    have h1:y<l.by_.length:=by omega
    have e:=Iff.refl (tX l.by_ y=true)
    by_cases h0:y=0
    subst h0
    conv at e=>rhs;simp only [tX,eN,getElem!_pos l.by_ 0 h1,Bool.and_eq_true,decide_eq_true_eq,decide_true,Bool.true_or,and_true]
    have hF:=tH (atN tx (t:=t) h1) e
    have hS:=lU hyI e
    rotate_left
    obtain ⟨k,rfl⟩:∃k,y=k+1:=⟨y-1,by omega⟩
    have hd:=aqM l.by_[k] l.by_[k+1]
    have hb:=ajO l.by_[k] l.by_[k+1]
    conv at e=>rhs;simp only [tX,eN,getElem!_pos l.by_ (k+1) h1,show k+1-1=k from rfl,getElem!_pos l.by_ k (by omega),Bool.and_eq_true,decide_eq_true_eq,Bool.or_eq_true,h0,false_or]
    have hF:=tH (atN tx (t:=t) h1) e
    have hS:=lU hyI e
    rotate_left
    all_goals ((try (apply wO pk;exact rfl));(repeat' (first|(show All _;constructor)|(show Imp _ _;constructor)|(show ImpX _ _ _ _;constructor)|(apply wC pk;(iterate 2 exact rfl))|(apply wE pk;(iterate 2 exact rfl))|(apply wD pk [] [];kernel_rfl;exact rfl;exact rfl)|(refine aA rfl (fun h=> ?_) (fun h=> ?_)<;>(try simp at h)<;>try (exfalso;omega))|(refine aB ?_;refine ⟨_,_,_,rfl,Wk.refl _,StSub.refl _, ?_,rfl⟩;try first|rfl|((first|((rw [e]);done)|((first|(rw [hF (by grind)];done)|(exfalso;grind));done));done))|(apply aI;(iterate 3 exact rfl);(intro _;(first|apply (show PF Tryz.prog 94 [_,_] (PV.val (Value.int .i64 (0))) from by rename_i hh;exact (hJ hh).elim)|apply hd)<;>first|assumption|omega);rotate_left;(iterate 2 exact rfl))|(apply aM pk;(iterate 6 exact rfl);rotate_left;exact rfl;(first|((intro hw;exact (show _=((0:Nat):Int) from by exact (hJ hw).elim));(intro hw;apply aF<;>omega);(intro _;exact rfl))|((intro hw;exact rfl);(intro hw;apply aF<;>omega);(intro _;exact rfl))|((intro hw;exact (show ((((k+1:Nat):Int))-1=((k:Nat):Int)) from by omega));(intro hw;apply aF<;>omega);(intro _;exact rfl)));exact rfl)|((first|refine ⟨⟨1,by omega,hS (by grind)⟩, ?_,by simp only;omega⟩|refine ⟨⟨k+2,by omega,hS (by grind)⟩, ?_,by simp only;omega⟩);((repeat (first|refine Sub.pv ?_ rfl|refine Sub.var ?_ rfl rfl));exact Sub.nil _ _ _ (StSub.refl _) rfl))|(intros;(try simp only [zql]);omega))))
  have h1:i<l.cells_.length:=by omega
  have hc:=alX tx l.cells_[i] (hp _ (List.getElem_mem h1))
  have e:=Iff.refl (lT tx t l i=true)
  conv at e=>rhs;simp only [lT,getElem!_pos l.cells_ i h1,getElem!_pos t.cols i (show i<t.cols.length by omega),Bool.and_eq_true,decide_eq_true_eq]
  have hF:=tH (akX tx (t:=t) h1) e
  have hS:=lU hI e
  (try (apply wO pk;exact rfl));(repeat' (first|(show All _;constructor)|(show Imp _ _;constructor)|(show ImpX _ _ _ _;constructor)|(apply wC pk;(iterate 2 exact rfl))|(apply wE pk;(iterate 2 exact rfl))|(apply wD pk [] [];kernel_rfl;exact rfl;exact rfl)|(refine aA rfl (fun h=> ?_) (fun h=> ?_)<;>(try simp at h)<;>try (exfalso;omega))|(refine aB ?_;refine ⟨_,_,_,rfl,Wk.refl _,StSub.refl _, ?_,rfl⟩;try first|rfl|((rw [hF (by grind)]);done))|(apply aI;(iterate 3 exact rfl);(intro _;apply hc<;>first|assumption|omega);rotate_left;(iterate 2 exact rfl))|(apply aM pk;(iterate 6 exact rfl);rotate_left;exact rfl;(intro hw;exact rfl);(intro hw;apply aF<;>omega);(intro _;exact rfl);exact rfl)|(refine ⟨⟨i+1,by omega,hS (by grind)⟩, ?_,by simp only;omega⟩;((repeat (first|refine Sub.pv ?_ rfl|refine Sub.var ?_ rfl rfl));exact Sub.nil _ _ _ (StSub.refl _) rfl))|(intros;(try simp only [zql]);omega)))
end Go.Proofs.YtcglimangneafaaGreatDoor
namespace Go.Proofs.YtcglimangneafaaGreatDoor
open Go Go.Abs
attribute [local irreducible] Ev PWp
set_option maxRecDepth 10000
set_option maxHeartbeats 4000000
theorem xR :∀{l:List Int},orI l=0→∀x∈l,x=0
  |[],_,_,h=>by cases h
  |a::l,h,x,hx=>by
    rw [orI] at h
    split at h
    · rename_i e
      rcases List.mem_cons.1 hx with rfl|q
      · exact e
      · exact xR h x q
    · rename_i e;exact absurd h e
theorem kY {f:Nat→Int} {n:Nat} (h:dB f n=0) {k:Nat} (hk:k<n):f k=0:=
  xR h _ (List.mem_map.2 ⟨k,List.mem_range.2 hk,rfl⟩)
theorem iZ {s:Sc} (h:cD s=0) {k:Nat} (hk:k<s.length):∀x∈lks s k,x=0:=by
  unfold cD at h
  split at h
  · cases h
  · exact xR (kY h hk)
theorem tL {s:Sc} (h:cD s=0) {k:Nat} (hk:k<s.length):0<s[k].cols.length:=by
  have:=iZ h hk (lk1 s[k]!) (by simp [lks])
  rw [getElem!_pos s k hk] at this
  unfold lk1 at this
  split at this
  · cases this
  · omega
variable (tx:Cl→Int)
def aAQ (l:Ln):Prop:=(l.cells_.length<1000000000000∧l.by_.length<1000000000000)∧∀c∈l.cells_,avV tx c
def azU (d:Da):Prop:=d.lines.length<1000000000000∧∀l∈d.lines,aAQ tx l
def lnR (t:Tb) (L:List Ln) (i:Nat):Bool:=gT tx t L[i]! &&(decide (i=0)||decide (L[i-1]!.key<L[i]!.key))
def yI (t:Tb) (L:List Ln):Bool:=decide (L.length≤2000)&&xX (lnR tx t L) L.length
def qD (s:Sc) (b:Bs) (k:Nat):Bool:=yI tx s[k]! b[k]!.lines
def eG (s:Sc) (b:Bs):Bool:=decide (cD s=0∧b.length=s.length)&&xX (qD tx s b) b.length
theorem alA {s:Sc} {b:Bs} (h:¬(cD s=0∧b.length=s.length)):eG tx s b=false:=by unfold eG;rw [decide_eq_false h];rfl
theorem akN {s:Sc} {b:Bs} {k:Nat} (h:k<b.length) (hf:qD tx s b k=false):eG tx s b=false:=by unfold eG;rw [uE h hf];simp
theorem acX {s:Sc} {b:Bs} (h:cD s=0∧b.length=s.length) (hf:∀k<b.length,qD tx s b k=true):eG tx s b=true:=by unfold eG;rw [mN hf,decide_eq_true h];rfl
theorem aiH (s:Sc) (b:Bs) (hl:s.length<1000000000000) (hB:∀t∈s,TbB t) (hb:b.length<1000000000000) (hd:∀d∈b,azU tx d):PF Tryz.prog 24 [.agg (scC s), .agg (bsC b)] (PV.val (Value.bool (eG tx s b))):=by
  have hs:=sJ s (by omega) hB
  by_cases h0:¬(cD s=0∧b.length=s.length)
  · rw [alA tx h0]
    generalize cD s=R at*
    refine aH aD Tryz.func24 (by kernel_rfl) rfl rfl rfl rfl (fun st=> ?_)
    (try (apply wO pk;exact rfl));(repeat' (first|(show All _;constructor)|(show Imp _ _;constructor)|(show ImpX _ _ _ _;constructor)|(apply wC pk;(iterate 2 exact rfl))|(apply wE pk;(iterate 2 exact rfl))|(refine aA rfl (fun h=> ?_) (fun h=> ?_)<;>(try simp at h)<;>try (exfalso;omega))|(refine aB ?_;refine ⟨_,_,_,rfl,Wk.refl _,StSub.refl _, ?_,rfl⟩;try first|rfl|((exfalso;omega);done))|(apply aI;(iterate 3 exact rfl);(intro _;apply hs<;>first|assumption|omega);rotate_left;(iterate 2 exact rfl))))
  replace h0:=Decidable.of_not_not h0
  obtain ⟨h1,h2⟩:=h0
  rw [h1] at hs
  refine aH aD Tryz.func24 (by kernel_rfl) rfl rfl rfl rfl (fun st=> ?_)
  (try (apply wO pk;exact rfl));(repeat' (first|(show All _;constructor)|(show Imp _ _;constructor)|(show ImpX _ _ _ _;constructor)|(apply wC pk;(iterate 2 exact rfl))|(apply wE pk;(iterate 2 exact rfl))|(refine aA rfl (fun h=> ?_) (fun h=> ?_)<;>(try simp at h)<;>try (exfalso;omega))|(apply aI;(iterate 3 exact rfl);(intro _;apply hs<;>first|assumption|omega);rotate_left;(iterate 2 exact rfl))))
  refine aJ (X:={x:Nat//x≤b.length∧∀j<x,qD tx s b j=true}) (fun i=>(((((St.nil 67 st).var 2 24 ((scC s))).pv 22 (.seq (b.map Da.cells))).pv 23 ((PV.val (Value.int .i64 (((b.map Da.cells).length:Nat)))))).pv 24 ((PV.val (Value.int .i64 ((i.1:Nat))))))) (fun i=>b.length-i.1) ⟨0,by omega,by omega⟩ ?_ (fun i=> ?_)
  · ((repeat (first|refine Sub.pv ?_ rfl|refine Sub.var ?_ rfl rfl));exact Sub.nil _ _ _ (StSub.refl _) rfl)
  obtain ⟨i,hi,hI⟩:=i
  dsimp only
  by_cases hend:b.length≤i
  have e:=acX tx ⟨h1,h2⟩ fun k hk=>hI k (by omega)
  rotate_left
  have hib:i<b.length:=by omega
  have his:i<s.length:=by omega
  have hcl:=tL h1 his
  obtain ⟨d1,d2⟩:=hd _ (List.getElem_mem hib)
  have e:=Iff.refl (qD tx s b i=true)
  conv at e=>rhs;simp only [qD,yI,getElem!_pos s i his,getElem!_pos b i hib,Bool.and_eq_true,decide_eq_true_eq,mQ]
  have hF:=tH (akN tx (s:=s) hib) e
  have hS:=lU hI e
  by_cases h2k:¬b[i].lines.length≤2000
  have hF0:=hF fun q=>h2k q.1
  rotate_left
  all_goals ((try (apply wO pk;exact rfl));(repeat' (first|(show All _;constructor)|(show Imp _ _;constructor)|(apply wC pk;(iterate 2 exact rfl))|(apply wE pk;(iterate 2 exact rfl))|(refine aA rfl (fun h=> ?_) (fun h=> ?_)<;>(try simp at h)<;>try (exfalso;omega))|(refine aB ?_;refine ⟨_,_,_,rfl,Wk.refl _,StSub.refl _, ?_,rfl⟩;try first|rfl|((first|((rw [e]);done)|((rw [hF0]);done));done))|(apply aM pk;(iterate 6 exact rfl);rotate_left;exact rfl;(intro hw;exact rfl);(intro hw;apply aF<;>omega);(intro _;exact rfl);exact rfl))))
  focus ((try (apply wO pk;exact rfl));(repeat' ((show All _;constructor))))
  refine aJ (X:={x:Nat//x≤b[i].lines.length∧∀j<x,lnR tx s[i] b[i].lines j=true}) (fun y=>((((((((((St.nil 67 st).var 2 24 ((scC s))).pv 5 ((PV.val (Value.int .i64 ((i:Nat)))))).var 6 108 (b[i].cells)).pv 22 (.seq (b.map Da.cells))).pv 23 ((PV.val (Value.int .i64 (((b.map Da.cells).length:Nat)))))).pv 24 ((PV.val (Value.int .i64 ((i:Nat)))))).pv 34 (.seq (b[i].lines.map Ln.cells))).pv 35 ((PV.val (Value.int .i64 (((b[i].lines.map Ln.cells).length:Nat)))))).pv 36 ((PV.val (Value.int .i64 ((y.1:Nat))))))) (fun y=>b[i].lines.length-y.1) ⟨0,by omega,by omega⟩ ?_ (fun y=> ?_)
  · ((repeat (first|refine Sub.pv ?_ rfl|refine Sub.var ?_ rfl rfl));exact Sub.nil _ _ _ (StSub.refl _) rfl)
  obtain ⟨y,hy,hyI⟩:=y
  dsimp only
  by_cases hend2:b[i].lines.length≤y
  rotate_left
  have hyl:y<b[i].lines.length:=by omega
  obtain ⟨l1,l2⟩:=d2 _ (List.getElem_mem hyl)
  have hls:=amU tx s[i] b[i].lines[y] hcl l1 l2
  have e:=Iff.refl (lnR tx s[i] b[i].lines y=true)
  have hF2:=fun h:¬lnR tx s[i] b[i].lines y=true=>hF fun q=>h (q.2 y hyl)
  by_cases h0:y=0
  subst h0
  conv at e=>rhs;simp only [lnR,getElem!_pos b[i].lines 0 hyl,decide_true,Bool.true_or,Bool.and_true]
  have hS2:=lU hyI e
  rw [e] at hF2
  rotate_left
  obtain ⟨k,rfl⟩:∃k,y=k+1:=⟨y-1,by omega⟩
  conv at e=>rhs;simp only [lnR,getElem!_pos b[i].lines (k+1) hyl,show k+1-1=k from rfl,getElem!_pos b[i].lines k (by omega),Bool.and_eq_true,decide_eq_true_eq,Bool.or_eq_true,h0,false_or]
  have hS2:=lU hyI e
  rw [e] at hF2
  rotate_left
  all_goals ((try (apply wO pk;exact rfl));(repeat' (first|(show All _;constructor)|(show Imp _ _;constructor)|(show ImpX _ _ _ _;constructor)|(apply wC pk;(iterate 2 exact rfl))|(apply wE pk;(iterate 2 exact rfl))|(apply wD pk [] [];kernel_rfl;exact rfl;exact rfl)|(refine aA rfl (fun h=> ?_) (fun h=> ?_)<;>(try simp at h)<;>try (exfalso;omega))|(refine aB ?_;refine ⟨_,_,_,rfl,Wk.refl _,StSub.refl _, ?_,rfl⟩;try first|rfl|((rw [hF2 (by grind)]);done))|(apply aI;(iterate 3 exact rfl);(intro _;apply hls<;>first|assumption|omega);rotate_left;(iterate 2 exact rfl))|(apply aM pk;(iterate 6 exact rfl);rotate_left;exact rfl;(first|((intro hw;exact rfl);(intro hw;apply aF<;>omega);(intro _;exact rfl))|((intro hw;exact (show _=((0:Nat):Int) from by exact (hJ hw).elim));(intro hw;apply aF<;>omega);(intro _;exact rfl))|((intro hw;exact (show ((((k+1:Nat):Int))-1=((k:Nat):Int)) from by omega));(intro hw;apply aF<;>omega);(intro _;exact rfl)));exact rfl)|(exact absurd (by assumption:b[i].lines=[]) (List.ne_nil_of_length_pos hyl))|((first|refine ⟨⟨i+1,by omega,hS ⟨by omega,fun k hk=>hyI k (by omega)⟩⟩, ?_,by simp only;omega⟩|refine ⟨⟨1,by omega,hS2 (by grind)⟩, ?_,by simp only;omega⟩|refine ⟨⟨k+2,by omega,hS2 (by grind)⟩, ?_,by simp only;omega⟩);((repeat (first|refine Sub.pv ?_ rfl|refine Sub.var ?_ rfl rfl));exact Sub.nil _ _ _ (StSub.refl _) rfl))|(intros;(try simp only [zql]);omega))))
end Go.Proofs.YtcglimangneafaaGreatDoor
