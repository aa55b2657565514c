import Derived.Test.YtloecjjehapblaaGreatDoorOkAc
import Derived.Test.YtloecjjehapblaaGreatDoorOkAd
import Derived.Test.YtloecjjehapblaaGreatDoorAcI
import Derived.Test.YtloecjjehapblaaGreatDoorAcG
set_option linter.unusedSimpArgs false
set_option linter.unusedVariables false
namespace Go.Proofs.YtloecjjehapblaaGreatDoor
open Go Go.Abs
section
attribute [local irreducible] Ev PWp
set_option maxRecDepth 10000
set_option maxHeartbeats 4000000
def abY (f:Nat->Bool) (n:Nat):Bool:=(List.range n).all f
theorem afN {f:Nat->Bool} {n k:Nat} (h:k<n) (hf:f k=false):abY f n=false:=by
 unfold abY
 rw [<-Bool.not_eq_true,zal]
 exact λq=>by rw [q k (List.mem_range.2 h)] at hf;cases hf
theorem aaL {f:Nat->Bool} {n:Nat} (hf:∀k<n,f k=true):abY f n=true:=by
 unfold abY
 rw [zal]
 exact λk h=>hf k (List.mem_range.1 h)
theorem pQ {f:Nat->Bool} {n:Nat}:abY f n=true↔∀k<n,f k=true:=by
 unfold abY
 rw [zal]
 exact ⟨λh k hk=>h k (List.mem_range.2 hk),λh k hk=>h k (List.mem_range.1 hk)⟩
theorem aDc {f:Nat->Bool} {i:Nat} (hI:∀j<i,f j=true) (h:f i=true):∀j<i+1,f j=true:=λj hj=>by
 rcases zls.1 hj with q|q
 ·exact hI j q
 ·subst q;exact h
theorem aeM {f:Nat->Bool} {i:Nat} {p:Prop} (hI:∀j<i,f j=true) (e:f i=true↔p) (h:p):∀j<i+1,f j=true:=aDc hI (e.2 h)
theorem asI {f:Nat->Bool} {i:Nat} {p R:Prop} (h:f i=false->R) (e:f i=true↔p) (hp:¬p):R:=h (by rw [<-Bool.not_eq_true];exact λq=>hp (e.1 q))
theorem aAn {α β:Type} [Inhabited α] {f:α->β} {l:List α} {i:Nat} (h:i<l.length):(l.map f)[i]?=some (f l[i]!):=by
 rw [getElem!_pos l i h,List.getElem?_map,zgg h];rfl
variable (tx:Cl->Int)
def aCP (c:Cl):Prop:=c.parts.length<1000000000000/\(c.kind=4->PF Tryz.prog 114 [.agg c.cells] (PV.val (Value.int .i64 (tx c))))
def jV (c:Cl):Bool:=if c.kind=0 then bB c.val&&decide (c.parts.length=0) else if c.kind=1 then lT c else if c.kind=2 then decide (cJ c=0) else if c.kind=3 then jI c else if c.kind=4 then decide (tx c=0) else false
theorem atX (c:Cl) (h:aCP tx c):PF Tryz.prog 103 [.agg c.cells] (.val (.bool (jV tx c))):=by
 obtain ⟨hl,ht⟩:=h
 have h1:=aiK c (by omega)
 have h3:=ahN c (by omega)
 have hv:=iX c.val
 have h2:=lP c
 unfold jV
 generalize bB c.val=A at*
 generalize lT c=B at*
 generalize cJ c=C at*
 generalize jI c=D at*
 generalize tx c=E at*
 refine aG aF Tryz.func103 (by kernel_rfl) rfl rfl rfl rfl (λst=> ?_)
 (try apply wO pk;rfl);(repeat' first|show Cn _;constructor|apply wC pk;rfl;rfl|apply wE pk;rfl;rfl|refine aB rfl ?_ ?_<;>intro h<;>(try simp at h)<;>try omega|(refine aC ?_;refine ⟨_,_,_,rfl,zwr _,zsr _, ?_,rfl⟩;try first|rfl|(simp [*];done);done)|(apply aH;rfl;rfl;rfl;(intro _;(first|apply hv|apply h1|apply h2|apply h3|apply (ht ‹_›))<;>first|assumption|omega);rotate_left;rfl;rfl))
def acD (l:List Dt) (k:Nat):Bool:=fK l[k]! &&(decide (k=0)||bH l[k]! l[k-1]!)
def wT (l:List Dt):Bool:=abY (acD l) l.length
def xJ (t:Tb) (l:Ln) (k:Nat):Bool:=decide (l.cells_[k]!.kind=t.cols[k]!.kind)&&jV tx l.cells_[k]!
def rN (t:Tb) (l:Ln):Bool:=decide (0<=l.key/\l.key<1073741824/\l.cells_.length=t.cols.length)&&decide (l.cells_[0]!.val=⟨1,l.key,e0⟩)
def jY (t:Tb) (l:Ln):Bool:=rN t l&&(abY (xJ tx t l) l.cells_.length&&wT l.by_)
theorem arK {t:Tb} {l:Ln} (h:rN t l=false):jY tx t l=false:=by unfold jY;rw [h];rfl
theorem aDv {t:Tb} {l:Ln} {k:Nat} (h:k<l.cells_.length) (hf:xJ tx t l k=false):jY tx t l=false:=by unfold jY;rw [afN h hf];simp
theorem aBz {t:Tb} {l:Ln} {k:Nat} (h:k<l.by_.length) (hf:acD l.by_ k=false):jY tx t l=false:=by unfold jY wT;rw [afN h hf];simp
theorem aAj {t:Tb} {l:Ln} (h:rN t l=true) (hc:∀k<l.cells_.length,xJ tx t l k=true) (hd:∀k<l.by_.length,acD l.by_ k=true):jY tx t l=true:=by
 unfold jY wT
 rw [h,aaL hc,aaL hd];rfl
theorem avJ (t:Tb) (l:Ln) (ht:0<t.cols.length) (hl:l.cells_.length<1000000000000/\l.by_.length<1000000000000) (hp:∀c∈l.cells_,aCP tx c):PF Tryz.prog 55 [.agg t.cells, .agg l.cells] (.val (.bool (jY tx t l))):=by
 by_cases h0:¬((0<=l.key/\l.key<1073741824)/\l.cells_.length=t.cols.length)
 ·rw [arK tx (by unfold rN;rw [decide_eq_false (λh=>h0 ⟨⟨h.1,h.2.1⟩,h.2.2⟩)];rfl)]
  refine aG aF Tryz.func55 (by kernel_rfl) rfl rfl rfl rfl (λst=> ?_)
  (try apply wO pk;rfl);(repeat' first|show Cn _;constructor|apply wC pk;rfl;rfl|apply wE pk;rfl;rfl|apply wD pk [] [];kernel_rfl;rfl;rfl|refine aB rfl ?_ ?_<;>intro h<;>(try simp at h)<;>try omega|(refine aC ?_;refine ⟨_,_,_,rfl,zwr _,zsr _, ?_,rfl⟩;try rfl)|(apply aP pk;(iterate 6 rfl);rotate_left;rfl;(intro hw;rfl);(intro hw;apply aAn<;>first|omega|((exfalso;simp [gw] at hw;omega)));(intro _;rfl);rfl))
 obtain ⟨⟨h1,h2⟩,h3⟩:=zdn h0
 have hh:¬l.cells_[0].val=⟨1,l.key,e0⟩->rN t l=false:=λh=>by unfold rN;rw [getElem!_pos l.cells_ 0 (by omega),decide_eq_false h];simp
 rw [Vl.ext_iff] at hh
 have hy:l.cells_[0].val=⟨1,l.key,e0⟩->rN t l=true:=λh=>by unfold rN;rw [getElem!_pos l.cells_ 0 (by omega),decide_eq_true h,decide_eq_true ⟨h1,h2,h3⟩];rfl
 rw [Vl.ext_iff] at hy
 refine aG aF Tryz.func55 (by kernel_rfl) rfl rfl rfl rfl (λst=> ?_)
 (try apply wO pk;rfl);(repeat' first|show Cn _;constructor|apply wC pk;rfl;rfl|apply wE pk;rfl;rfl|apply wD pk [] [];kernel_rfl;rfl;rfl|refine aB rfl ?_ ?_<;>intro h<;>(try simp at h)<;>try omega|(refine aC ?_;refine ⟨_,_,_,rfl,zwr _,zsr _, ?_,rfl⟩;try first|rfl|((rw [arK tx (hh (by grind))];done));done)|apply aP pk;(iterate 6 rfl);rotate_left;rfl;(intro hw;rfl);(intro hw;apply aJ<;>omega);(intro _;rfl);rfl|intros;(try simp only [zql]);omega)
 have hy1:rN t l=true:=hy (by grind)
 refine aK (X:={x:Nat//x<=l.cells_.length/\∀j<x,xJ tx t l j=true}) (λi=>((((((St.nil 102 st).var 2 121 (t.cells)).var 3 67 (l.cells)).pv 38 (.seq (l.cells_.map Cl.cells))).pv 39 ((PV.val (Value.int .i64 (((l.cells_.map Cl.cells).length:Nat)))))).pv 40 ((PV.val (Value.int .i64 ((i.1:Nat))))))) (λi=>l.cells_.length-i.1) ⟨0,by omega,by omega⟩ ?_ (λi=> ?_)
 ·((repeat (first|refine Sub.pv ?_ rfl|refine Sub.var ?_ rfl rfl));exact Sub.nil _ _ _ (zsr _) rfl)
 obtain ⟨i,hi,hI⟩:=i
 dsimp only
 by_cases hend:l.cells_.length<=i
 ·(try apply wO pk;rfl);(repeat' first|show Cn _;constructor|apply wC pk;rfl;rfl|refine aB rfl ?_ ?_<;>intro h<;>(try simp at h)<;>try omega)
  refine aK (X:={x:Nat//x<=l.by_.length/\∀j<x,acD l.by_ j=true}) (λy=>(((((St.nil 102 st).var 3 67 (l.cells)).pv 61 (.seq (l.by_.map Dt.cells))).pv 62 ((PV.val (Value.int .i64 (((l.by_.map Dt.cells).length:Nat)))))).pv 63 ((PV.val (Value.int .i64 ((y.1:Nat))))))) (λy=>l.by_.length-y.1) ⟨0,by omega,by omega⟩ ?_ (λy=> ?_)
  ·((repeat (first|refine Sub.pv ?_ rfl|refine Sub.var ?_ rfl rfl));exact Sub.nil _ _ _ (zsr _) rfl)
  obtain ⟨y,hy,hyI⟩:=y
  dsimp only
  by_cases hend2:l.by_.length<=y
  have e:=aAj tx hy1 (λk hk=>hI k (by omega)) λk hk=>hyI k (by omega)
  rotate_left
  have h1:y<l.by_.length:=by omega
  have e:=Iff.refl (acD l.by_ y=true)
  by_cases h0:y=0
  subst h0
  conv at e=>rhs;simp only [acD,fK,getElem!_pos l.by_ 0 h1,zba,zde,decide_true,Bool.true_or,and_true]
  have hF:=asI (aBz tx (t:=t) h1) e
  have hS:=aeM hyI e
  rotate_left
  obtain ⟨k,rfl⟩:∃k,y=k+1:=⟨y-1,by omega⟩
  have hd:=aiV l.by_[k] l.by_[k+1]
  have hb:=aqT l.by_[k] l.by_[k+1]
  conv at e=>rhs;simp only [acD,fK,getElem!_pos l.by_ (k+1) h1,show k+1-1=k from rfl,getElem!_pos l.by_ k (by omega),zba,zde,Bool.or_eq_true,h0,false_or]
  have hF:=asI (aBz tx (t:=t) h1) e
  have hS:=aeM hyI e
  rotate_left
  all_goals ((try apply wO pk;rfl);(repeat' first|show Cn _;constructor|apply wC pk;rfl;rfl|apply wE pk;rfl;rfl|apply wD pk [] [];kernel_rfl;rfl;rfl|refine aB rfl ?_ ?_<;>intro h<;>(try simp at h)<;>try omega|(refine aC ?_;refine ⟨_,_,_,rfl,zwr _,zsr _, ?_,rfl⟩;try first|rfl|(first|(rw [e]);done|(first|rw [hF (by grind)];done|(exfalso;grind));done);done)|(apply aH;rfl;rfl;rfl;(intro _;(first|apply (show PF Tryz.prog 104 [_,_] (PV.val (Value.int .i64 (0))) from by rename_i hh;exact (uE hh).elim)|apply hd)<;>first|assumption|omega);rotate_left;rfl;rfl)|apply aP pk;(iterate 6 rfl);rotate_left;rfl;(first|(intro hw;exact (show _=((0:Nat):Int) from by exact (uE hw).elim));(intro hw;apply aJ<;>omega);(intro _;rfl)|(intro hw;rfl);(intro hw;apply aJ<;>omega);(intro _;rfl)|(intro hw;exact (show ((((k+1:Nat):Int))-1=((k:Nat):Int)) from by omega));(intro hw;apply aJ<;>omega);(intro _;rfl));rfl|((first|refine ⟨⟨1,by omega,hS (by grind)⟩, ?_,by simp only;omega⟩|refine ⟨⟨k+2,by omega,hS (by grind)⟩, ?_,by simp only;omega⟩);((repeat (first|refine Sub.pv ?_ rfl|refine Sub.var ?_ rfl rfl));exact Sub.nil _ _ _ (zsr _) rfl))|intros;(try simp only [zql]);omega))
 have h1:i<l.cells_.length:=by omega
 have hc:=atX tx l.cells_[i] (hp _ (zgm h1))
 have e:=Iff.refl (xJ tx t l i=true)
 conv at e=>rhs;simp only [xJ,getElem!_pos l.cells_ i h1,getElem!_pos t.cols i (show i<t.cols.length by omega),zba,zde]
 have hF:=asI (aDv tx (t:=t) h1) e
 have hS:=aeM hI e
 (try apply wO pk;rfl);(repeat' first|show Cn _;constructor|apply wC pk;rfl;rfl|apply wE pk;rfl;rfl|apply wD pk [] [];kernel_rfl;rfl;rfl|refine aB rfl ?_ ?_<;>intro h<;>(try simp at h)<;>try omega|(refine aC ?_;refine ⟨_,_,_,rfl,zwr _,zsr _, ?_,rfl⟩;try first|rfl|(rw [hF (by grind)]);done)|(apply aH;rfl;rfl;rfl;(intro _;apply hc<;>first|assumption|omega);rotate_left;rfl;rfl)|apply aP pk;(iterate 6 rfl);rotate_left;rfl;(intro hw;rfl);(intro hw;apply aJ<;>omega);(intro _;rfl);rfl|(refine ⟨⟨i+1,by omega,hS (by grind)⟩, ?_,by simp only;omega⟩;((repeat (first|refine Sub.pv ?_ rfl|refine Sub.var ?_ rfl rfl));exact Sub.nil _ _ _ (zsr _) rfl))|intros;(try simp only [zql]);omega)
end
section
attribute [local irreducible] Ev PWp
set_option maxRecDepth 10000
set_option maxHeartbeats 4000000
theorem uO :∀{l:List Int},orI l=0->∀x∈l,x=0
 |[],_,_,h=>by cases h
 |a::l,h,x,hx=>by
  rw [orI] at h
  split at h
  ·rename_i e
   rcases zmc.1 hx with rfl|q
   ·exact e
   ·exact uO h x q
  ·rename_i e;exact absurd h e
theorem nJ {f:Nat->Int} {n:Nat} (h:eI f n=0) {k:Nat} (hk:k<n):f k=0:=
 uO h _ (List.mem_map.2 ⟨k,List.mem_range.2 hk,rfl⟩)
theorem fM {s:Sc} (h:cM s=0) {k:Nat} (hk:k<s.length):∀x∈lks s k,x=0:=by
 unfold cM at h
 split at h
 ·cases h
 ·exact uO (nJ h hk)
theorem alR {s:Sc} (h:cM s=0) {k:Nat} (hk:k<s.length):0<s[k].cols.length:=by
 have:=fM h hk (lk1 s[k]!) (by simp [lks])
 rw [getElem!_pos s k hk] at this
 unfold lk1 at this
 split at this
 ·cases this
 ·omega
variable (tx:Cl->Int)
def aG5 (l:Ln):Prop:=(l.cells_.length<1000000000000/\l.by_.length<1000000000000)/\∀c∈l.cells_,aCP tx c
def aF4 (d:Da):Prop:=d.lines.length<1000000000000/\∀l∈d.lines,aG5 tx l
def lnR (t:Tb) (L:List Ln) (i:Nat):Bool:=jY tx t L[i]! &&(decide (i=0)||decide (L[i-1]!.key<L[i]!.key))
def sP (t:Tb) (L:List Ln):Bool:=decide (L.length<=2000)&&abY (lnR tx t L) L.length
def adV (s:Sc) (b:Bs) (k:Nat):Bool:=sP tx s[k]! b[k]!.lines
def cE (s:Sc) (b:Bs):Bool:=decide (cM s=0/\b.length=s.length)&&abY (adV tx s b) b.length
theorem aDH {s:Sc} {b:Bs} (h:¬(cM s=0/\b.length=s.length)):cE tx s b=false:=by unfold cE;rw [decide_eq_false h];rfl
theorem aC5 {s:Sc} {b:Bs} {k:Nat} (h:k<b.length) (hf:adV tx s b k=false):cE tx s b=false:=by unfold cE;rw [afN h hf];simp
theorem azG {s:Sc} {b:Bs} (h:cM s=0/\b.length=s.length) (hf:∀k<b.length,adV tx s b k=true):cE tx s b=true:=by unfold cE;rw [aaL hf,decide_eq_true h];rfl
theorem aoY (s:Sc) (b:Bs) (hl:s.length<1000000000000) (hB:∀t∈s,TbB t) (hb:b.length<1000000000000) (hd:∀d∈b,aF4 tx d):PF Tryz.prog 19 [.agg (scC s), .agg (bsC b)] (.val (.bool (cE tx s b))):=by
 have hs:=wR s (by omega) hB
 by_cases h0:¬(cM s=0/\b.length=s.length)
 ·rw [aDH tx h0]
  generalize cM s=R at*
  refine aG aF Tryz.func19 (by kernel_rfl) rfl rfl rfl rfl (λst=> ?_)
  (try apply wO pk;rfl);(repeat' first|show Cn _;constructor|apply wC pk;rfl;rfl|apply wE pk;rfl;rfl|refine aB rfl ?_ ?_<;>intro h<;>(try simp at h)<;>try omega|(refine aC ?_;refine ⟨_,_,_,rfl,zwr _,zsr _, ?_,rfl⟩;try first|rfl|(exfalso;omega);done)|(apply aH;rfl;rfl;rfl;(intro _;apply hs<;>first|assumption|omega);rotate_left;rfl;rfl))
 replace h0:=zdn h0
 obtain ⟨h1,h2⟩:=h0
 rw [h1] at hs
 refine aG aF Tryz.func19 (by kernel_rfl) rfl rfl rfl rfl (λst=> ?_)
 (try apply wO pk;rfl);(repeat' first|show Cn _;constructor|apply wC pk;rfl;rfl|apply wE pk;rfl;rfl|refine aB rfl ?_ ?_<;>intro h<;>(try simp at h)<;>try omega|(apply aH;rfl;rfl;rfl;(intro _;apply hs<;>first|assumption|omega);rotate_left;rfl;rfl))
 refine aK (X:={x:Nat//x<=b.length/\∀j<x,adV tx s b j=true}) (λi=>(((((St.nil 67 st).var 2 24 ((scC s))).pv 22 (.seq (b.map Da.cells))).pv 23 ((PV.val (Value.int .i64 (((b.map Da.cells).length:Nat)))))).pv 24 ((PV.val (Value.int .i64 ((i.1:Nat))))))) (λi=>b.length-i.1) ⟨0,by omega,by omega⟩ ?_ (λi=> ?_)
 ·((repeat (first|refine Sub.pv ?_ rfl|refine Sub.var ?_ rfl rfl));exact Sub.nil _ _ _ (zsr _) rfl)
 obtain ⟨i,hi,hI⟩:=i
 dsimp only
 by_cases hend:b.length<=i
 have e:=azG tx ⟨h1,h2⟩ λk hk=>hI k (by omega)
 rotate_left
 have hib:i<b.length:=by omega
 have his:i<s.length:=by omega
 have hcl:=alR h1 his
 obtain ⟨d1,d2⟩:=hd _ (zgm hib)
 have e:=Iff.refl (adV tx s b i=true)
 conv at e=>rhs;simp only [adV,sP,getElem!_pos s i his,getElem!_pos b i hib,zba,zde,pQ]
 have hF:=asI (aC5 tx (s:=s) hib) e
 have hS:=aeM hI e
 by_cases h2k:¬b[i].lines.length<=2000
 have hF0:=hF λq=>h2k q.1
 rotate_left
 all_goals ((try apply wO pk;rfl);(repeat' first|show Cn _;constructor|apply wC pk;rfl;rfl|apply wE pk;rfl;rfl|refine aB rfl ?_ ?_<;>intro h<;>(try simp at h)<;>try omega|(refine aC ?_;refine ⟨_,_,_,rfl,zwr _,zsr _, ?_,rfl⟩;try first|rfl|(first|(rw [e]);done|(rw [hF0]);done);done)|apply aP pk;(iterate 6 rfl);rotate_left;rfl;(intro hw;rfl);(intro hw;apply aJ<;>omega);(intro _;rfl);rfl))
 focus ((try apply wO pk;rfl);(repeat' ((show Cn _;constructor))))
 refine aK (X:={x:Nat//x<=b[i].lines.length/\∀j<x,lnR tx s[i] b[i].lines j=true}) (λy=>((((((((((St.nil 67 st).var 2 24 ((scC s))).pv 5 ((PV.val (Value.int .i64 ((i:Nat)))))).var 6 86 (b[i].cells)).pv 22 (.seq (b.map Da.cells))).pv 23 ((PV.val (Value.int .i64 (((b.map Da.cells).length:Nat)))))).pv 24 ((PV.val (Value.int .i64 ((i:Nat)))))).pv 34 (.seq (b[i].lines.map Ln.cells))).pv 35 ((PV.val (Value.int .i64 (((b[i].lines.map Ln.cells).length:Nat)))))).pv 36 ((PV.val (Value.int .i64 ((y.1:Nat))))))) (λy=>b[i].lines.length-y.1) ⟨0,by omega,by omega⟩ ?_ (λy=> ?_)
 ·((repeat (first|refine Sub.pv ?_ rfl|refine Sub.var ?_ rfl rfl));exact Sub.nil _ _ _ (zsr _) rfl)
 obtain ⟨y,hy,hyI⟩:=y
 dsimp only
 by_cases hend2:b[i].lines.length<=y
 rotate_left
 have hyl:y<b[i].lines.length:=by omega
 obtain ⟨l1,l2⟩:=d2 _ (zgm hyl)
 have hls:=avJ tx s[i] b[i].lines[y] hcl l1 l2
 have e:=Iff.refl (lnR tx s[i] b[i].lines y=true)
 have hF2:=λh:¬lnR tx s[i] b[i].lines y=true=>hF λq=>h (q.2 y hyl)
 by_cases h0:y=0
 subst h0
 conv at e=>rhs;simp only [lnR,getElem!_pos b[i].lines 0 hyl,decide_true,Bool.true_or,Bool.and_true]
 have hS2:=aeM hyI e
 rw [e] at hF2
 rotate_left
 obtain ⟨k,rfl⟩:∃k,y=k+1:=⟨y-1,by omega⟩
 conv at e=>rhs;simp only [lnR,getElem!_pos b[i].lines (k+1) hyl,show k+1-1=k from rfl,getElem!_pos b[i].lines k (by omega),zba,zde,Bool.or_eq_true,h0,false_or]
 have hS2:=aeM hyI e
 rw [e] at hF2
 rotate_left
 all_goals ((try apply wO pk;rfl);(repeat' first|show Cn _;constructor|apply wC pk;rfl;rfl|apply wE pk;rfl;rfl|apply wD pk [] [];kernel_rfl;rfl;rfl|refine aB rfl ?_ ?_<;>intro h<;>(try simp at h)<;>try omega|(refine aC ?_;refine ⟨_,_,_,rfl,zwr _,zsr _, ?_,rfl⟩;try first|rfl|(rw [hF2 (by grind)]);done)|(apply aH;rfl;rfl;rfl;(intro _;apply hls<;>first|assumption|omega);rotate_left;rfl;rfl)|apply aP pk;(iterate 6 rfl);rotate_left;rfl;(first|(intro hw;rfl);(intro hw;apply aJ<;>omega);(intro _;rfl)|(intro hw;exact (show _=((0:Nat):Int) from by exact (uE hw).elim));(intro hw;apply aJ<;>omega);(intro _;rfl)|(intro hw;exact (show ((((k+1:Nat):Int))-1=((k:Nat):Int)) from by omega));(intro hw;apply aJ<;>omega);(intro _;rfl));rfl|exact absurd (by assumption:b[i].lines=[]) (List.ne_nil_of_length_pos hyl)|((first|refine ⟨⟨i+1,by omega,hS ⟨by omega,λk hk=>hyI k (by omega)⟩⟩, ?_,by simp only;omega⟩|refine ⟨⟨1,by omega,hS2 (by grind)⟩, ?_,by simp only;omega⟩|refine ⟨⟨k+2,by omega,hS2 (by grind)⟩, ?_,by simp only;omega⟩);((repeat (first|refine Sub.pv ?_ rfl|refine Sub.var ?_ rfl rfl));exact Sub.nil _ _ _ (zsr _) rfl))|intros;(try simp only [zql]);omega))
end
section
attribute [local irreducible] Ev PWp
set_option maxRecDepth 10000
set_option maxHeartbeats 4000000
section
variable {P:Program} {tt:TT} {l:List Oper} {d:Md} {r:List Oper} {s:St} {K:St->Prop} {t:Nat} {ty:TypeId} {pos:String} {after:Array Edge}
theorem aGi {α:Type} {f:α->List PV} (pk:Pk P tt) (z0:α) {T e:TypeId} {x y:Operand} {kx ky:IntKind} {n B sz:Nat} {z:List Value} {a b:Int} (hx:opd s x=some (.val (.int kx a))) (hy:opd s y=some (.val (.int ky b))) (hk:tiK tt T=some (.slice e)) (hs:aT tt e=some sz) (hz:tiZ tt e=some z) (hzl:z.length=sz) (hpos:Nat.blt 0 sz=true) (hf0:z.map .val=f z0) (hf:bT s [x,y]=true) (hd:Nat.blt t s.n=true) (ht:kS d l r=true)
  (ha:a=n) (hb':b=n) (hB:P.bytesOf e=B) (hb:n*B<=140737488355328) (h62:n<4611686018427387904) (k:∀id,s.st id=none->Ev P l d r ((s.sst (upd s.st id (some (.arr e ((List.replicate n z0).map f))))).pv t (.vec id sz 0 n)) K):Ev P l d (⟨some t, .makeSlice T x y,ty,pos,after,none⟩::r) s K:=by
 subst ha hb'
 refine eT (abV pk.htt hx hy hk hs hz hzl (by simpa [Nat.blt_eq] using hpos) hB hb h62) (λz hz=>aR (λ_ _ _ e=>by cases e) hz) hf hd ht λzz hzz=> ?_
 obtain ⟨id,h1,rfl⟩:=hzz
 have:=k id h1
 rw [List.map_replicate,<-hf0] at this
 exact this
end
theorem gL {α:Type} {f:α->List PV} {id sz n:Nat} {l:List α} (hn:l.length=n):Fz id sz (l.map f) (.vec id sz 0 n) (.seq (l.map f)):=by
 have e:(l.map f).length=n:=(zql _).trans hn
 rw [<-e];exact .all
theorem aGV {f:FuncId} {args:List PV} {st:aI} {R R':PV->aI->Prop} (h:PC Tryz.prog f args st R) (hr:∀p st',R p st'->∃q,Wk p q/\R' q st'):PC Tryz.prog f args st R':=
 ⟨h.1,λw g vs hm hv=>(h.2 w g vs hm hv).mono λe w' ⟨v,r,st',g',h1,h2,h3,h4⟩=>by
  obtain ⟨q,k1,k2⟩:=hr _ _ h2
  exact ⟨v,q,st',g',h1,k2,k1 _ _ h3,h4⟩⟩
theorem RepA.wk {g:G} {b:Nat} {ps qs:List PV} (h:WkL ps qs):∀{off:Nat},RepA g b off ps->RepA g b off qs:=by
 induction h with
 |nil=>exact λh=>h
 |cons h _ ih=>
  intro off e
  simp only [RepA] at e⊢
  obtain ⟨⟨v,e1,e2,e3⟩,e4⟩:=e
  exact ⟨⟨v,e1,e2,h _ _ e3⟩,ih e4⟩
theorem aCU {ps qs:List PV} (h:WkL ps qs):ps.length=qs.length:=by
 induction h with
 |nil=>rfl
 |cons _ _ ih=>simp [ih]
theorem RepR.wk {α:Type} {f k:α->List PV} {g:G} {b sz:Nat}:∀{l:List α} (_:∀x∈l,WkL (f x) (k x)) {off:Nat},RepR g b off sz (l.map f)->RepR g b off sz (l.map k)
 |[],_,_,e=>e
 |x::l,h,off,e=>by
  simp only [zmp,RepR] at e⊢
  exact ⟨aCU (h x (by simp))▸e.1,RepA.wk (h x (by simp)) e.2.1,RepR.wk (λy hy=>h y (by simp [hy])) e.2.2⟩
theorem Wk.rows {α:Type} {f k:α->List PV} {l:List α} (h:∀x∈l,WkL (f x) (k x)):Wk (.seq (l.map f)) (.seq (l.map k)):=λg v e=>by
 unfold Rep at e⊢
 obtain ⟨a,cap,h1,h2,h3,h4⟩:=e
 rw [zql] at h1 h2 h3
 refine ⟨a,cap,by rw [zql];exact h1,by rw [zql];exact h2,by rw [zql];exact h3, ?_⟩
 rcases h4 with h4|⟨b,off,sz,q1,q2⟩
 ·exact .inl (by rw [List.map_eq_nil_iff] at h4⊢;exact h4)
 ·exact .inr ⟨b,off,sz,q1,RepR.wk h q2⟩
def zM (_:Unit):List PV:=[.val (.slice none 0 0)]
def aaA (s:Sc):Bs:=List.replicate s.length ⟨[]⟩
theorem aEK (n:Nat):Wk (.agg [.seq ((List.replicate n ()).map zM)]) (.agg (bsC (List.replicate n ⟨[]⟩))):=by
 refine Wk.agg (.cons ?_ .nil)
 have:=Wk.rows (f:=zM) (k:=λ_=>Da.cells ⟨[]⟩) (l:=List.replicate n ()) λ_ _=> .cons Wk.nil .nil
 rwa [List.map_replicate (f:=λ_=>Da.cells ⟨[]⟩),<-List.map_replicate (f:=Da.cells)] at this
theorem alT (s:Sc) (hl:s.length<2000000000000):PF Tryz.prog 27 [.agg (scC s)] (.agg (bsC (aaA s))):=λst=>
 aGV (gN (sz:=1) (R:=λr S=>∃id,r= .agg [.vec id 1 0 s.length]/\st id=none/\S=upd st id (some (.arr 86 ((List.replicate s.length ()).map zM)))) (R':=λr S=>r= .agg [.seq ((List.replicate s.length ()).map zM)]/\S=st) (by
  refine cB aF Tryz.func27 (by kernel_rfl) rfl rfl rfl rfl ?_
  (try apply wO pk;rfl);(repeat' first|show Cn _;constructor|apply wE pk;rfl;rfl|(try refine aC ?_);((refine ⟨_,_,_,rfl,zwr _,zsr _, ?_⟩;(exact ⟨id,rfl,hid,rfl⟩);done))|(apply aGi pk () (f:=zM) (n:=s.length) (B:=24);(iterate 11 rfl);(focus (simp;done));(focus (simp;done));exact aeW;omega;omega;intro id hid))) λp st' h=>by
  obtain ⟨id,rfl,h3,rfl⟩:=h
  exact .inl ⟨id,86,(List.replicate s.length ()).map zM,_,st,aA _ _ _,afE, .agg (.cons (gL (by simp)) .nil),cY h3,rfl,rfl⟩) λp st' h=>⟨_,h.1▸aEK _,rfl,h.2⟩
variable (sh:Cl->Vl)
def auT (c:Cl):Prop:=PF Tryz.prog 30 [.agg c.cells] (.agg (sh c).cells)
theorem aEz (l:Ln) (hl:l.cells_.length<1000000000000) (hs:∀c∈l.cells_,auT sh c) (st:aI):PC Tryz.prog 77 [.agg l.cells] st λr S=>∃id,r= .vec id 3 0 l.cells_.length/\st id=none/\S=upd st id (some (.arr 57 ((l.cells_.map sh).map Vl.cells))):=by
 refine cB aF Tryz.func77 (by kernel_rfl) rfl rfl rfl rfl ?_
 (try apply wO pk;rfl);(repeat' ((show Cn _;constructor)))
 refine mZ 3 57 3 rfl rfl rfl (λid hid=> ?_)
 refine aK (X:={x:Nat×Nat//x.1<=l.cells_.length/\st x.2=none}) (λi=>(((((St.nil 20 (upd st i.1.2 (some (.arr 57 (((l.cells_.map sh).take i.1.1).map Vl.cells))))).pv 3 (.vec i.1.2 3 0 i.1.1)).pv 7 (.seq (l.cells_.map Cl.cells))).pv 8 ((PV.val (Value.int .i64 (((l.cells_.map Cl.cells).length:Nat)))))).pv 9 ((PV.val (Value.int .i64 ((i.1.1:Nat))))))) (λi=>l.cells_.length-i.1.1) ⟨(0,id),by simp,hid⟩ ?_ (λi=> ?_)
 ·dsimp only
  (((repeat refine Sub.pv ?_ rfl);(exact Sub.nil _ _ _ (zsr _) rfl)))
 obtain ⟨⟨i,id⟩,hi,hid⟩:=i
 simp only at hi hid
 dsimp only
 by_cases hend:l.cells_.length<=i
 ·have e:(l.cells_.map sh).take i=l.cells_.map sh:=ztl (by simp;omega)
  obtain rfl:i=l.cells_.length:=by omega
  (try apply wO pk;rfl);(repeat' first|show Cn _;constructor|apply wC pk;rfl;rfl|refine aB rfl ?_ ?_<;>intro h<;>(try simp at h)<;>try omega|(try refine aC ?_);((refine ⟨_,_,_,rfl,zwr _,zsr _, ?_⟩;(exact ⟨id,rfl,hid,by rw [e];rfl⟩);done)))
 have h1:i<l.cells_.length:=by omega
 have hc:PF Tryz.prog 30 [.agg l.cells_[i].cells] (.agg (sh l.cells_[i]).cells):=hs _ (zgm h1)
 have e:(l.cells_.map sh).take (i+1)=(l.cells_.map sh).take i++[sh l.cells_[i]]:=by rw [List.take_succ_eq_append_getElem (by simpa using h1)];simp
 (try apply wO pk;rfl);(repeat' first|show Cn _;constructor|apply wC pk;rfl;rfl|apply wE pk;rfl;rfl|refine aB rfl ?_ ?_<;>intro h<;>(try simp at h)<;>try omega|(apply aH;rfl;rfl;rfl;(intro _;apply hc<;>first|assumption|omega);rotate_left;rfl;rfl)|apply aP pk;(iterate 6 rfl);rotate_left;rfl;(intro hw;rfl);(intro hw;apply aJ<;>omega);(intro _;rfl);rfl|(apply apV pk (f:=Vl.cells) [sh l.cells_[i]] 32;(iterate 9 rfl);(exact aA _ _ _);((focus (simp;omega)));exact λ_=>rfl;exact λ_=>rfl;exact asP;((focus (simp;omega)));((focus (simp;omega)));rfl;intro id' hid')|refine ⟨⟨(i+1,id'),by simp only;omega,iL hid'⟩, ?_,by simp only;omega⟩;((dsimp only;try rw [e]));(((repeat refine Sub.pv ?_ rfl);(exact Sub.nil _ _ _ (cR ‹_›) rfl)))|intros;(try simp only [zql]);omega)
theorem aBa (l:Ln) (hl:l.cells_.length<1000000000000) (hs:∀c∈l.cells_,auT sh c):PF Tryz.prog 77 [.agg l.cells] (.seq ((l.cells_.map sh).map Vl.cells)):=λst=>
 gN (sz:=3) (aEz sh l hl hs st) λp st' h=>by
  obtain ⟨id,rfl,h3,rfl⟩:=h
  exact .inl ⟨id,57,(l.cells_.map sh).map Vl.cells,_,st,aA _ _ _,tX,gL (by simp),cY h3,rfl,rfl⟩
def roC (r:List Vl):List PV:=[.seq (r.map Vl.cells)]
theorem roC.elem :Elem tt 35 roC (λa=> .seq (a.map Vl.cells)) 1:=⟨rfl,λ_=>rfl,λ_=>rfl,λ_=>rfl,λ_=>rfl⟩
theorem aBS :Tryz.prog.bytesOf 35=24:=by kernel_rfl
theorem ayI :Tryz.prog.cellsOf 35=1:=by kernel_rfl
def abO (l:Ln):List Vl:=l.cells_.map sh
theorem axM (b:Bs) (k:Nat) (hk:k<b.length) (hl:b[k].lines.length<1000000000000) (hs:∀l∈b[k].lines,l.cells_.length<1000000000000/\∀c∈l.cells_,auT sh c) (st:aI):PC Tryz.prog 38 [.agg (bsC b),(.val (.int .i64 ((k:Nat))))] st λr S=>∃id,r= .vec id 1 0 b[k].lines.length/\st id=none/\S=upd st id (some (.arr 35 ((b[k].lines.map (abO sh)).map roC))):=by
 have ho:=aaM b k hk
 generalize b[k].lines=L at*
 refine cB aF Tryz.func38 (by kernel_rfl) rfl rfl rfl rfl ?_
 (try apply wO pk;rfl);(repeat' first|show Cn _;constructor|apply wE pk;rfl;rfl|(apply aH;rfl;rfl;rfl;(intro _;apply ho<;>first|assumption|omega);rotate_left;rfl;rfl))
 refine mZ 7 35 1 rfl rfl rfl (λid hid=> ?_)
 refine aK (X:={x:Nat×Nat//x.1<=L.length/\st x.2=none}) (λi=>(((((St.nil 30 (upd st i.1.2 (some (.arr 35 (((L.map (abO sh)).take i.1.1).map roC))))).pv 7 (.vec i.1.2 1 0 i.1.1)).pv 17 (.seq (L.map Ln.cells))).pv 18 ((PV.val (Value.int .i64 (((L.map Ln.cells).length:Nat)))))).pv 19 ((PV.val (Value.int .i64 ((i.1.1:Nat))))))) (λi=>L.length-i.1.1) ⟨(0,id),by simp,hid⟩ ?_ (λi=> ?_)
 ·dsimp only
  (((repeat refine Sub.pv ?_ rfl);(exact Sub.nil _ _ _ (zsr _) rfl)))
 obtain ⟨⟨i,id⟩,hi,hid⟩:=i
 simp only at hi hid
 dsimp only
 by_cases hend:L.length<=i
 ·have e:(L.map (abO sh)).take i=L.map (abO sh):=ztl (by simp;omega)
  obtain rfl:i=L.length:=by omega
  (try apply wO pk;rfl);(repeat' first|show Cn _;constructor|apply wC pk;rfl;rfl|refine aB rfl ?_ ?_<;>intro h<;>(try simp at h)<;>try omega|(try refine aC ?_);((refine ⟨_,_,_,rfl,zwr _,zsr _, ?_⟩;(exact ⟨id,rfl,hid,by rw [e];rfl⟩);done)))
 have h1:i<L.length:=by omega
 have hc:=aBa sh L[i] (hs _ (zgm h1)).1 (hs _ (zgm h1)).2
 have e:(L.map (abO sh)).take (i+1)=(L.map (abO sh)).take i++[L[i].cells_.map sh]:=by rw [List.take_succ_eq_append_getElem (by simpa using h1)];simp [abO]
 (try apply wO pk;rfl);(repeat' first|show Cn _;constructor|apply wC pk;rfl;rfl|apply wE pk;rfl;rfl|refine aB rfl ?_ ?_<;>intro h<;>(try simp at h)<;>try omega|(apply aH;rfl;rfl;rfl;(intro _;apply hc<;>first|assumption|omega);rotate_left;rfl;rfl)|apply aP pk;(iterate 6 rfl);rotate_left;rfl;(intro hw;rfl);(intro hw;apply aJ<;>omega);(intro _;rfl);rfl|(apply apV pk (f:=roC) [L[i].cells_.map sh] 24;(iterate 9 rfl);(exact aA _ _ _);((focus (simp;omega)));exact λ_=>rfl;exact λ_=>rfl;exact aBS;((focus (simp;omega)));((focus (simp;omega)));rfl;intro id' hid')|refine ⟨⟨(i+1,id'),by simp only;omega,iL hid'⟩, ?_,by simp only;omega⟩;((dsimp only;try rw [e]));(((repeat refine Sub.pv ?_ rfl);(exact Sub.nil _ _ _ (cR ‹_›) rfl)))|intros;(try simp only [zql]);omega)
theorem anI (b:Bs) (k:Nat) (hk:k<b.length) (hl:b[k].lines.length<1000000000000) (hs:∀l∈b[k].lines,l.cells_.length<1000000000000/\∀c∈l.cells_,auT sh c):PF Tryz.prog 38 [.agg (bsC b),(.val (.int .i64 ((k:Nat))))] (.seq ((b[k].lines.map (abO sh)).map roC)):=λst=>
 gN (sz:=1) (axM sh b k hk hl hs st) λp st' h=>by
  obtain ⟨id,rfl,h3,rfl⟩:=h
  exact .inl ⟨id,35,(b[k].lines.map (abO sh)).map roC,_,st,aA _ _ _,ayI,gL (by simp),cY h3,rfl,rfl⟩
end
section
attribute [local irreducible] Ev PWp
set_option maxRecDepth 10000
set_option maxHeartbeats 4000000
theorem amC (c:Cl) (h:c.kind=0):PF Tryz.prog 30 [.agg c.cells] (.agg c.val.cells):=by
 refine aG aF Tryz.func30 (by kernel_rfl) rfl rfl rfl rfl (λst=> ?_)
 (try apply wO pk;rfl);(repeat' first|show Cn _;constructor|apply wC pk;rfl;rfl|refine aB rfl ?_ ?_<;>intro h<;>(try simp at h)<;>try omega|(refine aC ?_;refine ⟨_,_,_,rfl,zwr _,zsr _, ?_,rfl⟩;try rfl))
def aFU :Co:=⟨⟨#[105,100]⟩,0,1,false⟩
def aGQ :Co:=⟨⟨#[115]⟩,3,1,false⟩
def iH (b:Bs) (k:Int) (ls:List Ln):Bs:=if okT b k then b.set k.toNat ⟨ls⟩ else b
theorem kO (b:Bs) (k:Int) (ls:List Ln):(iH b k ls).length=b.length:=by unfold iH;split<;>simp
theorem asB {b:Bs} {k:Int} {ls:List Ln} {i:Nat} (h:i<b.length) (hk:(i:Int)=k):(iH b k ls)[i]'(by rw [kO];exact h)=⟨ls⟩:=by
 subst hk
 simp [iH,okT,h]
theorem aDb {b:Bs} {k:Int} {ls:List Ln} {i:Nat} (h:i<b.length) (hk:¬(i:Int)=k):(iH b k ls)[i]'(by rw [kO];exact h)=b[i]:=by
 unfold iH
 split
 ·rename_i q
  simp only [okT,zba,zde] at q
  rw [List.getElem_set_ne (by omega)]
 ·rfl
end
section
set_option maxRecDepth 10000
set_option maxHeartbeats 4000000
theorem sU (L:List Ln) (k:Int):(∃j:Nat,∃h:j<L.length,atP L k=((j:Int),true)/\eD L k=some L[j]/\L[j].key=k/\∀q (hq:q<j),L[q].key≠k)\/
  (∃j:Nat,j<=L.length/\atP L k=((j:Int),false)/\eD L k=none/\(∀x∈L,x.key≠k)/\(∀q (hq:q<j) (h:q<L.length),¬L[q].key>k)/\∀h:j<L.length,L[j].key>k):=by
 unfold atP eD
 cases h:L.findIdx? λx:Ln=>decide (x.key=k) with
 |some j=>
  left
  obtain ⟨hj,hf,hn⟩:=List.findIdx?_eq_some_iff_getElem.1 h
  refine ⟨j,hj, ?_,arV hj hf λq hq h2=>by simpa using hn q hq,by simpa using hf,λq hq=>by simpa using hn q hq⟩
  have e:cS (λx:Ln=>decide (x.key=k)) L=j:=by unfold cS;rw [h]
  rw [e,zp (by omega)]
 |none=>
  right
  have e:cS (λx:Ln=>decide (x.key=k)) L= -1:=by unfold cS;rw [h]
  have hne:∀x∈L,x.key≠k:=λx hx=>by simpa using List.findIdx?_eq_none_iff.1 h x hx
  have hg:L.find? (λx:Ln=>decide (x.key=k))=none:=List.find?_eq_none.2 λx hx=>by rw [List.findIdx?_eq_none_iff.1 h x hx];simp
  rw [e,zn (by omega)]
  cases h2:L.findIdx? λx:Ln=>decide (x.key>k) with
  |some j=>
   obtain ⟨hj,hf,hn⟩:=List.findIdx?_eq_some_iff_getElem.1 h2
   have e2:cS (λx:Ln=>decide (x.key>k)) L=j:=by unfold cS;rw [h2]
   rw [e2,zp (by omega)]
   exact ⟨j,by omega,rfl,hg,hne,λq hq hl=>by simpa using hn q hq,λ_=>by simpa using hf⟩
  |none=>
   have e2:cS (λx:Ln=>decide (x.key>k)) L= -1:=by unfold cS;rw [h2]
   rw [e2,zn (by omega)]
   exact ⟨L.length,Nat.le_refl _,rfl,hg,hne,λq hq hl=>by simpa using List.findIdx?_eq_none_iff.1 h2 L[q] (zgm hl),λh=>absurd h (Nat.lt_irrefl _)⟩
theorem aAr (b:Bs) (k:Int) (a:Ln):oY b k a=iH b k (mC (aN b k) a):=by
 unfold oY iH;rfl
theorem avQ (b:Bs) (k key:Int):azK b k key=iH b k (if (atP (aN b k) key).2 then (aN b k).eraseIdx (atP (aN b k) key).1.toNat else aN b k):=by
 unfold azK iH
 split
 ·rename_i h
  split
  ·rfl
  ·have h2:=h
   simp only [okT,zba,zde] at h2
   unfold aN
   rw [zp h]
   obtain ⟨q,rfl⟩:∃q:Nat,k=q:=⟨k.toNat,by omega⟩
   have hq:q<b.length:=by omega
   rw [Int.toNat_natCast,getElem!_pos b q hq]
   exact (List.set_getElem_self hq).symm
 ·rfl
theorem aoX {L:List Ln} {j:Nat} {a:Ln} (h:j<=L.length):(dW L j [a]).length=L.length+1:=by rw [wZ h];rfl
end
section
attribute [local irreducible] Ev PWp
set_option maxRecDepth 10000
set_option maxHeartbeats 4000000
theorem aBx {L:List Dt} {d:Dt} {q:Nat} (h:q<fQ L d) (hq:q<L.length):bH L[q] d=false:=by
 unfold fQ at h
 cases e:L.findIdx? λx=>bH x d with
 |none=>exact List.findIdx?_eq_none_iff.1 e _ (zgm hq)
 |some j=>rw [e] at h;simpa using (List.findIdx?_eq_some_iff_getElem.1 e).2.2 q h
theorem aAb {L:List Dt} {d:Dt} {j:Nat} (hd:fQ L d=j) (hq:j<L.length):bH L[j] d=true:=by
 unfold fQ at hd
 cases e:L.findIdx? λx=>bH x d with
 |none=>rw [e] at hd;simp at hd;omega
 |some q=>rw [e] at hd;simp at hd;subst hd;exact (List.findIdx?_eq_some_iff_getElem.1 e).2.1
end
section
attribute [local irreducible] Ev PWp
set_option maxRecDepth 10000
set_option maxHeartbeats 4000000
section
variable {P:Program} {tt:TT} {l:List Oper} {d:Md} {r:List Oper} {s:St} {K:St->Prop} {t:Nat} {ty:TypeId} {pos:String} {after:Array Edge}
end
def tot (b:Bs):Nat:=(b.map λd=>d.lines.length).sum
theorem aEs {b:Bs} {i:Nat} (h:i<b.length):tot (b.take (i+1))=tot (b.take i)+b[i].lines.length:=by
 unfold tot
 rw [List.take_succ_eq_append_getElem h,List.map_append,List.sum_append];simp
theorem aEV (b:Bs) (i:Nat):tot (b.take i)<=tot b:=by
 have:tot b=tot (b.take i)+tot (b.drop i):=by
  unfold tot;rw [<-List.sum_append,<-List.map_append,List.take_append_drop]
 omega
def aBC (b:Bs):Bool:=decide (b.length<=20)&&(decide (tot b<=100)&&b.all λd=>d.lines.all afR)
end
section
attribute [local irreducible] Ev PWp
set_option maxRecDepth 10000
set_option maxHeartbeats 4000000
def LnS (l:Ln):Prop:=l.by_.length<=1000/\l.cells_.length<=1000/\∀c∈l.cells_,c.parts.length<=1000
def BsS (n:Nat) (b:Bs):Prop:=b.length<=20/\∀d∈b,d.lines.length<=n/\∀l∈d.lines,LnS l
theorem aDy {l:Ln} (h:afR l=true):LnS l:=by
 unfold afR at h
 simp only [zba,zde,zal,amA] at h
 exact ⟨by omega,by omega,λc hc=>by have:=(h.1 c hc).1;omega⟩
theorem aDV {b:Bs} (h:aBC b=true):BsS 100 b:=by
 unfold aBC at h
 simp only [zba,zde,zal] at h
 obtain ⟨h1,h2,h3⟩:=h
 refine ⟨h1,λd hd=>⟨?_,λl hl=>aDy (h3 d hd l hl)⟩⟩
 obtain ⟨j,hj,rfl⟩:=zgo hd
 have e1:=aEs hj
 have e2:=aEV b (j+1)
 omega
theorem BsS.up {n m:Nat} {b:Bs} (h:BsS n b) (hm:n<=m):BsS m b:=⟨h.1,λd hd=>⟨Nat.le_trans (h.2 d hd).1 hm,(h.2 d hd).2⟩⟩
theorem BsS.lines {n:Nat} {b:Bs} (h:BsS n b) (k:Int):(aN b k).length<=n/\∀l∈aN b k,LnS l:=by
 unfold aN
 split
 ·rename_i q
  simp only [okT,zba,zde] at q
  have hk:k.toNat<b.length:=by omega
  rw [getElem!_pos b k.toNat hk]
  exact h.2 _ (zgm hk)
 ·exact ⟨Nat.zero_le _,λl hl=>by cases hl⟩
theorem BsS.set {n:Nat} {b:Bs} (h:BsS n b) (k:Int) {ls:List Ln} (h1:ls.length<=n) (h2:∀l∈ls,LnS l):BsS n (iH b k ls):=by
 refine ⟨by rw [kO];exact h.1,λd hd=> ?_⟩
 unfold iH at hd
 split at hd
 ·rcases List.mem_or_eq_of_mem_set hd with q|q
  ·exact h.2 d q
  ·subst q;exact ⟨h1,h2⟩
 ·exact h.2 d hd
theorem aA6 {L:List Ln} {a x:Ln} (h:x∈mC L a):x=a\/x∈L:=by
 unfold mC dW at h
 split at h
 ·exact (List.mem_or_eq_of_mem_set h).symm
 ·simp only [zma,zms] at h
  rcases h with (h|h)|h
  ·exact .inr (List.mem_of_mem_take h)
  ·exact .inl h
  ·exact .inr (List.mem_of_mem_drop h)
theorem yU (L:List Ln) (a:Ln):(mC L a).length<=L.length+1:=by
 unfold mC
 split
 ·simp
 ·obtain ⟨j,hj,e,_⟩:=ahC L a.key
  rw [e,Int.toNat_natCast,aoX hj];exact Nat.le_refl _
theorem BsS.put {n:Nat} {b:Bs} (h:BsS n b) (k:Int) {a:Ln} (ha:LnS a):BsS (n+1) (oY b k a):=by
 rw [aAr]
 refine (h.up (Nat.le_succ n)).set k ?_ λl hl=> ?_
 ·have:=yU (aN b k) a;have:=(h.lines k).1;omega
 ·rcases aA6 hl with rfl|q
  ·exact ha
  ·exact (h.lines k).2 l q
theorem BsS.drop {n:Nat} {b:Bs} (h:BsS n b) (k key:Int):BsS n (azK b k key):=by
 rw [avQ]
 refine h.set k ?_ λl hl=> ?_
 ·split
  ·exact Nat.le_trans (List.length_eraseIdx_le ..) (h.lines k).1
  ·exact (h.lines k).1
 ·split at hl
  ·exact (h.lines k).2 l (List.mem_of_mem_eraseIdx hl)
  ·exact (h.lines k).2 l hl
theorem BsS.p {n:Nat} {b:Bs} (h:BsS n b) (hn:n<=1000):∀d∈b,d.lines.length<1000000000000/\∀x∈d.lines,x.by_.length<1000000000000/\x.cells_.length<1000000000000/\∀c∈x.cells_,c.parts.length<1000000000000:=λd hd=>by
 obtain ⟨h1,h2⟩:=h.2 d hd
 refine ⟨by omega,λx hx=> ?_⟩
 obtain ⟨q1,q2,q3⟩:=h2 x hx
 exact ⟨by omega,by omega,λc hc=>by have:=q3 c hc;omega⟩
theorem BsS.l {n:Nat} {b:Bs} (h:BsS n b) (hn:n<=1000):b.length<100000000000/\∀d∈b,d.lines.length<100000000000:=⟨by have:=h.1;omega,λd hd=>by have:=(h.2 d hd).1;omega⟩
def BsB (b:Bs):Prop:=b.length<200000000000000/\∀d∈b,d.lines.length<200000000000000/\∀l∈d.lines,l.cells_.length<4611686018427387904
end
end Go.Proofs.YtloecjjehapblaaGreatDoor
