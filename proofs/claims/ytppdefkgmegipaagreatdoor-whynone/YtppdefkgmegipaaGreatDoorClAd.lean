import Derived.Test.YtppdefkgmegipaaGreatDoorClAc
import Derived.Test.YtppdefkgmegipaaGreatDoorAbsI
import Derived.Test.YtppdefkgmegipaaGreatDoorAbsG
import Derived.Test.YtppdefkgmegipaaGreatDoorAbsF
import Derived.Test.YtppdefkgmegipaaGreatDoorRows
import Derived.SizedLaws
set_option linter.unusedSimpArgs false
set_option linter.unusedVariables false
namespace Go.Proofs.YtppdefkgmegipaaGreatDoor
open Go Go.Abs
section
attribute [local irreducible] Ev PWp
set_option maxRecDepth 10000
set_option maxHeartbeats 4000000
def yC (f:Nat->Bool) (n:Nat):Bool:=(List.range n).all f
theorem abL {f:Nat->Bool} {n k:Nat} (h:k<n) (hf:f k=false):yC f n=false:=by
 unfold yC
 rw [<-Bool.not_eq_true,zal]
 exact λq=>by rw [q k (List.mem_range.2 h)] at hf;cases hf
theorem wG {f:Nat->Bool} {n:Nat} (hf:∀k<n,f k=true):yC f n=true:=by
 unfold yC
 rw [zal]
 exact λk h=>hf k (List.mem_range.1 h)
theorem qJ {f:Nat->Bool} {n:Nat}:yC f n=true↔∀k<n,f k=true:=by
 unfold yC
 rw [zal]
 exact ⟨λh k hk=>h k (List.mem_range.2 hk),λh k hk=>h k (List.mem_range.1 hk)⟩
theorem azN {f:Nat->Bool} {i:Nat} (hI:∀j<i,f j=true) (h:f i=true):∀j<i+1,f j=true:=λj hj=>by
 rcases zls.1 hj with q|q
 ·exact hI j q
 ·subst q;exact h
theorem aaH {f:Nat->Bool} {i:Nat} {p:Prop} (hI:∀j<i,f j=true) (e:f i=true↔p) (h:p):∀j<i+1,f j=true:=azN hI (e.2 h)
theorem amD {f:Nat->Bool} {i:Nat} {p R:Prop} (h:f i=false->R) (e:f i=true↔p) (hp:¬p):R:=h (by rw [<-Bool.not_eq_true];exact λq=>hp (e.1 q))
theorem vX {α β:Type} [Inhabited α] {f:α->β} {l:List α} {i:Nat} (h:i<l.length):(l.map f)[i]?=some (f l[i]!):=by
 rw [getElem!_pos l i h,List.getElem?_map,zgg h];rfl
variable (tx:Cl->Int)
def ayX (c:Cl):Prop:=c.parts.length<1000000000000/\(c.kind=4->PF Tryz.prog 153 [.agg c.cells] (vi (tx c)))
def acN (c:Cl):Bool:=if c.kind=0 then jP c.val&&decide (c.parts.length=0) else if c.kind=1 then uS c else if c.kind=2 then decide (kW c=0) else if c.kind=3 then abJ c else if c.kind=4 then decide (tx c=0) else false
theorem anC (c:Cl) (h:ayX tx c):PF Tryz.prog 113 [.agg c.cells] (vb (acN tx c)):=by
 obtain ⟨hl,ht⟩:=h
 have h1:=adV c (by omega)
 have h3:=adB c (by omega)
 have hv:=mM c.val
 have h2:=tF c
 unfold acN
 generalize jP c.val=A at*
 generalize uS c=B at*
 generalize kW c=C at*
 generalize abJ c=D at*
 generalize tx c=E at*
 refine pF Tryz.func113 rfl (λst=> ?_)
 (repeat' first|apply wZ;rfl|show Cn _;constructor|exact rfl|((first|apply hv|apply h1|apply h2|apply h3|apply (ht ‹_›)))|show (_:PV)=_;(simp [*];done);done|apply wY;rfl|intro h)
def aiS (l:List Dt) (k:Nat):Bool:=jY l[k]! &&(decide (k=0)||eY l[k]! l[k-1]!)
def arX (l:List Dt):Bool:=yC (aiS l) l.length
def xH (t:Tb) (l:Ln) (k:Nat):Bool:=decide (l.cells_[k]!.kind=t.cols[k]!.kind)&&acN tx l.cells_[k]!
def oJ (t:Tb) (l:Ln):Bool:=decide (0<=l.key/\l.key<1073741824/\l.cells_.length=t.cols.length)&&decide (l.cells_[0]!.val=⟨1,l.key,e0⟩)
def jU (t:Tb) (l:Ln):Bool:=oJ t l&&(yC (xH tx t l) l.cells_.length&&arX l.by_)
theorem alE {t:Tb} {l:Ln} (h:oJ t l=false):jU tx t l=false:=by unfold jU;rw [h];rfl
theorem azX {t:Tb} {l:Ln} {k:Nat} (h:k<l.cells_.length) (hf:xH tx t l k=false):jU tx t l=false:=by unfold jU;rw [abL h hf];simp
theorem awM {t:Tb} {l:Ln} {k:Nat} (h:k<l.by_.length) (hf:aiS l.by_ k=false):jU tx t l=false:=by unfold jU arX;rw [abL h hf];simp
theorem atS {t:Tb} {l:Ln} (h:oJ t l=true) (hc:∀k<l.cells_.length,xH tx t l k=true) (hd:∀k<l.by_.length,aiS l.by_ k=true):jU tx t l=true:=by
 unfold jU arX
 rw [h,wG hc,wG hd];rfl
theorem aoE (t:Tb) (l:Ln) (ht:0<t.cols.length) (hl:l.cells_.length<1000000000000/\l.by_.length<1000000000000) (hp:∀c∈l.cells_,ayX tx c):PF Tryz.prog 71 [.agg t.cells, .agg l.cells] (vb (jU tx t l)):=by
 by_cases h0:¬((0<=l.key/\l.key<1073741824)/\l.cells_.length=t.cols.length)
 ·rw [alE tx (by unfold oJ;rw [decide_eq_false (λh=>h0 ⟨⟨h.1,h.2.1⟩,h.2.2⟩)];rfl)]
  refine pF Tryz.func71 rfl (λst=> ?_)
  (repeat' first|apply wZ;rfl|show Cn _;constructor|exact rfl|apply KR.mk;kernel_rfl|(apply bX pk;(iterate 6 rfl);rotate_left;rfl;(intro hw;rfl);(intro hw;apply vX<;>first|omega|((exfalso;simp [gw] at hw;omega)));(intro _;rfl);rfl)|intro h;simp at h;omega|(intro h;simp at h))
 obtain ⟨⟨h1,h2⟩,h3⟩:=zdn h0
 have hh:¬l.cells_[0].val=⟨1,l.key,e0⟩->oJ t l=false:=λh=>by unfold oJ;rw [getElem!_pos l.cells_ 0 (by omega),decide_eq_false h];simp
 rw [Vl.ext_iff] at hh
 have hy:l.cells_[0].val=⟨1,l.key,e0⟩->oJ t l=true:=λh=>by unfold oJ;rw [getElem!_pos l.cells_ 0 (by omega),decide_eq_true h,decide_eq_true ⟨h1,h2,h3⟩];rfl
 rw [Vl.ext_iff] at hy
 refine pF Tryz.func71 rfl (λst=> ?_)
 (repeat' first|apply wZ;rfl|show Cn _;constructor|exact rfl|apply KR.mk;kernel_rfl|show (_:PV)=_;((rw [alE tx (hh (by grind))];done));done|apply wI;rfl|apply gE;show 0<_;omega|(intro h;simp at h))
 have hy1:oJ t l=true:=hy (by grind)
 refine aG (X:={x:Nat//x<=l.cells_.length/\∀j<x,xH tx t l j=true}) (λi=>((((((St.nil 102 st).var 2 90 (t.cells)).var 3 48 (l.cells)).pv 38 (.seq (l.cells_.map Cl.cells))).pv 39 ((vi (((l.cells_.map Cl.cells).length:Nat))))).pv 40 ((vi ((i.1:Nat)))))) (λi=>l.cells_.length-i.1) ⟨0,by omega,by omega⟩ ?_ (λi=> ?_)
 ·(repeat' first|show Cn _;constructor|exact rfl)
 obtain ⟨i,hi,hI⟩:=i
 dsimp only
 by_cases hend:l.cells_.length<=i
 ·(repeat' first|apply wZ;rfl|show Cn _;constructor|simp only [zql];omega|(intro h;simp at h))
  refine aG (X:={x:Nat//x<=l.by_.length/\∀j<x,aiS l.by_ j=true}) (λy=>(((((St.nil 102 st).var 3 48 (l.cells)).pv 61 (.seq (l.by_.map Dt.cells))).pv 62 ((vi (((l.by_.map Dt.cells).length:Nat))))).pv 63 ((vi ((y.1:Nat)))))) (λy=>l.by_.length-y.1) ⟨0,by omega,by omega⟩ ?_ (λy=> ?_)
  ·(repeat' first|show Cn _;constructor|exact rfl)
  obtain ⟨y,hy,hyI⟩:=y
  dsimp only
  by_cases hend2:l.by_.length<=y
  have e:=atS tx hy1 (λk hk=>hI k (by omega)) λk hk=>hyI k (by omega)
  rotate_left
  have h1:y<l.by_.length:=by omega
  have e:=Iff.refl (aiS l.by_ y=true)
  by_cases h0:y=0
  subst h0
  conv at e=>rhs;simp only [aiS,jY,getElem!_pos l.by_ 0 h1,zba,zde,decide_true,Bool.true_or,and_true]
  have hF:=amD (awM tx (t:=t) h1) e
  have hS:=aaH hyI e
  rotate_left
  obtain ⟨k,rfl⟩:∃k,y=k+1:=⟨y-1,by omega⟩
  have hd:=asZ l.by_[k] l.by_[k+1]
  have hb:=akM l.by_[k] l.by_[k+1]
  conv at e=>rhs;simp only [aiS,jY,getElem!_pos l.by_ (k+1) h1,show k+1-1=k from rfl,getElem!_pos l.by_ k (by omega),zba,zde,Bool.or_eq_true,h0,false_or]
  have hF:=amD (awM tx (t:=t) h1) e
  have hS:=aaH hyI e
  rotate_left
  all_goals ((repeat' first|apply iX;(intro hw;exact (show _=((0:Nat):Int) from by exact (qW hw).elim));(apply gE;omega);rfl|apply iX;(intro hw;exact (show ((((k+1:Nat):Int))-1=((k:Nat):Int)) from by omega));(apply gE;omega);rfl|(apply cW;focus (intro _;(apply (show PF Tryz.prog 114 [_,_] (vi (0)) from by rename_i hh;exact (qW hh).elim));done))|((first|refine ⟨⟨1,by omega,hS (by grind)⟩, ?_,by simp only;omega⟩|refine ⟨⟨k+2,by omega,hS (by grind)⟩, ?_,by simp only;omega⟩);focus ((repeat' first|show Cn _;constructor|exact rfl);done))|apply wZ;rfl|show Cn _;constructor|exact rfl|apply KR.mk;kernel_rfl|(apply hd)|show (_:PV)=_;(first|(rw [e]);done|((rw [hF (by grind)];done));done);done|apply wY;rfl|apply wI;rfl|apply gE;omega|omega|simp only [zql];omega|(intro h;simp at h)))
 have h1:i<l.cells_.length:=by omega
 have hc:=anC tx l.cells_[i] (hp _ (zgm h1))
 have e:=Iff.refl (xH tx t l i=true)
 conv at e=>rhs;simp only [xH,getElem!_pos l.cells_ i h1,getElem!_pos t.cols i (show i<t.cols.length by omega),zba,zde]
 have hF:=amD (azX tx (t:=t) h1) e
 have hS:=aaH hI e
 (repeat' first|(refine ⟨⟨i+1,by omega,hS (by grind)⟩, ?_, ?_⟩)|apply wZ;rfl|show Cn _;constructor|exact rfl|apply KR.mk;kernel_rfl|(apply hc)|show (_:PV)=_;(rw [hF (by grind)]);done|apply wY;rfl|apply wI;rfl|apply gE;omega|omega|simp only [zql];omega|(intro h;simp at h))
end
section
attribute [local irreducible] Ev PWp
set_option maxRecDepth 10000
set_option maxHeartbeats 4000000
theorem xS :∀{l:List Int},orI l=0->∀x∈l,x=0
 |[],_,_,h=>by cases h
 |a::l,h,x,hx=>by
  rw [orI] at h
  split at h
  ·rename_i e
   rcases zmc.1 hx with rfl|q
   ·exact e
   ·exact xS h x q
  ·rename_i e;exact absurd h e
theorem ahE {f:Nat->Int} {n:Nat} (h:dB f n=0) {k:Nat} (hk:k<n):f k=0:=
 xS h _ (List.mem_map.2 ⟨k,List.mem_range.2 hk,rfl⟩)
theorem wU {s:Sc} (h:gP s=0) {k:Nat} (hk:k<s.length):∀x∈lks s k,x=0:=by
 unfold gP at h
 split at h
 ·cases h
 ·exact xS (ahE h hk)
theorem agM {s:Sc} (h:gP s=0) {k:Nat} (hk:k<s.length):0<s[k].cols.length:=by
 have:=wU h hk (lk1 s[k]!) (by simp [lks])
 rw [getElem!_pos s k hk] at this
 unfold lk1 at this
 split at this
 ·cases this
 ·omega
variable (tx:Cl->Int)
def aDa (l:Ln):Prop:=(l.cells_.length<1000000000000/\l.by_.length<1000000000000)/\∀c∈l.cells_,ayX tx c
def aCb (d:Da):Prop:=d.lines.length<1000000000000/\∀l∈d.lines,aDa tx l
def lnR (t:Tb) (L:List Ln) (i:Nat):Bool:=jU tx t L[i]! &&(decide (i=0)||decide (L[i-1]!.key<L[i]!.key))
def acP (t:Tb) (L:List Ln):Bool:=decide (L.length<=2000)&&yC (lnR tx t L) L.length
def zO (s:Sc) (b:Bs) (k:Nat):Bool:=acP tx s[k]! b[k]!.lines
def dE (s:Sc) (b:Bs):Bool:=decide (gP s=0/\b.length=s.length)&&yC (zO tx s b) b.length
theorem aAe {s:Sc} {b:Bs} (h:¬(gP s=0/\b.length=s.length)):dE tx s b=false:=by unfold dE;rw [decide_eq_false h];rfl
theorem azK {s:Sc} {b:Bs} {k:Nat} (h:k<b.length) (hf:zO tx s b k=false):dE tx s b=false:=by unfold dE;rw [abL h hf];simp
theorem asH {s:Sc} {b:Bs} (h:gP s=0/\b.length=s.length) (hf:∀k<b.length,zO tx s b k=true):dE tx s b=true:=by unfold dE;rw [wG hf,decide_eq_true h];rfl
theorem xB (s:Sc) (b:Bs) (hl:s.length<1000000000000) (hB:∀t∈s,TbB t) (hb:b.length<1000000000000) (hd:∀d∈b,aCb tx d):PF Tryz.prog 44 [.agg (scC s), .agg (bsC b)] (vb (dE tx s b)):=by
 have hs:=acV s (by omega) hB
 by_cases h0:¬(gP s=0/\b.length=s.length)
 ·rw [aAe tx h0]
  generalize gP s=R at*
  refine pF Tryz.func44 rfl (λst=> ?_)
  (repeat' first|apply wZ;rfl|show Cn _;constructor|exact rfl|(apply hs)|apply wY;rfl|intro h;simp at h;omega|(intro h;simp at h))
 replace h0:=zdn h0
 obtain ⟨h1,h2⟩:=h0
 rw [h1] at hs
 refine pF Tryz.func44 rfl (λst=> ?_)
 (repeat' first|apply wZ;rfl|show Cn _;constructor|(apply hs)|apply wY;rfl|simp only [zql];omega|(intro h;simp at h))
 refine aG (X:={x:Nat//x<=b.length/\∀j<x,zO tx s b j=true}) (λi=>(((((St.nil 67 st).var 2 24 ((scC s))).pv 22 (.seq (b.map Da.cells))).pv 23 ((vi (((b.map Da.cells).length:Nat))))).pv 24 ((vi ((i.1:Nat)))))) (λi=>b.length-i.1) ⟨0,by omega,by omega⟩ ?_ (λi=> ?_)
 ·(repeat' first|show Cn _;constructor|exact rfl)
 obtain ⟨i,hi,hI⟩:=i
 dsimp only
 by_cases hend:b.length<=i
 have e:=asH tx ⟨h1,h2⟩ λk hk=>hI k (by omega)
 rotate_left
 have hib:i<b.length:=by omega
 have his:i<s.length:=by omega
 have hcl:=agM h1 his
 obtain ⟨d1,d2⟩:=hd _ (zgm hib)
 have e:=Iff.refl (zO tx s b i=true)
 conv at e=>rhs;simp only [zO,acP,getElem!_pos s i his,getElem!_pos b i hib,zba,zde,qJ]
 have hF:=amD (azK tx (s:=s) hib) e
 have hS:=aaH hI e
 by_cases h2k:¬b[i].lines.length<=2000
 have hF0:=hF λq=>h2k q.1
 rotate_left
 all_goals ((repeat' first|apply wZ;rfl|show Cn _;constructor|exact rfl|show (_:PV)=_;(first|(rw [e]);done|(rw [hF0]);done);done|apply wI;rfl|apply gE;omega|simp only [zql];omega|(intro h;simp at h)))
 focus ((repeat' (fail)))
 refine aG (X:={x:Nat//x<=b[i].lines.length/\∀j<x,lnR tx s[i] b[i].lines j=true}) (λy=>((((((((((St.nil 67 st).var 2 24 ((scC s))).pv 5 ((vi ((i:Nat))))).var 6 52 (b[i].cells)).pv 22 (.seq (b.map Da.cells))).pv 23 ((vi (((b.map Da.cells).length:Nat))))).pv 24 ((vi ((i:Nat))))).pv 34 (.seq (b[i].lines.map Ln.cells))).pv 35 ((vi (((b[i].lines.map Ln.cells).length:Nat))))).pv 36 ((vi ((y.1:Nat)))))) (λy=>b[i].lines.length-y.1) ⟨0,by omega,by omega⟩ ?_ (λy=> ?_)
 ·(repeat' first|show Cn _;constructor|exact rfl)
 obtain ⟨y,hy,hyI⟩:=y
 dsimp only
 by_cases hend2:b[i].lines.length<=y
 rotate_left
 have hyl:y<b[i].lines.length:=by omega
 obtain ⟨l1,l2⟩:=d2 _ (zgm hyl)
 have hls:=aoE tx s[i] b[i].lines[y] hcl l1 l2
 have e:=Iff.refl (lnR tx s[i] b[i].lines y=true)
 have hF2:=λh:¬lnR tx s[i] b[i].lines y=true=>hF λq=>h (q.2 y hyl)
 by_cases h0:y=0
 subst h0
 conv at e=>rhs;simp only [lnR,getElem!_pos b[i].lines 0 hyl,decide_true,Bool.true_or,Bool.and_true]
 have hS2:=aaH hyI e
 rw [e] at hF2
 rotate_left
 obtain ⟨k,rfl⟩:∃k,y=k+1:=⟨y-1,by omega⟩
 conv at e=>rhs;simp only [lnR,getElem!_pos b[i].lines (k+1) hyl,show k+1-1=k from rfl,getElem!_pos b[i].lines k (by omega),zba,zde,Bool.or_eq_true,h0,false_or]
 have hS2:=aaH hyI e
 rw [e] at hF2
 rotate_left
 all_goals ((repeat' first|apply iX;(intro hw;exact (show _=((0:Nat):Int) from by exact (qW hw).elim));(apply gE;omega);rfl|apply iX;(intro hw;exact (show ((((k+1:Nat):Int))-1=((k:Nat):Int)) from by omega));(apply gE;omega);rfl|((first|refine ⟨⟨i+1,by omega,hS ⟨by omega,λk hk=>hyI k (by omega)⟩⟩, ?_,by simp only;omega⟩|refine ⟨⟨1,by omega,hS2 (by grind)⟩, ?_,by simp only;omega⟩|refine ⟨⟨k+2,by omega,hS2 (by grind)⟩, ?_,by simp only;omega⟩);focus ((repeat' first|show Cn _;constructor|exact rfl);done))|apply wZ;rfl|show Cn _;constructor|exact rfl|apply KR.mk;kernel_rfl|(apply hls)|show (_:PV)=_;(rw [hF2 (by grind)]);done|apply wY;rfl|apply wI;rfl|apply gE;omega|omega|simp only [zql];omega|(intro h;simp at h)))
end
section
attribute [local irreducible] Ev PWp
set_option maxRecDepth 10000
set_option maxHeartbeats 4000000
section
variable {P:Program} {tt:TT} {l:List Oper} {d:Md} {r:List Oper} {s:St} {K:St->Prop} {t:Nat} {ty:TypeId} {pos:String} {after:Array Edge}
end
theorem eH {α:Type} {f:α->List PV} {id sz n:Nat} {l:List α} (hn:l.length=n):Fz id sz (l.map f) (.vec id sz 0 n) (.seq (l.map f)):=by
 have e:(l.map f).length=n:=(zql _).trans hn
 rw [<-e];exact .all
theorem aC3 {f:FuncId} {args:List PV} {st:aD} {R R':PV->aD->Prop} (h:PC Tryz.prog f args st R) (hr:∀p st',R p st'->∃q,Wk p q/\R' q st'):PC Tryz.prog f args st R':=
 ⟨h.1,λw g vs hm hv=>(h.2 w g vs hm hv).mono λe w' ⟨v,r,st',g',h1,h2,h3,h4⟩=>by
  obtain ⟨q,k1,k2⟩:=hr _ _ h2
  exact ⟨v,q,st',g',h1,k2,k1 _ _ h3,h4⟩⟩
theorem RepA.wk {g:G} {b:Nat} {ps qs:List PV} (h:WkL ps qs):∀{off:Nat},RepA g b off ps->RepA g b off qs:=by
 induction h with
 |nil=>exact λh=>h
 |cons h _ ih=>
  intro off e
  simp only [RepA] at e⊢
  obtain ⟨⟨v,e1,e2,e3⟩,e4⟩:=e
  exact ⟨⟨v,e1,e2,h _ _ e3⟩,ih e4⟩
theorem azB {ps qs:List PV} (h:WkL ps qs):ps.length=qs.length:=by
 induction h with
 |nil=>rfl
 |cons _ _ ih=>simp [ih]
theorem RepR.wk {α:Type} {f k:α->List PV} {g:G} {b sz:Nat}:∀{l:List α} (_:∀x∈l,WkL (f x) (k x)) {off:Nat},RepR g b off sz (l.map f)->RepR g b off sz (l.map k)
 |[],_,_,e=>e
 |x::l,h,off,e=>by
  simp only [zmp,RepR] at e⊢
  exact ⟨azB (h x (by simp))▸e.1,RepA.wk (h x (by simp)) e.2.1,RepR.wk (λy hy=>h y (by simp [hy])) e.2.2⟩
theorem Wk.rows {α:Type} {f k:α->List PV} {l:List α} (h:∀x∈l,WkL (f x) (k x)):Wk (.seq (l.map f)) (.seq (l.map k)):=λg v e=>by
 unfold Rep at e⊢
 obtain ⟨a,cap,h1,h2,h3,h4⟩:=e
 rw [zql] at h1 h2 h3
 refine ⟨a,cap,by rw [zql];exact h1,by rw [zql];exact h2,by rw [zql];exact h3, ?_⟩
 rcases h4 with h4|⟨b,off,sz,q1,q2⟩
 ·exact .inl (by rw [List.map_eq_nil_iff] at h4⊢;exact h4)
 ·exact .inr ⟨b,off,sz,q1,RepR.wk h q2⟩
def aCj (s:Sc):Bs:=List.replicate s.length ⟨[]⟩
variable (sh:Cl->Vl)
def aiE (c:Cl):Prop:=PF Tryz.prog 65 [.agg c.cells] (.agg (sh c).cells)
theorem aAX (l:Ln) (hl:l.cells_.length<1000000000000) (hs:∀c∈l.cells_,aiE sh c) (st:aD):PC Tryz.prog 39 [.agg l.cells] st λr S=>∃id,r= .vec id 3 0 l.cells_.length/\st id=none/\S=upd st id (some (.arr 54 ((l.cells_.map sh).map Vl.cells))):=by
 refine pC Tryz.func39 rfl ?_
 (repeat' first|apply wZ;rfl|show Cn _;constructor)
 refine dU 3 54 3 rfl rfl rfl (λid hid=> ?_)
 refine aG (X:={x:Nat×Nat//x.1<=l.cells_.length/\st x.2=none}) (λi=>(((((St.nil 20 (upd st i.1.2 (some (.arr 54 (((l.cells_.map sh).take i.1.1).map Vl.cells))))).pv 3 (.vec i.1.2 3 0 i.1.1)).pv 7 (.seq (l.cells_.map Cl.cells))).pv 8 ((vi (((l.cells_.map Cl.cells).length:Nat))))).pv 9 ((vi ((i.1.1:Nat)))))) (λi=>l.cells_.length-i.1.1) ⟨(0,id),by simp,hid⟩ ?_ (λi=> ?_)
 ·dsimp only
  (repeat' first|show Cn (.t _ _);exact Cn.t0|show Cn _;constructor|exact rfl)
 obtain ⟨⟨i,id⟩,hi,hid⟩:=i
 simp only at hi hid
 dsimp only
 by_cases hend:l.cells_.length<=i
 ·have e:(l.cells_.map sh).take i=l.cells_.map sh:=ztl (by simp;omega)
  obtain rfl:i=l.cells_.length:=by omega
  (repeat' first|show Cn (.r _ _ _);refine .rr ?_;(exact ⟨id,rfl,hid,by rw [e];rfl⟩);done|apply wZ;rfl|show Cn _;constructor|simp only [zql];omega|(intro h;simp at h))
 have h1:i<l.cells_.length:=by omega
 have hc:PF Tryz.prog 65 [.agg l.cells_[i].cells] (.agg (sh l.cells_[i]).cells):=hs _ (zgm h1)
 have e:(l.cells_.map sh).take (i+1)=(l.cells_.map sh).take i++[sh l.cells_[i]]:=by rw [List.take_succ_eq_append_getElem (by simpa using h1)];simp
 (repeat' first|refine ⟨⟨(i+1,id'),by simp only;omega,bA hid'⟩, ?_, ?_⟩;((dsimp only;try rw [e]))|show Cn (.t _ _);exact .any (aJ ‹_›)|apply wZ;rfl|show Cn _;constructor|exact rfl|(apply hc)|(apply apV pk (f:=Vl.cells) [sh l.cells_[i]] 32;(iterate 9 rfl);(exact aA _ _ _);((focus (simp;omega)));exact λ_=>rfl;exact λ_=>rfl;exact iA;((focus (simp;omega)));((focus (simp;omega)));rfl;intro id' hid')|apply wY;rfl|apply wI;rfl|apply gE;omega|omega|simp only [zql];omega|(intro h;simp at h))
theorem afU (l:Ln) (hl:l.cells_.length<1000000000000) (hs:∀c∈l.cells_,aiE sh c):PF Tryz.prog 39 [.agg l.cells] (.seq ((l.cells_.map sh).map Vl.cells)):=λst=>
 eZ (sz:=3) (aAX sh l hl hs st) λp st' h=>by
  obtain ⟨id,rfl,h3,rfl⟩:=h
  exact .inl ⟨id,54,(l.cells_.map sh).map Vl.cells,_,st,aA _ _ _,jH,eH (by simp),cY h3,rfl,rfl⟩
def roC (r:List Vl):List PV:=[.seq (r.map Vl.cells)]
theorem roC.elem :Elem tt 35 roC (λa=> .seq (a.map Vl.cells)) 1:=⟨rfl,λ_=>rfl,λ_=>rfl,λ_=>rfl,λ_=>rfl⟩
theorem aaL :Tryz.prog.bytesOf 35=24:=by kernel_rfl
theorem acZ :Tryz.prog.cellsOf 35=1:=by kernel_rfl
def aaP (l:Ln):List Vl:=l.cells_.map sh
theorem aqQ (b:Bs) (k:Nat) (hk:k<b.length) (hl:b[k].lines.length<1000000000000) (hs:∀l∈b[k].lines,l.cells_.length<1000000000000/\∀c∈l.cells_,aiE sh c) (st:aD):PC Tryz.prog 17 [.agg (bsC b),(vi ((k:Nat)))] st λr S=>∃id,r= .vec id 1 0 b[k].lines.length/\st id=none/\S=upd st id (some (.arr 35 ((b[k].lines.map (aaP sh)).map roC))):=by
 have ho:=afC b k hk
 generalize b[k].lines=L at*
 refine pC Tryz.func17 rfl ?_
 (repeat' first|apply wZ;rfl|show Cn _;constructor|(apply ho)|apply wY;rfl)
 refine dU 7 35 1 rfl rfl rfl (λid hid=> ?_)
 refine aG (X:={x:Nat×Nat//x.1<=L.length/\st x.2=none}) (λi=>(((((St.nil 30 (upd st i.1.2 (some (.arr 35 (((L.map (aaP sh)).take i.1.1).map roC))))).pv 7 (.vec i.1.2 1 0 i.1.1)).pv 17 (.seq (L.map Ln.cells))).pv 18 ((vi (((L.map Ln.cells).length:Nat))))).pv 19 ((vi ((i.1.1:Nat)))))) (λi=>L.length-i.1.1) ⟨(0,id),by simp,hid⟩ ?_ (λi=> ?_)
 ·dsimp only
  (repeat' first|show Cn (.t _ _);exact Cn.t0|show Cn _;constructor|exact rfl)
 obtain ⟨⟨i,id⟩,hi,hid⟩:=i
 simp only at hi hid
 dsimp only
 by_cases hend:L.length<=i
 ·have e:(L.map (aaP sh)).take i=L.map (aaP sh):=ztl (by simp;omega)
  obtain rfl:i=L.length:=by omega
  (repeat' first|show Cn (.r _ _ _);refine .rr ?_;(exact ⟨id,rfl,hid,by rw [e];rfl⟩);done|apply wZ;rfl|show Cn _;constructor|simp only [zql];omega|(intro h;simp at h))
 have h1:i<L.length:=by omega
 have hc:=afU sh L[i] (hs _ (zgm h1)).1 (hs _ (zgm h1)).2
 have e:(L.map (aaP sh)).take (i+1)=(L.map (aaP sh)).take i++[L[i].cells_.map sh]:=by rw [List.take_succ_eq_append_getElem (by simpa using h1)];simp [aaP]
 (repeat' first|refine ⟨⟨(i+1,id'),by simp only;omega,bA hid'⟩, ?_, ?_⟩;((dsimp only;try rw [e]))|show Cn (.t _ _);exact .any (aJ ‹_›)|apply wZ;rfl|show Cn _;constructor|exact rfl|(apply hc)|(apply apV pk (f:=roC) [L[i].cells_.map sh] 24;(iterate 9 rfl);(exact aA _ _ _);((focus (simp;omega)));exact λ_=>rfl;exact λ_=>rfl;exact aaL;((focus (simp;omega)));((focus (simp;omega)));rfl;intro id' hid')|apply wY;rfl|apply wI;rfl|apply gE;omega|omega|simp only [zql];omega|(intro h;simp at h))
theorem ahY (b:Bs) (k:Nat) (hk:k<b.length) (hl:b[k].lines.length<1000000000000) (hs:∀l∈b[k].lines,l.cells_.length<1000000000000/\∀c∈l.cells_,aiE sh c):PF Tryz.prog 17 [.agg (bsC b),(vi ((k:Nat)))] (.seq ((b[k].lines.map (aaP sh)).map roC)):=λst=>
 eZ (sz:=1) (aqQ sh b k hk hl hs st) λp st' h=>by
  obtain ⟨id,rfl,h3,rfl⟩:=h
  exact .inl ⟨id,35,(b[k].lines.map (aaP sh)).map roC,_,st,aA _ _ _,acZ,eH (by simp),cY h3,rfl,rfl⟩
end
section
attribute [local irreducible] Ev PWp
set_option maxRecDepth 10000
set_option maxHeartbeats 4000000
theorem alJ {α:Type} {l:List α} {i:Nat} {x:α} (h:i<l.length) (e:l[i]=x):l.take (i+1)=l.take i++[x]:=by rw [List.take_succ_eq_append_getElem h,e]
def kX (b:Bs) (k:Int) (ls:List Ln):Bs:=if okT b k then b.set k.toNat ⟨ls⟩ else b
theorem aeM (b:Bs) (k:Int) (ls:List Ln):(kX b k ls).length=b.length:=by unfold kX;split<;>simp
end
section
set_option maxRecDepth 10000
set_option maxHeartbeats 4000000
theorem adI (L:List Ln) (k:Int):(∃j:Nat,∃h:j<L.length,atP L k=((j:Int),true)/\jD L k=some L[j]/\L[j].key=k/\∀q (hq:q<j),L[q].key≠k)\/
  (∃j:Nat,j<=L.length/\atP L k=((j:Int),false)/\jD L k=none/\(∀x∈L,x.key≠k)/\(∀q (hq:q<j) (h:q<L.length),¬L[q].key>k)/\∀h:j<L.length,L[j].key>k):=by
 unfold atP jD
 cases h:L.findIdx? λx:Ln=>decide (x.key=k) with
 |some j=>
  left
  obtain ⟨hj,hf,hn⟩:=List.findIdx?_eq_some_iff_getElem.1 h
  refine ⟨j,hj, ?_,alP hj hf λq hq h2=>by simpa using hn q hq,by simpa using hf,λq hq=>by simpa using hn q hq⟩
  have e:bT (λx:Ln=>decide (x.key=k)) L=j:=by unfold bT;rw [h]
  rw [e,zp (by omega)]
 |none=>
  right
  have e:bT (λx:Ln=>decide (x.key=k)) L= -1:=by unfold bT;rw [h]
  have hne:∀x∈L,x.key≠k:=λx hx=>by simpa using List.findIdx?_eq_none_iff.1 h x hx
  have hg:L.find? (λx:Ln=>decide (x.key=k))=none:=List.find?_eq_none.2 λx hx=>by rw [List.findIdx?_eq_none_iff.1 h x hx];simp
  rw [e,zn (by omega)]
  cases h2:L.findIdx? λx:Ln=>decide (x.key>k) with
  |some j=>
   obtain ⟨hj,hf,hn⟩:=List.findIdx?_eq_some_iff_getElem.1 h2
   have e2:bT (λx:Ln=>decide (x.key>k)) L=j:=by unfold bT;rw [h2]
   rw [e2,zp (by omega)]
   exact ⟨j,by omega,rfl,hg,hne,λq hq hl=>by simpa using hn q hq,λ_=>by simpa using hf⟩
  |none=>
   have e2:bT (λx:Ln=>decide (x.key>k)) L= -1:=by unfold bT;rw [h2]
   rw [e2,zn (by omega)]
   exact ⟨L.length,Nat.le_refl _,rfl,hg,hne,λq hq hl=>by simpa using List.findIdx?_eq_none_iff.1 h2 L[q] (zgm hl),λh=>absurd h (Nat.lt_irrefl _)⟩
theorem auB (b:Bs) (k:Int) (a:Ln):aAL b k a=kX b k (adP (aU b k) a):=by
 unfold aAL kX;rfl
theorem aoH (b:Bs) (k key:Int):asN b k key=kX b k (if (atP (aU b k) key).2 then (aU b k).eraseIdx (atP (aU b k) key).1.toNat else aU b k):=by
 unfold asN kX
 split
 ·rename_i h
  split
  ·rfl
  ·have h2:=h
   simp only [okT,zba,zde] at h2
   unfold aU
   rw [zp h]
   obtain ⟨q,rfl⟩:∃q:Nat,k=q:=⟨k.toNat,by omega⟩
   have hq:q<b.length:=by omega
   rw [Int.toNat_natCast,getElem!_pos b q hq]
   exact (List.set_getElem_self hq).symm
 ·rfl
theorem ajC {L:List Ln} {j:Nat} {a:Ln} (h:j<=L.length):(nN L j [a]).length=L.length+1:=by rw [aeB h];rfl
end
section
attribute [local irreducible] Ev PWp
set_option maxRecDepth 10000
set_option maxHeartbeats 4000000
theorem oY {st:aD} {id id2:Nat} {o b c:Option AObj} (hid:st id=none) (hb:b=c):StSub (upd st id2 b) (upd (upd (upd st id o) id none) id2 c):=hb▸anI hid
end
section
attribute [local irreducible] Ev PWp
set_option maxRecDepth 10000
set_option maxHeartbeats 4000000
section
variable {P:Program} {tt:TT} {l:List Oper} {d:Md} {r:List Oper} {s:St} {K:St->Prop} {t:Nat} {ty:TypeId} {pos:String} {after:Array Edge}
theorem aDi {T T2:TypeId} {x y:Operand} {a b:Int} (hx:opd s x=some (.val (.int .i64 a))) (hy:opd s y=some (.val (.int .i64 b))) (hf:bK s [x,y]=true) (hd:Nat.blt t s.n=true) (ht:cI d l r=true) (k:∀c,Ev P l d r (s.put (some t) true (.pv (.val (.int .i64 c)))) K):Ev P l d (⟨some t, .binOp .add T x y T2,ty,pos,after,none⟩::r) s K:=
 iE (c:=IntKind.i64.wrap (a+b)) rfl hx hy (λ_=> .inl ⟨rfl,rfl⟩) (by simp only [bK,zba] at hf;exact ⟨λ_=>hf.1,λ_=>hf.2.1,trivial⟩) hd ht (k _)
end
def tot (b:Bs):Nat:=(b.map λd=>d.lines.length).sum
theorem asK {b:Bs} {i:Nat} (h:i<b.length):tot (b.take (i+1))=tot (b.take i)+b[i].lines.length:=by
 unfold tot
 rw [List.take_succ_eq_append_getElem h,List.map_append,List.sum_append];simp
theorem aBb (b:Bs) (i:Nat):tot (b.take i)<=tot b:=by
 have:tot b=tot (b.take i)+tot (b.drop i):=by
  unfold tot;rw [<-List.sum_append,<-List.map_append,List.take_append_drop]
 omega
def xN (b:Bs):Bool:=decide (b.length<=20)&&(decide (tot b<=100)&&b.all λd=>d.lines.all eS)
theorem aBE {b:Bs} {i y:Nat} (hi:i<b.length) (hy:y<b[i].lines.length) (h:eS b[i].lines[y]=false):xN b=false:=by
 unfold xN
 have:(b.all λd=>d.lines.all eS)=false:=by
  rw [<-Bool.not_eq_true,zal]
  intro q
  have:=zal.1 (q _ (zgm hi)) _ (zgm hy)
  rw [h] at this;cases this
 rw [this];simp
theorem arO (b:Bs) (hb:b.length<200000000000000) (hd:∀d∈b,d.lines.length<200000000000000/\∀l∈d.lines,l.cells_.length<4611686018427387904):PF Tryz.prog 41 [.agg (bsC b)] (vb (xN b)):=by
 by_cases h20:¬b.length<=20
 ·have hF:xN b=false:=by unfold xN;rw [decide_eq_false h20];rfl
  rw [hF]
  refine pF Tryz.func41 rfl (λst=> ?_)
  focus ((repeat' first|apply wZ;rfl|show Cn _;constructor))
  refine aG (X:={x:Nat×Int//x.1<=b.length}) (λi=>((((St.nil 56 st).var 1 27 ((bsC b))).pv 3 ((vi (i.1.2)))).pv 4 ((vi ((i.1.1:Nat)))))) (λi=>b.length-i.1.1) ⟨(0,0),by simp⟩ ?_ (λi=> ?_)
  ·(repeat' first|show Cn _;constructor|exact rfl)
  obtain ⟨⟨i,n⟩,hi⟩:=i
  simp only at hi
  dsimp only
  by_cases hend:b.length<=i
  rotate_left
  have hil:i<b.length:=by omega
  have hdl:=(hd _ (zgm hil)).1
  focus ((repeat' first|((iterate 3 (apply pH aT;(iterate 4 rfl)));apply aDi;(iterate 5 rfl);intro n')|apply wZ;rfl|show Cn _;constructor|exact rfl|apply wI;rfl|apply gE;omega|simp only [zql];omega|(intro h;simp at h)))
  refine aG (X:={x:Nat//x<=b[i].lines.length}) (λy=>(((((St.nil 56 st).var 1 27 ((bsC b))).pv 3 ((vi (n')))).pv 4 ((vi ((i:Nat))))).pv 5 ((vi ((y.1:Nat)))))) (λy=>b[i].lines.length-y.1) ⟨0,by omega⟩ ?_ (λy=> ?_)
  ·(repeat' first|show Cn _;constructor|exact rfl)
  obtain ⟨y,hy⟩:=y
  dsimp only
  by_cases hend2:b[i].lines.length<=y
  rotate_left
  have hyl:y<b[i].lines.length:=by omega
  have hs:=xO b[i].lines[y] ((hd _ (zgm hil)).2 _ (zgm hyl))
  rotate_left
  all_goals ((repeat' first|((first|refine ⟨⟨(i+1,n'),by simp only;omega⟩, ?_,by simp only;omega⟩|refine ⟨⟨y+1,by omega⟩, ?_,by simp only;omega⟩);focus ((repeat' first|show Cn _;constructor|exact rfl);done))|apply wZ;rfl|show Cn _;constructor|exact rfl|(apply hs)|show (_:PV)=_;(rw [zql,decide_eq_false (by omega)];rfl);done|apply wY;rfl|apply wI;rfl|apply gE;omega|omega|simp only [zql];omega|intro h;simp at h;omega|(intro h;simp at h)|intro h))
 replace h20:=zdn h20
 refine pF Tryz.func41 rfl (λst=> ?_)
 focus ((repeat' first|apply wZ;rfl|show Cn _;constructor))
 refine aG (X:={x:Nat×Nat//x.1<=b.length/\x.2=tot (b.take x.1)/\x.2<=x.1*200000000000000/\(x.2<=100->∀j (h:j<b.length),j<x.1->∀l∈b[j].lines,eS l=true)}) (λi=>((((St.nil 56 st).var 1 27 ((bsC b))).pv 3 ((vi ((i.1.2:Nat))))).pv 4 ((vi ((i.1.1:Nat)))))) (λi=>b.length-i.1.1) ⟨(0,0),by simp,rfl,by simp,by simp⟩ ?_ (λi=> ?_)
 ·(repeat' first|show Cn _;constructor|exact rfl)
 obtain ⟨⟨i,n⟩,hi,hn,hb2,hS⟩:=i
 simp only at hi hn hb2 hS
 dsimp only
 by_cases hend:b.length<=i
 have e:decide ((n:Int)<=100)=(decide (tot b<=100)&&b.all λd=>d.lines.all eS):=by
  rw [ztl hend] at hn
  subst hn
  by_cases q:tot b<=100
  ·rw [decide_eq_true (by omega),decide_eq_true q,Bool.true_and,eq_comm,zal]
   intro d hd'
   obtain ⟨j,hj,rfl⟩:=zgo hd'
   rw [zal]
   exact hS q j hj (by omega)
  ·rw [decide_eq_false (by omega),decide_eq_false q];rfl
 have e2:decide ((b.length:Int)<=20)=decide (b.length<=20):=by rw [decide_eq_decide];omega
 rotate_left
 have hil:i<b.length:=by omega
 obtain ⟨d1,d2⟩:=hd _ (zgm hil)
 have ht:=asK hil
 have hF:=λy h=>aBE (y:=y) hil h
 focus ((repeat' first|apply wZ;rfl|show Cn _;constructor|exact rfl|apply wI;rfl|apply gE;omega|simp only [zql];omega|(intro h;simp at h)))
 refine aG (X:={x:Nat//x<=b[i].lines.length/\(n+b[i].lines.length<=100->∀j (h:j<b[i].lines.length),j<x->eS b[i].lines[j]=true)}) (λy=>(((((St.nil 56 st).var 1 27 ((bsC b))).pv 3 ((vi (((n+b[i].lines.length:Nat):Int))))).pv 4 ((vi ((i:Nat))))).pv 5 ((vi ((y.1:Nat)))))) (λy=>b[i].lines.length-y.1) ⟨0,by omega,by omega⟩ ?_ (λy=> ?_)
 ·(repeat' first|show Cn _;constructor|exact rfl|congr 2;rw [zql];omega)
 obtain ⟨y,hy,hyS⟩:=y
 dsimp only
 have hnx:¬(y<b[i].lines.length/\n+b[i].lines.length<=100)->(n+b[i].lines.length<=100->∀j (h:j<b.length),j<i+1->∀l∈b[j].lines,eS l=true):=λh q j hj hji l hl=>by
  rcases zls.1 hji with r|r
  ·exact hS (by omega) j hj r l hl
  ·subst r
   obtain ⟨z,hz,rfl⟩:=zgo hl
   exact hyS q z hz (by omega)
 have hn2:n+b[i].lines.length=tot (b.take (i+1)):=by omega
 by_cases hend2:b[i].lines.length<=y
 rotate_left
 have hyl:y<b[i].lines.length:=by omega
 have hs:=xO b[i].lines[y] (d2 _ (zgm hyl))
 have hF2:=hF y hyl
 have hSt:eS b[i].lines[y]=true->(n+b[i].lines.length<=100->∀j (h:j<b[i].lines.length),j<y+1->eS b[i].lines[j]=true):=λh q j hj hjy=>by
  rcases zls.1 hjy with r|r
  ·exact hyS q j hj r
  ·subst r;exact h
 generalize hG:eS b[i].lines[y]=G at*
 cases G
 rotate_left
 rotate_left
 all_goals ((repeat' first|((first|refine ⟨⟨(i+1,n+b[i].lines.length),by simp only;omega,hn2,by simp only;omega,hnx (by omega)⟩, ?_,by simp only;omega⟩|refine ⟨⟨y+1,by omega,hSt rfl⟩, ?_,by simp only;omega⟩);focus ((repeat' first|show Cn _;constructor|exact rfl);done))|apply wZ;rfl|show Cn _;constructor|exact rfl|(apply hs)|show (_:PV)=_;(first|(rw [zql];unfold xN;rw [<-e,<-e2]);done|(rw [hF2 rfl]);done);done|apply wY;rfl|apply wI;rfl|apply gE;omega|omega|simp only [zql];omega|intro h;simp at h;omega|(intro h;simp at h)))
end
section
attribute [local irreducible] Ev PWp
set_option maxRecDepth 10000
set_option maxHeartbeats 4000000
def LnS (l:Ln):Prop:=l.by_.length<=1000/\l.cells_.length<=1000/\∀c∈l.cells_,c.parts.length<=1000
def BsS (n:Nat) (b:Bs):Prop:=b.length<=20/\∀d∈b,d.lines.length<=n/\∀l∈d.lines,LnS l
theorem azZ {l:Ln} (h:eS l=true):LnS l:=by
 unfold eS at h
 simp only [zba,zde,zal,kP] at h
 exact ⟨by omega,by omega,λc hc=>by have:=(h.1 c hc).1;omega⟩
theorem aAp {b:Bs} (h:xN b=true):BsS 100 b:=by
 unfold xN at h
 simp only [zba,zde,zal] at h
 obtain ⟨h1,h2,h3⟩:=h
 refine ⟨h1,λd hd=>⟨?_,λl hl=>azZ (h3 d hd l hl)⟩⟩
 obtain ⟨j,hj,rfl⟩:=zgo hd
 have e1:=asK hj
 have e2:=aBb b (j+1)
 omega
theorem BsS.up {n m:Nat} {b:Bs} (h:BsS n b) (hm:n<=m):BsS m b:=⟨h.1,λd hd=>⟨Nat.le_trans (h.2 d hd).1 hm,(h.2 d hd).2⟩⟩
theorem BsS.lines {n:Nat} {b:Bs} (h:BsS n b) (k:Int):(aU b k).length<=n/\∀l∈aU b k,LnS l:=by
 unfold aU
 split
 ·rename_i q
  simp only [okT,zba,zde] at q
  have hk:k.toNat<b.length:=by omega
  rw [getElem!_pos b k.toNat hk]
  exact h.2 _ (zgm hk)
 ·exact ⟨Nat.zero_le _,λl hl=>by cases hl⟩
theorem BsS.set {n:Nat} {b:Bs} (h:BsS n b) (k:Int) {ls:List Ln} (h1:ls.length<=n) (h2:∀l∈ls,LnS l):BsS n (kX b k ls):=by
 refine ⟨by rw [aeM];exact h.1,λd hd=> ?_⟩
 unfold kX at hd
 split at hd
 ·rcases List.mem_or_eq_of_mem_set hd with q|q
  ·exact h.2 d q
  ·subst q;exact ⟨h1,h2⟩
 ·exact h.2 d hd
theorem avK {L:List Ln} {a x:Ln} (h:x∈adP L a):x=a\/x∈L:=by
 unfold adP nN at h
 split at h
 ·exact (List.mem_or_eq_of_mem_set h).symm
 ·simp only [zma,zms] at h
  rcases h with (h|h)|h
  ·exact .inr (List.mem_of_mem_take h)
  ·exact .inl h
  ·exact .inr (List.mem_of_mem_drop h)
theorem aqV (L:List Ln) (a:Ln):(adP L a).length<=L.length+1:=by
 unfold adP
 split
 ·simp
 ·obtain ⟨j,hj,e,_⟩:=aqW L a.key
  rw [e,Int.toNat_natCast,ajC hj];exact Nat.le_refl _
theorem BsS.put {n:Nat} {b:Bs} (h:BsS n b) (k:Int) {a:Ln} (ha:LnS a):BsS (n+1) (aAL b k a):=by
 rw [auB]
 refine (h.up (Nat.le_succ n)).set k ?_ λl hl=> ?_
 ·have:=aqV (aU b k) a;have:=(h.lines k).1;omega
 ·rcases avK hl with rfl|q
  ·exact ha
  ·exact (h.lines k).2 l q
theorem BsS.drop {n:Nat} {b:Bs} (h:BsS n b) (k key:Int):BsS n (asN b k key):=by
 rw [aoH]
 refine h.set k ?_ λl hl=> ?_
 ·split
  ·exact Nat.le_trans (List.length_eraseIdx_le ..) (h.lines k).1
  ·exact (h.lines k).1
 ·split at hl
  ·exact (h.lines k).2 l (List.mem_of_mem_eraseIdx hl)
  ·exact (h.lines k).2 l hl
theorem BsS.p {n:Nat} {b:Bs} (h:BsS n b) (hn:n<=1000):∀d∈b,d.lines.length<1000000000000/\∀x∈d.lines,x.by_.length<1000000000000/\x.cells_.length<1000000000000/\∀c∈x.cells_,c.parts.length<1000000000000:=λd hd=>by
 obtain ⟨h1,h2⟩:=h.2 d hd
 refine ⟨by omega,λx hx=> ?_⟩
 obtain ⟨q1,q2,q3⟩:=h2 x hx
 exact ⟨by omega,by omega,λc hc=>by have:=q3 c hc;omega⟩
theorem BsS.l {n:Nat} {b:Bs} (h:BsS n b) (hn:n<=1000):b.length<100000000000/\∀d∈b,d.lines.length<100000000000:=⟨by have:=h.1;omega,λd hd=>by have:=(h.2 d hd).1;omega⟩
def BsB (b:Bs):Prop:=b.length<200000000000000/\∀d∈b,d.lines.length<200000000000000/\∀l∈d.lines,l.cells_.length<4611686018427387904
end
end Go.Proofs.YtppdefkgmegipaaGreatDoor
namespace Go.Proofs.YtppdefkgmegipaaGreatDoor
open Go Go.Abs Go.ChangeShapes Go.WideShapes Go.ChangeAt Go.RowKit
set_option maxRecDepth 10000
theorem own :ownKnob Tryz.prog.godebug=none:=by kernel_rfl
theorem laid :laidOutB Tryz.prog=true:=by kernel_rfl
theorem full (t e:TypeId) (h:t<Tryz.prog.types.size) (hu:Tryz.prog.underlying t=some (.slice e)):0<Tryz.prog.cellsOf e:=
 of_decide_eq_true (yX (λ_ e=>decide (0<Tryz.prog.cellsOf e)) (by kernel_rfl) t e h hu)
theorem aCP (t e:TypeId) (h:t<Tryz.prog.types.size) (hu:Tryz.prog.underlying t=some (.slice e)):1<=Tryz.prog.bytesOf e:=
 of_decide_eq_true (yX (λ_ e=>decide (1<=Tryz.prog.bytesOf e)) (by kernel_rfl) t e h hu)
theorem pZ {α:Type} {f:α->List PV} {Q:α->Prop} {rows:List (List PV)} (h:∀r∈rows,∃a,r=f a/\Q a):∃l:List α,rows=l.map f/\l.length=rows.length/\∀a∈l,Q a:=by
 obtain ⟨l,rfl,hl⟩:=auA h
 exact ⟨l,rfl,by simp,hl⟩
section
theorem alA {N n:Nat} {ps:List PV} (h:aW Tryz.prog N n 54 ps):∃v:Vl,ps=v.cells:=by
 obtain ⟨m,pss,_,rfl,h2⟩:=bQ aT rfl h
 cases h2 with|cons ha h2=>cases h2 with|cons hb h2=>cases h2 with|cons hc h2=>cases h2 with|nil=>
 obtain ⟨a,rfl,_⟩:=bI aT rfl ha
 obtain ⟨b,rfl,_⟩:=bI aT rfl hb
 obtain ⟨c,rfl,_⟩:=sN aT rfl hc
 exact ⟨⟨a,b,c⟩,rfl⟩
theorem akE {N n:Nat} {ps:List PV} (h:aW Tryz.prog N n 69 ps):∃v:Dt,ps=v.cells:=by
 obtain ⟨m,pss,_,rfl,h2⟩:=bQ aT rfl h
 cases h2 with|cons ha h2=>cases h2 with|cons hb h2=>cases h2 with|nil=>
 obtain ⟨a,rfl,_⟩:=bI aT rfl ha
 obtain ⟨b,rfl,_⟩:=bI aT rfl hb
 exact ⟨⟨a,b⟩,rfl⟩
theorem aCq {N n:Nat} {ps:List PV} (h:aW Tryz.prog N n 237 ps):∃v:Pt,ps=v.cells:=by
 obtain ⟨m,pss,_,rfl,h2⟩:=bQ aT rfl h
 cases h2 with|cons ha h2=>cases h2 with|cons hb h2=>cases h2 with|cons hc h2=>cases h2 with|cons hd h2=>cases h2 with|cons he h2=>cases h2 with|cons hf h2=>cases h2 with|cons hg h2=>cases h2 with|nil=>
 obtain ⟨a,rfl⟩:=alA ha
 obtain ⟨b,rfl⟩:=akE hb
 obtain ⟨c,rfl,_⟩:=bI aT rfl hc
 obtain ⟨d,rfl,_⟩:=bI aT rfl hd
 obtain ⟨e,rfl⟩:=akE he
 obtain ⟨f,rfl,_⟩:=bI aT rfl hf
 obtain ⟨g,rfl⟩:=wN aT rfl hg
 exact ⟨⟨a,b,c,d,e,f,g⟩,rfl⟩
def CB (c:Cl):Prop:=c.parts.length<=reachBytes
theorem aCD {n:Nat} {ps:List PV} (h:aW Tryz.prog reachBytes n 93 ps):∃v:Cl,ps=v.cells/\CB v:=by
 obtain ⟨m,pss,_,rfl,h2⟩:=bQ aT rfl h
 cases h2 with|cons ha h2=>cases h2 with|cons hb h2=>cases h2 with|cons hc h2=>cases h2 with|nil=>
 obtain ⟨a,rfl,_⟩:=bI aT rfl ha
 obtain ⟨b,rfl⟩:=alA hb
 obtain ⟨_,rows,_,rfl,hl,hr⟩:=bG aT rfl hc
 obtain ⟨c,rfl⟩:=gI (f:=Pt.cells) λr hr'=>aCq (hr r hr')
 exact ⟨⟨a,b,c⟩,rfl,by show c.length<=_;simpa using hl⟩
def LB (l:Ln):Prop:=l.cells_.length<=reachBytes/\l.by_.length<=reachBytes/\∀c∈l.cells_,CB c
theorem aB6 {n:Nat} {ps:List PV} (h:aW Tryz.prog reachBytes n 48 ps):∃v:Ln,ps=v.cells/\LB v:=by
 obtain ⟨m,pss,_,rfl,h2⟩:=bQ aT rfl h
 cases h2 with|cons ha h2=>cases h2 with|cons hb h2=>cases h2 with|cons hc h2=>cases h2 with|nil=>
 obtain ⟨a,rfl,_⟩:=bI aT rfl ha
 obtain ⟨_,rows,_,rfl,hl,hr⟩:=bG aT rfl hb
 obtain ⟨b,rfl,hbl,hq⟩:=pZ λr hr'=>aCD (hr r hr')
 obtain ⟨_,rows2,_,rfl,hl2,hr2⟩:=bG aT rfl hc
 obtain ⟨c,rfl⟩:=gI (f:=Dt.cells) λr hr'=>akE (hr2 r hr')
 exact ⟨⟨a,b,c⟩,rfl,by simpa using hl,by simpa using hl2,hq⟩
def DB (d:Da):Prop:=d.lines.length<=reachBytes/\∀l∈d.lines,LB l
theorem aCi {n:Nat} {ps:List PV} (h:aW Tryz.prog reachBytes n 52 ps):∃v:Da,ps=v.cells/\DB v:=by
 obtain ⟨m,pss,_,rfl,h2⟩:=bQ aT rfl h
 cases h2 with|cons hb h2=>cases h2 with|nil=>
 obtain ⟨_,rows,_,rfl,hl,hr⟩:=bG aT rfl hb
 obtain ⟨b,rfl,hbl,hq⟩:=pZ λr hr'=>aB6 (hr r hr')
 exact ⟨⟨b⟩,rfl,by simpa using hl,hq⟩
def BB (b:Bs):Prop:=b.length<=reachBytes/\∀d∈b,DB d
theorem aCK {n:Nat} {ps:List PV} (h:aW Tryz.prog reachBytes n 27 ps):∃v:{b:Bs//BB b},ps=bsC v.1:=by
 obtain ⟨m,pss,_,rfl,h2⟩:=bQ aT rfl h
 cases h2 with|cons hb h2=>cases h2 with|nil=>
 obtain ⟨_,rows,_,rfl,hl,hr⟩:=bG aT rfl hb
 obtain ⟨b,rfl,hbl,hq⟩:=pZ λr hr'=>aCi (hr r hr')
 exact ⟨⟨b,by simpa using hl,hq⟩,rfl⟩
theorem LB.c {l:Ln} (h:LB l):l.cells_.length<4611686018427387904:=Nat.lt_of_le_of_lt h.1 (by decide)
theorem BB.b {b:Bs} (h:BB b):BsB b:=⟨Nat.lt_of_le_of_lt h.1 (by decide),λd hd=>⟨Nat.lt_of_le_of_lt (h.2 d hd).1 (by decide),λl hl=>((h.2 d hd).2 l hl).c⟩⟩
theorem avU {N n:Nat} {ps:List PV} (h:aW Tryz.prog N n 66 ps):∃v:Int×Int,ps=[(vi (v.1)),(vi (v.2))]:=by
 obtain ⟨m,pss,_,rfl,hl,hr⟩:=anE aT rfl h
 match pss,hl with
 |[x,y],_=>
  obtain ⟨a,rfl,_⟩:=bI aT rfl (hr x (by simp))
  obtain ⟨b,rfl,_⟩:=bI aT rfl (hr y (by simp))
  exact ⟨(a,b),rfl⟩
theorem ajB {N:Nat} {t:TypeId} {p:PV} (ha:mF tt t=some true) (h:nC Tryz.prog N t p):∃n cs,p= .agg cs/\aW Tryz.prog N n t cs:=by
 obtain ⟨n,⟨_,cs,h1,h2⟩|⟨h1,_⟩⟩:=h
 ·exact ⟨n,cs,h1,h2⟩
 ·rw [(bV aT ha).1] at h1;cases h1
theorem ajF {N:Nat} {t:TypeId} {p:PV} (ha:mF tt t=some false) (h:nC Tryz.prog N t p):∃n,aW Tryz.prog N n t [p]:=by
 obtain ⟨n,⟨h1,_⟩|⟨_,h2⟩⟩:=h
 ·rw [(bV aT ha).1] at h1;cases h1
 ·exact ⟨n,h2⟩
end
end Go.Proofs.YtppdefkgmegipaaGreatDoor
