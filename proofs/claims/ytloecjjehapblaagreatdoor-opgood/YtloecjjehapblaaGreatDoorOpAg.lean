import Derived.Test.YtloecjjehapblaaGreatDoorOpAf
import Derived.Test.YtloecjjehapblaaGreatDoorOpAd
import Derived.Test.YtloecjjehapblaaGreatDoorOpAe
set_option linter.unusedSimpArgs false
set_option linter.unusedVariables false
namespace Go.Proofs.YtloecjjehapblaaGreatDoor
open Go Go.Abs
attribute [local irreducible] Ev PWp
set_option maxRecDepth 10000
set_option maxHeartbeats 4000000
end Go.Proofs.YtloecjjehapblaaGreatDoor
namespace Go.Proofs.YtloecjjehapblaaGreatDoor
open Go Go.Abs
attribute [local irreducible] Ev PWp
set_option maxRecDepth 10000
set_option maxHeartbeats 4000000
def acC (f:Nat->Bool) (n:Nat):Bool:=(List.range n).all f
theorem afU {f:Nat->Bool} {n k:Nat} (h:k<n) (hf:f k=false):acC f n=false:=by
 unfold acC
 rw [<-Bool.not_eq_true,zal]
 exact λq=>by rw [q k (List.mem_range.2 h)] at hf;cases hf
theorem aaM {f:Nat->Bool} {n:Nat} (hf:∀k<n,f k=true):acC f n=true:=by
 unfold acC
 rw [zal]
 exact λk h=>hf k (List.mem_range.1 h)
theorem pI {f:Nat->Bool} {n:Nat}:acC f n=true↔∀k<n,f k=true:=by
 unfold acC
 rw [zal]
 exact ⟨λh k hk=>h k (List.mem_range.2 hk),λh k hk=>h k (List.mem_range.1 hk)⟩
theorem aDg {f:Nat->Bool} {i:Nat} (hI:∀j<i,f j=true) (h:f i=true):∀j<i+1,f j=true:=λj hj=>by
 rcases Nat.lt_succ_iff_lt_or_eq.1 hj with q|q
 ·exact hI j q
 ·subst q;exact h
theorem aeQ {f:Nat->Bool} {i:Nat} {p:Prop} (hI:∀j<i,f j=true) (e:f i=true↔p) (h:p):∀j<i+1,f j=true:=aDg hI (e.2 h)
theorem asI {f:Nat->Bool} {i:Nat} {p R:Prop} (h:f i=false->R) (e:f i=true↔p) (hp:¬p):R:=h (by rw [<-Bool.not_eq_true];exact λq=>hp (e.1 q))
theorem aAq {α β:Type} [Inhabited α] {f:α->β} {l:List α} {i:Nat} (h:i<l.length):(l.map f)[i]?=some (f l[i]!):=by
 rw [getElem!_pos l i h,List.getElem?_map,List.getElem?_eq_getElem h];rfl
variable (tx:Cl->Int)
def aCS (c:Cl):Prop:=c.parts.length<1000000000000/\(c.kind=4->PF Tryz.prog 114 [.agg c.cells] (PV.val (Value.int .i64 (tx c))))
def jU (c:Cl):Bool:=if c.kind=0 then cJ c.val&&decide (c.parts.length=0) else if c.kind=1 then lR c else if c.kind=2 then decide (cI c=0) else if c.kind=3 then jI c else if c.kind=4 then decide (tx c=0) else false
theorem atY (c:Cl) (h:aCS tx c):PF Tryz.prog 103 [.agg c.cells] (PV.val (Value.bool (jU tx c))):=by
 obtain ⟨hl,ht⟩:=h
 have h1:=aiK c (by omega)
 have h3:=ahQ c (by omega)
 have hv:=iS c.val
 have h2:=lM c
 unfold jU
 generalize cJ c.val=A at*
 generalize lR c=B at*
 generalize cI c=C at*
 generalize jI c=D at*
 generalize tx c=E at*
 refine aG aF Tryz.func103 (by kernel_rfl) rfl rfl rfl rfl (λst=> ?_)
 (try apply wO pk;rfl);(repeat' first|show All _;constructor|show Imp _ _;constructor|show ImpX _ _ _ _;constructor|apply wC pk;rfl;rfl|apply wE pk;rfl;rfl|refine aA rfl ?_ ?_<;>intro h<;>(try simp at h)<;>try omega|(refine aC ?_;refine ⟨_,_,_,rfl,zwr _,zsr _, ?_,rfl⟩;try first|rfl|(simp [*];done);done)|(apply aH;rfl;rfl;rfl;(intro _;(first|apply hv|apply h1|apply h2|apply h3|apply (ht ‹_›))<;>first|assumption|omega);rotate_left;rfl;rfl))
def acH (l:List Dt) (k:Nat):Bool:=fI l[k]! &&(decide (k=0)||bG l[k]! l[k-1]!)
def wJ (l:List Dt):Bool:=acC (acH l) l.length
def xH (t:Tb) (l:Ln) (k:Nat):Bool:=decide (l.cells_[k]!.kind=t.cols[k]!.kind)&&jU tx l.cells_[k]!
def rC (t:Tb) (l:Ln):Bool:=decide (0<=l.key/\l.key<1073741824/\l.cells_.length=t.cols.length)&&decide (l.cells_[0]!.val=⟨1,l.key,e0⟩)
def jX (t:Tb) (l:Ln):Bool:=rC t l&&(acC (xH tx t l) l.cells_.length&&wJ l.by_)
theorem arK {t:Tb} {l:Ln} (h:rC t l=false):jX tx t l=false:=by unfold jX;rw [h];rfl
theorem aDA {t:Tb} {l:Ln} {k:Nat} (h:k<l.cells_.length) (hf:xH tx t l k=false):jX tx t l=false:=by unfold jX;rw [afU h hf];simp
theorem aBA {t:Tb} {l:Ln} {k:Nat} (h:k<l.by_.length) (hf:acH l.by_ k=false):jX tx t l=false:=by unfold jX wJ;rw [afU h hf];simp
theorem aAn {t:Tb} {l:Ln} (h:rC t l=true) (hc:∀k<l.cells_.length,xH tx t l k=true) (hd:∀k<l.by_.length,acH l.by_ k=true):jX tx t l=true:=by
 unfold jX wJ
 rw [h,aaM hc,aaM hd];rfl
theorem avJ (t:Tb) (l:Ln) (ht:0<t.cols.length) (hl:l.cells_.length<1000000000000/\l.by_.length<1000000000000) (hp:∀c∈l.cells_,aCS tx c):PF Tryz.prog 55 [.agg t.cells, .agg l.cells] (PV.val (Value.bool (jX tx t l))):=by
 by_cases h0:¬((0<=l.key/\l.key<1073741824)/\l.cells_.length=t.cols.length)
 ·rw [arK tx (by unfold rC;rw [decide_eq_false (λh=>h0 ⟨⟨h.1,h.2.1⟩,h.2.2⟩)];rfl)]
  refine aG aF Tryz.func55 (by kernel_rfl) rfl rfl rfl rfl (λst=> ?_)
  (try apply wO pk;rfl);(repeat' first|show All _;constructor|show Imp _ _;constructor|show ImpX _ _ _ _;constructor|apply wC pk;rfl;rfl|apply wE pk;rfl;rfl|apply wD pk [] [];kernel_rfl;rfl;rfl|refine aA rfl ?_ ?_<;>intro h<;>(try simp at h)<;>try omega|(refine aC ?_;refine ⟨_,_,_,rfl,zwr _,zsr _, ?_,rfl⟩;try rfl)|(apply aN pk;(iterate 6 rfl);rotate_left;rfl;(intro hw;rfl);(intro hw;apply aAq<;>first|omega|((exfalso;simp [gw] at hw;omega)));(intro _;rfl);rfl))
 obtain ⟨⟨h1,h2⟩,h3⟩:=Decidable.of_not_not h0
 have hh:¬l.cells_[0].val=⟨1,l.key,e0⟩->rC t l=false:=λh=>by unfold rC;rw [getElem!_pos l.cells_ 0 (by omega),decide_eq_false h];simp
 rw [Vl.ext_iff] at hh
 have hy:l.cells_[0].val=⟨1,l.key,e0⟩->rC t l=true:=λh=>by unfold rC;rw [getElem!_pos l.cells_ 0 (by omega),decide_eq_true h,decide_eq_true ⟨h1,h2,h3⟩];rfl
 rw [Vl.ext_iff] at hy
 refine aG aF Tryz.func55 (by kernel_rfl) rfl rfl rfl rfl (λst=> ?_)
 (try apply wO pk;rfl);(repeat' first|show All _;constructor|show Imp _ _;constructor|show ImpX _ _ _ _;constructor|apply wC pk;rfl;rfl|apply wE pk;rfl;rfl|apply wD pk [] [];kernel_rfl;rfl;rfl|refine aA rfl ?_ ?_<;>intro h<;>(try simp at h)<;>try omega|(refine aC ?_;refine ⟨_,_,_,rfl,zwr _,zsr _, ?_,rfl⟩;try first|rfl|((rw [arK tx (hh (by grind))];done));done)|apply aN pk;(iterate 6 rfl);rotate_left;rfl;(intro hw;rfl);(intro hw;apply aI<;>omega);(intro _;rfl);rfl|intros;(try simp only [zql]);omega)
 have hy1:rC t l=true:=hy (by grind)
 refine aK (X:={x:Nat//x<=l.cells_.length/\∀j<x,xH tx t l j=true}) (λi=>((((((St.nil 102 st).var 2 121 (t.cells)).var 3 67 (l.cells)).pv 38 (.seq (l.cells_.map Cl.cells))).pv 39 ((PV.val (Value.int .i64 (((l.cells_.map Cl.cells).length:Nat)))))).pv 40 ((PV.val (Value.int .i64 ((i.1:Nat))))))) (λi=>l.cells_.length-i.1) ⟨0,by omega,by omega⟩ ?_ (λi=> ?_)
 ·((repeat (first|refine Sub.pv ?_ rfl|refine Sub.var ?_ rfl rfl));exact Sub.nil _ _ _ (zsr _) rfl)
 obtain ⟨i,hi,hI⟩:=i
 dsimp only
 by_cases hend:l.cells_.length<=i
 ·(try apply wO pk;rfl);(repeat' first|show All _;constructor|apply wC pk;rfl;rfl|refine aA rfl ?_ ?_<;>intro h<;>(try simp at h)<;>try omega)
  refine aK (X:={x:Nat//x<=l.by_.length/\∀j<x,acH l.by_ j=true}) (λy=>(((((St.nil 102 st).var 3 67 (l.cells)).pv 61 (.seq (l.by_.map Dt.cells))).pv 62 ((PV.val (Value.int .i64 (((l.by_.map Dt.cells).length:Nat)))))).pv 63 ((PV.val (Value.int .i64 ((y.1:Nat))))))) (λy=>l.by_.length-y.1) ⟨0,by omega,by omega⟩ ?_ (λy=> ?_)
  ·((repeat (first|refine Sub.pv ?_ rfl|refine Sub.var ?_ rfl rfl));exact Sub.nil _ _ _ (zsr _) rfl)
  obtain ⟨y,hy,hyI⟩:=y
  dsimp only
  by_cases hend2:l.by_.length<=y
  have e:=aAn tx hy1 (λk hk=>hI k (by omega)) λk hk=>hyI k (by omega)
  rotate_left
  have h1:y<l.by_.length:=by omega
  have e:=Iff.refl (acH l.by_ y=true)
  by_cases h0:y=0
  subst h0
  conv at e=>rhs;simp only [acH,fI,getElem!_pos l.by_ 0 h1,zba,zde,decide_true,Bool.true_or,and_true]
  have hF:=asI (aBA tx (t:=t) h1) e
  have hS:=aeQ hyI e
  rotate_left
  obtain ⟨k,rfl⟩:∃k,y=k+1:=⟨y-1,by omega⟩
  have hd:=aiX l.by_[k] l.by_[k+1]
  have hb:=aqT l.by_[k] l.by_[k+1]
  conv at e=>rhs;simp only [acH,fI,getElem!_pos l.by_ (k+1) h1,show k+1-1=k from rfl,getElem!_pos l.by_ k (by omega),zba,zde,Bool.or_eq_true,h0,false_or]
  have hF:=asI (aBA tx (t:=t) h1) e
  have hS:=aeQ hyI e
  rotate_left
  all_goals ((try apply wO pk;rfl);(repeat' first|show All _;constructor|show Imp _ _;constructor|show ImpX _ _ _ _;constructor|apply wC pk;rfl;rfl|apply wE pk;rfl;rfl|apply wD pk [] [];kernel_rfl;rfl;rfl|refine aA rfl ?_ ?_<;>intro h<;>(try simp at h)<;>try omega|(refine aC ?_;refine ⟨_,_,_,rfl,zwr _,zsr _, ?_,rfl⟩;try first|rfl|(first|(rw [e]);done|(first|rw [hF (by grind)];done|(exfalso;grind));done);done)|(apply aH;rfl;rfl;rfl;(intro _;(first|apply (show PF Tryz.prog 104 [_,_] (PV.val (Value.int .i64 (0))) from by rename_i hh;exact (tU hh).elim)|apply hd)<;>first|assumption|omega);rotate_left;rfl;rfl)|apply aN pk;(iterate 6 rfl);rotate_left;rfl;(first|(intro hw;exact (show _=((0:Nat):Int) from by exact (tU hw).elim));(intro hw;apply aI<;>omega);(intro _;rfl)|(intro hw;rfl);(intro hw;apply aI<;>omega);(intro _;rfl)|(intro hw;exact (show ((((k+1:Nat):Int))-1=((k:Nat):Int)) from by omega));(intro hw;apply aI<;>omega);(intro _;rfl));rfl|((first|refine ⟨⟨1,by omega,hS (by grind)⟩, ?_,by simp only;omega⟩|refine ⟨⟨k+2,by omega,hS (by grind)⟩, ?_,by simp only;omega⟩);((repeat (first|refine Sub.pv ?_ rfl|refine Sub.var ?_ rfl rfl));exact Sub.nil _ _ _ (zsr _) rfl))|intros;(try simp only [zql]);omega))
 have h1:i<l.cells_.length:=by omega
 have hc:=atY tx l.cells_[i] (hp _ (zgm h1))
 have e:=Iff.refl (xH tx t l i=true)
 conv at e=>rhs;simp only [xH,getElem!_pos l.cells_ i h1,getElem!_pos t.cols i (show i<t.cols.length by omega),zba,zde]
 have hF:=asI (aDA tx (t:=t) h1) e
 have hS:=aeQ hI e
 (try apply wO pk;rfl);(repeat' first|show All _;constructor|show Imp _ _;constructor|show ImpX _ _ _ _;constructor|apply wC pk;rfl;rfl|apply wE pk;rfl;rfl|apply wD pk [] [];kernel_rfl;rfl;rfl|refine aA rfl ?_ ?_<;>intro h<;>(try simp at h)<;>try omega|(refine aC ?_;refine ⟨_,_,_,rfl,zwr _,zsr _, ?_,rfl⟩;try first|rfl|(rw [hF (by grind)]);done)|(apply aH;rfl;rfl;rfl;(intro _;apply hc<;>first|assumption|omega);rotate_left;rfl;rfl)|apply aN pk;(iterate 6 rfl);rotate_left;rfl;(intro hw;rfl);(intro hw;apply aI<;>omega);(intro _;rfl);rfl|(refine ⟨⟨i+1,by omega,hS (by grind)⟩, ?_,by simp only;omega⟩;((repeat (first|refine Sub.pv ?_ rfl|refine Sub.var ?_ rfl rfl));exact Sub.nil _ _ _ (zsr _) rfl))|intros;(try simp only [zql]);omega)
end Go.Proofs.YtloecjjehapblaaGreatDoor
namespace Go.Proofs.YtloecjjehapblaaGreatDoor
open Go Go.Abs
attribute [local irreducible] Ev PWp
set_option maxRecDepth 10000
set_option maxHeartbeats 4000000
theorem uF :∀{l:List Int},orI l=0->∀x∈l,x=0
 |[],_,_,h=>by cases h
 |a::l,h,x,hx=>by
  rw [orI] at h
  split at h
  ·rename_i e
   rcases zmc.1 hx with rfl|q
   ·exact e
   ·exact uF h x q
  ·rename_i e;exact absurd h e
theorem nE {f:Nat->Int} {n:Nat} (h:eI f n=0) {k:Nat} (hk:k<n):f k=0:=
 uF h _ (List.mem_map.2 ⟨k,List.mem_range.2 hk,rfl⟩)
theorem fL {s:Sc} (h:cL s=0) {k:Nat} (hk:k<s.length):∀x∈lks s k,x=0:=by
 unfold cL at h
 split at h
 ·cases h
 ·exact uF (nE h hk)
theorem alR {s:Sc} (h:cL s=0) {k:Nat} (hk:k<s.length):0<s[k].cols.length:=by
 have:=fL h hk (lk1 s[k]!) (by simp [lks])
 rw [getElem!_pos s k hk] at this
 unfold lk1 at this
 split at this
 ·cases this
 ·omega
variable (tx:Cl->Int)
def aHe (l:Ln):Prop:=(l.cells_.length<1000000000000/\l.by_.length<1000000000000)/\∀c∈l.cells_,aCS tx c
def aF2 (d:Da):Prop:=d.lines.length<1000000000000/\∀l∈d.lines,aHe tx l
def lnR (t:Tb) (L:List Ln) (i:Nat):Bool:=jX tx t L[i]! &&(decide (i=0)||decide (L[i-1]!.key<L[i]!.key))
def sG (t:Tb) (L:List Ln):Bool:=decide (L.length<=2000)&&acC (lnR tx t L) L.length
def adY (s:Sc) (b:Bs) (k:Nat):Bool:=sG tx s[k]! b[k]!.lines
def cP (s:Sc) (b:Bs):Bool:=decide (cL s=0/\b.length=s.length)&&acC (adY tx s b) b.length
theorem aDM {s:Sc} {b:Bs} (h:¬(cL s=0/\b.length=s.length)):cP tx s b=false:=by unfold cP;rw [decide_eq_false h];rfl
theorem aDa {s:Sc} {b:Bs} {k:Nat} (h:k<b.length) (hf:adY tx s b k=false):cP tx s b=false:=by unfold cP;rw [afU h hf];simp
theorem azH {s:Sc} {b:Bs} (h:cL s=0/\b.length=s.length) (hf:∀k<b.length,adY tx s b k=true):cP tx s b=true:=by unfold cP;rw [aaM hf,decide_eq_true h];rfl
theorem aoV (s:Sc) (b:Bs) (hl:s.length<1000000000000) (hB:∀t∈s,TbB t) (hb:b.length<1000000000000) (hd:∀d∈b,aF2 tx d):PF Tryz.prog 19 [.agg (scC s), .agg (bsC b)] (PV.val (Value.bool (cP tx s b))):=by
 have hs:=wI s (by omega) hB
 by_cases h0:¬(cL s=0/\b.length=s.length)
 ·rw [aDM tx h0]
  generalize cL s=R at*
  refine aG aF Tryz.func19 (by kernel_rfl) rfl rfl rfl rfl (λst=> ?_)
  (try apply wO pk;rfl);(repeat' first|show All _;constructor|show Imp _ _;constructor|show ImpX _ _ _ _;constructor|apply wC pk;rfl;rfl|apply wE pk;rfl;rfl|refine aA rfl ?_ ?_<;>intro h<;>(try simp at h)<;>try omega|(refine aC ?_;refine ⟨_,_,_,rfl,zwr _,zsr _, ?_,rfl⟩;try first|rfl|(exfalso;omega);done)|(apply aH;rfl;rfl;rfl;(intro _;apply hs<;>first|assumption|omega);rotate_left;rfl;rfl))
 replace h0:=Decidable.of_not_not h0
 obtain ⟨h1,h2⟩:=h0
 rw [h1] at hs
 refine aG aF Tryz.func19 (by kernel_rfl) rfl rfl rfl rfl (λst=> ?_)
 (try apply wO pk;rfl);(repeat' first|show All _;constructor|show Imp _ _;constructor|show ImpX _ _ _ _;constructor|apply wC pk;rfl;rfl|apply wE pk;rfl;rfl|refine aA rfl ?_ ?_<;>intro h<;>(try simp at h)<;>try omega|(apply aH;rfl;rfl;rfl;(intro _;apply hs<;>first|assumption|omega);rotate_left;rfl;rfl))
 refine aK (X:={x:Nat//x<=b.length/\∀j<x,adY tx s b j=true}) (λi=>(((((St.nil 67 st).var 2 24 ((scC s))).pv 22 (.seq (b.map Da.cells))).pv 23 ((PV.val (Value.int .i64 (((b.map Da.cells).length:Nat)))))).pv 24 ((PV.val (Value.int .i64 ((i.1:Nat))))))) (λi=>b.length-i.1) ⟨0,by omega,by omega⟩ ?_ (λi=> ?_)
 ·((repeat (first|refine Sub.pv ?_ rfl|refine Sub.var ?_ rfl rfl));exact Sub.nil _ _ _ (zsr _) rfl)
 obtain ⟨i,hi,hI⟩:=i
 dsimp only
 by_cases hend:b.length<=i
 have e:=azH tx ⟨h1,h2⟩ λk hk=>hI k (by omega)
 rotate_left
 have hib:i<b.length:=by omega
 have his:i<s.length:=by omega
 have hcl:=alR h1 his
 obtain ⟨d1,d2⟩:=hd _ (zgm hib)
 have e:=Iff.refl (adY tx s b i=true)
 conv at e=>rhs;simp only [adY,sG,getElem!_pos s i his,getElem!_pos b i hib,zba,zde,pI]
 have hF:=asI (aDa tx (s:=s) hib) e
 have hS:=aeQ hI e
 by_cases h2k:¬b[i].lines.length<=2000
 have hF0:=hF λq=>h2k q.1
 rotate_left
 all_goals ((try apply wO pk;rfl);(repeat' first|show All _;constructor|show Imp _ _;constructor|apply wC pk;rfl;rfl|apply wE pk;rfl;rfl|refine aA rfl ?_ ?_<;>intro h<;>(try simp at h)<;>try omega|(refine aC ?_;refine ⟨_,_,_,rfl,zwr _,zsr _, ?_,rfl⟩;try first|rfl|(first|(rw [e]);done|(rw [hF0]);done);done)|apply aN pk;(iterate 6 rfl);rotate_left;rfl;(intro hw;rfl);(intro hw;apply aI<;>omega);(intro _;rfl);rfl))
 focus ((try apply wO pk;rfl);(repeat' (show All _;constructor)))
 refine aK (X:={x:Nat//x<=b[i].lines.length/\∀j<x,lnR tx s[i] b[i].lines j=true}) (λy=>((((((((((St.nil 67 st).var 2 24 ((scC s))).pv 5 ((PV.val (Value.int .i64 ((i:Nat)))))).var 6 86 (b[i].cells)).pv 22 (.seq (b.map Da.cells))).pv 23 ((PV.val (Value.int .i64 (((b.map Da.cells).length:Nat)))))).pv 24 ((PV.val (Value.int .i64 ((i:Nat)))))).pv 34 (.seq (b[i].lines.map Ln.cells))).pv 35 ((PV.val (Value.int .i64 (((b[i].lines.map Ln.cells).length:Nat)))))).pv 36 ((PV.val (Value.int .i64 ((y.1:Nat))))))) (λy=>b[i].lines.length-y.1) ⟨0,by omega,by omega⟩ ?_ (λy=> ?_)
 ·((repeat (first|refine Sub.pv ?_ rfl|refine Sub.var ?_ rfl rfl));exact Sub.nil _ _ _ (zsr _) rfl)
 obtain ⟨y,hy,hyI⟩:=y
 dsimp only
 by_cases hend2:b[i].lines.length<=y
 rotate_left
 have hyl:y<b[i].lines.length:=by omega
 obtain ⟨l1,l2⟩:=d2 _ (zgm hyl)
 have hls:=avJ tx s[i] b[i].lines[y] hcl l1 l2
 have e:=Iff.refl (lnR tx s[i] b[i].lines y=true)
 have hF2:=λh:¬lnR tx s[i] b[i].lines y=true=>hF λq=>h (q.2 y hyl)
 by_cases h0:y=0
 subst h0
 conv at e=>rhs;simp only [lnR,getElem!_pos b[i].lines 0 hyl,decide_true,Bool.true_or,Bool.and_true]
 have hS2:=aeQ hyI e
 rw [e] at hF2
 rotate_left
 obtain ⟨k,rfl⟩:∃k,y=k+1:=⟨y-1,by omega⟩
 conv at e=>rhs;simp only [lnR,getElem!_pos b[i].lines (k+1) hyl,show k+1-1=k from rfl,getElem!_pos b[i].lines k (by omega),zba,zde,Bool.or_eq_true,h0,false_or]
 have hS2:=aeQ hyI e
 rw [e] at hF2
 rotate_left
 all_goals ((try apply wO pk;rfl);(repeat' first|show All _;constructor|show Imp _ _;constructor|show ImpX _ _ _ _;constructor|apply wC pk;rfl;rfl|apply wE pk;rfl;rfl|apply wD pk [] [];kernel_rfl;rfl;rfl|refine aA rfl ?_ ?_<;>intro h<;>(try simp at h)<;>try omega|(refine aC ?_;refine ⟨_,_,_,rfl,zwr _,zsr _, ?_,rfl⟩;try first|rfl|(rw [hF2 (by grind)]);done)|(apply aH;rfl;rfl;rfl;(intro _;apply hls<;>first|assumption|omega);rotate_left;rfl;rfl)|apply aN pk;(iterate 6 rfl);rotate_left;rfl;(first|(intro hw;rfl);(intro hw;apply aI<;>omega);(intro _;rfl)|(intro hw;exact (show _=((0:Nat):Int) from by exact (tU hw).elim));(intro hw;apply aI<;>omega);(intro _;rfl)|(intro hw;exact (show ((((k+1:Nat):Int))-1=((k:Nat):Int)) from by omega));(intro hw;apply aI<;>omega);(intro _;rfl));rfl|exact absurd (by assumption:b[i].lines=[]) (List.ne_nil_of_length_pos hyl)|((first|refine ⟨⟨i+1,by omega,hS ⟨by omega,λk hk=>hyI k (by omega)⟩⟩, ?_,by simp only;omega⟩|refine ⟨⟨1,by omega,hS2 (by grind)⟩, ?_,by simp only;omega⟩|refine ⟨⟨k+2,by omega,hS2 (by grind)⟩, ?_,by simp only;omega⟩);((repeat (first|refine Sub.pv ?_ rfl|refine Sub.var ?_ rfl rfl));exact Sub.nil _ _ _ (zsr _) rfl))|intros;(try simp only [zql]);omega))
end Go.Proofs.YtloecjjehapblaaGreatDoor
namespace Go.Proofs.YtloecjjehapblaaGreatDoor
open Go Go.Abs
attribute [local irreducible] Ev PWp
set_option maxRecDepth 10000
set_option maxHeartbeats 4000000
section
variable {P:Program} {tt:TT} {l:List Oper} {d:Md} {r:List Oper} {s:St} {K:St->Prop} {t:Nat} {ty:TypeId} {pos:String} {after:Array Edge}
theorem aGk {α:Type} {f:α->List PV} (pk:Pk P tt) (z0:α) {T e:TypeId} {x y:Operand} {kx ky:IntKind} {n B sz:Nat} {z:List Value} {a b:Int} (hx:opd s x=some (.val (.int kx a))) (hy:opd s y=some (.val (.int ky b))) (hk:tiK tt T=some (.slice e)) (hs:aV tt e=some sz) (hz:tiZ tt e=some z) (hzl:z.length=sz) (hpos:Nat.blt 0 sz=true) (hf0:z.map .val=f z0) (hf:bR s [x,y]=true) (hd:Nat.blt t s.n=true) (ht:kR d l r=true)
  (ha:a=n) (hb':b=n) (hB:P.bytesOf e=B) (hb:n*B<=140737488355328) (h62:n<4611686018427387904) (k:∀id,s.st id=none->Ev P l d r ((s.sst (upd s.st id (some (.arr e ((List.replicate n z0).map f))))).pv t (.vec id sz 0 n)) K):Ev P l d (⟨some t, .makeSlice T x y,ty,pos,after,none⟩::r) s K:=by
 subst ha hb'
 refine eU (abZ pk.htt hx hy hk hs hz hzl (by simpa [Nat.blt_eq] using hpos) hB hb h62) (λz hz=>aW (λ_ _ _ e=>by cases e) hz) hf hd ht λzz hzz=> ?_
 obtain ⟨id,h1,rfl⟩:=hzz
 have:=k id h1
 rw [List.map_replicate,<-hf0] at this
 exact this
end
theorem gJ {α:Type} {f:α->List PV} {id sz n:Nat} {l:List α} (hn:l.length=n):Fz id sz (l.map f) (.vec id sz 0 n) (.seq (l.map f)):=by
 have e:(l.map f).length=n:=(zql _).trans hn
 rw [<-e];exact .all
theorem aG3 {f:FuncId} {args:List PV} {st:aJ} {R R':PV->aJ->Prop} (h:PC Tryz.prog f args st R) (hr:∀p st',R p st'->∃q,Wk p q/\R' q st'):PC Tryz.prog f args st R':=
 ⟨h.1,λw g vs hm hv=>(h.2 w g vs hm hv).mono λe w' ⟨v,r,st',g',h1,h2,h3,h4⟩=>by
  obtain ⟨q,k1,k2⟩:=hr _ _ h2
  exact ⟨v,q,st',g',h1,k2,k1 _ _ h3,h4⟩⟩
theorem RepA.wk {g:G} {b:Nat} {ps qs:List PV} (h:WkL ps qs):∀{off:Nat},RepA g b off ps->RepA g b off qs:=by
 induction h with
 |nil=>exact λh=>h
 |cons h _ ih=>
  intro off e
  simp only [RepA] at e⊢
  obtain ⟨⟨v,e1,e2,e3⟩,e4⟩:=e
  exact ⟨⟨v,e1,e2,h _ _ e3⟩,ih e4⟩
theorem aCX {ps qs:List PV} (h:WkL ps qs):ps.length=qs.length:=by
 induction h with
 |nil=>rfl
 |cons _ _ ih=>simp [ih]
theorem RepR.wk {α:Type} {f k:α->List PV} {g:G} {b sz:Nat}:∀{l:List α} (_:∀x∈l,WkL (f x) (k x)) {off:Nat},RepR g b off sz (l.map f)->RepR g b off sz (l.map k)
 |[],_,_,e=>e
 |x::l,h,off,e=>by
  simp only [List.map_cons,RepR] at e⊢
  exact ⟨aCX (h x (by simp))▸e.1,RepA.wk (h x (by simp)) e.2.1,RepR.wk (λy hy=>h y (by simp [hy])) e.2.2⟩
theorem Wk.rows {α:Type} {f k:α->List PV} {l:List α} (h:∀x∈l,WkL (f x) (k x)):Wk (.seq (l.map f)) (.seq (l.map k)):=λg v e=>by
 unfold Rep at e⊢
 obtain ⟨a,cap,h1,h2,h3,h4⟩:=e
 rw [zql] at h1 h2 h3
 refine ⟨a,cap,by rw [zql];exact h1,by rw [zql];exact h2,by rw [zql];exact h3, ?_⟩
 rcases h4 with h4|⟨b,off,sz,q1,q2⟩
 ·exact .inl (by rw [List.map_eq_nil_iff] at h4⊢;exact h4)
 ·exact .inr ⟨b,off,sz,q1,RepR.wk h q2⟩
def zM (_:Unit):List PV:=[.val (.slice none 0 0)]
def aiW (s:Sc):Bs:=List.replicate s.length ⟨[]⟩
theorem aEL (n:Nat):Wk (.agg [.seq ((List.replicate n ()).map zM)]) (.agg (bsC (List.replicate n ⟨[]⟩))):=by
 refine Wk.agg (.cons ?_ .nil)
 have:=Wk.rows (f:=zM) (k:=λ_=>Da.cells ⟨[]⟩) (l:=List.replicate n ()) λ_ _=> .cons Wk.nil .nil
 rwa [List.map_replicate (f:=λ_=>Da.cells ⟨[]⟩),<-List.map_replicate (f:=Da.cells)] at this
theorem aBL (s:Sc) (hl:s.length<2000000000000):PF Tryz.prog 27 [.agg (scC s)] (.agg (bsC (aiW s))):=λst=>
 aG3 (gL (sz:=1) (R:=λr S=>∃id,r= .agg [.vec id 1 0 s.length]/\st id=none/\S=upd st id (some (.arr 86 ((List.replicate s.length ()).map zM)))) (R':=λr S=>r= .agg [.seq ((List.replicate s.length ()).map zM)]/\S=st) (by
  refine bZ aF Tryz.func27 (by kernel_rfl) rfl rfl rfl rfl ?_
  (try apply wO pk;rfl);(repeat' first|show All _;constructor|apply wE pk;rfl;rfl|(try refine aC ?_);((refine ⟨_,_,_,rfl,zwr _,zsr _, ?_⟩;(exact ⟨id,rfl,hid,rfl⟩);done))|(apply aGk pk () (f:=zM) (n:=s.length) (B:=24);(iterate 11 rfl);(focus (simp;done));(focus (simp;done));exact afD;omega;omega;intro id hid))) λp st' h=>by
  obtain ⟨id,rfl,h3,rfl⟩:=h
  exact .inl ⟨id,86,(List.replicate s.length ()).map zM,_,st,aB _ _ _,afL, .agg (.cons (gJ (by simp)) .nil),cX h3,rfl,rfl⟩) λp st' h=>⟨_,h.1▸aEL _,rfl,h.2⟩
variable (sh:Cl->Vl)
def aAb (c:Cl):Prop:=PF Tryz.prog 30 [.agg c.cells] (.agg (sh c).cells)
theorem aEA (l:Ln) (hl:l.cells_.length<1000000000000) (hs:∀c∈l.cells_,aAb sh c) (st:aJ):PC Tryz.prog 77 [.agg l.cells] st λr S=>∃id,r= .vec id 3 0 l.cells_.length/\st id=none/\S=upd st id (some (.arr 57 ((l.cells_.map sh).map Vl.cells))):=by
 refine bZ aF Tryz.func77 (by kernel_rfl) rfl rfl rfl rfl ?_
 (try apply wO pk;rfl);(repeat' (show All _;constructor))
 refine mV 3 57 3 rfl rfl rfl (λid hid=> ?_)
 refine aK (X:={x:Nat×Nat//x.1<=l.cells_.length/\st x.2=none}) (λi=>(((((St.nil 20 (upd st i.1.2 (some (.arr 57 (((l.cells_.map sh).take i.1.1).map Vl.cells))))).pv 3 (.vec i.1.2 3 0 i.1.1)).pv 7 (.seq (l.cells_.map Cl.cells))).pv 8 ((PV.val (Value.int .i64 (((l.cells_.map Cl.cells).length:Nat)))))).pv 9 ((PV.val (Value.int .i64 ((i.1.1:Nat))))))) (λi=>l.cells_.length-i.1.1) ⟨(0,id),by simp,hid⟩ ?_ (λi=> ?_)
 ·dsimp only
  (((repeat refine Sub.pv ?_ rfl);(exact Sub.nil _ _ _ (zsr _) rfl)))
 obtain ⟨⟨i,id⟩,hi,hid⟩:=i
 simp only at hi hid
 dsimp only
 by_cases hend:l.cells_.length<=i
 ·have e:(l.cells_.map sh).take i=l.cells_.map sh:=List.take_of_length_le (by simp;omega)
  obtain rfl:i=l.cells_.length:=by omega
  (try apply wO pk;rfl);(repeat' first|show All _;constructor|apply wC pk;rfl;rfl|refine aA rfl ?_ ?_<;>intro h<;>(try simp at h)<;>try omega|(try refine aC ?_);((refine ⟨_,_,_,rfl,zwr _,zsr _, ?_⟩;(exact ⟨id,rfl,hid,by rw [e];rfl⟩);done)))
 have h1:i<l.cells_.length:=by omega
 have hc:PF Tryz.prog 30 [.agg l.cells_[i].cells] (.agg (sh l.cells_[i]).cells):=hs _ (zgm h1)
 have e:(l.cells_.map sh).take (i+1)=(l.cells_.map sh).take i++[sh l.cells_[i]]:=by rw [List.take_succ_eq_append_getElem (by simpa using h1)];simp
 (try apply wO pk;rfl);(repeat' first|show All _;constructor|show Imp _ _;constructor|apply wC pk;rfl;rfl|apply wE pk;rfl;rfl|refine aA rfl ?_ ?_<;>intro h<;>(try simp at h)<;>try omega|(apply aH;rfl;rfl;rfl;(intro _;apply hc<;>first|assumption|omega);rotate_left;rfl;rfl)|apply aN pk;(iterate 6 rfl);rotate_left;rfl;(intro hw;rfl);(intro hw;apply aI<;>omega);(intro _;rfl);rfl|(apply apV pk (f:=Vl.cells) [sh l.cells_[i]] 32;(iterate 9 rfl);(exact aB _ _ _);((focus (simp;omega)));exact λ_=>rfl;exact λ_=>rfl;exact asO;((focus (simp;omega)));((focus (simp;omega)));rfl;intro id' hid')|refine ⟨⟨(i+1,id'),by simp only;omega,iH hid'⟩, ?_,by simp only;omega⟩;((dsimp only;try rw [e]));(((repeat refine Sub.pv ?_ rfl);(exact Sub.nil _ _ _ (cQ ‹_›) rfl)))|intros;(try simp only [zql]);omega)
theorem aBc (l:Ln) (hl:l.cells_.length<1000000000000) (hs:∀c∈l.cells_,aAb sh c):PF Tryz.prog 77 [.agg l.cells] (.seq ((l.cells_.map sh).map Vl.cells)):=λst=>
 gL (sz:=3) (aEA sh l hl hs st) λp st' h=>by
  obtain ⟨id,rfl,h3,rfl⟩:=h
  exact .inl ⟨id,57,(l.cells_.map sh).map Vl.cells,_,st,aB _ _ _,tL,gJ (by simp),cX h3,rfl,rfl⟩
def roC (r:List Vl):List PV:=[.seq (r.map Vl.cells)]
theorem aBU :Tryz.prog.bytesOf 35=24:=by kernel_rfl
theorem ayH :Tryz.prog.cellsOf 35=1:=by kernel_rfl
def abU (l:Ln):List Vl:=l.cells_.map sh
theorem axN (b:Bs) (k:Nat) (hk:k<b.length) (hl:b[k].lines.length<1000000000000) (hs:∀l∈b[k].lines,l.cells_.length<1000000000000/\∀c∈l.cells_,aAb sh c) (st:aJ):PC Tryz.prog 38 [.agg (bsC b),(PV.val (Value.int .i64 ((k:Nat))))] st λr S=>∃id,r= .vec id 1 0 b[k].lines.length/\st id=none/\S=upd st id (some (.arr 35 ((b[k].lines.map (abU sh)).map roC))):=by
 have ho:=aaO b k hk
 generalize b[k].lines=L at*
 refine bZ aF Tryz.func38 (by kernel_rfl) rfl rfl rfl rfl ?_
 (try apply wO pk;rfl);(repeat' first|show All _;constructor|show Imp _ _;constructor|apply wE pk;rfl;rfl|(apply aH;rfl;rfl;rfl;(intro _;apply ho<;>first|assumption|omega);rotate_left;rfl;rfl))
 refine mV 7 35 1 rfl rfl rfl (λid hid=> ?_)
 refine aK (X:={x:Nat×Nat//x.1<=L.length/\st x.2=none}) (λi=>(((((St.nil 30 (upd st i.1.2 (some (.arr 35 (((L.map (abU sh)).take i.1.1).map roC))))).pv 7 (.vec i.1.2 1 0 i.1.1)).pv 17 (.seq (L.map Ln.cells))).pv 18 ((PV.val (Value.int .i64 (((L.map Ln.cells).length:Nat)))))).pv 19 ((PV.val (Value.int .i64 ((i.1.1:Nat))))))) (λi=>L.length-i.1.1) ⟨(0,id),by simp,hid⟩ ?_ (λi=> ?_)
 ·dsimp only
  (((repeat refine Sub.pv ?_ rfl);(exact Sub.nil _ _ _ (zsr _) rfl)))
 obtain ⟨⟨i,id⟩,hi,hid⟩:=i
 simp only at hi hid
 dsimp only
 by_cases hend:L.length<=i
 ·have e:(L.map (abU sh)).take i=L.map (abU sh):=List.take_of_length_le (by simp;omega)
  obtain rfl:i=L.length:=by omega
  (try apply wO pk;rfl);(repeat' first|show All _;constructor|apply wC pk;rfl;rfl|refine aA rfl ?_ ?_<;>intro h<;>(try simp at h)<;>try omega|(try refine aC ?_);((refine ⟨_,_,_,rfl,zwr _,zsr _, ?_⟩;(exact ⟨id,rfl,hid,by rw [e];rfl⟩);done)))
 have h1:i<L.length:=by omega
 have hc:=aBc sh L[i] (hs _ (zgm h1)).1 (hs _ (zgm h1)).2
 have e:(L.map (abU sh)).take (i+1)=(L.map (abU sh)).take i++[L[i].cells_.map sh]:=by rw [List.take_succ_eq_append_getElem (by simpa using h1)];simp [abU]
 (try apply wO pk;rfl);(repeat' first|show All _;constructor|show Imp _ _;constructor|apply wC pk;rfl;rfl|apply wE pk;rfl;rfl|refine aA rfl ?_ ?_<;>intro h<;>(try simp at h)<;>try omega|(apply aH;rfl;rfl;rfl;(intro _;apply hc<;>first|assumption|omega);rotate_left;rfl;rfl)|apply aN pk;(iterate 6 rfl);rotate_left;rfl;(intro hw;rfl);(intro hw;apply aI<;>omega);(intro _;rfl);rfl|(apply apV pk (f:=roC) [L[i].cells_.map sh] 24;(iterate 9 rfl);(exact aB _ _ _);((focus (simp;omega)));exact λ_=>rfl;exact λ_=>rfl;exact aBU;((focus (simp;omega)));((focus (simp;omega)));rfl;intro id' hid')|refine ⟨⟨(i+1,id'),by simp only;omega,iH hid'⟩, ?_,by simp only;omega⟩;((dsimp only;try rw [e]));(((repeat refine Sub.pv ?_ rfl);(exact Sub.nil _ _ _ (cQ ‹_›) rfl)))|intros;(try simp only [zql]);omega)
theorem anD (b:Bs) (k:Nat) (hk:k<b.length) (hl:b[k].lines.length<1000000000000) (hs:∀l∈b[k].lines,l.cells_.length<1000000000000/\∀c∈l.cells_,aAb sh c):PF Tryz.prog 38 [.agg (bsC b),(PV.val (Value.int .i64 ((k:Nat))))] (.seq ((b[k].lines.map (abU sh)).map roC)):=λst=>
 gL (sz:=1) (axN sh b k hk hl hs st) λp st' h=>by
  obtain ⟨id,rfl,h3,rfl⟩:=h
  exact .inl ⟨id,35,(b[k].lines.map (abU sh)).map roC,_,st,aB _ _ _,ayH,gJ (by simp),cX h3,rfl,rfl⟩
end Go.Proofs.YtloecjjehapblaaGreatDoor
