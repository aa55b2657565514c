import Derived.Test.YtloecjjehapblaaGreatDoorOkAe
import Derived.Test.YtloecjjehapblaaGreatDoorAcF
import Derived.Test.YtloecjjehapblaaGreatDoorRows
import Derived.SizedLaws
import Derived.LaidMore
import Derived.LaidOnce
import Derived.LaidHandle
import Derived.Test.YtloecjjehapblaaGreatDoorOkAa
import Derived.Test.YtloecjjehapblaaGreatDoorAcE
import Derived.Test.YtloecjjehapblaaGreatDoorAcSort
import Derived.Sort.LotD5
set_option linter.unusedSimpArgs false
set_option linter.unusedVariables false
namespace Go.Proofs.YtloecjjehapblaaGreatDoor
open Go Go.Abs Go.ChangeShapes Go.WideShapes Go.ChangeAt Go.RowKit
set_option maxRecDepth 10000
theorem own :ownKnob Tryz.prog.godebug=none:=by kernel_rfl
theorem laid :laidOutB Tryz.prog=true:=by kernel_rfl
theorem full (t e:TypeId) (h:t<Tryz.prog.types.size) (hu:Tryz.prog.underlying t=some (.slice e)):0<Tryz.prog.cellsOf e:=
 of_decide_eq_true (adA (λ_ e=>decide (0<Tryz.prog.cellsOf e)) (by kernel_rfl) t e h hu)
theorem aGK (t e:TypeId) (h:t<Tryz.prog.types.size) (hu:Tryz.prog.underlying t=some (.slice e)):1<=Tryz.prog.bytesOf e:=
 of_decide_eq_true (adA (λ_ e=>decide (1<=Tryz.prog.bytesOf e)) (by kernel_rfl) t e h hu)
section
def CB (c:Cl):Prop:=c.parts.length<=reachBytes
def LB (l:Ln):Prop:=l.cells_.length<=reachBytes/\l.by_.length<=reachBytes/\∀c∈l.cells_,CB c
def DB (d:Da):Prop:=d.lines.length<=reachBytes/\∀l∈d.lines,LB l
def BB (b:Bs):Prop:=b.length<=reachBytes/\∀d∈b,DB d
theorem LB.c {l:Ln} (h:LB l):l.cells_.length<4611686018427387904:=Nat.lt_of_le_of_lt h.1 (by decide)
theorem BB.b {b:Bs} (h:BB b):BsB b:=⟨Nat.lt_of_le_of_lt h.1 (by decide),λd hd=>⟨Nat.lt_of_le_of_lt (h.2 d hd).1 (by decide),λl hl=>((h.2 d hd).2 l hl).c⟩⟩
theorem aoZ {N:Nat} {t:TypeId} {p:PV} (ha:lM tt t=some false) (h:uG Tryz.prog N t p):∃n,dR Tryz.prog N n t [p]:=by
 obtain ⟨n,⟨h1,_⟩|⟨_,h2⟩⟩:=h
 ·rw [(cC aF ha).1] at h1;cases h1
 ·exact ⟨n,h2⟩
end
end Go.Proofs.YtloecjjehapblaaGreatDoor
namespace Go.Proofs.YtloecjjehapblaaGreatDoor
open Go
set_option maxRecDepth 100000
noncomputable def wL (os:Os):World:={World.doorLaid Tryz.prog 19 os with heap:=(World.doorLaid Tryz.prog 19 os).heap.setIfInBounds 1 (.cells (Pinned.utf8FirstZ.map λn:Nat=>Value.int .u8 (n:Int)).toArray 450 (0,0))}
theorem avE (os:Os) (args:Array Value):((wL os).forCall (λ_ _=>0) ⟨#[],args,[]⟩).Shaped Tryz.prog:=World.shaped_of_RefB (by kernel_rfl) (by kernel_rfl)
theorem aFs (os : Os) (args : Array Value) : laidMetH Tryz.prog [("unicode/utf8.acceptRanges", Rows.laid_unicode_utf8_acceptRanges), ("unicode/utf8.first", Rows.laid_unicode_utf8_first)] ((wL os).forCall (λ_ _ => 0) ⟨#[], args, []⟩).memory :=
  laidMetH_of_parts3 (fuel:=8) (laidMet_of_run' 8 (by kernel_rfl) (by kernel_rfl)) (by kernel_rfl) (by kernel_rfl)
end Go.Proofs.YtloecjjehapblaaGreatDoor
namespace Go.Proofs.YtloecjjehapblaaGreatDoor
open Go Go.Abs
set_option maxRecDepth 10000
set_option maxHeartbeats 4000000
theorem pR {a b c:Dt} (h1:bH b a=true) (h2:bH c b=true):bH c a=true:=by
 unfold bH at*
 simp only [Bool.or_eq_true,zba,zde] at*
 omega
theorem wK {a b:Dt} (h:bH a b=false) (hne:a≠b):bH b a=true:=by
 rw [Ne,Dt.ext_iff] at hne
 unfold bH at*
 simp only [Bool.or_eq_true,zba,zde,Bool.or_eq_false_iff,Bool.and_eq_false_iff,decide_eq_false_iff_not] at*
 omega
def asW (l:List Dt):Prop:=l.Pairwise λa b=>bH b a=true
def awM (l:List Dt) (d:Dt):List Dt:=if d∈l then l else cG l (fQ l d) [d]
theorem aAA (l:Ln) (d:Dt):dE l d={l with by_:=awM l.by_ d}:=by
 unfold dE awM
 split<;>rfl
theorem axZ (l:List Dt) (d x:Dt):x∈awM l d↔x=d\/x∈l:=by
 unfold awM
 split
 ·rename_i h
  exact ⟨.inr,λq=>by rcases q with rfl|q<;>assumption⟩
 ·unfold cG
  have e:=List.take_append_drop (fQ l d) l
  conv=>rhs;rw [<-e]
  simp only [zma,zms]
  grind
theorem auA {l:List Dt} (h:asW l) (d:Dt):asW (awM l d):=by
 unfold awM
 split
 ·exact h
 rename_i hd
 unfold cG asW
 have e:=List.take_append_drop (fQ l d) l
 have hp:=h
 unfold asW at hp
 rw [<-e,List.pairwise_append] at hp
 have hlo:∀x∈l.take (fQ l d),bH d x=true:=λx hx=>by
  obtain ⟨q,hq,rfl⟩:=zgo hx
  rw [zlt] at hq
  rw [List.getElem_take]
  exact wK (aBx (by omega) (by omega)) λq=>hd (q▸zgm _)
 have hhi:∀x∈l.drop (fQ l d),bH x d=true:=λx hx=>by
  obtain ⟨q,hq,rfl⟩:=zgo hx
  rw [zld] at hq
  rw [List.getElem_drop]
  have h0:=aAb (L:=l) rfl (show fQ l d<l.length by omega)
  rcases Nat.eq_zero_or_pos q with rfl|hq0
  ·exact h0
  ·exact pR h0 (List.pairwise_iff_getElem.1 h _ _ (by omega) (by omega) (by omega))
 rw [List.pairwise_append,List.pairwise_append]
 refine ⟨⟨hp.1,List.pairwise_singleton ..,λx hx y hy=> ?_⟩,hp.2.1,λx hx y hy=> ?_⟩
 ·rw [zms.1 hy];exact hlo x hx
 ·rcases zma.1 hx with q|q
  ·exact hp.2.2 x q y hy
  ·rw [zms.1 q];exact hhi y hy
def upR (l:List Dt) (k:Nat):Bool:=decide (k=0)||bH l[k]! l[k-1]!
theorem aDJ {l:List Dt} (h:∀k<l.length,upR l k=true):asW l:=by
 have key:∀j (hj:j<l.length) i (hi:i<j),bH l[j] (l[i]'(by omega))=true:=by
  intro j
  induction j with
  |zero=>intro _ i hi;exact absurd hi (Nat.not_lt_zero _)
  |succ j ih=>
   intro hj i hi
   have:=h (j+1) hj
   unfold upR at this
   rw [getElem!_pos l (j+1) hj,show j+1-1=j from rfl,getElem!_pos l j (by omega)] at this
   have this:bH l[j+1] l[j]=true:=by simpa using this
   rcases zls.1 hi with q|q
   ·exact pR (ih (by omega) i q) this
   ·subst q;exact this
 exact List.pairwise_iff_getElem.2 λi j hi hj hij=>key j hj i hij
end Go.Proofs.YtloecjjehapblaaGreatDoor
namespace Go.Proofs.YtloecjjehapblaaGreatDoor.T
open Go Go.Abs
section
set_option maxRecDepth 10000
set_option maxHeartbeats 4000000
structure Sp where
 time:Int
 dev:Int
 seq:Int
 deriving DecidableEq,Inhabited
def Sp.cells (a:Sp):List PV:=[.val (.int .i64 (a.time)), .val (.int .i64 (a.dev)), .val (.int .i64 (a.seq))]
def Sp.zero :Sp:=⟨0,0,0⟩
theorem Sp.ext_iff (a b:Sp):a=b↔a.time=b.time/\a.dev=b.dev/\a.seq=b.seq:=by cases a;cases b;simp
theorem Sp.eqb (a b:Sp):(decide (a.time=b.time)&&(decide (a.dev=b.dev)&&(decide (a.seq=b.seq))))=decide (a=b):=by rw [Bool.eq_iff_iff];simp [Sp.ext_iff]
theorem Sp.eqz (a:Sp):(decide (a.time=0)&&(decide (a.dev=0)&&(decide (a.seq=0))))=decide (a=Sp.zero):=by rw [Bool.eq_iff_iff];simp [Sp.ext_iff,Sp.zero]
theorem Sp.elem :Elem tt 47 Sp.cells (λa=> .agg a.cells) 3:=⟨rfl,λ_=>rfl,λ_=>rfl,λ_=>rfl,λ_=>rfl⟩
structure Nm where
 dot:Dt
 at_:Int
 deriving DecidableEq,Inhabited
def Nm.cells (a:Nm):List PV:=[.val (.int .i64 (a.dot.dev)), .val (.int .i64 (a.dot.seq)), .val (.int .i64 (a.at_))]
def Nm.zero :Nm:=⟨Dt.zero,0⟩
theorem Nm.ext_iff (a b:Nm):a=b↔a.dot=b.dot/\a.at_=b.at_:=by cases a;cases b;simp
theorem Nm.eqb (a b:Nm):(decide (a.dot=b.dot)&&(decide (a.at_=b.at_)))=decide (a=b):=by rw [Bool.eq_iff_iff];simp [Nm.ext_iff]
theorem Nm.eqz (a:Nm):(decide (a.dot=Dt.zero)&&(decide (a.at_=0)))=decide (a=Nm.zero):=by rw [Bool.eq_iff_iff];simp [Nm.ext_iff,Nm.zero]
theorem Nm.elem :Elem tt 351 Nm.cells (λa=> .agg a.cells) 3:=⟨rfl,λ_=>rfl,λ_=>rfl,λ_=>rfl,λ_=>rfl⟩
end
section
attribute [local irreducible] Ev PWp
set_option maxRecDepth 10000
set_option maxHeartbeats 4000000
def aM (p:Pt):Nm:=⟨p.dot,p.at_⟩
def bG (p:Pt):Nm:=⟨p.after,p.afterAt⟩
def bL (p:Pt):Sp:=⟨p.time,p.dot.dev,p.dot.seq⟩
def withinB (n a b:Int):Bool:=decide (n>=a)&&decide (n<=b)
def mayN (n:Nm):Bool:=(withinB n.dot.dev 1 64&&withinB n.dot.seq 1 1048576)&&withinB n.at_ 0 1999
def bS (p:Pt):Bool:=((((decide (p.val.kind=1)&&decide (p.val.s=e0))&&withinB p.val.n 0 255)&&withinB p.time 1 1125899906842624)&&mayN (aM p))&&(decide (bG p=Nm.zero)||mayN (bG p))
def jL (a b:Sp):Bool:=if a.time≠b.time then decide (a.time<b.time) else if a.dev≠b.dev then decide (a.dev<b.dev) else decide (a.seq<b.seq)
def eM (p q:Pt):Bool:=jL (bL p) (bL q)||(decide (bL p=bL q)&&decide (p.at_<q.at_))
theorem nE (p:Pt):PF Tryz.prog 282 [.agg p.cells] (.agg (aM p).cells):=by
 refine aG aF Tryz.func282 (by kernel_rfl) rfl rfl rfl rfl (λst=> ?_)
 (try apply wO pk;rfl);(repeat' first|show Cn _;constructor|(refine aC ?_;refine ⟨_,_,_,rfl,zwr _,zsr _, ?_,rfl⟩;try rfl))
theorem pM (p:Pt):PF Tryz.prog 284 [.agg p.cells] (.agg (bG p).cells):=by
 refine aG aF Tryz.func284 (by kernel_rfl) rfl rfl rfl rfl (λst=> ?_)
 (try apply wO pk;rfl);(repeat' first|show Cn _;constructor|(refine aC ?_;refine ⟨_,_,_,rfl,zwr _,zsr _, ?_,rfl⟩;try rfl))
theorem kV (p:Pt):PF Tryz.prog 362 [.agg p.cells] (.agg (bL p).cells):=by
 refine aG aF Tryz.func362 (by kernel_rfl) rfl rfl rfl rfl (λst=> ?_)
 (try apply wO pk;rfl);(repeat' first|show Cn _;constructor|(refine aC ?_;refine ⟨_,_,_,rfl,zwr _,zsr _, ?_,rfl⟩;try rfl))
theorem qC (n a b:Int):PF Tryz.prog 360 [(.val (.int .i64 n)),(.val (.int .i64 a)),(.val (.int .i64 b))] (.val (.bool (withinB n a b))):=by
 refine aG aF Tryz.func360 (by kernel_rfl) rfl rfl rfl rfl (λst=> ?_)
 (try apply wO pk;rfl);(repeat' first|show Cn _;constructor|(refine aC ?_;refine ⟨_,_,_,rfl,zwr _,zsr _, ?_,rfl⟩;try rfl))
theorem iW (n:Nm):PF Tryz.prog 361 [.agg n.cells] (.val (.bool (mayN n))):=by
 refine aG aF Tryz.func361 (by kernel_rfl) rfl rfl rfl rfl (λst=> ?_)
 (try apply wO pk;rfl);(repeat' first|show Cn _;constructor|apply wE pk;rfl;rfl|(refine aC ?_;refine ⟨_,_,_,rfl,zwr _,zsr _, ?_,rfl⟩;try rfl)|(apply aH;rfl;rfl;rfl;(intro _;apply qC<;>first|assumption|omega);rotate_left;rfl;rfl))
theorem lK (p:Pt):PF Tryz.prog 283 [.agg p.cells] (.val (.bool (bS p))):=by
 refine aG aF Tryz.func283 (by kernel_rfl) rfl rfl rfl rfl (λst=> ?_)
 (try apply wO pk;rfl);(repeat' first|show Cn _;constructor|apply wE pk;rfl;rfl|(refine aC ?_;refine ⟨_,_,_,rfl,zwr _,zsr _, ?_,rfl⟩;try first|rfl|simp only [bS,Dt.eqz,Nm.eqz];done)|(apply aH;rfl;rfl;rfl;(intro _;(first|apply qC|apply (nE p)|apply (pM p)|apply (iW (aM p))|apply (iW (bG p)))<;>first|assumption|omega);rotate_left;rfl;rfl))
def aG4 (a:Sp):List PV:=[(PV.val (Value.int .i64 (a.time))),(PV.val (Value.int .i64 (a.dev))),(PV.val (Value.int .i64 (a.seq)))]
theorem mR (a:Sp):PF Tryz.prog 409 [.agg a.cells] (.agg (aG4 a)):=by
 refine aG aF Tryz.func409 (by kernel_rfl) rfl rfl rfl rfl (λst=> ?_)
 (try apply wO pk;rfl);(repeat' first|show Cn _;constructor|(refine aC ?_;refine ⟨_,_,_,rfl,zwr _,zsr _, ?_,rfl⟩;try rfl))
def agD :List Int->List Int->Int
 |[],[]=>0
 |[],_::_=> -1
 |_::_,[]=>1
 |a::l,b::m=>if iA a b=0 then agD l m else iA a b
theorem aeN {l m:List Int} {i:Nat} (h:i<l.length) (h2:i<m.length):agD (l.drop i) (m.drop i)=if iA l[i] m[i]=0 then agD (l.drop (i+1)) (m.drop (i+1)) else iA l[i] m[i]:=by
 rw [List.drop_eq_getElem_cons h,List.drop_eq_getElem_cons h2,agD]
theorem afD (l m:List Int) (hl:l.length<4611686018427387904):PF Tryz.prog 410 [.seq (l.map I1), .seq (m.map I1)] (.val (.int .i64 (agD l m))):=by
 refine aG aF Tryz.func410 (by kernel_rfl) rfl rfl rfl rfl (λst=> ?_)
 (try apply wO pk;rfl);(repeat' ((show Cn _;constructor)))
 refine aK (X:={x:Nat//x<=l.length/\x<=m.length/\agD (l.drop x) (m.drop x)=agD l m}) (λi=>((((((St.nil 36 st).pv 0 (.seq (l.map I1))).pv 1 (.seq (m.map I1))).pv 9 (.seq (l.map I1))).pv 10 ((PV.val (Value.int .i64 ((((l.map I1)).length:Nat)))))).pv 11 ((PV.val (Value.int .i64 ((i.1:Nat))))))) (λi=>l.length-i.1) ⟨0,by omega,by omega,by simp⟩ ?_ (λi=> ?_)
 ·((repeat refine Sub.pv ?_ rfl);exact Sub.nil _ _ _ (zsr _) rfl)
 obtain ⟨i,h1,h2,hinv⟩:=i
 dsimp only
 (try apply wO pk;rfl);(repeat' first|show Cn _;constructor|apply wC pk;rfl;rfl|apply wE pk;rfl;rfl|refine aB rfl ?_ ?_<;>intro h<;>(try simp at h)<;>try omega|(refine aC ?_;refine ⟨_,_,_,rfl,zwr _,zsr _, ?_,rfl⟩;try first|rfl|(rw [<-hinv];(first|rw [aeN (by omega) (by omega),zn ‹_›];done|rw [List.drop_eq_nil_of_le (show l.length<=i by omega),List.drop_eq_getElem_cons (show i<m.length by omega)];rfl|rw [List.drop_eq_nil_of_le (show l.length<=i by omega),List.drop_eq_nil_of_le (show m.length<=i by omega)];rfl|rw [List.drop_eq_nil_of_le (show m.length<=i by omega),List.drop_eq_getElem_cons (show i<l.length by omega)];rfl));done)|(apply aH;rfl;rfl;rfl;(intro _;apply (jE _ _)<;>first|assumption|omega);rotate_left;rfl;rfl)|apply aP pk;(iterate 6 rfl);rotate_left;rfl;(intro hw;rfl);(intro hw;apply aJ<;>omega);(intro _;rfl);rfl|refine ⟨⟨i+1,by omega,by omega,by rw [<-hinv,aeN (i:=i) (by omega) (by omega),zp ‹_›]⟩, ?_,by simp only;omega⟩;((repeat refine Sub.pv ?_ rfl);exact Sub.nil _ _ _ (zsr _) rfl)|intros;(try simp only [zql]);omega)
def aBV (a b:Sp):Int:=if a=b then 0 else agD [a.time,a.dev,a.seq] [b.time,b.dev,b.seq]
theorem auK (a b:Sp):PF Tryz.prog 389 [.agg a.cells, .agg b.cells] (.val (.int .i64 (aBV a b))):=by
 refine aG aF Tryz.func389 (by kernel_rfl) rfl rfl rfl rfl (λst=> ?_)
 (try apply wO pk;rfl);(repeat' first|apply aD1 5;rfl;rfl;rfl|apply aD1 6;rfl;rfl;rfl|show Cn _;constructor|apply wC pk;rfl;rfl|apply wE pk;rfl;rfl|apply wD pk [] [];kernel_rfl;rfl;rfl|refine aB rfl ?_ ?_<;>intro h<;>(try simp at h)<;>try omega|(refine aC ?_;refine ⟨_,_,_,rfl,zwr _,zsr _, ?_,rfl⟩;try first|rfl|(simp_all [aBV,Sp.ext_iff];done);done)|(apply aH;rfl;rfl;rfl;(intro _;(first|apply (mR a)|apply (mR b)|apply (afD [a.time,a.dev,a.seq] [b.time,b.dev,b.seq] (show 3<4611686018427387904 from by omega)))<;>first|assumption|omega);rotate_left;rfl;rfl)|apply slA pk (rows:=[a.time,a.dev,a.seq].map I1);(iterate 7 rfl);rotate_left;rfl;rfl|apply slA pk (rows:=[b.time,b.dev,b.seq].map I1);(iterate 7 rfl);rotate_left;rfl;rfl)
theorem aeY (a b:Int):iA a b<0↔a<b:=by unfold iA;split<;>(try split)<;>omega
theorem aCJ (a b:Int):iA a b=0↔a=b:=by unfold iA;split<;>(try split)<;>omega
theorem awN (a b:Sp):decide (aBV a b<0)=jL a b:=by
 unfold aBV jL
 by_cases h:a=b
 ·subst h;simp
 ·rw [zn h]
  simp only [agD,aCJ]
  by_cases h1:a.time=b.time
  ·by_cases h2:a.dev=b.dev
   ·have h3:¬a.seq=b.seq:=λe=>h ((Sp.ext_iff _ _).2 ⟨h1,h2,e⟩)
    simp [h1,h2,h3,aeY]
   ·simp [h1,h2,aeY]
  ·simp [h1,aeY]
theorem mI (a b:Sp):PF Tryz.prog 363 [.agg a.cells, .agg b.cells] (.val (.bool (jL a b))):=by
 rw [<-awN]
 refine aG aF Tryz.func363 (by kernel_rfl) rfl rfl rfl rfl (λst=> ?_)
 (try apply wO pk;rfl);(repeat' first|show Cn _;constructor|apply wE pk;rfl;rfl|(refine aC ?_;refine ⟨_,_,_,rfl,zwr _,zsr _, ?_,rfl⟩;try rfl)|(apply aH;rfl;rfl;rfl;(intro _;apply (auK a b)<;>first|assumption|omega);rotate_left;rfl;rfl))
theorem aGc {f:FuncId} {args:List PV} {st:aI} {R R':PV->aI->Prop} (h:PC Tryz.prog f args st R) (hr:∀p st',R p st'->∃q,Wk p q/\R' q st'):PC Tryz.prog f args st R':=
 ⟨h.1,λw g vs hm hv=>(h.2 w g vs hm hv).mono λe w' ⟨v,r,st',g',h1,h2,h3,h4⟩=>by
  obtain ⟨q,k1,k2⟩:=hr _ _ h2
  exact ⟨v,q,st',g',h1,k2,k1 _ _ h3,h4⟩⟩
theorem Wk.und (p:PV):Wk p .und:=λ_ _ _=>by simp [Rep]
def Nm.vals (k:Nm):List Value:=[.int .i64 k.dot.dev, .int .i64 k.dot.seq, .int .i64 k.at_]
def aDS (k:Dt):List Value:=[.int .i64 k.dev, .int .i64 k.seq]
def Nm.enc (k:Nm):Value:= .agg k.vals.toArray
def arD (k:Dt):Value:= .agg (aDS k).toArray
theorem Nm.key :KeyOK Tryz.prog 351 Nm.enc (λk=> .agg k.cells):=
 uC aF Nm.vals rfl rfl (λ_=>rfl) (λa b=>by show some ((decide (a.dot.dev=b.dot.dev)&&decide (a.dot.seq=b.dot.seq))&&decide (a.at_=b.at_))=_;rw [Dt.eqb,Nm.eqb]) (λ_=>rfl) (by kernel_rfl)
theorem aDQ :KeyOK Tryz.prog 59 arD (λk=> .agg k.cells):=
 uC aF aDS rfl rfl (λ_=>rfl) (λa b=>by show some (decide (a.dev=b.dev)&&decide (a.seq=b.seq))=_;rw [Dt.eqb]) (λ_=>rfl) (by kernel_rfl)
def ptF (p:Pt):PV:= .agg p.cells
def lZ (n:Int):PV:=(PV.val (Value.int .i64 (n)))
def dU (l:List Pt):List (Nm×Pt):=l.foldl (λm p=>cX (aM p) p m) []
def eK (l:List Pt):List (Dt×Int):=l.foldl (λm p=>cX p.dot p.time m) []
def sB (m:List (Nm×Pt)) (t:List (Dt×Int)) (p:Pt):Bool:= !((bW (aM p) m).isSome|| !bS p||(match bW p.dot t with|some x=>decide (x≠p.time)|none=>false))
def jH :List Pt->List (Nm×Pt)->List (Dt×Int)->Bool
 |[],_,_=>true
 |p::r,m,t=>sB m t p&&jH r (cX (aM p) p m) (cX p.dot p.time t)
def avL (m:List (Nm×Pt)) (p:Pt):Bool:=decide (bG p=Nm.zero)||(match bW (bG p) m with|some u=>eM u p|none=>false)
def fY (l:List Pt):Bool:=jH l [] []&&l.all (avL (dU l))
theorem aeT {l:List Pt} {i:Nat} (h:i<l.length):dU (l.take (i+1))=cX (aM l[i]) l[i] (dU (l.take i)):=by
 rw [List.take_succ_eq_append_getElem h,dU,List.foldl_append];rfl
theorem afH {l:List Pt} {i:Nat} (h:i<l.length):eK (l.take (i+1))=cX l[i].dot l[i].time (eK (l.take i)):=by
 rw [List.take_succ_eq_append_getElem h,eK,List.foldl_append];rfl
theorem ajW {l:List Pt} {i:Nat} (h:i<l.length) {m t}:jH (l.drop i) m t=(sB m t l[i]&&jH (l.drop (i+1)) (cX (aM l[i]) l[i] m) (cX l[i].dot l[i].time t)):=by
 rw [List.drop_eq_getElem_cons h];rfl
theorem yT (p q:Pt):PF Tryz.prog 285 [.agg p.cells, .agg q.cells] (.val (.bool (eM p q))):=by
 refine aG aF Tryz.func285 (by kernel_rfl) rfl rfl rfl rfl (λst=> ?_)
 (try apply wO pk;rfl);(repeat' first|show Cn _;constructor|apply wE pk;rfl;rfl|apply wD pk [] [];kernel_rfl;rfl;rfl|(refine aC ?_;refine ⟨_,_,_,rfl,zwr _,zsr _, ?_,rfl⟩;try first|rfl|simp only [eM,Sp.eqb];done)|(apply aH;rfl;rfl;rfl;(intro _;(first|apply (kV p)|apply (kV q)|apply (mI (bL p) (bL q)))<;>first|assumption|omega);rotate_left;rfl;rfl))
theorem aBB (l:List Pt) (st:aI) (hl:l.length<4611686018427387904):PC Tryz.prog 185 [.seq (l.map Pt.cells)] st λp st'=>(∃m,p= .tup [m,(.val (.bool (fY l)))])/\st'=st:=by
 refine cB aF Tryz.func185 (by kernel_rfl) rfl rfl rfl rfl ?_
 (try apply wO pk;rfl);(repeat' ((show Cn _;constructor)))
 refine mkM (enc:=Nm.enc) (f:=ptF) rfl (λid1 hid1=> ?_)
 (try apply wO pk;rfl);(repeat' first|show Cn _;constructor|apply wE pk;rfl;rfl)
 refine mkM (enc:=arD) (f:=lZ) rfl (λid2 hid2=> ?_)
 have hid1:st id1=none:=hid1
 have hne:id1≠id2:=by intro e;subst e;have:=hid2;simp only [St.put,St.pv,St.sst,aA] at this;cases this
 have hid2:st id2=none:=by have:=hid2;simp only [St.put,St.pv,St.sst] at this;exact (aD (Ne.symm hne)).symm.trans this
 have hne2:=Ne.symm hne
 (try apply wO pk;rfl);(repeat' first|show Cn _;constructor|apply wE pk;rfl;rfl)
 refine aK (X:={x:Nat//x<=l.length/\jH l [] []=jH (l.drop x) (dU (l.take x)) (eK (l.take x))}) (λi=>(((((((St.nil 94 (upd (upd st id1 (some (.map (aY Nm.enc ptF (dU (l.take i.1)))))) id2 (some (.map (aY arD lZ (eK (l.take i.1))))))).pv 0 (.seq (l.map Pt.cells))).pv 4 (.mref id1)).pv 5 (.mref id2)).pv 18 (.seq (l.map Pt.cells))).pv 19 ((PV.val (Value.int .i64 ((((l.map Pt.cells)).length:Nat)))))).pv 20 ((PV.val (Value.int .i64 ((i.1:Nat))))))) (λi=>l.length-i.1) ⟨0,by omega,rfl⟩ ?_ (λi=> ?_)
 ·(((repeat refine Sub.pv ?_ rfl);(exact Sub.nil _ _ _ (zsr _) rfl)))
 obtain ⟨i,hi,hinv⟩:=i
 dsimp only
 have hs:=λh:i<l.length=>ajW h (m:=dU (l.take i)) (t:=eK (l.take i))
 have hs1:=λh:i<l.length=>aeT h
 have hs2:=λh:i<l.length=>afH h
 (try apply wO pk;rfl);(repeat' first|show Cn _;constructor|apply wC pk;rfl;rfl|apply wE pk;rfl;rfl|apply wDm pk;rfl;kernel_rfl;rfl;rfl|refine aB rfl ?_ ?_<;>intro h<;>(try simp at h)<;>try omega|((try refine aC ?_);((refine ⟨_,_, ?zs,rfl,zwr _, ?zh, ?zr⟩;(case zh=>(refine bN ?_ ‹_›;(repeat refine bN ?_ ‹_›);exact zsr _));(case zr=>((have e:fY l=false:=(by unfold fY;rw [hinv,hs (by omega)];first|simp [sB, *];done|(rcases ‹_\/_›with q|q<;>simp [sB, *]));exact ⟨⟨.val (.map none),by rw [e]⟩,rfl⟩))))))|(apply aH;rfl;rfl;rfl;(intro _;(first|apply nE|apply lK)<;>first|assumption|omega);rotate_left;rfl;rfl)|apply aP pk;(iterate 6 rfl);rotate_left;rfl;(intro hw;rfl);(intro hw;apply aJ<;>omega);(intro _;rfl);rfl|(apply aAw pk Nm.key (f:=ptF);(iterate 5 rfl);rotate_left;rfl;((focus ((repeat (first|exact aA _ _ _|refine (aD ‹_›).trans ?_));done)));rfl;intro v hv;rotate_left;intro hv;rotate_left)|apply meA pk Nm.key (f:=ptF) (z:=Pt.zero);(iterate 6 rfl);((focus ((repeat (first|exact aA _ _ _|refine (aD ‹_›).trans ?_));done)));rfl|apply esA pk Nm.key (f:=ptF);(iterate 4 rfl);(exact aA _ _ _);rfl|(apply aAw pk aDQ (f:=lZ);(iterate 5 rfl);rotate_left;rfl;(exact aA _ _ _);rfl;intro v hv;rotate_left;intro hv;rotate_left)|apply muA pk aDQ (f:=lZ);(exact .inr rfl);(iterate 5 rfl);((focus ((repeat (first|exact aA _ _ _|refine (aD ‹_›).trans ?_));done)));rfl|(refine ⟨⟨i+1,by omega,by rw [hinv,hs (by omega),hs1 (by omega),hs2 (by omega)];simp [sB, *]⟩, ?_,by simp only;omega⟩;(simp only [hs1 (show i<l.length by omega),hs2 (show i<l.length by omega)]);(((repeat refine Sub.pv ?_ rfl);((refine Sub.nil _ _ _ (eY ?_) rfl;(simp only [St.pv,St.put,St.sst,St.setv,St.nil,St.var,fG]);(rw [aGW ‹_›]);first|done|rfl)))))|intros;(try simp only [zql]);omega)
 have e1:l.take i=l:=ztl (by omega)
 have w1:jH l [] []=true:=by rw [hinv,List.drop_eq_nil_of_le (by omega)];rfl
 refine aK (X:={x:Nat//x<=l.length/\(l.take x).all (avL (dU (l.take i)))=true}) (λy=>(((((St.nil 94 (upd (upd st id1 (some (.map (aY Nm.enc ptF (dU (l.take i)))))) id2 (some (.map (aY arD lZ (eK (l.take i))))))).pv 4 (.mref id1)).pv 65 (.seq (l.map Pt.cells))).pv 66 ((PV.val (Value.int .i64 ((((l.map Pt.cells)).length:Nat)))))).pv 67 ((PV.val (Value.int .i64 ((y.1:Nat))))))) (λy=>l.length-y.1) ⟨0,by omega,rfl⟩ ?_ (λy=> ?_)
 ·(((repeat refine Sub.pv ?_ rfl);(exact Sub.nil _ _ _ (zsr _) rfl)))
 clear hs hs1 hs2
 obtain ⟨y,hy,hall⟩:=y
 dsimp only
 (try apply wO pk;rfl);(repeat' first|show Cn _;constructor|apply wC pk;rfl;rfl|apply wE pk;rfl;rfl|refine aB rfl ?_ ?_<;>intro h<;>(try simp at h)<;>try omega|((try refine aC ?_);((refine ⟨_,_, ?zs,rfl,zwr _, ?zh, ?zr⟩;(case zh=>(refine bN ?_ ‹_›;(repeat refine bN ?_ ‹_›);exact zsr _));(case zr=>((first|have e:fY l=false:=(by unfold fY;simp only [e1] at*;rw [w1,Bool.true_and,List.all_eq_false];refine ⟨l[y]'‹_›,zgm _, ?_⟩;simp [avL,Nm.ext_iff,Dt.ext_iff,Nm.zero,Dt.zero,and_assoc, *];try (intros;omega));exact ⟨⟨.val (.map none),by rw [e]⟩,rfl⟩|have e:fY l=true:=(by unfold fY;simp only [e1] at*;rw [w1,Bool.true_and,<-hall,ztl (by omega)]);exact ⟨⟨.mref id1,by rw [e]⟩,rfl⟩))))))|(apply aH;rfl;rfl;rfl;(intro _;(first|apply pM|apply yT|apply (yT Pt.zero))<;>first|assumption|omega);rotate_left;rfl;rfl)|apply aP pk;(iterate 6 rfl);rotate_left;rfl;(intro hw;rfl);(intro hw;apply aJ<;>omega);(intro _;rfl);rfl|(apply aAw pk Nm.key (f:=ptF);(iterate 5 rfl);rotate_left;rfl;((focus ((repeat (first|exact aA _ _ _|refine (aD ‹_›).trans ?_));done)));rfl;intro v hv;rotate_left;intro hv;rotate_left)|refine ⟨⟨y+1,by omega,by simp only [e1] at*;rw [List.take_succ_eq_append_getElem (by omega),List.all_append,hall];simp [avL,Nm.ext_iff,Dt.ext_iff,Nm.zero,Dt.zero,and_assoc, *];try grind⟩, ?_,by simp only;omega⟩;(((repeat refine Sub.pv ?_ rfl);(exact Sub.nil _ _ _ (zsr _) rfl)))|intros;(try simp only [zql]);omega)
def eI (a b:Pt):Int:=if bL a=bL b then a.at_-b.at_ else if jL (bL b) (bL a) then-1 else 1
theorem mL {p:Pt} (h:bS p=true):0<=p.at_/\p.at_<=1999:=by
 simp only [bS,mayN,withinB,zba,zde] at h
 exact h.1.2.2
theorem iB (a b:Pt) (ha:bS a=true) (hb:bS b=true):PF Tryz.prog 288 [.agg a.cells, .agg b.cells] (.val (.int .i64 (eI a b))):=by
 have h1:=mL ha
 have h2:=mL hb
 refine aG aF Tryz.func288 (by kernel_rfl) rfl rfl rfl rfl (λst=> ?_)
 (try apply wO pk;rfl);(repeat' first|show Cn _;constructor|apply wC pk;rfl;rfl|apply wE pk;rfl;rfl|apply wD pk [] [];kernel_rfl;rfl;rfl|refine aB rfl ?_ ?_<;>intro h<;>(try simp at h)<;>try omega|(refine aC ?_;refine ⟨_,_,_,rfl,zwr _,zsr _, ?_,rfl⟩;try first|rfl|(simp only [eI,Sp.ext_iff];simp_all);done)|(apply aH;rfl;rfl;rfl;(intro _;(first|apply (kV a)|apply (kV b)|apply (mI (bL b) (bL a)))<;>first|assumption|omega);rotate_left;rfl;rfl)|intros;(try simp only [zql]);omega)
theorem atL (a:Sp):jL a a=false:=by simp [jL]
theorem acL (a b:Sp):jL a b=true↔a.time<b.time\/a.time=b.time/\(a.dev<b.dev\/a.dev=b.dev/\a.seq<b.seq):=by
 unfold jL
 split
 ·rw [zde];omega
 ·split
  ·rw [zde];omega
  ·rw [zde];omega
def fR (a b:Pt):Prop:=jL (bL b) (bL a)=true\/bL a=bL b/\a.at_<b.at_
theorem adQ (a b:Pt):eI a b<0↔fR a b:=by
 unfold eI fR
 by_cases h:bL a=bL b
 ·rw [zp h,h,atL];simp;omega
 ·rw [zn h]
  split
  ·rename_i h2;simp [h2]
  ·rename_i h2;simp [h2,h]
abbrev Fp :={p:Pt//bS p=true}
instance : Inhabited Fp:=⟨⟨⟨⟨1,0,e0⟩,⟨1,1⟩,0,1,Dt.zero,0,false⟩,by decide⟩⟩
def ayK (a b:Fp):Int:=eI a.1 b.1
theorem fB (a b:Pt):fR a b↔b.time<a.time\/b.time=a.time/\(b.dot.dev<a.dot.dev\/b.dot.dev=a.dot.dev/\(b.dot.seq<a.dot.seq\/b.dot.seq=a.dot.seq/\a.at_<b.at_)):=by
 unfold fR
 rw [acL,Sp.ext_iff]
 simp only [bL]
 omega
theorem awS :Go.Sort.SWO (ltOf ayK):=by
 have h:∀x y:Fp,ltOf ayK x y=true↔fR x.1 y.1:=λx y=>by rw [ltOf,zde];exact adQ _ _
 have hf:∀x y:Fp,ltOf ayK x y=false↔¬fR x.1 y.1:=λx y=>by rw [<-h,Bool.not_eq_true]
 refine ⟨λx=>(hf x x).2 ?_,λx y z h1 h2=> ?_,λx y z h1 h2=> ?_⟩
 ·rw [fB];omega
 ·rw [h,fB] at h1 h2⊢;omega
 ·rw [hf,fB] at h1 h2⊢;omega
def fO (l:List Pt) (k:Nm):List Pt:=l.filter λp=>decide (bG p=k)
theorem uQ {l:List Pt} {i:Nat} (h:i<l.length) (k:Nm):fO (l.take (i+1)) k=if bG l[i]=k then fO (l.take i) k++[l[i]] else fO (l.take i) k:=by
 unfold fO
 rw [List.take_succ_eq_append_getElem h,List.filter_append]
 by_cases hk:bG l[i]=k<;>simp [hk]
def zQ (x:Nat×Nat):PV:= .vec x.1 11 0 x.2
structure FamB (st:aI) (l:List Pt) (idm:Nat) (K:List (Nm×(Nat×Nat))) (S:aI):Prop where
 old:∀j,st j≠none->S j=st j
 hm:S idm=some (.map (aY Nm.enc zQ K))
 mf:st idm=none
 arr:∀k id n,(k,(id,n))∈K->S id=some (.arr 190 ((fO l k).map Pt.cells))/\n=(fO l k).length/\st id=none
 keys:(K.map (·.1)).Nodup
 ids:(K.map (·.2.1)).Nodup
 non:∀k,bW k K=none->fO l k=[]
theorem pT {K V:Type} [DecidableEq K] {k:K} {v:V}:∀{l:List (K×V)},bW k l=some v->(k,v)∈l
  |(k',v')::l,h=>by
    simp only [bW] at h
    split at h
    · rename_i e;injection h with h;subst h;subst e;simp
    · exact List.mem_cons_of_mem _ (pT h)
theorem yK (l:List Pt) (hl:l.length<4611686018427387904):PF Tryz.prog 185 [.seq (l.map Pt.cells)] (.tup [.und,(.val (.bool (fY l)))]):=λst=>
 aGc (aBB l st hl) λp st' ⟨⟨m,e⟩,h⟩=>⟨_,e▸Wk.tup (.cons (Wk.und m) (.cons (zwr _) .nil)),rfl,h⟩
theorem zF :Tryz.prog.bytesOf 190=96:=by kernel_rfl
theorem FamB.fresh {st S:aI} {l:List Pt} {idm:Nat} {K:List (Nm×(Nat×Nat))} (h:FamB st l idm K S) {id:Nat} (hid:S id=none):st id=none/\id≠idm/\∀k i n,(k,(i,n))∈K->id≠i:=by
 refine ⟨?_, ?_, ?_⟩
 ·cases hs:st id with
  |none=>rfl
  |some o=>have:=h.old id (by rw [hs];simp);rw [hid,hs] at this;cases this
 ·intro e;subst e;rw [h.hm] at hid;cases hid
 ·intro k i n hk e;subst e;rw [(h.arr k _ n hk).1] at hid;cases hid
theorem FamB.notm {st S:aI} {l:List Pt} {idm:Nat} {K:List (Nm×(Nat×Nat))} (h:FamB st l idm K S) {k:Nm} {i n:Nat} (hk:(k,(i,n))∈K):i≠idm:=by
 intro e;subst e;have:=(h.arr k _ n hk).1;rw [h.hm] at this;cases this
theorem qU {K V:Type} [DecidableEq K] (k k':K) (v:V):∀(l:List (K×V)),bW k' (cX k v l)=if k'=k then some v else bW k' l
 |[]=>by simp only [cX,bW]
 |e::l=>by
  have ih:=qU k k' v l
  simp only [cX]
  split
  ·rename_i h;simp only [bW];split<;>simp_all
  ·rename_i h;simp only [bW,ih];split
   ·rename_i h2;rw [zn (λe=>h (by rw [<-e,h2]))]
   ·rfl
theorem uI {K V:Type} [DecidableEq K] {k:K} {v:V} {x:K×V}:∀{l:List (K×V)},(l.map (·.1)).Nodup->x∈cX k v l->x=(k,v)\/x∈l/\x.1≠k
 |[],_,h=>by simp only [cX,zms] at h;exact .inl h
 |e::l,hn,h=>by
  simp only [zmp,List.nodup_cons] at hn
  simp only [cX] at h
  split at h
  ·rename_i he
   rcases zmc.1 h with h|h
   ·exact .inl h
   ·refine .inr ⟨List.mem_cons_of_mem _ h,λhh=>hn.1 ?_⟩
    rw [<-he,<-hh];exact List.mem_map.2 ⟨x,h,rfl⟩
  ·rename_i he
   rcases zmc.1 h with h|h
   ·subst h;exact .inr ⟨List.mem_cons_self,λhh=>he hh.symm⟩
   ·rcases uI hn.2 h with h|⟨h,h2⟩
    ·exact .inl h
    ·exact .inr ⟨List.mem_cons_of_mem _ h,h2⟩
theorem aaD {K V:Type} [DecidableEq K] {k:K} {v:V}:∀{l:List (K×V)},(l.map (·.1)).Nodup->((cX k v l).map (·.1)).Nodup
 |[],_=>by simp [cX]
 |e::l,hn=>by
  simp only [zmp,List.nodup_cons] at hn
  simp only [cX]
  split
  ·rename_i he;simp only [zmp,List.nodup_cons,he];exact hn
  ·rename_i he
   simp only [zmp,List.nodup_cons]
   refine ⟨λhm=> ?_,aaD hn.2⟩
   obtain ⟨x,hx,hxe⟩:=List.mem_map.1 hm
   rcases uI hn.2 hx with rfl|⟨h,_⟩
   ·exact he hxe
   ·exact hn.1 (List.mem_map.2 ⟨x,h,hxe⟩)
theorem aeJ {K V:Type} [DecidableEq K] {k:K} {v:V} {g:V->Nat}:∀{l:List (K×V)},(l.map λe=>g e.2).Nodup->(l.map (·.1)).Nodup->(∀e∈l,g e.2≠g v)->((cX k v l).map λe=>g e.2).Nodup
 |[],_,_,_=>by simp [cX]
 |e::l,hn,hk,hv=>by
  simp only [zmp,List.nodup_cons] at hn hk
  simp only [cX]
  split
  ·simp only [zmp,List.nodup_cons]
   refine ⟨λhm=> ?_,hn.2⟩
   obtain ⟨x,hx,hxe⟩:=List.mem_map.1 hm
   exact hv x (List.mem_cons_of_mem _ hx) hxe
  ·simp only [zmp,List.nodup_cons]
   refine ⟨λhm=> ?_,aeJ hn.2 hk.2 λx hx=>hv x (List.mem_cons_of_mem _ hx)⟩
   obtain ⟨x,hx,hxe⟩:=List.mem_map.1 hm
   rcases uI hk.2 hx with rfl|⟨h,_⟩
   ·exact hv e List.mem_cons_self hxe.symm
   ·exact hn.1 (List.mem_map.2 ⟨x,h,hxe⟩)
theorem uW {α:Type} {g:α->Nat}:∀{l:List α},(l.map g).Nodup->∀{a b},a∈l->b∈l->g a=g b->a=b
 |[],_,_,_,h,_,_=>by cases h
 |x::l,hn,a,b,ha,hb,e=>by
  simp only [zmp,List.nodup_cons] at hn
  rcases zmc.1 ha with ha|ha<;>rcases zmc.1 hb with hb|hb
  ·rw [ha,hb]
  ·exact (hn.1 (List.mem_map.2 ⟨b,hb,by rw [<-e,ha]⟩)).elim
  ·exact (hn.1 (List.mem_map.2 ⟨a,ha,by rw [e,hb]⟩)).elim
  ·exact uW hn.2 ha hb e
theorem FamB.step {st S S1:aI} {l:List Pt} {i:Nat} (hi:i<l.length) {idm id m:Nat} {K:List (Nm×(Nat×Nat))} (h:FamB st (l.take i) idm K S) (hid:S id=none) (hm:m=(fO (l.take i) (bG l[i])).length+1) (hS:∀j,(∀n,(bG l[i],(j,n))∉K)->S1 j=S j):
  FamB st (l.take (i+1)) idm (cX (bG l[i]) (id,m) K) (upd (upd S1 id (some (.arr 190 ((fO (l.take i) (bG l[i])++[l[i]]).map Pt.cells)))) idm (some (.map (aY Nm.enc zQ (cX (bG l[i]) (id,m) K))))):=by
 obtain ⟨f1,f2,f3⟩:=h.fresh hid
 refine ⟨λj hj=> ?_,aA _ _ _,h.mf,λk j n hx=> ?_,aaD h.keys,aeJ (g:=(·.1)) h.ids h.keys λe he=> ?_,λk hk'=> ?_⟩
 ·rw [aD (λe=>by subst e;exact hj h.mf),aD (λe=>by subst e;exact hj f1),hS j λn hn=>hj (h.arr _ j n hn).2.2];exact h.old j hj
 ·rcases uI h.keys hx with e|⟨hx,hne⟩
  ·simp only [Prod.mk.injEq] at e
   obtain ⟨rfl,rfl,rfl⟩:=e
   rw [uQ hi,zp rfl,aD f2,aA]
   exact ⟨rfl,by rw [hm];simp,f1⟩
  ·obtain ⟨a1,a2,a3⟩:=h.arr k j n hx
   rw [uQ hi,zn (Ne.symm hne),aD (h.notm hx),aD (λe=>f3 k j n hx e.symm),hS j λn' hn'=>hne ?_]
   ·exact ⟨a1,a2,a3⟩
   ·exact congrArg Prod.fst (uW h.ids hx hn' rfl)
 ·exact λe'=>f3 e.1 e.2.1 e.2.2 he e'.symm
 ·rw [qU] at hk'
  split at hk'
  ·cases hk'
  ·rename_i hne
   rw [uQ hi,zn (Ne.symm hne)]
   exact h.non k hk'
theorem FamB.nil {st:aI} {idm:Nat} (h:st idm=none):FamB st [] idm [] (upd st idm (some (.map (aY Nm.enc zQ [])))):=
 ⟨λj hj=>aD λe=>by subst e;exact hj h,aA _ _ _,h,λ_ _ _ h=>(by cases h),by simp,by simp,λ_ _=>rfl⟩
theorem akM (l:List Pt) (k:Nm):(fO l k).length<=l.length:=List.length_filter_le _ _
end
section
attribute [local irreducible] Ev PWp
set_option maxRecDepth 10000
set_option maxHeartbeats 4000000
theorem aCj :PF Tryz.prog 197 [(PV.val (Value.int .u64 ((0:Nat))))] (.val (.int .i64 ((0:Nat)))):=by
 refine aG aF Tryz.func197 (by kernel_rfl) rfl rfl rfl rfl (λst=> ?_)
 (try apply wO pk;rfl);(repeat' first|show Cn _;constructor|apply wC pk;rfl;rfl|apply wE pk;rfl;rfl|refine aB rfl ?_ ?_<;>intro h<;>(try simp at h)<;>try omega|(refine aC ?_;first|refine ⟨_,_,_,rfl,zwr _,zsr _, ?_,rfl⟩;(rfl)|refine ⟨_,_,_,rfl,zwr _,aL ‹_›, ?_,rfl⟩;(fail)|refine ⟨_,_,_,rfl,zwf _,zsr _, ?_,rfl⟩;(fail)|refine ⟨_,_,_,rfl,zwf _,aL ‹_›, ?_,rfl⟩;(fail)|(refine ⟨_,_,_,rfl,zwr _,zsr _, ?_,rfl⟩)|(refine ⟨_,_,_,rfl,zwf _,aL ‹_›, ?_,rfl⟩))|apply cvA pk.htt;(iterate 5 rfl);(refine ⟨?_, ?_⟩<;>(first|omega|decide));rfl|apply sxA pk.htt 0 0;(iterate 6 rfl);kernel_rfl;rfl|exact ⟨by decide,by decide⟩)
theorem aFI {y:Int} (hy:y=0):PF Tryz.prog 118 [(PV.val (Value.int .u64 (y)))] (.val (.int .i64 ((0:Nat)))):=by
 subst hy
 refine aG aF Tryz.func118 (by kernel_rfl) rfl rfl rfl rfl (λst=> ?_)
 (try apply wO pk;rfl);(repeat' first|show Cn _;constructor|apply wC pk;rfl;rfl|apply wE pk;rfl;rfl|apply gD;simp only [zqt,zqf]|(refine aC ?_;refine ⟨_,_,_,rfl,zwr _,zsr _, ?_,rfl⟩;try rfl)|(apply aH;rfl;rfl;rfl;(intro _;apply aCj<;>first|assumption|omega);rotate_left;rfl;rfl))
section
variable {fid:FuncId} {caps:List PV} {st:aI}
theorem aCv :PC Tryz.prog 390 [.seq [],(.val (.int .i64 0)),(.val (.int .i64 0)), .fn fid caps] st λ_ st'=>st'=st:=by
 refine cB aF Tryz.func390 (by kernel_rfl) rfl rfl rfl rfl ?_
 (try apply wO pk;rfl);(repeat' first|show Cn _;constructor|intros;(try simp only [zql]);omega)
 refine aK (X:=Unit) (λi=>((((((St.nil 53 st).pv 0 (.seq [])).pv 1 ((PV.val (Value.int .i64 (0))))).pv 2 ((PV.val (Value.int .i64 (0))))).pv 3 (.fn fid caps)).pv 8 ((PV.val (Value.int .i64 (1)))))) (λi=>0) () ?_ (λi=> ?_)
 ·((repeat refine Sub.pv ?_ rfl);exact Sub.nil _ _ _ (zsr _) rfl)
 (try apply wO pk;rfl);(repeat' first|show Cn _;constructor|apply wC pk;rfl;rfl|apply wX pk;rfl|refine aB rfl ?_ ?_<;>intro h<;>(try simp at h)<;>try omega|(try refine aC ?_);((refine ⟨_,_,_,rfl,zwr _,zsr _, ?_⟩;((rfl));done)))
theorem aB5 {lim:Int}:PC Tryz.prog 364 [.seq [],(.val (.int .i64 0)),(.val (.int .i64 0)),(.val (.int .i64 lim)), .fn fid caps] st λ_ st'=>st'=st:=by
 refine cB aF Tryz.func364 (by kernel_rfl) rfl rfl rfl rfl ?_
 (try apply wO pk;rfl);(repeat' ((show Cn _;constructor)))
 refine aK (X:=Unit) (λi=>((((((((St.nil 148 st).pv 0 (.seq [])).pv 1 ((PV.val (Value.int .i64 (0))))).pv 2 ((PV.val (Value.int .i64 (0))))).pv 3 ((PV.val (Value.int .i64 (lim))))).pv 4 (.fn fid caps)).pv 10 ((PV.val (Value.bool (true))))).pv 11 ((PV.val (Value.bool (true)))))) (λi=>0) () ?_ (λi=> ?_)
 ·((repeat refine Sub.pv ?_ rfl);exact Sub.nil _ _ _ (zsr _) rfl)
 (try apply wO pk;rfl);(repeat' first|show Cn _;constructor|apply wC pk;rfl;rfl|apply wE pk;rfl;rfl|refine aB rfl ?_ ?_<;>intro h<;>(try simp at h)<;>try omega|(try refine aC ?_);((refine ⟨_,_,_,rfl,zwr _,zsr _, ?_⟩;((rfl));done))|(apply cD;rfl;rfl;((apply aCv<;>first|exact aA _ _ _|assumption|omega|simp only [zqs];omega|(fail)));rfl;rfl;rfl;intro _ st' hR;(subst hR))|intros;(try simp only [zql]);omega)
theorem ayN :PC Tryz.prog 287 [.seq [], .fn fid caps] st λ_ st'=>st'=st:=by
 refine cB aF Tryz.func287 (by kernel_rfl) rfl rfl rfl rfl ?_
 (try apply wO pk;rfl);(repeat' first|show Cn _;constructor|apply wE pk;rfl;rfl|(try refine aC ?_);((refine ⟨_,_,_,rfl,zwr _,zsr _, ?_⟩;((rfl));done))|(apply aH;rfl;rfl;rfl;(intro _;apply (aFI rfl)<;>first|assumption|omega);rotate_left;rfl;rfl)|(apply cD;rfl;rfl;((apply aB5<;>first|exact aA _ _ _|assumption|omega|simp only [zqs];omega|(fail)));rfl;rfl;rfl;intro _ st' hR;(subst hR))|apply cvA pk.htt;(iterate 5 rfl);(refine ⟨?_, ?_⟩<;>(first|omega|decide));rfl)
end
theorem aoN {S:aI} {l:List Pt} {id n:Nat} (hf:∀p∈l,bS p=true) (hst:S id=some (.arr 190 (l.map Pt.cells))) (hn:l.length=n) (h62:n<4611686018427387904):
  PC Tryz.prog 287 [.vec id 11 0 n, .fn 288 []] S λ_ S'=>∃R:List Pt,S'=upd S id (some (.arr 190 (R.map Pt.cells)))/\R.Perm l/\R.Pairwise λx y=>¬fR y x:=by
 have e:(l.attach.map λx=>(⟨x.1,hf x.1 x.2⟩:Fp)).map (λx=>([.int .i64 x.1.val.kind, .int .i64 x.1.val.n, .string x.1.val.s, .int .i64 x.1.dot.dev, .int .i64 x.1.dot.seq, .int .i64 x.1.at_, .int .i64 x.1.time, .int .i64 x.1.after.dev, .int .i64 x.1.after.seq, .int .i64 x.1.afterAt, .bool x.1.gone]:List Value).map PV.val)=l.map Pt.cells:=by
  rw [List.map_map]
  show l.attach.map (λx=>Pt.cells x.1)=_
  rw [List.attach_map_val]
 have:=aA4 (P:=Tryz.prog) aG9 (by kernel_rfl) (k:=11) Tryz.isAgg190 Tryz.sizeOf190 (enc:=λx:Fp=>[.int .i64 x.1.val.kind, .int .i64 x.1.val.n, .string x.1.val.s, .int .i64 x.1.dot.dev, .int .i64 x.1.dot.seq, .int .i64 x.1.at_, .int .i64 x.1.time, .int .i64 x.1.after.dev, .int .i64 x.1.after.seq, .int .i64 x.1.afterAt, .bool x.1.gone]) (λ_=>rfl) (λx v hv=>by simp only [zmc,List.not_mem_nil,or_false] at hv;rcases hv with rfl|rfl|rfl|rfl|rfl|rfl|rfl|rfl|rfl|rfl|rfl<;>rfl) (cmp:=ayK) awS
  (gf:=288) (by kernel_rfl) (λx y=>iB x.1 y.1 x.2 y.2) (st:=S) (id:=id) (n:=n) (d:=l.attach.map λx=>⟨x.1,hf x.1 x.2⟩) (e:=190) (by kernel_rfl) (by rw [e];exact hst) (by simpa using hn) h62
 refine ⟨this.1,λw g vs h1 h2=>(this.2 w g vs h1 h2).mono ?_⟩
 rintro e w' ⟨v,q,S',g',h3,⟨r,hS,hp,hw⟩,h4⟩
 refine ⟨v,q,S',g',h3,⟨r.map (·.1), ?_, ?_, ?_⟩,h4⟩
 ·rw [hS,List.map_map];rfl
 ·have:=hp.map (·.1)
  rwa [List.map_map,show ((λx:Fp=>x.1)∘λx:{x//x∈l}=>(⟨x.1,hf x.1 x.2⟩:Fp))=Subtype.val from rfl,List.attach_map_subtype_val] at this
 ·rw [List.pairwise_map]
  exact hw.imp fun {a b} h=>by rwa [ayK,adQ] at h
end
end Go.Proofs.YtloecjjehapblaaGreatDoor.T
