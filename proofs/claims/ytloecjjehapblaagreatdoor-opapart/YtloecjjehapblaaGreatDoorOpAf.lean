import Derived.Test.YtloecjjehapblaaGreatDoorOpAe
import Derived.Test.YtloecjjehapblaaGreatDoorAbsF
import Derived.Test.YtloecjjehapblaaGreatDoorRows
import Derived.SizedLaws
import Derived.LaidMore
import Derived.LaidOnce
import Derived.LaidHandle
import Derived.Test.YtloecjjehapblaaGreatDoorOpAa
import Derived.Test.YtloecjjehapblaaGreatDoorAbsE
import Derived.Test.YtloecjjehapblaaGreatDoorAbsSort
import Derived.Sort.LotD5
set_option linter.unusedSimpArgs false
set_option linter.unusedVariables false
namespace Go.Proofs.YtloecjjehapblaaGreatDoor
open Go Go.Abs Go.ChangeShapes Go.WideShapes Go.ChangeAt Go.RowKit
set_option maxRecDepth 10000
theorem own :ownKnob Tryz.prog.godebug=none:=by kernel_rfl
theorem laid :laidOutB Tryz.prog=true:=by kernel_rfl
theorem full (t e:TypeId) (h:t<Tryz.prog.types.size) (hu:Tryz.prog.underlying t=some (.slice e)):0<Tryz.prog.cellsOf e:=
 of_decide_eq_true (adZ (λ_ e=>decide (0<Tryz.prog.cellsOf e)) (by kernel_rfl) t e h hu)
theorem aBQ (t e:TypeId) (h:t<Tryz.prog.types.size) (hu:Tryz.prog.underlying t=some (.slice e)):1<=Tryz.prog.bytesOf e:=
 of_decide_eq_true (adZ (λ_ e=>decide (1<=Tryz.prog.bytesOf e)) (by kernel_rfl) t e h hu)
theorem wP {α:Type} {f:α->List PV} {Q:α->Prop} {rows:List (List PV)} (h:∀r∈rows,∃a,r=f a/\Q a):∃l:List α,rows=l.map f/\l.length=rows.length/\∀a∈l,Q a:=by
 obtain ⟨l,rfl,hl⟩:=aA2 h
 exact ⟨l,rfl,by simp,hl⟩
section
theorem akC {N n:Nat} {ps:List PV} (h:bK Tryz.prog N n 57 ps):∃v:Vl,ps=v.cells:=by
 obtain ⟨m,pss,_,rfl,h2⟩:=cA aD rfl h
 cases h2 with|cons ha h2=>cases h2 with|cons hb h2=>cases h2 with|cons hc h2=>cases h2 with|nil=>
 obtain ⟨a,rfl,_⟩:=bL aD rfl ha
 obtain ⟨b,rfl,_⟩:=bL aD rfl hb
 obtain ⟨c,rfl,_⟩:=vZ aD rfl hc
 exact ⟨⟨a,b,c⟩,rfl⟩
theorem arP {N n:Nat} {ps:List PV} (h:bK Tryz.prog N n 59 ps):∃v:Dt,ps=v.cells:=by
 obtain ⟨m,pss,_,rfl,h2⟩:=cA aD rfl h
 cases h2 with|cons ha h2=>cases h2 with|cons hb h2=>cases h2 with|nil=>
 obtain ⟨a,rfl,_⟩:=bL aD rfl ha
 obtain ⟨b,rfl,_⟩:=bL aD rfl hb
 exact ⟨⟨a,b⟩,rfl⟩
theorem aF7 {N n:Nat} {ps:List PV} (h:bK Tryz.prog N n 190 ps):∃v:Pt,ps=v.cells:=by
 obtain ⟨m,pss,_,rfl,h2⟩:=cA aD rfl h
 cases h2 with|cons ha h2=>cases h2 with|cons hb h2=>cases h2 with|cons hc h2=>cases h2 with|cons hd h2=>cases h2 with|cons he h2=>cases h2 with|cons hf h2=>cases h2 with|cons hg h2=>cases h2 with|nil=>
 obtain ⟨a,rfl⟩:=akC ha
 obtain ⟨b,rfl⟩:=arP hb
 obtain ⟨c,rfl,_⟩:=bL aD rfl hc
 obtain ⟨d,rfl,_⟩:=bL aD rfl hd
 obtain ⟨e,rfl⟩:=arP he
 obtain ⟨f,rfl,_⟩:=bL aD rfl hf
 obtain ⟨g,rfl⟩:=abG aD rfl hg
 exact ⟨⟨a,b,c,d,e,f,g⟩,rfl⟩
def CB (c:Cl):Prop:=c.parts.length<=reachBytes
theorem aGn {n:Nat} {ps:List PV} (h:bK Tryz.prog reachBytes n 80 ps):∃v:Cl,ps=v.cells/\CB v:=by
 obtain ⟨m,pss,_,rfl,h2⟩:=cA aD rfl h
 cases h2 with|cons ha h2=>cases h2 with|cons hb h2=>cases h2 with|cons hc h2=>cases h2 with|nil=>
 obtain ⟨a,rfl,_⟩:=bL aD rfl ha
 obtain ⟨b,rfl⟩:=akC hb
 obtain ⟨_,rows,_,rfl,hl,hr⟩:=cK aD rfl hc
 obtain ⟨c,rfl⟩:=qR (f:=Pt.cells) λr hr'=>aF7 (hr r hr')
 exact ⟨⟨a,b,c⟩,rfl,by show c.length<=_;simpa using hl⟩
def LB (l:Ln):Prop:=l.cells_.length<=reachBytes/\l.by_.length<=reachBytes/\∀c∈l.cells_,CB c
theorem aFR {n:Nat} {ps:List PV} (h:bK Tryz.prog reachBytes n 67 ps):∃v:Ln,ps=v.cells/\LB v:=by
 obtain ⟨m,pss,_,rfl,h2⟩:=cA aD rfl h
 cases h2 with|cons ha h2=>cases h2 with|cons hb h2=>cases h2 with|cons hc h2=>cases h2 with|nil=>
 obtain ⟨a,rfl,_⟩:=bL aD rfl ha
 obtain ⟨_,rows,_,rfl,hl,hr⟩:=cK aD rfl hb
 obtain ⟨b,rfl,hbl,hq⟩:=wP λr hr'=>aGn (hr r hr')
 obtain ⟨_,rows2,_,rfl,hl2,hr2⟩:=cK aD rfl hc
 obtain ⟨c,rfl⟩:=qR (f:=Dt.cells) λr hr'=>arP (hr2 r hr')
 exact ⟨⟨a,b,c⟩,rfl,by simpa using hl,by simpa using hl2,hq⟩
def DB (d:Da):Prop:=d.lines.length<=reachBytes/\∀l∈d.lines,LB l
theorem aF3 {n:Nat} {ps:List PV} (h:bK Tryz.prog reachBytes n 86 ps):∃v:Da,ps=v.cells/\DB v:=by
 obtain ⟨m,pss,_,rfl,h2⟩:=cA aD rfl h
 cases h2 with|cons hb h2=>cases h2 with|nil=>
 obtain ⟨_,rows,_,rfl,hl,hr⟩:=cK aD rfl hb
 obtain ⟨b,rfl,hbl,hq⟩:=wP λr hr'=>aFR (hr r hr')
 exact ⟨⟨b⟩,rfl,by simpa using hl,hq⟩
def BB (b:Bs):Prop:=b.length<=reachBytes/\∀d∈b,DB d
theorem aBJ {n:Nat} {ps:List PV} (h:bK Tryz.prog reachBytes n 27 ps):∃v:{b:Bs//BB b},ps=bsC v.1:=by
 obtain ⟨m,pss,_,rfl,h2⟩:=cA aD rfl h
 cases h2 with|cons hb h2=>cases h2 with|nil=>
 obtain ⟨_,rows,_,rfl,hl,hr⟩:=cK aD rfl hb
 obtain ⟨b,rfl,hbl,hq⟩:=wP λr hr'=>aF3 (hr r hr')
 exact ⟨⟨b,by simpa using hl,hq⟩,rfl⟩
theorem LB.c {l:Ln} (h:LB l):l.cells_.length<4611686018427387904:=Nat.lt_of_le_of_lt h.1 (by decide)
theorem BB.b {b:Bs} (h:BB b):BsB b:=⟨Nat.lt_of_le_of_lt h.1 (by decide),λd hd=>⟨Nat.lt_of_le_of_lt (h.2 d hd).1 (by decide),λl hl=>((h.2 d hd).2 l hl).c⟩⟩
theorem iH {N:Nat} {t:TypeId} {p:PV} (ha:kH tt t=some true) (h:pZ Tryz.prog N t p):∃n cs,p= .agg cs/\bK Tryz.prog N n t cs:=by
 obtain ⟨n,⟨_,cs,h1,h2⟩|⟨h1,_⟩⟩:=h
 ·exact ⟨n,cs,h1,h2⟩
 ·rw [(cB aD ha).1] at h1;cases h1
theorem sG {N:Nat} {t:TypeId} {p:PV} (ha:kH tt t=some false) (h:pZ Tryz.prog N t p):∃n,bK Tryz.prog N n t [p]:=by
 obtain ⟨n,⟨h1,_⟩|⟨_,h2⟩⟩:=h
 ·rw [(cB aD ha).1] at h1;cases h1
 ·exact ⟨n,h2⟩
end
end Go.Proofs.YtloecjjehapblaaGreatDoor
namespace Go.Proofs.YtloecjjehapblaaGreatDoor
open Go
set_option maxRecDepth 100000
noncomputable def wL (os:Os):World:={World.doorLaid Tryz.prog 19 os with heap:=(World.doorLaid Tryz.prog 19 os).heap.setIfInBounds 1 (.cells (Pinned.utf8FirstZ.map λn:Nat=>Value.int .u8 (n:Int)).toArray 450 (0,0))}
theorem vD (os:Os) (args:Array Value):((wL os).forCall (λ_ _=>0) ⟨#[],args,[]⟩).Shaped Tryz.prog:=World.shaped_of_RefB (by kernel_rfl) (by kernel_rfl)
theorem arC (os : Os) (args : Array Value) : laidMetH Tryz.prog [("unicode/utf8.acceptRanges", Rows.laid_unicode_utf8_acceptRanges), ("unicode/utf8.first", Rows.laid_unicode_utf8_first)] ((wL os).forCall (λ_ _ => 0) ⟨#[], args, []⟩).memory :=
  laidMetH_of_parts3 (fuel:=8) (laidMet_of_run' 8 (by kernel_rfl) (by kernel_rfl)) (by kernel_rfl) (by kernel_rfl)
end Go.Proofs.YtloecjjehapblaaGreatDoor
namespace Go.Proofs.YtloecjjehapblaaGreatDoor
open Go Go.Abs
set_option maxRecDepth 10000
set_option maxHeartbeats 4000000
theorem pN {a b c:Dt} (h1:bI b a=true) (h2:bI c b=true):bI c a=true:=by
 unfold bI at*
 simp only [Bool.or_eq_true,zba,zde] at*
 omega
theorem wF {a b:Dt} (h:bI a b=false) (hne:a≠b):bI b a=true:=by
 rw [Ne,Dt.ext_iff] at hne
 unfold bI at*
 simp only [Bool.or_eq_true,zba,zde,Bool.or_eq_false_iff,Bool.and_eq_false_iff,decide_eq_false_iff_not] at*
 omega
def auH (l:List Dt):Prop:=l.Pairwise λa b=>bI b a=true
def axW (l:List Dt) (d:Dt):List Dt:=if d∈l then l else cJ l (fN l d) [d]
theorem akV (l:Ln) (d:Dt):cV l d={l with by_:=axW l.by_ d}:=by
 unfold cV axW
 split<;>rfl
theorem aiF (l:List Dt) (d x:Dt):x∈axW l d↔x=d\/x∈l:=by
 unfold axW
 split
 ·rename_i h
  exact ⟨.inr,λq=>by rcases q with rfl|q<;>assumption⟩
 ·unfold cJ
  have e:=List.take_append_drop (fN l d) l
  conv=>rhs;rw [<-e]
  simp only [zma,zms]
  grind
theorem avJ {l:List Dt} (h:auH l) (d:Dt):auH (axW l d):=by
 unfold axW
 split
 ·exact h
 rename_i hd
 unfold cJ auH
 have e:=List.take_append_drop (fN l d) l
 have hp:=h
 unfold auH at hp
 rw [<-e,List.pairwise_append] at hp
 have hlo:∀x∈l.take (fN l d),bI d x=true:=λx hx=>by
  obtain ⟨q,hq,rfl⟩:=zgo hx
  rw [zlt] at hq
  rw [List.getElem_take]
  exact wF (aB1 (by omega) (by omega)) λq=>hd (q▸zgm _)
 have hhi:∀x∈l.drop (fN l d),bI x d=true:=λx hx=>by
  obtain ⟨q,hq,rfl⟩:=zgo hx
  rw [zld] at hq
  rw [List.getElem_drop]
  have h0:=aAN (L:=l) rfl (show fN l d<l.length by omega)
  rcases Nat.eq_zero_or_pos q with rfl|hq0
  ·exact h0
  ·exact pN h0 (List.pairwise_iff_getElem.1 h _ _ (by omega) (by omega) (by omega))
 rw [List.pairwise_append,List.pairwise_append]
 refine ⟨⟨hp.1,List.pairwise_singleton ..,λx hx y hy=> ?_⟩,hp.2.1,λx hx y hy=> ?_⟩
 ·rw [zms.1 hy];exact hlo x hx
 ·rcases zma.1 hx with q|q
  ·exact hp.2.2 x q y hy
  ·rw [zms.1 q];exact hhi y hy
def upR (l:List Dt) (k:Nat):Bool:=decide (k=0)||bI l[k]! l[k-1]!
theorem aEb {l:List Dt} (h:∀k<l.length,upR l k=true):auH l:=by
 have key:∀j (hj:j<l.length) i (hi:i<j),bI l[j] (l[i]'(by omega))=true:=by
  intro j
  induction j with
  |zero=>intro _ i hi;exact absurd hi (Nat.not_lt_zero _)
  |succ j ih=>
   intro hj i hi
   have:=h (j+1) hj
   unfold upR at this
   rw [getElem!_pos l (j+1) hj,show j+1-1=j from rfl,getElem!_pos l j (by omega)] at this
   have this:bI l[j+1] l[j]=true:=by simpa using this
   rcases zls.1 hi with q|q
   ·exact pN (ih (by omega) i q) this
   ·subst q;exact this
 exact List.pairwise_iff_getElem.2 λi j hi hj hij=>key j hj i hij
end Go.Proofs.YtloecjjehapblaaGreatDoor
namespace Go.Proofs.YtloecjjehapblaaGreatDoor.T
open Go Go.Abs
section
set_option maxRecDepth 10000
set_option maxHeartbeats 4000000
structure Sp where
 time:Int
 dev:Int
 seq:Int
 deriving DecidableEq,Inhabited
def Sp.cells (a:Sp):List PV:=[.val (.int .i64 (a.time)), .val (.int .i64 (a.dev)), .val (.int .i64 (a.seq))]
def Sp.zero :Sp:=⟨0,0,0⟩
theorem Sp.ext_iff (a b:Sp):a=b↔a.time=b.time/\a.dev=b.dev/\a.seq=b.seq:=by cases a;cases b;simp
theorem Sp.eqb (a b:Sp):(decide (a.time=b.time)&&(decide (a.dev=b.dev)&&(decide (a.seq=b.seq))))=decide (a=b):=by rw [Bool.eq_iff_iff];simp [Sp.ext_iff]
structure Nm where
 dot:Dt
 at_:Int
 deriving DecidableEq,Inhabited
def Nm.cells (a:Nm):List PV:=[.val (.int .i64 (a.dot.dev)), .val (.int .i64 (a.dot.seq)), .val (.int .i64 (a.at_))]
def Nm.zero :Nm:=⟨Dt.zero,0⟩
theorem Nm.ext_iff (a b:Nm):a=b↔a.dot=b.dot/\a.at_=b.at_:=by cases a;cases b;simp
theorem Nm.eqb (a b:Nm):(decide (a.dot=b.dot)&&(decide (a.at_=b.at_)))=decide (a=b):=by rw [Bool.eq_iff_iff];simp [Nm.ext_iff]
theorem Nm.eqz (a:Nm):(decide (a.dot=Dt.zero)&&(decide (a.at_=0)))=decide (a=Nm.zero):=by rw [Bool.eq_iff_iff];simp [Nm.ext_iff,Nm.zero]
end
section
attribute [local irreducible] Ev PWp
set_option maxRecDepth 10000
set_option maxHeartbeats 4000000
def aP (p:Pt):Nm:=⟨p.dot,p.at_⟩
def bH (p:Pt):Nm:=⟨p.after,p.afterAt⟩
def bN (p:Pt):Sp:=⟨p.time,p.dot.dev,p.dot.seq⟩
def withinB (n a b:Int):Bool:=decide (n>=a)&&decide (n<=b)
def mayN (n:Nm):Bool:=(withinB n.dot.dev 1 64&&withinB n.dot.seq 1 1048576)&&withinB n.at_ 0 1999
def bZ (p:Pt):Bool:=((((decide (p.val.kind=1)&&decide (p.val.s=e0))&&withinB p.val.n 0 255)&&withinB p.time 1 1125899906842624)&&mayN (aP p))&&(decide (bH p=Nm.zero)||mayN (bH p))
def jH (a b:Sp):Bool:=if a.time≠b.time then decide (a.time<b.time) else if a.dev≠b.dev then decide (a.dev<b.dev) else decide (a.seq<b.seq)
def eO (p q:Pt):Bool:=jH (bN p) (bN q)||(decide (bN p=bN q)&&decide (p.at_<q.at_))
theorem nE (p:Pt):PF Tryz.prog 282 [.agg p.cells] (.agg (aP p).cells):=by
 refine aG aD Tryz.func282 (by kernel_rfl) rfl rfl rfl rfl (λst=> ?_)
 (try apply wO pk;rfl);(repeat' first|show Cn _;constructor|(refine aB ?_;refine ⟨_,_,_,rfl,zwr _,zsr _, ?_,rfl⟩;try rfl))
theorem pJ (p:Pt):PF Tryz.prog 284 [.agg p.cells] (.agg (bH p).cells):=by
 refine aG aD Tryz.func284 (by kernel_rfl) rfl rfl rfl rfl (λst=> ?_)
 (try apply wO pk;rfl);(repeat' first|show Cn _;constructor|(refine aB ?_;refine ⟨_,_,_,rfl,zwr _,zsr _, ?_,rfl⟩;try rfl))
theorem kT (p:Pt):PF Tryz.prog 362 [.agg p.cells] (.agg (bN p).cells):=by
 refine aG aD Tryz.func362 (by kernel_rfl) rfl rfl rfl rfl (λst=> ?_)
 (try apply wO pk;rfl);(repeat' first|show Cn _;constructor|(refine aB ?_;refine ⟨_,_,_,rfl,zwr _,zsr _, ?_,rfl⟩;try rfl))
theorem pX (n a b:Int):PF Tryz.prog 360 [(.val (.int .i64 n)),(.val (.int .i64 a)),(.val (.int .i64 b))] (.val (.bool (withinB n a b))):=by
 refine aG aD Tryz.func360 (by kernel_rfl) rfl rfl rfl rfl (λst=> ?_)
 (try apply wO pk;rfl);(repeat' first|show Cn _;constructor|(refine aB ?_;refine ⟨_,_,_,rfl,zwr _,zsr _, ?_,rfl⟩;try rfl))
theorem iN (n:Nm):PF Tryz.prog 361 [.agg n.cells] (.val (.bool (mayN n))):=by
 refine aG aD Tryz.func361 (by kernel_rfl) rfl rfl rfl rfl (λst=> ?_)
 (try apply wO pk;rfl);(repeat' first|show Cn _;constructor|apply wE pk;rfl;rfl|(refine aB ?_;refine ⟨_,_,_,rfl,zwr _,zsr _, ?_,rfl⟩;try rfl)|(apply aH;rfl;rfl;rfl;(intro _;apply pX<;>first|assumption|omega);rotate_left;rfl;rfl))
theorem lF (p:Pt):PF Tryz.prog 283 [.agg p.cells] (.val (.bool (bZ p))):=by
 refine aG aD Tryz.func283 (by kernel_rfl) rfl rfl rfl rfl (λst=> ?_)
 (try apply wO pk;rfl);(repeat' first|show Cn _;constructor|apply wE pk;rfl;rfl|(refine aB ?_;refine ⟨_,_,_,rfl,zwr _,zsr _, ?_,rfl⟩;try first|rfl|simp only [bZ,Dt.eqz,Nm.eqz];done)|(apply aH;rfl;rfl;rfl;(intro _;(first|apply pX|apply (nE p)|apply (pJ p)|apply (iN (aP p))|apply (iN (bH p)))<;>first|assumption|omega);rotate_left;rfl;rfl))
def aGJ (a:Sp):List PV:=[(PV.val (Value.int .i64 (a.time))),(PV.val (Value.int .i64 (a.dev))),(PV.val (Value.int .i64 (a.seq)))]
theorem mP (a:Sp):PF Tryz.prog 409 [.agg a.cells] (.agg (aGJ a)):=by
 refine aG aD Tryz.func409 (by kernel_rfl) rfl rfl rfl rfl (λst=> ?_)
 (try apply wO pk;rfl);(repeat' first|show Cn _;constructor|(refine aB ?_;refine ⟨_,_,_,rfl,zwr _,zsr _, ?_,rfl⟩;try rfl))
def ahE :List Int->List Int->Int
 |[],[]=>0
 |[],_::_=> -1
 |_::_,[]=>1
 |a::l,b::m=>if gV a b=0 then ahE l m else gV a b
theorem afL {l m:List Int} {i:Nat} (h:i<l.length) (h2:i<m.length):ahE (l.drop i) (m.drop i)=if gV l[i] m[i]=0 then ahE (l.drop (i+1)) (m.drop (i+1)) else gV l[i] m[i]:=by
 rw [List.drop_eq_getElem_cons h,List.drop_eq_getElem_cons h2,ahE]
theorem agH (l m:List Int) (hl:l.length<4611686018427387904):PF Tryz.prog 410 [.seq (l.map I1), .seq (m.map I1)] (.val (.int .i64 (ahE l m))):=by
 refine aG aD Tryz.func410 (by kernel_rfl) rfl rfl rfl rfl (λst=> ?_)
 (try apply wO pk;rfl);(repeat' ((show Cn _;constructor)))
 refine aK (X:={x:Nat//x<=l.length/\x<=m.length/\ahE (l.drop x) (m.drop x)=ahE l m}) (λi=>((((((St.nil 36 st).pv 0 (.seq (l.map I1))).pv 1 (.seq (m.map I1))).pv 9 (.seq (l.map I1))).pv 10 ((PV.val (Value.int .i64 ((((l.map I1)).length:Nat)))))).pv 11 ((PV.val (Value.int .i64 ((i.1:Nat))))))) (λi=>l.length-i.1) ⟨0,by omega,by omega,by simp⟩ ?_ (λi=> ?_)
 ·((repeat refine Sub.pv ?_ rfl);exact Sub.nil _ _ _ (zsr _) rfl)
 obtain ⟨i,h1,h2,hinv⟩:=i
 dsimp only
 (try apply wO pk;rfl);(repeat' first|show Cn _;constructor|apply wC pk;rfl;rfl|apply wE pk;rfl;rfl|refine aA rfl ?_ ?_<;>intro h<;>(try simp at h)<;>try omega|(refine aB ?_;refine ⟨_,_,_,rfl,zwr _,zsr _, ?_,rfl⟩;try first|rfl|(rw [<-hinv];(first|rw [afL (by omega) (by omega),zn ‹_›];done|rw [List.drop_eq_nil_of_le (show l.length<=i by omega),List.drop_eq_getElem_cons (show i<m.length by omega)];rfl|rw [List.drop_eq_nil_of_le (show l.length<=i by omega),List.drop_eq_nil_of_le (show m.length<=i by omega)];rfl|rw [List.drop_eq_nil_of_le (show m.length<=i by omega),List.drop_eq_getElem_cons (show i<l.length by omega)];rfl));done)|(apply aH;rfl;rfl;rfl;(intro _;apply (iW _ _)<;>first|assumption|omega);rotate_left;rfl;rfl)|apply aO pk;(iterate 6 rfl);rotate_left;rfl;(intro hw;rfl);(intro hw;apply aI<;>omega);(intro _;rfl);rfl|refine ⟨⟨i+1,by omega,by omega,by rw [<-hinv,afL (i:=i) (by omega) (by omega),zp ‹_›]⟩, ?_,by simp only;omega⟩;((repeat refine Sub.pv ?_ rfl);exact Sub.nil _ _ _ (zsr _) rfl)|intros;(try simp only [zql]);omega)
def aCq (a b:Sp):Int:=if a=b then 0 else ahE [a.time,a.dev,a.seq] [b.time,b.dev,b.seq]
theorem avV (a b:Sp):PF Tryz.prog 389 [.agg a.cells, .agg b.cells] (.val (.int .i64 (aCq a b))):=by
 refine aG aD Tryz.func389 (by kernel_rfl) rfl rfl rfl rfl (λst=> ?_)
 (try apply wO pk;rfl);(repeat' first|apply aEt 5;rfl;rfl;rfl|apply aEt 6;rfl;rfl;rfl|show Cn _;constructor|apply wC pk;rfl;rfl|apply wE pk;rfl;rfl|apply wD pk [] [];kernel_rfl;rfl;rfl|refine aA rfl ?_ ?_<;>intro h<;>(try simp at h)<;>try omega|(refine aB ?_;refine ⟨_,_,_,rfl,zwr _,zsr _, ?_,rfl⟩;try first|rfl|(simp_all [aCq,Sp.ext_iff];done);done)|(apply aH;rfl;rfl;rfl;(intro _;(first|apply (mP a)|apply (mP b)|apply (agH [a.time,a.dev,a.seq] [b.time,b.dev,b.seq] (show 3<4611686018427387904 from by omega)))<;>first|assumption|omega);rotate_left;rfl;rfl)|apply slA pk (rows:=[a.time,a.dev,a.seq].map I1);(iterate 7 rfl);rotate_left;rfl;rfl|apply slA pk (rows:=[b.time,b.dev,b.seq].map I1);(iterate 7 rfl);rotate_left;rfl;rfl)
theorem agB (a b:Int):gV a b<0↔a<b:=by unfold gV;split<;>(try split)<;>omega
theorem aDd (a b:Int):gV a b=0↔a=b:=by unfold gV;split<;>(try split)<;>omega
theorem axX (a b:Sp):decide (aCq a b<0)=jH a b:=by
 unfold aCq jH
 by_cases h:a=b
 ·subst h;simp
 ·rw [zn h]
  simp only [ahE,aDd]
  by_cases h1:a.time=b.time
  ·by_cases h2:a.dev=b.dev
   ·have h3:¬a.seq=b.seq:=λe=>h ((Sp.ext_iff _ _).2 ⟨h1,h2,e⟩)
    simp [h1,h2,h3,agB]
   ·simp [h1,h2,agB]
  ·simp [h1,agB]
theorem mD (a b:Sp):PF Tryz.prog 363 [.agg a.cells, .agg b.cells] (.val (.bool (jH a b))):=by
 rw [<-axX]
 refine aG aD Tryz.func363 (by kernel_rfl) rfl rfl rfl rfl (λst=> ?_)
 (try apply wO pk;rfl);(repeat' first|show Cn _;constructor|apply wE pk;rfl;rfl|(refine aB ?_;refine ⟨_,_,_,rfl,zwr _,zsr _, ?_,rfl⟩;try rfl)|(apply aH;rfl;rfl;rfl;(intro _;apply (avV a b)<;>first|assumption|omega);rotate_left;rfl;rfl))
theorem aF4 {f:FuncId} {args:List PV} {st:aJ} {R R':PV->aJ->Prop} (h:PC Tryz.prog f args st R) (hr:∀p st',R p st'->∃q,Wk p q/\R' q st'):PC Tryz.prog f args st R':=
 ⟨h.1,λw g vs hm hv=>(h.2 w g vs hm hv).mono λe w' ⟨v,r,st',g',h1,h2,h3,h4⟩=>by
  obtain ⟨q,k1,k2⟩:=hr _ _ h2
  exact ⟨v,q,st',g',h1,k2,k1 _ _ h3,h4⟩⟩
theorem Wk.und (p:PV):Wk p .und:=λ_ _ _=>by simp [Rep]
def Nm.vals (k:Nm):List Value:=[.int .i64 k.dot.dev, .int .i64 k.dot.seq, .int .i64 k.at_]
def aEk (k:Dt):List Value:=[.int .i64 k.dev, .int .i64 k.seq]
def Nm.enc (k:Nm):Value:= .agg k.vals.toArray
def asM (k:Dt):Value:= .agg (aEk k).toArray
theorem Nm.key :KeyOK Tryz.prog 351 Nm.enc (λk=> .agg k.cells):=
 tT aD Nm.vals rfl rfl (λ_=>rfl) (λa b=>by show some ((decide (a.dot.dev=b.dot.dev)&&decide (a.dot.seq=b.dot.seq))&&decide (a.at_=b.at_))=_;rw [Dt.eqb,Nm.eqb]) (λ_=>rfl) (by kernel_rfl)
theorem aEh :KeyOK Tryz.prog 59 asM (λk=> .agg k.cells):=
 tT aD aEk rfl rfl (λ_=>rfl) (λa b=>by show some (decide (a.dev=b.dev)&&decide (a.seq=b.seq))=_;rw [Dt.eqb]) (λ_=>rfl) (by kernel_rfl)
def ptF (p:Pt):PV:= .agg p.cells
def lW (n:Int):PV:=(PV.val (Value.int .i64 (n)))
def dS (l:List Pt):List (Nm×Pt):=l.foldl (λm p=>dC (aP p) p m) []
def eJ (l:List Pt):List (Dt×Int):=l.foldl (λm p=>dC p.dot p.time m) []
def rW (m:List (Nm×Pt)) (t:List (Dt×Int)) (p:Pt):Bool:= !((cC (aP p) m).isSome|| !bZ p||(match cC p.dot t with|some x=>decide (x≠p.time)|none=>false))
def jC :List Pt->List (Nm×Pt)->List (Dt×Int)->Bool
 |[],_,_=>true
 |p::r,m,t=>rW m t p&&jC r (dC (aP p) p m) (dC p.dot p.time t)
def awW (m:List (Nm×Pt)) (p:Pt):Bool:=decide (bH p=Nm.zero)||(match cC (bH p) m with|some u=>eO u p|none=>false)
def fU (l:List Pt):Bool:=jC l [] []&&l.all (awW (dS l))
theorem afV {l:List Pt} {i:Nat} (h:i<l.length):dS (l.take (i+1))=dC (aP l[i]) l[i] (dS (l.take i)):=by
 rw [List.take_succ_eq_append_getElem h,dS,List.foldl_append];rfl
theorem agM {l:List Pt} {i:Nat} (h:i<l.length):eJ (l.take (i+1))=dC l[i].dot l[i].time (eJ (l.take i)):=by
 rw [List.take_succ_eq_append_getElem h,eJ,List.foldl_append];rfl
theorem akZ {l:List Pt} {i:Nat} (h:i<l.length) {m t}:jC (l.drop i) m t=(rW m t l[i]&&jC (l.drop (i+1)) (dC (aP l[i]) l[i] m) (dC l[i].dot l[i].time t)):=by
 rw [List.drop_eq_getElem_cons h];rfl
theorem yR (p q:Pt):PF Tryz.prog 285 [.agg p.cells, .agg q.cells] (.val (.bool (eO p q))):=by
 refine aG aD Tryz.func285 (by kernel_rfl) rfl rfl rfl rfl (λst=> ?_)
 (try apply wO pk;rfl);(repeat' first|show Cn _;constructor|apply wE pk;rfl;rfl|apply wD pk [] [];kernel_rfl;rfl;rfl|(refine aB ?_;refine ⟨_,_,_,rfl,zwr _,zsr _, ?_,rfl⟩;try first|rfl|simp only [eO,Sp.eqb];done)|(apply aH;rfl;rfl;rfl;(intro _;(first|apply (kT p)|apply (kT q)|apply (mD (bN p) (bN q)))<;>first|assumption|omega);rotate_left;rfl;rfl))
theorem aB5 (l:List Pt) (st:aJ) (hl:l.length<4611686018427387904):PC Tryz.prog 185 [.seq (l.map Pt.cells)] st λp st'=>(∃m,p= .tup [m,(.val (.bool (fU l)))])/\st'=st:=by
 refine cE aD Tryz.func185 (by kernel_rfl) rfl rfl rfl rfl ?_
 (try apply wO pk;rfl);(repeat' ((show Cn _;constructor)))
 refine mkM (enc:=Nm.enc) (f:=ptF) rfl (λid1 hid1=> ?_)
 (try apply wO pk;rfl);(repeat' first|show Cn _;constructor|apply wE pk;rfl;rfl)
 refine mkM (enc:=asM) (f:=lW) rfl (λid2 hid2=> ?_)
 have hid1:st id1=none:=hid1
 have hne:id1≠id2:=by intro e;subst e;have:=hid2;simp only [St.put,St.pv,St.sst,aC] at this;cases this
 have hid2:st id2=none:=by have:=hid2;simp only [St.put,St.pv,St.sst] at this;exact (aF (Ne.symm hne)).symm.trans this
 have hne2:=Ne.symm hne
 (try apply wO pk;rfl);(repeat' first|show Cn _;constructor|apply wE pk;rfl;rfl)
 refine aK (X:={x:Nat//x<=l.length/\jC l [] []=jC (l.drop x) (dS (l.take x)) (eJ (l.take x))}) (λi=>(((((((St.nil 94 (upd (upd st id1 (some (.map (bB Nm.enc ptF (dS (l.take i.1)))))) id2 (some (.map (bB asM lW (eJ (l.take i.1))))))).pv 0 (.seq (l.map Pt.cells))).pv 4 (.mref id1)).pv 5 (.mref id2)).pv 18 (.seq (l.map Pt.cells))).pv 19 ((PV.val (Value.int .i64 ((((l.map Pt.cells)).length:Nat)))))).pv 20 ((PV.val (Value.int .i64 ((i.1:Nat))))))) (λi=>l.length-i.1) ⟨0,by omega,rfl⟩ ?_ (λi=> ?_)
 ·(((repeat refine Sub.pv ?_ rfl);(exact Sub.nil _ _ _ (zsr _) rfl)))
 obtain ⟨i,hi,hinv⟩:=i
 dsimp only
 have hs:=λh:i<l.length=>akZ h (m:=dS (l.take i)) (t:=eJ (l.take i))
 have hs1:=λh:i<l.length=>afV h
 have hs2:=λh:i<l.length=>agM h
 (try apply wO pk;rfl);(repeat' first|show Cn _;constructor|apply wC pk;rfl;rfl|apply wE pk;rfl;rfl|apply wDm pk;rfl;kernel_rfl;rfl;rfl|refine aA rfl ?_ ?_<;>intro h<;>(try simp at h)<;>try omega|((try refine aB ?_);((refine ⟨_,_, ?zs,rfl,zwr _, ?zh, ?zr⟩;(case zh=>(refine bR ?_ ‹_›;(repeat refine bR ?_ ‹_›);exact zsr _));(case zr=>((have e:fU l=false:=(by unfold fU;rw [hinv,hs (by omega)];first|simp [rW, *];done|(rcases ‹_\/_›with q|q<;>simp [rW, *]));exact ⟨⟨.val (.map none),by rw [e]⟩,rfl⟩))))))|(apply aH;rfl;rfl;rfl;(intro _;(first|apply nE|apply lF)<;>first|assumption|omega);rotate_left;rfl;rfl)|apply aO pk;(iterate 6 rfl);rotate_left;rfl;(intro hw;rfl);(intro hw;apply aI<;>omega);(intro _;rfl);rfl|(apply aA8 pk Nm.key (f:=ptF);(iterate 5 rfl);rotate_left;rfl;((focus ((repeat (first|exact aC _ _ _|refine (aF ‹_›).trans ?_));done)));rfl;intro v hv;rotate_left;intro hv;rotate_left)|apply meA pk Nm.key (f:=ptF) (z:=Pt.zero);(iterate 6 rfl);((focus ((repeat (first|exact aC _ _ _|refine (aF ‹_›).trans ?_));done)));rfl|apply esA pk Nm.key (f:=ptF);(iterate 4 rfl);(exact aC _ _ _);rfl|(apply aA8 pk aEh (f:=lW);(iterate 5 rfl);rotate_left;rfl;(exact aC _ _ _);rfl;intro v hv;rotate_left;intro hv;rotate_left)|apply muA pk aEh (f:=lW);(exact .inr rfl);(iterate 5 rfl);((focus ((repeat (first|exact aC _ _ _|refine (aF ‹_›).trans ?_));done)));rfl|(refine ⟨⟨i+1,by omega,by rw [hinv,hs (by omega),hs1 (by omega),hs2 (by omega)];simp [rW, *]⟩, ?_,by simp only;omega⟩;(simp only [hs1 (show i<l.length by omega),hs2 (show i<l.length by omega)]);(((repeat refine Sub.pv ?_ rfl);((refine Sub.nil _ _ _ (eX ?_) rfl;(simp only [St.pv,St.put,St.sst,St.setv,St.nil,St.var,fD]);(rw [aGC ‹_›]);first|done|rfl)))))|intros;(try simp only [zql]);omega)
 have e1:l.take i=l:=ztl (by omega)
 have w1:jC l [] []=true:=by rw [hinv,List.drop_eq_nil_of_le (by omega)];rfl
 refine aK (X:={x:Nat//x<=l.length/\(l.take x).all (awW (dS (l.take i)))=true}) (λy=>(((((St.nil 94 (upd (upd st id1 (some (.map (bB Nm.enc ptF (dS (l.take i)))))) id2 (some (.map (bB asM lW (eJ (l.take i))))))).pv 4 (.mref id1)).pv 65 (.seq (l.map Pt.cells))).pv 66 ((PV.val (Value.int .i64 ((((l.map Pt.cells)).length:Nat)))))).pv 67 ((PV.val (Value.int .i64 ((y.1:Nat))))))) (λy=>l.length-y.1) ⟨0,by omega,rfl⟩ ?_ (λy=> ?_)
 ·(((repeat refine Sub.pv ?_ rfl);(exact Sub.nil _ _ _ (zsr _) rfl)))
 clear hs hs1 hs2
 obtain ⟨y,hy,hall⟩:=y
 dsimp only
 (try apply wO pk;rfl);(repeat' first|show Cn _;constructor|apply wC pk;rfl;rfl|apply wE pk;rfl;rfl|refine aA rfl ?_ ?_<;>intro h<;>(try simp at h)<;>try omega|((try refine aB ?_);((refine ⟨_,_, ?zs,rfl,zwr _, ?zh, ?zr⟩;(case zh=>(refine bR ?_ ‹_›;(repeat refine bR ?_ ‹_›);exact zsr _));(case zr=>((first|have e:fU l=false:=(by unfold fU;simp only [e1] at*;rw [w1,Bool.true_and,List.all_eq_false];refine ⟨l[y]'‹_›,zgm _, ?_⟩;simp [awW,Nm.ext_iff,Dt.ext_iff,Nm.zero,Dt.zero,and_assoc, *];try (intros;omega));exact ⟨⟨.val (.map none),by rw [e]⟩,rfl⟩|have e:fU l=true:=(by unfold fU;simp only [e1] at*;rw [w1,Bool.true_and,<-hall,ztl (by omega)]);exact ⟨⟨.mref id1,by rw [e]⟩,rfl⟩))))))|(apply aH;rfl;rfl;rfl;(intro _;(first|apply pJ|apply yR|apply (yR Pt.zero))<;>first|assumption|omega);rotate_left;rfl;rfl)|apply aO pk;(iterate 6 rfl);rotate_left;rfl;(intro hw;rfl);(intro hw;apply aI<;>omega);(intro _;rfl);rfl|(apply aA8 pk Nm.key (f:=ptF);(iterate 5 rfl);rotate_left;rfl;((focus ((repeat (first|exact aC _ _ _|refine (aF ‹_›).trans ?_));done)));rfl;intro v hv;rotate_left;intro hv;rotate_left)|refine ⟨⟨y+1,by omega,by simp only [e1] at*;rw [List.take_succ_eq_append_getElem (by omega),List.all_append,hall];simp [awW,Nm.ext_iff,Dt.ext_iff,Nm.zero,Dt.zero,and_assoc, *];try grind⟩, ?_,by simp only;omega⟩;(((repeat refine Sub.pv ?_ rfl);(exact Sub.nil _ _ _ (zsr _) rfl)))|intros;(try simp only [zql]);omega)
def eG (a b:Pt):Int:=if bN a=bN b then a.at_-b.at_ else if jH (bN b) (bN a) then-1 else 1
theorem mJ {p:Pt} (h:bZ p=true):0<=p.at_/\p.at_<=1999:=by
 simp only [bZ,mayN,withinB,zba,zde] at h
 exact h.1.2.2
theorem gW (a b:Pt) (ha:bZ a=true) (hb:bZ b=true):PF Tryz.prog 288 [.agg a.cells, .agg b.cells] (.val (.int .i64 (eG a b))):=by
 have h1:=mJ ha
 have h2:=mJ hb
 refine aG aD Tryz.func288 (by kernel_rfl) rfl rfl rfl rfl (λst=> ?_)
 (try apply wO pk;rfl);(repeat' first|show Cn _;constructor|apply wC pk;rfl;rfl|apply wE pk;rfl;rfl|apply wD pk [] [];kernel_rfl;rfl;rfl|refine aA rfl ?_ ?_<;>intro h<;>(try simp at h)<;>try omega|(refine aB ?_;refine ⟨_,_,_,rfl,zwr _,zsr _, ?_,rfl⟩;try first|rfl|(simp only [eG,Sp.ext_iff];simp_all);done)|(apply aH;rfl;rfl;rfl;(intro _;(first|apply (kT a)|apply (kT b)|apply (mD (bN b) (bN a)))<;>first|assumption|omega);rotate_left;rfl;rfl)|intros;(try simp only [zql]);omega)
theorem auY (a:Sp):jH a a=false:=by simp [jH]
theorem adN (a b:Sp):jH a b=true↔a.time<b.time\/a.time=b.time/\(a.dev<b.dev\/a.dev=b.dev/\a.seq<b.seq):=by
 unfold jH
 split
 ·rw [zde];omega
 ·split
  ·rw [zde];omega
  ·rw [zde];omega
def fO (a b:Pt):Prop:=jH (bN b) (bN a)=true\/bN a=bN b/\a.at_<b.at_
theorem aeN (a b:Pt):eG a b<0↔fO a b:=by
 unfold eG fO
 by_cases h:bN a=bN b
 ·rw [zp h,h,auY];simp;omega
 ·rw [zn h]
  split
  ·rename_i h2;simp [h2]
  ·rename_i h2;simp [h2,h]
abbrev Fp :={p:Pt//bZ p=true}
instance : Inhabited Fp:=⟨⟨⟨⟨1,0,e0⟩,⟨1,1⟩,0,1,Dt.zero,0,false⟩,by decide⟩⟩
def azR (a b:Fp):Int:=eG a.1 b.1
theorem eZ (a b:Pt):fO a b↔b.time<a.time\/b.time=a.time/\(b.dot.dev<a.dot.dev\/b.dot.dev=a.dot.dev/\(b.dot.seq<a.dot.seq\/b.dot.seq=a.dot.seq/\a.at_<b.at_)):=by
 unfold fO
 rw [adN,Sp.ext_iff]
 simp only [bN]
 omega
theorem ayC :Go.Sort.SWO (ltOf azR):=by
 have h:∀x y:Fp,ltOf azR x y=true↔fO x.1 y.1:=λx y=>by rw [ltOf,zde];exact aeN _ _
 have hf:∀x y:Fp,ltOf azR x y=false↔¬fO x.1 y.1:=λx y=>by rw [<-h,Bool.not_eq_true]
 refine ⟨λx=>(hf x x).2 ?_,λx y z h1 h2=> ?_,λx y z h1 h2=> ?_⟩
 ·rw [eZ];omega
 ·rw [h,eZ] at h1 h2⊢;omega
 ·rw [hf,eZ] at h1 h2⊢;omega
def fM (l:List Pt) (k:Nm):List Pt:=l.filter λp=>decide (bH p=k)
theorem uI {l:List Pt} {i:Nat} (h:i<l.length) (k:Nm):fM (l.take (i+1)) k=if bH l[i]=k then fM (l.take i) k++[l[i]] else fM (l.take i) k:=by
 unfold fM
 rw [List.take_succ_eq_append_getElem h,List.filter_append]
 by_cases hk:bH l[i]=k<;>simp [hk]
def zT (x:Nat×Nat):PV:= .vec x.1 11 0 x.2
structure FamB (st:aJ) (l:List Pt) (idm:Nat) (K:List (Nm×(Nat×Nat))) (S:aJ):Prop where
 old:∀j,st j≠none->S j=st j
 hm:S idm=some (.map (bB Nm.enc zT K))
 mf:st idm=none
 arr:∀k id n,(k,(id,n))∈K->S id=some (.arr 190 ((fM l k).map Pt.cells))/\n=(fM l k).length/\st id=none
 keys:(K.map (·.1)).Nodup
 ids:(K.map (·.2.1)).Nodup
 non:∀k,cC k K=none->fM l k=[]
theorem pP {K V:Type} [DecidableEq K] {k:K} {v:V}:∀{l:List (K×V)},cC k l=some v->(k,v)∈l
  |(k',v')::l,h=>by
    simp only [cC] at h
    split at h
    · rename_i e;injection h with h;subst h;subst e;simp
    · exact List.mem_cons_of_mem _ (pP h)
theorem yI (l:List Pt) (hl:l.length<4611686018427387904):PF Tryz.prog 185 [.seq (l.map Pt.cells)] (.tup [.und,(.val (.bool (fU l)))]):=λst=>
 aF4 (aB5 l st hl) λp st' ⟨⟨m,e⟩,h⟩=>⟨_,e▸Wk.tup (.cons (Wk.und m) (.cons (zwr _) .nil)),rfl,h⟩
theorem zI :Tryz.prog.bytesOf 190=96:=by kernel_rfl
theorem FamB.fresh {st S:aJ} {l:List Pt} {idm:Nat} {K:List (Nm×(Nat×Nat))} (h:FamB st l idm K S) {id:Nat} (hid:S id=none):st id=none/\id≠idm/\∀k i n,(k,(i,n))∈K->id≠i:=by
 refine ⟨?_, ?_, ?_⟩
 ·cases hs:st id with
  |none=>rfl
  |some o=>have:=h.old id (by rw [hs];simp);rw [hid,hs] at this;cases this
 ·intro e;subst e;rw [h.hm] at hid;cases hid
 ·intro k i n hk e;subst e;rw [(h.arr k _ n hk).1] at hid;cases hid
theorem FamB.notm {st S:aJ} {l:List Pt} {idm:Nat} {K:List (Nm×(Nat×Nat))} (h:FamB st l idm K S) {k:Nm} {i n:Nat} (hk:(k,(i,n))∈K):i≠idm:=by
 intro e;subst e;have:=(h.arr k _ n hk).1;rw [h.hm] at this;cases this
theorem qO {K V:Type} [DecidableEq K] (k k':K) (v:V):∀(l:List (K×V)),cC k' (dC k v l)=if k'=k then some v else cC k' l
 |[]=>by simp only [dC,cC]
 |e::l=>by
  have ih:=qO k k' v l
  simp only [dC]
  split
  ·rename_i h;simp only [cC];split<;>simp_all
  ·rename_i h;simp only [cC,ih];split
   ·rename_i h2;rw [zn (λe=>h (by rw [<-e,h2]))]
   ·rfl
theorem tZ {K V:Type} [DecidableEq K] {k:K} {v:V} {x:K×V}:∀{l:List (K×V)},(l.map (·.1)).Nodup->x∈dC k v l->x=(k,v)\/x∈l/\x.1≠k
 |[],_,h=>by simp only [dC,zms] at h;exact .inl h
 |e::l,hn,h=>by
  simp only [zmp,List.nodup_cons] at hn
  simp only [dC] at h
  split at h
  ·rename_i he
   rcases zmc.1 h with h|h
   ·exact .inl h
   ·refine .inr ⟨List.mem_cons_of_mem _ h,λhh=>hn.1 ?_⟩
    rw [<-he,<-hh];exact List.mem_map.2 ⟨x,h,rfl⟩
  ·rename_i he
   rcases zmc.1 h with h|h
   ·subst h;exact .inr ⟨List.mem_cons_self,λhh=>he hh.symm⟩
   ·rcases tZ hn.2 h with h|⟨h,h2⟩
    ·exact .inl h
    ·exact .inr ⟨List.mem_cons_of_mem _ h,h2⟩
theorem aaN {K V:Type} [DecidableEq K] {k:K} {v:V}:∀{l:List (K×V)},(l.map (·.1)).Nodup->((dC k v l).map (·.1)).Nodup
 |[],_=>by simp [dC]
 |e::l,hn=>by
  simp only [zmp,List.nodup_cons] at hn
  simp only [dC]
  split
  ·rename_i he;simp only [zmp,List.nodup_cons,he];exact hn
  ·rename_i he
   simp only [zmp,List.nodup_cons]
   refine ⟨λhm=> ?_,aaN hn.2⟩
   obtain ⟨x,hx,hxe⟩:=List.mem_map.1 hm
   rcases tZ hn.2 hx with rfl|⟨h,_⟩
   ·exact he hxe
   ·exact hn.1 (List.mem_map.2 ⟨x,h,hxe⟩)
theorem afH {K V:Type} [DecidableEq K] {k:K} {v:V} {g:V->Nat}:∀{l:List (K×V)},(l.map λe=>g e.2).Nodup->(l.map (·.1)).Nodup->(∀e∈l,g e.2≠g v)->((dC k v l).map λe=>g e.2).Nodup
 |[],_,_,_=>by simp [dC]
 |e::l,hn,hk,hv=>by
  simp only [zmp,List.nodup_cons] at hn hk
  simp only [dC]
  split
  ·simp only [zmp,List.nodup_cons]
   refine ⟨λhm=> ?_,hn.2⟩
   obtain ⟨x,hx,hxe⟩:=List.mem_map.1 hm
   exact hv x (List.mem_cons_of_mem _ hx) hxe
  ·simp only [zmp,List.nodup_cons]
   refine ⟨λhm=> ?_,afH hn.2 hk.2 λx hx=>hv x (List.mem_cons_of_mem _ hx)⟩
   obtain ⟨x,hx,hxe⟩:=List.mem_map.1 hm
   rcases tZ hk.2 hx with rfl|⟨h,_⟩
   ·exact hv e List.mem_cons_self hxe.symm
   ·exact hn.1 (List.mem_map.2 ⟨x,h,hxe⟩)
theorem uO {α:Type} {g:α->Nat}:∀{l:List α},(l.map g).Nodup->∀{a b},a∈l->b∈l->g a=g b->a=b
 |[],_,_,_,h,_,_=>by cases h
 |x::l,hn,a,b,ha,hb,e=>by
  simp only [zmp,List.nodup_cons] at hn
  rcases zmc.1 ha with ha|ha<;>rcases zmc.1 hb with hb|hb
  ·rw [ha,hb]
  ·exact (hn.1 (List.mem_map.2 ⟨b,hb,by rw [<-e,ha]⟩)).elim
  ·exact (hn.1 (List.mem_map.2 ⟨a,ha,by rw [e,hb]⟩)).elim
  ·exact uO hn.2 ha hb e
theorem FamB.step {st S S1:aJ} {l:List Pt} {i:Nat} (hi:i<l.length) {idm id m:Nat} {K:List (Nm×(Nat×Nat))} (h:FamB st (l.take i) idm K S) (hid:S id=none) (hm:m=(fM (l.take i) (bH l[i])).length+1) (hS:∀j,(∀n,(bH l[i],(j,n))∉K)->S1 j=S j):
  FamB st (l.take (i+1)) idm (dC (bH l[i]) (id,m) K) (upd (upd S1 id (some (.arr 190 ((fM (l.take i) (bH l[i])++[l[i]]).map Pt.cells)))) idm (some (.map (bB Nm.enc zT (dC (bH l[i]) (id,m) K))))):=by
 obtain ⟨f1,f2,f3⟩:=h.fresh hid
 refine ⟨λj hj=> ?_,aC _ _ _,h.mf,λk j n hx=> ?_,aaN h.keys,afH (g:=(·.1)) h.ids h.keys λe he=> ?_,λk hk'=> ?_⟩
 ·rw [aF (λe=>by subst e;exact hj h.mf),aF (λe=>by subst e;exact hj f1),hS j λn hn=>hj (h.arr _ j n hn).2.2];exact h.old j hj
 ·rcases tZ h.keys hx with e|⟨hx,hne⟩
  ·simp only [Prod.mk.injEq] at e
   obtain ⟨rfl,rfl,rfl⟩:=e
   rw [uI hi,zp rfl,aF f2,aC]
   exact ⟨rfl,by rw [hm];simp,f1⟩
  ·obtain ⟨a1,a2,a3⟩:=h.arr k j n hx
   rw [uI hi,zn (Ne.symm hne),aF (h.notm hx),aF (λe=>f3 k j n hx e.symm),hS j λn' hn'=>hne ?_]
   ·exact ⟨a1,a2,a3⟩
   ·exact congrArg Prod.fst (uO h.ids hx hn' rfl)
 ·exact λe'=>f3 e.1 e.2.1 e.2.2 he e'.symm
 ·rw [qO] at hk'
  split at hk'
  ·cases hk'
  ·rename_i hne
   rw [uI hi,zn (Ne.symm hne)]
   exact h.non k hk'
theorem FamB.nil {st:aJ} {idm:Nat} (h:st idm=none):FamB st [] idm [] (upd st idm (some (.map (bB Nm.enc zT [])))):=
 ⟨λj hj=>aF λe=>by subst e;exact hj h,aC _ _ _,h,λ_ _ _ h=>(by cases h),by simp,by simp,λ_ _=>rfl⟩
theorem alU (l:List Pt) (k:Nm):(fM l k).length<=l.length:=List.length_filter_le _ _
end
section
attribute [local irreducible] Ev PWp
set_option maxRecDepth 10000
set_option maxHeartbeats 4000000
theorem aCO :PF Tryz.prog 197 [(PV.val (Value.int .u64 ((0:Nat))))] (.val (.int .i64 ((0:Nat)))):=by
 refine aG aD Tryz.func197 (by kernel_rfl) rfl rfl rfl rfl (λst=> ?_)
 (try apply wO pk;rfl);(repeat' first|show Cn _;constructor|apply wC pk;rfl;rfl|apply wE pk;rfl;rfl|refine aA rfl ?_ ?_<;>intro h<;>(try simp at h)<;>try omega|(refine aB ?_;first|refine ⟨_,_,_,rfl,zwr _,zsr _, ?_,rfl⟩;(rfl)|refine ⟨_,_,_,rfl,zwr _,aL ‹_›, ?_,rfl⟩;(fail)|refine ⟨_,_,_,rfl,zwf _,zsr _, ?_,rfl⟩;(fail)|refine ⟨_,_,_,rfl,zwf _,aL ‹_›, ?_,rfl⟩;(fail)|(refine ⟨_,_,_,rfl,zwr _,zsr _, ?_,rfl⟩)|(refine ⟨_,_,_,rfl,zwf _,aL ‹_›, ?_,rfl⟩))|apply cvA pk.htt;(iterate 5 rfl);(refine ⟨?_, ?_⟩<;>(first|omega|decide));rfl|apply sxA pk.htt 0 0;(iterate 6 rfl);kernel_rfl;rfl|exact ⟨by decide,by decide⟩)
theorem aFD {y:Int} (hy:y=0):PF Tryz.prog 118 [(PV.val (Value.int .u64 (y)))] (.val (.int .i64 ((0:Nat)))):=by
 subst hy
 refine aG aD Tryz.func118 (by kernel_rfl) rfl rfl rfl rfl (λst=> ?_)
 (try apply wO pk;rfl);(repeat' first|show Cn _;constructor|apply wC pk;rfl;rfl|apply wE pk;rfl;rfl|apply aM;simp only [zqt,zqf]|(refine aB ?_;refine ⟨_,_,_,rfl,zwr _,zsr _, ?_,rfl⟩;try rfl)|(apply aH;rfl;rfl;rfl;(intro _;apply aCO<;>first|assumption|omega);rotate_left;rfl;rfl))
section
variable {fid:FuncId} {caps:List PV} {st:aJ}
theorem aCZ :PC Tryz.prog 390 [.seq [],(.val (.int .i64 0)),(.val (.int .i64 0)), .fn fid caps] st λ_ st'=>st'=st:=by
 refine cE aD Tryz.func390 (by kernel_rfl) rfl rfl rfl rfl ?_
 (try apply wO pk;rfl);(repeat' first|show Cn _;constructor|intros;(try simp only [zql]);omega)
 refine aK (X:=Unit) (λi=>((((((St.nil 53 st).pv 0 (.seq [])).pv 1 ((PV.val (Value.int .i64 (0))))).pv 2 ((PV.val (Value.int .i64 (0))))).pv 3 (.fn fid caps)).pv 8 ((PV.val (Value.int .i64 (1)))))) (λi=>0) () ?_ (λi=> ?_)
 ·((repeat refine Sub.pv ?_ rfl);exact Sub.nil _ _ _ (zsr _) rfl)
 (try apply wO pk;rfl);(repeat' first|show Cn _;constructor|apply wC pk;rfl;rfl|apply wX pk;rfl|refine aA rfl ?_ ?_<;>intro h<;>(try simp at h)<;>try omega|(try refine aB ?_);((refine ⟨_,_,_,rfl,zwr _,zsr _, ?_⟩;((rfl));done)))
theorem aCA {lim:Int}:PC Tryz.prog 364 [.seq [],(.val (.int .i64 0)),(.val (.int .i64 0)),(.val (.int .i64 lim)), .fn fid caps] st λ_ st'=>st'=st:=by
 refine cE aD Tryz.func364 (by kernel_rfl) rfl rfl rfl rfl ?_
 (try apply wO pk;rfl);(repeat' ((show Cn _;constructor)))
 refine aK (X:=Unit) (λi=>((((((((St.nil 148 st).pv 0 (.seq [])).pv 1 ((PV.val (Value.int .i64 (0))))).pv 2 ((PV.val (Value.int .i64 (0))))).pv 3 ((PV.val (Value.int .i64 (lim))))).pv 4 (.fn fid caps)).pv 10 ((PV.val (Value.bool (true))))).pv 11 ((PV.val (Value.bool (true)))))) (λi=>0) () ?_ (λi=> ?_)
 ·((repeat refine Sub.pv ?_ rfl);exact Sub.nil _ _ _ (zsr _) rfl)
 (try apply wO pk;rfl);(repeat' first|show Cn _;constructor|apply wC pk;rfl;rfl|apply wE pk;rfl;rfl|refine aA rfl ?_ ?_<;>intro h<;>(try simp at h)<;>try omega|(try refine aB ?_);((refine ⟨_,_,_,rfl,zwr _,zsr _, ?_⟩;((rfl));done))|(apply cG;rfl;rfl;((apply aCZ<;>first|exact aC _ _ _|assumption|omega|simp only [zqs];omega|(fail)));rfl;rfl;rfl;intro _ st' hR;(subst hR))|intros;(try simp only [zql]);omega)
theorem azU :PC Tryz.prog 287 [.seq [], .fn fid caps] st λ_ st'=>st'=st:=by
 refine cE aD Tryz.func287 (by kernel_rfl) rfl rfl rfl rfl ?_
 (try apply wO pk;rfl);(repeat' first|show Cn _;constructor|apply wE pk;rfl;rfl|(try refine aB ?_);((refine ⟨_,_,_,rfl,zwr _,zsr _, ?_⟩;((rfl));done))|(apply aH;rfl;rfl;rfl;(intro _;apply (aFD rfl)<;>first|assumption|omega);rotate_left;rfl;rfl)|(apply cG;rfl;rfl;((apply aCA<;>first|exact aC _ _ _|assumption|omega|simp only [zqs];omega|(fail)));rfl;rfl;rfl;intro _ st' hR;(subst hR))|apply cvA pk.htt;(iterate 5 rfl);(refine ⟨?_, ?_⟩<;>(first|omega|decide));rfl)
end
theorem apR {S:aJ} {l:List Pt} {id n:Nat} (hf:∀p∈l,bZ p=true) (hst:S id=some (.arr 190 (l.map Pt.cells))) (hn:l.length=n) (h62:n<4611686018427387904):
  PC Tryz.prog 287 [.vec id 11 0 n, .fn 288 []] S λ_ S'=>∃R:List Pt,S'=upd S id (some (.arr 190 (R.map Pt.cells)))/\R.Perm l/\R.Pairwise λx y=>¬fO y x:=by
 have e:(l.attach.map λx=>(⟨x.1,hf x.1 x.2⟩:Fp)).map (λx=>([.int .i64 x.1.val.kind, .int .i64 x.1.val.n, .string x.1.val.s, .int .i64 x.1.dot.dev, .int .i64 x.1.dot.seq, .int .i64 x.1.at_, .int .i64 x.1.time, .int .i64 x.1.after.dev, .int .i64 x.1.after.seq, .int .i64 x.1.afterAt, .bool x.1.gone]:List Value).map PV.val)=l.map Pt.cells:=by
  rw [List.map_map]
  show l.attach.map (λx=>Pt.cells x.1)=_
  rw [List.attach_map_val]
 have:=aBA (P:=Tryz.prog) aGN (by kernel_rfl) (k:=11) Tryz.isAgg190 Tryz.sizeOf190 (enc:=λx:Fp=>[.int .i64 x.1.val.kind, .int .i64 x.1.val.n, .string x.1.val.s, .int .i64 x.1.dot.dev, .int .i64 x.1.dot.seq, .int .i64 x.1.at_, .int .i64 x.1.time, .int .i64 x.1.after.dev, .int .i64 x.1.after.seq, .int .i64 x.1.afterAt, .bool x.1.gone]) (λ_=>rfl) (λx v hv=>by simp only [zmc,List.not_mem_nil,or_false] at hv;rcases hv with rfl|rfl|rfl|rfl|rfl|rfl|rfl|rfl|rfl|rfl|rfl<;>rfl) (cmp:=azR) ayC
  (gf:=288) (by kernel_rfl) (λx y=>gW x.1 y.1 x.2 y.2) (st:=S) (id:=id) (n:=n) (d:=l.attach.map λx=>⟨x.1,hf x.1 x.2⟩) (e:=190) (by kernel_rfl) (by rw [e];exact hst) (by simpa using hn) h62
 refine ⟨this.1,λw g vs h1 h2=>(this.2 w g vs h1 h2).mono ?_⟩
 rintro e w' ⟨v,q,S',g',h3,⟨r,hS,hp,hw⟩,h4⟩
 refine ⟨v,q,S',g',h3,⟨r.map (·.1), ?_, ?_, ?_⟩,h4⟩
 ·rw [hS,List.map_map];rfl
 ·have:=hp.map (·.1)
  rwa [List.map_map,show ((λx:Fp=>x.1)∘λx:{x//x∈l}=>(⟨x.1,hf x.1 x.2⟩:Fp))=Subtype.val from rfl,List.attach_map_subtype_val] at this
 ·rw [List.pairwise_map]
  exact hw.imp fun {a b} h=>by rwa [azR,aeN] at h
end
end Go.Proofs.YtloecjjehapblaaGreatDoor.T
