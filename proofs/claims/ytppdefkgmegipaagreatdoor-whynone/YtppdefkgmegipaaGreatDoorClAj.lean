import Derived.Test.YtppdefkgmegipaaGreatDoorClAi
import Derived.Test.YtppdefkgmegipaaGreatDoorClAg
import Derived.Test.YtppdefkgmegipaaGreatDoorClAd
import Derived.Test.YtppdefkgmegipaaGreatDoorClAb
import Derived.Test.YtppdefkgmegipaaGreatDoorAbsSort
set_option linter.unusedSimpArgs false
set_option linter.unusedVariables false
namespace Go.Proofs.YtppdefkgmegipaaGreatDoor
open Go Go.Abs
section
attribute [local irreducible] Ev PWp
set_option maxRecDepth 10000
set_option maxHeartbeats 4000000
def gS (c:Cl):List Int:=(c.parts.map (·.val.n)).mergeSort λx y=>decide (x<=y)
theorem aAb {c:Cl} {i:Nat} (h:i<c.parts.length):(c.parts.take (i+1)).map (·.val.n)=(c.parts.take i).map (·.val.n)++[c.parts[i].val.n]:=by
 rw [List.take_succ_eq_append_getElem h,List.map_append];rfl
theorem ayE (c:Cl) (hl:c.parts.length<1000000000) (st:aD):PC Tryz.prog 152 [.agg c.cells] st λr S=>∃id,r= .vec id 1 0 (yA (gS c).toArray)/\st id=none/\∃o,S=upd st id (some o):=by
 refine pC Tryz.func152 rfl ?_
 focus ((repeat' first|apply wZ;rfl|show Cn _;constructor))
 refine dU 3 3 1 rfl rfl rfl (λid hid=> ?_)
 refine aG (X:={x:Nat×Nat//x.1<=c.parts.length/\st x.2=none}) (λi=>(((((St.nil 24 (upd st i.1.2 (some (.arr 3 (((c.parts.take i.1.1).map (·.val.n)).map I1))))).pv 3 (.vec i.1.2 1 0 i.1.1)).pv 7 (.seq (c.parts.map Pt.cells))).pv 8 ((vi (((c.parts.map Pt.cells).length:Nat))))).pv 9 ((vi ((i.1.1:Nat)))))) (λi=>c.parts.length-i.1.1) ⟨(0,id),by simp,hid⟩ ?_ (λi=> ?_)
 ·dsimp only
  (repeat' first|show Cn (.t _ _);exact Cn.t0|show Cn _;constructor|exact rfl)
 obtain ⟨⟨i,id⟩,hi,hid⟩:=i
 simp only at hi hid
 dsimp only
 by_cases hend:c.parts.length<=i
 ·obtain rfl:i=c.parts.length:=by omega
  rw [List.take_length]
  have hso:=aoN (c.parts.map (·.val.n)) (st:=upd st id (some (.arr 3 ((c.parts.map (·.val.n)).map I1)))) (id:=id) (n:=c.parts.length) (aA _ _ _) (zql _) (by omega)
  have hnl:(gS c).toArray.size=c.parts.length:=by simp [gS]
  have hco:=aiD (gS c).toArray (st:=upd (upd st id (some (.arr 3 ((c.parts.map (·.val.n)).map I1)))) id (some (.arr 3 ((gS c).map I1)))) (id:=id) (n:=c.parts.length) (aA _ _ _) hnl (by omega)
  (repeat' first|(apply cP;rfl;(apply hso);rintro _ st' (rfl))|(apply cP;rfl;(apply hco);rintro _ st' (⟨rfl,rows,rfl⟩))|show Cn (.r _ _ _);refine .rr ?_;(exact ⟨id,rfl,hid,_,(aH _ _ _ _).trans (aH _ _ _ _)⟩);done|apply wZ;rfl|show Cn _;constructor|apply wY;rfl|simp only [zql];omega|(intro h;simp at h))
 have hil:i<c.parts.length:=by omega
 have hlen:((c.parts.take i).map (·.val.n)).length=i:=by rw [zql,zlt];omega
 have e:=aAb hil
 (repeat' first|refine ⟨⟨(i+1,id'),by simp only;omega,bA hid'⟩, ?_, ?_⟩;((dsimp only;try rw [e]))|show Cn (.t _ _);exact .any (aJ ‹_›)|apply wZ;rfl|show Cn _;constructor|exact rfl|(apply apV pk (f:=I1) [c.parts[i].val.n] 8;(iterate 9 rfl);(exact aA _ _ _);(omega);exact λ_=>rfl;exact λ_=>rfl;exact lB;((focus (simp;omega)));((focus (simp;omega)));rfl;intro id' hid')|apply wI;rfl|apply gE;omega|omega|simp only [zql];omega|(intro h;simp at h))
def aqS (c:Cl):Vl:=⟨1,(yA (gS c).toArray:Nat),e0⟩
theorem ahB (c:Cl) (hl:c.parts.length<1000000000):PF Tryz.prog 109 [.agg c.cells] (.agg (aqS c).cells):=by
 intro st
 have hn:=ayE c hl st
 refine pC Tryz.func109 rfl ?_
 (repeat' first|exact Cn.any ⟨_,_,st,rfl,zwr _,aF (zsr _) hid,rfl,rfl⟩|(apply cP;rfl;(apply hn);rintro _ st' (⟨id,rfl,hid,o,rfl⟩))|apply wZ;rfl|show Cn _;constructor|apply wY;rfl)
def adJ (c:Cl):Vl:=((fO c.parts).getLast?).getD Vl.zero
theorem ajW (c:Cl) (hl:c.parts.length<1000000000):PF Tryz.prog 107 [.agg c.cells] (.agg (adJ c).cells):=by
 intro st
 have hn:=ayH c hl st
 have hvl:=agC c.parts
 unfold adJ
 generalize fO c.parts=o at*
 rcases Nat.eq_zero_or_pos o.length with h0|h0
 ·obtain rfl:o=[]:=List.eq_nil_of_length_eq_zero h0
  refine pC Tryz.func107 rfl ?_
  (repeat' first|exact Cn.any ⟨_,_,st,rfl,zwr _,aF (zsr _) hid,rfl,rfl⟩|(apply cP;rfl;(apply hn);rintro _ st' (⟨id,rfl,hid,rfl⟩))|apply wZ;rfl|show Cn _;constructor|apply wY;rfl)
 ·have e:o.getLast?.getD Vl.zero=o.toArray[o.length-1]!:=by
   rw [List.getLast?_eq_getElem?,zgg (by omega),getElem!_pos o.toArray (o.length-1) (by simp;omega)];simp
  rw [e]
  refine pC Tryz.func107 rfl ?_
  (repeat' first|exact Cn.any ⟨_,_,st,rfl,zwr _,aF (zsr _) hid,rfl,rfl⟩|(apply cP;rfl;(apply hn);rintro _ st' (⟨id,rfl,hid,rfl⟩))|apply wZ;rfl|show Cn _;constructor|apply ixA pk;(iterate 5 rfl);rotate_left;rfl;(intro hw;(exact (show _=((o.length-1:Nat):Int) from by omega)));(intro hw;(omega));rfl;(exact Nat.zero_add _)|apply ldA pk Vl.elem;rfl;rfl;rotate_left;rfl;exact aA _ _ _;(intro _;exact (show o.length-1<o.length by omega));rfl|apply wY;rfl|omega|(intro h;simp at h))
def jK (c:Cl):Vl:=if c.kind=0 then c.val else if c.kind=1 then adJ c else if c.kind=2 then aeW c else if c.kind=3 then aqS c else if c.kind=4 then T.showP c else Vl.zero
theorem alI (c:Cl) (hl:c.parts.length<=1000):aiE jK c:=by
 have h1:=ajW c (by omega)
 have h2:=aiM c
 have h3:=ahB c (by omega)
 have h4:=T.show_spec c (by omega)
 show PF Tryz.prog 65 [.agg c.cells] (.agg (jK c).cells)
 unfold jK
 generalize adJ c=A at*
 generalize aeW c=B at*
 generalize aqS c=C at*
 generalize T.showP c=D at*
 refine pF Tryz.func65 rfl (λst=> ?_)
 (repeat' first|apply wZ;rfl|show Cn _;constructor|exact rfl|((first|apply h1|apply h2|apply h3|apply h4))|show (_:PV)=_;((repeat first|rw [zp ‹_›]|rw [zn ‹_›]);rfl);done|apply wY;rfl|intro h)
end
section
attribute [local irreducible] Ev PWp
set_option maxRecDepth 10000
set_option maxHeartbeats 4000000
section
variable {tx:Cl->Int}
theorem rows_len {s:Sc} {b:Bs} (hg:dE tx s b=true) {k:Nat} (hk:k<s.length):(aAs jK b k).length<=2000:=by
 obtain ⟨⟨h1,h2⟩,h3⟩:=jW.1 hg
 have hkb:k<b.length:=by omega
 have:=(nL.1 (h3 k hkb)).1
 unfold aAs
 rw [lU hkb,zql]
 rw [getElem!_pos b k hkb] at this
 exact this
theorem aAP {s:Sc} (h:gP s=0) {k:Nat} (hk:k<s.length):s[k].cols.length<=16/\s[k].checks.length<=16/\s[k].unique.length<=16/\s[k].foreign.length<=16/\s[k].sums.length<=16:=by
 have h1:=wU h hk (lk1 s[k]!) (by simp [lks])
 rw [getElem!_pos s k hk] at h1
 unfold lk1 at h1
 split at h1
 ·cases h1
 ·omega
end
section
variable (ex:Tb->List Vl->Int) (b:Bs) (t:Tb) (rows:List (List Vl))
variable {ex b t rows}
end
structure CkB (n:Nat) (s:Sc) (b:Bs):Prop where
 sb:ScB s
 len:s.length<=20
 col:∀t∈s,t.cols.length<10000000000
 chk:∀t∈s,vF t
 bs:BsS n b
 hn:n<=1000
section
variable {n:Nat} {s:Sc} {b:Bs} (hB:CkB n s b)
include hB
end
end
section
attribute [local irreducible] Ev PWp
set_option maxRecDepth 10000
set_option maxHeartbeats 4000000
def aBL (t:Tb):Nat:=t.cols.length+t.unique.length+t.checks.length+t.foreign.length+t.sums.length
def aAM (s:Sc):Nat:=(s.map aBL).sum
def aCu (s:Sc):Bool:=decide (s.length<=20)&&decide (aAM s<=400)
theorem ayO {s:Sc} {t:Tb} (h:t∈s):aBL t<=aAM s:=by
 unfold aAM
 induction s with
 |nil=>cases h
 |cons a s ih=>
  rw [zmp,List.sum_cons]
  rcases zmc.1 h with rfl|h
  ·omega
  ·have:=ih h;omega
noncomputable def fewX (s:Sc):Bool:=s.all λt=>t.checks.all λc=>decide (X.nodesR 25 (exOf c) 60<=60)
noncomputable def fewC (s:Sc) (b:Bs):Bool:=(aCu s&&xN b)&&fewX s
theorem CkB.of {s:Sc} {b:Bs} (h:fewC s b=true) (hB:ScB s) (hK:∀t∈s,vF t):CkB 100 s b:=by
 unfold fewC aCu at h
 simp only [zba,zde] at h
 obtain ⟨⟨⟨h1,h2⟩,h3⟩,h4⟩:=h
 exact ⟨hB,h1,λt ht=>by have:=ayO ht;unfold aBL at this;omega,hK,aAp h3,by omega⟩
end
section
set_option maxRecDepth 10000
set_option maxHeartbeats 4000000
structure Jn where
 table:Int
 left:Int
 right:Int
 deriving DecidableEq,Inhabited
def Jn.cells (a:Jn):List PV:=[(vi (a.table)),(vi (a.left)),(vi (a.right))]
theorem Jn.elem :Elem tt 147 Jn.cells (λa=> .agg a.cells) 3:=⟨rfl,λ_=>rfl,λ_=>rfl,λ_=>rfl,λ_=>rfl⟩
structure It where
 row:List Vl
 many:Int
 by_:List Dt
 deriving DecidableEq,Inhabited
def It.cells (a:It):List PV:=[.seq (a.row.map Vl.cells),(vi (a.many)), .seq (a.by_.map Dt.cells)]
theorem It.elem :Elem tt 77 It.cells (λa=> .agg a.cells) 3:=⟨rfl,λ_=>rfl,λ_=>rfl,λ_=>rfl,λ_=>rfl⟩
structure Wd where
 row:List Vl
 by_:List Dt
 deriving DecidableEq,Inhabited
def Wd.cells (a:Wd):List PV:=[.seq (a.row.map Vl.cells), .seq (a.by_.map Dt.cells)]
theorem Wd.elem :Elem tt 121 Wd.cells (λa=> .agg a.cells) 2:=⟨rfl,λ_=>rfl,λ_=>rfl,λ_=>rfl,λ_=>rfl⟩
structure Ou where
 agg:Int
 of:X.Ex
def Ou.cells (a:Ou):List PV:=(vi (a.agg))::a.of.cells
theorem Ou.cells_len (a:Ou):a.cells.length=7:=by unfold Ou.cells;rw [zlc,X.Ex.cells_len]
structure Qu where
 table:Int
 joins:List Jn
 where_:List X.Ex
 group:List X.Ex
 outs:List Ou
 order:List Int
 limit:Int
def Qu.cells (q:Qu):List PV:=[(vi (q.table)), .seq (q.joins.map Jn.cells), .seq (q.where_.map X.Ex.cells), .seq (q.group.map X.Ex.cells), .seq (q.outs.map Ou.cells), .seq (q.order.map I1),(vi (q.limit))]
theorem jJ :Tryz.prog.bytesOf 121=48:=by kernel_rfl
theorem alG :Tryz.prog.bytesOf 77=56:=by kernel_rfl
theorem uG :Tryz.prog.cellsOf 121=2:=by kernel_rfl
theorem axS :Tryz.prog.cellsOf 77=3:=by kernel_rfl
end
section
attribute [local irreducible] Ev PWp
set_option maxRecDepth 10000
set_option maxHeartbeats 4000000
def apR :List Vl->List Vl->Nat
 |a::l,b::m=>if eM b a=true then apR l m+1 else 0
 |_,_=>0
theorem awV :∀(a b:List Vl),apR a b<=a.length/\apR a b<=b.length
 |a::l,b::m=>by
  unfold apR
  have:=awV l m
  split
  ·simp only [zlc];omega
  ·simp only [zlc];omega
 |[],_=>by simp [apR]
 |_::_,[]=>by simp [apR]
theorem asA :∀{a b:List Vl} {k:Nat} (ha:k<=a.length) (hb:k<=b.length) (_:∀j (h:j<k),eM (b[j]'(by omega)) (a[j]'(by omega))=true) (_:k=a.length\/k=b.length\/∃(h1:k<a.length) (h2:k<b.length),eM b[k] a[k]=false),apR a b=k
 |[],b,k,ha,_,_,_=>by simp only [List.length_nil] at ha;unfold apR;omega
 |a::l,[],k,_,hb,_,_=>by simp only [List.length_nil] at hb;unfold apR;omega
 |a::l,b::m,0,_,_,_,h=>by
  unfold apR
  rcases h with h|h|⟨h1,h2,h⟩
  ·simp at h
  ·simp at h
  ·rw [zn (by simpa using h)]
 |a::l,b::m,k+1,ha,hb,hs,h=>by
  unfold apR
  have h0:=hs 0 (by omega)
  simp only [List.getElem_cons_zero] at h0
  rw [zp h0]
  simp only [zlc] at ha hb
  rw [asA (k:=k) (by omega) (by omega) (λj hj=>by have:=hs (j+1) (by omega);simpa using this) ?_]
  rcases h with h|h|⟨h1,h2,h⟩
  ·left;simpa using h
  ·right;left;simpa using h
  ·right;right
   simp only [zlc] at h1 h2
   exact ⟨by omega,by omega,by simpa using h⟩
theorem rR (a:Vl):bS a a=false:=by
 unfold bS
 simp
 have:∀l:List UInt8,Op.bytesLess l l=false:=λl=>by
  induction l with
  |nil=>rfl
  |cons x l ih=>simp [Op.bytesLess,ih]
 exact this _
theorem ahS (a:Vl):eM a a=true:=by unfold eM;rw [rR];rfl
def akD (a b:List Vl):Bool:=decide (a.length=b.length)&&decide (apR a b=a.length)
def iS (a b:List Vl):Bool:=if apR a b<a.length/\apR a b<b.length then bS a[apR a b]! b[apR a b]! else decide (a.length<b.length)
def roV (r:List Vl):List PV:=[.seq (r.map Vl.cells)]
theorem apart_spec (a b:List Vl) (ha:a.length<4611686018427387904) (hb:b.length<4611686018427387904):PF Tryz.prog 52 [.seq [roV a,roV b]] (vi ((apR a b:Nat))):=by
 have hs:=kY
 have hr:=λx=>ahS x▸kY x x
 have he:=λk h1 h2 h3 h4=>asA (a:=a) (b:=b) (k:=k) h1 h2 h3 h4
 generalize apR a b=A at*
 unfold roV
 refine pF Tryz.func52 rfl (λst=> ?_)
 focus ((repeat' first|(show Cn (.r _ _ _);refine .any ⟨_,_,_,rfl,zwr _,zsr _, ?_,rfl⟩;try rfl)|apply wZ;rfl|show Cn _;constructor|exact rfl|apply KR.mk;kernel_rfl|omega|intros;omega|simp only [zql];omega|intros;simp only [zql];omega|intros;simp only;omega|intro h;omega|intro h;simp at h;done|intro h;simp at h;omega|(intro h;simp at h)|intro h))
 refine aG (X:={x:Nat//x<=a.length/\x<=b.length/\∀j (h:j<x) (h1:j<a.length) (h2:j<b.length),eM b[j] a[j]=true}) (λk=>(((St.nil 34 st).pv 0 (.seq [roV a,roV b])).pv 3 ((vi ((k.1:Nat)))))) (λk=>a.length-k.1) ⟨0,by omega,by omega,by omega⟩ ?_ (λk=> ?_)
 ·(repeat' first|show Cn _;constructor|exact rfl)
 obtain ⟨k,hk,hkb,hI⟩:=k
 dsimp only
 have c0:([roV a,roV b]:List (List PV))[0]?=some (roV a):=rfl
 have c1:([roV a,roV b]:List (List PV))[1]?=some (roV b):=rfl
 unfold roV at c0 c1
 focus ((repeat' first|(show Cn (.r _ _ _);refine .any ⟨_,_,_,rfl,zwr _,zsr _, ?_,rfl⟩;try rfl)|apply wZ;rfl|show Cn _;constructor|exact rfl|apply KR.mk;kernel_rfl|omega|intros;omega|simp only [zql];omega|intros;simp only [zql];omega|intros;simp only;omega|intro h;omega|intro h;simp at h;done|intro h;simp at h;omega|(intro h;simp at h)|intro h))
 refine aG (X:={x:Nat//x<=2/\(1<=x->k<a.length)/\(2<=x->k<b.length/\∀(h1:k<a.length) (h2:k<b.length),eM b[k] a[k]=true)}) (λy=>((((((St.nil 34 st).pv 0 (.seq [roV a,roV b])).pv 3 ((vi ((k:Nat))))).pv 6 (.seq [[.seq (a.map Vl.cells)],[.seq (b.map Vl.cells)]])).pv 7 ((vi (((2:Nat):Int))))).pv 8 ((vi ((y.1:Nat)))))) (λy=>2-y.1) ⟨0,by omega,by omega,by omega⟩ ?_ (λy=> ?_)
 ·(repeat' first|show Cn _;constructor|exact rfl)
 obtain ⟨y,hy,h1,h2⟩:=y
 dsimp only
 by_cases hy2:y=2
 ·subst hy2
  have h1:=h1 (by omega)
  have h2:=h2 (by omega)
  (repeat' first|(show Cn (.r _ _ _);refine .any ⟨_,_,_,rfl,zwr _,zsr _, ?_,rfl⟩;try rfl)|(refine ⟨⟨k+1,by omega,by omega,λj hj hj1 hj2=>(by rcases zls.1 hj with q|q;exact hI j q hj1 hj2;subst q;exact h2.2 hj1 hj2)⟩, ?_, ?_⟩)|apply wZ;rfl|show Cn _;constructor|exact rfl|apply KR.mk;kernel_rfl|omega|intros;omega|simp only [zql];omega|intros;simp only [zql];omega|intros;simp only;omega|intro h;omega|intro h;simp at h;done|intro h;simp at h;omega|(intro h;simp at h)|intro h)
 by_cases hy0:y=0
 ·subst hy0
  by_cases hk1:k<a.length
  ·(repeat' first|(show Cn (.r _ _ _);refine .any ⟨_,_,_,rfl,zwr _,zsr _, ?_,rfl⟩;try rfl)|(refine ⟨⟨1,by omega,λ_=>hk1,by omega⟩, ?_, ?_⟩)|apply wZ;rfl|show Cn _;constructor|exact rfl|apply KR.mk;kernel_rfl|apply bX pk;(iterate 6 rfl);rotate_left;rfl;(intro hw;rfl);(intro hw;apply c0<;>omega);(intro _;rfl);rfl|(apply hr _<;>(first|assumption|omega))|apply wY;rfl|apply wI;rfl|apply gE;omega|apply gE;show 0<_;omega|apply gE;show 1<_;omega|omega|intros;omega|simp only [zql];omega|intros;simp only [zql];omega|intros;simp only;omega|intro h;omega|intro h;simp at h;done|intro h;simp at h;omega|(intro h;simp at h)|intro h)
  ·have e:=he k hk hkb (λj hj=>hI j hj _ _) (.inl (by omega))
   (repeat' first|(apply cW;focus (intro _;(apply (show PF Tryz.prog 92 [_,_] (vb (true)) from by rename_i hh;exfalso;simp [gw] at hh;omega)<;>(first|assumption|omega));done))|(show Cn (.r _ _ _);refine .any ⟨_,_,_,rfl,zwr _,zsr _, ?_,rfl⟩;try first|rfl|(rw [e]);done)|apply wZ;rfl|show Cn _;constructor|exact rfl|apply KR.mk;kernel_rfl|apply bX pk;(iterate 6 rfl);rotate_left;rfl;(intro hw;rfl);(intro hw;apply c0<;>omega);(intro _;rfl);rfl|(apply bX pk;(iterate 6 rfl);rotate_left;rfl;(intro hw;rfl);(intro hw;apply vX<;>first|omega|((exfalso;simp [gw] at hw;omega)));(intro _;rfl);rfl)|show (_:PV)=_;(rw [e]);done|apply wY;rfl|apply wI;rfl|apply gE;omega|apply gE;show 0<_;omega|apply gE;show 1<_;omega|omega|intros;omega|simp only [zql];omega|intros;simp only [zql];omega|intros;simp only;omega|intro h;omega|intro h;simp at h;done|intro h;simp at h;omega|(intro h;simp at h)|intro h)
 have hy1:y=1:=by omega
 subst hy1
 have hk1:=h1 (by omega)
 by_cases hk2:k<b.length
 ·have hs:=hs b[k] a[k]
  cases hS:eM b[k] a[k] with
  |true=>
   rw [hS] at hs
   (repeat' first|(show Cn (.r _ _ _);refine .any ⟨_,_,_,rfl,zwr _,zsr _, ?_,rfl⟩;try rfl)|(refine ⟨⟨2,by omega,λ_=>hk1,λ_=>⟨hk2,λ_ _=>hS⟩⟩, ?_, ?_⟩)|apply wZ;rfl|show Cn _;constructor|exact rfl|apply KR.mk;kernel_rfl|apply bX pk;(iterate 6 rfl);rotate_left;rfl;(intro hw;rfl);(intro hw;apply c1<;>omega);(intro _;rfl);rfl|apply bX pk;(iterate 6 rfl);rotate_left;rfl;(intro hw;rfl);(intro hw;apply c0<;>omega);(intro _;rfl);rfl|(apply hs<;>(first|assumption|omega))|apply wY;rfl|apply wI;rfl|apply gE;omega|apply gE;show 0<_;omega|apply gE;show 1<_;omega|omega|intros;omega|simp only [zql];omega|intros;simp only [zql];omega|intros;simp only;omega|intro h;omega|intro h;simp at h;done|intro h;simp at h;omega|(intro h;simp at h)|intro h)
  |false=>
   rw [hS] at hs
   have e:=he k hk hkb (λj hj=>hI j hj _ _) (.inr (.inr ⟨hk1,hk2,hS⟩))
   (repeat' first|(show Cn (.r _ _ _);refine .any ⟨_,_,_,rfl,zwr _,zsr _, ?_,rfl⟩;try first|rfl|(rw [e]);done)|apply wZ;rfl|show Cn _;constructor|exact rfl|apply KR.mk;kernel_rfl|apply bX pk;(iterate 6 rfl);rotate_left;rfl;(intro hw;rfl);(intro hw;apply c1<;>omega);(intro _;rfl);rfl|apply bX pk;(iterate 6 rfl);rotate_left;rfl;(intro hw;rfl);(intro hw;apply c0<;>omega);(intro _;rfl);rfl|(apply hs<;>(first|assumption|omega))|show (_:PV)=_;(rw [e]);done|apply wY;rfl|apply wI;rfl|apply gE;omega|apply gE;show 0<_;omega|apply gE;show 1<_;omega|omega|intros;omega|simp only [zql];omega|intros;simp only [zql];omega|intros;simp only;omega|intro h;omega|intro h;simp at h;done|intro h;simp at h;omega|(intro h;simp at h)|intro h)
 ·have e:=he k hk hkb (λj hj=>hI j hj _ _) (.inr (.inl (by omega)))
  (repeat' first|(apply cW;focus (intro _;(apply (show PF Tryz.prog 92 [_,_] (vb (true)) from by rename_i hh;exfalso;simp [gw] at hh;omega)<;>(first|assumption|omega));done))|(show Cn (.r _ _ _);refine .any ⟨_,_,_,rfl,zwr _,zsr _, ?_,rfl⟩;try first|rfl|(rw [e]);done)|apply wZ;rfl|show Cn _;constructor|exact rfl|apply KR.mk;kernel_rfl|apply bX pk;(iterate 6 rfl);rotate_left;rfl;(intro hw;rfl);(intro hw;apply c1<;>omega);(intro _;rfl);rfl|apply bX pk;(iterate 6 rfl);rotate_left;rfl;(intro hw;rfl);(intro hw;apply c0<;>omega);(intro _;rfl);rfl|(apply bX pk;(iterate 6 rfl);rotate_left;rfl;(intro hw;rfl);(intro hw;apply vX<;>first|omega|((exfalso;simp [gw] at hw;omega)));(intro _;rfl);rfl)|show (_:PV)=_;(rw [e]);done|apply wY;rfl|apply wI;rfl|apply gE;omega|apply gE;show 0<_;omega|apply gE;show 1<_;omega|omega|intros;omega|simp only [zql];omega|intros;simp only [zql];omega|intros;simp only;omega|intro h;omega|intro h;simp at h;done|intro h;simp at h;omega|(intro h;simp at h)|intro h)
theorem ahN (a b:List Vl) (ha:a.length<4611686018427387904) (hb:b.length<4611686018427387904):PF Tryz.prog 21 [.seq (a.map Vl.cells), .seq (b.map Vl.cells)] (vb (akD a b)):=by
 have h:=apart_spec a b ha hb
 unfold roV at h
 unfold akD
 generalize apR a b=A at*
 refine pF Tryz.func21 rfl (λst=> ?_)
 (repeat' first|(show Cn (.r _ _ _);refine .any ⟨_,_,_,rfl,zwr _,zsr _, ?_,rfl⟩;try first|rfl|(simp only [zql,Int.ofNat_inj]);done)|apply wZ;rfl|show Cn _;constructor|exact rfl|apply KR.mk;kernel_rfl|(apply h<;>(first|assumption|omega))|show (_:PV)=_;(simp only [zql,Int.ofNat_inj]);done|apply wY;rfl|omega|intros;omega|simp only [zql];omega|intros;simp only [zql];omega|intros;simp only;omega|intro h;omega|intro h;simp at h;done|intro h;simp at h;omega|(intro h;simp at h)|intro h)
theorem uZ (a b:List Vl) (ha:a.length<4611686018427387904) (hb:b.length<4611686018427387904):PF Tryz.prog 91 [.seq (a.map Vl.cells), .seq (b.map Vl.cells)] (vb (iS a b)):=by
 have h:=apart_spec a b ha hb
 unfold roV at h
 unfold iS
 have hle:=awV a b
 generalize apR a b=A at*
 by_cases hA:A<a.length/\A<b.length
 ·rw [zp hA]
  obtain ⟨h1,h2⟩:=hA
  rw [getElem!_pos a A h1,getElem!_pos b A h2]
  have hl:=iH a[A] b[A]
  refine pF Tryz.func91 rfl (λst=> ?_)
  (repeat' first|(show Cn (.r _ _ _);refine .any ⟨_,_,_,rfl,zwr _,zsr _, ?_,rfl⟩;try rfl)|apply wZ;rfl|show Cn _;constructor|exact rfl|apply KR.mk;kernel_rfl|((first|apply h|apply hl)<;>(first|assumption|omega))|apply wY;rfl|apply wI;rfl|apply gE;omega|apply gE;show 0<_;omega|apply gE;show 1<_;omega|omega|intros;omega|simp only [zql];omega|intros;simp only [zql];omega|intros;simp only;omega|intro h;omega|intro h;simp at h;done|intro h;simp at h;omega|(intro h;simp at h)|intro h)
 ·rw [zn hA]
  refine pF Tryz.func91 rfl (λst=> ?_)
  (repeat' first|(show Cn (.r _ _ _);refine .any ⟨_,_,_,rfl,zwr _,zsr _, ?_,rfl⟩;try first|rfl|(simp only [zql,Int.ofNat_lt]);done)|apply wZ;rfl|show Cn _;constructor|exact rfl|apply KR.mk;kernel_rfl|(apply h<;>(first|assumption|omega))|show (_:PV)=_;(simp only [zql,Int.ofNat_lt]);done|apply wY;rfl|omega|intros;omega|simp only [zql];omega|intros;simp only [zql];omega|intros;simp only;omega|intro h;omega|intro h;simp at h;done|intro h;simp at h;omega|(intro h;simp at h)|intro h)
end
section
set_option maxRecDepth 10000
set_option maxHeartbeats 4000000
section
variable {α:Type} (lt:α->α->Bool)
def aiV (x:α):List α->List α
 |[]=>[x]
 |a::l=>if lt a x=true then a::aiV x l else x::a::l
def yG (l:List α):List α:=l.foldr (aiV lt) []
theorem sF (x:α):∀l:List α,(aiV lt x l).Perm (x::l)
 |[]=> .refl _
 |a::l=>by
  unfold aiV
  split
  ·exact ((sF x l).cons a).trans (List.Perm.swap x a l)
  ·exact .refl _
theorem dW :∀l:List α,(yG lt l).Perm l
 |[]=> .refl _
 |a::l=>(sF lt a (yG lt l)).trans ((dW l).cons a)
structure WeakO :Prop where
 asy:∀{a b},lt a b=true->lt b a=false
 neg:∀{a b c},lt a b=false->lt c a=false->lt c b=false
structure OrdX :Prop where
 asy:∀{a b},lt a b=true->lt b a=false
 neg:∀{a b c},lt a b=false->lt c a=false->lt c b=false
 eq:∀{a b},lt a b=false->lt b a=false->a=b
variable {lt}
theorem OrdX.w (h:OrdX lt):WeakO lt:=⟨h.asy,h.neg⟩
theorem akU (h:WeakO lt) (x:α):∀{l:List α},l.Pairwise (λa b=>lt b a=false)->(aiV lt x l).Pairwise λa b=>lt b a=false
 |[],_=>by simp [aiV]
 |a::l,hp=>by
  obtain ⟨h1,h2⟩:=List.pairwise_cons.1 hp
  unfold aiV
  split
  ·rename_i e
   refine List.pairwise_cons.2 ⟨λb hb=> ?_,akU h x h2⟩
   rcases zmc.1 ((sF lt x l).mem_iff.1 hb) with rfl|hb
   ·exact h.asy e
   ·exact h1 b hb
  ·rename_i e
   have e:lt a x=false:=by simpa using e
   refine List.pairwise_cons.2 ⟨λb hb=> ?_,hp⟩
   rcases zmc.1 hb with rfl|hb
   ·exact e
   ·exact h.neg e (h1 b hb)
theorem abK (h:WeakO lt):∀l:List α,(yG lt l).Pairwise λa b=>lt b a=false
 |[]=>List.Pairwise.nil
 |a::l=>akU h a (abK h l)
theorem amU (h:OrdX lt) {l:List α} (hn:l.Nodup) (hp:l.Pairwise λa b=>lt b a=false):l.Pairwise λa b=>lt a b=true:=by
 unfold List.Nodup at hn
 refine (hn.and hp).imp fun {a b} q=> ?_
 cases e:lt a b with
 |true=>rfl
 |false=>exact absurd (h.eq e q.2) q.1
theorem awS (h:OrdX lt) {l m:List α} (hl:l.Pairwise λa b=>lt a b=true) (hm:m.Pairwise λa b=>lt a b=true) (hx:∀x,x∈l↔x∈m):l=m:=
 uI (r:=λa b=>lt a b=true) (fun {a b c} h1 h2=>by
  cases e:lt a c with
  |true=>rfl
  |false=>have:=h.neg (h.asy h2) e;rw [h1] at this;cases this) (fun {a} q=>by have:=h.asy q;rw [q] at this;cases this) hl hm hx
end
def ltD (a b:Dt):Bool:=decide (a.dev<b.dev\/a.dev=b.dev/\a.seq<b.seq)
theorem ltD_ord :OrdX ltD where
 asy {a b} h:=by simp only [ltD,zde,decide_eq_false_iff_not] at*;omega
 neg {a b c} h1 h2:=by simp only [ltD,decide_eq_false_iff_not] at*;omega
 eq {a b} h1 h2:=by
  simp only [ltD,decide_eq_false_iff_not] at*
  exact (Dt.ext_iff a b).2 ⟨by omega,by omega⟩
theorem uD (a b:Dt):(byD a b<0)↔ltD a b=true:=by
 unfold ltD byD eG
 rw [zde]
 simp only [orI]
 repeat' split
 all_goals omega
def xZ :List Dt->List Dt
 |[]=>[]
 |a::l=>if a∈xZ l then xZ l else a::xZ l
theorem vB {x:Dt}:∀{l:List Dt},x∈xZ l↔x∈l
 |[]=>Iff.rfl
 |a::l=>by
  unfold xZ
  have ih:=vB (x:=x) (l:=l)
  split
  ·rename_i h
   rw [ih,zmc]
   exact ⟨.inr,λq=>q.elim (λe=>e▸vB.1 h) id⟩
  ·rw [zmc,zmc,ih]
theorem abS :∀l:List Dt,(xZ l).Nodup
 |[]=>List.nodup_nil
 |a::l=>by
  unfold xZ
  split
  ·exact abS l
  ·rename_i h
   exact List.nodup_cons.2 ⟨h,abS l⟩
def oL (l:List Dt):List Dt:=yG ltD (xZ l)
theorem ajD {l r:List Dt} (hp:r.Pairwise λa b=>ltD a b=true) (hx:∀x,x∈r↔x∈l):r=oL l:=
 awS ltD_ord hp (amU ltD_ord ((dW ltD _).nodup_iff.2 (abS l)) (abK ltD_ord.w _)) λx=>by
  rw [hx];unfold oL;rw [(dW ltD _).mem_iff,vB]
theorem aqD (l:List Dt):(oL l).length<=l.length:=by
 unfold oL
 rw [(dW ltD _).length_eq]
 induction l with
 |nil=>simp [xZ]
 |cons a l ih=>
  unfold xZ
  split
  ·simp;omega
  ·simp;omega
def jS (a b:List Dt):List Dt:=oL (a++b)
theorem vJ (a b:List Dt):(jS a b).length<=a.length+b.length:=by
 have:=aqD (a++b);rw [zla] at this;exact this
end
end Go.Proofs.YtppdefkgmegipaaGreatDoor
