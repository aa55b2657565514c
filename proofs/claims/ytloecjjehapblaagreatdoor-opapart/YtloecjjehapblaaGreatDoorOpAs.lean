import Derived.Test.YtloecjjehapblaaGreatDoorOpAr
import Derived.Test.YtloecjjehapblaaGreatDoorOpAq
import Derived.Test.YtloecjjehapblaaGreatDoorOpAp
import Derived.Test.YtloecjjehapblaaGreatDoorAbsI
set_option linter.unusedSimpArgs false
set_option linter.unusedVariables false
namespace Go.Proofs.YtloecjjehapblaaGreatDoor
open Go Go.Abs
section
attribute [local irreducible] Ev PWp
set_option maxRecDepth 10000
set_option maxHeartbeats 4000000
structure TnOK (w:Wr) (c:Cl) (o:Ot):Prop where
 n:inL o.val.n
 s:o.val.s.size<1000000
 kn:w.knew.length<1000000000000
 parts:c.parts.length<100000
def xN (w:Wr) (c:Cl) (o:Ot):List PV:=[.rp c.cells, .rp o.cells, .rp w.cells]
def aeY (c:Cl) (o:Ot):List PV:=[.rp c.cells, .rp o.cells]
section
variable {w:Wr} {c:Cl} {o:Ot} (hT:TnOK w c o)
theorem aGs (v:Vl):Wk (.agg [(PV.val (Value.int .i64 (0))),(PV.val (Value.int .i64 (v.kind))),(PV.val (Value.int .i64 (v.n))),(PV.val (Value.string (v.s))), .val (.slice none 0 0)]) (.agg (Cl.mk 0 v []).cells):= .agg (.cons (zwr _) (.cons (zwr _) (.cons (zwr _) (.cons (zwr _) (.cons Wk.nil .nil)))))
include hT
theorem aCY :PF Tryz.prog 241 (xN w c o) (.agg (if c.kind=0 then ⟨0,o.val,[]⟩ else gS c o.val w.dot w.knew).cells):=by
 have hd:=iC w
 have hp:=xL c o.val w.dot w.knew (by have:=hT.parts;omega) hT.kn
 unfold xN
 by_cases k:c.kind=0
 ·rw [zp k]
  refine aG aD Tryz.func241 (by kernel_rfl) rfl rfl rfl rfl (λst=> ?_)
  (try apply wO pk;rfl);(repeat' first|refine aB ?_;exact ⟨_,_,_,rfl,aGs o.val,zsr _,rfl,rfl⟩|show Cn _;constructor|apply wC pk;rfl;rfl|refine aA rfl ?_ ?_<;>intro h<;>(try simp at h)<;>try omega)
 ·rw [zn k]
  generalize gS c o.val w.dot w.knew=R at*
  refine aG aD Tryz.func241 (by kernel_rfl) rfl rfl rfl rfl (λst=> ?_)
  (try apply wO pk;rfl);(repeat' first|show Cn _;constructor|apply wC pk;rfl;rfl|apply wE pk;rfl;rfl|apply wD pk [] [];kernel_rfl;rfl;rfl|refine aA rfl ?_ ?_<;>intro h<;>(try simp at h)<;>try omega|(refine aB ?_;refine ⟨_,_,_,rfl,zwr _,zsr _, ?_,rfl⟩;try rfl)|(apply aH;rfl;rfl;rfl;(intro _;(first|apply hd|apply hp)<;>first|assumption|omega);rotate_left;rfl;rfl))
theorem aD5 :PF Tryz.prog 243 (aeY c o) (xS (sT c o.val.n)):=by
 have h:=adW c o.val.n hT.n
 unfold aeY
 generalize sT c o.val.n=R at*
 refine aG aD Tryz.func243 (by kernel_rfl) rfl rfl rfl rfl (λst=> ?_)
 (try apply wO pk;rfl);(repeat' first|show Cn _;constructor|apply wE pk;rfl;rfl|(refine aB ?_;refine ⟨_,_,_,rfl,zwr _,zsr _, ?_,rfl⟩;try rfl)|(apply aH;rfl;rfl;rfl;(intro _;apply h<;>first|assumption|omega);rotate_left;rfl;rfl))
theorem aDs :PF Tryz.prog 245 (xN w c o) (.agg (nD c o.val.n w.dot).cells):=by
 have hd:=iC w
 have hp:=aaT c o.val.n w.dot (by have:=hT.parts;omega)
 unfold xN
 generalize nD c o.val.n w.dot=R at*
 refine aG aD Tryz.func245 (by kernel_rfl) rfl rfl rfl rfl (λst=> ?_)
 (try apply wO pk;rfl);(repeat' first|show Cn _;constructor|apply wE pk;rfl;rfl|apply wD pk [] [];kernel_rfl;rfl;rfl|(refine aB ?_;refine ⟨_,_,_,rfl,zwr _,zsr _, ?_,rfl⟩;try rfl)|(apply aH;rfl;rfl;rfl;(intro _;(first|apply hd|apply hp)<;>first|assumption|omega);rotate_left;rfl;rfl))
theorem aDm :PF Tryz.prog 247 (xN w c o) (.agg (rG c o.val.n w.dot w.knew).cells):=by
 have hd:=iC w
 have hp:=aqS c o.val.n w.dot w.knew hT.parts hT.kn
 unfold xN
 generalize rG c o.val.n w.dot w.knew=R at*
 refine aG aD Tryz.func247 (by kernel_rfl) rfl rfl rfl rfl (λst=> ?_)
 (try apply wO pk;rfl);(repeat' first|show Cn _;constructor|apply wE pk;rfl;rfl|apply wD pk [] [];kernel_rfl;rfl;rfl|(refine aB ?_;refine ⟨_,_,_,rfl,zwr _,zsr _, ?_,rfl⟩;try rfl)|(apply aH;rfl;rfl;rfl;(intro _;(first|apply hd|apply hp)<;>first|assumption|omega);rotate_left;rfl;rfl))
theorem aDP :PF Tryz.prog 249 (xN w c o) (xS (T.typeP c o.val.s w.who ⟨o.after,o.at_⟩)):=by
 have h:=T.type_spec c o.val.s w.who o.after o.at_ (by have:=hT.parts;omega) hT.s
 unfold xN
 generalize T.typeP c o.val.s w.who ⟨o.after,o.at_⟩=R at*
 refine aG aD Tryz.func249 (by kernel_rfl) rfl rfl rfl rfl (λst=> ?_)
 (try apply wO pk;rfl);(repeat' first|show Cn _;constructor|apply wE pk;rfl;rfl|(refine aB ?_;refine ⟨_,_,_,rfl,zwr _,zsr _, ?_,rfl⟩;try rfl)|(apply aH;rfl;rfl;rfl;(intro _;apply h<;>first|assumption|omega);rotate_left;rfl;rfl))
theorem aDh :PF Tryz.prog 251 (aeY c o) (.agg (T.eraseP c ⟨o.after,o.at_⟩).cells):=by
 have h:=T.erase_spec c o.after o.at_ (by have:=hT.parts;omega)
 unfold aeY
 generalize T.eraseP c ⟨o.after,o.at_⟩=R at*
 refine aG aD Tryz.func251 (by kernel_rfl) rfl rfl rfl rfl (λst=> ?_)
 (try apply wO pk;rfl);(repeat' first|show Cn _;constructor|apply wE pk;rfl;rfl|(refine aB ?_;refine ⟨_,_,_,rfl,zwr _,zsr _, ?_,rfl⟩;try rfl)|(apply aH;rfl;rfl;rfl;(intro _;apply h<;>first|assumption|omega);rotate_left;rfl;rfl))
end
theorem avX (f:FuncId) (caps:List PV):PF Tryz.prog 239 [.fn f caps] (.fn 240 [.rp [.fn f caps]]):=by
 refine aG aD Tryz.func239 (by kernel_rfl) rfl rfl rfl rfl (λst=> ?_)
 (try apply wO pk;rfl);(repeat' first|show Cn _;constructor|apply wE pk;rfl;rfl|(refine aB ?_;refine ⟨_,_,_,rfl,zwr _,zsr _, ?_,rfl⟩;try rfl)|apply bE 1;rfl;rfl)
theorem nK {f:FuncId} {caps:List PV} {d:Cl} (h:PF Tryz.prog f caps (.agg d.cells)):PF Tryz.prog 240 [.rp [.fn f caps]] (xS (d,0)):=by
 have h':PF Tryz.prog f ([]++caps) (.agg d.cells):=h
 refine aG aD Tryz.func240 (by kernel_rfl) rfl rfl rfl rfl (λst=> ?_)
 (try apply wO pk;rfl);(repeat' first|show Cn _;constructor|apply wE pk;rfl;rfl|(refine aB ?_;refine ⟨_,_,_,rfl,zwr _,zsr _, ?_,rfl⟩;try rfl)|(apply aH;rfl;rfl;rfl;(intro _;apply h'<;>first|assumption|omega);rotate_left;rfl;rfl))
def asH (f:FuncId) (caps:List PV):PV:= .fn 240 [.rp [.fn f caps]]
def aFw (w:Wr) (c:Cl) (o:Ot):List (Value×PV):=[(.int .i64 2,asH 241 (xN w c o)),(.int .i64 3, .fn 243 (aeY c o)),(.int .i64 4,asH 245 (xN w c o)),(.int .i64 5,asH 247 (xN w c o)),(.int .i64 6, .fn 249 (xN w c o)),(.int .i64 7,asH 251 (aeY c o))]
theorem awN {w:Wr} {c:Cl} {o:Ot} (hT:TnOK w c o) (h1:2<=o.kind) (h2:o.kind<=7):∃f caps,gH tt 322 (aFw w c o) (.int .i64 o.kind) false=some (.fn f caps)/\PF Tryz.prog f caps (xS (eM w c o)):=by
 have h:o.kind=2\/o.kind=3\/o.kind=4\/o.kind=5\/o.kind=6\/o.kind=7:=by omega
 unfold eM
 rcases h with h|h|h|h|h|h
 ·rw [h]
  refine ⟨_,_,rfl, ?_⟩
  have:=nK (aCY hT)
  rw [zp rfl]
  by_cases k:c.kind=0
  ·rw [zp k] at this⊢;exact this
  ·rw [zn k] at this⊢;exact this
 ·rw [h];exact ⟨_,_,rfl,aD5 hT⟩
 ·rw [h];exact ⟨_,_,rfl,nK (aDs hT)⟩
 ·rw [h];exact ⟨_,_,rfl,nK (aDm hT)⟩
 ·rw [h];exact ⟨_,_,rfl,aDP hT⟩
 ·rw [h];exact ⟨_,_,rfl,nK (aDh hT)⟩
theorem aoS {st S:aJ} {id idm:Nat} {a b:AObj} (hne:id≠idm) (hm:st idm=none) (e:b=a) (hS:∀q,q≠idm->S q=st q):StSub (upd st id (some a)) (upd S id (some b)):=λq=>by
 subst e
 by_cases e1:q=id
 ·subst e1;right;rw [aC,aC]
 ·rw [aF e1,aF e1]
  by_cases e2:q=idm
  ·subst e2;exact .inl hm
  ·exact .inr (hS q e2).symm
theorem aCX {w:Wr} {cs:List Cl} {j id:Nat} {o:Ot} (hj:j<cs.length) (hT:TnOK w cs[j] o) (h1:2<=o.kind) (h2:o.kind<=7) {st:aJ} (hst:st id=some (.arr 80 (cs.map Cl.cells))):PC Tryz.prog 159 [.agg w.cells, .el id 5 j 0, .agg o.cells] st λr S=>r=(.val (.int .i64 ((eM w cs[j] o).2)))/\S=upd st id (some (.arr 80 ((cs.set j (eM w cs[j] o).1).map Cl.cells))):=by
 obtain ⟨f,caps,hlook,hP⟩:=awN hT h1 h2
 generalize eM w cs[j] o=R at*
 have hget:cs[j]?=some cs[j]:=zgg hj
 have hS:=avX
 have hP':PF Tryz.prog f ([]++caps) (xS R):=hP
 refine cE aD Tryz.func159 (by kernel_rfl) rfl rfl rfl rfl ?_
 (try apply wO pk;rfl);(repeat' first|apply qM aD;exact .inl rfl;(iterate 7 rfl);exact aC _ _ _;rfl;(iterate 2 (apply lS aD;(iterate 4 rfl)));refine sJ ?_;apply iL 9;rfl;exact aC _ _ _|((refine aB ?_;refine ⟨_,_,upd st id (some (.arr 80 ((cs.set j R.1).map Cl.cells))),rfl,zwr _, ?_,rfl,rfl⟩;exact aoS hne hidm' (by simp) (λq h=>by repeat (first|rfl|refine (aF h).trans ?_))))|show Cn _;constructor|apply wC pk;rfl;rfl|apply wE pk;rfl;rfl|(apply aH;rfl;rfl;rfl;(intro _;(first|apply hS|apply hP')<;>first|assumption|omega);rotate_left;rfl;rfl)|apply ncA;rfl;rfl;rfl;rotate_left;rfl;rfl|apply ldL pk Cl.elem (a:=cs[j]);rfl;rfl;rotate_left;rfl;(assumption);(intro _;exact hget);rfl|apply stA pk Cl.elem;rfl;rfl;rfl;((focus ((repeat (first|assumption|refine (aF ‹_›).trans ?_));done)));(omega);rfl|apply bE 3;rfl;rfl|apply bE 5;rfl;rfl|apply bE 8;rfl;rfl|((refine nZ rfl (λidm hidm=> ?_));have hidm':st idm=none:=hidm;have hne:id≠idm:=(λe=>by rw [<-e,hst] at hidm';cases hidm'))|apply qM aD;exact .inl rfl;(iterate 7 rfl);exact aC _ _ _;rfl|apply kU pk;(iterate 4 rfl);(focus repeat' constructor);rfl;exact hlook;rfl)
end
section
set_option maxRecDepth 10000
set_option maxHeartbeats 4000000
def LnW (k:Nat) (l:Ln):Prop:=l.by_.length<=60+k/\l.cells_.length<=20/\∀c∈l.cells_,c.parts.length<=40+40*k
def OpW (k:Nat) (b:Bs):Prop:=b.length<=20/\∀d∈b,d.lines.length<=100+k/\∀l∈d.lines,LnW k l
theorem LnW.S {k:Nat} {l:Ln} (h:LnW k l) (hk:k<=20):LnS l:=⟨by have:=h.1;omega,by have:=h.2.1;omega,λc hc=>by have:=h.2.2 c hc;omega⟩
theorem OpW.S {k:Nat} {b:Bs} (h:OpW k b) (hk:k<=20):BsS 200 b:=⟨h.1,λd hd=>⟨by have:=(h.2 d hd).1;omega,λl hl=>((h.2 d hd).2 l hl).S hk⟩⟩
theorem LnW.up {k m:Nat} {l:Ln} (h:LnW k l) (hkm:k<=m):LnW m l:=⟨by have:=h.1;omega,h.2.1,λc hc=>by have:=h.2.2 c hc;omega⟩
theorem OpW.nil (k:Nat):OpW k []:=⟨by simp,λd hd=>by cases hd⟩
theorem aFW {b:Bs} (h:uD b=true):OpW 0 b:=by
 have h0:=h
 unfold uD at h
 simp only [zba,zde,zal] at h
 obtain ⟨h1,h2,h3⟩:=h
 refine ⟨by omega,λd hd=>⟨?_,λl hl=> ?_⟩⟩
 ·have:=((aEn h0).2 d hd).1;omega
 ·have:=h3 d hd l hl
  unfold fH lP at this
  simp only [zba,zde,zal] at this
  exact ⟨by omega,by omega,λc hc=>by have:=this.1 c hc;omega⟩
theorem nY {k:Nat} {b:Bs} (h:OpW k b) (t:Int):(aN b t).length<=100+k/\∀l∈aN b t,LnW k l:=by
 unfold aN
 split
 ·rename_i ho
  unfold okT at ho
  simp only [zba,zde] at ho
  rw [getElem!_pos b t.toNat (by omega)]
  exact h.2 _ (zgm _)
 ·exact ⟨by simp,λl hl=>by cases hl⟩
theorem agW {L:List Ln} {k:Int} {l:Ln} (h:cL L k=some l):l∈L:=by
 unfold cL at h
 exact List.mem_of_find?_eq_some h
theorem aBc {L:List Ln} {a x:Ln} (h:x∈jL L a):x=a\/x∈L:=by
 unfold jL at h
 split at h
 ·exact (List.mem_or_eq_of_mem_set h).symm
 ·rcases ahW.1 (show x∈L.take _++[a]++L.drop _ from h) with q|q
  ·exact .inl q
  ·exact .inr q
theorem aEi {k:Nat} {b:Bs} (h:OpW k b) (t:Int) {a:Ln} (ha:LnW (k+1) a):OpW (k+1) (fP b t a):=by
 unfold fP
 split
 ·refine ⟨by rw [List.length_set];exact h.1,λd hd=> ?_⟩
  rcases List.mem_or_eq_of_mem_set hd with q|rfl
  ·exact ⟨by have:=(h.2 d q).1;omega,λl hl=>((h.2 d q).2 l hl).up (by omega)⟩
  ·obtain ⟨q1,q2⟩:=nY h t
   refine ⟨?_,λl hl=> ?_⟩
   ·have:=yS (aN b t) a
    show (jL (aN b t) a).length<=_
    omega
   ·rcases aBc hl with rfl|hl
    ·exact ha
    ·exact (q2 l hl).up (by omega)
 ·exact ⟨h.1,λd hd=>⟨by have:=(h.2 d hd).1;omega,λl hl=>((h.2 d hd).2 l hl).up (by omega)⟩⟩
theorem aFn {t:Tb} {G:R2->Bool} {who:Dt} {l:Ln} {m:Nat} (h:LnW m l):LnW (m+1) (kS t G who l):=by
 obtain ⟨h1,h2,h3⟩:=h
 have hw:=aeC l who
 unfold kS
 split
 ·refine ⟨?_, ?_,λc hc=> ?_⟩
  ·show (cV l who).by_.length<=_;omega
  ·show (eP _ _ _).length<=_;rw [dG];exact h2
  ·obtain ⟨j,hj,rfl⟩:=zgo hc
   have hj:j<(eP (eB G l) t.foreign l.cells_).length:=hj
   rw [dG] at hj
   show ((eP (eB G l) t.foreign l.cells_)[j]'(by rw [dG];exact hj)).parts.length<=_
   rw [nP hj]
   split
   ·simp [Cl.zero]
   ·have:=h3 _ (zgm hj);omega
 ·exact ⟨by omega,by omega,λc hc=>by have:=h3 c hc;omega⟩
theorem aCD {rb:Bool} {s:Sc} {b:Bs} {z:R2} {who:Dt} {M:List R2} {m:Nat} (h:OpW m b):OpW (m+1) (uV rb s b z who M).1:=by
 unfold uV
 split
 ·split
  ·split
   ·refine ⟨by rw [afX];exact h.1,λd hd=> ?_⟩
    unfold xM at hd
    obtain ⟨k,hk,rfl⟩:=List.mem_map.1 hd
    have hk:=List.mem_range.1 hk
    obtain ⟨q1,q2⟩:=h.2 _ (zgm hk)
    refine ⟨?_,λx hx=> ?_⟩
    ·show (qG s b (inR M) who k).length<=_
     unfold qG
     rw [zql,getElem!_pos b k hk]
     have:=List.length_filter_le (λl:Ln=> !inR M ((k:Int),l.key)) b[k].lines
     omega
    ·obtain ⟨l,hl,_,rfl⟩:=ajF.1 hx
     rw [getElem!_pos b k hk] at hl
     exact aFn (q2 l hl)
   ·exact OpW.nil _
  ·exact OpW.nil _
 ·exact OpW.nil _
theorem nX {l:List Pt} {k:Nat} {x:Pt}:(dL l k [x]).length=l.length+1:=by
 unfold dL
 simp only [zla,zlt,zld,List.length_singleton]
 omega
def rN (o:Ot):Prop:=o.row.length<=20/\o.val.s.size<=40/\∀v∈o.row,v.s.size<=40
theorem akM (c:Cl) (n:Int):(sT c n).1.parts.length=0:=by
 unfold sT
 split
 ·rfl
 ·split
  ·rfl
  ·split<;>rfl
theorem aAh (w:Wr) (c:Cl) (o:Ot) {m:Nat} (hc:c.parts.length<=m) (ho:rN o):(eM w c o).1.parts.length<=m+40:=by
 unfold eM
 have h1:=akM c o.val.n
 have h2:=List.length_filter_le (rB w.dot w.knew) c.parts
 have h3:=List.length_filter_le (rJ o.val.n w.dot w.knew) c.parts
 have h4:=T.type_len c o.val.s w.who ⟨o.after,o.at_⟩
 have h5:=T.eraseP_len ⟨o.after,o.at_⟩ c
 have h6:=ho.2.1
 have h7:(gS c o.val w.dot w.knew).parts.length<=c.parts.length+1:=by unfold gS;simp only;rw [nX];omega
 have h8:(nD c o.val.n w.dot).parts.length<=c.parts.length+1:=by
  unfold nD
  split
  ·omega
  ·simp only;rw [nX];omega
 have h9:(rG c o.val.n w.dot w.knew).parts.length<=c.parts.length:=h3
 repeat' split
 all_goals ((try dsimp only);first|omega|simp;done)
theorem auI (w:Wr) (k:Int) (v:Vl) (hv:v.s.size<=40):(kE w k v).1.parts.length<=40:=by
 unfold kE
 have h1:=akM (oM 0) v.n
 have h4:=T.type_len ⟨4,Vl.zero,[]⟩ v.s w.who T.Nm.zero
 have h7:(gS ⟨k,Vl.zero,[]⟩ v w.dot w.knew).parts.length<=1:=by unfold gS;simp only;rw [nX];simp
 have h8:(nD ⟨k,Vl.zero,[]⟩ v.n w.dot).parts.length<=1:=by
  unfold nD
  split
  ·simp
  ·simp only;rw [nX];simp
 simp only [List.length_nil] at h4
 repeat' split
 all_goals ((try dsimp only);first|omega|simp;done)
theorem aEL {w:Wr} {t:Tb} {o:Ot} (ho:rN o) (k:Nat):LnW (k+1) (eN w t o.row):=by
 refine ⟨by simp only [eN,List.length_singleton];omega,by unfold eN;simp only [zql,List.length_range];exact ho.1,λc hc=> ?_⟩
 unfold eN at hc
 obtain ⟨i,hi,rfl⟩:=List.mem_map.1 hc
 have hi:=List.mem_range.1 hi
 have:=auI w t.cols[i]!.kind o.row[i]! (by rw [getElem!_pos o.row i hi];exact ho.2.2 _ (zgm hi))
 unfold nU
 omega
theorem aGq {w:Wr} {o:Ot} {l:Ln} {k:Nat} (ho:rN o) (h:LnW k l):LnW (k+1) (nR w o l):=by
 obtain ⟨h1,h2,h3⟩:=h
 have hw:=aeC ⟨l.key,l.cells_.set o.col.toNat (eM w l.cells_[o.col.toNat]! o).1,l.by_⟩ w.dot
 have hc:(nR w o l).cells_=l.cells_.set o.col.toNat (eM w l.cells_[o.col.toNat]! o).1:=by unfold nR cV;split<;>rfl
 refine ⟨?_, ?_,λc hc'=> ?_⟩
 ·show (cV _ _).by_.length<=_
  simp only at hw;omega
 ·rw [hc,List.length_set];exact h2
 ·rw [hc] at hc'
  rcases List.mem_or_eq_of_mem_set hc' with q|rfl
  ·have:=h3 c q;omega
  ·by_cases hj:o.col.toNat<l.cells_.length
   ·rw [getElem!_pos l.cells_ _ hj]
    have:=aAh w l.cells_[o.col.toNat] o (h3 _ (zgm hj)) ho
    omega
   ·rw [List.set_eq_of_length_le (by omega)] at hc'
    have:=h3 _ hc';omega
theorem aBY {w:Wr} {s:Sc} {b:Bs} {o:Ot} {k:Nat} (h:OpW k b) (ho:rN o):OpW (k+1) (bU w s b o).1:=by
 unfold bU
 split
 ·exact OpW.nil _
 ·split
  ·unfold aCc
   split
   ·exact OpW.nil _
   ·split
    ·exact OpW.nil _
    ·split
     ·exact OpW.nil _
     ·exact aEi h _ (aEL ho k)
  ·split
   ·exact aCD h
   ·unfold akD
    cases hg:cL (aN b o.table) o.key with
    |none=>exact OpW.nil _
    |some l=>
     simp only
     split
     ·exact OpW.nil _
     ·exact aEi h _ (aGq ho ((nY h _).2 l (agW hg)))
theorem apL {tx:Cl->Int} {t:Tb} {L:List Ln} (h:sM tx t L=true) (a:Ln) (hl:(jL L a).length<=2000) (ha:jV tx t a=true):sM tx t (jL L a)=true:=by
 obtain ⟨h1,h2,h3⟩:=fV.1 h
 refine fV.2 ⟨hl,λx hx=> ?_,h3.put a⟩
 rcases (eC h3 a x).1 hx with rfl|w
 ·exact ha
 ·exact h2 x w.1
theorem kC (b:Bs) (k:Int) (a:Ln):fP b k a=iO b k (jL (aN b k) a):=rfl
theorem afB {s:Sc} {b:Bs} {k:Nat} (h:cH T.rightP s b=true) (hk:k<s.length) {a:Ln} (hl:(jL (aN b k) a).length<=2000) (ha:LineOK T.rightP s[k] a):cH T.rightP s (fP b k a)=true:=by
 obtain ⟨⟨h1,h2⟩,_⟩:=bX.1 h
 have hok:okT b (k:Int)=true:=by unfold okT;simp only [zba,zde];omega
 rw [kC,awV h hok,Int.toNat_natCast,getElem!_pos s k hk]
 have hd:=acH h hok
 rw [Int.toNat_natCast,getElem!_pos s k hk] at hd
 exact apL hd a hl (xW.2 ha)
theorem acZ {L:List Ln} {a:Ln} (h:(cL L a.key).isSome=true):(jL L a).length=L.length:=by
 rcases zF L a.key with ⟨j,hj,e,_⟩|⟨j,hj,e,q,_⟩
 ·unfold jL;rw [e,zp rfl,List.length_set]
 ·rw [q] at h;cases h
theorem aFU {s:Sc} (h:cU s=0) {k:Nat} (hk:k<s.length):s[k].cols[0]!.kind=0/\s[k].cols[0]!.type_=1/\s[k].cols[0]!.null=false:=by
 have h3:=fK h hk (lk3 s[k]!) (by simp [lks])
 rw [getElem!_pos s k hk] at h3
 unfold lk3 at h3
 split at h3
 ·cases h3
 ·rename_i q2
  rw [not_or] at q2
  have h4:lX s[k].cols[0]! =true:=by simpa using q2.1
  unfold lX at h4
  rw [zba,zde,zde] at h4
  exact ⟨h4.1,h4.2,by simpa using q2.2⟩
theorem aGA {s:Sc} (h:cU s=0) {k:Nat} (hk:k<s.length) {j:Nat} (hj:j<s[k].cols.length):0<=s[k].cols[j].kind/\s[k].cols[j].kind<=4:=by
 have h2:=fK h hk (lk2 s[k]!) (by simp [lks])
 rw [getElem!_pos s k hk] at h2
 unfold lk2 at h2
 have:=uG (show orI ((List.range s[k].cols.length).map (amC s[k]))=0 from h2) _ (List.mem_map.2 ⟨j,List.mem_range.2 hj,rfl⟩)
 unfold amC atG at this
 rw [getElem!_pos s[k].cols j hj] at this
 split at this
 ·cases this
 ·rename_i q;simp only [not_or] at q;omega
theorem avZ {w:Wr} {s:Sc} (h:cU s=0) {k:Nat} (hk:k<s.length) {o:Ot} (hw:uP w=true) (hr:amY s[k] o=0) (he:jF w s[k] o.row=0):LineOK T.rightP s[k] (eN w s[k] o.row):=by
 unfold amY at hr
 split at hr
 ·cases hr
 split at hr
 ·rename_i q;exact absurd hr q
 rename_i q1 q2
 split at hr
 ·cases hr
 rename_i q3
 simp only [not_or,Bool.not_eq_false,Decidable.not_not] at q1 q2 q3
 have hlen:=arL q2
 have hv:∀j,j<o.row.length->sI s[k].cols[j]! o.row[j]! =0:=λj hj=>by
  unfold eK at q2
  rw [zp hlen.symm] at q2
  exact gA.1 q2 j (List.mem_range.2 hj)
 have hf:∀j (hj:j<o.row.length),jS T.rightP (nU w s[k] o.row j).1=true/\(nU w s[k] o.row j).1.kind=s[k].cols[j]!.kind:=λj hj=>by
  have h0:=gA.1 he j (List.mem_range.2 hj)
  have hc:=aGA h hk (j:=j) (by omega)
  refine azN hw ?_ (hv j hj) h0
  rw [getElem!_pos s[k].cols j (by omega)];exact hc
 have hl:(eN w s[k] o.row).cells_.length=o.row.length:=by unfold eN;simp
 have hg:∀j (hj:j<(eN w s[k] o.row).cells_.length),(eN w s[k] o.row).cells_[j]=(nU w s[k] o.row j).1:=λj hj=>by
  unfold eN
  show (List.map _ _)[j]'(by simpa [eN] using hj)=_
  rw [List.getElem_map,List.getElem_range]
 have hk0:=q3.2
 unfold avQ at hk0
 simp only [zba,zde] at hk0
 have hpos:0<o.row.length:=by omega
 refine ⟨hk0.1,by show o.row[0]!.n<_;omega,by rw [hl];exact hlen,λj hj=> ?_,λc hc=> ?_, ?_, ?_⟩
 ·rw [hg j hj];exact (hf j (by omega)).2
 ·obtain ⟨j,hj,rfl⟩:=zgo hc
  rw [hg j hj];exact (hf j (by omega)).1
 ·rw [getElem!_pos _ 0 (by rw [hl];exact hpos),hg 0 (by rw [hl];exact hpos)]
  obtain ⟨c1,c2,c3⟩:=aFU h hk
  have hv0:=hv 0 hpos
  unfold nU kE
  rw [zp c1]
  show o.row[0]! =⟨1,o.row[0]!.n,e0⟩
  unfold sI at hv0
  split at hv0
  ·cases hv0
  split at hv0
  ·cases hv0
  split at hv0
  ·cases hv0
  rename_i r1 r2 r3
  have hk1:o.row[0]!.kind=1:=by
   have hkc:dU s[k].cols[0]! =1:=by unfold dU;rw [zp (.inl c1),c2]
   by_cases z:o.row[0]!.kind=0
   ·exact absurd ⟨z, .inl c1,c3⟩ r2
   ·exact Classical.byContradiction λy=>r3 ⟨z,by rw [hkc];exact y⟩
  have hvr:cP o.row[0]! =true:=by simpa using r1
  unfold cP at hvr
  rw [zn (by omega),zp hk1] at hvr
  simp only [zba,zde] at hvr
  rw [Vl.ext_iff]
  exact ⟨hk1,rfl,hvr.1.1⟩
 ·refine abV.2 ⟨λx hx=> ?_, ?_⟩
  ·have hx:x∈[w.dot]:=hx
   rw [zms.1 hx];exact pQ hw
  ·exact List.pairwise_singleton _ _
theorem auM {w:Wr} {t:Tb} {o:Ot} {l:Ln} (hw:uP w=true) (hL:LineOK T.rightP t l) (hr:aaP t o=0) (h0:(eM w l.cells_[o.col.toNat]! o).2=0):LineOK T.rightP t (nR w o l):=by
 unfold aaP at hr
 split at hr
 ·cases hr
 split at hr
 ·cases hr
 split at hr
 ·cases hr
 split at hr
 ·rename_i q;exact absurd hr q
 rename_i q1 q2 q3 q4
 simp only [not_or,Bool.not_eq_false,Decidable.not_not] at q1 q2 q3 q4
 obtain ⟨k1,k2,ln,kd,ce,ze,ds⟩:=hL
 have hj:o.col.toNat<l.cells_.length:=by omega
 rw [<-kd _ hj] at q3
 rw [getElem!_pos l.cells_ _ hj] at h0
 obtain ⟨t1,t2⟩:=aD4 hw (ce _ (zgm hj)) q3 q4 h0
 have hc:(nR w o l).cells_=l.cells_.set o.col.toNat (eM w l.cells_[o.col.toNat] o).1:=by
  unfold nR cV
  rw [getElem!_pos l.cells_ _ hj]
  split<;>rfl
 have hkey:(nR w o l).key=l.key:=by unfold nR cV;split<;>rfl
 refine ⟨by rw [hkey];exact k1,by rw [hkey];exact k2,by rw [hc,List.length_set];exact ln,λj hjj=> ?_,λc hcc=> ?_, ?_,acP ds (pQ hw)⟩
 ·simp only [hc,List.getElem_set]
  simp only [hc,List.length_set] at hjj
  split
  ·rename_i e;subst e;rw [t2];exact kd _ hj
  ·exact kd j hjj
 ·rw [hc] at hcc
  rcases List.mem_or_eq_of_mem_set hcc with q|rfl
  ·exact ce c q
  ·exact t1
 ·rw [hkey,hc,<-ze,getElem!_pos _ 0 (by rw [List.length_set];omega),List.getElem_set,zn (by omega),getElem!_pos l.cells_ 0 (by omega)]
theorem aaW {tx:Cl->Int} {s:Sc} {b:Bs} (hg:cH tx s b=true) {k:Nat} (hk:k<s.length) {l:Ln} (hl:l∈aN b k):LineOK tx s[k] l:=by
 obtain ⟨⟨h1,h2⟩,_⟩:=bX.1 hg
 have hkb:k<b.length:=by omega
 have hl:l∈b[k].lines:=by
  unfold aN okT at hl
  rw [zp (by simp;omega),Int.toNat_natCast,getElem!_pos b k hkb] at hl
  exact hl
 have hL:=vT hg hkb hl
 rwa [getElem!_pos s k hk] at hL
theorem mI {s:Sc} {o:Ot} (h:eH s o=0):∃k:Nat,o.table=k/\∃hk:k<s.length,(o.kind=1->amY s[k] o=0)/\(o.kind≠1->o.kind≠8->aaP s[k] o=0):=by
 unfold eH at h
 split at h
 ·cases h
 split at h
 ·cases h
 rename_i q1 q2
 refine ⟨o.table.toNat,by omega,by omega,λe=> ?_,λe1 e8=> ?_⟩
 ·rw [zp e,getElem!_pos s _ (by omega)] at h;exact h
 ·rw [zn e1] at h
  split at h
  ·cases h
  rw [getElem!_pos s _ (by omega)] at h;exact h
theorem rQ {w:Wr} {s:Sc} {b:Bs} {o:Ot} (hw:uP w=true) (hb:cH T.rightP s b=true) (h0:(bU w s b o).2=0):cH T.rightP s (bU w s b o).1=true:=by
 have hs:=(bX.1 hb).1.1
 unfold bU at*
 by_cases hr:eH s o=0
 ·rw [zn (by simp [hr])] at h0⊢
  obtain ⟨k,hk,hks,r1,r2⟩:=mI hr
  by_cases h1:o.kind=1
  ·rw [zp h1] at h0⊢
   unfold aCc at*
   split at h0
   ·cases h0
   split at h0
   ·cases h0
   rw [hk,Int.toNat_natCast,getElem!_pos s k hks] at h0⊢
   split at h0
   ·rename_i q;exact absurd h0 q
   rename_i q1 q2 q3
   rw [hk] at q1 q2
   rw [zn q1,zn q2,zn q3]
   refine afB hb hks ?_ (avZ hs hks hw (r1 h1) (zdn q3))
   have:=yS (aN b (k:Int)) (eN w s[k] o.row)
   omega
  ·rw [zn h1] at h0⊢
   by_cases h8:o.kind=8
   ·rw [zp h8] at h0⊢
    unfold uV at*
    rw [zp rfl] at h0⊢
    split at h0
    ·rename_i q;rw [zp q]
     split at h0
     ·rename_i q2;rw [zp q2];exact aBM hb (pQ hw)
     ·cases h0
    ·cases h0
   ·rw [zn h8] at h0⊢
    unfold akD at*
    rw [hk] at h0⊢
    cases hg:cL (aN b (k:Int)) o.key with
    |none=>rw [hg] at h0;cases h0
    |some l=>
     rw [hg] at h0
     simp only at h0⊢
     split at h0
     ·rename_i q;exact absurd h0 q
     rename_i q
     rw [zn q]
     have hL:=aaW hb hks (agW hg)
     obtain ⟨_,hkey⟩:=(nH (iZ hb (k:Int))).1 hg
     refine afB hb hks ?_ (auM hw hL (r2 h1 h8) (zdn q))
     have hkk:(nR w o l).key=l.key:=by unfold nR cV;split<;>rfl
     rw [acZ (by rw [hkk,hkey,hg];rfl)]
     have hok:okT b (k:Int)=true:=by unfold okT;simp only [zba,zde];have:=(bX.1 hb).1.2;omega
     exact (fV.1 (acH hb hok)).1
 ·rw [zp hr] at h0
  exact absurd h0 hr
end
section
attribute [local irreducible] Ev PWp
set_option maxRecDepth 10000
set_option maxHeartbeats 4000000
def aB6 (l:Ln) (e:Int):PV:= .tup [.agg l.cells,(PV.val (Value.int .i64 (e)))]
theorem aGk (e:Int):Wk (.tup [.agg [(PV.val (Value.int .i64 (0))), .val (.slice none 0 0), .val (.slice none 0 0)],(PV.val (Value.int .i64 (e)))]) (aB6 Ln.zero e):=Wk.tup (.cons (.agg (.cons (zwr _) (.cons Wk.nil (.cons Wk.nil .nil)))) (.cons (zwr _) .nil))
structure RwI (w:Wr) (t:Tb) (r:List Vl):Prop where
 pos:0<r.length
 len:r.length<=t.cols.length
 l20:r.length<=1000
 n:∀v∈r,inL v.n
 s:∀v∈r,v.s.size<1000000
 kn:w.knew.length<1000000000000
theorem aCT (w:Wr) (t:Tb) (r:List Vl) (h:RwI w t r) (st:aJ):PC Tryz.prog 154 [.agg w.cells, .agg t.cells, .seq (r.map Vl.cells)] st λR S=>(jF w t r≠0/\R= .tup [.agg [(.val (.int .i64 0)), .val (.slice none 0 0), .val (.slice none 0 0)],(.val (.int .i64 (jF w t r)))]/\S=st)\/(jF w t r=0/\∃id,R= .tup [.agg [(.val (.int .i64 (r[0]!.n))), .vec id 5 0 r.length, .seq [w.dot.cells]],(.val (.int .i64 0))]/\st id=none/\S=upd st id (some (.arr 80 ((eN w t r).cells_.map Cl.cells)))):=by
 have hd:=iC w
 have hpos:=h.pos
 have hr0:=getElem!_pos r 0 hpos
 have hL:(eN w t r).cells_.length=r.length:=by unfold eN;simp
 have hAt:∀i (hi:i<r.length),(eN w t r).cells_[i]'(by rw [hL];exact hi)=(nU w t r i).1:=λi hi=>by
  unfold eN
  show (List.map _ _)[i]'(by simpa using hi)=_
  rw [List.getElem_map,List.getElem_range]
 have hlE:jF w t r=eA (λi=>(nU w t r i).2) (List.range r.length):=rfl
 have hfr:=λi (hi:i<r.length)=>aqJ w t.cols[i]!.kind r[i]! (by rw [getElem!_pos r i hi];exact h.n _ (zgm hi)) (by rw [getElem!_pos r i hi];exact h.s _ (zgm hi)) h.kn
 have hlen:=h.len
 have hl20:=h.l20
 rw [hr0]
 generalize (eN w t r).cells_=N at*
 generalize jF w t r=E at*
 refine cE aD Tryz.func154 (by kernel_rfl) rfl rfl rfl rfl ?_
 focus ((try apply wO pk;rfl);(repeat' first|show Cn _;constructor|apply wE pk;rfl;rfl|apply wD pk [] [];kernel_rfl;rfl;rfl|(apply aH;rfl;rfl;rfl;(intro _;apply hd<;>first|assumption|omega);rotate_left;rfl;rfl)|apply aO pk;(iterate 6 rfl);rotate_left;rfl;(intro hw;rfl);(intro hw;apply aI<;>omega);(intro _;rfl);rfl|intros;(try simp only [zql]);omega))
 refine aCa 8 80 5 [_] rfl rfl rfl (λid hid=> ?_)
 refine aK (X:={x:Nat×Nat//x.1<=r.length/\st x.2=none/\∀j<x.1,(nU w t r j).2=0}) (λi=>((((((((St.nil 52 (upd st i.1.2 (some (.arr 80 ((N.take i.1.1).map Cl.cells))))).var 3 113 (w.cells)).var 4 121 (t.cells)).var 6 67 ([(PV.val (Value.int .i64 (0))), .val (.slice none 0 0), .val (.slice none 0 0)])).var 8 67 ([(PV.val (Value.int .i64 (r[0].n))), .vec i.1.2 5 0 i.1.1, .seq [w.dot.cells]])).pv 21 (.seq (r.map Vl.cells))).pv 22 ((PV.val (Value.int .i64 (((r.map Vl.cells).length:Nat)))))).pv 23 ((PV.val (Value.int .i64 ((i.1.1:Nat))))))) (λi=>r.length-i.1.1) ⟨(0,id),by simp,hid,by simp⟩ ?_ (λi=> ?_)
 ·dsimp only
  (((repeat (first|refine Sub.pv ?_ rfl|refine Sub.var ?_ rfl rfl));(exact Sub.nil _ _ _ (zsr _) rfl)))
 obtain ⟨⟨i,id⟩,hi,hid,hI⟩:=i
 simp only at hi hid hI
 dsimp only
 by_cases hend:r.length<=i
 ·obtain rfl:i=r.length:=by omega
  rw [ztl (by omega)]
  have hE:E=0:=by rw [hlE];exact gA.2 λj hj=>hI j (List.mem_range.1 hj)
  (try apply wO pk;rfl);(repeat' first|show Cn _;constructor|apply wC pk;rfl;rfl|refine aA rfl ?_ ?_<;>intro h<;>(try simp at h)<;>try omega|(try refine aB ?_);((refine ⟨_,_,_,rfl,zwr _,zsr _, ?_⟩;(exact .inr ⟨hE,id,rfl,hid,rfl⟩);done)))
 have hil:i<r.length:=by omega
 have hic:i<t.cols.length:=by omega
 have hAt:=hAt i hil
 have hfr:=hfr i hil
 rw [getElem!_pos t.cols i hic,getElem!_pos r i hil] at hfr
 have hfe:nU w t r i=kE w t.cols[i].kind r[i]:=by unfold nU;rw [getElem!_pos t.cols i hic,getElem!_pos r i hil]
 rw [<-hfe] at hfr
 have hlT:(N.take i).length=i:=by rw [zlt];omega
 have e:N.take (i+1)=N.take i++[(nU w t r i).1]:=by rw [List.take_succ_eq_append_getElem (by omega),hAt]
 have hup:(nU w t r i).2=0->∀j<i+1,(nU w t r j).2=0:=λq j hj=>by
  rcases zls.1 hj with z|z
  ·exact hI j z
  ·subst z;exact q
 have hEi:(nU w t r i).2≠0->E=(nU w t r i).2:=λq=>by
  rw [hlE]
  have hlr:i<(List.range r.length).length:=by rw [List.length_range];exact hil
  have:=xU (f:=λi=>(nU w t r i).2) (l:=List.range r.length) (i:=i) hlr (λj hj=>by rw [List.getElem_range];exact hI j hj) (by rw [List.getElem_range];exact q)
  rw [this,List.getElem_range]
 generalize nU w t r i=R at*
 obtain ⟨c,e'⟩:=R
 dsimp only at e hup hEi
 unfold xS at hfr
 dsimp only at hfr
 by_cases hz:e'=0
 ·have hu:=hup hz
  (try apply wO pk;rfl);(repeat' first|show Cn _;constructor|apply wC pk;rfl;rfl|apply wE pk;rfl;rfl|apply wD pk [] [];kernel_rfl;rfl;rfl|refine aA rfl ?_ ?_<;>intro h<;>(try simp at h)<;>try omega|(apply aH;rfl;rfl;rfl;(intro _;apply hfr<;>first|assumption|omega);rotate_left;rfl;rfl)|apply aO pk;(iterate 6 rfl);rotate_left;rfl;(intro hw;rfl);(intro hw;apply aI<;>omega);(intro _;rfl);rfl|(apply apV pk (f:=Cl.cells) [c] 64;(iterate 9 rfl);(exact aC _ _ _);(omega);exact λ_=>rfl;exact λ_=>rfl;exact arR;((focus (simp;omega)));((focus (simp;omega)));rfl;intro id' hid')|(refine ⟨⟨(i+1,id'),by simp only;omega,iD hid',hu⟩, ?_,by simp only;omega⟩;((dsimp only;try rw [e]));(((repeat (first|refine Sub.pv ?_ rfl|refine Sub.var ?_ rfl rfl));(exact Sub.nil _ _ _ (cW ‹_›) rfl))))|intros;(try simp only [zql]);omega)
 ·have hE:=hEi hz
  subst hE
  have hne:=hz
  (try apply wO pk;rfl);(repeat' first|refine aB ?_;exact ⟨_,_,st,rfl,zwr _,bR (zsr _) hid, .inl ⟨hne,rfl,rfl⟩⟩|show Cn _;constructor|apply wC pk;rfl;rfl|apply wE pk;rfl;rfl|apply wD pk [] [];kernel_rfl;rfl;rfl|refine aA rfl ?_ ?_<;>intro h<;>(try simp at h)<;>try omega|(apply aH;rfl;rfl;rfl;(intro _;apply hfr<;>first|assumption|omega);rotate_left;rfl;rfl)|apply aO pk;(iterate 6 rfl);rotate_left;rfl;(intro hw;rfl);(intro hw;apply aI<;>omega);(intro _;rfl);rfl)
theorem aqC (w:Wr) (t:Tb) (r:List Vl) (h:RwI w t r):PF Tryz.prog 154 [.agg w.cells, .agg t.cells, .seq (r.map Vl.cells)] (if jF w t r≠0 then aB6 Ln.zero (jF w t r) else aB6 (eN w t r) 0):=λst=>
 gI (sz:=5) (aCT w t r h st) λp st' h=>by
  rcases h with ⟨h1,rfl,rfl⟩|⟨h1,id,rfl,h3,rfl⟩
  ·rw [zp h1]
   exact .inr ⟨_,_,aGk _,zsr _,rfl,rfl⟩
  ·rw [zn (by simp [h1])]
   refine .inl ⟨id,80,(eN w t r).cells_.map Cl.cells,_,st,aC _ _ _,yE, .tup (.cons (.agg (.cons .refl (.cons (gG (by simp [eN])) (.cons .refl .nil)))) (.cons .refl .nil)),dD h3,rfl,rfl⟩
def aEf (w:Wr) (s:Sc) (b:Bs) (o:Ot):Bs×Int:=if (cL (aN b o.table) o.row[0]!.n).isSome=true then (b,8) else if (aN b o.table).length>=2000 then (b,2) else if jF w s[o.table.toNat]! o.row≠0 then (fP b o.table Ln.zero,jF w s[o.table.toNat]! o.row) else (fP b o.table (eN w s[o.table.toNat]! o.row),0)
def aDC (w:Wr) (b:Bs) (o:Ot):Bs×Int:=match cL (aN b o.table) o.key with
 |none=>(b,4)
 |some l=>if (eM w l.cells_[o.col.toNat]! o).2≠0 then (b,(eM w l.cells_[o.col.toNat]! o).2) else (fP b o.table (nR w o l),0)
def apJ (w:Wr) (s:Sc) (b:Bs) (o:Ot):Bs×Int:=if o.kind=1 then aEf w s b o else if o.kind=8 then uV true s b (o.table,o.key) w.dot (tC s b (o.table,o.key)) else aDC w b o
theorem aBZ {w:Wr} {s:Sc} {b:Bs} {o:Ot} (h:eH s o=0):bU w s b o=if (apJ w s b o).2≠0 then ([],(apJ w s b o).2) else apJ w s b o:=by
 unfold bU apJ
 rw [zn (by simp [h])]
 by_cases h1:o.kind=1
 ·simp only [zp h1]
  unfold aCc aEf
  split
  ·rfl
  ·split
   ·rfl
   ·split
    ·rename_i q;simp only [zp q]
    ·rfl
 ·simp only [zn h1]
  by_cases h8:o.kind=8
  ·simp only [zp h8]
   unfold uV
   repeat' split
   all_goals first|rfl|(rename_i q;exact absurd rfl q)
  ·simp only [zn h8]
   unfold akD aDC
   cases cL (aN b o.table) o.key with
   |none=>rfl
   |some l=>
    simp only
    split
    ·rename_i q;simp only [zp q]
    ·rfl
theorem adR {v:Vl} (h:cP v=true):inL v.n:=by
 unfold cP at h
 unfold inL
 split at h
 ·simp at h;omega
 ·split at h
  ·simp at h;omega
  ·split at h
   ·simp at h;omega
   ·cases h
structure DoB (k:Nat) (w:Wr) (s:Sc) (b:Bs) (o:Ot):Prop where
 sb:ScB s
 len:s.length<=20
 bs:OpW k b
 k20:k<=20
 kn:w.knew.length<1000000000000
 few:rN o
theorem DoB.S {k:Nat} {w:Wr} {s:Sc} {b:Bs} {o:Ot} (h:DoB k w s b o):BsS 200 b:=h.bs.S h.k20
theorem atN {n:Nat} {b:Bs} (h:BsS n b) (hn:n<=1000):b.length<100000000000/\∀d∈b,d.lines.length<100000000000:=⟨by have:=h.1;omega,λd hd=>by have:=(h.2 d hd).1;omega⟩
theorem aDJ {b:Bs} {k:Nat} (hk:k<b.length):aN b (k:Int)=b[k].lines:=by
 unfold aN okT
 rw [zp (by simp;omega),Int.toNat_natCast,getElem!_pos b k hk]
section
variable {n:Nat} {w:Wr} {s:Sc} {b:Bs} {o:Ot} (hD:DoB n w s b o) (hb:cH T.rightP s b=true)
include hD hb
theorem aEV (hr:eH s o=0) (h1:o.kind=1):PF Tryz.prog 101 [.agg w.cells, .agg (scC s), .agg (bsC b), .agg o.cells] (lD (aEf w s b o)):=by
 obtain ⟨k,hk,hks,r1,_⟩:=mI hr
 have hi:=r1 h1
 obtain ⟨⟨q1,q2⟩,_⟩:=bX.1 hb
 have hkb:k<b.length:=by omega
 unfold amY at hi
 split at hi
 ·cases hi
 split at hi
 ·rename_i q;exact absurd hi q
 split at hi
 ·cases hi
 rename_i u1 u2 u3
 have u2:=zdn u2
 have hlen:=arL u2
 have hpos:0<o.row.length:=by omega
 have hRw:RwI w s[k] o.row:=⟨hpos,by omega,by have:=hD.few.1;omega,λv hv=>by
  obtain ⟨j,hj,rfl⟩:=zgo hv
  unfold eK at u2
  rw [zp hlen.symm] at u2
  have:=gA.1 u2 j (List.mem_range.2 hj)
  unfold sI at this
  split at this
  ·cases this
  ·rename_i q
   rw [getElem!_pos o.row j hj] at q
   exact adR (by simpa using q),λv hv=>by have:=hD.few.2.2 v hv;omega,hD.kn⟩
 have hS:=hD.S
 obtain ⟨l1,l2⟩:=atN hS (by omega)
 have hget:=jR hS (by omega) o.table o.row[0].n
 have hline:=aqC w s[k] o.row hRw
 have hput:=λa=>aiG b o.table a l1 l2
 have hlk:=aDJ hkb
 have hlb:=(nY hD.bs (k:Int)).1
 have hk20:=hD.k20
 unfold aEf
 rw [getElem!_pos o.row 0 hpos]
 rw [show s[o.table.toNat]! =s[k] from by rw [hk,Int.toNat_natCast,getElem!_pos s k hks]]
 rw [show (aN b o.table).length=b[k].lines.length from by rw [hk,hlk]]
 rw [hlk] at hlb
 generalize (cL (aN b o.table) o.row[0].n).isSome=I at*
 generalize (cL (aN b o.table) o.row[0].n).getD Ln.zero=L at*
 cases I with
 |true=>
  rw [zp rfl]
  refine aG aD Tryz.func101 (by kernel_rfl) rfl rfl rfl rfl (λst=> ?_)
  (try apply wO pk;rfl);(repeat' first|show Cn _;constructor|apply wC pk;rfl;rfl|apply wE pk;rfl;rfl|apply wD pk [] [];kernel_rfl;rfl;rfl|refine aA rfl ?_ ?_<;>intro h<;>(try simp at h)<;>try omega|(refine aB ?_;refine ⟨_,_,_,rfl,zwr _,zsr _, ?_,rfl⟩;try rfl)|(apply aH;rfl;rfl;rfl;(intro _;apply hget<;>first|assumption|omega);rotate_left;rfl;rfl)|apply aO pk;(iterate 6 rfl);rotate_left;rfl;(((intro hw;rfl);(intro hw;apply aI<;>omega);(intro _;rfl)));rfl)
 |false=>
  rw [zn (by simp),zn (by omega)]
  by_cases hE:jF w s[k] o.row≠0
  ·rw [zp hE] at hline⊢
   have hput:=hput Ln.zero
   generalize jF w s[k] o.row=E at*
   generalize fP b o.table Ln.zero=B at*
   unfold aB6 at hline
   refine aG aD Tryz.func101 (by kernel_rfl) rfl rfl rfl rfl (λst=> ?_)
   (try apply wO pk;rfl);(repeat' first|show Cn _;constructor|apply wC pk;rfl;rfl|apply wE pk;rfl;rfl|apply wD pk [] [];kernel_rfl;rfl;rfl|refine aA rfl ?_ ?_<;>intro h<;>(try simp at h)<;>try omega|(refine aB ?_;refine ⟨_,_,_,rfl,zwr _,zsr _, ?_,rfl⟩;try rfl)|(apply aH;rfl;rfl;rfl;(intro _;(first|apply hget|apply hline|apply hput)<;>first|assumption|omega);rotate_left;rfl;rfl)|apply aO pk;(iterate 6 rfl);rotate_left;rfl;(first|(intro hw;rfl);(intro hw;apply aI<;>omega);(intro _;rfl)|(intro hw;exact hk);(intro hw;apply aI<;>omega);(intro _;rfl));rfl)
  ·rw [zn hE] at hline⊢
   have hput:=hput (eN w s[k] o.row)
   generalize eN w s[k] o.row=N at*
   generalize fP b o.table N=B at*
   unfold aB6 at hline
   refine aG aD Tryz.func101 (by kernel_rfl) rfl rfl rfl rfl (λst=> ?_)
   (try apply wO pk;rfl);(repeat' first|show Cn _;constructor|apply wC pk;rfl;rfl|apply wE pk;rfl;rfl|apply wD pk [] [];kernel_rfl;rfl;rfl|refine aA rfl ?_ ?_<;>intro h<;>(try simp at h)<;>try omega|(refine aB ?_;refine ⟨_,_,_,rfl,zwr _,zsr _, ?_,rfl⟩;try rfl)|(apply aH;rfl;rfl;rfl;(intro _;(first|apply hget|apply hline|apply hput)<;>first|assumption|omega);rotate_left;rfl;rfl)|apply aO pk;(iterate 6 rfl);rotate_left;rfl;(first|(intro hw;rfl);(intro hw;apply aI<;>omega);(intro _;rfl)|(intro hw;exact hk);(intro hw;apply aI<;>omega);(intro _;rfl));rfl)
theorem aEI (h8:o.kind=8):PF Tryz.prog 101 [.agg w.cells, .agg (scC s), .agg (bsC b), .agg o.cells] (lD (uV true s b (o.table,o.key) w.dot (tC s b (o.table,o.key)))):=by
 have hd:=iC w
 have hR:=pY hD.S (by omega) hD.sb hD.len
 rw [hb] at hR
 have hdel:PF Tryz.prog 156 [.agg (scC s), .agg (bsC b),(.val (.int .i64 o.table)),(.val (.int .i64 o.key)), .agg w.dot.cells] (lD (uV true s b (o.table,o.key) w.dot (tC s b (o.table,o.key)))):=aBe hR (λ_=>aC8 hb ⟨hD.S.1,λd hd=>⟨by have:=(hD.S.2 d hd).1;omega,(hD.S.2 d hd).2⟩⟩) (o.table,o.key) w.dot
 generalize uV true s b (o.table,o.key) w.dot (tC s b (o.table,o.key))=R at*
 unfold lD at hdel
 refine aG aD Tryz.func101 (by kernel_rfl) rfl rfl rfl rfl (λst=> ?_)
 (try apply wO pk;rfl);(repeat' first|show Cn _;constructor|apply wC pk;rfl;rfl|apply wE pk;rfl;rfl|apply wD pk [] [];kernel_rfl;rfl;rfl|refine aA rfl ?_ ?_<;>intro h<;>(try simp at h)<;>try omega|(refine aB ?_;refine ⟨_,_,_,rfl,zwr _,zsr _, ?_,rfl⟩;try rfl)|(apply aH;rfl;rfl;rfl;(intro _;(first|apply hd|apply hdel)<;>first|assumption|omega);rotate_left;rfl;rfl))
theorem aEc (hr:eH s o=0) (h1:o.kind≠1) (h8:o.kind≠8):PF Tryz.prog 101 [.agg w.cells, .agg (scC s), .agg (bsC b), .agg o.cells] (lD (aDC w b o)):=by
 obtain ⟨k,hk,hks,_,r2⟩:=mI hr
 have hc:=r2 h1 h8
 obtain ⟨⟨q1,q2⟩,_⟩:=bX.1 hb
 have hkb:k<b.length:=by omega
 have hkk:2<=o.kind/\o.kind<=7:=by
  unfold eH at hr
  split at hr
  ·cases hr
  ·omega
 have hd:=iC w
 have hS:=hD.S
 obtain ⟨l1,l2⟩:=atN hS (by omega)
 have hget:=jR hS (by omega) o.table o.key
 have hput:=λa=>aiG b o.table a l1 l2
 have hk20:=hD.k20
 unfold aDC
 cases hg:cL (aN b o.table) o.key with
 |none=>
  rw [hg] at hget
  refine aG aD Tryz.func101 (by kernel_rfl) rfl rfl rfl rfl (λst=> ?_)
  (try apply wO pk;rfl);(repeat' first|show Cn _;constructor|apply wC pk;rfl;rfl|apply wE pk;rfl;rfl|refine aA rfl ?_ ?_<;>intro h<;>(try simp at h)<;>try omega|(refine aB ?_;refine ⟨_,_,_,rfl,zwr _,zsr _, ?_,rfl⟩;try rfl)|(apply aH;rfl;rfl;rfl;(intro _;apply hget<;>first|assumption|omega);rotate_left;rfl;rfl))
 |some l=>
 rw [hg] at hget
 have hgl:PF Tryz.prog 24 [.agg (bsC b),(.val (.int .i64 o.table)),(.val (.int .i64 o.key))] (.tup [.agg l.cells,(.val (.bool true))]):=hget
 clear hget
 have hlm:=agW hg
 have hLW:=(nY hD.bs o.table).2 l hlm
 rw [hk] at hlm
 have hL:=aaW hb hks hlm
 unfold aaP at hc
 split at hc
 ·cases hc
 split at hc
 ·cases hc
 split at hc
 ·cases hc
 split at hc
 ·rename_i q;exact absurd hc q
 rename_i u1 u2 u3 u4
 have u4:=zdn u4
 have hlen:=hL.len
 obtain ⟨j,hj⟩:∃j:Nat,o.col=j:=⟨o.col.toNat,by omega⟩
 have hjl:j<l.cells_.length:=by omega
 have hvr:cP o.val=true:=by
  unfold qT at u4
  split at u4
  ·cases u4
  ·rename_i q
   cases e:cP o.val with
   |true=>rfl
   |false=>exact absurd (.inr e) q
 have hT:TnOK w l.cells_[j] o:=⟨adR hvr,by have:=hD.few.2.1;omega,hD.kn,by have:=hLW.2.2 _ (zgm hjl);omega⟩
 have hcl:=adU l.cells_
 have hc20:=hLW.2.1
 have hb20:=hLW.1
 have htn:=λ(id:Nat) (st:aJ) hst=>aCX (w:=w) (cs:=l.cells_) (j:=j) (id:=id) (o:=o) hjl hT hkk.1 hkk.2 (st:=st) hst
 have hwr:=λN=>aaK ⟨l.key,N,l.by_⟩ w.dot (by show l.by_.length<_;omega)
 have hset:nR w o l=cV ⟨l.key,l.cells_.set j (eM w l.cells_[j] o).1,l.by_⟩ w.dot:=by unfold nR;rw [hj,Int.toNat_natCast,getElem!_pos l.cells_ j hjl]
 simp only
 rw [hset,show l.cells_[o.col.toNat]! =l.cells_[j] from by rw [hj,Int.toNat_natCast,getElem!_pos l.cells_ j hjl]]
 have hwr:=hwr (l.cells_.set j (eM w l.cells_[j] o).1)
 have hput:=hput (cV ⟨l.key,l.cells_.set j (eM w l.cells_[j] o).1,l.by_⟩ w.dot)
 have hsl:(l.cells_.set j (eM w l.cells_[j] o).1).length=l.cells_.length:=List.length_set ..
 generalize eM w l.cells_[j] o=R at*
 generalize cV ⟨l.key,l.cells_.set j R.1,l.by_⟩ w.dot=W at*
 generalize fP b o.table W=B at*
 generalize l.cells_.set j R.1=N at*
 by_cases hR:R.2≠0
 ·rw [zp hR]
  refine aG aD Tryz.func101 (by kernel_rfl) rfl rfl rfl rfl (λst=> ?_)
  (try apply wO pk;rfl);(repeat' first|refine aB ?_;exact ⟨_,_,st,rfl,zwr _,bR (bR (zsr _) hid) hid,rfl,rfl⟩|apply wD pk [7] [];kernel_rfl;rfl;rfl|show Cn _;constructor|apply wC pk;rfl;rfl|apply wE pk;rfl;rfl|refine aA rfl ?_ ?_<;>intro h<;>(try simp at h)<;>try omega|(apply aH;rfl;rfl;rfl;(intro _;(apply hgl)<;>first|assumption|omega);rotate_left;rfl;rfl)|apply ixA pk;(iterate 5 rfl);rotate_left;rfl;(intro hw;(exact (show _=((j:Nat):Int) from by omega)));(intro hw;(omega));rfl;(exact Nat.zero_add _)|(apply cG;rfl;rfl;(apply (hcl _ (by omega))<;>first|exact aC _ _ _|assumption|omega|(fail));rfl;rfl;rfl;intro _ st' hR;obtain ⟨id,rfl,hid,rfl⟩:=hR)|(apply cG;rfl;rfl;(apply (htn id _ (aC _ _ _))<;>first|exact aC _ _ _|assumption|omega|(fail));rfl;rfl;rfl;intro _ st' hR;obtain ⟨rfl,rfl⟩:=hR))
 ·rw [zn hR]
  have hzz:=λid=>(show FzL id 5 (N.map Cl.cells) [.agg [(PV.val (Value.int .i64 (l.key))), .vec id 5 0 l.cells_.length, .seq (l.by_.map Dt.cells)], .agg w.dot.cells] [.agg [(PV.val (Value.int .i64 (l.key))), .seq (N.map Cl.cells), .seq (l.by_.map Dt.cells)], .agg w.dot.cells] from .cons (.agg (.cons .refl (.cons (gG hsl) (.cons .refl .nil)))) (.cons .refl .nil))
  refine aG aD Tryz.func101 (by kernel_rfl) rfl rfl rfl rfl (λst=> ?_)
  (try apply wO pk;rfl);(repeat' first|refine aB ?_;exact ⟨_,_,st,rfl,zwr _,bR (bR (bR (zsr _) hid) hid) hid,rfl,rfl⟩|apply wDO pk [0,1,2,3,4,5,6,7,8] [7] [] [7] [];rfl;rfl;kernel_rfl;rfl;rfl|apply wDO pk [0,1,2,3,4,5,6,7,8,9] [6] [] [6] [];rfl;rfl;kernel_rfl;rfl;rfl|show Cn _;constructor|apply wC pk;rfl;rfl|apply wE pk;rfl;rfl|refine aA rfl ?_ ?_<;>intro h<;>(try simp at h)<;>try omega|(apply aH;rfl;rfl;rfl;(intro _;(first|apply hgl|apply hd|apply hput)<;>first|assumption|omega);rotate_left;rfl;rfl)|apply ixA pk;(iterate 5 rfl);rotate_left;rfl;(intro hw;(exact (show _=((j:Nat):Int) from by omega)));(intro hw;(omega));rfl;(exact Nat.zero_add _)|(apply cG;rfl;rfl;(apply (hcl _ (by omega))<;>first|exact aC _ _ _|assumption|omega|(fail));rfl;rfl;rfl;intro _ st' hR;obtain ⟨id,rfl,hid,rfl⟩:=hR)|(apply cG;rfl;rfl;(apply (htn id _ (aC _ _ _))<;>first|exact aC _ _ _|assumption|omega|(fail));rfl;rfl;rfl;intro _ st' hR;obtain ⟨rfl,rfl⟩:=hR)|(apply cG;rfl;rfl;(apply (PC.freezeZ (aC _ _ _) yE (hzz id) (hwr _))<;>first|exact aC _ _ _|assumption|omega|(fail));rfl;rfl;rfl;intro _ st' hR;obtain ⟨rfl,rfl⟩:=hR))
theorem aE7 (hr:eH s o=0):PF Tryz.prog 101 [.agg w.cells, .agg (scC s), .agg (bsC b), .agg o.cells] (lD (apJ w s b o)):=by
 unfold apJ
 by_cases h1:o.kind=1
 ·rw [zp h1];exact aEV hD hb hr h1
 ·rw [zn h1]
  by_cases h8:o.kind=8
  ·rw [zp h8];exact aEI hD hb h8
  ·rw [zn h8];exact aEc hD hb hr h1 h8
end
end
section
set_option maxRecDepth 10000
set_option maxHeartbeats 4000000
variable {w v:Wr} {s:Sc} {b:Bs}
theorem uW (o:Ot) (r:List Ot):bY w s b (o::r)=if (bU w s b o).2≠0 then ([],(bU w s b o).2) else bY w s (bU w s b o).1 r:=rfl
theorem ahU (hw:uP w=true):∀{l:List Ot} {b:Bs} {k:Nat},cH T.rightP s b=true->OpW k b->(∀o∈l,rN o)->(bY w s b l).2=0->cH T.rightP s (bY w s b l).1=true/\OpW (k+l.length) (bY w s b l).1
 |[],b,k,hb,h,_,_=>⟨hb,h⟩
 |o::r,b,k,hb,h,ho,h0=>by
  unfold bY at*
  split at h0
  ·rename_i q;exact absurd h0 q
  ·rename_i q
   rw [zn q]
   have:=ahU hw (l:=r) (rQ hw hb (zdn q)) (aBY (k:=k) h (ho o (by simp))) (λx hx=>ho x (List.mem_cons_of_mem _ hx)) h0
   rw [zlc]
   exact ⟨this.1,by rw [show k+(r.length+1)=k+1+r.length by omega];exact this.2⟩
theorem jO (o:Ot):∀(l:List Ot) (b:Bs),(bY w s b l).2=0->bY w s b (l++[o])=if (bU w s (bY w s b l).1 o).2≠0 then ([],(bU w s (bY w s b l).1 o).2) else ((bU w s (bY w s b l).1 o).1,0)
 |[],b,_=>rfl
 |x::r,b,h=>by
  rw [List.cons_append]
  unfold bY at*
  split at h
  ·rename_i q;exact absurd h q
  ·rename_i q
   rw [zn q,zn q]
   exact jO o r _ h
theorem axP {l m:List Ot} {b:Bs} (h:(bY w s b l).2≠0):bY w s b (l++m)=bY w s b l:=by
 induction l generalizing b with
 |nil=>exact absurd rfl h
 |cons o r ih=>
  rw [List.cons_append,uW,uW]
  rw [uW] at h
  split
  ·rfl
  ·rename_i q
   rw [zn q] at h
   exact ih h
theorem asK {l:List Ot} {i:Nat} (hi:i<l.length) {b:Bs} (h:(bY w s b (l.take i)).2=0):bY w s b (l.take (i+1))=if (bU w s (bY w s b (l.take i)).1 l[i]).2≠0 then ([],(bU w s (bY w s b (l.take i)).1 l[i]).2) else ((bU w s (bY w s b (l.take i)).1 l[i]).1,0):=by
 rw [List.take_succ_eq_append_getElem hi,jO _ _ _ h]
theorem akR {l:List Ot} {i:Nat} {b:Bs} (h:(bY w s b (l.take i)).2≠0):bY w s b l=bY w s b (l.take i):=by
 have:=axP (m:=l.drop i) h
 rwa [List.take_append_drop] at this
theorem dQ :rightW w s b=true↔rightC s=0/\cH T.rightP s b=true/\uP w=true:=by
 unfold rightW mayC
 rw [zba,zba,zde,and_assoc]
theorem abC {o:Ot} (h:(doP w s b o).2=0):rightW w s b=true/\doP w s b o=bU w s b o/\cH T.rightP s (doP w s b o).1=true:=by
 unfold doP at*
 split at h
 ·rename_i q
  rw [zp q]
  obtain ⟨_,q2,q3⟩:=dQ.1 q
  exact ⟨q,rfl,rQ q3 q2 h⟩
 ·cases h
theorem aFh {l:List Ot} (h:(allP w s b l).2≠0):(allP w s b l).1=[]:=by
 unfold allP at*
 split
 ·rfl
 ·rename_i q1
  rw [zn q1] at h
  split
  ·rfl
  ·rename_i q2
   rw [zn q2] at h
   split
   ·rfl
   ·rename_i q3
    rw [zn q3] at h
    split
    ·rfl
    ·rename_i q4;rw [zn q4] at h;exact absurd rfl h
theorem aEM {l:List Ot} (h:(allP w s b l).2=0):rightW w s b=true/\(bY w s b l).2=0/\whyC s (bY w s b l).1=0/\(allP w s b l).1=(bY w s b l).1:=by
 unfold allP at*
 split at h
 ·cases h
 ·rename_i q1
  rw [zn q1]
  split at h
  ·cases h
  ·rename_i q2
   rw [zn q2]
   split at h
   ·rename_i q3;exact absurd h q3
   ·rename_i q3
    rw [zn q3]
    split at h
    ·rename_i q4;exact absurd h q4
    ·rename_i q4
     rw [zn q4]
     exact ⟨by simpa using q1,zdn q3,zdn q4,rfl⟩
def nS (o:Ot):Int:=if o.kind=1 then o.row[0]!.n else o.key
def zJ (w:Wr) (s:Sc) (o:Ot) (g:Option Ln):Ln×Int:=if eH s o≠0 then (Ln.zero,eH s o) else if o.kind=1 then (if g.isSome=true then (Ln.zero,8) else if jF w s[o.table.toNat]! o.row≠0 then (Ln.zero,jF w s[o.table.toNat]! o.row) else (eN w s[o.table.toNat]! o.row,0)) else match g with
 |none=>(Ln.zero,4)
 |some l=>if (eM w l.cells_[o.col.toNat]! o).2≠0 then (Ln.zero,(eM w l.cells_[o.col.toNat]! o).2) else (nR w o l,0)
theorem zX {o:Ot} (h8:o.kind≠8) (hl:(aN b o.table).length<2000):bU w s b o=if (zJ w s o (cL (aN b o.table) (nS o))).2≠0 then ([],(zJ w s o (cL (aN b o.table) (nS o))).2) else (fP b o.table (zJ w s o (cL (aN b o.table) (nS o))).1,0):=by
 unfold bU zJ nS
 by_cases hr:eH s o≠0
 ·rw [zp hr,zp hr,zp hr]
 ·rw [zn hr,zn hr]
  by_cases h1:o.kind=1
  ·simp only [zp h1]
   unfold aCc
   by_cases g:(cL (aN b o.table) o.row[0]!.n).isSome=true
   ·rw [zp g,zp g];rfl
   ·rw [zn g,zn g,zn (by omega)]
    split<;>rfl
  ·simp only [zn h1,zn h8]
   unfold akD
   cases cL (aN b o.table) o.key with
   |none=>rfl
   |some l=>
    simp only
    split<;>rfl
theorem aD1 {o:Ot} {g:Option Ln} (hg:∀l,g=some l->l.key=nS o) (h:(zJ w s o g).2=0):(zJ w s o g).1.key=nS o/\w.dot∈(zJ w s o g).1.by_:=by
 unfold zJ at*
 split at h
 ·rename_i q;exact absurd h q
 rename_i q
 rw [zn q]
 by_cases h1:o.kind=1
 ·simp only [zp h1] at h⊢
  split at h
  ·cases h
  rename_i q1
  rw [zn q1]
  split at h
  ·rename_i q2;exact absurd h q2
  rename_i q2
  rw [zn q2]
  exact ⟨by unfold nS;rw [zp h1];rfl,by simp [eN]⟩
 ·simp only [zn h1] at h⊢
  cases g with
  |none=>cases h
  |some l=>
   simp only at h⊢
   split at h
   ·rename_i q2;exact absurd h q2
   rename_i q2
   rw [zn q2]
   refine ⟨?_, ?_⟩
   ·rw [<-hg l rfl];unfold nR cV;split<;>rfl
   ·unfold nR;rw [akV];exact (aiF _ _ _).2 (.inl rfl)
theorem lY {k k':Int} {a:Ln} (hk:okT b k=true):aN (fP b k a) k'=if k'=k then jL (aN b k) a else aN b k':=by
 rw [kC]
 by_cases e:k'=k
 ·subst e;rw [zp rfl,vJ hk]
 ·rw [zn e]
  unfold aN
  rw [qL]
  split
  ·rename_i q
   unfold iO
   rw [zp hk]
   unfold okT at q hk
   simp only [zba,zde] at q hk
   rw [getElem!_pos _ _ (by rw [List.length_set];omega),getElem!_pos b _ (by omega),List.getElem_set,zn (by omega)]
   rw [getElem!_pos b _ (by omega)]
  ·rfl
theorem aAc {o:Ot} (hb:cH T.rightP s b=true) (h:eH s o=0):okT b o.table=true:=by
 obtain ⟨k,e,hk,_⟩:=mI h
 unfold okT
 simp only [zba,zde]
 have:=(bX.1 hb).1.2
 omega
theorem awJ {o:Ot} {g:Option Ln} (h:(zJ w s o g).2=0):eH s o=0:=by
 unfold zJ at h
 split at h
 ·rename_i q;exact absurd h q
 ·rename_i q;exact zdn q
theorem abW {o:Ot} (hb:cH T.rightP s b=true) (h8:o.kind≠8) (hl:(aN b o.table).length<2000) (h0:(bU w s b o).2=0):∃a:Ln,a.key=nS o/\w.dot∈a.by_/\(zJ w s o (cL (aN b o.table) (nS o)))=(a,0)/\bU w s b o=(fP b o.table a,0)/\okT b o.table=true:=by
 rw [zX h8 hl] at h0⊢
 split at h0
 ·rename_i q;exact absurd h0 q
 rename_i q
 have q:=zdn q
 rw [zn (by simp [q])]
 obtain ⟨k1,k2⟩:=aD1 (λl hg=>((nH (iZ hb _)).1 hg).2) q
 exact ⟨_,k1,k2,Prod.ext rfl q,rfl,aAc hb (awJ q)⟩
theorem yF {k k' key:Int} {a:Ln} (hb:cH T.rightP s b=true) (hk:okT b k=true):cL (aN (fP b k a) k') key=if k'=k/\key=a.key then some a else cL (aN b k') key:=by
 rw [lY hk]
 have hK:=iZ hb k
 by_cases e:k'=k
 ·subst e
  rw [zp rfl]
  by_cases e2:key=a.key
  ·rw [zp ⟨rfl,e2⟩,e2,aC0 hK]
  ·rw [zn (λq=>e2 q.2),awO hK e2]
 ·rw [zn e,zn (λq=>e q.1)]
theorem aCN (k k':Int) (a:Ln):okT (fP b k a) k'=okT b k':=by rw [kC,qL]
theorem yC {k:Int} (h:okT b k=true) (ls:List Ln):iO b k ls=b.set k.toNat ⟨ls⟩:=by unfold iO;rw [zp h]
theorem awK {k k':Int} {a c:Ln} (hb:cH T.rightP s b=true) (hk:okT b k=true) (hk':okT b k'=true) (h:¬(k=k'/\a.key=c.key)):fP (fP b k a) k' c=fP (fP b k' c) k a:=by
 have hK:=iZ hb k
 by_cases e:k=k'
 ·subst e
  rw [kC,kC,kC,kC,vJ hk,vJ hk,set_set,set_set,aBb hK (λq=>h ⟨rfl,q⟩)]
 ·rw [kC (fP b k a),kC (fP b k' c),lY hk,lY hk',zn (λq=>e q.symm),zn e,kC,kC]
  rw [yC (by rw [qL];exact hk'),yC hk,yC (by rw [qL];exact hk),yC hk']
  unfold okT at hk hk'
  simp only [zba,zde] at hk hk'
  exact List.set_comm _ _ (by omega)
theorem aqH {o p:Ot} (hb:cH T.rightP s b=true) (ho:o.kind≠8) (hp:p.kind≠8) (hl:∀t,(aN b t).length<1000) (hne:¬(o.table=p.table/\nS o=nS p)) (h1:(bU w s b o).2=0) (h2:(bU v s (bU w s b o).1 p).2=0) (hx:cH T.rightP s (bU w s b o).1=true):
  (bU v s b p).2=0/\bU w s (bU v s b p).1 o=bU v s (bU w s b o).1 p:=by
 have len1:∀(t:Int) (a:Ln) (t':Int),okT b t=true->(aN (fP b t a) t').length<2000:=λt a t' hk=>by
  rw [lY hk]
  split
  ·have:=yS (aN b t) a;have:=hl t;omega
  ·have:=hl t';omega
 obtain ⟨A,a1,a2,a3,a4,a5⟩:=abW hb ho (by have:=hl o.table;omega) h1
 rw [a4] at h2 hx⊢
 simp only at h2 hx⊢
 obtain ⟨B,b1,b2,b3,b4,b5⟩:=abW hx hp (len1 _ _ _ a5) h2
 rw [aCN] at b5
 rw [yF hb a5,zn (λq=>hne ⟨q.1.symm,by rw [<-a1];exact q.2.symm⟩)] at b3
 have c1:bU v s b p=(fP b p.table B,0):=by
  rw [zX hp (by have:=hl p.table;omega),b3];rfl
 refine ⟨by rw [c1], ?_⟩
 rw [c1,b4]
 simp only
 have e3:cL (aN (fP b p.table B) o.table) (nS o)=cL (aN b o.table) (nS o):=by rw [yF hb b5,zn (λq=>hne ⟨q.1,by rw [q.2,b1]⟩)]
 rw [zX ho (len1 _ _ _ b5),e3,a3]
 show (fP (fP b p.table B) o.table A,0)=_
 rw [awK hb a5 b5 (λq=>hne ⟨q.1,by rw [<-a1,<-b1];exact q.2⟩)]
end
end Go.Proofs.YtloecjjehapblaaGreatDoor
