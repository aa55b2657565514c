import Derived.Test.YtloecjjehapblaaGreatDoorOpBc
import Derived.Test.YtloecjjehapblaaGreatDoorOpBb
set_option linter.unusedSimpArgs false
set_option linter.unusedVariables false
namespace Go.Proofs.YtloecjjehapblaaGreatDoor
open Go Go.Abs
attribute [local irreducible] Ev PWp
set_option maxRecDepth 10000
set_option maxHeartbeats 4000000
structure TnOK (w:Wr) (c:Cl) (o:Ot):Prop where
 n:inL o.val.n
 s:o.val.s.size<1000000
 kn:w.knew.length<1000000000000
 parts:c.parts.length<100000
def xR (w:Wr) (c:Cl) (o:Ot):List PV:=[.rp c.cells, .rp o.cells, .rp w.cells]
def aeE (c:Cl) (o:Ot):List PV:=[.rp c.cells, .rp o.cells]
section
variable {w:Wr} {c:Cl} {o:Ot} (hT:TnOK w c o)
theorem aGO (v:Vl):Wk (.agg [(PV.val (Value.int .i64 (0))),(PV.val (Value.int .i64 (v.kind))),(PV.val (Value.int .i64 (v.n))),(PV.val (Value.string (v.s))), .val (.slice none 0 0)]) (.agg (Cl.mk 0 v []).cells):= .agg (.cons (zwr _) (.cons (zwr _) (.cons (zwr _) (.cons (zwr _) (.cons Wk.nil .nil)))))
include hT
theorem aCx :PF Tryz.prog 241 (xR w c o) (.agg (if c.kind=0 then ⟨0,o.val,[]⟩ else gV c o.val w.dot w.knew).cells):=by
 have hd:=iG w
 have hp:=xO c o.val w.dot w.knew (by have:=hT.parts;omega) hT.kn
 unfold xR
 by_cases k:c.kind=0
 ·rw [if_pos k]
  refine aG aF Tryz.func241 (by kernel_rfl) rfl rfl rfl rfl (λst=> ?_)
  (try apply wO pk;rfl);(repeat' first|refine aC ?_;exact ⟨_,_,_,rfl,aGO o.val,zsr _,rfl,rfl⟩|show All _;constructor|apply wC pk;rfl;rfl|refine aA rfl ?_ ?_<;>intro h<;>(try simp at h)<;>try omega)
 ·rw [if_neg k]
  generalize gV c o.val w.dot w.knew=R at*
  refine aG aF Tryz.func241 (by kernel_rfl) rfl rfl rfl rfl (λst=> ?_)
  (try apply wO pk;rfl);(repeat' first|show All _;constructor|show Imp _ _;constructor|apply wC pk;rfl;rfl|apply wE pk;rfl;rfl|apply wD pk [] [];kernel_rfl;rfl;rfl|refine aA rfl ?_ ?_<;>intro h<;>(try simp at h)<;>try omega|(refine aC ?_;refine ⟨_,_,_,rfl,zwr _,zsr _, ?_,rfl⟩;try rfl)|(apply aH;rfl;rfl;rfl;(intro _;(first|apply hd|apply hp)<;>first|assumption|omega);rotate_left;rfl;rfl))
theorem aDF :PF Tryz.prog 243 (aeE c o) (xX (sP c o.val.n)):=by
 have h:=acZ c o.val.n hT.n
 unfold aeE
 generalize sP c o.val.n=R at*
 refine aG aF Tryz.func243 (by kernel_rfl) rfl rfl rfl rfl (λst=> ?_)
 (try apply wO pk;rfl);(repeat' first|show All _;constructor|show Imp _ _;constructor|apply wE pk;rfl;rfl|(refine aC ?_;refine ⟨_,_,_,rfl,zwr _,zsr _, ?_,rfl⟩;try rfl)|(apply aH;rfl;rfl;rfl;(intro _;apply h<;>first|assumption|omega);rotate_left;rfl;rfl))
theorem aC0 :PF Tryz.prog 245 (xR w c o) (.agg (nA c o.val.n w.dot).cells):=by
 have hd:=iG w
 have hp:=aaI c o.val.n w.dot (by have:=hT.parts;omega)
 unfold xR
 generalize nA c o.val.n w.dot=R at*
 refine aG aF Tryz.func245 (by kernel_rfl) rfl rfl rfl rfl (λst=> ?_)
 (try apply wO pk;rfl);(repeat' first|show All _;constructor|show Imp _ _;constructor|apply wE pk;rfl;rfl|apply wD pk [] [];kernel_rfl;rfl;rfl|(refine aC ?_;refine ⟨_,_,_,rfl,zwr _,zsr _, ?_,rfl⟩;try rfl)|(apply aH;rfl;rfl;rfl;(intro _;(first|apply hd|apply hp)<;>first|assumption|omega);rotate_left;rfl;rfl))
theorem aCV :PF Tryz.prog 247 (xR w c o) (.agg (rA c o.val.n w.dot w.knew).cells):=by
 have hd:=iG w
 have hp:=apF c o.val.n w.dot w.knew hT.parts hT.kn
 unfold xR
 generalize rA c o.val.n w.dot w.knew=R at*
 refine aG aF Tryz.func247 (by kernel_rfl) rfl rfl rfl rfl (λst=> ?_)
 (try apply wO pk;rfl);(repeat' first|show All _;constructor|show Imp _ _;constructor|apply wE pk;rfl;rfl|apply wD pk [] [];kernel_rfl;rfl;rfl|(refine aC ?_;refine ⟨_,_,_,rfl,zwr _,zsr _, ?_,rfl⟩;try rfl)|(apply aH;rfl;rfl;rfl;(intro _;(first|apply hd|apply hp)<;>first|assumption|omega);rotate_left;rfl;rfl))
theorem aDp :PF Tryz.prog 249 (xR w c o) (xX (T.typeP c o.val.s w.who ⟨o.after,o.at_⟩)):=by
 have h:=T.type_spec c o.val.s w.who o.after o.at_ (by have:=hT.parts;omega) hT.s
 unfold xR
 generalize T.typeP c o.val.s w.who ⟨o.after,o.at_⟩=R at*
 refine aG aF Tryz.func249 (by kernel_rfl) rfl rfl rfl rfl (λst=> ?_)
 (try apply wO pk;rfl);(repeat' first|show All _;constructor|show Imp _ _;constructor|apply wE pk;rfl;rfl|(refine aC ?_;refine ⟨_,_,_,rfl,zwr _,zsr _, ?_,rfl⟩;try rfl)|(apply aH;rfl;rfl;rfl;(intro _;apply h<;>first|assumption|omega);rotate_left;rfl;rfl))
theorem aCQ :PF Tryz.prog 251 (aeE c o) (.agg (T.eraseP c ⟨o.after,o.at_⟩).cells):=by
 have h:=T.erase_spec c o.after o.at_ (by have:=hT.parts;omega)
 unfold aeE
 generalize T.eraseP c ⟨o.after,o.at_⟩=R at*
 refine aG aF Tryz.func251 (by kernel_rfl) rfl rfl rfl rfl (λst=> ?_)
 (try apply wO pk;rfl);(repeat' first|show All _;constructor|show Imp _ _;constructor|apply wE pk;rfl;rfl|(refine aC ?_;refine ⟨_,_,_,rfl,zwr _,zsr _, ?_,rfl⟩;try rfl)|(apply aH;rfl;rfl;rfl;(intro _;apply h<;>first|assumption|omega);rotate_left;rfl;rfl))
end
theorem auP (f:FuncId) (caps:List PV):PF Tryz.prog 239 [.fn f caps] (.fn 240 [.rp [.fn f caps]]):=by
 refine aG aF Tryz.func239 (by kernel_rfl) rfl rfl rfl rfl (λst=> ?_)
 (try apply wO pk;rfl);(repeat' first|show All _;constructor|apply wE pk;rfl;rfl|(refine aC ?_;refine ⟨_,_,_,rfl,zwr _,zsr _, ?_,rfl⟩;try rfl)|apply bC 1;rfl;rfl)
theorem nG {f:FuncId} {caps:List PV} {d:Cl} (h:PF Tryz.prog f caps (.agg d.cells)):PF Tryz.prog 240 [.rp [.fn f caps]] (xX (d,0)):=by
 have h':PF Tryz.prog f ([]++caps) (.agg d.cells):=h
 refine aG aF Tryz.func240 (by kernel_rfl) rfl rfl rfl rfl (λst=> ?_)
 (try apply wO pk;rfl);(repeat' first|show All _;constructor|show Imp _ _;constructor|apply wE pk;rfl;rfl|(refine aC ?_;refine ⟨_,_,_,rfl,zwr _,zsr _, ?_,rfl⟩;try rfl)|(apply aH;rfl;rfl;rfl;(intro _;apply h'<;>first|assumption|omega);rotate_left;rfl;rfl))
def arA (f:FuncId) (caps:List PV):PV:= .fn 240 [.rp [.fn f caps]]
def aFz (w:Wr) (c:Cl) (o:Ot):List (Value×PV):=[(.int .i64 2,arA 241 (xR w c o)),(.int .i64 3, .fn 243 (aeE c o)),(.int .i64 4,arA 245 (xR w c o)),(.int .i64 5,arA 247 (xR w c o)),(.int .i64 6, .fn 249 (xR w c o)),(.int .i64 7,arA 251 (aeE c o))]
theorem avC {w:Wr} {c:Cl} {o:Ot} (hT:TnOK w c o) (h1:2<=o.kind) (h2:o.kind<=7):∃f caps,gK tt 322 (aFz w c o) (.int .i64 o.kind) false=some (.fn f caps)/\PF Tryz.prog f caps (xX (eW w c o)):=by
 have h:o.kind=2\/o.kind=3\/o.kind=4\/o.kind=5\/o.kind=6\/o.kind=7:=by omega
 unfold eW
 rcases h with h|h|h|h|h|h
 ·rw [h]
  refine ⟨_,_,rfl, ?_⟩
  have:=nG (aCx hT)
  rw [if_pos rfl]
  by_cases k:c.kind=0
  ·rw [if_pos k] at this⊢;exact this
  ·rw [if_neg k] at this⊢;exact this
 ·rw [h];exact ⟨_,_,rfl,aDF hT⟩
 ·rw [h];exact ⟨_,_,rfl,nG (aC0 hT)⟩
 ·rw [h];exact ⟨_,_,rfl,nG (aCV hT)⟩
 ·rw [h];exact ⟨_,_,rfl,aDp hT⟩
 ·rw [h];exact ⟨_,_,rfl,nG (aCQ hT)⟩
theorem anH {st S:aJ} {id idm:Nat} {a b:AObj} (hne:id≠idm) (hm:st idm=none) (e:b=a) (hS:∀q,q≠idm->S q=st q):StSub (upd st id (some a)) (upd S id (some b)):=λq=>by
 subst e
 by_cases e1:q=id
 ·subst e1;right;rw [aB,aB]
 ·rw [aD e1,aD e1]
  by_cases e2:q=idm
  ·subst e2;exact .inl hm
  ·exact .inr (hS q e2).symm
theorem aCw {w:Wr} {cs:List Cl} {j id:Nat} {o:Ot} (hj:j<cs.length) (hT:TnOK w cs[j] o) (h1:2<=o.kind) (h2:o.kind<=7) {st:aJ} (hst:st id=some (.arr 80 (cs.map Cl.cells))):PC Tryz.prog 159 [.agg w.cells, .el id 5 j 0, .agg o.cells] st λr S=>r=(PV.val (Value.int .i64 ((eW w cs[j] o).2)))/\S=upd st id (some (.arr 80 ((cs.set j (eW w cs[j] o).1).map Cl.cells))):=by
 obtain ⟨f,caps,hlook,hP⟩:=avC hT h1 h2
 generalize eW w cs[j] o=R at*
 have hget:cs[j]?=some cs[j]:=List.getElem?_eq_getElem hj
 have hS:=auP
 have hP':PF Tryz.prog f ([]++caps) (xX R):=hP
 refine bZ aF Tryz.func159 (by kernel_rfl) rfl rfl rfl rfl ?_
 (try apply wO pk;rfl);(repeat' first|apply qG aF;exact .inl rfl;(iterate 7 rfl);exact aB _ _ _;rfl;(iterate 2 (apply lT aF;(iterate 4 rfl)));refine sD ?_;apply iP 9;rfl;exact aB _ _ _|((refine aC ?_;refine ⟨_,_,upd st id (some (.arr 80 ((cs.set j R.1).map Cl.cells))),rfl,zwr _, ?_,rfl,rfl⟩;exact anH hne hidm' (by simp) (λq h=>by repeat (first|rfl|refine (aD h).trans ?_))))|show All _;constructor|show Imp _ _;constructor|apply wC pk;rfl;rfl|apply wE pk;rfl;rfl|(apply aH;rfl;rfl;rfl;(intro _;(first|apply hS|apply hP')<;>first|assumption|omega);rotate_left;rfl;rfl)|apply ncA;rfl;rfl;rfl;rotate_left;rfl;rfl|apply ldL pk Cl.elem (a:=cs[j]);rfl;rfl;rotate_left;rfl;(assumption);(intro _;exact hget);rfl|apply stA pk Cl.elem;rfl;rfl;rfl;((focus ((repeat (first|assumption|refine (aD ‹_›).trans ?_));done)));(omega);rfl|apply bC 3;rfl;rfl|apply bC 5;rfl;rfl|apply bC 8;rfl;rfl|((refine nQ rfl (λidm hidm=> ?_));have hidm':st idm=none:=hidm;have hne:id≠idm:=(λe=>by rw [<-e,hst] at hidm';cases hidm'))|apply qG aF;exact .inl rfl;(iterate 7 rfl);exact aB _ _ _;rfl|apply kV pk;(iterate 4 rfl);(focus repeat' constructor);rfl;exact hlook;rfl)
end Go.Proofs.YtloecjjehapblaaGreatDoor
namespace Go.Proofs.YtloecjjehapblaaGreatDoor
open Go Go.Abs
set_option maxRecDepth 10000
set_option maxHeartbeats 4000000
def LnW (k:Nat) (l:Ln):Prop:=l.by_.length<=60+k/\l.cells_.length<=20/\∀c∈l.cells_,c.parts.length<=40+40*k
def OpW (k:Nat) (b:Bs):Prop:=b.length<=20/\∀d∈b,d.lines.length<=100+k/\∀l∈d.lines,LnW k l
theorem LnW.S {k:Nat} {l:Ln} (h:LnW k l) (hk:k<=20):LnS l:=⟨by have:=h.1;omega,by have:=h.2.1;omega,λc hc=>by have:=h.2.2 c hc;omega⟩
theorem OpW.S {k:Nat} {b:Bs} (h:OpW k b) (hk:k<=20):BsS 200 b:=⟨h.1,λd hd=>⟨by have:=(h.2 d hd).1;omega,λl hl=>((h.2 d hd).2 l hl).S hk⟩⟩
theorem LnW.up {k m:Nat} {l:Ln} (h:LnW k l) (hkm:k<=m):LnW m l:=⟨by have:=h.1;omega,h.2.1,λc hc=>by have:=h.2.2 c hc;omega⟩
theorem OpW.nil (k:Nat):OpW k []:=⟨by simp,λd hd=>by cases hd⟩
theorem aF3 {b:Bs} (h:uB b=true):OpW 0 b:=by
 have h0:=h
 unfold uB at h
 simp only [zba,zde,zal] at h
 obtain ⟨h1,h2,h3⟩:=h
 refine ⟨by omega,λd hd=>⟨?_,λl hl=> ?_⟩⟩
 ·have:=((aDZ h0).2 d hd).1;omega
 ·have:=h3 d hd l hl
  unfold fJ lQ at this
  simp only [zba,zde,zal] at this
  exact ⟨by omega,by omega,λc hc=>by have:=this.1 c hc;omega⟩
theorem yI {k:Nat} {b:Bs} (h:OpW k b) (t:Int):(aO b t).length<=100+k/\∀l∈aO b t,LnW k l:=by
 unfold aO
 split
 ·rename_i ho
  unfold okT at ho
  simp only [zba,zde] at ho
  rw [getElem!_pos b t.toNat (by omega)]
  exact h.2 _ (zgm _)
 ·exact ⟨by simp,λl hl=>by cases hl⟩
theorem afZ {L:List Ln} {k:Int} {l:Ln} (h:eH L k=some l):l∈L:=by
 unfold eH at h
 exact List.mem_of_find?_eq_some h
theorem aAF {L:List Ln} {a x:Ln} (h:x∈oR L a):x=a\/x∈L:=by
 unfold oR at h
 split at h
 ·exact (List.mem_or_eq_of_mem_set h).symm
 ·rcases agZ.1 (show x∈L.take _++[a]++L.drop _ from h) with q|q
  ·exact .inl q
  ·exact .inr q
theorem aDV {k:Nat} {b:Bs} (h:OpW k b) (t:Int) {a:Ln} (ha:LnW (k+1) a):OpW (k+1) (sQ b t a):=by
 unfold sQ
 split
 ·refine ⟨by rw [List.length_set];exact h.1,λd hd=> ?_⟩
  rcases List.mem_or_eq_of_mem_set hd with q|rfl
  ·exact ⟨by have:=(h.2 d q).1;omega,λl hl=>((h.2 d q).2 l hl).up (by omega)⟩
  ·obtain ⟨q1,q2⟩:=yI h t
   refine ⟨?_,λl hl=> ?_⟩
   ·have:=ahE (aO b t) a
    show (oR (aO b t) a).length<=_
    omega
   ·rcases aAF hl with rfl|hl
    ·exact ha
    ·exact (q2 l hl).up (by omega)
 ·exact ⟨h.1,λd hd=>⟨by have:=(h.2 d hd).1;omega,λl hl=>((h.2 d hd).2 l hl).up (by omega)⟩⟩
theorem aFm {t:Tb} {G:R2->Bool} {who:Dt} {l:Ln} {m:Nat} (h:LnW m l):LnW (m+1) (kT t G who l):=by
 obtain ⟨h1,h2,h3⟩:=h
 have hw:=adH l who
 unfold kT
 split
 ·refine ⟨?_, ?_,λc hc=> ?_⟩
  ·show (dD l who).by_.length<=_;omega
  ·show (eO _ _ _).length<=_;rw [dE];exact h2
  ·obtain ⟨j,hj,rfl⟩:=List.getElem_of_mem hc
   have hj:j<(eO (eE G l) t.foreign l.cells_).length:=hj
   rw [dE] at hj
   show ((eO (eE G l) t.foreign l.cells_)[j]'(by rw [dE];exact hj)).parts.length<=_
   rw [nL hj]
   split
   ·simp [Cl.zero]
   ·have:=h3 _ (zgm hj);omega
 ·exact ⟨by omega,by omega,λc hc=>by have:=h3 c hc;omega⟩
theorem aCc {rb:Bool} {s:Sc} {b:Bs} {z:R2} {who:Dt} {M:List R2} {m:Nat} (h:OpW m b):OpW (m+1) (uU rb s b z who M).1:=by
 unfold uU
 split
 ·split
  ·split
   ·refine ⟨by rw [afB];exact h.1,λd hd=> ?_⟩
    unfold xP at hd
    obtain ⟨k,hk,rfl⟩:=List.mem_map.1 hd
    have hk:=List.mem_range.1 hk
    obtain ⟨q1,q2⟩:=h.2 _ (zgm hk)
    refine ⟨?_,λx hx=> ?_⟩
    ·show (qA s b (inR M) who k).length<=_
     unfold qA
     rw [zql,getElem!_pos b k hk]
     have:=List.length_filter_le (λl:Ln=> !inR M ((k:Int),l.key)) b[k].lines
     omega
    ·obtain ⟨l,hl,_,rfl⟩:=aiI.1 hx
     rw [getElem!_pos b k hk] at hl
     exact aFm (q2 l hl)
   ·exact OpW.nil _
  ·exact OpW.nil _
 ·exact OpW.nil _
theorem nP {l:List Pt} {k:Nat} {x:Pt}:(dJ l k [x]).length=l.length+1:=by
 unfold dJ
 simp only [zla,zlt,zld,List.length_singleton]
 omega
def xQ (o:Ot):Prop:=o.row.length<=20/\o.val.s.size<=40/\∀v∈o.row,v.s.size<=40
theorem ajN (c:Cl) (n:Int):(sP c n).1.parts.length=0:=by
 unfold sP
 split
 ·rfl
 ·split
  ·rfl
  ·split<;>rfl
theorem ayY (w:Wr) (c:Cl) (o:Ot) {m:Nat} (hc:c.parts.length<=m) (ho:xQ o):(eW w c o).1.parts.length<=m+40:=by
 unfold eW
 have h1:=ajN c o.val.n
 have h2:=List.length_filter_le (qW w.dot w.knew) c.parts
 have h3:=List.length_filter_le (rD o.val.n w.dot w.knew) c.parts
 have h4:=T.type_len c o.val.s w.who ⟨o.after,o.at_⟩
 have h5:=T.eraseP_len ⟨o.after,o.at_⟩ c
 have h6:=ho.2.1
 have h7:(gV c o.val w.dot w.knew).parts.length<=c.parts.length+1:=by unfold gV;simp only;rw [nP];omega
 have h8:(nA c o.val.n w.dot).parts.length<=c.parts.length+1:=by
  unfold nA
  split
  ·omega
  ·simp only;rw [nP];omega
 have h9:(rA c o.val.n w.dot w.knew).parts.length<=c.parts.length:=h3
 repeat' split
 all_goals ((try dsimp only);first|omega|simp;done)
theorem asX (w:Wr) (k:Int) (v:Vl) (hv:v.s.size<=40):(kE w k v).1.parts.length<=40:=by
 unfold kE
 have h1:=ajN (oE 0) v.n
 have h4:=T.type_len ⟨4,Vl.zero,[]⟩ v.s w.who T.Nm.zero
 have h7:(gV ⟨k,Vl.zero,[]⟩ v w.dot w.knew).parts.length<=1:=by unfold gV;simp only;rw [nP];simp
 have h8:(nA ⟨k,Vl.zero,[]⟩ v.n w.dot).parts.length<=1:=by
  unfold nA
  split
  ·simp
  ·simp only;rw [nP];simp
 simp only [List.length_nil] at h4
 repeat' split
 all_goals ((try dsimp only);first|omega|simp;done)
theorem aEq {w:Wr} {t:Tb} {o:Ot} (ho:xQ o) (k:Nat):LnW (k+1) (eX w t o.row):=by
 refine ⟨by simp only [eX,List.length_singleton];omega,by unfold eX;simp only [zql,List.length_range];exact ho.1,λc hc=> ?_⟩
 unfold eX at hc
 obtain ⟨i,hi,rfl⟩:=List.mem_map.1 hc
 have hi:=List.mem_range.1 hi
 have:=asX w t.cols[i]!.kind o.row[i]! (by rw [getElem!_pos o.row i hi];exact ho.2.2 _ (zgm hi))
 unfold nN
 omega
theorem aGI {w:Wr} {o:Ot} {l:Ln} {k:Nat} (ho:xQ o) (h:LnW k l):LnW (k+1) (qN w o l):=by
 obtain ⟨h1,h2,h3⟩:=h
 have hw:=adH ⟨l.key,l.cells_.set o.col.toNat (eW w l.cells_[o.col.toNat]! o).1,l.by_⟩ w.dot
 have hc:(qN w o l).cells_=l.cells_.set o.col.toNat (eW w l.cells_[o.col.toNat]! o).1:=by unfold qN dD;split<;>rfl
 refine ⟨?_, ?_,λc hc'=> ?_⟩
 ·show (dD _ _).by_.length<=_
  simp only at hw;omega
 ·rw [hc,List.length_set];exact h2
 ·rw [hc] at hc'
  rcases List.mem_or_eq_of_mem_set hc' with q|rfl
  ·have:=h3 c q;omega
  ·by_cases hj:o.col.toNat<l.cells_.length
   ·rw [getElem!_pos l.cells_ _ hj]
    have:=ayY w l.cells_[o.col.toNat] o (h3 _ (zgm hj)) ho
    omega
   ·rw [List.set_eq_of_length_le (by omega)] at hc'
    have:=h3 _ hc';omega
theorem aBv {w:Wr} {s:Sc} {b:Bs} {o:Ot} {k:Nat} (h:OpW k b) (ho:xQ o):OpW (k+1) (eD w s b o).1:=by
 unfold eD
 split
 ·exact OpW.nil _
 ·split
  ·unfold aDN
   split
   ·exact OpW.nil _
   ·split
    ·exact OpW.nil _
    ·split
     ·exact OpW.nil _
     ·exact aDV h _ (aEq ho k)
  ·split
   ·exact aCc h
   ·unfold arF
    cases hg:eH (aO b o.table) o.key with
    |none=>exact OpW.nil _
    |some l=>
     simp only
     split
     ·exact OpW.nil _
     ·exact aDV h _ (aGI ho ((yI h _).2 l (afZ hg)))
theorem aoD {tx:Cl->Int} {t:Tb} {L:List Ln} (h:sG tx t L=true) (a:Ln) (hl:(oR L a).length<=2000) (ha:jX tx t a=true):sG tx t (oR L a)=true:=by
 obtain ⟨h1,h2,h3⟩:=fY.1 h
 refine fY.2 ⟨hl,λx hx=> ?_,h3.put a⟩
 rcases (afX h3 a x).1 hx with rfl|w
 ·exact ha
 ·exact h2 x w.1
theorem aEl (b:Bs) (k:Int) (a:Ln):sQ b k a=jH b k (oR (aO b k) a):=rfl
theorem aeH {s:Sc} {b:Bs} {k:Nat} (h:cP T.rightP s b=true) (hk:k<s.length) {a:Ln} (hl:(oR (aO b k) a).length<=2000) (ha:LineOK T.rightP s[k] a):cP T.rightP s (sQ b k a)=true:=by
 obtain ⟨⟨h1,h2⟩,_⟩:=bV.1 h
 have hok:okT b (k:Int)=true:=by unfold okT;simp only [zba,zde];omega
 rw [aEl,avK h hok,Int.toNat_natCast,getElem!_pos s k hk]
 have hd:=abM h hok
 rw [Int.toNat_natCast,getElem!_pos s k hk] at hd
 exact aoD hd a hl (yB.2 ha)
theorem acB {L:List Ln} {a:Ln} (h:(eH L a.key).isSome=true):(oR L a).length=L.length:=by
 rcases sM L a.key with ⟨j,hj,e,_⟩|⟨j,hj,e,q,_⟩
 ·unfold oR;rw [e,if_pos rfl,List.length_set]
 ·rw [q] at h;cases h
theorem aF1 {s:Sc} (h:cL s=0) {k:Nat} (hk:k<s.length):s[k].cols[0]!.kind=0/\s[k].cols[0]!.type_=1/\s[k].cols[0]!.null=false:=by
 have h3:=fL h hk (lk3 s[k]!) (by simp [lks])
 rw [getElem!_pos s k hk] at h3
 unfold lk3 at h3
 split at h3
 ·cases h3
 ·rename_i q2
  rw [not_or] at q2
  have h4:lY s[k].cols[0]! =true:=by simpa using q2.1
  unfold lY at h4
  rw [zba,zde,zde] at h4
  exact ⟨h4.1,h4.2,by simpa using q2.2⟩
theorem aG2 {s:Sc} (h:cL s=0) {k:Nat} (hk:k<s.length) {j:Nat} (hj:j<s[k].cols.length):0<=s[k].cols[j].kind/\s[k].cols[j].kind<=4:=by
 have h2:=fL h hk (lk2 s[k]!) (by simp [lks])
 rw [getElem!_pos s k hk] at h2
 unfold lk2 at h2
 have:=uF (show orI ((List.range s[k].cols.length).map (akT s[k]))=0 from h2) _ (List.mem_map.2 ⟨j,List.mem_range.2 hj,rfl⟩)
 unfold akT arY at this
 rw [getElem!_pos s[k].cols j hj] at this
 split at this
 ·cases this
 ·rename_i q;simp only [not_or] at q;omega
theorem auR {w:Wr} {s:Sc} (h:cL s=0) {k:Nat} (hk:k<s.length) {o:Ot} (hw:uO w=true) (hr:apX s[k] o=0) (he:lG w s[k] o.row=0):LineOK T.rightP s[k] (eX w s[k] o.row):=by
 unfold apX at hr
 split at hr
 ·cases hr
 split at hr
 ·rename_i q;exact absurd hr q
 rename_i q1 q2
 split at hr
 ·cases hr
 rename_i q3
 simp only [not_or,Bool.not_eq_false,Decidable.not_not] at q1 q2 q3
 have hlen:=aqD q2
 have hv:∀j,j<o.row.length->sC s[k].cols[j]! o.row[j]! =0:=λj hj=>by
  unfold eM at q2
  rw [if_pos hlen.symm] at q2
  exact gD.1 q2 j (List.mem_range.2 hj)
 have hf:∀j (hj:j<o.row.length),jU T.rightP (nN w s[k] o.row j).1=true/\(nN w s[k] o.row j).1.kind=s[k].cols[j]!.kind:=λj hj=>by
  have h0:=gD.1 he j (List.mem_range.2 hj)
  have hc:=aG2 h hk (j:=j) (by omega)
  refine ayF hw ?_ (hv j hj) h0
  rw [getElem!_pos s[k].cols j (by omega)];exact hc
 have hl:(eX w s[k] o.row).cells_.length=o.row.length:=by unfold eX;simp
 have hg:∀j (hj:j<(eX w s[k] o.row).cells_.length),(eX w s[k] o.row).cells_[j]=(nN w s[k] o.row j).1:=λj hj=>by
  unfold eX
  show (List.map _ _)[j]'(by simpa [eX] using hj)=_
  rw [List.getElem_map,List.getElem_range]
 have hk0:=q3.2
 unfold auI at hk0
 simp only [zba,zde] at hk0
 have hpos:0<o.row.length:=by omega
 refine ⟨hk0.1,by show o.row[0]!.n<_;omega,by rw [hl];exact hlen,λj hj=> ?_,λc hc=> ?_, ?_, ?_⟩
 ·rw [hg j hj];exact (hf j (by omega)).2
 ·obtain ⟨j,hj,rfl⟩:=List.getElem_of_mem hc
  rw [hg j hj];exact (hf j (by omega)).1
 ·rw [getElem!_pos _ 0 (by rw [hl];exact hpos),hg 0 (by rw [hl];exact hpos)]
  obtain ⟨c1,c2,c3⟩:=aF1 h hk
  have hv0:=hv 0 hpos
  unfold nN kE
  rw [if_pos c1]
  show o.row[0]! =⟨1,o.row[0]!.n,e0⟩
  unfold sC at hv0
  split at hv0
  ·cases hv0
  split at hv0
  ·cases hv0
  split at hv0
  ·cases hv0
  rename_i r1 r2 r3
  have hk1:o.row[0]!.kind=1:=by
   have hkc:dW s[k].cols[0]! =1:=by unfold dW;rw [if_pos (.inl c1),c2]
   by_cases z:o.row[0]!.kind=0
   ·exact absurd ⟨z, .inl c1,c3⟩ r2
   ·exact Classical.byContradiction λy=>r3 ⟨z,by rw [hkc];exact y⟩
  have hvr:cJ o.row[0]! =true:=by simpa using r1
  unfold cJ at hvr
  rw [if_neg (by omega),if_pos hk1] at hvr
  simp only [zba,zde] at hvr
  rw [Vl.ext_iff]
  exact ⟨hk1,rfl,hvr.1.1⟩
 ·refine abD.2 ⟨λx hx=> ?_, ?_⟩
  ·have hx:x∈[w.dot]:=hx
   rw [List.mem_singleton.1 hx];exact pL hw
  ·exact List.pairwise_singleton _ _
theorem atB {w:Wr} {t:Tb} {o:Ot} {l:Ln} (hw:uO w=true) (hL:LineOK T.rightP t l) (hr:aaF t o=0) (h0:(eW w l.cells_[o.col.toNat]! o).2=0):LineOK T.rightP t (qN w o l):=by
 unfold aaF at hr
 split at hr
 ·cases hr
 split at hr
 ·cases hr
 split at hr
 ·cases hr
 split at hr
 ·rename_i q;exact absurd hr q
 rename_i q1 q2 q3 q4
 simp only [not_or,Bool.not_eq_false,Decidable.not_not] at q1 q2 q3 q4
 obtain ⟨k1,k2,ln,kd,ce,ze,ds⟩:=hL
 have hj:o.col.toNat<l.cells_.length:=by omega
 rw [<-kd _ hj] at q3
 rw [getElem!_pos l.cells_ _ hj] at h0
 obtain ⟨t1,t2⟩:=aDE hw (ce _ (zgm hj)) q3 q4 h0
 have hc:(qN w o l).cells_=l.cells_.set o.col.toNat (eW w l.cells_[o.col.toNat] o).1:=by
  unfold qN dD
  rw [getElem!_pos l.cells_ _ hj]
  split<;>rfl
 have hkey:(qN w o l).key=l.key:=by unfold qN dD;split<;>rfl
 refine ⟨by rw [hkey];exact k1,by rw [hkey];exact k2,by rw [hc,List.length_set];exact ln,λj hjj=> ?_,λc hcc=> ?_, ?_,abR ds (pL hw)⟩
 ·simp only [hc,List.getElem_set]
  simp only [hc,List.length_set] at hjj
  split
  ·rename_i e;subst e;rw [t2];exact kd _ hj
  ·exact kd j hjj
 ·rw [hc] at hcc
  rcases List.mem_or_eq_of_mem_set hcc with q|rfl
  ·exact ce c q
  ·exact t1
 ·rw [hkey,hc,<-ze,getElem!_pos _ 0 (by rw [List.length_set];omega),List.getElem_set,if_neg (by omega),getElem!_pos l.cells_ 0 (by omega)]
theorem aaK {tx:Cl->Int} {s:Sc} {b:Bs} (hg:cP tx s b=true) {k:Nat} (hk:k<s.length) {l:Ln} (hl:l∈aO b k):LineOK tx s[k] l:=by
 obtain ⟨⟨h1,h2⟩,_⟩:=bV.1 hg
 have hkb:k<b.length:=by omega
 have hl:l∈b[k].lines:=by
  unfold aO okT at hl
  rw [if_pos (by simp;omega),Int.toNat_natCast,getElem!_pos b k hkb] at hl
  exact hl
 have hL:=vS hg hkb hl
 rwa [getElem!_pos s k hk] at hL
theorem vA {s:Sc} {o:Ot} (h:fX s o=0):∃k:Nat,o.table=k/\∃hk:k<s.length,(o.kind=1->apX s[k] o=0)/\(o.kind≠1->o.kind≠8->aaF s[k] o=0):=by
 unfold fX at h
 split at h
 ·cases h
 split at h
 ·cases h
 rename_i q1 q2
 refine ⟨o.table.toNat,by omega,by omega,λe=> ?_,λe1 e8=> ?_⟩
 ·rw [if_pos e,getElem!_pos s _ (by omega)] at h;exact h
 ·rw [if_neg e1] at h
  split at h
  ·cases h
  rw [getElem!_pos s _ (by omega)] at h;exact h
theorem zG {w:Wr} {s:Sc} {b:Bs} {o:Ot} (hw:uO w=true) (hb:cP T.rightP s b=true) (h0:(eD w s b o).2=0):cP T.rightP s (eD w s b o).1=true:=by
 have hs:=(bV.1 hb).1.1
 unfold eD at*
 by_cases hr:fX s o=0
 ·rw [if_neg (by simp [hr])] at h0⊢
  obtain ⟨k,hk,hks,r1,r2⟩:=vA hr
  by_cases h1:o.kind=1
  ·rw [if_pos h1] at h0⊢
   unfold aDN at*
   split at h0
   ·cases h0
   split at h0
   ·cases h0
   rw [hk,Int.toNat_natCast,getElem!_pos s k hks] at h0⊢
   split at h0
   ·rename_i q;exact absurd h0 q
   rename_i q1 q2 q3
   rw [hk] at q1 q2
   rw [if_neg q1,if_neg q2,if_neg q3]
   refine aeH hb hks ?_ (auR hs hks hw (r1 h1) (Decidable.of_not_not q3))
   have:=ahE (aO b (k:Int)) (eX w s[k] o.row)
   omega
  ·rw [if_neg h1] at h0⊢
   by_cases h8:o.kind=8
   ·rw [if_pos h8] at h0⊢
    unfold uU at*
    rw [if_pos rfl] at h0⊢
    split at h0
    ·rename_i q;rw [if_pos q]
     split at h0
     ·rename_i q2;rw [if_pos q2];exact aBk hb (pL hw)
     ·cases h0
    ·cases h0
   ·rw [if_neg h8] at h0⊢
    unfold arF at*
    rw [hk] at h0⊢
    cases hg:eH (aO b (k:Int)) o.key with
    |none=>rw [hg] at h0;cases h0
    |some l=>
     rw [hg] at h0
     simp only at h0⊢
     split at h0
     ·rename_i q;exact absurd h0 q
     rename_i q
     rw [if_neg q]
     have hL:=aaK hb hks (afZ hg)
     obtain ⟨_,hkey⟩:=(aB8 (alT hb (k:Int))).1 hg
     refine aeH hb hks ?_ (atB hw hL (r2 h1 h8) (Decidable.of_not_not q))
     have hkk:(qN w o l).key=l.key:=by unfold qN dD;split<;>rfl
     rw [acB (by rw [hkk,hkey,hg];rfl)]
     have hok:okT b (k:Int)=true:=by unfold okT;simp only [zba,zde];have:=(bV.1 hb).1.2;omega
     exact (fY.1 (abM hb hok)).1
 ·rw [if_pos hr] at h0
  exact absurd h0 hr
end Go.Proofs.YtloecjjehapblaaGreatDoor
