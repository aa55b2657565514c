import Derived.Test.YtloecjjehapblaaGreatDoorOkAr
import Derived.Test.YtloecjjehapblaaGreatDoorOkAq
import Derived.Test.YtloecjjehapblaaGreatDoorOkAp
import Derived.Test.YtloecjjehapblaaGreatDoorAcI
set_option linter.unusedSimpArgs false
set_option linter.unusedVariables false
namespace Go.Proofs.YtloecjjehapblaaGreatDoor
open Go Go.Abs
section
attribute [local irreducible] Ev PWp
set_option maxRecDepth 10000
set_option maxHeartbeats 4000000
structure TnOK (w:Wr) (c:Cl) (o:Ot):Prop where
 n:inL o.val.n
 s:o.val.s.size<1000000
 kn:w.knew.length<1000000000000
 parts:c.parts.length<100000
def xS (w:Wr) (c:Cl) (o:Ot):List PV:=[.rp c.cells, .rp o.cells, .rp w.cells]
def aeB (c:Cl) (o:Ot):List PV:=[.rp c.cells, .rp o.cells]
section
variable {w:Wr} {c:Cl} {o:Ot} (hT:TnOK w c o)
theorem aGI (v:Vl):Wk (.agg [(PV.val (Value.int .i64 (0))),(PV.val (Value.int .i64 (v.kind))),(PV.val (Value.int .i64 (v.n))),(PV.val (Value.string (v.s))), .val (.slice none 0 0)]) (.agg (Cl.mk 0 v []).cells):= .agg (.cons (zwr _) (.cons (zwr _) (.cons (zwr _) (.cons (zwr _) (.cons Wk.nil .nil)))))
include hT
theorem aCu :PF Tryz.prog 241 (xS w c o) (.agg (if c.kind=0 then ⟨0,o.val,[]⟩ else gW c o.val w.dot w.knew).cells):=by
 have hd:=iJ w
 have hp:=xQ c o.val w.dot w.knew (by have:=hT.parts;omega) hT.kn
 unfold xS
 by_cases k:c.kind=0
 ·rw [zp k]
  refine aG aF Tryz.func241 (by kernel_rfl) rfl rfl rfl rfl (λst=> ?_)
  (try apply wO pk;rfl);(repeat' first|refine aC ?_;exact ⟨_,_,_,rfl,aGI o.val,zsr _,rfl,rfl⟩|show Cn _;constructor|apply wC pk;rfl;rfl|refine aB rfl ?_ ?_<;>intro h<;>(try simp at h)<;>try omega)
 ·rw [zn k]
  generalize gW c o.val w.dot w.knew=R at*
  refine aG aF Tryz.func241 (by kernel_rfl) rfl rfl rfl rfl (λst=> ?_)
  (try apply wO pk;rfl);(repeat' first|show Cn _;constructor|apply wC pk;rfl;rfl|apply wE pk;rfl;rfl|apply wD pk [] [];kernel_rfl;rfl;rfl|refine aB rfl ?_ ?_<;>intro h<;>(try simp at h)<;>try omega|(refine aC ?_;refine ⟨_,_,_,rfl,zwr _,zsr _, ?_,rfl⟩;try rfl)|(apply aH;rfl;rfl;rfl;(intro _;(first|apply hd|apply hp)<;>first|assumption|omega);rotate_left;rfl;rfl))
theorem aDA :PF Tryz.prog 243 (aeB c o) (xX (sX c o.val.n)):=by
 have h:=acW c o.val.n hT.n
 unfold aeB
 generalize sX c o.val.n=R at*
 refine aG aF Tryz.func243 (by kernel_rfl) rfl rfl rfl rfl (λst=> ?_)
 (try apply wO pk;rfl);(repeat' first|show Cn _;constructor|apply wE pk;rfl;rfl|(refine aC ?_;refine ⟨_,_,_,rfl,zwr _,zsr _, ?_,rfl⟩;try rfl)|(apply aH;rfl;rfl;rfl;(intro _;apply h<;>first|assumption|omega);rotate_left;rfl;rfl))
theorem aCW :PF Tryz.prog 245 (xS w c o) (.agg (nD c o.val.n w.dot).cells):=by
 have hd:=iJ w
 have hp:=aaH c o.val.n w.dot (by have:=hT.parts;omega)
 unfold xS
 generalize nD c o.val.n w.dot=R at*
 refine aG aF Tryz.func245 (by kernel_rfl) rfl rfl rfl rfl (λst=> ?_)
 (try apply wO pk;rfl);(repeat' first|show Cn _;constructor|apply wE pk;rfl;rfl|apply wD pk [] [];kernel_rfl;rfl;rfl|(refine aC ?_;refine ⟨_,_,_,rfl,zwr _,zsr _, ?_,rfl⟩;try rfl)|(apply aH;rfl;rfl;rfl;(intro _;(first|apply hd|apply hp)<;>first|assumption|omega);rotate_left;rfl;rfl))
theorem aCS :PF Tryz.prog 247 (xS w c o) (.agg (rL c o.val.n w.dot w.knew).cells):=by
 have hd:=iJ w
 have hp:=apJ c o.val.n w.dot w.knew hT.parts hT.kn
 unfold xS
 generalize rL c o.val.n w.dot w.knew=R at*
 refine aG aF Tryz.func247 (by kernel_rfl) rfl rfl rfl rfl (λst=> ?_)
 (try apply wO pk;rfl);(repeat' first|show Cn _;constructor|apply wE pk;rfl;rfl|apply wD pk [] [];kernel_rfl;rfl;rfl|(refine aC ?_;refine ⟨_,_,_,rfl,zwr _,zsr _, ?_,rfl⟩;try rfl)|(apply aH;rfl;rfl;rfl;(intro _;(first|apply hd|apply hp)<;>first|assumption|omega);rotate_left;rfl;rfl))
theorem aDk :PF Tryz.prog 249 (xS w c o) (xX (T.typeP c o.val.s w.who ⟨o.after,o.at_⟩)):=by
 have h:=T.type_spec c o.val.s w.who o.after o.at_ (by have:=hT.parts;omega) hT.s
 unfold xS
 generalize T.typeP c o.val.s w.who ⟨o.after,o.at_⟩=R at*
 refine aG aF Tryz.func249 (by kernel_rfl) rfl rfl rfl rfl (λst=> ?_)
 (try apply wO pk;rfl);(repeat' first|show Cn _;constructor|apply wE pk;rfl;rfl|(refine aC ?_;refine ⟨_,_,_,rfl,zwr _,zsr _, ?_,rfl⟩;try rfl)|(apply aH;rfl;rfl;rfl;(intro _;apply h<;>first|assumption|omega);rotate_left;rfl;rfl))
theorem aCN :PF Tryz.prog 251 (aeB c o) (.agg (T.eraseP c ⟨o.after,o.at_⟩).cells):=by
 have h:=T.erase_spec c o.after o.at_ (by have:=hT.parts;omega)
 unfold aeB
 generalize T.eraseP c ⟨o.after,o.at_⟩=R at*
 refine aG aF Tryz.func251 (by kernel_rfl) rfl rfl rfl rfl (λst=> ?_)
 (try apply wO pk;rfl);(repeat' first|show Cn _;constructor|apply wE pk;rfl;rfl|(refine aC ?_;refine ⟨_,_,_,rfl,zwr _,zsr _, ?_,rfl⟩;try rfl)|(apply aH;rfl;rfl;rfl;(intro _;apply h<;>first|assumption|omega);rotate_left;rfl;rfl))
end
theorem auN (f:FuncId) (caps:List PV):PF Tryz.prog 239 [.fn f caps] (.fn 240 [.rp [.fn f caps]]):=by
 refine aG aF Tryz.func239 (by kernel_rfl) rfl rfl rfl rfl (λst=> ?_)
 (try apply wO pk;rfl);(repeat' first|show Cn _;constructor|apply wE pk;rfl;rfl|(refine aC ?_;refine ⟨_,_,_,rfl,zwr _,zsr _, ?_,rfl⟩;try rfl)|apply bD 1;rfl;rfl)
theorem nL {f:FuncId} {caps:List PV} {d:Cl} (h:PF Tryz.prog f caps (.agg d.cells)):PF Tryz.prog 240 [.rp [.fn f caps]] (xX (d,0)):=by
 have h':PF Tryz.prog f ([]++caps) (.agg d.cells):=h
 refine aG aF Tryz.func240 (by kernel_rfl) rfl rfl rfl rfl (λst=> ?_)
 (try apply wO pk;rfl);(repeat' first|show Cn _;constructor|apply wE pk;rfl;rfl|(refine aC ?_;refine ⟨_,_,_,rfl,zwr _,zsr _, ?_,rfl⟩;try rfl)|(apply aH;rfl;rfl;rfl;(intro _;apply h'<;>first|assumption|omega);rotate_left;rfl;rfl))
def aqZ (f:FuncId) (caps:List PV):PV:= .fn 240 [.rp [.fn f caps]]
def aFA (w:Wr) (c:Cl) (o:Ot):List (Value×PV):=[(.int .i64 2,aqZ 241 (xS w c o)),(.int .i64 3, .fn 243 (aeB c o)),(.int .i64 4,aqZ 245 (xS w c o)),(.int .i64 5,aqZ 247 (xS w c o)),(.int .i64 6, .fn 249 (xS w c o)),(.int .i64 7,aqZ 251 (aeB c o))]
theorem avB {w:Wr} {c:Cl} {o:Ot} (hT:TnOK w c o) (h1:2<=o.kind) (h2:o.kind<=7):∃f caps,gM tt 322 (aFA w c o) (.int .i64 o.kind) false=some (.fn f caps)/\PF Tryz.prog f caps (xX (eV w c o)):=by
 have h:o.kind=2\/o.kind=3\/o.kind=4\/o.kind=5\/o.kind=6\/o.kind=7:=by omega
 unfold eV
 rcases h with h|h|h|h|h|h
 ·rw [h]
  refine ⟨_,_,rfl, ?_⟩
  have:=nL (aCu hT)
  rw [zp rfl]
  by_cases k:c.kind=0
  ·rw [zp k] at this⊢;exact this
  ·rw [zn k] at this⊢;exact this
 ·rw [h];exact ⟨_,_,rfl,aDA hT⟩
 ·rw [h];exact ⟨_,_,rfl,nL (aCW hT)⟩
 ·rw [h];exact ⟨_,_,rfl,nL (aCS hT)⟩
 ·rw [h];exact ⟨_,_,rfl,aDk hT⟩
 ·rw [h];exact ⟨_,_,rfl,nL (aCN hT)⟩
theorem anM {st S:aI} {id idm:Nat} {a b:AObj} (hne:id≠idm) (hm:st idm=none) (e:b=a) (hS:∀q,q≠idm->S q=st q):StSub (upd st id (some a)) (upd S id (some b)):=λq=>by
 subst e
 by_cases e1:q=id
 ·subst e1;right;rw [aA,aA]
 ·rw [aD e1,aD e1]
  by_cases e2:q=idm
  ·subst e2;exact .inl hm
  ·exact .inr (hS q e2).symm
theorem aCt {w:Wr} {cs:List Cl} {j id:Nat} {o:Ot} (hj:j<cs.length) (hT:TnOK w cs[j] o) (h1:2<=o.kind) (h2:o.kind<=7) {st:aI} (hst:st id=some (.arr 80 (cs.map Cl.cells))):PC Tryz.prog 159 [.agg w.cells, .el id 5 j 0, .agg o.cells] st λr S=>r=(.val (.int .i64 ((eV w cs[j] o).2)))/\S=upd st id (some (.arr 80 ((cs.set j (eV w cs[j] o).1).map Cl.cells))):=by
 obtain ⟨f,caps,hlook,hP⟩:=avB hT h1 h2
 generalize eV w cs[j] o=R at*
 have hget:cs[j]?=some cs[j]:=zgg hj
 have hS:=auN
 have hP':PF Tryz.prog f ([]++caps) (xX R):=hP
 refine cB aF Tryz.func159 (by kernel_rfl) rfl rfl rfl rfl ?_
 (try apply wO pk;rfl);(repeat' first|apply qQ aF;exact .inl rfl;(iterate 7 rfl);exact aA _ _ _;rfl;(iterate 2 (apply sF aF;(iterate 4 rfl)));refine wH ?_;apply iU 9;rfl;exact aA _ _ _|((refine aC ?_;refine ⟨_,_,upd st id (some (.arr 80 ((cs.set j R.1).map Cl.cells))),rfl,zwr _, ?_,rfl,rfl⟩;exact anM hne hidm' (by simp) (λq h=>by repeat (first|rfl|refine (aD h).trans ?_))))|show Cn _;constructor|apply wC pk;rfl;rfl|apply wE pk;rfl;rfl|(apply aH;rfl;rfl;rfl;(intro _;(first|apply hS|apply hP')<;>first|assumption|omega);rotate_left;rfl;rfl)|apply ncA;rfl;rfl;rfl;rotate_left;rfl;rfl|apply ldL pk Cl.elem (a:=cs[j]);rfl;rfl;rotate_left;rfl;(assumption);(intro _;exact hget);rfl|apply stA pk Cl.elem;rfl;rfl;rfl;((focus ((repeat (first|assumption|refine (aD ‹_›).trans ?_));done)));(omega);rfl|apply bD 3;rfl;rfl|apply bD 5;rfl;rfl|apply bD 8;rfl;rfl|((refine oA rfl (λidm hidm=> ?_));have hidm':st idm=none:=hidm;have hne:id≠idm:=(λe=>by rw [<-e,hst] at hidm';cases hidm'))|apply qQ aF;exact .inl rfl;(iterate 7 rfl);exact aA _ _ _;rfl|apply kW pk;(iterate 4 rfl);(focus repeat' constructor);rfl;exact hlook;rfl)
end
section
set_option maxRecDepth 10000
set_option maxHeartbeats 4000000
def LnW (k:Nat) (l:Ln):Prop:=l.by_.length<=60+k/\l.cells_.length<=20/\∀c∈l.cells_,c.parts.length<=40+40*k
def OpW (k:Nat) (b:Bs):Prop:=b.length<=20/\∀d∈b,d.lines.length<=100+k/\∀l∈d.lines,LnW k l
theorem LnW.S {k:Nat} {l:Ln} (h:LnW k l) (hk:k<=20):LnS l:=⟨by have:=h.1;omega,by have:=h.2.1;omega,λc hc=>by have:=h.2.2 c hc;omega⟩
theorem OpW.S {k:Nat} {b:Bs} (h:OpW k b) (hk:k<=20):BsS 200 b:=⟨h.1,λd hd=>⟨by have:=(h.2 d hd).1;omega,λl hl=>((h.2 d hd).2 l hl).S hk⟩⟩
theorem LnW.up {k m:Nat} {l:Ln} (h:LnW k l) (hkm:k<=m):LnW m l:=⟨by have:=h.1;omega,h.2.1,λc hc=>by have:=h.2.2 c hc;omega⟩
theorem OpW.nil (k:Nat):OpW k []:=⟨by simp,λd hd=>by cases hd⟩
theorem aF5 {b:Bs} (h:aBC b=true):OpW 0 b:=by
 have h0:=h
 unfold aBC at h
 simp only [zba,zde,zal] at h
 obtain ⟨h1,h2,h3⟩:=h
 refine ⟨by omega,λd hd=>⟨?_,λl hl=> ?_⟩⟩
 ·have:=((aDV h0).2 d hd).1;omega
 ·have:=h3 d hd l hl
  unfold afR amA at this
  simp only [zba,zde,zal] at this
  exact ⟨by omega,by omega,λc hc=>by have:=this.1 c hc;omega⟩
theorem yG {k:Nat} {b:Bs} (h:OpW k b) (t:Int):(aN b t).length<=100+k/\∀l∈aN b t,LnW k l:=by
 unfold aN
 split
 ·rename_i ho
  unfold okT at ho
  simp only [zba,zde] at ho
  rw [getElem!_pos b t.toNat (by omega)]
  exact h.2 _ (zgm _)
 ·exact ⟨by simp,λl hl=>by cases hl⟩
theorem afU {L:List Ln} {k:Int} {l:Ln} (h:eD L k=some l):l∈L:=by
 unfold eD at h
 exact List.mem_of_find?_eq_some h
theorem aAC {L:List Ln} {a x:Ln} (h:x∈mC L a):x=a\/x∈L:=by
 unfold mC at h
 split at h
 ·exact (List.mem_or_eq_of_mem_set h).symm
 ·rcases agW.1 (show x∈L.take _++[a]++L.drop _ from h) with q|q
  ·exact .inl q
  ·exact .inr q
theorem aDR {k:Nat} {b:Bs} (h:OpW k b) (t:Int) {a:Ln} (ha:LnW (k+1) a):OpW (k+1) (oY b t a):=by
 unfold oY
 split
 ·refine ⟨by rw [List.length_set];exact h.1,λd hd=> ?_⟩
  rcases List.mem_or_eq_of_mem_set hd with q|rfl
  ·exact ⟨by have:=(h.2 d q).1;omega,λl hl=>((h.2 d q).2 l hl).up (by omega)⟩
  ·obtain ⟨q1,q2⟩:=yG h t
   refine ⟨?_,λl hl=> ?_⟩
   ·have:=yU (aN b t) a
    show (mC (aN b t) a).length<=_
    omega
   ·rcases aAC hl with rfl|hl
    ·exact ha
    ·exact (q2 l hl).up (by omega)
 ·exact ⟨h.1,λd hd=>⟨by have:=(h.2 d hd).1;omega,λl hl=>((h.2 d hd).2 l hl).up (by omega)⟩⟩
theorem aFm {t:Tb} {G:R2->Bool} {who:Dt} {l:Ln} {m:Nat} (h:LnW m l):LnW (m+1) (kU t G who l):=by
 obtain ⟨h1,h2,h3⟩:=h
 have hw:=adE l who
 unfold kU
 split
 ·refine ⟨?_, ?_,λc hc=> ?_⟩
  ·show (dE l who).by_.length<=_;omega
  ·show (eN _ _ _).length<=_;rw [dG];exact h2
  ·obtain ⟨j,hj,rfl⟩:=zgo hc
   have hj:j<(eN (eF G l) t.foreign l.cells_).length:=hj
   rw [dG] at hj
   show ((eN (eF G l) t.foreign l.cells_)[j]'(by rw [dG];exact hj)).parts.length<=_
   rw [nQ hj]
   split
   ·simp [Cl.zero]
   ·have:=h3 _ (zgm hj);omega
 ·exact ⟨by omega,by omega,λc hc=>by have:=h3 c hc;omega⟩
theorem aB9 {rb:Bool} {s:Sc} {b:Bs} {z:R2} {who:Dt} {M:List R2} {m:Nat} (h:OpW m b):OpW (m+1) (vC rb s b z who M).1:=by
 unfold vC
 split
 ·split
  ·split
   ·refine ⟨by rw [aeV];exact h.1,λd hd=> ?_⟩
    unfold xR at hd
    obtain ⟨k,hk,rfl⟩:=List.mem_map.1 hd
    have hk:=List.mem_range.1 hk
    obtain ⟨q1,q2⟩:=h.2 _ (zgm hk)
    refine ⟨?_,λx hx=> ?_⟩
    ·show (qK s b (inR M) who k).length<=_
     unfold qK
     rw [zql,getElem!_pos b k hk]
     have:=List.length_filter_le (λl:Ln=> !inR M ((k:Int),l.key)) b[k].lines
     omega
    ·obtain ⟨l,hl,_,rfl⟩:=aiH.1 hx
     rw [getElem!_pos b k hk] at hl
     exact aFm (q2 l hl)
   ·exact OpW.nil _
  ·exact OpW.nil _
 ·exact OpW.nil _
theorem nZ {l:List Pt} {k:Nat} {x:Pt}:(dP l k [x]).length=l.length+1:=by
 unfold dP
 simp only [zla,zlt,zld,List.length_singleton]
 omega
def zB (o:Ot):Prop:=o.row.length<=20/\o.val.s.size<=40/\∀v∈o.row,v.s.size<=40
theorem ajM (c:Cl) (n:Int):(sX c n).1.parts.length=0:=by
 unfold sX
 split
 ·rfl
 ·split
  ·rfl
  ·split<;>rfl
theorem ayY (w:Wr) (c:Cl) (o:Ot) {m:Nat} (hc:c.parts.length<=m) (ho:zB o):(eV w c o).1.parts.length<=m+40:=by
 unfold eV
 have h1:=ajM c o.val.n
 have h2:=List.length_filter_le (rG w.dot w.knew) c.parts
 have h3:=List.length_filter_le (rO o.val.n w.dot w.knew) c.parts
 have h4:=T.type_len c o.val.s w.who ⟨o.after,o.at_⟩
 have h5:=T.eraseP_len ⟨o.after,o.at_⟩ c
 have h6:=ho.2.1
 have h7:(gW c o.val w.dot w.knew).parts.length<=c.parts.length+1:=by unfold gW;simp only;rw [nZ];omega
 have h8:(nD c o.val.n w.dot).parts.length<=c.parts.length+1:=by
  unfold nD
  split
  ·omega
  ·simp only;rw [nZ];omega
 have h9:(rL c o.val.n w.dot w.knew).parts.length<=c.parts.length:=h3
 repeat' split
 all_goals ((try dsimp only);first|omega|simp;done)
theorem asX (w:Wr) (k:Int) (v:Vl) (hv:v.s.size<=40):(kG w k v).1.parts.length<=40:=by
 unfold kG
 have h1:=ajM (oM 0) v.n
 have h4:=T.type_len ⟨4,Vl.zero,[]⟩ v.s w.who T.Nm.zero
 have h7:(gW ⟨k,Vl.zero,[]⟩ v w.dot w.knew).parts.length<=1:=by unfold gW;simp only;rw [nZ];simp
 have h8:(nD ⟨k,Vl.zero,[]⟩ v.n w.dot).parts.length<=1:=by
  unfold nD
  split
  ·simp
  ·simp only;rw [nZ];simp
 simp only [List.length_nil] at h4
 repeat' split
 all_goals ((try dsimp only);first|omega|simp;done)
theorem aEp {w:Wr} {t:Tb} {o:Ot} (ho:zB o) (k:Nat):LnW (k+1) (eX w t o.row):=by
 refine ⟨by simp only [eX,List.length_singleton];omega,by unfold eX;simp only [zql,List.length_range];exact ho.1,λc hc=> ?_⟩
 unfold eX at hc
 obtain ⟨i,hi,rfl⟩:=List.mem_map.1 hc
 have hi:=List.mem_range.1 hi
 have:=asX w t.cols[i]!.kind o.row[i]! (by rw [getElem!_pos o.row i hi];exact ho.2.2 _ (zgm hi))
 unfold nX
 omega
theorem aGD {w:Wr} {o:Ot} {l:Ln} {k:Nat} (ho:zB o) (h:LnW k l):LnW (k+1) (pS w o l):=by
 obtain ⟨h1,h2,h3⟩:=h
 have hw:=adE ⟨l.key,l.cells_.set o.col.toNat (eV w l.cells_[o.col.toNat]! o).1,l.by_⟩ w.dot
 have hc:(pS w o l).cells_=l.cells_.set o.col.toNat (eV w l.cells_[o.col.toNat]! o).1:=by unfold pS dE;split<;>rfl
 refine ⟨?_, ?_,λc hc'=> ?_⟩
 ·show (dE _ _).by_.length<=_
  simp only at hw;omega
 ·rw [hc,List.length_set];exact h2
 ·rw [hc] at hc'
  rcases List.mem_or_eq_of_mem_set hc' with q|rfl
  ·have:=h3 c q;omega
  ·by_cases hj:o.col.toNat<l.cells_.length
   ·rw [getElem!_pos l.cells_ _ hj]
    have:=ayY w l.cells_[o.col.toNat] o (h3 _ (zgm hj)) ho
    omega
   ·rw [List.set_eq_of_length_le (by omega)] at hc'
    have:=h3 _ hc';omega
theorem aFr {w:Wr} {s:Sc} {b:Bs} {o:Ot} {k:Nat} (h:OpW k b) (ho:zB o):OpW (k+1) (dH w s b o).1:=by
 unfold dH
 split
 ·exact OpW.nil _
 ·split
  ·unfold aDI
   split
   ·exact OpW.nil _
   ·split
    ·exact OpW.nil _
    ·split
     ·exact OpW.nil _
     ·exact aDR h _ (aEp ho k)
  ·split
   ·exact aB9 h
   ·unfold arE
    cases hg:eD (aN b o.table) o.key with
    |none=>exact OpW.nil _
    |some l=>
     simp only
     split
     ·exact OpW.nil _
     ·exact aDR h _ (aGD ho ((yG h _).2 l (afU hg)))
theorem aoH {tx:Cl->Int} {t:Tb} {L:List Ln} (h:sP tx t L=true) (a:Ln) (hl:(mC L a).length<=2000) (ha:jY tx t a=true):sP tx t (mC L a)=true:=by
 obtain ⟨h1,h2,h3⟩:=gA.1 h
 refine gA.2 ⟨hl,λx hx=> ?_,h3.put a⟩
 rcases (afS h3 a x).1 hx with rfl|w
 ·exact ha
 ·exact h2 x w.1
theorem aEi (b:Bs) (k:Int) (a:Ln):oY b k a=iH b k (mC (aN b k) a):=rfl
theorem aeE {s:Sc} {b:Bs} {k:Nat} (h:cE T.rightP s b=true) (hk:k<s.length) {a:Ln} (hl:(mC (aN b k) a).length<=2000) (ha:LineOK T.rightP s[k] a):cE T.rightP s (oY b k a)=true:=by
 obtain ⟨⟨h1,h2⟩,_⟩:=bU.1 h
 have hok:okT b (k:Int)=true:=by unfold okT;simp only [zba,zde];omega
 rw [aEi,avK h hok,Int.toNat_natCast,getElem!_pos s k hk]
 have hd:=abI h hok
 rw [Int.toNat_natCast,getElem!_pos s k hk] at hd
 exact aoH hd a hl (yB.2 ha)
theorem abX {L:List Ln} {a:Ln} (h:(eD L a.key).isSome=true):(mC L a).length=L.length:=by
 rcases sU L a.key with ⟨j,hj,e,_⟩|⟨j,hj,e,q,_⟩
 ·unfold mC;rw [e,zp rfl,List.length_set]
 ·rw [q] at h;cases h
theorem aF3 {s:Sc} (h:cM s=0) {k:Nat} (hk:k<s.length):s[k].cols[0]!.kind=0/\s[k].cols[0]!.type_=1/\s[k].cols[0]!.null=false:=by
 have h3:=fM h hk (lk3 s[k]!) (by simp [lks])
 rw [getElem!_pos s k hk] at h3
 unfold lk3 at h3
 split at h3
 ·cases h3
 ·rename_i q2
  rw [not_or] at q2
  have h4:mA s[k].cols[0]! =true:=by simpa using q2.1
  unfold mA at h4
  rw [zba,zde,zde] at h4
  exact ⟨h4.1,h4.2,by simpa using q2.2⟩
theorem aGU {s:Sc} (h:cM s=0) {k:Nat} (hk:k<s.length) {j:Nat} (hj:j<s[k].cols.length):0<=s[k].cols[j].kind/\s[k].cols[j].kind<=4:=by
 have h2:=fM h hk (lk2 s[k]!) (by simp [lks])
 rw [getElem!_pos s k hk] at h2
 unfold lk2 at h2
 have:=uO (show orI ((List.range s[k].cols.length).map (akU s[k]))=0 from h2) _ (List.mem_map.2 ⟨j,List.mem_range.2 hj,rfl⟩)
 unfold akU arZ at this
 rw [getElem!_pos s[k].cols j hj] at this
 split at this
 ·cases this
 ·rename_i q;simp only [not_or] at q;omega
theorem auP {w:Wr} {s:Sc} (h:cM s=0) {k:Nat} (hk:k<s.length) {o:Ot} (hw:rV w=true) (hr:aqB s[k] o=0) (he:lJ w s[k] o.row=0):LineOK T.rightP s[k] (eX w s[k] o.row):=by
 unfold aqB at hr
 split at hr
 ·cases hr
 split at hr
 ·rename_i q;exact absurd hr q
 rename_i q1 q2
 split at hr
 ·cases hr
 rename_i q3
 simp only [not_or,Bool.not_eq_false,Decidable.not_not] at q1 q2 q3
 have hlen:=aqF q2
 have hv:∀j,j<o.row.length->lC s[k].cols[j]! o.row[j]! =0:=λj hj=>by
  unfold eG at q2
  rw [zp hlen.symm] at q2
  exact fP.1 q2 j (List.mem_range.2 hj)
 have hf:∀j (hj:j<o.row.length),jV T.rightP (nX w s[k] o.row j).1=true/\(nX w s[k] o.row j).1.kind=s[k].cols[j]!.kind:=λj hj=>by
  have h0:=fP.1 he j (List.mem_range.2 hj)
  have hc:=aGU h hk (j:=j) (by omega)
  refine ayG hw ?_ (hv j hj) h0
  rw [getElem!_pos s[k].cols j (by omega)];exact hc
 have hl:(eX w s[k] o.row).cells_.length=o.row.length:=by unfold eX;simp
 have hg:∀j (hj:j<(eX w s[k] o.row).cells_.length),(eX w s[k] o.row).cells_[j]=(nX w s[k] o.row j).1:=λj hj=>by
  unfold eX
  show (List.map _ _)[j]'(by simpa [eX] using hj)=_
  rw [List.getElem_map,List.getElem_range]
 have hk0:=q3.2
 unfold anB at hk0
 simp only [zba,zde] at hk0
 have hpos:0<o.row.length:=by omega
 refine ⟨hk0.1,by show o.row[0]!.n<_;omega,by rw [hl];exact hlen,λj hj=> ?_,λc hc=> ?_, ?_, ?_⟩
 ·rw [hg j hj];exact (hf j (by omega)).2
 ·obtain ⟨j,hj,rfl⟩:=zgo hc
  rw [hg j hj];exact (hf j (by omega)).1
 ·rw [getElem!_pos _ 0 (by rw [hl];exact hpos),hg 0 (by rw [hl];exact hpos)]
  obtain ⟨c1,c2,c3⟩:=aF3 h hk
  have hv0:=hv 0 hpos
  unfold nX kG
  rw [zp c1]
  show o.row[0]! =⟨1,o.row[0]!.n,e0⟩
  unfold lC at hv0
  split at hv0
  ·cases hv0
  split at hv0
  ·cases hv0
  split at hv0
  ·cases hv0
  rename_i r1 r2 r3
  have hk1:o.row[0]!.kind=1:=by
   have hkc:dY s[k].cols[0]! =1:=by unfold dY;rw [zp (.inl c1),c2]
   by_cases z:o.row[0]!.kind=0
   ·exact absurd ⟨z, .inl c1,c3⟩ r2
   ·exact Classical.byContradiction λy=>r3 ⟨z,by rw [hkc];exact y⟩
  have hvr:bB o.row[0]! =true:=by simpa using r1
  unfold bB at hvr
  rw [zn (by omega),zp hk1] at hvr
  simp only [zba,zde] at hvr
  rw [Vl.ext_iff]
  exact ⟨hk1,rfl,hvr.1.1⟩
 ·refine abA.2 ⟨λx hx=> ?_, ?_⟩
  ·have hx:x∈[w.dot]:=hx
   rw [zms.1 hx];exact pU hw
  ·exact List.pairwise_singleton _ _
theorem atB {w:Wr} {t:Tb} {o:Ot} {l:Ln} (hw:rV w=true) (hL:LineOK T.rightP t l) (hr:tJ t o=0) (h0:(eV w l.cells_[o.col.toNat]! o).2=0):LineOK T.rightP t (pS w o l):=by
 unfold tJ at hr
 split at hr
 ·cases hr
 split at hr
 ·cases hr
 split at hr
 ·cases hr
 split at hr
 ·rename_i q;exact absurd hr q
 rename_i q1 q2 q3 q4
 simp only [not_or,Bool.not_eq_false,Decidable.not_not] at q1 q2 q3 q4
 obtain ⟨k1,k2,ln,kd,ce,ze,ds⟩:=hL
 have hj:o.col.toNat<l.cells_.length:=by omega
 rw [<-kd _ hj] at q3
 rw [getElem!_pos l.cells_ _ hj] at h0
 obtain ⟨t1,t2⟩:=aDz hw (ce _ (zgm hj)) q3 q4 h0
 have hc:(pS w o l).cells_=l.cells_.set o.col.toNat (eV w l.cells_[o.col.toNat] o).1:=by
  unfold pS dE
  rw [getElem!_pos l.cells_ _ hj]
  split<;>rfl
 have hkey:(pS w o l).key=l.key:=by unfold pS dE;split<;>rfl
 refine ⟨by rw [hkey];exact k1,by rw [hkey];exact k2,by rw [hc,List.length_set];exact ln,λj hjj=> ?_,λc hcc=> ?_, ?_,abN ds (pU hw)⟩
 ·simp only [hc,List.getElem_set]
  simp only [hc,List.length_set] at hjj
  split
  ·rename_i e;subst e;rw [t2];exact kd _ hj
  ·exact kd j hjj
 ·rw [hc] at hcc
  rcases List.mem_or_eq_of_mem_set hcc with q|rfl
  ·exact ce c q
  ·exact t1
 ·rw [hkey,hc,<-ze,getElem!_pos _ 0 (by rw [List.length_set];omega),List.getElem_set,zn (by omega),getElem!_pos l.cells_ 0 (by omega)]
theorem aaJ {tx:Cl->Int} {s:Sc} {b:Bs} (hg:cE tx s b=true) {k:Nat} (hk:k<s.length) {l:Ln} (hl:l∈aN b k):LineOK tx s[k] l:=by
 obtain ⟨⟨h1,h2⟩,_⟩:=bU.1 hg
 have hkb:k<b.length:=by omega
 have hl:l∈b[k].lines:=by
  unfold aN okT at hl
  rw [zp (by simp;omega),Int.toNat_natCast,getElem!_pos b k hkb] at hl
  exact hl
 have hL:=vZ hg hkb hl
 rwa [getElem!_pos s k hk] at hL
theorem vH {s:Sc} {o:Ot} (h:fN s o=0):∃k:Nat,o.table=k/\∃hk:k<s.length,(o.kind=1->aqB s[k] o=0)/\(o.kind≠1->o.kind≠8->tJ s[k] o=0):=by
 unfold fN at h
 split at h
 ·cases h
 split at h
 ·cases h
 rename_i q1 q2
 refine ⟨o.table.toNat,by omega,by omega,λe=> ?_,λe1 e8=> ?_⟩
 ·rw [zp e,getElem!_pos s _ (by omega)] at h;exact h
 ·rw [zn e1] at h
  split at h
  ·cases h
  rw [getElem!_pos s _ (by omega)] at h;exact h
theorem kE {w:Wr} {s:Sc} {b:Bs} {o:Ot} (hw:rV w=true) (hb:cE T.rightP s b=true) (h0:(dH w s b o).2=0):cE T.rightP s (dH w s b o).1=true:=by
 have hs:=(bU.1 hb).1.1
 unfold dH at*
 by_cases hr:fN s o=0
 ·rw [zn (by simp [hr])] at h0⊢
  obtain ⟨k,hk,hks,r1,r2⟩:=vH hr
  by_cases h1:o.kind=1
  ·rw [zp h1] at h0⊢
   unfold aDI at*
   split at h0
   ·cases h0
   split at h0
   ·cases h0
   rw [hk,Int.toNat_natCast,getElem!_pos s k hks] at h0⊢
   split at h0
   ·rename_i q;exact absurd h0 q
   rename_i q1 q2 q3
   rw [hk] at q1 q2
   rw [zn q1,zn q2,zn q3]
   refine aeE hb hks ?_ (auP hs hks hw (r1 h1) (zdn q3))
   have:=yU (aN b (k:Int)) (eX w s[k] o.row)
   omega
  ·rw [zn h1] at h0⊢
   by_cases h8:o.kind=8
   ·rw [zp h8] at h0⊢
    unfold vC at*
    rw [zp rfl] at h0⊢
    split at h0
    ·rename_i q;rw [zp q]
     split at h0
     ·rename_i q2;rw [zp q2];exact aBi hb (pU hw)
     ·cases h0
    ·cases h0
   ·rw [zn h8] at h0⊢
    unfold arE at*
    rw [hk] at h0⊢
    cases hg:eD (aN b (k:Int)) o.key with
    |none=>rw [hg] at h0;cases h0
    |some l=>
     rw [hg] at h0
     simp only at h0⊢
     split at h0
     ·rename_i q;exact absurd h0 q
     rename_i q
     rw [zn q]
     have hL:=aaJ hb hks (afU hg)
     obtain ⟨_,hkey⟩:=(aqK (alU hb (k:Int))).1 hg
     refine aeE hb hks ?_ (atB hw hL (r2 h1 h8) (zdn q))
     have hkk:(pS w o l).key=l.key:=by unfold pS dE;split<;>rfl
     rw [abX (by rw [hkk,hkey,hg];rfl)]
     have hok:okT b (k:Int)=true:=by unfold okT;simp only [zba,zde];have:=(bU.1 hb).1.2;omega
     exact (gA.1 (abI hb hok)).1
 ·rw [zp hr] at h0
  exact absurd h0 hr
end
section
attribute [local irreducible] Ev PWp
set_option maxRecDepth 10000
set_option maxHeartbeats 4000000
def aBD (l:Ln) (e:Int):PV:= .tup [.agg l.cells,(PV.val (Value.int .i64 (e)))]
theorem aGt (e:Int):Wk (.tup [.agg [(PV.val (Value.int .i64 (0))), .val (.slice none 0 0), .val (.slice none 0 0)],(PV.val (Value.int .i64 (e)))]) (aBD Ln.zero e):=Wk.tup (.cons (.agg (.cons (zwr _) (.cons Wk.nil (.cons Wk.nil .nil)))) (.cons (zwr _) .nil))
structure RwI (w:Wr) (t:Tb) (r:List Vl):Prop where
 pos:0<r.length
 len:r.length<=t.cols.length
 l20:r.length<=1000
 n:∀v∈r,inL v.n
 s:∀v∈r,v.s.size<1000000
 kn:w.knew.length<1000000000000
theorem aCp (w:Wr) (t:Tb) (r:List Vl) (h:RwI w t r) (st:aI):PC Tryz.prog 154 [.agg w.cells, .agg t.cells, .seq (r.map Vl.cells)] st λR S=>(lJ w t r≠0/\R= .tup [.agg [(.val (.int .i64 0)), .val (.slice none 0 0), .val (.slice none 0 0)],(.val (.int .i64 (lJ w t r)))]/\S=st)\/(lJ w t r=0/\∃id,R= .tup [.agg [(.val (.int .i64 (r[0]!.n))), .vec id 5 0 r.length, .seq [w.dot.cells]],(.val (.int .i64 0))]/\st id=none/\S=upd st id (some (.arr 80 ((eX w t r).cells_.map Cl.cells)))):=by
 have hd:=iJ w
 have hpos:=h.pos
 have hr0:=getElem!_pos r 0 hpos
 have hL:(eX w t r).cells_.length=r.length:=by unfold eX;simp
 have hAt:∀i (hi:i<r.length),(eX w t r).cells_[i]'(by rw [hL];exact hi)=(nX w t r i).1:=λi hi=>by
  unfold eX
  show (List.map _ _)[i]'(by simpa using hi)=_
  rw [List.getElem_map,List.getElem_range]
 have hlE:lJ w t r=dT (λi=>(nX w t r i).2) (List.range r.length):=rfl
 have hfr:=λi (hi:i<r.length)=>apC w t.cols[i]!.kind r[i]! (by rw [getElem!_pos r i hi];exact h.n _ (zgm hi)) (by rw [getElem!_pos r i hi];exact h.s _ (zgm hi)) h.kn
 have hlen:=h.len
 have hl20:=h.l20
 rw [hr0]
 generalize (eX w t r).cells_=N at*
 generalize lJ w t r=E at*
 refine cB aF Tryz.func154 (by kernel_rfl) rfl rfl rfl rfl ?_
 focus ((try apply wO pk;rfl);(repeat' first|show Cn _;constructor|apply wE pk;rfl;rfl|apply wD pk [] [];kernel_rfl;rfl;rfl|(apply aH;rfl;rfl;rfl;(intro _;apply hd<;>first|assumption|omega);rotate_left;rfl;rfl)|apply aP pk;(iterate 6 rfl);rotate_left;rfl;(intro hw;rfl);(intro hw;apply aJ<;>omega);(intro _;rfl);rfl|intros;(try simp only [zql]);omega))
 refine aBH 8 80 5 [_] rfl rfl rfl (λid hid=> ?_)
 refine aK (X:={x:Nat×Nat//x.1<=r.length/\st x.2=none/\∀j<x.1,(nX w t r j).2=0}) (λi=>((((((((St.nil 52 (upd st i.1.2 (some (.arr 80 ((N.take i.1.1).map Cl.cells))))).var 3 113 (w.cells)).var 4 121 (t.cells)).var 6 67 ([(PV.val (Value.int .i64 (0))), .val (.slice none 0 0), .val (.slice none 0 0)])).var 8 67 ([(PV.val (Value.int .i64 (r[0].n))), .vec i.1.2 5 0 i.1.1, .seq [w.dot.cells]])).pv 21 (.seq (r.map Vl.cells))).pv 22 ((PV.val (Value.int .i64 (((r.map Vl.cells).length:Nat)))))).pv 23 ((PV.val (Value.int .i64 ((i.1.1:Nat))))))) (λi=>r.length-i.1.1) ⟨(0,id),by simp,hid,by simp⟩ ?_ (λi=> ?_)
 ·dsimp only
  (((repeat (first|refine Sub.pv ?_ rfl|refine Sub.var ?_ rfl rfl));(exact Sub.nil _ _ _ (zsr _) rfl)))
 obtain ⟨⟨i,id⟩,hi,hid,hI⟩:=i
 simp only at hi hid hI
 dsimp only
 by_cases hend:r.length<=i
 ·obtain rfl:i=r.length:=by omega
  rw [ztl (by omega)]
  have hE:E=0:=by rw [hlE];exact fP.2 λj hj=>hI j (List.mem_range.1 hj)
  (try apply wO pk;rfl);(repeat' first|show Cn _;constructor|apply wC pk;rfl;rfl|refine aB rfl ?_ ?_<;>intro h<;>(try simp at h)<;>try omega|(try refine aC ?_);((refine ⟨_,_,_,rfl,zwr _,zsr _, ?_⟩;(exact .inr ⟨hE,id,rfl,hid,rfl⟩);done)))
 have hil:i<r.length:=by omega
 have hic:i<t.cols.length:=by omega
 have hAt:=hAt i hil
 have hfr:=hfr i hil
 rw [getElem!_pos t.cols i hic,getElem!_pos r i hil] at hfr
 have hfe:nX w t r i=kG w t.cols[i].kind r[i]:=by unfold nX;rw [getElem!_pos t.cols i hic,getElem!_pos r i hil]
 rw [<-hfe] at hfr
 have hlT:(N.take i).length=i:=by rw [zlt];omega
 have e:N.take (i+1)=N.take i++[(nX w t r i).1]:=by rw [List.take_succ_eq_append_getElem (by omega),hAt]
 have hup:(nX w t r i).2=0->∀j<i+1,(nX w t r j).2=0:=λq j hj=>by
  rcases zls.1 hj with z|z
  ·exact hI j z
  ·subst z;exact q
 have hEi:(nX w t r i).2≠0->E=(nX w t r i).2:=λq=>by
  rw [hlE]
  have hlr:i<(List.range r.length).length:=by rw [List.length_range];exact hil
  have:=xZ (f:=λi=>(nX w t r i).2) (l:=List.range r.length) (i:=i) hlr (λj hj=>by rw [List.getElem_range];exact hI j hj) (by rw [List.getElem_range];exact q)
  rw [this,List.getElem_range]
 generalize nX w t r i=R at*
 obtain ⟨c,e'⟩:=R
 dsimp only at e hup hEi
 unfold xX at hfr
 dsimp only at hfr
 by_cases hz:e'=0
 ·have hu:=hup hz
  (try apply wO pk;rfl);(repeat' first|show Cn _;constructor|apply wC pk;rfl;rfl|apply wE pk;rfl;rfl|apply wD pk [] [];kernel_rfl;rfl;rfl|refine aB rfl ?_ ?_<;>intro h<;>(try simp at h)<;>try omega|(apply aH;rfl;rfl;rfl;(intro _;apply hfr<;>first|assumption|omega);rotate_left;rfl;rfl)|apply aP pk;(iterate 6 rfl);rotate_left;rfl;(intro hw;rfl);(intro hw;apply aJ<;>omega);(intro _;rfl);rfl|(apply apV pk (f:=Cl.cells) [c] 64;(iterate 9 rfl);(exact aA _ _ _);(omega);exact λ_=>rfl;exact λ_=>rfl;exact aqJ;((focus (simp;omega)));((focus (simp;omega)));rfl;intro id' hid')|(refine ⟨⟨(i+1,id'),by simp only;omega,iL hid',hu⟩, ?_,by simp only;omega⟩;((dsimp only;try rw [e]));(((repeat (first|refine Sub.pv ?_ rfl|refine Sub.var ?_ rfl rfl));(exact Sub.nil _ _ _ (cR ‹_›) rfl))))|intros;(try simp only [zql]);omega)
 ·have hE:=hEi hz
  subst hE
  have hne:=hz
  (try apply wO pk;rfl);(repeat' first|refine aC ?_;exact ⟨_,_,st,rfl,zwr _,bN (zsr _) hid, .inl ⟨hne,rfl,rfl⟩⟩|show Cn _;constructor|apply wC pk;rfl;rfl|apply wE pk;rfl;rfl|apply wD pk [] [];kernel_rfl;rfl;rfl|refine aB rfl ?_ ?_<;>intro h<;>(try simp at h)<;>try omega|(apply aH;rfl;rfl;rfl;(intro _;apply hfr<;>first|assumption|omega);rotate_left;rfl;rfl)|apply aP pk;(iterate 6 rfl);rotate_left;rfl;(intro hw;rfl);(intro hw;apply aJ<;>omega);(intro _;rfl);rfl)
theorem aoV (w:Wr) (t:Tb) (r:List Vl) (h:RwI w t r):PF Tryz.prog 154 [.agg w.cells, .agg t.cells, .seq (r.map Vl.cells)] (if lJ w t r≠0 then aBD Ln.zero (lJ w t r) else aBD (eX w t r) 0):=λst=>
 gN (sz:=5) (aCp w t r h st) λp st' h=>by
  rcases h with ⟨h1,rfl,rfl⟩|⟨h1,id,rfl,h3,rfl⟩
  ·rw [zp h1]
   exact .inr ⟨_,_,aGt _,zsr _,rfl,rfl⟩
  ·rw [zn (by simp [h1])]
   refine .inl ⟨id,80,(eX w t r).cells_.map Cl.cells,_,st,aA _ _ _,yI, .tup (.cons (.agg (.cons .refl (.cons (gL (by simp [eX])) (.cons .refl .nil)))) (.cons .refl .nil)),cY h3,rfl,rfl⟩
def aDO (w:Wr) (s:Sc) (b:Bs) (o:Ot):Bs×Int:=if (eD (aN b o.table) o.row[0]!.n).isSome=true then (b,8) else if (aN b o.table).length>=2000 then (b,2) else if lJ w s[o.table.toNat]! o.row≠0 then (oY b o.table Ln.zero,lJ w s[o.table.toNat]! o.row) else (oY b o.table (eX w s[o.table.toNat]! o.row),0)
def aC6 (w:Wr) (b:Bs) (o:Ot):Bs×Int:=match eD (aN b o.table) o.key with
 |none=>(b,4)
 |some l=>if (eV w l.cells_[o.col.toNat]! o).2≠0 then (b,(eV w l.cells_[o.col.toNat]! o).2) else (oY b o.table (pS w o l),0)
def aoF (w:Wr) (s:Sc) (b:Bs) (o:Ot):Bs×Int:=if o.kind=1 then aDO w s b o else if o.kind=8 then vC true s b (o.table,o.key) w.dot (tG s b (o.table,o.key)) else aC6 w b o
theorem aBv {w:Wr} {s:Sc} {b:Bs} {o:Ot} (h:fN s o=0):dH w s b o=if (aoF w s b o).2≠0 then ([],(aoF w s b o).2) else aoF w s b o:=by
 unfold dH aoF
 rw [zn (by simp [h])]
 by_cases h1:o.kind=1
 ·simp only [zp h1]
  unfold aDI aDO
  split
  ·rfl
  ·split
   ·rfl
   ·split
    ·rename_i q;simp only [zp q]
    ·rfl
 ·simp only [zn h1]
  by_cases h8:o.kind=8
  ·simp only [zp h8]
   unfold vC
   repeat' split
   all_goals first|rfl|(rename_i q;exact absurd rfl q)
  ·simp only [zn h8]
   unfold arE aC6
   cases eD (aN b o.table) o.key with
   |none=>rfl
   |some l=>
    simp only
    split
    ·rename_i q;simp only [zp q]
    ·rfl
theorem acQ {v:Vl} (h:bB v=true):inL v.n:=by
 unfold bB at h
 unfold inL
 split at h
 ·simp at h;omega
 ·split at h
  ·simp at h;omega
  ·split at h
   ·simp at h;omega
   ·cases h
structure DoB (k:Nat) (w:Wr) (s:Sc) (b:Bs) (o:Ot):Prop where
 sb:ScB s
 len:s.length<=20
 bs:OpW k b
 k20:k<=20
 kn:w.knew.length<1000000000000
 few:zB o
theorem DoB.S {k:Nat} {w:Wr} {s:Sc} {b:Bs} {o:Ot} (h:DoB k w s b o):BsS 200 b:=h.bs.S h.k20
theorem asG {n:Nat} {b:Bs} (h:BsS n b) (hn:n<=1000):b.length<100000000000/\∀d∈b,d.lines.length<100000000000:=⟨by have:=h.1;omega,λd hd=>by have:=(h.2 d hd).1;omega⟩
theorem aDf {b:Bs} {k:Nat} (hk:k<b.length):aN b (k:Int)=b[k].lines:=by
 unfold aN okT
 rw [zp (by simp;omega),Int.toNat_natCast,getElem!_pos b k hk]
section
variable {n:Nat} {w:Wr} {s:Sc} {b:Bs} {o:Ot} (hD:DoB n w s b o) (hb:cE T.rightP s b=true)
include hD hb
theorem aEH (hr:fN s o=0) (h1:o.kind=1):PF Tryz.prog 101 [.agg w.cells, .agg (scC s), .agg (bsC b), .agg o.cells] (rS (aDO w s b o)):=by
 obtain ⟨k,hk,hks,r1,_⟩:=vH hr
 have hi:=r1 h1
 obtain ⟨⟨q1,q2⟩,_⟩:=bU.1 hb
 have hkb:k<b.length:=by omega
 unfold aqB at hi
 split at hi
 ·cases hi
 split at hi
 ·rename_i q;exact absurd hi q
 split at hi
 ·cases hi
 rename_i u1 u2 u3
 have u2:=zdn u2
 have hlen:=aqF u2
 have hpos:0<o.row.length:=by omega
 have hRw:RwI w s[k] o.row:=⟨hpos,by omega,by have:=hD.few.1;omega,λv hv=>by
  obtain ⟨j,hj,rfl⟩:=zgo hv
  unfold eG at u2
  rw [zp hlen.symm] at u2
  have:=fP.1 u2 j (List.mem_range.2 hj)
  unfold lC at this
  split at this
  ·cases this
  ·rename_i q
   rw [getElem!_pos o.row j hj] at q
   exact acQ (by simpa using q),λv hv=>by have:=hD.few.2.2 v hv;omega,hD.kn⟩
 have hS:=hD.S
 obtain ⟨l1,l2⟩:=asG hS (by omega)
 have hget:=vU hS (by omega) o.table o.row[0].n
 have hline:=aoV w s[k] o.row hRw
 have hput:=λa=>ahF b o.table a l1 l2
 have hlk:=aDf hkb
 have hlb:=(yG hD.bs (k:Int)).1
 have hk20:=hD.k20
 unfold aDO
 rw [getElem!_pos o.row 0 hpos]
 rw [show s[o.table.toNat]! =s[k] from by rw [hk,Int.toNat_natCast,getElem!_pos s k hks]]
 rw [show (aN b o.table).length=b[k].lines.length from by rw [hk,hlk]]
 rw [hlk] at hlb
 generalize (eD (aN b o.table) o.row[0].n).isSome=I at*
 generalize (eD (aN b o.table) o.row[0].n).getD Ln.zero=L at*
 cases I with
 |true=>
  rw [zp rfl]
  refine aG aF Tryz.func101 (by kernel_rfl) rfl rfl rfl rfl (λst=> ?_)
  (try apply wO pk;rfl);(repeat' first|show Cn _;constructor|apply wC pk;rfl;rfl|apply wE pk;rfl;rfl|apply wD pk [] [];kernel_rfl;rfl;rfl|refine aB rfl ?_ ?_<;>intro h<;>(try simp at h)<;>try omega|(refine aC ?_;refine ⟨_,_,_,rfl,zwr _,zsr _, ?_,rfl⟩;try rfl)|(apply aH;rfl;rfl;rfl;(intro _;apply hget<;>first|assumption|omega);rotate_left;rfl;rfl)|apply aP pk;(iterate 6 rfl);rotate_left;rfl;(((intro hw;rfl);(intro hw;apply aJ<;>omega);(intro _;rfl)));rfl)
 |false=>
  rw [zn (by simp),zn (by omega)]
  by_cases hE:lJ w s[k] o.row≠0
  ·rw [zp hE] at hline⊢
   have hput:=hput Ln.zero
   generalize lJ w s[k] o.row=E at*
   generalize oY b o.table Ln.zero=B at*
   unfold aBD at hline
   refine aG aF Tryz.func101 (by kernel_rfl) rfl rfl rfl rfl (λst=> ?_)
   (try apply wO pk;rfl);(repeat' first|show Cn _;constructor|apply wC pk;rfl;rfl|apply wE pk;rfl;rfl|apply wD pk [] [];kernel_rfl;rfl;rfl|refine aB rfl ?_ ?_<;>intro h<;>(try simp at h)<;>try omega|(refine aC ?_;refine ⟨_,_,_,rfl,zwr _,zsr _, ?_,rfl⟩;try rfl)|(apply aH;rfl;rfl;rfl;(intro _;(first|apply hget|apply hline|apply hput)<;>first|assumption|omega);rotate_left;rfl;rfl)|apply aP pk;(iterate 6 rfl);rotate_left;rfl;(first|(intro hw;rfl);(intro hw;apply aJ<;>omega);(intro _;rfl)|(intro hw;exact hk);(intro hw;apply aJ<;>omega);(intro _;rfl));rfl)
  ·rw [zn hE] at hline⊢
   have hput:=hput (eX w s[k] o.row)
   generalize eX w s[k] o.row=N at*
   generalize oY b o.table N=B at*
   unfold aBD at hline
   refine aG aF Tryz.func101 (by kernel_rfl) rfl rfl rfl rfl (λst=> ?_)
   (try apply wO pk;rfl);(repeat' first|show Cn _;constructor|apply wC pk;rfl;rfl|apply wE pk;rfl;rfl|apply wD pk [] [];kernel_rfl;rfl;rfl|refine aB rfl ?_ ?_<;>intro h<;>(try simp at h)<;>try omega|(refine aC ?_;refine ⟨_,_,_,rfl,zwr _,zsr _, ?_,rfl⟩;try rfl)|(apply aH;rfl;rfl;rfl;(intro _;(first|apply hget|apply hline|apply hput)<;>first|assumption|omega);rotate_left;rfl;rfl)|apply aP pk;(iterate 6 rfl);rotate_left;rfl;(first|(intro hw;rfl);(intro hw;apply aJ<;>omega);(intro _;rfl)|(intro hw;exact hk);(intro hw;apply aJ<;>omega);(intro _;rfl));rfl)
theorem aEj (h8:o.kind=8):PF Tryz.prog 101 [.agg w.cells, .agg (scC s), .agg (bsC b), .agg o.cells] (rS (vC true s b (o.table,o.key) w.dot (tG s b (o.table,o.key)))):=by
 have hd:=iJ w
 have hR:=qD hD.S (by omega) hD.sb hD.len
 rw [hb] at hR
 have hdel:PF Tryz.prog 156 [.agg (scC s), .agg (bsC b),(.val (.int .i64 o.table)),(.val (.int .i64 o.key)), .agg w.dot.cells] (rS (vC true s b (o.table,o.key) w.dot (tG s b (o.table,o.key)))):=aAE hR (λ_=>aCE hb ⟨hD.S.1,λd hd=>⟨by have:=(hD.S.2 d hd).1;omega,(hD.S.2 d hd).2⟩⟩) (o.table,o.key) w.dot
 generalize vC true s b (o.table,o.key) w.dot (tG s b (o.table,o.key))=R at*
 unfold rS at hdel
 refine aG aF Tryz.func101 (by kernel_rfl) rfl rfl rfl rfl (λst=> ?_)
 (try apply wO pk;rfl);(repeat' first|show Cn _;constructor|apply wC pk;rfl;rfl|apply wE pk;rfl;rfl|apply wD pk [] [];kernel_rfl;rfl;rfl|refine aB rfl ?_ ?_<;>intro h<;>(try simp at h)<;>try omega|(refine aC ?_;refine ⟨_,_,_,rfl,zwr _,zsr _, ?_,rfl⟩;try rfl)|(apply aH;rfl;rfl;rfl;(intro _;(first|apply hd|apply hdel)<;>first|assumption|omega);rotate_left;rfl;rfl))
theorem aDK (hr:fN s o=0) (h1:o.kind≠1) (h8:o.kind≠8):PF Tryz.prog 101 [.agg w.cells, .agg (scC s), .agg (bsC b), .agg o.cells] (rS (aC6 w b o)):=by
 obtain ⟨k,hk,hks,_,r2⟩:=vH hr
 have hc:=r2 h1 h8
 obtain ⟨⟨q1,q2⟩,_⟩:=bU.1 hb
 have hkb:k<b.length:=by omega
 have hkk:2<=o.kind/\o.kind<=7:=by
  unfold fN at hr
  split at hr
  ·cases hr
  ·omega
 have hd:=iJ w
 have hS:=hD.S
 obtain ⟨l1,l2⟩:=asG hS (by omega)
 have hget:=vU hS (by omega) o.table o.key
 have hput:=λa=>ahF b o.table a l1 l2
 have hk20:=hD.k20
 unfold aC6
 cases hg:eD (aN b o.table) o.key with
 |none=>
  rw [hg] at hget
  refine aG aF Tryz.func101 (by kernel_rfl) rfl rfl rfl rfl (λst=> ?_)
  (try apply wO pk;rfl);(repeat' first|show Cn _;constructor|apply wC pk;rfl;rfl|apply wE pk;rfl;rfl|refine aB rfl ?_ ?_<;>intro h<;>(try simp at h)<;>try omega|(refine aC ?_;refine ⟨_,_,_,rfl,zwr _,zsr _, ?_,rfl⟩;try rfl)|(apply aH;rfl;rfl;rfl;(intro _;apply hget<;>first|assumption|omega);rotate_left;rfl;rfl))
 |some l=>
 rw [hg] at hget
 have hgl:PF Tryz.prog 24 [.agg (bsC b),(.val (.int .i64 o.table)),(.val (.int .i64 o.key))] (.tup [.agg l.cells,(.val (.bool true))]):=hget
 clear hget
 have hlm:=afU hg
 have hLW:=(yG hD.bs o.table).2 l hlm
 rw [hk] at hlm
 have hL:=aaJ hb hks hlm
 unfold tJ at hc
 split at hc
 ·cases hc
 split at hc
 ·cases hc
 split at hc
 ·cases hc
 split at hc
 ·rename_i q;exact absurd hc q
 rename_i u1 u2 u3 u4
 have u4:=zdn u4
 have hlen:=hL.len
 obtain ⟨j,hj⟩:∃j:Nat,o.col=j:=⟨o.col.toNat,by omega⟩
 have hjl:j<l.cells_.length:=by omega
 have hvr:bB o.val=true:=by
  unfold oP at u4
  split at u4
  ·cases u4
  ·rename_i q
   cases e:bB o.val with
   |true=>rfl
   |false=>exact absurd (.inr e) q
 have hT:TnOK w l.cells_[j] o:=⟨acQ hvr,by have:=hD.few.2.1;omega,hD.kn,by have:=hLW.2.2 _ (zgm hjl);omega⟩
 have hcl:=acU l.cells_
 have hc20:=hLW.2.1
 have hb20:=hLW.1
 have htn:=λ(id:Nat) (st:aI) hst=>aCt (w:=w) (cs:=l.cells_) (j:=j) (id:=id) (o:=o) hjl hT hkk.1 hkk.2 (st:=st) hst
 have hwr:=λN=>aaB ⟨l.key,N,l.by_⟩ w.dot (by show l.by_.length<_;omega)
 have hset:pS w o l=dE ⟨l.key,l.cells_.set j (eV w l.cells_[j] o).1,l.by_⟩ w.dot:=by unfold pS;rw [hj,Int.toNat_natCast,getElem!_pos l.cells_ j hjl]
 simp only
 rw [hset,show l.cells_[o.col.toNat]! =l.cells_[j] from by rw [hj,Int.toNat_natCast,getElem!_pos l.cells_ j hjl]]
 have hwr:=hwr (l.cells_.set j (eV w l.cells_[j] o).1)
 have hput:=hput (dE ⟨l.key,l.cells_.set j (eV w l.cells_[j] o).1,l.by_⟩ w.dot)
 have hsl:(l.cells_.set j (eV w l.cells_[j] o).1).length=l.cells_.length:=List.length_set ..
 generalize eV w l.cells_[j] o=R at*
 generalize dE ⟨l.key,l.cells_.set j R.1,l.by_⟩ w.dot=W at*
 generalize oY b o.table W=B at*
 generalize l.cells_.set j R.1=N at*
 by_cases hR:R.2≠0
 ·rw [zp hR]
  refine aG aF Tryz.func101 (by kernel_rfl) rfl rfl rfl rfl (λst=> ?_)
  (try apply wO pk;rfl);(repeat' first|refine aC ?_;exact ⟨_,_,st,rfl,zwr _,bN (bN (zsr _) hid) hid,rfl,rfl⟩|apply wD pk [7] [];kernel_rfl;rfl;rfl|show Cn _;constructor|apply wC pk;rfl;rfl|apply wE pk;rfl;rfl|refine aB rfl ?_ ?_<;>intro h<;>(try simp at h)<;>try omega|(apply aH;rfl;rfl;rfl;(intro _;(apply hgl)<;>first|assumption|omega);rotate_left;rfl;rfl)|apply ixA pk;(iterate 5 rfl);rotate_left;rfl;(intro hw;(exact (show _=((j:Nat):Int) from by omega)));(intro hw;(omega));rfl;(exact Nat.zero_add _)|(apply cD;rfl;rfl;(apply (hcl _ (by omega))<;>first|exact aA _ _ _|assumption|omega|(fail));rfl;rfl;rfl;intro _ st' hR;obtain ⟨id,rfl,hid,rfl⟩:=hR)|(apply cD;rfl;rfl;(apply (htn id _ (aA _ _ _))<;>first|exact aA _ _ _|assumption|omega|(fail));rfl;rfl;rfl;intro _ st' hR;obtain ⟨rfl,rfl⟩:=hR))
 ·rw [zn hR]
  have hzz:=λid=>(show FzL id 5 (N.map Cl.cells) [.agg [(PV.val (Value.int .i64 (l.key))), .vec id 5 0 l.cells_.length, .seq (l.by_.map Dt.cells)], .agg w.dot.cells] [.agg [(PV.val (Value.int .i64 (l.key))), .seq (N.map Cl.cells), .seq (l.by_.map Dt.cells)], .agg w.dot.cells] from .cons (.agg (.cons .refl (.cons (gL hsl) (.cons .refl .nil)))) (.cons .refl .nil))
  refine aG aF Tryz.func101 (by kernel_rfl) rfl rfl rfl rfl (λst=> ?_)
  (try apply wO pk;rfl);(repeat' first|refine aC ?_;exact ⟨_,_,st,rfl,zwr _,bN (bN (bN (zsr _) hid) hid) hid,rfl,rfl⟩|apply wDO pk [0,1,2,3,4,5,6,7,8] [7] [] [7] [];rfl;rfl;kernel_rfl;rfl;rfl|apply wDO pk [0,1,2,3,4,5,6,7,8,9] [6] [] [6] [];rfl;rfl;kernel_rfl;rfl;rfl|show Cn _;constructor|apply wC pk;rfl;rfl|apply wE pk;rfl;rfl|refine aB rfl ?_ ?_<;>intro h<;>(try simp at h)<;>try omega|(apply aH;rfl;rfl;rfl;(intro _;(first|apply hgl|apply hd|apply hput)<;>first|assumption|omega);rotate_left;rfl;rfl)|apply ixA pk;(iterate 5 rfl);rotate_left;rfl;(intro hw;(exact (show _=((j:Nat):Int) from by omega)));(intro hw;(omega));rfl;(exact Nat.zero_add _)|(apply cD;rfl;rfl;(apply (hcl _ (by omega))<;>first|exact aA _ _ _|assumption|omega|(fail));rfl;rfl;rfl;intro _ st' hR;obtain ⟨id,rfl,hid,rfl⟩:=hR)|(apply cD;rfl;rfl;(apply (htn id _ (aA _ _ _))<;>first|exact aA _ _ _|assumption|omega|(fail));rfl;rfl;rfl;intro _ st' hR;obtain ⟨rfl,rfl⟩:=hR)|(apply cD;rfl;rfl;(apply (PC.freezeZ (aA _ _ _) yI (hzz id) (hwr _))<;>first|exact aA _ _ _|assumption|omega|(fail));rfl;rfl;rfl;intro _ st' hR;obtain ⟨rfl,rfl⟩:=hR))
theorem aEW (hr:fN s o=0):PF Tryz.prog 101 [.agg w.cells, .agg (scC s), .agg (bsC b), .agg o.cells] (rS (aoF w s b o)):=by
 unfold aoF
 by_cases h1:o.kind=1
 ·rw [zp h1];exact aEH hD hb hr h1
 ·rw [zn h1]
  by_cases h8:o.kind=8
  ·rw [zp h8];exact aEj hD hb h8
  ·rw [zn h8];exact aDK hD hb hr h1 h8
end
end
section
set_option maxRecDepth 10000
set_option maxHeartbeats 4000000
variable {w v:Wr} {s:Sc} {b:Bs}
theorem iG (o:Ot) (r:List Ot):cZ w s b (o::r)=if (dH w s b o).2≠0 then ([],(dH w s b o).2) else cZ w s (dH w s b o).1 r:=rfl
theorem asN (hw:rV w=true):∀{l:List Ot} {b:Bs} {k:Nat},cE T.rightP s b=true->OpW k b->(∀o∈l,zB o)->(cZ w s b l).2=0->cE T.rightP s (cZ w s b l).1=true/\OpW (k+l.length) (cZ w s b l).1
 |[],b,k,hb,h,_,_=>⟨hb,h⟩
 |o::r,b,k,hb,h,ho,h0=>by
  unfold cZ at*
  split at h0
  ·rename_i q;exact absurd h0 q
  ·rename_i q
   rw [zn q]
   have:=asN hw (l:=r) (kE hw hb (zdn q)) (aFr (k:=k) h (ho o (by simp))) (λx hx=>ho x (List.mem_cons_of_mem _ hx)) h0
   rw [zlc]
   exact ⟨this.1,by rw [show k+(r.length+1)=k+1+r.length by omega];exact this.2⟩
theorem jS (o:Ot):∀(l:List Ot) (b:Bs),(cZ w s b l).2=0->cZ w s b (l++[o])=if (dH w s (cZ w s b l).1 o).2≠0 then ([],(dH w s (cZ w s b l).1 o).2) else ((dH w s (cZ w s b l).1 o).1,0)
 |[],b,_=>rfl
 |x::r,b,h=>by
  rw [List.cons_append]
  unfold cZ at*
  split at h
  ·rename_i q;exact absurd h q
  ·rename_i q
   rw [zn q,zn q]
   exact jS o r _ h
theorem awF {l m:List Ot} {b:Bs} (h:(cZ w s b l).2≠0):cZ w s b (l++m)=cZ w s b l:=by
 induction l generalizing b with
 |nil=>exact absurd rfl h
 |cons o r ih=>
  rw [List.cons_append,iG,iG]
  rw [iG] at h
  split
  ·rfl
  ·rename_i q
   rw [zn q] at h
   exact ih h
theorem aCw {l:List Ot} {i:Nat} (hi:i<l.length) {b:Bs} (h:(cZ w s b (l.take i)).2=0):cZ w s b (l.take (i+1))=if (dH w s (cZ w s b (l.take i)).1 l[i]).2≠0 then ([],(dH w s (cZ w s b (l.take i)).1 l[i]).2) else ((dH w s (cZ w s b (l.take i)).1 l[i]).1,0):=by
 rw [List.take_succ_eq_append_getElem hi,jS _ _ _ h]
theorem aAx {l:List Ot} {i:Nat} {b:Bs} (h:(cZ w s b (l.take i)).2≠0):cZ w s b l=cZ w s b (l.take i):=by
 have:=awF (m:=l.drop i) h
 rwa [List.take_append_drop] at this
theorem gZ :rightW w s b=true↔rightC s=0/\cE T.rightP s b=true/\rV w=true:=by
 unfold rightW mayC
 rw [zba,zba,zde,and_assoc]
end
end Go.Proofs.YtloecjjehapblaaGreatDoor
