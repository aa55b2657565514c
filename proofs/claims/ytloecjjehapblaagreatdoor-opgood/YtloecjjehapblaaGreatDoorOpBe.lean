import Derived.Test.YtloecjjehapblaaGreatDoorOpBd
import Derived.Test.YtloecjjehapblaaGreatDoorOpAx
import Derived.Test.YtloecjjehapblaaGreatDoorAbsI
set_option linter.unusedSimpArgs false
set_option linter.unusedVariables false
namespace Go.Proofs.YtloecjjehapblaaGreatDoor
open Go Go.Abs
attribute [local irreducible] Ev PWp
set_option maxRecDepth 10000
set_option maxHeartbeats 4000000
def aBD (l:Ln) (e:Int):PV:= .tup [.agg l.cells,(PV.val (Value.int .i64 (e)))]
theorem aGy (e:Int):Wk (.tup [.agg [(PV.val (Value.int .i64 (0))), .val (.slice none 0 0), .val (.slice none 0 0)],(PV.val (Value.int .i64 (e)))]) (aBD Ln.zero e):=Wk.tup (.cons (.agg (.cons (zwr _) (.cons Wk.nil (.cons Wk.nil .nil)))) (.cons (zwr _) .nil))
structure RwI (w:Wr) (t:Tb) (r:List Vl):Prop where
 pos:0<r.length
 len:r.length<=t.cols.length
 l20:r.length<=1000
 n:∀v∈r,inL v.n
 s:∀v∈r,v.s.size<1000000
 kn:w.knew.length<1000000000000
theorem aCs (w:Wr) (t:Tb) (r:List Vl) (h:RwI w t r) (st:aJ):PC Tryz.prog 154 [.agg w.cells, .agg t.cells, .seq (r.map Vl.cells)] st λR S=>(lG w t r≠0/\R= .tup [.agg [(PV.val (Value.int .i64 (0))), .val (.slice none 0 0), .val (.slice none 0 0)],(PV.val (Value.int .i64 (lG w t r)))]/\S=st)\/(lG w t r=0/\∃id,R= .tup [.agg [(PV.val (Value.int .i64 (r[0]!.n))), .vec id 5 0 r.length, .seq [w.dot.cells]],(PV.val (Value.int .i64 (0)))]/\st id=none/\S=upd st id (some (.arr 80 ((eX w t r).cells_.map Cl.cells)))):=by
 have hd:=iG w
 have hpos:=h.pos
 have hr0:=getElem!_pos r 0 hpos
 have hL:(eX w t r).cells_.length=r.length:=by unfold eX;simp
 have hAt:∀i (hi:i<r.length),(eX w t r).cells_[i]'(by rw [hL];exact hi)=(nN w t r i).1:=λi hi=>by
  unfold eX
  show (List.map _ _)[i]'(by simpa using hi)=_
  rw [List.getElem_map,List.getElem_range]
 have hlE:lG w t r=dR (λi=>(nN w t r i).2) (List.range r.length):=rfl
 have hfr:=λi (hi:i<r.length)=>aoY w t.cols[i]!.kind r[i]! (by rw [getElem!_pos r i hi];exact h.n _ (zgm hi)) (by rw [getElem!_pos r i hi];exact h.s _ (zgm hi)) h.kn
 have hlen:=h.len
 have hl20:=h.l20
 rw [hr0]
 generalize (eX w t r).cells_=N at*
 generalize lG w t r=E at*
 refine bZ aF Tryz.func154 (by kernel_rfl) rfl rfl rfl rfl ?_
 focus ((try apply wO pk;rfl);(repeat' first|show All _;constructor|show Imp _ _;constructor|apply wE pk;rfl;rfl|apply wD pk [] [];kernel_rfl;rfl;rfl|(apply aH;rfl;rfl;rfl;(intro _;apply hd<;>first|assumption|omega);rotate_left;rfl;rfl)|apply aN pk;(iterate 6 rfl);rotate_left;rfl;(intro hw;rfl);(intro hw;apply aI<;>omega);(intro _;rfl);rfl|intros;(try simp only [zql]);omega))
 refine aBH 8 80 5 [_] rfl rfl rfl (λid hid=> ?_)
 refine aK (X:={x:Nat×Nat//x.1<=r.length/\st x.2=none/\∀j<x.1,(nN w t r j).2=0}) (λi=>((((((((St.nil 52 (upd st i.1.2 (some (.arr 80 ((N.take i.1.1).map Cl.cells))))).var 3 113 (w.cells)).var 4 121 (t.cells)).var 6 67 ([(PV.val (Value.int .i64 (0))), .val (.slice none 0 0), .val (.slice none 0 0)])).var 8 67 ([(PV.val (Value.int .i64 (r[0].n))), .vec i.1.2 5 0 i.1.1, .seq [w.dot.cells]])).pv 21 (.seq (r.map Vl.cells))).pv 22 ((PV.val (Value.int .i64 (((r.map Vl.cells).length:Nat)))))).pv 23 ((PV.val (Value.int .i64 ((i.1.1:Nat))))))) (λi=>r.length-i.1.1) ⟨(0,id),by simp,hid,by simp⟩ ?_ (λi=> ?_)
 ·dsimp only
  (((repeat (first|refine Sub.pv ?_ rfl|refine Sub.var ?_ rfl rfl));(exact Sub.nil _ _ _ (zsr _) rfl)))
 obtain ⟨⟨i,id⟩,hi,hid,hI⟩:=i
 simp only at hi hid hI
 dsimp only
 by_cases hend:r.length<=i
 ·obtain rfl:i=r.length:=by omega
  rw [List.take_of_length_le (by omega)]
  have hE:E=0:=by rw [hlE];exact gD.2 λj hj=>hI j (List.mem_range.1 hj)
  (try apply wO pk;rfl);(repeat' first|show All _;constructor|apply wC pk;rfl;rfl|refine aA rfl ?_ ?_<;>intro h<;>(try simp at h)<;>try omega|(try refine aC ?_);((refine ⟨_,_,_,rfl,zwr _,zsr _, ?_⟩;(exact .inr ⟨hE,id,rfl,hid,rfl⟩);done)))
 have hil:i<r.length:=by omega
 have hic:i<t.cols.length:=by omega
 have hAt:=hAt i hil
 have hfr:=hfr i hil
 rw [getElem!_pos t.cols i hic,getElem!_pos r i hil] at hfr
 have hfe:nN w t r i=kE w t.cols[i].kind r[i]:=by unfold nN;rw [getElem!_pos t.cols i hic,getElem!_pos r i hil]
 rw [<-hfe] at hfr
 have hlT:(N.take i).length=i:=by rw [zlt];omega
 have e:N.take (i+1)=N.take i++[(nN w t r i).1]:=by rw [List.take_succ_eq_append_getElem (by omega),hAt]
 have hup:(nN w t r i).2=0->∀j<i+1,(nN w t r j).2=0:=λq j hj=>by
  rcases Nat.lt_succ_iff_lt_or_eq.1 hj with z|z
  ·exact hI j z
  ·subst z;exact q
 have hEi:(nN w t r i).2≠0->E=(nN w t r i).2:=λq=>by
  rw [hlE]
  have hlr:i<(List.range r.length).length:=by rw [List.length_range];exact hil
  have:=xZ (f:=λi=>(nN w t r i).2) (l:=List.range r.length) (i:=i) hlr (λj hj=>by rw [List.getElem_range];exact hI j hj) (by rw [List.getElem_range];exact q)
  rw [this,List.getElem_range]
 generalize nN w t r i=R at*
 obtain ⟨c,e'⟩:=R
 dsimp only at e hup hEi
 unfold xX at hfr
 dsimp only at hfr
 by_cases hz:e'=0
 ·have hu:=hup hz
  (try apply wO pk;rfl);(repeat' first|show All _;constructor|show Imp _ _;constructor|apply wC pk;rfl;rfl|apply wE pk;rfl;rfl|apply wD pk [] [];kernel_rfl;rfl;rfl|refine aA rfl ?_ ?_<;>intro h<;>(try simp at h)<;>try omega|(apply aH;rfl;rfl;rfl;(intro _;apply hfr<;>first|assumption|omega);rotate_left;rfl;rfl)|apply aN pk;(iterate 6 rfl);rotate_left;rfl;(intro hw;rfl);(intro hw;apply aI<;>omega);(intro _;rfl);rfl|(apply apV pk (f:=Cl.cells) [c] 64;(iterate 9 rfl);(exact aB _ _ _);(omega);exact λ_=>rfl;exact λ_=>rfl;exact aqJ;((focus (simp;omega)));((focus (simp;omega)));rfl;intro id' hid')|(refine ⟨⟨(i+1,id'),by simp only;omega,iH hid',hu⟩, ?_,by simp only;omega⟩;((dsimp only;try rw [e]));(((repeat (first|refine Sub.pv ?_ rfl|refine Sub.var ?_ rfl rfl));(exact Sub.nil _ _ _ (cQ ‹_›) rfl))))|intros;(try simp only [zql]);omega)
 ·have hE:=hEi hz
  subst hE
  have hne:=hz
  (try apply wO pk;rfl);(repeat' first|refine aC ?_;exact ⟨_,_,st,rfl,zwr _,bO (zsr _) hid, .inl ⟨hne,rfl,rfl⟩⟩|show All _;constructor|show Imp _ _;constructor|apply wC pk;rfl;rfl|apply wE pk;rfl;rfl|apply wD pk [] [];kernel_rfl;rfl;rfl|refine aA rfl ?_ ?_<;>intro h<;>(try simp at h)<;>try omega|(apply aH;rfl;rfl;rfl;(intro _;apply hfr<;>first|assumption|omega);rotate_left;rfl;rfl)|apply aN pk;(iterate 6 rfl);rotate_left;rfl;(intro hw;rfl);(intro hw;apply aI<;>omega);(intro _;rfl);rfl)
theorem aoR (w:Wr) (t:Tb) (r:List Vl) (h:RwI w t r):PF Tryz.prog 154 [.agg w.cells, .agg t.cells, .seq (r.map Vl.cells)] (if lG w t r≠0 then aBD Ln.zero (lG w t r) else aBD (eX w t r) 0):=λst=>
 gL (sz:=5) (aCs w t r h st) λp st' h=>by
  rcases h with ⟨h1,rfl,rfl⟩|⟨h1,id,rfl,h3,rfl⟩
  ·rw [if_pos h1]
   exact .inr ⟨_,_,aGy _,zsr _,rfl,rfl⟩
  ·rw [if_neg (by simp [h1])]
   refine .inl ⟨id,80,(eX w t r).cells_.map Cl.cells,_,st,aB _ _ _,yK, .tup (.cons (.agg (.cons .refl (.cons (gJ (by simp [eX])) (.cons .refl .nil)))) (.cons .refl .nil)),cX h3,rfl,rfl⟩
def aDS (w:Wr) (s:Sc) (b:Bs) (o:Ot):Bs×Int:=if (eH (aO b o.table) o.row[0]!.n).isSome=true then (b,8) else if (aO b o.table).length>=2000 then (b,2) else if lG w s[o.table.toNat]! o.row≠0 then (sQ b o.table Ln.zero,lG w s[o.table.toNat]! o.row) else (sQ b o.table (eX w s[o.table.toNat]! o.row),0)
def aDb (w:Wr) (b:Bs) (o:Ot):Bs×Int:=match eH (aO b o.table) o.key with
 |none=>(b,4)
 |some l=>if (eW w l.cells_[o.col.toNat]! o).2≠0 then (b,(eW w l.cells_[o.col.toNat]! o).2) else (sQ b o.table (qN w o l),0)
def aoB (w:Wr) (s:Sc) (b:Bs) (o:Ot):Bs×Int:=if o.kind=1 then aDS w s b o else if o.kind=8 then uU true s b (o.table,o.key) w.dot (sX s b (o.table,o.key)) else aDb w b o
theorem aBw {w:Wr} {s:Sc} {b:Bs} {o:Ot} (h:fX s o=0):eD w s b o=if (aoB w s b o).2≠0 then ([],(aoB w s b o).2) else aoB w s b o:=by
 unfold eD aoB
 rw [if_neg (by simp [h])]
 by_cases h1:o.kind=1
 ·simp only [if_pos h1]
  unfold aDN aDS
  split
  ·rfl
  ·split
   ·rfl
   ·split
    ·rename_i q;simp only [if_pos q]
    ·rfl
 ·simp only [if_neg h1]
  by_cases h8:o.kind=8
  ·simp only [if_pos h8]
   unfold uU
   repeat' split
   all_goals first|rfl|(rename_i q;exact absurd rfl q)
  ·simp only [if_neg h8]
   unfold arF aDb
   cases eH (aO b o.table) o.key with
   |none=>rfl
   |some l=>
    simp only
    split
    ·rename_i q;simp only [if_pos q]
    ·rfl
theorem acT {v:Vl} (h:cJ v=true):inL v.n:=by
 unfold cJ at h
 unfold inL
 split at h
 ·simp at h;omega
 ·split at h
  ·simp at h;omega
  ·split at h
   ·simp at h;omega
   ·cases h
structure DoB (k:Nat) (w:Wr) (s:Sc) (b:Bs) (o:Ot):Prop where
 sb:ScB s
 len:s.length<=20
 bs:OpW k b
 k20:k<=20
 kn:w.knew.length<1000000000000
 few:xQ o
theorem DoB.S {k:Nat} {w:Wr} {s:Sc} {b:Bs} {o:Ot} (h:DoB k w s b o):BsS 200 b:=h.bs.S h.k20
theorem asG {n:Nat} {b:Bs} (h:BsS n b) (hn:n<=1000):b.length<100000000000/\∀d∈b,d.lines.length<100000000000:=⟨by have:=h.1;omega,λd hd=>by have:=(h.2 d hd).1;omega⟩
theorem aDj {b:Bs} {k:Nat} (hk:k<b.length):aO b (k:Int)=b[k].lines:=by
 unfold aO okT
 rw [if_pos (by simp;omega),Int.toNat_natCast,getElem!_pos b k hk]
section
variable {n:Nat} {w:Wr} {s:Sc} {b:Bs} {o:Ot} (hD:DoB n w s b o) (hb:cP T.rightP s b=true)
include hD hb
theorem aEH (hr:fX s o=0) (h1:o.kind=1):PF Tryz.prog 101 [.agg w.cells, .agg (scC s), .agg (bsC b), .agg o.cells] (oD (aDS w s b o)):=by
 obtain ⟨k,hk,hks,r1,_⟩:=vA hr
 have hi:=r1 h1
 obtain ⟨⟨q1,q2⟩,_⟩:=bV.1 hb
 have hkb:k<b.length:=by omega
 unfold apX at hi
 split at hi
 ·cases hi
 split at hi
 ·rename_i q;exact absurd hi q
 split at hi
 ·cases hi
 rename_i u1 u2 u3
 have u2:=Decidable.of_not_not u2
 have hlen:=aqD u2
 have hpos:0<o.row.length:=by omega
 have hRw:RwI w s[k] o.row:=⟨hpos,by omega,by have:=hD.few.1;omega,λv hv=>by
  obtain ⟨j,hj,rfl⟩:=List.getElem_of_mem hv
  unfold eM at u2
  rw [if_pos hlen.symm] at u2
  have:=gD.1 u2 j (List.mem_range.2 hj)
  unfold sC at this
  split at this
  ·cases this
  ·rename_i q
   rw [getElem!_pos o.row j hj] at q
   exact acT (by simpa using q),λv hv=>by have:=hD.few.2.2 v hv;omega,hD.kn⟩
 have hS:=hD.S
 obtain ⟨l1,l2⟩:=asG hS (by omega)
 have hget:=vM hS (by omega) o.table o.row[0].n
 have hline:=aoR w s[k] o.row hRw
 have hput:=λa=>ahJ b o.table a l1 l2
 have hlk:=aDj hkb
 have hlb:=(yI hD.bs (k:Int)).1
 have hk20:=hD.k20
 unfold aDS
 rw [getElem!_pos o.row 0 hpos]
 rw [show s[o.table.toNat]! =s[k] from by rw [hk,Int.toNat_natCast,getElem!_pos s k hks]]
 rw [show (aO b o.table).length=b[k].lines.length from by rw [hk,hlk]]
 rw [hlk] at hlb
 generalize (eH (aO b o.table) o.row[0].n).isSome=I at*
 generalize (eH (aO b o.table) o.row[0].n).getD Ln.zero=L at*
 cases I with
 |true=>
  rw [if_pos rfl]
  refine aG aF Tryz.func101 (by kernel_rfl) rfl rfl rfl rfl (λst=> ?_)
  (try apply wO pk;rfl);(repeat' first|show All _;constructor|show Imp _ _;constructor|apply wC pk;rfl;rfl|apply wE pk;rfl;rfl|apply wD pk [] [];kernel_rfl;rfl;rfl|refine aA rfl ?_ ?_<;>intro h<;>(try simp at h)<;>try omega|(refine aC ?_;refine ⟨_,_,_,rfl,zwr _,zsr _, ?_,rfl⟩;try rfl)|(apply aH;rfl;rfl;rfl;(intro _;apply hget<;>first|assumption|omega);rotate_left;rfl;rfl)|apply aN pk;(iterate 6 rfl);rotate_left;rfl;(((intro hw;rfl);(intro hw;apply aI<;>omega);(intro _;rfl)));rfl)
 |false=>
  rw [if_neg (by simp),if_neg (by omega)]
  by_cases hE:lG w s[k] o.row≠0
  ·rw [if_pos hE] at hline⊢
   have hput:=hput Ln.zero
   generalize lG w s[k] o.row=E at*
   generalize sQ b o.table Ln.zero=B at*
   unfold aBD at hline
   refine aG aF Tryz.func101 (by kernel_rfl) rfl rfl rfl rfl (λst=> ?_)
   (try apply wO pk;rfl);(repeat' first|show All _;constructor|show Imp _ _;constructor|apply wC pk;rfl;rfl|apply wE pk;rfl;rfl|apply wD pk [] [];kernel_rfl;rfl;rfl|refine aA rfl ?_ ?_<;>intro h<;>(try simp at h)<;>try omega|(refine aC ?_;refine ⟨_,_,_,rfl,zwr _,zsr _, ?_,rfl⟩;try rfl)|(apply aH;rfl;rfl;rfl;(intro _;(first|apply hget|apply hline|apply hput)<;>first|assumption|omega);rotate_left;rfl;rfl)|apply aN pk;(iterate 6 rfl);rotate_left;rfl;(first|(intro hw;rfl);(intro hw;apply aI<;>omega);(intro _;rfl)|(intro hw;exact hk);(intro hw;apply aI<;>omega);(intro _;rfl));rfl)
  ·rw [if_neg hE] at hline⊢
   have hput:=hput (eX w s[k] o.row)
   generalize eX w s[k] o.row=N at*
   generalize sQ b o.table N=B at*
   unfold aBD at hline
   refine aG aF Tryz.func101 (by kernel_rfl) rfl rfl rfl rfl (λst=> ?_)
   (try apply wO pk;rfl);(repeat' first|show All _;constructor|show Imp _ _;constructor|apply wC pk;rfl;rfl|apply wE pk;rfl;rfl|apply wD pk [] [];kernel_rfl;rfl;rfl|refine aA rfl ?_ ?_<;>intro h<;>(try simp at h)<;>try omega|(refine aC ?_;refine ⟨_,_,_,rfl,zwr _,zsr _, ?_,rfl⟩;try rfl)|(apply aH;rfl;rfl;rfl;(intro _;(first|apply hget|apply hline|apply hput)<;>first|assumption|omega);rotate_left;rfl;rfl)|apply aN pk;(iterate 6 rfl);rotate_left;rfl;(first|(intro hw;rfl);(intro hw;apply aI<;>omega);(intro _;rfl)|(intro hw;exact hk);(intro hw;apply aI<;>omega);(intro _;rfl));rfl)
theorem aEm (h8:o.kind=8):PF Tryz.prog 101 [.agg w.cells, .agg (scC s), .agg (bsC b), .agg o.cells] (oD (uU true s b (o.table,o.key) w.dot (sX s b (o.table,o.key)))):=by
 have hd:=iG w
 have hR:=iZ hD.S (by omega) hD.sb hD.len
 rw [hb] at hR
 have hdel:PF Tryz.prog 156 [.agg (scC s), .agg (bsC b),(PV.val (Value.int .i64 (o.table))),(PV.val (Value.int .i64 (o.key))), .agg w.dot.cells] (oD (uU true s b (o.table,o.key) w.dot (sX s b (o.table,o.key)))):=aAH hR (λ_=>aCH hb ⟨hD.S.1,λd hd=>⟨by have:=(hD.S.2 d hd).1;omega,(hD.S.2 d hd).2⟩⟩) (o.table,o.key) w.dot
 generalize uU true s b (o.table,o.key) w.dot (sX s b (o.table,o.key))=R at*
 unfold oD at hdel
 refine aG aF Tryz.func101 (by kernel_rfl) rfl rfl rfl rfl (λst=> ?_)
 (try apply wO pk;rfl);(repeat' first|show All _;constructor|show Imp _ _;constructor|apply wC pk;rfl;rfl|apply wE pk;rfl;rfl|apply wD pk [] [];kernel_rfl;rfl;rfl|refine aA rfl ?_ ?_<;>intro h<;>(try simp at h)<;>try omega|(refine aC ?_;refine ⟨_,_,_,rfl,zwr _,zsr _, ?_,rfl⟩;try rfl)|(apply aH;rfl;rfl;rfl;(intro _;(first|apply hd|apply hdel)<;>first|assumption|omega);rotate_left;rfl;rfl))
theorem aDP (hr:fX s o=0) (h1:o.kind≠1) (h8:o.kind≠8):PF Tryz.prog 101 [.agg w.cells, .agg (scC s), .agg (bsC b), .agg o.cells] (oD (aDb w b o)):=by
 obtain ⟨k,hk,hks,_,r2⟩:=vA hr
 have hc:=r2 h1 h8
 obtain ⟨⟨q1,q2⟩,_⟩:=bV.1 hb
 have hkb:k<b.length:=by omega
 have hkk:2<=o.kind/\o.kind<=7:=by
  unfold fX at hr
  split at hr
  ·cases hr
  ·omega
 have hd:=iG w
 have hS:=hD.S
 obtain ⟨l1,l2⟩:=asG hS (by omega)
 have hget:=vM hS (by omega) o.table o.key
 have hput:=λa=>ahJ b o.table a l1 l2
 have hk20:=hD.k20
 unfold aDb
 cases hg:eH (aO b o.table) o.key with
 |none=>
  rw [hg] at hget
  refine aG aF Tryz.func101 (by kernel_rfl) rfl rfl rfl rfl (λst=> ?_)
  (try apply wO pk;rfl);(repeat' first|show All _;constructor|show Imp _ _;constructor|apply wC pk;rfl;rfl|apply wE pk;rfl;rfl|refine aA rfl ?_ ?_<;>intro h<;>(try simp at h)<;>try omega|(refine aC ?_;refine ⟨_,_,_,rfl,zwr _,zsr _, ?_,rfl⟩;try rfl)|(apply aH;rfl;rfl;rfl;(intro _;apply hget<;>first|assumption|omega);rotate_left;rfl;rfl))
 |some l=>
 rw [hg] at hget
 have hgl:PF Tryz.prog 24 [.agg (bsC b),(PV.val (Value.int .i64 (o.table))),(PV.val (Value.int .i64 (o.key)))] (.tup [.agg l.cells,(PV.val (Value.bool (true)))]):=hget
 clear hget
 have hlm:=afZ hg
 have hLW:=(yI hD.bs o.table).2 l hlm
 rw [hk] at hlm
 have hL:=aaK hb hks hlm
 unfold aaF at hc
 split at hc
 ·cases hc
 split at hc
 ·cases hc
 split at hc
 ·cases hc
 split at hc
 ·rename_i q;exact absurd hc q
 rename_i u1 u2 u3 u4
 have u4:=Decidable.of_not_not u4
 have hlen:=hL.len
 obtain ⟨j,hj⟩:∃j:Nat,o.col=j:=⟨o.col.toNat,by omega⟩
 have hjl:j<l.cells_.length:=by omega
 have hvr:cJ o.val=true:=by
  unfold qO at u4
  split at u4
  ·cases u4
  ·rename_i q
   cases e:cJ o.val with
   |true=>rfl
   |false=>exact absurd (.inr e) q
 have hT:TnOK w l.cells_[j] o:=⟨acT hvr,by have:=hD.few.2.1;omega,hD.kn,by have:=hLW.2.2 _ (zgm hjl);omega⟩
 have hcl:=acX l.cells_
 have hc20:=hLW.2.1
 have hb20:=hLW.1
 have htn:=λ(id:Nat) (st:aJ) hst=>aCw (w:=w) (cs:=l.cells_) (j:=j) (id:=id) (o:=o) hjl hT hkk.1 hkk.2 (st:=st) hst
 have hwr:=λN=>aaA ⟨l.key,N,l.by_⟩ w.dot (by show l.by_.length<_;omega)
 have hset:qN w o l=dD ⟨l.key,l.cells_.set j (eW w l.cells_[j] o).1,l.by_⟩ w.dot:=by unfold qN;rw [hj,Int.toNat_natCast,getElem!_pos l.cells_ j hjl]
 simp only
 rw [hset,show l.cells_[o.col.toNat]! =l.cells_[j] from by rw [hj,Int.toNat_natCast,getElem!_pos l.cells_ j hjl]]
 have hwr:=hwr (l.cells_.set j (eW w l.cells_[j] o).1)
 have hput:=hput (dD ⟨l.key,l.cells_.set j (eW w l.cells_[j] o).1,l.by_⟩ w.dot)
 have hsl:(l.cells_.set j (eW w l.cells_[j] o).1).length=l.cells_.length:=List.length_set ..
 generalize eW w l.cells_[j] o=R at*
 generalize dD ⟨l.key,l.cells_.set j R.1,l.by_⟩ w.dot=W at*
 generalize sQ b o.table W=B at*
 generalize l.cells_.set j R.1=N at*
 by_cases hR:R.2≠0
 ·rw [if_pos hR]
  refine aG aF Tryz.func101 (by kernel_rfl) rfl rfl rfl rfl (λst=> ?_)
  (try apply wO pk;rfl);(repeat' first|refine aC ?_;exact ⟨_,_,st,rfl,zwr _,bO (bO (zsr _) hid) hid,rfl,rfl⟩|apply wD pk [7] [];kernel_rfl;rfl;rfl|show All _;constructor|show Imp _ _;constructor|apply wC pk;rfl;rfl|apply wE pk;rfl;rfl|refine aA rfl ?_ ?_<;>intro h<;>(try simp at h)<;>try omega|(apply aH;rfl;rfl;rfl;(intro _;(apply hgl)<;>first|assumption|omega);rotate_left;rfl;rfl)|apply ixA pk;(iterate 5 rfl);rotate_left;rfl;(intro hw;(exact (show _=((j:Nat):Int) from by omega)));(intro hw;(omega));rfl;(exact Nat.zero_add _)|(apply cB;rfl;rfl;(apply (hcl _ (by omega))<;>first|exact aB _ _ _|assumption|omega|(fail));rfl;rfl;rfl;intro _ st' hR;obtain ⟨id,rfl,hid,rfl⟩:=hR)|(apply cB;rfl;rfl;(apply (htn id _ (aB _ _ _))<;>first|exact aB _ _ _|assumption|omega|(fail));rfl;rfl;rfl;intro _ st' hR;obtain ⟨rfl,rfl⟩:=hR))
 ·rw [if_neg hR]
  have hzz:=λid=>(show FzL id 5 (N.map Cl.cells) [.agg [(PV.val (Value.int .i64 (l.key))), .vec id 5 0 l.cells_.length, .seq (l.by_.map Dt.cells)], .agg w.dot.cells] [.agg [(PV.val (Value.int .i64 (l.key))), .seq (N.map Cl.cells), .seq (l.by_.map Dt.cells)], .agg w.dot.cells] from .cons (.agg (.cons .refl (.cons (gJ hsl) (.cons .refl .nil)))) (.cons .refl .nil))
  refine aG aF Tryz.func101 (by kernel_rfl) rfl rfl rfl rfl (λst=> ?_)
  (try apply wO pk;rfl);(repeat' first|refine aC ?_;exact ⟨_,_,st,rfl,zwr _,bO (bO (bO (zsr _) hid) hid) hid,rfl,rfl⟩|apply wDO pk [0,1,2,3,4,5,6,7,8] [7] [] [7] [];rfl;rfl;kernel_rfl;rfl;rfl|apply wDO pk [0,1,2,3,4,5,6,7,8,9] [6] [] [6] [];rfl;rfl;kernel_rfl;rfl;rfl|show All _;constructor|show Imp _ _;constructor|apply wC pk;rfl;rfl|apply wE pk;rfl;rfl|refine aA rfl ?_ ?_<;>intro h<;>(try simp at h)<;>try omega|(apply aH;rfl;rfl;rfl;(intro _;(first|apply hgl|apply hd|apply hput)<;>first|assumption|omega);rotate_left;rfl;rfl)|apply ixA pk;(iterate 5 rfl);rotate_left;rfl;(intro hw;(exact (show _=((j:Nat):Int) from by omega)));(intro hw;(omega));rfl;(exact Nat.zero_add _)|(apply cB;rfl;rfl;(apply (hcl _ (by omega))<;>first|exact aB _ _ _|assumption|omega|(fail));rfl;rfl;rfl;intro _ st' hR;obtain ⟨id,rfl,hid,rfl⟩:=hR)|(apply cB;rfl;rfl;(apply (htn id _ (aB _ _ _))<;>first|exact aB _ _ _|assumption|omega|(fail));rfl;rfl;rfl;intro _ st' hR;obtain ⟨rfl,rfl⟩:=hR)|(apply cB;rfl;rfl;(apply (PC.freezeZ (aB _ _ _) yK (hzz id) (hwr _))<;>first|exact aB _ _ _|assumption|omega|(fail));rfl;rfl;rfl;intro _ st' hR;obtain ⟨rfl,rfl⟩:=hR))
theorem aEX (hr:fX s o=0):PF Tryz.prog 101 [.agg w.cells, .agg (scC s), .agg (bsC b), .agg o.cells] (oD (aoB w s b o)):=by
 unfold aoB
 by_cases h1:o.kind=1
 ·rw [if_pos h1];exact aEH hD hb hr h1
 ·rw [if_neg h1]
  by_cases h8:o.kind=8
  ·rw [if_pos h8];exact aEm hD hb h8
  ·rw [if_neg h8];exact aDP hD hb hr h1 h8
end
end Go.Proofs.YtloecjjehapblaaGreatDoor
namespace Go.Proofs.YtloecjjehapblaaGreatDoor
open Go Go.Abs
set_option maxRecDepth 10000
set_option maxHeartbeats 4000000
variable {w v:Wr} {s:Sc} {b:Bs}
theorem uV (o:Ot) (r:List Ot):cZ w s b (o::r)=if (eD w s b o).2≠0 then ([],(eD w s b o).2) else cZ w s (eD w s b o).1 r:=rfl
theorem agX (hw:uO w=true):∀{l:List Ot} {b:Bs} {k:Nat},cP T.rightP s b=true->OpW k b->(∀o∈l,xQ o)->(cZ w s b l).2=0->cP T.rightP s (cZ w s b l).1=true/\OpW (k+l.length) (cZ w s b l).1
 |[],b,k,hb,h,_,_=>⟨hb,h⟩
 |o::r,b,k,hb,h,ho,h0=>by
  unfold cZ at*
  split at h0
  ·rename_i q;exact absurd h0 q
  ·rename_i q
   rw [if_neg q]
   have:=agX hw (l:=r) (zG hw hb (Decidable.of_not_not q)) (aBv (k:=k) h (ho o (by simp))) (λx hx=>ho x (List.mem_cons_of_mem _ hx)) h0
   rw [zlc]
   exact ⟨this.1,by rw [show k+(r.length+1)=k+1+r.length by omega];exact this.2⟩
theorem jR (o:Ot):∀(l:List Ot) (b:Bs),(cZ w s b l).2=0->cZ w s b (l++[o])=if (eD w s (cZ w s b l).1 o).2≠0 then ([],(eD w s (cZ w s b l).1 o).2) else ((eD w s (cZ w s b l).1 o).1,0)
 |[],b,_=>rfl
 |x::r,b,h=>by
  rw [List.cons_append]
  unfold cZ at*
  split at h
  ·rename_i q;exact absurd h q
  ·rename_i q
   rw [if_neg q,if_neg q]
   exact jR o r _ h
theorem awG {l m:List Ot} {b:Bs} (h:(cZ w s b l).2≠0):cZ w s b (l++m)=cZ w s b l:=by
 induction l generalizing b with
 |nil=>exact absurd rfl h
 |cons o r ih=>
  rw [List.cons_append,uV,uV]
  rw [uV] at h
  split
  ·rfl
  ·rename_i q
   rw [if_neg q] at h
   exact ih h
theorem aCz {l:List Ot} {i:Nat} (hi:i<l.length) {b:Bs} (h:(cZ w s b (l.take i)).2=0):cZ w s b (l.take (i+1))=if (eD w s (cZ w s b (l.take i)).1 l[i]).2≠0 then ([],(eD w s (cZ w s b (l.take i)).1 l[i]).2) else ((eD w s (cZ w s b (l.take i)).1 l[i]).1,0):=by
 rw [List.take_succ_eq_append_getElem hi,jR _ _ _ h]
theorem aAA {l:List Ot} {i:Nat} {b:Bs} (h:(cZ w s b (l.take i)).2≠0):cZ w s b l=cZ w s b (l.take i):=by
 have:=awG (m:=l.drop i) h
 rwa [List.take_append_drop] at this
theorem gY :rightW w s b=true↔rightC s=0/\cP T.rightP s b=true/\uO w=true:=by
 unfold rightW mayC
 rw [zba,zba,zde,and_assoc]
theorem aAI {o:Ot} (h:(doP w s b o).2=0):rightW w s b=true/\doP w s b o=eD w s b o/\cP T.rightP s (doP w s b o).1=true:=by
 unfold doP at*
 split at h
 ·rename_i q
  rw [if_pos q]
  obtain ⟨_,q2,q3⟩:=gY.1 q
  exact ⟨q,rfl,zG q3 q2 h⟩
 ·cases h
theorem aFe {l:List Ot} (h:(allP w s b l).2≠0):(allP w s b l).1=[]:=by
 unfold allP at*
 split
 ·rfl
 ·rename_i q1
  rw [if_neg q1] at h
  split
  ·rfl
  ·rename_i q2
   rw [if_neg q2] at h
   split
   ·rfl
   ·rename_i q3
    rw [if_neg q3] at h
    split
    ·rfl
    ·rename_i q4;rw [if_neg q4] at h;exact absurd rfl h
theorem aEr {l:List Ot} (h:(allP w s b l).2=0):rightW w s b=true/\(cZ w s b l).2=0/\whyC s (cZ w s b l).1=0/\(allP w s b l).1=(cZ w s b l).1:=by
 unfold allP at*
 split at h
 ·cases h
 ·rename_i q1
  rw [if_neg q1]
  split at h
  ·cases h
  ·rename_i q2
   rw [if_neg q2]
   split at h
   ·rename_i q3;exact absurd h q3
   ·rename_i q3
    rw [if_neg q3]
    split at h
    ·rename_i q4;exact absurd h q4
    ·rename_i q4
     rw [if_neg q4]
     exact ⟨by simpa using q1,Decidable.of_not_not q3,Decidable.of_not_not q4,rfl⟩
end Go.Proofs.YtloecjjehapblaaGreatDoor
