import Derived.Test.YtloecjjehapblaaGreatDoorOpAm
set_option linter.unusedSimpArgs false
set_option linter.unusedVariables false
namespace Go.Proofs.YtloecjjehapblaaGreatDoor.X
open Go Go.Abs
attribute [local irreducible] Ev PWp
set_option maxRecDepth 10000
set_option maxHeartbeats 4000000
def vz (v:Vl):Bool:=decide (v.kind=0)&&(decide (v.n=0)&&decide (v.s=e0))
def mF (k n:Int) (v:Vl) (l:Int):Bool:=
 if k=0 then (decide (n>=0)&&vz v)&&decide (l=0)
 else if k=1 then (decide (n=0)&&rR v)&&decide (l=0)
 else decide (2<=k/\k<=10)&&decide (n=0)&&vz v&&decide (l=kN k)
mutual
def bQ :Ex->Bool
 | .mk k n v o=>mF k n v o.length&&(decide (k=0)||decide (k=1)||oN o)
def oN :List Ex->Bool
 |[]=>true
 |e::es=>bQ e&&oN es
end
theorem nF :∀l,oN l=l.all bQ
 |[]=>rfl
 |e::es=>by simp [oN,nF es]
mutual
theorem lH :∀(e:Ex),e.ok->PF Tryz.prog 276 [.agg e.cells] (PV.val (Value.bool (bQ e)))
 | .mk k n v of,hok=>by
  simp only [Ex.ok] at hok
  have ih:=sK of
  have hlen:=Ex.rows_len of
  obtain ⟨v1,v2,v3⟩:=v
  have hrs:= @right_spec v1 v2 v3
  by_cases hk:2<=k/\k<=10
  ·obtain ⟨f,caps,hlook⟩:=aAN hk.1 hk.2
   have hk0:¬k=0:=by omega
   have hk1:¬k=1:=by omega
   have hhead:bQ (.mk k n ⟨v1,v2,v3⟩ of)=(mF k n ⟨v1,v2,v3⟩ of.length&&oN of):=by simp [bQ,hk0,hk1]
   have hF:mF k n ⟨v1,v2,v3⟩ of.length=(decide (n=0)&&vz ⟨v1,v2,v3⟩&&decide ((of.length:Int)=kN k)):=by simp [mF,hk0,hk1,hk]
   by_cases hh:n=0/\(v1=0/\v2=0/\v3=e0)/\(of.length:Int)=kN k
   ·have hF1:mF k n ⟨v1,v2,v3⟩ of.length=true:=by rw [hF];simp [vz,hh]
    rw [hF1,Bool.true_and,nF] at hhead
    refine aG aF Tryz.func276 (by kernel_rfl) rfl rfl rfl rfl (λst=> ?_)
    focus ((try apply wO pk;rfl);(repeat' first|show All _;constructor|show Imp _ _;constructor|show ImpX _ _ _ _;constructor|apply wC pk;rfl;rfl|apply wE pk;rfl;rfl|apply wD pk [] [];kernel_rfl;rfl;rfl|refine aA rfl ?_ ?_<;>intro h<;>(try simp at h)<;>try omega|(refine aC ?_;refine ⟨_,_,_,rfl,zwr _,zsr _, ?_,rfl⟩;try rfl)|(apply aH;rfl;rfl;rfl;(intro _;apply eG<;>first|assumption|omega);rotate_left;rfl;rfl)|apply kV pk;(iterate 4 rfl);(focus repeat' constructor);rfl;exact hlook;rfl|exfalso;simp_all;done))
    refine aK (X:={i:Nat//i<=of.length/\(of.take i).all bQ=true}) (λi=>((((St.nil 84 st).pv 74 (.seq (Ex.rows of))).pv 75 ((PV.val (Value.int .i64 (((Ex.rows of).length:Nat)))))).pv 76 ((PV.val (Value.int .i64 ((i.1:Nat))))))) (λi=>of.length-i.1) ⟨0,by omega,by simp⟩ ?_ (λi=> ?_)
    ·((repeat refine Sub.pv ?_ rfl);exact Sub.nil _ _ _ (zsr _) rfl)
    obtain ⟨i,hi,hall⟩:=i
    dsimp only
    by_cases hend:of.length<=i
    ·rw [uA (by omega)] at hall
     rw [hall] at hhead
     (try apply wO pk;rfl);(repeat' first|show All _;constructor|apply wC pk;rfl;rfl|refine aA rfl ?_ ?_<;>intro h<;>(try simp at h)<;>try omega|(refine aC ?_;refine ⟨_,_,_,rfl,zwr _,zsr _, ?_,rfl⟩;try first|rfl|(rw [hhead]);done))
    obtain ⟨x,hx⟩:=fM (l:=of) (i:=i) (by omega)
    have hrow:=Ex.rows_get hx
    have hm:=List.mem_of_getElem? hx
    have ihx:=ih x hm (Ex.oks_mem hok.2 hm)
    have hup:=akG (p:=bQ) hx
    have hno:=λh=>arX (p:=bQ) hx h
    generalize bQ x=D at*
    obtain ⟨k',n',v',of'⟩:=x
    cases D with
    |false=>
     rw [hno rfl] at hhead
     (try apply wO pk;rfl);(repeat' first|show All _;constructor|show Imp _ _;constructor|apply wC pk;rfl;rfl|apply wE pk;rfl;rfl|refine aA rfl ?_ ?_<;>intro h<;>(try simp at h)<;>try omega|(refine aC ?_;refine ⟨_,_,_,rfl,zwr _,zsr _, ?_,rfl⟩;try first|rfl|(rw [hhead]);done)|(apply aH;rfl;rfl;rfl;(intro _;apply ihx<;>first|assumption|omega);rotate_left;rfl;rfl)|apply aN pk;(iterate 6 rfl);rotate_left;rfl;(intro hw;rfl);(intro hw;apply hrow<;>omega);(intro _;exact (Ex.cells_len _));rfl)
    |true=>
     rw [hall] at hup
     (try apply wO pk;rfl);(repeat' first|show All _;constructor|show Imp _ _;constructor|apply wC pk;rfl;rfl|apply wE pk;rfl;rfl|refine aA rfl ?_ ?_<;>intro h<;>(try simp at h)<;>try omega|(apply aH;rfl;rfl;rfl;(intro _;apply ihx<;>first|assumption|omega);rotate_left;rfl;rfl)|apply aN pk;(iterate 6 rfl);rotate_left;rfl;(intro hw;rfl);(intro hw;apply hrow<;>omega);(intro _;exact (Ex.cells_len _));rfl|refine ⟨⟨i+1,by omega,hup⟩, ?_,by simp only;omega⟩;((repeat refine Sub.pv ?_ rfl);exact Sub.nil _ _ _ (zsr _) rfl)|intros;(try simp only [zql]);omega)
   ·have hF1:mF k n ⟨v1,v2,v3⟩ of.length=false:=by
     rw [hF,<-Bool.not_eq_true]
     simp only [vz,zba,zde]
     exact λq=>hh ⟨q.1.1,q.1.2,q.2⟩
    rw [hF1,Bool.false_and] at hhead
    refine aG aF Tryz.func276 (by kernel_rfl) rfl rfl rfl rfl (λst=> ?_)
    (try apply wO pk;rfl);(repeat' first|show All _;constructor|show Imp _ _;constructor|show ImpX _ _ _ _;constructor|apply wC pk;rfl;rfl|apply wE pk;rfl;rfl|apply wD pk [] [];kernel_rfl;rfl;rfl|refine aA rfl ?_ ?_<;>intro h<;>(try simp at h)<;>try omega|(refine aC ?_;refine ⟨_,_,_,rfl,zwr _,zsr _, ?_,rfl⟩;try first|rfl|(rw [hhead]);done)|(apply aH;rfl;rfl;rfl;(intro _;apply eG<;>first|assumption|omega);rotate_left;rfl;rfl)|apply kV pk;(iterate 4 rfl);(focus repeat' constructor);rfl;exact hlook;rfl|exfalso;simp_all;done)
  ·have hlook:=atK hk
   by_cases hk0:k=0
   ·subst hk0
    have e:bQ (.mk 0 n ⟨v1,v2,v3⟩ of)=((decide (n>=0)&&(decide (v1=0)&&(decide (v2=0)&&decide (v3=e0))))&&decide ((of.length:Int)=0)):=by simp [bQ,mF,vz]
    refine aG aF Tryz.func276 (by kernel_rfl) rfl rfl rfl rfl (λst=> ?_)
    (try apply wO pk;rfl);(repeat' first|show All _;constructor|show Imp _ _;constructor|show ImpX _ _ _ _;constructor|apply wC pk;rfl;rfl|apply wE pk;rfl;rfl|apply wD pk [] [];kernel_rfl;rfl;rfl|refine aA rfl ?_ ?_<;>intro h<;>(try simp at h)<;>try omega|(refine aC ?_;refine ⟨_,_,_,rfl,zwr _,zsr _, ?_,rfl⟩;try first|rfl|((rw [e,hlen];done));done)|(apply aH;rfl;rfl;rfl;(intro _;apply eG<;>first|assumption|omega);rotate_left;rfl;rfl)|apply kV pk;(iterate 4 rfl);(focus repeat' constructor);rfl;exact hlook;rfl)
   by_cases hk1:k=1
   ·subst hk1
    have e:bQ (.mk 1 n ⟨v1,v2,v3⟩ of)=((decide (n=0)&&rR ⟨v1,v2,v3⟩)&&decide ((of.length:Int)=0)):=by simp [bQ,mF]
    generalize rR ⟨v1,v2,v3⟩=R at*
    refine aG aF Tryz.func276 (by kernel_rfl) rfl rfl rfl rfl (λst=> ?_)
    (try apply wO pk;rfl);(repeat' first|show All _;constructor|show Imp _ _;constructor|show ImpX _ _ _ _;constructor|apply wC pk;rfl;rfl|apply wE pk;rfl;rfl|apply wD pk [] [];kernel_rfl;rfl;rfl|refine aA rfl ?_ ?_<;>intro h<;>(try simp at h)<;>try omega|(refine aC ?_;refine ⟨_,_,_,rfl,zwr _,zsr _, ?_,rfl⟩;try first|rfl|((rw [e,hlen];done));done)|(apply aH;rfl;rfl;rfl;(intro _;(first|apply eG|apply hrs)<;>first|assumption|omega);rotate_left;rfl;rfl)|apply kV pk;(iterate 4 rfl);(focus repeat' constructor);rfl;exact hlook;rfl)
   have e:bQ (.mk k n ⟨v1,v2,v3⟩ of)=false:=by simp [bQ,mF,hk0,hk1,hk]
   refine aG aF Tryz.func276 (by kernel_rfl) rfl rfl rfl rfl (λst=> ?_)
   (try apply wO pk;rfl);(repeat' first|show All _;constructor|show Imp _ _;constructor|show ImpX _ _ _ _;constructor|apply wC pk;rfl;rfl|apply wE pk;rfl;rfl|apply wD pk [] [];kernel_rfl;rfl;rfl|refine aA rfl ?_ ?_<;>intro h<;>(try simp at h)<;>try omega|(refine aC ?_;refine ⟨_,_,_,rfl,zwr _,zsr _, ?_,rfl⟩;try first|rfl|(rw [e]);done)|(apply aH;rfl;rfl;rfl;(intro _;apply eG<;>first|assumption|omega);rotate_left;rfl;rfl)|apply kV pk;(iterate 4 rfl);(focus repeat' constructor);rfl;exact hlook;rfl)
theorem sK :∀(l:List Ex) (x:Ex),x∈l->x.ok->PF Tryz.prog 276 [.agg x.cells] (PV.val (Value.bool (bQ x)))
 |[],_,h,_=>by cases h
 |e::es,x,h,hok=>by
  rcases zmc.1 h with h|h
  ·rw [h] at hok⊢;exact lH e hok
  ·exact sK es x h hok
end
def tQ (e:Ex):Int:=if pR 20 e then 2 else if bQ e then 0 else 1
theorem iR {e:Ex} (hok:e.ok):PF Tryz.prog 180 [.agg e.cells] (PV.val (Value.int .i64 (tQ e))):=by
 have h1:=auQ 20 e 20 rfl (by omega) hok
 have h2:=lH e hok
 unfold tQ
 generalize pR 20 e=D at*
 generalize bQ e=F at*
 obtain ⟨k,n,v,of⟩:=e
 refine aG aF Tryz.func180 (by kernel_rfl) rfl rfl rfl rfl (λst=> ?_)
 (try apply wO pk;rfl);(repeat' first|show All _;constructor|show Imp _ _;constructor|apply wC pk;rfl;rfl|apply wE pk;rfl;rfl|refine aA rfl ?_ ?_<;>intro h<;>(try simp at h)<;>try omega|(refine aC ?_;refine ⟨_,_,_,rfl,zwr _,zsr _, ?_,rfl⟩;try first|rfl|(simp [*];done);done)|(apply aH;rfl;rfl;rfl;(intro _;(first|apply h1|apply h2)<;>first|assumption|omega);rotate_left;rfl;rfl))
mutual
def fE (m:Int):Ex->Bool
 | .mk k n _ o=>(!decide (k=0)||decide (n<m))&&yG m o
def yG (m:Int):List Ex->Bool
 |[]=>true
 |e::es=>fE m e&&yG m es
end
theorem oL (m:Int):∀l,yG m l=l.all (fE m)
 |[]=>rfl
 |e::es=>by simp [yG,oL m es]
mutual
theorem aaL (m:Int):∀(e:Ex),e.ok->PF Tryz.prog 201 [.agg e.cells,(PV.val (Value.int .i64 (m)))] (PV.val (Value.bool (fE m e)))
 | .mk k n v of,hok=>by
  simp only [Ex.ok] at hok
  have ih:=wG m of
  have hlen:=Ex.rows_len of
  have hT:fE m (.mk k n v of)=((!decide (k=0)||decide (n<m))&&of.all (fE m)):=by rw [fE,oL]
  refine aG aF Tryz.func201 (by kernel_rfl) rfl rfl rfl rfl (λst=> ?_)
  focus ((try apply wO pk;rfl);(repeat' (show All _;constructor)))
  refine aK (X:={i:Nat//i<=of.length/\(of.take i).all (fE m)=true}) (λi=>((((((St.nil 28 st).pv 1 ((PV.val (Value.int .i64 (m))))).var 2 88 ((Ex.mk k n v of).cells)).pv 8 (.seq (Ex.rows of))).pv 9 ((PV.val (Value.int .i64 (((Ex.rows of).length:Nat)))))).pv 10 ((PV.val (Value.int .i64 ((i.1:Nat))))))) (λi=>of.length-i.1) ⟨0,by omega,by simp⟩ ?_ (λi=> ?_)
  ·((repeat (first|refine Sub.pv ?_ rfl|refine Sub.var ?_ rfl rfl));exact Sub.nil _ _ _ (zsr _) rfl)
  obtain ⟨i,hi,hall⟩:=i
  dsimp only
  by_cases hend:of.length<=i
  ·rw [uA (by omega)] at hall
   rw [hall,Bool.and_true] at hT
   (try apply wO pk;rfl);(repeat' first|show All _;constructor|show Imp _ _;constructor|show ImpX _ _ _ _;constructor|apply wC pk;rfl;rfl|refine aA rfl ?_ ?_<;>intro h<;>(try simp at h)<;>try omega|(refine aC ?_;refine ⟨_,_,_,rfl,zwr _,zsr _, ?_,rfl⟩;try first|rfl|((rw [hT];done));done))
  obtain ⟨x,hx⟩:=fM (l:=of) (i:=i) (by omega)
  have hrow:=Ex.rows_get hx
  have hm:=List.mem_of_getElem? hx
  have ihx:=ih x hm (Ex.oks_mem hok.2 hm)
  have hup:=akG (p:=fE m) hx
  have hno:=λh=>arX (p:=fE m) hx h
  generalize fE m x=D at*
  obtain ⟨k',n',v',of'⟩:=x
  cases D with
  |false=>
   rw [hno rfl,Bool.and_false] at hT
   (try apply wO pk;rfl);(repeat' first|show All _;constructor|show Imp _ _;constructor|apply wC pk;rfl;rfl|apply wE pk;rfl;rfl|refine aA rfl ?_ ?_<;>intro h<;>(try simp at h)<;>try omega|(refine aC ?_;refine ⟨_,_,_,rfl,zwr _,zsr _, ?_,rfl⟩;try first|rfl|(rw [hT]);done)|(apply aH;rfl;rfl;rfl;(intro _;apply ihx<;>first|assumption|omega);rotate_left;rfl;rfl)|apply aN pk;(iterate 6 rfl);rotate_left;rfl;(intro hw;rfl);(intro hw;apply hrow<;>omega);(intro _;exact (Ex.cells_len _));rfl)
  |true=>
   rw [hall] at hup
   (try apply wO pk;rfl);(repeat' first|show All _;constructor|show Imp _ _;constructor|apply wC pk;rfl;rfl|apply wE pk;rfl;rfl|refine aA rfl ?_ ?_<;>intro h<;>(try simp at h)<;>try omega|(apply aH;rfl;rfl;rfl;(intro _;apply ihx<;>first|assumption|omega);rotate_left;rfl;rfl)|apply aN pk;(iterate 6 rfl);rotate_left;rfl;(intro hw;rfl);(intro hw;apply hrow<;>omega);(intro _;exact (Ex.cells_len _));rfl|(refine ⟨⟨i+1,by omega,hup⟩, ?_,by simp only;omega⟩;((repeat (first|refine Sub.pv ?_ rfl|refine Sub.var ?_ rfl rfl));exact Sub.nil _ _ _ (zsr _) rfl))|intros;(try simp only [zql]);omega)
theorem wG (m:Int):∀(l:List Ex) (x:Ex),x∈l->x.ok->PF Tryz.prog 201 [.agg x.cells,(PV.val (Value.int .i64 (m)))] (PV.val (Value.bool (fE m x)))
 |[],_,h,_=>by cases h
 |e::es,x,h,hok=>by
  rcases zmc.1 h with h|h
  ·rw [h] at hok⊢;exact aaL m e hok
  ·exact wG m es x h hok
end
def xY (nb:Bool):Int->List Int->Bool
 |_,[]=>true
 |last,x::xs=>if ((nb&& !decide (x=0))&& !decide (x=1))||((!decide (x=0)&& !decide (last=0))&& !decide (x=last)) then false else xY nb (if x=0 then last else x) xs
theorem yZ {α:Type} {l:List α} {i:Nat} {x:α} (h:l[i]?=some x):l.drop i=x::l.drop (i+1):=by
 obtain ⟨hl,rfl⟩:=List.getElem?_eq_some_iff.1 h
 exact List.drop_eq_getElem_cons hl
theorem arZ {α:Type} {l:List α} {i:Nat} (h:¬i<l.length):l.drop i=[]:=List.drop_eq_nil_of_le (by omega)
theorem qQ {m:Int} {nb:Bool} {f:FuncId} {caps:List PV} {l:List Int} (hl:l.length<2^62):PF Tryz.prog 278 [.agg [(PV.val (Value.int .i64 (m))),(PV.val (Value.bool (nb))), .fn f caps], .seq (jW l)] (PV.val (Value.bool (xY nb 0 l))):=by
 have hlen:=aeB l
 refine aG aF Tryz.func278 (by kernel_rfl) rfl rfl rfl rfl (λst=> ?_)
 focus ((try apply wO pk;rfl);(repeat' (show All _;constructor)))
 refine aK (X:={x:Nat×Int//x.1<=l.length/\xY nb 0 l=xY nb x.2 (l.drop x.1)}) (λi=>((((((St.nil 41 st).var 2 341 ([(PV.val (Value.int .i64 (m))),(PV.val (Value.bool (nb))), .fn f caps])).pv 5 ((PV.val (Value.int .i64 (i.1.2))))).pv 8 (.seq (jW l))).pv 9 ((PV.val (Value.int .i64 ((((jW l)).length:Nat)))))).pv 10 ((PV.val (Value.int .i64 ((i.1.1:Nat))))))) (λi=>l.length-i.1.1) ⟨(0,0),by simp,by simp⟩ ?_ (λi=> ?_)
 ·((repeat (first|refine Sub.pv ?_ rfl|refine Sub.var ?_ rfl rfl));exact Sub.nil _ _ _ (zsr _) rfl)
 obtain ⟨⟨i,last⟩,hi,hinv⟩:=i
 dsimp only at hi hinv
 dsimp only
 generalize xY nb 0 l=R at*
 by_cases hend:l.length<=i
 ·rw [arZ (by omega)] at hinv
  (try apply wO pk;rfl);(repeat' first|show All _;constructor|apply wC pk;rfl;rfl|refine aA rfl ?_ ?_<;>intro h<;>(try simp at h)<;>try omega|(refine aC ?_;refine ⟨_,_,_,rfl,zwr _,zsr _, ?_,rfl⟩;try first|rfl|(rw [hinv];rfl);done))
 obtain ⟨x,hx⟩:=fM (l:=l) (i:=i) (by omega)
 have hrow:=adC hx
 rw [yZ hx] at hinv
 simp only [xY] at hinv
 by_cases hc:(((nb&& !decide (x=0))&& !decide (x=1))||((!decide (x=0)&& !decide (last=0))&& !decide (x=last)))=true
 ·rw [if_pos hc] at hinv
  (try apply wO pk;rfl);(repeat' first|show All _;constructor|show Imp _ _;constructor|show ImpX _ _ _ _;constructor|apply wC pk;rfl;rfl|apply wE pk;rfl;rfl|refine aA rfl ?_ ?_<;>intro h<;>(try simp at h)<;>try omega|(refine aC ?_;refine ⟨_,_,_,rfl,zwr _,zsr _, ?_,rfl⟩;try first|rfl|(rw [hinv]);done)|apply aN pk;(iterate 6 rfl);rotate_left;rfl;(intro hw;rfl);(intro hw;apply hrow<;>omega);(intro _;rfl);rfl|intros;(try simp only [zql]);omega|((exfalso;simp at*;grind)))
 rw [if_neg hc] at hinv
 by_cases hx0:x=0
 ·rw [if_pos hx0] at hinv
  (try apply wO pk;rfl);(repeat' first|show All _;constructor|show Imp _ _;constructor|show ImpX _ _ _ _;constructor|apply wC pk;rfl;rfl|apply wE pk;rfl;rfl|refine aA rfl ?_ ?_<;>intro h<;>(try simp at h)<;>try omega|apply aN pk;(iterate 6 rfl);rotate_left;rfl;(intro hw;rfl);(intro hw;apply hrow<;>omega);(intro _;rfl);rfl|(refine ⟨⟨(i+1,last),by simp only;omega,hinv⟩, ?_,by simp only;omega⟩;((repeat (first|refine Sub.pv ?_ rfl|refine Sub.var ?_ rfl rfl));exact Sub.nil _ _ _ (zsr _) rfl))|intros;(try simp only [zql]);omega)
 ·rw [if_neg hx0] at hinv
  (try apply wO pk;rfl);(repeat' first|show All _;constructor|show Imp _ _;constructor|show ImpX _ _ _ _;constructor|apply wC pk;rfl;rfl|apply wE pk;rfl;rfl|refine aA rfl ?_ ?_<;>intro h<;>(try simp at h)<;>try omega|(refine aC ?_;refine ⟨_,_,_,rfl,zwr _,zsr _, ?_,rfl⟩;try rfl)|apply aN pk;(iterate 6 rfl);rotate_left;rfl;(intro hw;rfl);(intro hw;apply hrow<;>omega);(intro _;rfl);rfl|(refine ⟨⟨(i+1,x),by simp only;omega,hinv⟩, ?_,by simp only;omega⟩;((repeat (first|refine Sub.pv ?_ rfl|refine Sub.var ?_ rfl rfl));exact Sub.nil _ _ _ (zsr _) rfl))|intros;(try simp only [zql]);omega|((exfalso;simp at*;grind)))
mutual
def bS (l:List Int):Ex->Int×Int
 | .mk k n v o=>if k=0 then (l.getD n.toNat 0,0) else if k=1 then (v.kind,0) else
   match gI l o with
   |(_,some no)=>(0,no)
   |(got,none)=>if xY (qY k) 0 got then (1,0) else (0,6)
def gI (l:List Int):List Ex->List Int×Option Int
 |[]=>([],none)
 |e::es=>if (bS l e).2=0 then ((bS l e).1::(gI l es).1,(gI l es).2) else ([],some (bS l e).2)
end
theorem tO {l:List Int}:∀{os:List Ex},(∀x∈os,(bS l x).2=0)->gI l os=(os.map λx=>(bS l x).1,none)
 |[],_=>rfl
 |e::es,h=>by
  have ih:=tO (l:=l) (os:=es) λx hx=>h x (by simp [hx])
  simp [gI,h e (by simp),ih]
theorem tZ {l:List Int}:∀{os:List Ex} {i:Nat} {x:Ex},(∀j y,j<i->os[j]?=some y->(bS l y).2=0)->os[i]?=some x->(bS l x).2≠0->(gI l os).2=some (bS l x).2
 |[],_,_,_,h,_=>by simp at h
 |e::es,0,x,_,h,hx=>by
  simp at h;subst h
  simp [gI,hx]
 |e::es,i+1,x,h0,h,hx=>by
  simp at h
  have h1:=h0 0 e (by omega) (by simp)
  have ih:=tZ (l:=l) (os:=es) (i:=i) (λj y hj hy=>h0 (j+1) y (by omega) (by simpa using hy)) h hx
  simp [gI,h1,ih]
theorem tE {k n:Int} {v:Vl} {of:List Ex} (h:bQ (.mk k n v of)=true) (hk0:¬k=0) (hk1:¬k=1):(2<=k/\k<=10)/\n=0/\vz v=true/\(of.length:Int)=kN k/\∀x∈of,bQ x=true:=by
 simp only [bQ,mF,if_false,zba,zde,Bool.or_eq_true,hk0,hk1,false_or,nF,zal] at h
 exact ⟨h.1.1.1.1,h.1.1.1.2,h.1.1.2,h.1.2,h.2⟩
theorem akZ (k:Int):kN k<=2/\1<=kN k:=by unfold kN;split<;>omega
theorem vJ :Tryz.prog.bytesOf 3=8:=by kernel_rfl
theorem qP {α β:Type} {l:List α} {i:Nat} {x:α} (h:l[i]?=some x) (f:α->β):(l.take (i+1)).map f=(l.take i).map f++[f x]:=by
 obtain ⟨hl,rfl⟩:=List.getElem?_eq_some_iff.1 h
 rw [List.take_succ_eq_append_getElem hl,List.map_append]
 rfl
theorem amR {k n:Int} {v:Vl} {of:List Ex} (l:List Int) (hl:l.length<2^62) (hk:k=0\/k=1) (hf:bQ (.mk k n v of)=true) (ht:fE l.length (.mk k n v of)=true):
  PF Tryz.prog 202 [.agg (Ex.mk k n v of).cells, .seq (jW l)] (.tup [(PV.val (Value.int .i64 ((bS l (.mk k n v of)).1))),(PV.val (Value.int .i64 ((bS l (.mk k n v of)).2)))]):=by
 by_cases hk0:k=0
 ·subst hk0
  simp [bQ,mF] at hf
  simp [fE] at ht
  have hn:n.toNat<l.length:=by omega
  obtain ⟨x,hx⟩:=fM hn
  have hrow:=adC hx
  have e:bS l (.mk 0 n v of)=(x,0):=by simp [bS,hx]
  rw [e]
  have hnn:n=((n.toNat:Nat):Int):=by omega
  refine aG aF Tryz.func202 (by kernel_rfl) rfl rfl rfl rfl (λst=> ?_)
  (try apply wO pk;rfl);(repeat' first|show All _;constructor|show Imp _ _;constructor|apply wC pk;rfl;rfl|apply wE pk;rfl;rfl|refine aA rfl ?_ ?_<;>intro h<;>(try simp at h)<;>try omega|(refine aC ?_;refine ⟨_,_,_,rfl,zwr _,zsr _, ?_,rfl⟩;try rfl)|apply aN pk;(iterate 6 rfl);rotate_left;rfl;(intro hw;exact hnn);(intro hw;apply hrow<;>omega);(intro _;rfl);rfl)
 ·have hk1:k=1:=by omega
  subst hk1
  have e:bS l (.mk 1 n v of)=(v.kind,0):=by simp [bS]
  rw [e]
  refine aG aF Tryz.func202 (by kernel_rfl) rfl rfl rfl rfl (λst=> ?_)
  (try apply wO pk;rfl);(repeat' first|show All _;constructor|apply wC pk;rfl;rfl|refine aA rfl ?_ ?_<;>intro h<;>(try simp at h)<;>try omega|(refine aC ?_;refine ⟨_,_,_,rfl,zwr _,zsr _, ?_,rfl⟩;try rfl))
mutual
theorem zB (l:List Int) (hl:l.length<2^62):∀(e:Ex),e.ok->bQ e=true->fE l.length e=true->PF Tryz.prog 202 [.agg e.cells, .seq (jW l)] (.tup [(PV.val (Value.int .i64 ((bS l e).1))),(PV.val (Value.int .i64 ((bS l e).2)))])
 | .mk k n v of,hok,hf,ht=>by
  have ih:=wK l hl of
  by_cases hk01:k=0\/k=1
  ·exact amR l hl hk01 hf ht
  have hk0:¬k=0:=by omega
  have hk1:¬k=1:=by omega
  obtain ⟨hk,hn,hv,hlen,hall⟩:=tE hf hk0 hk1
  simp only [fE,zba,oL,zal] at ht
  simp only [Ex.ok] at hok
  have hm:=akZ k
  have hrl:=Ex.rows_len of
  obtain ⟨fid,caps,hlook,_⟩:=yN hk.1 hk.2
  have hE:bS l (.mk k n v of)=match gI l of with|(_,some no)=>(0,no)|(got,none)=>if xY (qY k) 0 got then (1,0) else (0,6):=by simp only [bS,if_neg hk0,if_neg hk1];try rfl
  generalize bS l (.mk k n v of)=E at*
  refine aG aF Tryz.func202 (by kernel_rfl) rfl rfl rfl rfl (λst=> ?_)
  focus ((try apply wO pk;rfl);(repeat' first|show All _;constructor|apply wC pk;rfl;rfl|refine aA rfl ?_ ?_<;>intro h<;>(try simp at h)<;>try omega))
  refine yC 6 3 rfl rfl (λid hid=> ?_)
  have hid:st id=none:=hid
  refine aK (X:={x:Nat×Nat//x.1<=of.length/\st x.2=none/\∀j y,j<x.1->of[j]?=some y->(bS l y).2=0}) (λi=>(((((((St.nil 53 (upd st i.1.2 (some (.tok 3)))).pv 1 (.seq (jW l))).var 2 88 ((Ex.mk k n v of).cells)).pv 6 (.own i.1.2 (((of.take i.1.1).map λy=>(bS l y).1).map I1))).pv 26 (.seq (Ex.rows of))).pv 27 ((PV.val (Value.int .i64 (((Ex.rows of).length:Nat)))))).pv 28 ((PV.val (Value.int .i64 ((i.1.1:Nat))))))) (λi=>of.length-i.1.1) ⟨(0,id),by simp,hid,by simp⟩ ?_ (λi=> ?_)
  ·(((repeat (first|refine Sub.pv ?_ rfl|refine Sub.var ?_ rfl rfl));(exact Sub.nil _ _ _ (zsr _) rfl)))
  obtain ⟨⟨i,id⟩,hi,hid,hz⟩:=i
  simp only at hi hid hz
  dsimp only
  by_cases hend:of.length<=i
  ·have htk:of.take i=of:=uA (by omega)
   have hgot:gI l of=(of.map λy=>(bS l y).1,none):=tO λx hx=>by
    obtain ⟨j,hj⟩:=List.mem_iff_getElem?.1 hx
    exact hz j x (by have:=(List.getElem?_eq_some_iff.1 hj).1;omega) hj
   rw [hgot] at hE
   simp only at hE
   rw [htk]
   have hts:=qQ (m:=kN k) (nb:=qY k) (f:=fid) (caps:=caps) (l:=of.map λy=>(bS l y).1) (by simp;omega)
   unfold jW at hts
   generalize xY (qY k) 0 (of.map λy=>(bS l y).1)=G at*
   cases G with
   |true=>
    rw [if_pos rfl] at hE
    (try apply wO pk;rfl);(repeat' first|show All _;constructor|show Imp _ _;constructor|apply wC pk;rfl;rfl|apply wE pk;rfl;rfl|apply wD pk [] [];kernel_rfl;rfl;rfl|refine aA rfl ?_ ?_<;>intro h<;>(try simp at h)<;>try omega|(refine aC ?_;first|refine ⟨_,_,_,rfl,zwr _,zsr _, ?_,rfl⟩;(fail)|refine ⟨_,_,_,rfl,zwr _,aL ‹_›, ?_,rfl⟩;(((rw [hE]);done))|refine ⟨_,_,_,rfl,zwf _,zsr _, ?_,rfl⟩;(fail)|refine ⟨_,_,_,rfl,zwf _,aL ‹_›, ?_,rfl⟩;(fail)|(refine ⟨_,_,_,rfl,zwr _,zsr _, ?_,rfl⟩)|(refine ⟨_,_,_,rfl,zwf _,aL ‹_›, ?_,rfl⟩))|(apply aH;rfl;rfl;rfl;(intro _;(apply eG)<;>first|assumption|omega);rotate_left;rfl;rfl)|(apply tI;rfl;rfl;rfl;(intro _;(apply hts)<;>first|assumption|omega);rotate_left;rfl;rfl)|apply kV pk;(iterate 4 rfl);(focus repeat' constructor);rfl;exact hlook;rfl)
   |false=>
    rw [if_neg (by simp)] at hE
    (try apply wO pk;rfl);(repeat' first|show All _;constructor|show Imp _ _;constructor|apply wC pk;rfl;rfl|apply wE pk;rfl;rfl|apply wD pk [] [];kernel_rfl;rfl;rfl|refine aA rfl ?_ ?_<;>intro h<;>(try simp at h)<;>try omega|(refine aC ?_;first|refine ⟨_,_,_,rfl,zwr _,zsr _, ?_,rfl⟩;(fail)|refine ⟨_,_,_,rfl,zwr _,aL ‹_›, ?_,rfl⟩;(((rw [hE]);done))|refine ⟨_,_,_,rfl,zwf _,zsr _, ?_,rfl⟩;(fail)|refine ⟨_,_,_,rfl,zwf _,aL ‹_›, ?_,rfl⟩;(fail)|(refine ⟨_,_,_,rfl,zwr _,zsr _, ?_,rfl⟩)|(refine ⟨_,_,_,rfl,zwf _,aL ‹_›, ?_,rfl⟩))|(apply aH;rfl;rfl;rfl;(intro _;(apply eG)<;>first|assumption|omega);rotate_left;rfl;rfl)|(apply tI;rfl;rfl;rfl;(intro _;(apply hts)<;>first|assumption|omega);rotate_left;rfl;rfl)|apply kV pk;(iterate 4 rfl);(focus repeat' constructor);rfl;exact hlook;rfl)
  obtain ⟨x,hx⟩:=fM (l:=of) (i:=i) (by omega)
  have hrow:=Ex.rows_get hx
  have hm':=List.mem_of_getElem? hx
  have ihx:=ih x hm' (Ex.oks_mem hok.2 hm') (hall x hm') (ht.2 x hm')
  have hsome:=λh0=>tZ (l:=l) hz hx h0
  have hzs:(bS l x).2=0->∀j y,j<i+1->of[j]?=some y->(bS l y).2=0:=λh0 j y hj hy=>by
   by_cases hji:j=i
   ·subst hji;rw [hx] at hy;injection hy with hy;subst hy;exact h0
   ·exact hz j y (by omega) hy
  have hmap:((of.take (i+1)).map λy=>(bS l y).1).map I1=((of.take i).map λy=>(bS l y).1).map I1++[I1 (bS l x).1]:=by rw [qP hx (λy=>(bS l y).1),List.map_append];rfl
  have hE2:(bS l x).2≠0->E=(0,(bS l x).2):=λh0=>by
   have:=hsome h0
   rw [hE]
   revert this
   cases gI l of with|mk a b=>intro this;simp only at this;subst this;rfl
  clear hsome hE
  generalize hr:bS l x=r at*
  obtain ⟨r1,r2⟩:=r
  obtain ⟨k',n',v',of'⟩:=x
  dsimp only at*
  by_cases h2:r2=0
  ·have hz2:=hzs h2
   (try apply wO pk;rfl);(repeat' first|show All _;constructor|show Imp _ _;constructor|apply wC pk;rfl;rfl|apply wE pk;rfl;rfl|refine aA rfl ?_ ?_<;>intro h<;>(try simp at h)<;>try omega|(apply aH;rfl;rfl;rfl;(intro _;apply ihx<;>first|assumption|omega);rotate_left;rfl;rfl)|apply aN pk;(iterate 6 rfl);rotate_left;rfl;(intro hw;rfl);(intro hw;apply hrow<;>omega);(intro _;exact (Ex.cells_len _));rfl|(refine ⟨⟨(i+1,id'),by simp only;omega,iK hid',hz2⟩, ?_,by simp only;omega⟩;((dsimp only;rw [hmap]));(((repeat (first|refine Sub.pv ?_ rfl|refine Sub.var ?_ rfl rfl|refine Sub.pv' ?_ rfl (by (first|rfl|simp [I1];done))));(exact Sub.nil _ _ _ (cQ ‹_›) rfl))))|(apply apS pk (r1) 8;(iterate 8 rfl);exact aB _ _ _;exact λ_=>rfl;exact λ_=>rfl;exact vJ;((simp;omega));((simp;omega));rfl;intro id' hid')|intros;(try simp only [zql]);omega)
  ·have e:=hE2 h2
   (try apply wO pk;rfl);(repeat' first|show All _;constructor|show Imp _ _;constructor|apply wC pk;rfl;rfl|apply wE pk;rfl;rfl|refine aA rfl ?_ ?_<;>intro h<;>(try simp at h)<;>try omega|(refine aC ?_;first|refine ⟨_,_,_,rfl,zwr _,zsr _, ?_,rfl⟩;(fail)|refine ⟨_,_,_,rfl,zwr _,aL ‹_›, ?_,rfl⟩;(((rw [e]);done))|refine ⟨_,_,_,rfl,zwf _,zsr _, ?_,rfl⟩;(fail)|refine ⟨_,_,_,rfl,zwf _,aL ‹_›, ?_,rfl⟩;(fail)|(refine ⟨_,_,_,rfl,zwr _,zsr _, ?_,rfl⟩)|(refine ⟨_,_,_,rfl,zwf _,aL ‹_›, ?_,rfl⟩))|(apply aH;rfl;rfl;rfl;(intro _;apply ihx<;>first|assumption|omega);rotate_left;rfl;rfl)|apply aN pk;(iterate 6 rfl);rotate_left;rfl;(intro hw;rfl);(intro hw;apply hrow<;>omega);(intro _;exact (Ex.cells_len _));rfl)
theorem wK (l:List Int) (hl:l.length<2^62):∀(os:List Ex) (x:Ex),x∈os->x.ok->bQ x=true->fE l.length x=true->PF Tryz.prog 202 [.agg x.cells, .seq (jW l)] (.tup [(PV.val (Value.int .i64 ((bS l x).1))),(PV.val (Value.int .i64 ((bS l x).2)))])
 |[],_,h,_=>by cases h
 |e::es,x,h,hok=>by
  rcases zmc.1 h with h|h
  ·rw [h] at hok⊢;exact zB l hl e hok
  ·exact wK l hl es x h hok
end
def jZ (e:Ex) (l:List Int):Int×Int:=if tQ e≠0 then (0,tQ e) else if fE l.length e then bS l e else (0,4)
theorem acQ {e:Ex} (h:tQ e=0):pR 20 e=false/\bQ e=true:=by
 unfold tQ at h
 split at h
 ·omega
 ·rename_i h1
  split at h
  ·rename_i h2;exact ⟨by simpa using h1,h2⟩
  ·omega
theorem atD {e:Ex} (hok:e.ok) {l:List Int} (hl:l.length<2^62):PF Tryz.prog 125 [.agg e.cells, .seq (jW l)] (.tup [(PV.val (Value.int .i64 ((jZ e l).1))),(PV.val (Value.int .i64 ((jZ e l).2)))]):=by
 have h1:=iR hok
 have h2:=aaL ((l.length:Nat):Int) e hok
 have hlen:=aeB l
 rw [<-hlen] at h2
 by_cases hm:tQ e=0
 ·rw [hm] at h1
  cases ht:fE l.length e with
  |true=>
   have h3:=zB l hl e hok (acQ hm).2 ht
   rw [hlen,ht] at h2
   rw [<-hlen] at h2
   have e1:jZ e l=bS l e:=by unfold jZ;rw [if_neg (λq=>q hm),if_pos ht]
   rw [e1]
   generalize bS l e=R at*
   clear hm ht e1
   obtain ⟨k,n,v,of⟩:=e
   refine aG aF Tryz.func125 (by kernel_rfl) rfl rfl rfl rfl (λst=> ?_)
   (try apply wO pk;rfl);(repeat' first|show All _;constructor|show Imp _ _;constructor|apply wC pk;rfl;rfl|apply wE pk;rfl;rfl|refine aA rfl ?_ ?_<;>intro h<;>(try simp at h)<;>try omega|(refine aC ?_;refine ⟨_,_,_,rfl,zwr _,zsr _, ?_,rfl⟩;try rfl)|(apply aH;rfl;rfl;rfl;(intro _;(first|apply h1|apply h2|apply h3)<;>first|assumption|omega);rotate_left;rfl;rfl))
  |false=>
   rw [hlen,ht] at h2
   rw [<-hlen] at h2
   have e1:jZ e l=(0,4):=by unfold jZ;rw [if_neg (λq=>q hm),if_neg (by rw [ht];simp)]
   rw [e1]
   clear hm ht e1
   obtain ⟨k,n,v,of⟩:=e
   refine aG aF Tryz.func125 (by kernel_rfl) rfl rfl rfl rfl (λst=> ?_)
   (try apply wO pk;rfl);(repeat' first|show All _;constructor|show Imp _ _;constructor|apply wC pk;rfl;rfl|apply wE pk;rfl;rfl|refine aA rfl ?_ ?_<;>intro h<;>(try simp at h)<;>try omega|(refine aC ?_;refine ⟨_,_,_,rfl,zwr _,zsr _, ?_,rfl⟩;try rfl)|(apply aH;rfl;rfl;rfl;(intro _;(first|apply h1|apply h2)<;>first|assumption|omega);rotate_left;rfl;rfl))
 ·have e1:jZ e l=(0,tQ e):=by unfold jZ;rw [if_pos hm]
  rw [e1]
  generalize tQ e=M at*
  clear e1 h2
  obtain ⟨k,n,v,of⟩:=e
  refine aG aF Tryz.func125 (by kernel_rfl) rfl rfl rfl rfl (λst=> ?_)
  (try apply wO pk;rfl);(repeat' first|show All _;constructor|show Imp _ _;constructor|apply wC pk;rfl;rfl|apply wE pk;rfl;rfl|refine aA rfl ?_ ?_<;>intro h<;>(try simp at h)<;>try omega|(refine aC ?_;refine ⟨_,_,_,rfl,zwr _,zsr _, ?_,rfl⟩;try rfl)|(apply aH;rfl;rfl;rfl;(intro _;apply h1<;>first|assumption|omega);rotate_left;rfl;rfl))
mutual
def dK (row:List Vl):Ex->Vl×Int
 | .mk k n v o=>if k=0 then (if n>=row.length then (v0,4) else (row.getD n.toNat v0,0)) else if k=1 then (v,0) else
   match kJ row o with
   |(_,some no)=>(v0,no)
   |(got,none)=>if xY (qY k) 0 (got.map Vl.kind) then sO k (got.getD 0 v0) (got.getD (kN k-1).toNat v0) else (v0,6)
def kJ (row:List Vl):List Ex->List Vl×Option Int
 |[]=>([],none)
 |e::es=>if (dK row e).2=0 then ((dK row e).1::(kJ row es).1,(kJ row es).2) else ([],some (dK row e).2)
end
theorem xL {row:List Vl}:∀{os:List Ex},(∀x∈os,(dK row x).2=0)->kJ row os=(os.map λx=>(dK row x).1,none)
 |[],_=>rfl
 |e::es,h=>by
  have ih:=xL (row:=row) (os:=es) λx hx=>h x (by simp [hx])
  simp [kJ,h e (by simp),ih]
theorem wV {row:List Vl}:∀{os:List Ex} {i:Nat} {x:Ex},(∀j y,j<i->os[j]?=some y->(dK row y).2=0)->os[i]?=some x->(dK row x).2≠0->(kJ row os).2=some (dK row x).2
 |[],_,_,_,h,_=>by simp at h
 |e::es,0,x,_,h,hx=>by
  simp at h;subst h
  simp [kJ,hx]
 |e::es,i+1,x,h0,h,hx=>by
  simp at h
  have h1:=h0 0 e (by omega) (by simp)
  have ih:=wV (row:=row) (os:=es) (i:=i) (λj y hj hy=>h0 (j+1) y (by omega) (by simpa using hy)) h hx
  simp [kJ,h1,ih]
theorem avI {v:Vl} (h:rR v=true):lim v.n:=by
 unfold rR at h
 split at h
 ·simp at h;unfold lim;omega
 ·split at h
  ·simp at h;unfold lim;omega
  ·split at h
   ·simp at h;unfold lim;omega
   ·cases h
theorem rL :lim v0.n:=by unfold lim v0;simp only;omega
theorem aeM (b:Bool):lim (nW b).n:=by unfold lim nW vN;cases b<;>simp
theorem ayO {op:Int->Int->Int} {a b:Vl}:lim (yR op a b).1.n:=by
 unfold yR
 split
 ·exact rL
 ·rename_i h
  simp [akI] at h
  unfold lim vN;simp only;omega
theorem adP {r:Vl->Vl->Vl×Int} {a b:Vl} (h:lim (r a b).1.n):lim (kL r a b).1.n:=by
 unfold kL
 split
 ·exact rL
 ·exact h
theorem aBO (k:Int) (a b:Vl):lim (sO k a b).1.n:=by
 unfold sO
 repeat' split
 all_goals first
  |exact adP ayO
  |exact adP (aeM _)
  |exact aeM _
  |(unfold adK;(repeat' split)<;>first|exact rL|unfold lim vN;simp only;omega)
theorem aBj {row:List Vl} (h:∀v∈row,lim v.n) (i:Nat):lim (row.getD i v0).n:=by
 rw [List.getD_eq_getElem?_getD]
 cases hi:row[i]? with
 |none=>exact rL
 |some x=>exact h x (List.mem_of_getElem? hi)
theorem aA7 {row:List Vl} (hr:∀v∈row,lim v.n):∀{e:Ex},bQ e=true->lim (dK row e).1.n
 | .mk k n v of,hf=>by
  simp only [dK]
  split
  ·split
   ·exact rL
   ·exact aBj hr _
  ·split
   ·rename_i h0 h1
    subst h1
    simp [bQ,mF] at hf
    exact avI hf.1.2
   ·split
    ·exact rL
    ·split
     ·exact aBO _ _ _
     ·exact rL
end Go.Proofs.YtloecjjehapblaaGreatDoor.X
