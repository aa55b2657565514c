import Derived.Test.YtcglimangneafaaGreatDoorXp
set_option linter.unusedSimpArgs false
set_option linter.unusedVariables false
namespace Go.Proofs.YtcglimangneafaaGreatDoor.X
open Go Go.Abs
attribute [local irreducible] Ev PWp
set_option maxRecDepth 10000
set_option maxHeartbeats 4000000
def jC (e:Ex):Int:=if dF 20 e then 2 else if aY e then 0 else 1
theorem gW {e:Ex} (hok:e.ok):PF Tryz.prog 101 [.agg e.cells] (PV.val (Value.int .i64 (jC e))):=by
  have h1:=amF 20 e 20 rfl (by omega) hok
  have h2:=jL e hok
  unfold jC
  generalize dF 20 e=D at*
  generalize aY e=F at*
  obtain ⟨k,n,v,of⟩:=e
  refine aH aD Tryz.func101 (by kernel_rfl) rfl rfl rfl rfl (fun st=> ?_)
  (try (apply wO pk;exact rfl));(repeat' (first|(show All _;constructor)|(show Imp _ _;constructor)|(apply wC pk;(iterate 2 exact rfl))|(apply wE pk;(iterate 2 exact rfl))|(refine aA rfl (fun h=> ?_) (fun h=> ?_)<;>(try simp at h)<;>try (exfalso;omega))|(refine aB ?_;refine ⟨_,_,_,rfl,Wk.refl _,StSub.refl _, ?_,rfl⟩;try first|rfl|((simp [*];done);done))|(apply aI;(iterate 3 exact rfl);(intro _;(first|apply h1|apply h2)<;>first|assumption|omega);rotate_left;(iterate 2 exact rfl))))
mutual
def cL (m:Int):Ex→Bool
  | .mk k n _ o=>(!decide (k=0)||decide (n<m))&&uH m o
def uH (m:Int):List Ex→Bool
  |[]=>true
  |e::es=>cL m e&&uH m es
end
theorem jI (m:Int):∀l,uH m l=l.all (cL m)
  |[]=>rfl
  |e::es=>by simp [uH,jI m es]
mutual
theorem vW (m:Int):∀(e:Ex),e.ok→PF Tryz.prog 102 [.agg e.cells,(PV.val (Value.int .i64 (m)))] (PV.val (Value.bool (cL m e)))
  | .mk k n v of,hok=>by
    simp only [Ex.ok] at hok
    have ih:=sH m of
    have hlen:=Ex.rows_len of
    have hT:cL m (.mk k n v of)=((!decide (k=0)||decide (n<m))&&of.all (cL m)):=by rw [cL,jI]
    refine aH aD Tryz.func102 (by kernel_rfl) rfl rfl rfl rfl (fun st=> ?_)
    focus ((try (apply wO pk;exact rfl));(repeat' ((show All _;constructor))))
    refine aJ (X:={i:Nat//i≤of.length∧(of.take i).all (cL m)=true}) (fun i=>((((((St.nil 28 st).pv 1 ((PV.val (Value.int .i64 (m))))).var 2 75 ((Ex.mk k n v of).cells)).pv 8 (.seq (Ex.rows of))).pv 9 ((PV.val (Value.int .i64 (((Ex.rows of).length:Nat)))))).pv 10 ((PV.val (Value.int .i64 ((i.1:Nat))))))) (fun i=>of.length-i.1) ⟨0,by omega,by simp⟩ ?_ (fun i=> ?_)
    · ((repeat (first|refine Sub.pv ?_ rfl|refine Sub.var ?_ rfl rfl));exact Sub.nil _ _ _ (StSub.refl _) rfl)
    obtain ⟨i,hi,hall⟩:=i
    dsimp only
    by_cases hend:of.length≤i
    · rw [qP (by omega)] at hall
      rw [hall,Bool.and_true] at hT
      (try (apply wO pk;exact rfl));(repeat' (first|(show All _;constructor)|(show Imp _ _;constructor)|(show ImpX _ _ _ _;constructor)|(apply wC pk;(iterate 2 exact rfl))|(refine aA rfl (fun h=> ?_) (fun h=> ?_)<;>(try simp at h)<;>try (exfalso;omega))|(refine aB ?_;refine ⟨_,_,_,rfl,Wk.refl _,StSub.refl _, ?_,rfl⟩;try first|rfl|(((rw [hT];done));done))))
    obtain ⟨x,hx⟩:=eT (l:=of) (i:=i) (by omega)
    have hrow:=Ex.rows_get hx
    have hm:=List.mem_of_getElem? hx
    have ihx:=ih x hm (Ex.oks_mem hok.2 hm)
    have hup:=aeN (p:=cL m) hx
    have hno:=fun h=>akP (p:=cL m) hx h
    generalize cL m x=D at*
    obtain ⟨k',n',v',of'⟩:=x
    cases D with
    |false=>
      rw [hno rfl,Bool.and_false] at hT
      (try (apply wO pk;exact rfl));(repeat' (first|(show All _;constructor)|(show Imp _ _;constructor)|(apply wC pk;(iterate 2 exact rfl))|(apply wE pk;(iterate 2 exact rfl))|(refine aA rfl (fun h=> ?_) (fun h=> ?_)<;>(try simp at h)<;>try (exfalso;omega))|(refine aB ?_;refine ⟨_,_,_,rfl,Wk.refl _,StSub.refl _, ?_,rfl⟩;try first|rfl|((rw [hT]);done))|(apply aI;(iterate 3 exact rfl);(intro _;apply ihx<;>first|assumption|omega);rotate_left;(iterate 2 exact rfl))|(apply aM pk;(iterate 6 exact rfl);rotate_left;exact rfl;(intro hw;exact rfl);(intro hw;apply hrow<;>omega);(intro _;exact (Ex.cells_len _));exact rfl)))
    |true=>
      rw [hall] at hup
      (try (apply wO pk;exact rfl));(repeat' (first|(show All _;constructor)|(show Imp _ _;constructor)|(apply wC pk;(iterate 2 exact rfl))|(apply wE pk;(iterate 2 exact rfl))|(refine aA rfl (fun h=> ?_) (fun h=> ?_)<;>(try simp at h)<;>try (exfalso;omega))|(apply aI;(iterate 3 exact rfl);(intro _;apply ihx<;>first|assumption|omega);rotate_left;(iterate 2 exact rfl))|(apply aM pk;(iterate 6 exact rfl);rotate_left;exact rfl;(intro hw;exact rfl);(intro hw;apply hrow<;>omega);(intro _;exact (Ex.cells_len _));exact rfl)|(refine ⟨⟨i+1,by omega,hup⟩, ?_,by simp only;omega⟩;((repeat (first|refine Sub.pv ?_ rfl|refine Sub.var ?_ rfl rfl));exact Sub.nil _ _ _ (StSub.refl _) rfl))|(intros;(try simp only [zql]);omega)))
theorem sH (m:Int):∀(l:List Ex) (x:Ex),x∈l→x.ok→PF Tryz.prog 102 [.agg x.cells,(PV.val (Value.int .i64 (m)))] (PV.val (Value.bool (cL m x)))
  |[],_,h,_=>by cases h
  |e::es,x,h,hok=>by
    rcases List.mem_cons.1 h with h|h
    · rw [h] at hok⊢;exact vW m e hok
    · exact sH m es x h hok
end
def kC (nb:Bool):Int→List Int→Bool
  |_,[]=>true
  |last,x::xs=>if ((nb&& !decide (x=0))&& !decide (x=1))||((!decide (x=0)&& !decide (last=0))&& !decide (x=last)) then false else kC nb (if x=0 then last else x) xs
theorem pQ {α:Type} {l:List α} {i:Nat} {x:α} (h:l[i]?=some x):l.drop i=x::l.drop (i+1):=by
  obtain ⟨hl,rfl⟩:=List.getElem?_eq_some_iff.1 h
  exact List.drop_eq_getElem_cons hl
theorem akQ {α:Type} {l:List α} {i:Nat} (h:¬i<l.length):l.drop i=[]:=List.drop_eq_nil_of_le (by omega)
theorem oD {m:Int} {nb:Bool} {f:FuncId} {caps:List PV} {l:List Int} (hl:l.length<2^62):PF Tryz.prog 144 [.agg [(PV.val (Value.int .i64 (m))),(PV.val (Value.bool (nb))), .fn f caps], .seq (fG l)] (PV.val (Value.bool (kC nb 0 l))):=by
  have hlen:=nR l
  refine aH aD Tryz.func144 (by kernel_rfl) rfl rfl rfl rfl (fun st=> ?_)
  focus ((try (apply wO pk;exact rfl));(repeat' ((show All _;constructor))))
  refine aJ (X:={x:Nat×Int//x.1≤l.length∧kC nb 0 l=kC nb x.2 (l.drop x.1)}) (fun i=>((((((St.nil 41 st).var 2 170 ([(PV.val (Value.int .i64 (m))),(PV.val (Value.bool (nb))), .fn f caps])).pv 5 ((PV.val (Value.int .i64 (i.1.2))))).pv 8 (.seq (fG l))).pv 9 ((PV.val (Value.int .i64 ((((fG l)).length:Nat)))))).pv 10 ((PV.val (Value.int .i64 ((i.1.1:Nat))))))) (fun i=>l.length-i.1.1) ⟨(0,0),by simp,by simp⟩ ?_ (fun i=> ?_)
  · ((repeat (first|refine Sub.pv ?_ rfl|refine Sub.var ?_ rfl rfl));exact Sub.nil _ _ _ (StSub.refl _) rfl)
  obtain ⟨⟨i,last⟩,hi,hinv⟩:=i
  dsimp only at hi hinv
  dsimp only
  generalize kC nb 0 l=R at*
  by_cases hend:l.length≤i
  · rw [akQ (by omega)] at hinv
    (try (apply wO pk;exact rfl));(repeat' (first|(show All _;constructor)|(apply wC pk;(iterate 2 exact rfl))|(refine aA rfl (fun h=> ?_) (fun h=> ?_)<;>(try simp at h)<;>try (exfalso;omega))|(refine aB ?_;refine ⟨_,_,_,rfl,Wk.refl _,StSub.refl _, ?_,rfl⟩;try first|rfl|((rw [hinv];rfl);done))))
  obtain ⟨x,hx⟩:=eT (l:=l) (i:=i) (by omega)
  have hrow:=rA hx
  rw [pQ hx] at hinv
  simp only [kC] at hinv
  by_cases hc:(((nb&& !decide (x=0))&& !decide (x=1))||((!decide (x=0)&& !decide (last=0))&& !decide (x=last)))=true
  · rw [if_pos hc] at hinv
    (try (apply wO pk;exact rfl));(repeat' (first|(show All _;constructor)|(show Imp _ _;constructor)|(show ImpX _ _ _ _;constructor)|(apply wC pk;(iterate 2 exact rfl))|(apply wE pk;(iterate 2 exact rfl))|(refine aA rfl (fun h=> ?_) (fun h=> ?_)<;>(try simp at h)<;>try (exfalso;omega))|(refine aB ?_;refine ⟨_,_,_,rfl,Wk.refl _,StSub.refl _, ?_,rfl⟩;try first|rfl|((rw [hinv]);done))|(apply aM pk;(iterate 6 exact rfl);rotate_left;exact rfl;(intro hw;exact rfl);(intro hw;apply hrow<;>omega);(intro _;exact rfl);exact rfl)|(intros;(try simp only [zql]);omega)|((exfalso;simp at*;grind))))
  rw [if_neg hc] at hinv
  by_cases hx0:x=0
  · rw [if_pos hx0] at hinv
    (try (apply wO pk;exact rfl));(repeat' (first|(show All _;constructor)|(show Imp _ _;constructor)|(show ImpX _ _ _ _;constructor)|(apply wC pk;(iterate 2 exact rfl))|(apply wE pk;(iterate 2 exact rfl))|(refine aA rfl (fun h=> ?_) (fun h=> ?_)<;>(try simp at h)<;>try (exfalso;omega))|(apply aM pk;(iterate 6 exact rfl);rotate_left;exact rfl;(intro hw;exact rfl);(intro hw;apply hrow<;>omega);(intro _;exact rfl);exact rfl)|(refine ⟨⟨(i+1,last),by simp only;omega,hinv⟩, ?_,by simp only;omega⟩;((repeat (first|refine Sub.pv ?_ rfl|refine Sub.var ?_ rfl rfl));exact Sub.nil _ _ _ (StSub.refl _) rfl))|(intros;(try simp only [zql]);omega)))
  · rw [if_neg hx0] at hinv
    (try (apply wO pk;exact rfl));(repeat' (first|(show All _;constructor)|(show Imp _ _;constructor)|(show ImpX _ _ _ _;constructor)|(apply wC pk;(iterate 2 exact rfl))|(apply wE pk;(iterate 2 exact rfl))|(refine aA rfl (fun h=> ?_) (fun h=> ?_)<;>(try simp at h)<;>try (exfalso;omega))|(refine aB ?_;refine ⟨_,_,_,rfl,Wk.refl _,StSub.refl _, ?_,rfl⟩;try rfl)|(apply aM pk;(iterate 6 exact rfl);rotate_left;exact rfl;(intro hw;exact rfl);(intro hw;apply hrow<;>omega);(intro _;exact rfl);exact rfl)|(refine ⟨⟨(i+1,x),by simp only;omega,hinv⟩, ?_,by simp only;omega⟩;((repeat (first|refine Sub.pv ?_ rfl|refine Sub.var ?_ rfl rfl));exact Sub.nil _ _ _ (StSub.refl _) rfl))|(intros;(try simp only [zql]);omega)|((exfalso;simp at*;grind))))
mutual
def aX (l:List Int):Ex→Int×Int
  | .mk k n v o=>if k=0 then (l.getD n.toNat 0,0) else if k=1 then (v.kind,0) else
      match eS l o with
      |(_,some no)=>(0,no)
      |(got,none)=>if kC (fR k) 0 got then (1,0) else (0,6)
def eS (l:List Int):List Ex→List Int×Option Int
  |[]=>([],none)
  |e::es=>if (aX l e).2=0 then ((aX l e).1::(eS l es).1,(eS l es).2) else ([],some (aX l e).2)
end
theorem qJ {l:List Int}:∀{os:List Ex},(∀x∈os,(aX l x).2=0)→eS l os=(os.map fun x=>(aX l x).1,none)
  |[],_=>rfl
  |e::es,h=>by
    have ih:=qJ (l:=l) (os:=es) fun x hx=>h x (by simp [hx])
    simp [eS,h e (by simp),ih]
theorem qO {l:List Int}:∀{os:List Ex} {i:Nat} {x:Ex},(∀j y,j<i→os[j]?=some y→(aX l y).2=0)→os[i]?=some x→(aX l x).2≠0→(eS l os).2=some (aX l x).2
  |[],_,_,_,h,_=>by simp at h
  |e::es,0,x,_,h,hx=>by
    simp at h;subst h
    simp [eS,hx]
  |e::es,i+1,x,h0,h,hx=>by
    simp at h
    have h1:=h0 0 e (by omega) (by simp)
    have ih:=qO (l:=l) (os:=es) (i:=i) (fun j y hj hy=>h0 (j+1) y (by omega) (by simpa using hy)) h hx
    simp [eS,h1,ih]
theorem lC {k n:Int} {v:Vl} {of:List Ex} (h:aY (.mk k n v of)=true) (hk0:¬k=0) (hk1:¬k=1):(2≤k∧k≤10)∧n=0∧vz v=true∧(of.length:Int)=cT k∧∀x∈of,aY x=true:=by
  simp only [aY,dR,if_false,Bool.and_eq_true,decide_eq_true_eq,Bool.or_eq_true,hk0,hk1,false_or,iD,List.all_eq_true] at h
  exact ⟨h.1.1.1.1,h.1.1.1.2,h.1.1.2,h.1.2,h.2⟩
theorem afH (k:Int):cT k≤2∧1≤cT k:=by unfold cT;split<;>omega
theorem mR :Tryz.prog.bytesOf 3=8:=by kernel_rfl
theorem oB {α β:Type} {l:List α} {i:Nat} {x:α} (h:l[i]?=some x) (f:α→β):(l.take (i+1)).map f=(l.take i).map f++[f x]:=by
  obtain ⟨hl,rfl⟩:=List.getElem?_eq_some_iff.1 h
  rw [List.take_succ_eq_append_getElem hl,List.map_append]
  rfl
theorem agU {k n:Int} {v:Vl} {of:List Ex} (l:List Int) (hl:l.length<2^62) (hk:k=0∨k=1) (hf:aY (.mk k n v of)=true) (ht:cL l.length (.mk k n v of)=true):
    PF Tryz.prog 103 [.agg (Ex.mk k n v of).cells, .seq (fG l)] (.tup [(PV.val (Value.int .i64 ((aX l (.mk k n v of)).1))),(PV.val (Value.int .i64 ((aX l (.mk k n v of)).2)))]):=by
  by_cases hk0:k=0
  · subst hk0
    simp [aY,dR] at hf
    simp [cL] at ht
    have hn:n.toNat<l.length:=by omega
    obtain ⟨x,hx⟩:=eT hn
    have hrow:=rA hx
    have e:aX l (.mk 0 n v of)=(x,0):=by simp [aX,hx]
    rw [e]
    have hnn:n=((n.toNat:Nat):Int):=by omega
    refine aH aD Tryz.func103 (by kernel_rfl) rfl rfl rfl rfl (fun st=> ?_)
    (try (apply wO pk;exact rfl));(repeat' (first|(show All _;constructor)|(show Imp _ _;constructor)|(apply wC pk;(iterate 2 exact rfl))|(apply wE pk;(iterate 2 exact rfl))|(refine aA rfl (fun h=> ?_) (fun h=> ?_)<;>(try simp at h)<;>try (exfalso;omega))|(refine aB ?_;refine ⟨_,_,_,rfl,Wk.refl _,StSub.refl _, ?_,rfl⟩;try rfl)|(apply aM pk;(iterate 6 exact rfl);rotate_left;exact rfl;(intro hw;exact hnn);(intro hw;apply hrow<;>omega);(intro _;exact rfl);exact rfl)))
  · have hk1:k=1:=by omega
    subst hk1
    have e:aX l (.mk 1 n v of)=(v.kind,0):=by simp [aX]
    rw [e]
    refine aH aD Tryz.func103 (by kernel_rfl) rfl rfl rfl rfl (fun st=> ?_)
    (try (apply wO pk;exact rfl));(repeat' (first|(show All _;constructor)|(apply wC pk;(iterate 2 exact rfl))|(refine aA rfl (fun h=> ?_) (fun h=> ?_)<;>(try simp at h)<;>try (exfalso;omega))|(refine aB ?_;refine ⟨_,_,_,rfl,Wk.refl _,StSub.refl _, ?_,rfl⟩;try rfl)))
mutual
theorem uW (l:List Int) (hl:l.length<2^62):∀(e:Ex),e.ok→aY e=true→cL l.length e=true→PF Tryz.prog 103 [.agg e.cells, .seq (fG l)] (.tup [(PV.val (Value.int .i64 ((aX l e).1))),(PV.val (Value.int .i64 ((aX l e).2)))])
  | .mk k n v of,hok,hf,ht=>by
    have ih:=sL l hl of
    by_cases hk01:k=0∨k=1
    · exact agU l hl hk01 hf ht
    have hk0:¬k=0:=by omega
    have hk1:¬k=1:=by omega
    obtain ⟨hk,hn,hv,hlen,hall⟩:=lC hf hk0 hk1
    simp only [cL,Bool.and_eq_true,jI,List.all_eq_true] at ht
    simp only [Ex.ok] at hok
    have hm:=afH k
    have hrl:=Ex.rows_len of
    obtain ⟨fid,caps,hlook,_⟩:=uM hk.1 hk.2
    have hE:aX l (.mk k n v of)=match eS l of with|(_,some no)=>(0,no)|(got,none)=>if kC (fR k) 0 got then (1,0) else (0,6):=by simp only [aX,if_neg hk0,if_neg hk1];try rfl
    generalize aX l (.mk k n v of)=E at*
    refine aH aD Tryz.func103 (by kernel_rfl) rfl rfl rfl rfl (fun st=> ?_)
    focus ((try (apply wO pk;exact rfl));(repeat' (first|(show All _;constructor)|(apply wC pk;(iterate 2 exact rfl))|(refine aA rfl (fun h=> ?_) (fun h=> ?_)<;>(try simp at h)<;>try (exfalso;omega)))))
    refine pT 6 3 rfl rfl (fun id hid=> ?_)
    have hid:st id=none:=hid
    refine aJ (X:={x:Nat×Nat//x.1≤of.length∧st x.2=none∧∀j y,j<x.1→of[j]?=some y→(aX l y).2=0}) (fun i=>(((((((St.nil 53 (upd st i.1.2 (some (.tok 3)))).pv 1 (.seq (fG l))).var 2 75 ((Ex.mk k n v of).cells)).pv 6 (.own i.1.2 (((of.take i.1.1).map fun y=>(aX l y).1).map I1))).pv 26 (.seq (Ex.rows of))).pv 27 ((PV.val (Value.int .i64 (((Ex.rows of).length:Nat)))))).pv 28 ((PV.val (Value.int .i64 ((i.1.1:Nat))))))) (fun i=>of.length-i.1.1) ⟨(0,id),by simp,hid,by simp⟩ ?_ (fun i=> ?_)
    · (((repeat (first|refine Sub.pv ?_ rfl|refine Sub.var ?_ rfl rfl));(exact Sub.nil _ _ _ (StSub.refl _) rfl)))
    obtain ⟨⟨i,id⟩,hi,hid,hz⟩:=i
    simp only at hi hid hz
    dsimp only
    by_cases hend:of.length≤i
    · have htk:of.take i=of:=qP (by omega)
      have hgot:eS l of=(of.map fun y=>(aX l y).1,none):=qJ fun x hx=>by
        obtain ⟨j,hj⟩:=List.mem_iff_getElem?.1 hx
        exact hz j x (by have:=(List.getElem?_eq_some_iff.1 hj).1;omega) hj
      rw [hgot] at hE
      simp only at hE
      rw [htk]
      have hts:=oD (m:=cT k) (nb:=fR k) (f:=fid) (caps:=caps) (l:=of.map fun y=>(aX l y).1) (by simp;omega)
      unfold fG at hts
      generalize kC (fR k) 0 (of.map fun y=>(aX l y).1)=G at*
      cases G with
      |true=>
        rw [if_pos rfl] at hE
        (try (apply wO pk;exact rfl));(repeat' (first|(show All _;constructor)|(show Imp _ _;constructor)|(apply wC pk;(iterate 2 exact rfl))|(apply wE pk;(iterate 2 exact rfl))|(apply wD pk [] [];kernel_rfl;exact rfl;exact rfl)|(refine aA rfl (fun h=> ?_) (fun h=> ?_)<;>(try simp at h)<;>try (exfalso;omega))|(refine aB ?_;first|(refine ⟨_,_,_,rfl,Wk.refl _,StSub.refl _, ?_,rfl⟩;(fail))|(refine ⟨_,_,_,rfl,Wk.refl _,aK (by assumption), ?_,rfl⟩;(((rw [hE]);done)))|(refine ⟨_,_,_,rfl,Wk.soft _,StSub.refl _, ?_,rfl⟩;(fail))|(refine ⟨_,_,_,rfl,Wk.soft _,aK (by assumption), ?_,rfl⟩;(fail))|(refine ⟨_,_,_,rfl,Wk.refl _,StSub.refl _, ?_,rfl⟩)|(refine ⟨_,_,_,rfl,Wk.soft _,aK (by assumption), ?_,rfl⟩))|(apply aI;(iterate 3 exact rfl);(intro _;(apply dJ)<;>first|assumption|omega);rotate_left;(iterate 2 exact rfl))|(apply kK;(iterate 3 exact rfl);(intro _;(apply hts)<;>first|assumption|omega);rotate_left;(iterate 2 exact rfl))|((apply oN pk;(iterate 4 exact rfl);(focus repeat' constructor);exact rfl;exact hlook;exact rfl))))
      |false=>
        rw [if_neg (by simp)] at hE
        (try (apply wO pk;exact rfl));(repeat' (first|(show All _;constructor)|(show Imp _ _;constructor)|(apply wC pk;(iterate 2 exact rfl))|(apply wE pk;(iterate 2 exact rfl))|(apply wD pk [] [];kernel_rfl;exact rfl;exact rfl)|(refine aA rfl (fun h=> ?_) (fun h=> ?_)<;>(try simp at h)<;>try (exfalso;omega))|(refine aB ?_;first|(refine ⟨_,_,_,rfl,Wk.refl _,StSub.refl _, ?_,rfl⟩;(fail))|(refine ⟨_,_,_,rfl,Wk.refl _,aK (by assumption), ?_,rfl⟩;(((rw [hE]);done)))|(refine ⟨_,_,_,rfl,Wk.soft _,StSub.refl _, ?_,rfl⟩;(fail))|(refine ⟨_,_,_,rfl,Wk.soft _,aK (by assumption), ?_,rfl⟩;(fail))|(refine ⟨_,_,_,rfl,Wk.refl _,StSub.refl _, ?_,rfl⟩)|(refine ⟨_,_,_,rfl,Wk.soft _,aK (by assumption), ?_,rfl⟩))|(apply aI;(iterate 3 exact rfl);(intro _;(apply dJ)<;>first|assumption|omega);rotate_left;(iterate 2 exact rfl))|(apply kK;(iterate 3 exact rfl);(intro _;(apply hts)<;>first|assumption|omega);rotate_left;(iterate 2 exact rfl))|((apply oN pk;(iterate 4 exact rfl);(focus repeat' constructor);exact rfl;exact hlook;exact rfl))))
    obtain ⟨x,hx⟩:=eT (l:=of) (i:=i) (by omega)
    have hrow:=Ex.rows_get hx
    have hm':=List.mem_of_getElem? hx
    have ihx:=ih x hm' (Ex.oks_mem hok.2 hm') (hall x hm') (ht.2 x hm')
    have hsome:=fun h0=>qO (l:=l) hz hx h0
    have hzs:(aX l x).2=0→∀j y,j<i+1→of[j]?=some y→(aX l y).2=0:=fun h0 j y hj hy=>by
      by_cases hji:j=i
      · subst hji;rw [hx] at hy;injection hy with hy;subst hy;exact h0
      · exact hz j y (by omega) hy
    have hmap:((of.take (i+1)).map fun y=>(aX l y).1).map I1=((of.take i).map fun y=>(aX l y).1).map I1++[I1 (aX l x).1]:=by rw [oB hx (fun y=>(aX l y).1),List.map_append];rfl
    have hE2:(aX l x).2≠0→E=(0,(aX l x).2):=fun h0=>by
      have:=hsome h0
      rw [hE]
      revert this
      cases eS l of with|mk a b=>intro this;simp only at this;subst this;rfl
    clear hsome hE
    generalize hr:aX l x=r at*
    obtain ⟨r1,r2⟩:=r
    obtain ⟨k',n',v',of'⟩:=x
    dsimp only at*
    by_cases h2:r2=0
    · have hz2:=hzs h2
      (try (apply wO pk;exact rfl));(repeat' (first|(show All _;constructor)|(show Imp _ _;constructor)|(apply wC pk;(iterate 2 exact rfl))|(apply wE pk;(iterate 2 exact rfl))|(refine aA rfl (fun h=> ?_) (fun h=> ?_)<;>(try simp at h)<;>try (exfalso;omega))|(apply aI;(iterate 3 exact rfl);(intro _;apply ihx<;>first|assumption|omega);rotate_left;(iterate 2 exact rfl))|(apply aM pk;(iterate 6 exact rfl);rotate_left;exact rfl;(intro hw;exact rfl);(intro hw;apply hrow<;>omega);(intro _;exact (Ex.cells_len _));exact rfl)|(refine ⟨⟨(i+1,id'),by simp only;omega,gL hid',hz2⟩, ?_,by simp only;omega⟩;((dsimp only;rw [hmap]));(((repeat (first|refine Sub.pv ?_ rfl|refine Sub.var ?_ rfl rfl|refine Sub.pv' ?_ rfl (by (first|rfl|(simp [I1];done)))));(exact Sub.nil _ _ _ (cE (by assumption)) rfl))))|(apply apS pk (r1) 8;(iterate 8 exact rfl);exact aC _ _ _;exact fun _=>rfl;exact fun _=>rfl;exact mR;((simp;omega));((simp;omega));exact rfl;intro id' hid')|(intros;(try simp only [zql]);omega)))
    · have e:=hE2 h2
      (try (apply wO pk;exact rfl));(repeat' (first|(show All _;constructor)|(show Imp _ _;constructor)|(apply wC pk;(iterate 2 exact rfl))|(apply wE pk;(iterate 2 exact rfl))|(refine aA rfl (fun h=> ?_) (fun h=> ?_)<;>(try simp at h)<;>try (exfalso;omega))|(refine aB ?_;first|(refine ⟨_,_,_,rfl,Wk.refl _,StSub.refl _, ?_,rfl⟩;(fail))|(refine ⟨_,_,_,rfl,Wk.refl _,aK (by assumption), ?_,rfl⟩;(((rw [e]);done)))|(refine ⟨_,_,_,rfl,Wk.soft _,StSub.refl _, ?_,rfl⟩;(fail))|(refine ⟨_,_,_,rfl,Wk.soft _,aK (by assumption), ?_,rfl⟩;(fail))|(refine ⟨_,_,_,rfl,Wk.refl _,StSub.refl _, ?_,rfl⟩)|(refine ⟨_,_,_,rfl,Wk.soft _,aK (by assumption), ?_,rfl⟩))|(apply aI;(iterate 3 exact rfl);(intro _;apply ihx<;>first|assumption|omega);rotate_left;(iterate 2 exact rfl))|(apply aM pk;(iterate 6 exact rfl);rotate_left;exact rfl;(intro hw;exact rfl);(intro hw;apply hrow<;>omega);(intro _;exact (Ex.cells_len _));exact rfl)))
theorem sL (l:List Int) (hl:l.length<2^62):∀(os:List Ex) (x:Ex),x∈os→x.ok→aY x=true→cL l.length x=true→PF Tryz.prog 103 [.agg x.cells, .seq (fG l)] (.tup [(PV.val (Value.int .i64 ((aX l x).1))),(PV.val (Value.int .i64 ((aX l x).2)))])
  |[],_,h,_=>by cases h
  |e::es,x,h,hok=>by
    rcases List.mem_cons.1 h with h|h
    · rw [h] at hok⊢;exact uW l hl e hok
    · exact sL l hl es x h hok
end
def eJ (e:Ex) (l:List Int):Int×Int:=if jC e≠0 then (0,jC e) else if cL l.length e then aX l e else (0,4)
theorem fY {e:Ex} (h:jC e=0):dF 20 e=false∧aY e=true:=by
  unfold jC at h
  split at h
  · omega
  · rename_i h1
    split at h
    · rename_i h2;exact ⟨by simpa using h1,h2⟩
    · omega
theorem alJ {e:Ex} (hok:e.ok) {l:List Int} (hl:l.length<2^62):PF Tryz.prog 62 [.agg e.cells, .seq (fG l)] (.tup [(PV.val (Value.int .i64 ((eJ e l).1))),(PV.val (Value.int .i64 ((eJ e l).2)))]):=by
  have h1:=gW hok
  have h2:=vW ((l.length:Nat):Int) e hok
  have hlen:=nR l
  rw [←hlen] at h2
  by_cases hm:jC e=0
  · rw [hm] at h1
    cases ht:cL l.length e with
    |true=>
      have h3:=uW l hl e hok (fY hm).2 ht
      rw [hlen,ht] at h2
      rw [←hlen] at h2
      have e1:eJ e l=aX l e:=by unfold eJ;rw [if_neg (fun q=>q hm),if_pos ht]
      rw [e1]
      generalize aX l e=R at*
      clear hm ht e1
      obtain ⟨k,n,v,of⟩:=e
      refine aH aD Tryz.func62 (by kernel_rfl) rfl rfl rfl rfl (fun st=> ?_)
      (try (apply wO pk;exact rfl));(repeat' (first|(show All _;constructor)|(show Imp _ _;constructor)|(apply wC pk;(iterate 2 exact rfl))|(apply wE pk;(iterate 2 exact rfl))|(refine aA rfl (fun h=> ?_) (fun h=> ?_)<;>(try simp at h)<;>try (exfalso;omega))|(refine aB ?_;refine ⟨_,_,_,rfl,Wk.refl _,StSub.refl _, ?_,rfl⟩;try rfl)|(apply aI;(iterate 3 exact rfl);(intro _;(first|apply h1|apply h2|apply h3)<;>first|assumption|omega);rotate_left;(iterate 2 exact rfl))))
    |false=>
      rw [hlen,ht] at h2
      rw [←hlen] at h2
      have e1:eJ e l=(0,4):=by unfold eJ;rw [if_neg (fun q=>q hm),if_neg (by rw [ht];simp)]
      rw [e1]
      clear hm ht e1
      obtain ⟨k,n,v,of⟩:=e
      refine aH aD Tryz.func62 (by kernel_rfl) rfl rfl rfl rfl (fun st=> ?_)
      (try (apply wO pk;exact rfl));(repeat' (first|(show All _;constructor)|(show Imp _ _;constructor)|(apply wC pk;(iterate 2 exact rfl))|(apply wE pk;(iterate 2 exact rfl))|(refine aA rfl (fun h=> ?_) (fun h=> ?_)<;>(try simp at h)<;>try (exfalso;omega))|(refine aB ?_;refine ⟨_,_,_,rfl,Wk.refl _,StSub.refl _, ?_,rfl⟩;try rfl)|(apply aI;(iterate 3 exact rfl);(intro _;(first|apply h1|apply h2)<;>first|assumption|omega);rotate_left;(iterate 2 exact rfl))))
  · have e1:eJ e l=(0,jC e):=by unfold eJ;rw [if_pos hm]
    rw [e1]
    generalize jC e=M at*
    clear e1 h2
    obtain ⟨k,n,v,of⟩:=e
    refine aH aD Tryz.func62 (by kernel_rfl) rfl rfl rfl rfl (fun st=> ?_)
    (try (apply wO pk;exact rfl));(repeat' (first|(show All _;constructor)|(show Imp _ _;constructor)|(apply wC pk;(iterate 2 exact rfl))|(apply wE pk;(iterate 2 exact rfl))|(refine aA rfl (fun h=> ?_) (fun h=> ?_)<;>(try simp at h)<;>try (exfalso;omega))|(refine aB ?_;refine ⟨_,_,_,rfl,Wk.refl _,StSub.refl _, ?_,rfl⟩;try rfl)|(apply aI;(iterate 3 exact rfl);(intro _;apply h1<;>first|assumption|omega);rotate_left;(iterate 2 exact rfl))))
mutual
def bD (row:List Vl):Ex→Vl×Int
  | .mk k n v o=>if k=0 then (if n≥row.length then (v0,4) else (row.getD n.toNat v0,0)) else if k=1 then (v,0) else
      match gG row o with
      |(_,some no)=>(v0,no)
      |(got,none)=>if kC (fR k) 0 (got.map Vl.kind) then jK k (got.getD 0 v0) (got.getD (cT k-1).toNat v0) else (v0,6)
def gG (row:List Vl):List Ex→List Vl×Option Int
  |[]=>([],none)
  |e::es=>if (bD row e).2=0 then ((bD row e).1::(gG row es).1,(gG row es).2) else ([],some (bD row e).2)
end
theorem tN {row:List Vl}:∀{os:List Ex},(∀x∈os,(bD row x).2=0)→gG row os=(os.map fun x=>(bD row x).1,none)
  |[],_=>rfl
  |e::es,h=>by
    have ih:=tN (row:=row) (os:=es) fun x hx=>h x (by simp [hx])
    simp [gG,h e (by simp),ih]
theorem sT {row:List Vl}:∀{os:List Ex} {i:Nat} {x:Ex},(∀j y,j<i→os[j]?=some y→(bD row y).2=0)→os[i]?=some x→(bD row x).2≠0→(gG row os).2=some (bD row x).2
  |[],_,_,_,h,_=>by simp at h
  |e::es,0,x,_,h,hx=>by
    simp at h;subst h
    simp [gG,hx]
  |e::es,i+1,x,h0,h,hx=>by
    simp at h
    have h1:=h0 0 e (by omega) (by simp)
    have ih:=sT (row:=row) (os:=es) (i:=i) (fun j y hj hy=>h0 (j+1) y (by omega) (by simpa using hy)) h hx
    simp [gG,h1,ih]
theorem amT {v:Vl} (h:rightV v=true):lim v.n:=by
  unfold rightV at h
  split at h
  · simp at h;unfold lim;omega
  · split at h
    · simp at h;unfold lim;omega
    · split at h
      · simp at h;unfold lim;omega
      · cases h
theorem oX :lim v0.n:=by unfold lim v0;simp only;omega
theorem zP (b:Bool):lim (dV b).n:=by unfold lim dV vN;cases b<;>simp
theorem apJ {op:Int→Int→Int} {a b:Vl}:lim (lM op a b).1.n:=by
  unfold lM
  split
  · exact oX
  · rename_i h
    simp [lR] at h
    unfold lim vN;simp only;omega
theorem zB {r:Vl→Vl→Vl×Int} {a b:Vl} (h:lim (r a b).1.n):lim (fQ r a b).1.n:=by
  unfold fQ
  split
  · exact oX
  · exact h
theorem auD (k:Int) (a b:Vl):lim (jK k a b).1.n:=by
  unfold jK
  repeat' split
  all_goals first
    |exact zB apJ
    |exact zB (zP _)
    |exact zP _
    |(unfold sQ;(repeat' split)<;>first|exact oX|(unfold lim vN;simp only;omega))
theorem asZ {row:List Vl} (h:∀v∈row,lim v.n) (i:Nat):lim (row.getD i v0).n:=by
  rw [List.getD_eq_getElem?_getD]
  cases hi:row[i]? with
  |none=>exact oX
  |some x=>exact h x (List.mem_of_getElem? hi)
theorem asR {row:List Vl} (hr:∀v∈row,lim v.n):∀{e:Ex},aY e=true→lim (bD row e).1.n
  | .mk k n v of,hf=>by
    simp only [bD]
    split
    · split
      · exact oX
      · exact asZ hr _
    · split
      · rename_i h0 h1
        subst h1
        simp [aY,dR] at hf
        exact amT hf.1.2
      · split
        · exact oX
        · split
          · exact auD _ _ _
          · exact oX
def rowOK (row:List Vl):Prop:=row.length<2^62∧∀v∈row,lim v.n
theorem aoL {k n:Int} {v:Vl} {of:List Ex} {row:List Vl} (hr:rowOK row) (hk:k=0∨k=1) (hf:aY (.mk k n v of)=true):
    PF Tryz.prog 110 [.agg (Ex.mk k n v of).cells, .seq (row.map Vl.cells)] (cS (bD row (.mk k n v of))):=by
  have hlen:(row.map Vl.cells).length=row.length:=zql _
  have hrl:=hr.1
  by_cases hk0:k=0
  · subst hk0
    simp [aY,dR] at hf
    by_cases h2:n≥row.length
    · have e:bD row (.mk 0 n v of)=(v0,4):=by simp only [bD,if_pos];rw [if_pos h2]
      rw [e]
      refine aH aD Tryz.func110 (by kernel_rfl) rfl rfl rfl rfl (fun st=> ?_)
      (try (apply wO pk;exact rfl));(repeat' (first|(show All _;constructor)|(apply wC pk;(iterate 2 exact rfl))|(refine aA rfl (fun h=> ?_) (fun h=> ?_)<;>(try simp at h)<;>try (exfalso;omega))|(refine aB ?_;refine ⟨_,_,_,rfl,Wk.refl _,StSub.refl _, ?_,rfl⟩;try rfl)))
    · have hn:n.toNat<row.length:=by omega
      have hx:=getElem?_pos row n.toNat hn
      have e:bD row (.mk 0 n v of)=(row[n.toNat],0):=by simp only [bD,if_pos];rw [if_neg h2];simp [hx]
      rw [e]
      have hrow:(row.map Vl.cells)[n.toNat]?=some row[n.toNat].cells:=by rw [List.getElem?_map,hx];rfl
      have hnn:n=((n.toNat:Nat):Int):=by omega
      refine aH aD Tryz.func110 (by kernel_rfl) rfl rfl rfl rfl (fun st=> ?_)
      (try (apply wO pk;exact rfl));(repeat' (first|(show All _;constructor)|(show Imp _ _;constructor)|(apply wC pk;(iterate 2 exact rfl))|(apply wE pk;(iterate 2 exact rfl))|(refine aA rfl (fun h=> ?_) (fun h=> ?_)<;>(try simp at h)<;>try (exfalso;omega))|(refine aB ?_;refine ⟨_,_,_,rfl,Wk.refl _,StSub.refl _, ?_,rfl⟩;try rfl)|(apply aM pk;(iterate 6 exact rfl);rotate_left;exact rfl;(intro hw;exact hnn);(intro hw;apply hrow<;>omega);(intro _;exact rfl);exact rfl)))
  · have hk1:k=1:=by omega
    subst hk1
    have e:bD row (.mk 1 n v of)=(v,0):=by simp [bD]
    rw [e]
    refine aH aD Tryz.func110 (by kernel_rfl) rfl rfl rfl rfl (fun st=> ?_)
    (try (apply wO pk;exact rfl));(repeat' (first|(show All _;constructor)|(apply wC pk;(iterate 2 exact rfl))|(refine aA rfl (fun h=> ?_) (fun h=> ?_)<;>(try simp at h)<;>try (exfalso;omega))|(refine aB ?_;refine ⟨_,_,_,rfl,Wk.refl _,StSub.refl _, ?_,rfl⟩;try rfl)))
def ajV :List PV:=[(PV.val (Value.int .i64 (0))),(PV.val (Value.int .i64 (0))),(PV.val (Value.string (e0)))]
def aAM :List Vl→List PV
  |[]=>ajV++ajV
  |[a]=>a.cells++ajV
  |a::b::_=>a.cells++b.cells
mutual
theorem zM {row:List Vl} (hr:rowOK row):∀(e:Ex),e.ok→aY e=true→PF Tryz.prog 110 [.agg e.cells, .seq (row.map Vl.cells)] (cS (bD row e))
  | .mk k n v of,hok,hf=>by
    have ih:=wT hr of
    by_cases hk01:k=0∨k=1
    · exact aoL hr hk01 hf
    have hk0:¬k=0:=by omega
    have hk1:¬k=1:=by omega
    obtain ⟨hk,hn,hv,hlen,hall⟩:=lC hf hk0 hk1
    simp only [Ex.ok] at hok
    have hm:=afH k
    have hrl:=Ex.rows_len of
    obtain ⟨fid,caps,hlook,hsays⟩:=uM hk.1 hk.2
    have hE:bD row (.mk k n v of)=match gG row of with|(_,some no)=>(v0,no)|(got,none)=>if kC (fR k) 0 (got.map Vl.kind) then jK k (got.getD 0 v0) (got.getD (cT k-1).toNat v0) else (v0,6):=by simp only [bD,if_neg hk0,if_neg hk1];try rfl
    generalize bD row (.mk k n v of)=E at*
    refine aH aD Tryz.func110 (by kernel_rfl) rfl rfl rfl rfl (fun st=> ?_)
    focus ((try (apply wO pk;exact rfl));(repeat' (first|(show All _;constructor)|(apply wC pk;(iterate 2 exact rfl))|(refine aA rfl (fun h=> ?_) (fun h=> ?_)<;>(try simp at h)<;>try (exfalso;omega)))))
    refine pT 7 3 rfl rfl (fun id hid=> ?_)
    have hid:st id=none:=hid
    refine aJ (X:={x:List Vl×Nat//x.1.length≤of.length∧st x.2=none∧x.1=(of.take x.1.length).map (fun y=>(bD row y).1)∧∀j y,j<x.1.length→of[j]?=some y→(bD row y).2=0}) (fun i=>(((((((((St.nil 81 (upd st i.1.2 (some (.tok 3)))).pv 1 (.seq (row.map Vl.cells))).var 2 75 ((Ex.mk k n v of).cells)).var 4 47 (ajV)).var 6 177 (aAM i.1.1)).pv 7 (.own i.1.2 ((i.1.1.map Vl.kind).map I1))).pv 33 (.seq (Ex.rows of))).pv 34 ((PV.val (Value.int .i64 (((Ex.rows of).length:Nat)))))).pv 35 ((PV.val (Value.int .i64 ((i.1.1.length:Nat))))))) (fun i=>of.length-i.1.1.length) ⟨([],id),by simp,hid,by simp,by simp⟩ ?_ (fun i=> ?_)
    · (((repeat (first|refine Sub.pv ?_ rfl|refine Sub.var ?_ rfl rfl));(exact Sub.nil _ _ _ (StSub.refl _) rfl)))
    obtain ⟨⟨got,id⟩,hi,hid,hgot,hz⟩:=i
    simp only at hi hid hgot hz
    dsimp only
    by_cases hend:of.length≤got.length
    · have hle:got.length=of.length:=by omega
      have htk:of.take got.length=of:=qP (by omega)
      rw [htk] at hgot
      have hall2:∀x∈of,(bD row x).2=0:=fun x hx=>by
        obtain ⟨j,hj⟩:=List.mem_iff_getElem?.1 hx
        exact hz j x (by have:=(List.getElem?_eq_some_iff.1 hj).1;omega) hj
      have hgot2:gG row of=(got,none):=by rw [hgot];exact tN hall2
      have hlim:∀v∈got,lim v.n:=fun v hv=>by
        rw [hgot] at hv
        obtain ⟨e,he,rfl⟩:=List.mem_map.1 hv
        exact asR hr.2 (hall e he)
      have hts:=oD (m:=cT k) (nb:=fR k) (f:=fid) (caps:=caps) (l:=got.map Vl.kind) (by simp;omega)
      unfold fG at hts
      rw [hgot2] at hE
      simp only at hE
      clear hgot2 hall2 hz hgot htk
      generalize kC (fR k) 0 (got.map Vl.kind)=G at*
      cases G with
      |false=>
        rw [if_neg (by simp)] at hE
        (try (apply wO pk;exact rfl));(repeat' (first|(show All _;constructor)|(show Imp _ _;constructor)|(apply wC pk;(iterate 2 exact rfl))|(apply wE pk;(iterate 2 exact rfl))|(apply wD pk [] [];kernel_rfl;exact rfl;exact rfl)|(refine aA rfl (fun h=> ?_) (fun h=> ?_)<;>(try simp at h)<;>try (exfalso;omega))|(refine aB ?_;first|(refine ⟨_,_,_,rfl,Wk.refl _,StSub.refl _, ?_,rfl⟩;(fail))|(refine ⟨_,_,_,rfl,Wk.refl _,aK (by assumption), ?_,rfl⟩;(((rw [hE];rfl);done)))|(refine ⟨_,_,_,rfl,Wk.soft _,StSub.refl _, ?_,rfl⟩;(fail))|(refine ⟨_,_,_,rfl,Wk.soft _,aK (by assumption), ?_,rfl⟩;(fail))|(refine ⟨_,_,_,rfl,Wk.refl _,StSub.refl _, ?_,rfl⟩)|(refine ⟨_,_,_,rfl,Wk.soft _,aK (by assumption), ?_,rfl⟩))|(apply aI;(iterate 3 exact rfl);(intro _;(apply dJ)<;>first|assumption|omega);rotate_left;(iterate 2 exact rfl))|(apply kK;(iterate 3 exact rfl);(intro _;(apply hts)<;>first|assumption|omega);rotate_left;(iterate 2 exact rfl))|((apply oN pk;(iterate 4 exact rfl);(focus repeat' constructor);exact rfl;exact hlook;exact rfl))))
      |true=>
        rw [if_pos rfl] at hE
        rcases got with _|⟨a,_|⟨b,_|⟨_,_⟩⟩⟩
        · simp only [List.length_nil] at hle;omega
        · have hm1:cT k=1:=by simp only [List.length_cons,List.length_nil] at hle;omega
          have ha:=hlim a (by simp)
          have hs:=hsays a.kind a.n a.s a.kind a.n a.s ha ha
          rw [hm1] at hE hts hlook
          have e:E=jK k a a:=hE
          rw [e]
          generalize jK k a a=R at*
          (try (apply wO pk;exact rfl));(repeat' (first|(show All _;constructor)|(show Imp _ _;constructor)|(apply wC pk;(iterate 2 exact rfl))|(apply wE pk;(iterate 2 exact rfl))|(apply wD pk [] [];kernel_rfl;exact rfl;exact rfl)|(refine aA rfl (fun h=> ?_) (fun h=> ?_)<;>(try simp at h)<;>try (exfalso;omega))|(refine aB ?_;first|(refine ⟨_,_,_,rfl,Wk.refl _,StSub.refl _, ?_,rfl⟩;(fail))|(refine ⟨_,_,_,rfl,Wk.refl _,aK (by assumption), ?_,rfl⟩;(rfl))|(refine ⟨_,_,_,rfl,Wk.soft _,StSub.refl _, ?_,rfl⟩;(fail))|(refine ⟨_,_,_,rfl,Wk.soft _,aK (by assumption), ?_,rfl⟩;(fail))|(refine ⟨_,_,_,rfl,Wk.refl _,StSub.refl _, ?_,rfl⟩)|(refine ⟨_,_,_,rfl,Wk.soft _,aK (by assumption), ?_,rfl⟩))|(apply aI;(iterate 3 exact rfl);(intro _;(first|apply dJ|apply hs)<;>first|assumption|omega);rotate_left;(iterate 2 exact rfl))|(apply kK;(iterate 3 exact rfl);(intro _;(apply hts)<;>first|assumption|omega);rotate_left;(iterate 2 exact rfl))|((apply oN pk;(iterate 4 exact rfl);(focus repeat' constructor);exact rfl;exact hlook;exact rfl))|((apply aqB pk 0;(iterate 5 exact rfl);(focus repeat' constructor);exact rfl;(intro _;rfl);(intro _;omega);exact rfl))|(intros;(try simp only [zql]);omega)))
        · have hm1:cT k=2:=by simp only [List.length_cons,List.length_nil] at hle;omega
          have ha:=hlim a (by simp)
          have hb:=hlim b (by simp)
          have hs:=hsays a.kind a.n a.s b.kind b.n b.s ha hb
          rw [hm1] at hE hts hlook
          have e:E=jK k a b:=hE
          rw [e]
          generalize jK k a b=R at*
          (try (apply wO pk;exact rfl));(repeat' (first|(show All _;constructor)|(show Imp _ _;constructor)|(apply wC pk;(iterate 2 exact rfl))|(apply wE pk;(iterate 2 exact rfl))|(apply wD pk [] [];kernel_rfl;exact rfl;exact rfl)|(refine aA rfl (fun h=> ?_) (fun h=> ?_)<;>(try simp at h)<;>try (exfalso;omega))|(refine aB ?_;first|(refine ⟨_,_,_,rfl,Wk.refl _,StSub.refl _, ?_,rfl⟩;(fail))|(refine ⟨_,_,_,rfl,Wk.refl _,aK (by assumption), ?_,rfl⟩;(rfl))|(refine ⟨_,_,_,rfl,Wk.soft _,StSub.refl _, ?_,rfl⟩;(fail))|(refine ⟨_,_,_,rfl,Wk.soft _,aK (by assumption), ?_,rfl⟩;(fail))|(refine ⟨_,_,_,rfl,Wk.refl _,StSub.refl _, ?_,rfl⟩)|(refine ⟨_,_,_,rfl,Wk.soft _,aK (by assumption), ?_,rfl⟩))|(apply aI;(iterate 3 exact rfl);(intro _;(first|apply dJ|apply hs)<;>first|assumption|omega);rotate_left;(iterate 2 exact rfl))|(apply kK;(iterate 3 exact rfl);(intro _;(apply hts)<;>first|assumption|omega);rotate_left;(iterate 2 exact rfl))|((apply oN pk;(iterate 4 exact rfl);(focus repeat' constructor);exact rfl;exact hlook;exact rfl))|((apply aqB pk 0;(iterate 5 exact rfl);(focus repeat' constructor);exact rfl;(intro _;rfl);(intro _;omega);exact rfl))|((apply aqB pk 1;(iterate 5 exact rfl);(focus repeat' constructor);exact rfl;(intro _;rfl);(intro _;omega);exact rfl))|(intros;(try simp only [zql]);omega)))
        · simp only [List.length_cons] at hle;omega
    obtain ⟨x,hx⟩:=eT (l:=of) (i:=got.length) (by omega)
    have hrow:=Ex.rows_get hx
    have hm':=List.mem_of_getElem? hx
    have ihx:=ih x hm' (Ex.oks_mem hok.2 hm') (hall x hm')
    have hsome:=fun h0=>sT (row:=row) hz hx h0
    have hzs:(bD row x).2=0→∀j y,j<got.length+1→of[j]?=some y→(bD row y).2=0:=fun h0 j y hj hy=>by
      by_cases hji:j=got.length
      · subst hji;rw [hx] at hy;injection hy with hy;subst hy;exact h0
      · exact hz j y (by omega) hy
    have hmap:=oB hx (fun y=>(bD row y).1)
    rw [←hgot] at hmap
    have hE2:(bD row x).2≠0→E=(v0,(bD row x).2):=fun h0=>by
      have:=hsome h0
      rw [hE]
      revert this
      cases gG row of with|mk a b=>intro this;simp only at this;subst this;rfl
    clear hsome hE
    generalize hrr:bD row x=r at*
    obtain ⟨⟨rk,rn,rs⟩,re⟩:=r
    obtain ⟨k',n',v',of'⟩:=x
    dsimp only at*
    by_cases h2:re=0
    · have hz2:=hzs h2
      have hg2:got.length<2:=by omega
      rcases got with _|⟨a,_|⟨b,_⟩⟩
      · simp only [List.length_nil] at hend hi
        have hne:¬(Ex.rows of=[]):=fun q=>by rw [q] at hrl;simp only [List.length_nil] at hrl;omega
        have hz1:(List.map Vl.kind ([]:List Vl)).length=0:=rfl
        have w1:([⟨rk,rn,rs⟩]:List Vl).length≤of.length:=by show 1≤of.length;omega
        have w2:([⟨rk,rn,rs⟩]:List Vl).length=1:=rfl
        have w3:([]:List Vl).length=0:=rfl
        have hz3:(List.map I1 (List.map Vl.kind ([]:List Vl))).length=0:=rfl
        (try (apply wO pk;exact rfl));(repeat' (first|(exact absurd (by assumption:Ex.rows of=[]) hne)|(show All _;constructor)|(show Imp _ _;constructor)|(apply wC pk;(iterate 2 exact rfl))|(apply wE pk;(iterate 2 exact rfl))|(refine aA rfl (fun h=> ?_) (fun h=> ?_)<;>(try simp at h)<;>try (exfalso;omega))|(apply aI;(iterate 3 exact rfl);(intro _;apply ihx<;>first|assumption|omega);rotate_left;(iterate 2 exact rfl))|(apply aM pk;(iterate 6 exact rfl);rotate_left;exact rfl;(intro hw;exact rfl);(intro hw;apply hrow<;>omega);(intro _;exact (Ex.cells_len _));exact rfl)|((apply aqB pk 0;(iterate 5 exact rfl);(focus repeat' constructor);exact rfl;(intro _;rfl);(intro _;omega);exact rfl))|(refine ⟨⟨([⟨rk,rn,rs⟩],id'),w1,gL hid',hmap.symm,hz2⟩, ?_,by simp only;omega⟩;((dsimp only));(((repeat (first|refine Sub.pv ?_ rfl|refine Sub.var ?_ rfl rfl));(exact Sub.nil _ _ _ (cE (by assumption)) rfl))))|(apply apS pk (rk) 8;(iterate 8 exact rfl);exact aC _ _ _;exact fun _=>rfl;exact fun _=>rfl;exact mR;(omega);(omega);exact rfl;intro id' hid')|(intros;(try simp only [zql]);omega)))
      · simp only [List.length_cons,List.length_nil] at hend hi
        have hz1:(List.map Vl.kind [a]).length=1:=rfl
        have w1:([a,⟨rk,rn,rs⟩]:List Vl).length≤of.length:=by show 2≤of.length;omega
        have w2:([a,⟨rk,rn,rs⟩]:List Vl).length=2:=rfl
        have w3:[a].length=1:=rfl
        have hz3:(List.map I1 (List.map Vl.kind [a])).length=1:=rfl
        (try (apply wO pk;exact rfl));(repeat' (first|(show All _;constructor)|(show Imp _ _;constructor)|(apply wC pk;(iterate 2 exact rfl))|(apply wE pk;(iterate 2 exact rfl))|(refine aA rfl (fun h=> ?_) (fun h=> ?_)<;>(try simp at h)<;>try (exfalso;omega))|(apply aI;(iterate 3 exact rfl);(intro _;apply ihx<;>first|assumption|omega);rotate_left;(iterate 2 exact rfl))|(apply aM pk;(iterate 6 exact rfl);rotate_left;exact rfl;(intro hw;exact rfl);(intro hw;apply hrow<;>omega);(intro _;exact (Ex.cells_len _));exact rfl)|((apply aqB pk 1;(iterate 5 exact rfl);(focus repeat' constructor);exact rfl;(intro _;rfl);(intro _;omega);exact rfl))|(refine ⟨⟨([a,⟨rk,rn,rs⟩],id'),w1,gL hid',hmap.symm,hz2⟩, ?_,by simp only;omega⟩;((dsimp only));(((repeat (first|refine Sub.pv ?_ rfl|refine Sub.var ?_ rfl rfl));(exact Sub.nil _ _ _ (cE (by assumption)) rfl))))|(apply apS pk (rk) 8;(iterate 8 exact rfl);exact aC _ _ _;exact fun _=>rfl;exact fun _=>rfl;exact mR;(omega);(omega);exact rfl;intro id' hid')|(intros;(try simp only [zql]);omega)))
      · exact absurd hg2 (by simp)
    · have e:=hE2 h2
      (try (apply wO pk;exact rfl));(repeat' (first|(show All _;constructor)|(show Imp _ _;constructor)|(apply wC pk;(iterate 2 exact rfl))|(apply wE pk;(iterate 2 exact rfl))|(refine aA rfl (fun h=> ?_) (fun h=> ?_)<;>(try simp at h)<;>try (exfalso;omega))|(refine aB ?_;first|(refine ⟨_,_,_,rfl,Wk.refl _,StSub.refl _, ?_,rfl⟩;(fail))|(refine ⟨_,_,_,rfl,Wk.refl _,aK (by assumption), ?_,rfl⟩;(((rw [e];rfl);done)))|(refine ⟨_,_,_,rfl,Wk.soft _,StSub.refl _, ?_,rfl⟩;(fail))|(refine ⟨_,_,_,rfl,Wk.soft _,aK (by assumption), ?_,rfl⟩;(fail))|(refine ⟨_,_,_,rfl,Wk.refl _,StSub.refl _, ?_,rfl⟩)|(refine ⟨_,_,_,rfl,Wk.soft _,aK (by assumption), ?_,rfl⟩))|(apply aI;(iterate 3 exact rfl);(intro _;apply ihx<;>first|assumption|omega);rotate_left;(iterate 2 exact rfl))|(apply aM pk;(iterate 6 exact rfl);rotate_left;exact rfl;(intro hw;exact rfl);(intro hw;apply hrow<;>omega);(intro _;exact (Ex.cells_len _));exact rfl)))
theorem wT {row:List Vl} (hr:rowOK row):∀(os:List Ex) (x:Ex),x∈os→x.ok→aY x=true→PF Tryz.prog 110 [.agg x.cells, .seq (row.map Vl.cells)] (cS (bD row x))
  |[],_,h,_=>by cases h
  |e::es,x,h,hok=>by
    rcases List.mem_cons.1 h with h|h
    · rw [h] at hok⊢;exact zM hr e hok
    · exact wT hr es x h hok
end
def EvalR (e:Ex) (row:List Vl):Vl×Int:=if jC e≠0 then (v0,jC e) else bD row e
theorem Eval_spec {e:Ex} (hok:e.ok) {row:List Vl} (hr:rowOK row):PF Tryz.prog 67 [.agg e.cells, .seq (row.map Vl.cells)] (cS (EvalR e row)):=by
  have h1:=gW hok
  by_cases hm:jC e=0
  · have h3:=zM hr e hok (fY hm).2
    rw [hm] at h1
    have e1:EvalR e row=bD row e:=by unfold EvalR;rw [if_neg (fun q=>q hm)]
    rw [e1]
    generalize bD row e=R at*
    clear hm e1
    obtain ⟨k,n,v,of⟩:=e
    refine aH aD Tryz.func67 (by kernel_rfl) rfl rfl rfl rfl (fun st=> ?_)
    (try (apply wO pk;exact rfl));(repeat' (first|(show All _;constructor)|(show Imp _ _;constructor)|(apply wC pk;(iterate 2 exact rfl))|(apply wE pk;(iterate 2 exact rfl))|(refine aA rfl (fun h=> ?_) (fun h=> ?_)<;>(try simp at h)<;>try (exfalso;omega))|(refine aB ?_;refine ⟨_,_,_,rfl,Wk.refl _,StSub.refl _, ?_,rfl⟩;try rfl)|(apply aI;(iterate 3 exact rfl);(intro _;(first|apply h1|apply h3)<;>first|assumption|omega);rotate_left;(iterate 2 exact rfl))))
  · have e1:EvalR e row=(v0,jC e):=by unfold EvalR;rw [if_pos hm]
    rw [e1]
    generalize jC e=M at*
    clear e1
    obtain ⟨k,n,v,of⟩:=e
    refine aH aD Tryz.func67 (by kernel_rfl) rfl rfl rfl rfl (fun st=> ?_)
    (try (apply wO pk;exact rfl));(repeat' (first|(show All _;constructor)|(show Imp _ _;constructor)|(apply wC pk;(iterate 2 exact rfl))|(apply wE pk;(iterate 2 exact rfl))|(refine aA rfl (fun h=> ?_) (fun h=> ?_)<;>(try simp at h)<;>try (exfalso;omega))|(refine aB ?_;refine ⟨_,_,_,rfl,Wk.refl _,StSub.refl _, ?_,rfl⟩;try rfl)|(apply aI;(iterate 3 exact rfl);(intro _;apply h1<;>first|assumption|omega);rotate_left;(iterate 2 exact rfl))))
def kV (f:Ex→Int→Int) (left:Int):Int→List Ex→Int
  |n,[]=>n
  |n,x::xs=>if n≤left then kV f left (n+f x (left-n)) xs else n
def nodesR :Nat→Ex→Int→Int
  |0,_,left=>left+1
  |d+1,e,left=>kV (nodesR d) left 1 e.of
theorem zV {f:Ex→Int→Int} {left:Int} (hf:∀x l,0≤l→1≤f x l∧f x l≤l+1):∀(l:List Ex) (n:Int),1≤n→n≤left+1→1≤kV f left n l∧kV f left n l≤left+1
  |[],n,h1,h2=>⟨h1,h2⟩
  |x::xs,n,h1,h2=>by
    simp only [kV]
    split
    · rename_i h
      have:=hf x (left-n) (by omega)
      exact zV hf xs _ (by omega) (by omega)
    · exact ⟨h1,h2⟩
theorem zU :∀(d:Nat) (e:Ex) (left:Int),0≤left→1≤nodesR d e left∧nodesR d e left≤left+1
  |0,_,left,h=>by simp only [nodesR];omega
  |d+1,e,left,h=>by
    simp only [nodesR]
    exact zV (fun x l hl=>zU d x l hl) _ _ (by omega) (by omega)
theorem ajF :∀(d:Nat) (e:Ex) (left z:Int),z=(d:Nat)→d≤1000→0≤left→left≤1000→e.ok→PF Tryz.prog 100 [.agg e.cells,(PV.val (Value.int .i64 (left))),(PV.val (Value.int .i64 (z)))] (PV.val (Value.int .i64 (nodesR d e left))):=by
  intro d
  induction d with
  |zero=>
    intro e left z hz _ h1 h2 hok
    subst hz
    obtain ⟨k,n,v,of⟩:=e
    refine aH aD Tryz.func100 (by kernel_rfl) rfl rfl rfl rfl (fun st=> ?_)
    (try (apply wO pk;exact rfl));(repeat' (first|(show All _;constructor)|(apply wC pk;(iterate 2 exact rfl))|(refine aA rfl (fun h=> ?_) (fun h=> ?_)<;>(try simp at h)<;>try (exfalso;omega))|(refine aB ?_;refine ⟨_,_,_,rfl,Wk.refl _,StSub.refl _, ?_,rfl⟩;try rfl)|(intros;(try simp only [zql]);omega)))
  |succ d ih=>
    intro e left z hz hd h1 h2 hok
    subst hz
    obtain ⟨k,n,v,of⟩:=e
    simp only [Ex.ok] at hok
    have hrl:=Ex.rows_len of
    refine aH aD Tryz.func100 (by kernel_rfl) rfl rfl rfl rfl (fun st=> ?_)
    focus ((try (apply wO pk;exact rfl));(repeat' (first|(show All _;constructor)|(apply wC pk;(iterate 2 exact rfl))|(refine aA rfl (fun h=> ?_) (fun h=> ?_)<;>(try simp at h)<;>try (exfalso;omega)))))
    refine aJ (X:={x:Nat×Int//x.1≤of.length∧1≤x.2∧x.2≤left+1∧nodesR (d+1) (.mk k n v of) left=kV (nodesR d) left x.2 (of.drop x.1)}) (fun i=>((((((St.nil 39 st).pv 1 ((PV.val (Value.int .i64 (left))))).pv 2 ((PV.val (Value.int .i64 ((d+1:Nat)))))).var 3 75 ((Ex.mk k n v of).cells)).pv 7 ((PV.val (Value.int .i64 (i.1.2))))).pv 8 ((PV.val (Value.int .i64 ((i.1.1:Nat))))))) (fun i=>of.length-i.1.1) ⟨(0,1),by simp,by simp,by simp only;omega,rfl⟩ ?_ (fun i=> ?_)
    · ((repeat (first|refine Sub.pv ?_ rfl|refine Sub.var ?_ rfl rfl));exact Sub.nil _ _ _ (StSub.refl _) rfl)
    obtain ⟨⟨i,m⟩,hi,hm1,hm2,hinv⟩:=i
    simp only at hi hm1 hm2 hinv
    dsimp only
    by_cases hend:¬(i<of.length∧m≤left)
    · have hfin:kV (nodesR d) left m (of.drop i)=m:=by
        by_cases hlt:i<of.length
        · obtain ⟨x,hx⟩:=eT hlt
          rw [pQ hx]
          simp only [kV]
          rw [if_neg (fun q=>hend ⟨hlt,q⟩)]
        · rw [akQ hlt];rfl
      rw [hfin] at hinv
      (try (apply wO pk;exact rfl));(repeat' (first|(show All _;constructor)|(show Imp _ _;constructor)|(show ImpX _ _ _ _;constructor)|(apply wC pk;(iterate 2 exact rfl))|(refine aA rfl (fun h=> ?_) (fun h=> ?_)<;>(try simp at h)<;>try (exfalso;omega))|(refine aB ?_;refine ⟨_,_,_,rfl,Wk.refl _,StSub.refl _, ?_,rfl⟩;try first|rfl|((rw [hinv]);done))))
    obtain ⟨hlt,hml⟩:=Decidable.of_not_not hend
    obtain ⟨x,hx⟩:=eT hlt
    have hrow:=Ex.rows_get hx
    have hx2:=zU d x (left-m) (by omega)
    have ihx:=fun z hz=>ih x (left-m) z hz (by omega) (by omega) (by omega) (Ex.oks_mem hok.2 (List.mem_of_getElem? hx))
    rw [pQ hx] at hinv
    simp only [kV] at hinv
    rw [if_pos hml] at hinv
    generalize nodesR d x (left-m)=r at*
    obtain ⟨k',n',v',of'⟩:=x
    (try (apply wO pk;exact rfl));(repeat' (first|(show All _;constructor)|(show Imp _ _;constructor)|(show ImpX _ _ _ _;constructor)|(apply wC pk;(iterate 2 exact rfl))|(apply wE pk;(iterate 2 exact rfl))|(refine aA rfl (fun h=> ?_) (fun h=> ?_)<;>(try simp at h)<;>try (exfalso;omega))|(apply aI;(iterate 3 exact rfl);(intro _;apply ihx<;>first|assumption|omega);rotate_left;(iterate 2 exact rfl))|(apply aM pk;(iterate 6 exact rfl);rotate_left;exact rfl;(intro hw;exact rfl);(intro hw;apply hrow<;>omega);(intro _;exact (Ex.cells_len _));exact rfl)|(refine ⟨⟨(i+1,m+r),by simp only;omega,by simp only;omega,by simp only;omega,hinv⟩, ?_,by simp only;omega⟩;((repeat (first|refine Sub.pv ?_ rfl|refine Sub.var ?_ rfl rfl));exact Sub.nil _ _ _ (StSub.refl _) rfl))|(intros;(try simp only [zql]);omega)))
theorem Few_spec {e:Ex} (hok:e.ok):PF Tryz.prog 60 [.agg e.cells] (PV.val (Value.bool (decide (nodesR 25 e 60≤60)))):=by
  have h:=ajF 25 e 60 25 rfl (by omega) (by omega) (by omega) hok
  generalize nodesR 25 e 60=N at*
  obtain ⟨k,n,v,of⟩:=e
  refine aH aD Tryz.func60 (by kernel_rfl) rfl rfl rfl rfl (fun st=> ?_)
  (try (apply wO pk;exact rfl));(repeat' (first|(show All _;constructor)|(show Imp _ _;constructor)|(apply wE pk;(iterate 2 exact rfl))|(refine aB ?_;refine ⟨_,_,_,rfl,Wk.refl _,StSub.refl _, ?_,rfl⟩;try rfl)|(apply aI;(iterate 3 exact rfl);(intro _;apply h<;>first|assumption|omega);rotate_left;(iterate 2 exact rfl))))
end Go.Proofs.YtcglimangneafaaGreatDoor.X
