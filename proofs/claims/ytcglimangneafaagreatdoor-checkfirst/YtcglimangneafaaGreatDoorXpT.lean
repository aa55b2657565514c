import Derived.Test.YtcglimangneafaaGreatDoorXp
set_option linter.unusedSimpArgs false
set_option linter.unusedVariables false
namespace Go.Proofs.YtcglimangneafaaGreatDoor.X
open Go Go.Abs
attribute [local irreducible] Ev PWp
set_option maxRecDepth 10000
set_option maxHeartbeats 4000000
def qL (e:Ex):Int:=if nF 20 e then 2 else if bS e then 0 else 1
theorem gO {e:Ex} (hok:e.ok):PF Tryz.prog 101 [.agg e.cells] (PV.val (Value.int .i64 (qL e))):=by
  have h1:=akO 20 e 20 rfl (by omega) hok
  have h2:=gP e hok
  unfold qL
  generalize nF 20 e=D at*
  generalize bS e=F at*
  obtain ⟨k,n,v,of⟩:=e
  refine aK aG Tryz.func101 (by kernel_rfl) rfl rfl rfl rfl (fun st=> ?_)
  (try (apply wO pk;exact rfl));(repeat' (first|(show All _;constructor)|(show Imp _ _;constructor)|(show ImpX _ _ _ _;constructor)|(apply wC pk;(iterate 2 exact rfl))|(apply wE pk;(iterate 2 exact rfl))|(apply wX pk;exact rfl)|(apply wN pk;exact rfl)|(apply wD pk [] [];kernel_rfl;exact rfl;exact rfl)|(apply aB;simp only [zqt,zqf])|(refine aC rfl (fun h=> ?_) (fun h=> ?_)<;>(try simp at h)<;>try (exfalso;omega))|(refine aD ?_;refine ⟨_,_,_,rfl,Wk.refl _,StSub.refl _, ?_,rfl⟩;try first|rfl|((simp [*];done);done))|(apply aL;(iterate 3 exact rfl);(intro _;(first|apply h1|apply h2)<;>first|assumption|omega);rotate_left;(iterate 2 exact rfl))|(intros;(try simp only [zql]);omega)))
mutual
def eB (m:Int):Ex→Bool
  | .mk k n _ o=>(!decide (k=0)||decide (n<m))&&tM m o
def tM (m:Int):List Ex→Bool
  |[]=>true
  |e::es=>eB m e&&tM m es
end
theorem mH (m:Int):∀l,tM m l=l.all (eB m)
  |[]=>rfl
  |e::es=>by simp [tM,mH m es]
mutual
theorem uW (m:Int):∀(e:Ex),e.ok→PF Tryz.prog 102 [.agg e.cells,(PV.val (Value.int .i64 (m)))] (PV.val (Value.bool (eB m e)))
  | .mk k n v of,hok=>by
    simp only [Ex.ok] at hok
    have ih:=sD m of
    have hlen:=Ex.rows_len of
    have hT:eB m (.mk k n v of)=((!decide (k=0)||decide (n<m))&&of.all (eB m)):=by rw [eB,mH]
    refine aK aG Tryz.func102 (by kernel_rfl) rfl rfl rfl rfl (fun st=> ?_)
    focus ((try (apply wO pk;exact rfl));(repeat' (first|(show All _;constructor)|(show Imp _ _;constructor)|(show ImpX _ _ _ _;constructor)|(apply wC pk;(iterate 2 exact rfl))|(apply wE pk;(iterate 2 exact rfl))|(apply wX pk;exact rfl)|(apply wN pk;exact rfl)|(apply wD pk [] [];kernel_rfl;exact rfl;exact rfl)|(apply aB;simp only [zqt,zqf])|(refine aC rfl (fun h=> ?_) (fun h=> ?_)<;>(try simp at h)<;>try (exfalso;omega))|(refine aD ?_;refine ⟨_,_,_,rfl,Wk.refl _,StSub.refl _, ?_,rfl⟩;try rfl)|(intros;(try simp only [zql]);omega))))
    refine aP (X:={i:Nat//i≤of.length∧(of.take i).all (eB m)=true}) (fun i=>((((((St.nil 28 st).pv 1 ((PV.val (Value.int .i64 (m))))).var 2 75 ((Ex.mk k n v of).cells)).pv 8 (.seq (Ex.rows of))).pv 9 ((PV.val (Value.int .i64 (((Ex.rows of).length:Nat)))))).pv 10 ((PV.val (Value.int .i64 ((i.1:Nat))))))) (fun i=>of.length-i.1) ⟨0,by omega,by simp⟩ ?_ (fun i=> ?_)
    · ((repeat (first|refine Sub.pv ?_ rfl|refine Sub.var ?_ rfl rfl));exact Sub.nil _ _ _ (StSub.refl _) rfl)
    obtain ⟨i,hi,hall⟩:=i
    dsimp only
    by_cases hend:of.length≤i
    · rw [qP (by omega)] at hall
      rw [hall,Bool.and_true] at hT
      (try (apply wO pk;exact rfl));(repeat' (first|(show All _;constructor)|(show Imp _ _;constructor)|(show ImpX _ _ _ _;constructor)|(apply wC pk;(iterate 2 exact rfl))|(apply wE pk;(iterate 2 exact rfl))|(apply wX pk;exact rfl)|(apply wN pk;exact rfl)|(apply wD pk [] [];kernel_rfl;exact rfl;exact rfl)|(apply aB;simp only [zqt,zqf])|(refine aC rfl (fun h=> ?_) (fun h=> ?_)<;>(try simp at h)<;>try (exfalso;omega))|(refine aD ?_;refine ⟨_,_,_,rfl,Wk.refl _,StSub.refl _, ?_,rfl⟩;try first|rfl|((first|(rw [hT];done)|(rw [hT];rfl));done))|(intros;(try simp only [zql]);omega)))
    obtain ⟨x,hx⟩:=eQ (l:=of) (i:=i) (by omega)
    have hrow:=Ex.rows_get hx
    have hm:=List.mem_of_getElem? hx
    have ihx:=ih x hm (Ex.oks_mem hok.2 hm)
    have hup:=acP (p:=eB m) hx
    have hno:=fun h=>aiW (p:=eB m) hx h
    generalize eB m x=D at*
    obtain ⟨k',n',v',of'⟩:=x
    cases D with
    |false=>
      rw [hno rfl,Bool.and_false] at hT
      (try (apply wO pk;exact rfl));(repeat' (first|(show All _;constructor)|(show Imp _ _;constructor)|(show ImpX _ _ _ _;constructor)|(apply wC pk;(iterate 2 exact rfl))|(apply wE pk;(iterate 2 exact rfl))|(apply wX pk;exact rfl)|(apply wN pk;exact rfl)|(apply wD pk [] [];kernel_rfl;exact rfl;exact rfl)|(apply aB;simp only [zqt,zqf])|(refine aC rfl (fun h=> ?_) (fun h=> ?_)<;>(try simp at h)<;>try (exfalso;omega))|(refine aD ?_;refine ⟨_,_,_,rfl,Wk.refl _,StSub.refl _, ?_,rfl⟩;try first|rfl|((rw [hT]);done))|(apply aL;(iterate 3 exact rfl);(intro _;apply ihx<;>first|assumption|omega);rotate_left;(iterate 2 exact rfl))|(apply bC pk;(iterate 6 exact rfl);rotate_left;exact rfl;(intro hw;exact rfl);(intro hw;apply hrow<;>omega);(intro _;exact (Ex.cells_len _));exact rfl)|(intros;(try simp only [zql]);omega)))
    |true=>
      rw [hall] at hup
      (try (apply wO pk;exact rfl));(repeat' (first|(show All _;constructor)|(show Imp _ _;constructor)|(show ImpX _ _ _ _;constructor)|(apply wC pk;(iterate 2 exact rfl))|(apply wE pk;(iterate 2 exact rfl))|(apply wX pk;exact rfl)|(apply wN pk;exact rfl)|(apply wD pk [] [];kernel_rfl;exact rfl;exact rfl)|(apply aB;simp only [zqt,zqf])|(refine aC rfl (fun h=> ?_) (fun h=> ?_)<;>(try simp at h)<;>try (exfalso;omega))|(refine aD ?_;refine ⟨_,_,_,rfl,Wk.refl _,StSub.refl _, ?_,rfl⟩;try rfl)|(apply aL;(iterate 3 exact rfl);(intro _;apply ihx<;>first|assumption|omega);rotate_left;(iterate 2 exact rfl))|(apply bC pk;(iterate 6 exact rfl);rotate_left;exact rfl;(intro hw;exact rfl);(intro hw;apply hrow<;>omega);(intro _;exact (Ex.cells_len _));exact rfl)|(refine ⟨⟨i+1,by omega,hup⟩, ?_,by simp only;omega⟩;((repeat (first|refine Sub.pv ?_ rfl|refine Sub.var ?_ rfl rfl));exact Sub.nil _ _ _ (StSub.refl _) rfl))|(intros;(try simp only [zql]);omega)))
theorem sD (m:Int):∀(l:List Ex) (x:Ex),x∈l→x.ok→PF Tryz.prog 102 [.agg x.cells,(PV.val (Value.int .i64 (m)))] (PV.val (Value.bool (eB m x)))
  |[],_,h,_=>by cases h
  |e::es,x,h,hok=>by
    rcases List.mem_cons.1 h with h|h
    · rw [h] at hok⊢;exact uW m e hok
    · exact sD m es x h hok
end
def tG (nb:Bool):Int→List Int→Bool
  |_,[]=>true
  |last,x::xs=>if ((nb&& !decide (x=0))&& !decide (x=1))||((!decide (x=0)&& !decide (last=0))&& !decide (x=last)) then false else tG nb (if x=0 then last else x) xs
theorem pN {α:Type} {l:List α} {i:Nat} {x:α} (h:l[i]?=some x):l.drop i=x::l.drop (i+1):=by
  obtain ⟨hl,rfl⟩:=List.getElem?_eq_some_iff.1 h
  exact List.drop_eq_getElem_cons hl
theorem aiY {α:Type} {l:List α} {i:Nat} (h:¬i<l.length):l.drop i=[]:=List.drop_eq_nil_of_le (by omega)
theorem oA {m:Int} {nb:Bool} {f:FuncId} {caps:List PV} {l:List Int} (hl:l.length<2^62):PF Tryz.prog 144 [.agg [(PV.val (Value.int .i64 (m))),(PV.val (Value.bool (nb))), .fn f caps], .seq (iM l)] (PV.val (Value.bool (tG nb 0 l))):=by
  have hlen:=xX l
  refine aK aG Tryz.func144 (by kernel_rfl) rfl rfl rfl rfl (fun st=> ?_)
  focus ((try (apply wO pk;exact rfl));(repeat' (first|(show All _;constructor)|(show Imp _ _;constructor)|(show ImpX _ _ _ _;constructor)|(apply wC pk;(iterate 2 exact rfl))|(apply wE pk;(iterate 2 exact rfl))|(apply wX pk;exact rfl)|(apply wN pk;exact rfl)|(apply wD pk [] [];kernel_rfl;exact rfl;exact rfl)|(apply aB;simp only [zqt,zqf])|(refine aC rfl (fun h=> ?_) (fun h=> ?_)<;>(try simp at h)<;>try (exfalso;omega))|(refine aD ?_;refine ⟨_,_,_,rfl,Wk.refl _,StSub.refl _, ?_,rfl⟩;try rfl)|(intros;(try simp only [zql]);omega))))
  refine aP (X:={x:Nat×Int//x.1≤l.length∧tG nb 0 l=tG nb x.2 (l.drop x.1)}) (fun i=>((((((St.nil 41 st).var 2 170 ([(PV.val (Value.int .i64 (m))),(PV.val (Value.bool (nb))), .fn f caps])).pv 5 ((PV.val (Value.int .i64 (i.1.2))))).pv 8 (.seq (iM l))).pv 9 ((PV.val (Value.int .i64 ((((iM l)).length:Nat)))))).pv 10 ((PV.val (Value.int .i64 ((i.1.1:Nat))))))) (fun i=>l.length-i.1.1) ⟨(0,0),by simp,by simp⟩ ?_ (fun i=> ?_)
  · ((repeat (first|refine Sub.pv ?_ rfl|refine Sub.var ?_ rfl rfl));exact Sub.nil _ _ _ (StSub.refl _) rfl)
  obtain ⟨⟨i,last⟩,hi,hinv⟩:=i
  dsimp only at hi hinv
  dsimp only
  generalize tG nb 0 l=R at*
  by_cases hend:l.length≤i
  · rw [aiY (by omega)] at hinv
    (try (apply wO pk;exact rfl));(repeat' (first|(show All _;constructor)|(show Imp _ _;constructor)|(show ImpX _ _ _ _;constructor)|(apply wC pk;(iterate 2 exact rfl))|(apply wE pk;(iterate 2 exact rfl))|(apply wX pk;exact rfl)|(apply wN pk;exact rfl)|(apply wD pk [] [];kernel_rfl;exact rfl;exact rfl)|(apply aB;simp only [zqt,zqf])|(refine aC rfl (fun h=> ?_) (fun h=> ?_)<;>(try simp at h)<;>try (exfalso;omega))|(refine aD ?_;refine ⟨_,_,_,rfl,Wk.refl _,StSub.refl _, ?_,rfl⟩;try first|rfl|((rw [hinv];rfl);done))|(intros;(try simp only [zql]);omega)))
  obtain ⟨x,hx⟩:=eQ (l:=l) (i:=i) (by omega)
  have hrow:=xD hx
  rw [pN hx] at hinv
  simp only [tG] at hinv
  by_cases hc:(((nb&& !decide (x=0))&& !decide (x=1))||((!decide (x=0)&& !decide (last=0))&& !decide (x=last)))=true
  · rw [if_pos hc] at hinv
    (try (apply wO pk;exact rfl));(repeat' (first|(show All _;constructor)|(show Imp _ _;constructor)|(show ImpX _ _ _ _;constructor)|(apply wC pk;(iterate 2 exact rfl))|(apply wE pk;(iterate 2 exact rfl))|(apply wX pk;exact rfl)|(apply wN pk;exact rfl)|(apply wD pk [] [];kernel_rfl;exact rfl;exact rfl)|(apply aB;simp only [zqt,zqf])|(refine aC rfl (fun h=> ?_) (fun h=> ?_)<;>(try simp at h)<;>try (exfalso;omega))|(refine aD ?_;refine ⟨_,_,_,rfl,Wk.refl _,StSub.refl _, ?_,rfl⟩;try first|rfl|((rw [hinv]);done))|(apply bC pk;(iterate 6 exact rfl);rotate_left;exact rfl;(intro hw;exact rfl);(intro hw;apply hrow<;>omega);(intro _;exact rfl);exact rfl)|(intros;(try simp only [zql]);omega)|((exfalso;simp at*;grind))))
  rw [if_neg hc] at hinv
  by_cases hx0:x=0
  · rw [if_pos hx0] at hinv
    (try (apply wO pk;exact rfl));(repeat' (first|(show All _;constructor)|(show Imp _ _;constructor)|(show ImpX _ _ _ _;constructor)|(apply wC pk;(iterate 2 exact rfl))|(apply wE pk;(iterate 2 exact rfl))|(apply wX pk;exact rfl)|(apply wN pk;exact rfl)|(apply wD pk [] [];kernel_rfl;exact rfl;exact rfl)|(apply aB;simp only [zqt,zqf])|(refine aC rfl (fun h=> ?_) (fun h=> ?_)<;>(try simp at h)<;>try (exfalso;omega))|(refine aD ?_;refine ⟨_,_,_,rfl,Wk.refl _,StSub.refl _, ?_,rfl⟩;try rfl)|(apply bC pk;(iterate 6 exact rfl);rotate_left;exact rfl;(intro hw;exact rfl);(intro hw;apply hrow<;>omega);(intro _;exact rfl);exact rfl)|(refine ⟨⟨(i+1,last),by simp only;omega,hinv⟩, ?_,by simp only;omega⟩;((repeat (first|refine Sub.pv ?_ rfl|refine Sub.var ?_ rfl rfl));exact Sub.nil _ _ _ (StSub.refl _) rfl))|(intros;(try simp only [zql]);omega)|((exfalso;simp at*;grind))))
  · rw [if_neg hx0] at hinv
    (try (apply wO pk;exact rfl));(repeat' (first|(show All _;constructor)|(show Imp _ _;constructor)|(show ImpX _ _ _ _;constructor)|(apply wC pk;(iterate 2 exact rfl))|(apply wE pk;(iterate 2 exact rfl))|(apply wX pk;exact rfl)|(apply wN pk;exact rfl)|(apply wD pk [] [];kernel_rfl;exact rfl;exact rfl)|(apply aB;simp only [zqt,zqf])|(refine aC rfl (fun h=> ?_) (fun h=> ?_)<;>(try simp at h)<;>try (exfalso;omega))|(refine aD ?_;refine ⟨_,_,_,rfl,Wk.refl _,StSub.refl _, ?_,rfl⟩;try rfl)|(apply bC pk;(iterate 6 exact rfl);rotate_left;exact rfl;(intro hw;exact rfl);(intro hw;apply hrow<;>omega);(intro _;exact rfl);exact rfl)|(refine ⟨⟨(i+1,x),by simp only;omega,hinv⟩, ?_,by simp only;omega⟩;((repeat (first|refine Sub.pv ?_ rfl|refine Sub.var ?_ rfl rfl));exact Sub.nil _ _ _ (StSub.refl _) rfl))|(intros;(try simp only [zql]);omega)|((exfalso;simp at*;grind))))
mutual
def bW (l:List Int):Ex→Int×Int
  | .mk k n v o=>if k=0 then (l.getD n.toNat 0,0) else if k=1 then (v.kind,0) else
      match fN l o with
      |(_,some no)=>(0,no)
      |(got,none)=>if tG (oF k) 0 got then (1,0) else (0,6)
def fN (l:List Int):List Ex→List Int×Option Int
  |[]=>([],none)
  |e::es=>if (bW l e).2=0 then ((bW l e).1::(fN l es).1,(fN l es).2) else ([],some (bW l e).2)
end
theorem qJ {l:List Int}:∀{os:List Ex},(∀x∈os,(bW l x).2=0)→fN l os=(os.map fun x=>(bW l x).1,none)
  |[],_=>rfl
  |e::es,h=>by
    have ih:=qJ (l:=l) (os:=es) fun x hx=>h x (by simp [hx])
    simp [fN,h e (by simp),ih]
theorem qO {l:List Int}:∀{os:List Ex} {i:Nat} {x:Ex},(∀j y,j<i→os[j]?=some y→(bW l y).2=0)→os[i]?=some x→(bW l x).2≠0→(fN l os).2=some (bW l x).2
  |[],_,_,_,h,_=>by simp at h
  |e::es,0,x,_,h,hx=>by
    simp at h;subst h
    simp [fN,hx]
  |e::es,i+1,x,h0,h,hx=>by
    simp at h
    have h1:=h0 0 e (by omega) (by simp)
    have ih:=qO (l:=l) (os:=es) (i:=i) (fun j y hj hy=>h0 (j+1) y (by omega) (by simpa using hy)) h hx
    simp [fN,h1,ih]
theorem pZ {k n:Int} {v:Vl} {of:List Ex} (h:bS (.mk k n v of)=true) (hk0:¬k=0) (hk1:¬k=1):(2≤k∧k≤10)∧n=0∧vz v=true∧(of.length:Int)=iY k∧∀x∈of,bS x=true:=by
  simp only [bS,kI,if_false,Bool.and_eq_true,decide_eq_true_eq,Bool.or_eq_true,hk0,hk1,false_or,lD,List.all_eq_true] at h
  exact ⟨h.1.1.1.1,h.1.1.1.2,h.1.1.2,h.1.2,h.2⟩
theorem adJ (k:Int):iY k≤2∧1≤iY k:=by unfold iY;split<;>omega
theorem pB :Tryz.prog.bytesOf 3=8:=by kernel_rfl
theorem nZ {α β:Type} {l:List α} {i:Nat} {x:α} (h:l[i]?=some x) (f:α→β):(l.take (i+1)).map f=(l.take i).map f++[f x]:=by
  obtain ⟨hl,rfl⟩:=List.getElem?_eq_some_iff.1 h
  rw [List.take_succ_eq_append_getElem hl,List.map_append]
  rfl
theorem aeU {k n:Int} {v:Vl} {of:List Ex} (l:List Int) (hl:l.length<2^62) (hk:k=0∨k=1) (hf:bS (.mk k n v of)=true) (ht:eB l.length (.mk k n v of)=true):
    PF Tryz.prog 103 [.agg (Ex.mk k n v of).cells, .seq (iM l)] (.tup [(PV.val (Value.int .i64 ((bW l (.mk k n v of)).1))),(PV.val (Value.int .i64 ((bW l (.mk k n v of)).2)))]):=by
  by_cases hk0:k=0
  · subst hk0
    simp [bS,kI] at hf
    simp [eB] at ht
    have hn:n.toNat<l.length:=by omega
    obtain ⟨x,hx⟩:=eQ hn
    have hrow:=xD hx
    have e:bW l (.mk 0 n v of)=(x,0):=by simp [bW,hx]
    rw [e]
    have hnn:n=((n.toNat:Nat):Int):=by omega
    refine aK aG Tryz.func103 (by kernel_rfl) rfl rfl rfl rfl (fun st=> ?_)
    (try (apply wO pk;exact rfl));(repeat' (first|(show All _;constructor)|(show Imp _ _;constructor)|(show ImpX _ _ _ _;constructor)|(apply wC pk;(iterate 2 exact rfl))|(apply wE pk;(iterate 2 exact rfl))|(apply wX pk;exact rfl)|(apply wN pk;exact rfl)|(apply wD pk [] [];kernel_rfl;exact rfl;exact rfl)|(apply aB;simp only [zqt,zqf])|(refine aC rfl (fun h=> ?_) (fun h=> ?_)<;>(try simp at h)<;>try (exfalso;omega))|(refine aD ?_;refine ⟨_,_,_,rfl,Wk.refl _,StSub.refl _, ?_,rfl⟩;try rfl)|(apply bC pk;(iterate 6 exact rfl);rotate_left;exact rfl;(intro hw;exact hnn);(intro hw;apply hrow<;>omega);(intro _;exact rfl);exact rfl)|(intros;(try simp only [zql]);omega)))
  · have hk1:k=1:=by omega
    subst hk1
    have e:bW l (.mk 1 n v of)=(v.kind,0):=by simp [bW]
    rw [e]
    refine aK aG Tryz.func103 (by kernel_rfl) rfl rfl rfl rfl (fun st=> ?_)
    (try (apply wO pk;exact rfl));(repeat' (first|(show All _;constructor)|(show Imp _ _;constructor)|(show ImpX _ _ _ _;constructor)|(apply wC pk;(iterate 2 exact rfl))|(apply wE pk;(iterate 2 exact rfl))|(apply wX pk;exact rfl)|(apply wN pk;exact rfl)|(apply wD pk [] [];kernel_rfl;exact rfl;exact rfl)|(apply aB;simp only [zqt,zqf])|(refine aC rfl (fun h=> ?_) (fun h=> ?_)<;>(try simp at h)<;>try (exfalso;omega))|(refine aD ?_;refine ⟨_,_,_,rfl,Wk.refl _,StSub.refl _, ?_,rfl⟩;try rfl)|(intros;(try simp only [zql]);omega)))
mutual
theorem uG (l:List Int) (hl:l.length<2^62):∀(e:Ex),e.ok→bS e=true→eB l.length e=true→PF Tryz.prog 103 [.agg e.cells, .seq (iM l)] (.tup [(PV.val (Value.int .i64 ((bW l e).1))),(PV.val (Value.int .i64 ((bW l e).2)))])
  | .mk k n v of,hok,hf,ht=>by
    have ih:=sG l hl of
    by_cases hk01:k=0∨k=1
    · exact aeU l hl hk01 hf ht
    have hk0:¬k=0:=by omega
    have hk1:¬k=1:=by omega
    obtain ⟨hk,hn,hv,hlen,hall⟩:=pZ hf hk0 hk1
    simp only [eB,Bool.and_eq_true,mH,List.all_eq_true] at ht
    simp only [Ex.ok] at hok
    have hm:=adJ k
    have hrl:=Ex.rows_len of
    obtain ⟨fid,caps,hlook,_⟩:=tT hk.1 hk.2
    have hE:bW l (.mk k n v of)=match fN l of with|(_,some no)=>(0,no)|(got,none)=>if tG (oF k) 0 got then (1,0) else (0,6):=by simp only [bW,if_neg hk0,if_neg hk1];try rfl
    generalize bW l (.mk k n v of)=E at*
    refine aK aG Tryz.func103 (by kernel_rfl) rfl rfl rfl rfl (fun st=> ?_)
    focus ((try (apply wO pk;exact rfl));(repeat' (first|((exfalso;omega))|(show All _;constructor)|(show Imp _ _;constructor)|(show ImpX _ _ _ _;constructor)|(apply wC pk;(iterate 2 exact rfl))|(apply wE pk;(iterate 2 exact rfl))|(apply wX pk;exact rfl)|(apply wN pk;exact rfl)|(apply wD pk [] [];kernel_rfl;exact rfl;exact rfl)|(apply aB;simp only [zqt,zqf])|(refine aC rfl (fun h=> ?_) (fun h=> ?_)<;>(try simp at h)<;>try (exfalso;omega))|(refine aD ?_;refine ⟨_,_,_,rfl,Wk.refl _,StSub.refl _, ?_,rfl⟩;try rfl)|(intros;(try simp only [zql]);omega))))
    refine tJ 6 3 rfl rfl (fun id hid=> ?_)
    have hid:st id=none:=hid
    refine aP (X:={x:Nat×Nat//x.1≤of.length∧st x.2=none∧∀j y,j<x.1→of[j]?=some y→(bW l y).2=0}) (fun i=>(((((((St.nil 53 (upd st i.1.2 (some (.tok 3)))).pv 1 (.seq (iM l))).var 2 75 ((Ex.mk k n v of).cells)).pv 6 (.own i.1.2 (((of.take i.1.1).map fun y=>(bW l y).1).map I1))).pv 26 (.seq (Ex.rows of))).pv 27 ((PV.val (Value.int .i64 (((Ex.rows of).length:Nat)))))).pv 28 ((PV.val (Value.int .i64 ((i.1.1:Nat))))))) (fun i=>of.length-i.1.1) ⟨(0,id),by simp,hid,by simp⟩ ?_ (fun i=> ?_)
    · (first|exact Sub.nil _ _ _ (StSub.refl _) rfl|((repeat (first|refine Sub.pv ?_ rfl|refine Sub.var ?_ rfl rfl|refine Sub.pv' ?_ rfl (by first|rfl|simp)|refine Sub.var' ?_ rfl rfl (by first|rfl|simp)));(first|exact Sub.nil _ _ _ (StSub.refl _) rfl|exact Sub.nil _ _ _ (aQ (by assumption)) rfl|exact Sub.nil _ _ _ (aJ (by first|rfl|exact aV (by assumption)|((simp only [St.pv,St.put,St.sst,St.setv,St.nil,St.var,aN]);first|done|rfl))) rfl|(refine Sub.nil _ _ _ (aJ ?_) rfl;(simp only [St.pv,St.put,St.sst,St.setv,St.nil,St.var,aN]);(rw [cX (by assumption)]);first|done|rfl))))
    obtain ⟨⟨i,id⟩,hi,hid,hz⟩:=i
    simp only at hi hid hz
    dsimp only
    by_cases hend:of.length≤i
    · have htk:of.take i=of:=qP (by omega)
      have hgot:fN l of=(of.map fun y=>(bW l y).1,none):=qJ fun x hx=>by
        obtain ⟨j,hj⟩:=List.mem_iff_getElem?.1 hx
        exact hz j x (by have:=(List.getElem?_eq_some_iff.1 hj).1;omega) hj
      rw [hgot] at hE
      simp only at hE
      rw [htk]
      have hts:=oA (m:=iY k) (nb:=oF k) (f:=fid) (caps:=caps) (l:=of.map fun y=>(bW l y).1) (by simp;omega)
      unfold iM at hts
      generalize tG (oF k) 0 (of.map fun y=>(bW l y).1)=G at*
      cases G with
      |true=>
        rw [if_pos rfl] at hE
        (try (apply wO pk;exact rfl));(repeat' (first|(show All _;constructor)|(show Imp _ _;constructor)|(show ImpX _ _ _ _;constructor)|(apply wC pk;(iterate 2 exact rfl))|(apply wE pk;(iterate 2 exact rfl))|(apply wX pk;exact rfl)|(apply wN pk;exact rfl)|(apply wD pk [] [];kernel_rfl;exact rfl;exact rfl)|(apply aB;simp only [zqt,zqf])|(refine aC rfl (fun h=> ?_) (fun h=> ?_)<;>(try simp at h)<;>try (exfalso;omega))|(refine aD ?_;first|(refine ⟨_,_,_,rfl,Wk.refl _,StSub.refl _, ?_,rfl⟩;(first|rfl|((rw [hE]);done)))|(refine ⟨_,_,_,rfl,Wk.refl _,aH (by assumption), ?_,rfl⟩;(first|rfl|((rw [hE]);done)))|(refine ⟨_,_,_,rfl,Wk.soft _,StSub.refl _, ?_,rfl⟩;(first|rfl|((rw [hE]);done)))|(refine ⟨_,_,_,rfl,Wk.soft _,aH (by assumption), ?_,rfl⟩;(first|rfl|((rw [hE]);done)))|(refine ⟨_,_,_,rfl,Wk.refl _,StSub.refl _, ?_,rfl⟩)|(refine ⟨_,_,_,rfl,Wk.soft _,aH (by assumption), ?_,rfl⟩))|(apply aL;(iterate 3 exact rfl);(intro _;(first|apply cK|apply hts)<;>first|assumption|omega);rotate_left;(iterate 2 exact rfl))|(apply eE;(iterate 3 exact rfl);(intro _;(first|apply cK|apply hts)<;>first|assumption|omega);rotate_left;(iterate 2 exact rfl))|((apply oI pk;(iterate 4 exact rfl);(focus repeat' constructor);exact rfl;exact hlook;exact rfl))|(intros;(try simp only [zql]);omega)))
      |false=>
        rw [if_neg (by simp)] at hE
        (try (apply wO pk;exact rfl));(repeat' (first|(show All _;constructor)|(show Imp _ _;constructor)|(show ImpX _ _ _ _;constructor)|(apply wC pk;(iterate 2 exact rfl))|(apply wE pk;(iterate 2 exact rfl))|(apply wX pk;exact rfl)|(apply wN pk;exact rfl)|(apply wD pk [] [];kernel_rfl;exact rfl;exact rfl)|(apply aB;simp only [zqt,zqf])|(refine aC rfl (fun h=> ?_) (fun h=> ?_)<;>(try simp at h)<;>try (exfalso;omega))|(refine aD ?_;first|(refine ⟨_,_,_,rfl,Wk.refl _,StSub.refl _, ?_,rfl⟩;(first|rfl|((rw [hE]);done)))|(refine ⟨_,_,_,rfl,Wk.refl _,aH (by assumption), ?_,rfl⟩;(first|rfl|((rw [hE]);done)))|(refine ⟨_,_,_,rfl,Wk.soft _,StSub.refl _, ?_,rfl⟩;(first|rfl|((rw [hE]);done)))|(refine ⟨_,_,_,rfl,Wk.soft _,aH (by assumption), ?_,rfl⟩;(first|rfl|((rw [hE]);done)))|(refine ⟨_,_,_,rfl,Wk.refl _,StSub.refl _, ?_,rfl⟩)|(refine ⟨_,_,_,rfl,Wk.soft _,aH (by assumption), ?_,rfl⟩))|(apply aL;(iterate 3 exact rfl);(intro _;(first|apply cK|apply hts)<;>first|assumption|omega);rotate_left;(iterate 2 exact rfl))|(apply eE;(iterate 3 exact rfl);(intro _;(first|apply cK|apply hts)<;>first|assumption|omega);rotate_left;(iterate 2 exact rfl))|((apply oI pk;(iterate 4 exact rfl);(focus repeat' constructor);exact rfl;exact hlook;exact rfl))|(intros;(try simp only [zql]);omega)))
    obtain ⟨x,hx⟩:=eQ (l:=of) (i:=i) (by omega)
    have hrow:=Ex.rows_get hx
    have hm':=List.mem_of_getElem? hx
    have ihx:=ih x hm' (Ex.oks_mem hok.2 hm') (hall x hm') (ht.2 x hm')
    have hsome:=fun h0=>qO (l:=l) hz hx h0
    have hzs:(bW l x).2=0→∀j y,j<i+1→of[j]?=some y→(bW l y).2=0:=fun h0 j y hj hy=>by
      by_cases hji:j=i
      · subst hji;rw [hx] at hy;injection hy with hy;subst hy;exact h0
      · exact hz j y (by omega) hy
    have hmap:((of.take (i+1)).map fun y=>(bW l y).1).map I1=((of.take i).map fun y=>(bW l y).1).map I1++[I1 (bW l x).1]:=by rw [nZ hx (fun y=>(bW l y).1),List.map_append];rfl
    have hE2:(bW l x).2≠0→E=(0,(bW l x).2):=fun h0=>by
      have:=hsome h0
      rw [hE]
      revert this
      cases fN l of with|mk a b=>intro this;simp only at this;subst this;rfl
    clear hsome hE
    generalize hr:bW l x=r at*
    obtain ⟨r1,r2⟩:=r
    obtain ⟨k',n',v',of'⟩:=x
    dsimp only at*
    by_cases h2:r2=0
    · have hz2:=hzs h2
      (try (apply wO pk;exact rfl));(repeat' (first|(show All _;constructor)|(show Imp _ _;constructor)|(show ImpX _ _ _ _;constructor)|(apply wC pk;(iterate 2 exact rfl))|(apply wE pk;(iterate 2 exact rfl))|(apply wX pk;exact rfl)|(apply wN pk;exact rfl)|(apply wD pk [] [];kernel_rfl;exact rfl;exact rfl)|(apply aB;simp only [zqt,zqf])|(refine aC rfl (fun h=> ?_) (fun h=> ?_)<;>(try simp at h)<;>try (exfalso;omega))|(refine aD ?_;first|(refine ⟨_,_,_,rfl,Wk.refl _,StSub.refl _, ?_,rfl⟩;(first|rfl))|(refine ⟨_,_,_,rfl,Wk.refl _,aH (by assumption), ?_,rfl⟩;(first|rfl))|(refine ⟨_,_,_,rfl,Wk.soft _,StSub.refl _, ?_,rfl⟩;(first|rfl))|(refine ⟨_,_,_,rfl,Wk.soft _,aH (by assumption), ?_,rfl⟩;(first|rfl))|(refine ⟨_,_,_,rfl,Wk.refl _,StSub.refl _, ?_,rfl⟩)|(refine ⟨_,_,_,rfl,Wk.soft _,aH (by assumption), ?_,rfl⟩))|(apply aL;(iterate 3 exact rfl);(intro _;apply ihx<;>first|assumption|omega);rotate_left;(iterate 2 exact rfl))|(apply bC pk;(iterate 6 exact rfl);rotate_left;exact rfl;(intro hw;exact rfl);(intro hw;apply hrow<;>omega);(intro _;exact (Ex.cells_len _));exact rfl)|(refine ⟨⟨(i+1,id'),by simp only;omega,iH hid',hz2⟩, ?_,by simp only;omega⟩;((dsimp only;rw [hmap]));(first|exact Sub.nil _ _ _ (StSub.refl _) rfl|((repeat (first|refine Sub.pv ?_ rfl|refine Sub.var ?_ rfl rfl|refine Sub.pv' ?_ rfl (by (first|rfl|(simp [I1];done)))|refine Sub.var' ?_ rfl rfl (by (first|rfl|(simp [I1];done)))));(first|exact Sub.nil _ _ _ (StSub.refl _) rfl|exact Sub.nil _ _ _ (aQ (by assumption)) rfl|exact Sub.nil _ _ _ (aJ (by first|rfl|exact aV (by assumption)|((simp only [St.pv,St.put,St.sst,St.setv,St.nil,St.var,aN]);first|done|rfl))) rfl|(refine Sub.nil _ _ _ (aJ ?_) rfl;(simp only [St.pv,St.put,St.sst,St.setv,St.nil,St.var,aN]);(rw [cX (by assumption)]);first|done|rfl)))))|(apply apS pk (r1) 8;(iterate 8 exact rfl);exact aA _ _ _;exact fun _=>rfl;exact fun _=>rfl;exact pB;(first|omega|(simp;omega));(first|omega|(simp;omega));exact rfl;intro id' hid')|(intros;(try simp only [zql]);omega)|((exfalso;simp_all;done))))
    · have e:=hE2 h2
      (try (apply wO pk;exact rfl));(repeat' (first|(show All _;constructor)|(show Imp _ _;constructor)|(show ImpX _ _ _ _;constructor)|(apply wC pk;(iterate 2 exact rfl))|(apply wE pk;(iterate 2 exact rfl))|(apply wX pk;exact rfl)|(apply wN pk;exact rfl)|(apply wD pk [] [];kernel_rfl;exact rfl;exact rfl)|(apply aB;simp only [zqt,zqf])|(refine aC rfl (fun h=> ?_) (fun h=> ?_)<;>(try simp at h)<;>try (exfalso;omega))|(refine aD ?_;first|(refine ⟨_,_,_,rfl,Wk.refl _,StSub.refl _, ?_,rfl⟩;(first|rfl|((rw [e]);done)))|(refine ⟨_,_,_,rfl,Wk.refl _,aH (by assumption), ?_,rfl⟩;(first|rfl|((rw [e]);done)))|(refine ⟨_,_,_,rfl,Wk.soft _,StSub.refl _, ?_,rfl⟩;(first|rfl|((rw [e]);done)))|(refine ⟨_,_,_,rfl,Wk.soft _,aH (by assumption), ?_,rfl⟩;(first|rfl|((rw [e]);done)))|(refine ⟨_,_,_,rfl,Wk.refl _,StSub.refl _, ?_,rfl⟩)|(refine ⟨_,_,_,rfl,Wk.soft _,aH (by assumption), ?_,rfl⟩))|(apply aL;(iterate 3 exact rfl);(intro _;apply ihx<;>first|assumption|omega);rotate_left;(iterate 2 exact rfl))|(apply bC pk;(iterate 6 exact rfl);rotate_left;exact rfl;(intro hw;exact rfl);(intro hw;apply hrow<;>omega);(intro _;exact (Ex.cells_len _));exact rfl)|(intros;(try simp only [zql]);omega)|((exfalso;simp_all;done))))
theorem sG (l:List Int) (hl:l.length<2^62):∀(os:List Ex) (x:Ex),x∈os→x.ok→bS x=true→eB l.length x=true→PF Tryz.prog 103 [.agg x.cells, .seq (iM l)] (.tup [(PV.val (Value.int .i64 ((bW l x).1))),(PV.val (Value.int .i64 ((bW l x).2)))])
  |[],_,h,_=>by cases h
  |e::es,x,h,hok=>by
    rcases List.mem_cons.1 h with h|h
    · rw [h] at hok⊢;exact uG l hl e hok
    · exact sG l hl es x h hok
end
def iP (e:Ex) (l:List Int):Int×Int:=if qL e≠0 then (0,qL e) else if eB l.length e then bW l e else (0,4)
theorem wU {e:Ex} (h:qL e=0):nF 20 e=false∧bS e=true:=by
  unfold qL at h
  split at h
  · omega
  · rename_i h1
    split at h
    · rename_i h2;exact ⟨by simpa using h1,h2⟩
    · omega
theorem ajR {e:Ex} (hok:e.ok) {l:List Int} (hl:l.length<2^62):PF Tryz.prog 62 [.agg e.cells, .seq (iM l)] (.tup [(PV.val (Value.int .i64 ((iP e l).1))),(PV.val (Value.int .i64 ((iP e l).2)))]):=by
  have h1:=gO hok
  have h2:=uW ((l.length:Nat):Int) e hok
  have hlen:=xX l
  rw [←hlen] at h2
  by_cases hm:qL e=0
  · rw [hm] at h1
    cases ht:eB l.length e with
    |true=>
      have h3:=uG l hl e hok (wU hm).2 ht
      rw [hlen,ht] at h2
      rw [←hlen] at h2
      have e1:iP e l=bW l e:=by unfold iP;rw [if_neg (fun q=>q hm),if_pos ht]
      rw [e1]
      generalize bW l e=R at*
      clear hm ht e1
      obtain ⟨k,n,v,of⟩:=e
      refine aK aG Tryz.func62 (by kernel_rfl) rfl rfl rfl rfl (fun st=> ?_)
      (try (apply wO pk;exact rfl));(repeat' (first|(show All _;constructor)|(show Imp _ _;constructor)|(show ImpX _ _ _ _;constructor)|(apply wC pk;(iterate 2 exact rfl))|(apply wE pk;(iterate 2 exact rfl))|(apply wX pk;exact rfl)|(apply wN pk;exact rfl)|(apply wD pk [] [];kernel_rfl;exact rfl;exact rfl)|(apply aB;simp only [zqt,zqf])|(refine aC rfl (fun h=> ?_) (fun h=> ?_)<;>(try simp at h)<;>try (exfalso;omega))|(refine aD ?_;refine ⟨_,_,_,rfl,Wk.refl _,StSub.refl _, ?_,rfl⟩;try rfl)|(apply aL;(iterate 3 exact rfl);(intro _;(first|apply h1|apply h2|apply h3)<;>first|assumption|omega);rotate_left;(iterate 2 exact rfl))|(intros;(try simp only [zql]);omega)))
    |false=>
      rw [hlen,ht] at h2
      rw [←hlen] at h2
      have e1:iP e l=(0,4):=by unfold iP;rw [if_neg (fun q=>q hm),if_neg (by rw [ht];simp)]
      rw [e1]
      clear hm ht e1
      obtain ⟨k,n,v,of⟩:=e
      refine aK aG Tryz.func62 (by kernel_rfl) rfl rfl rfl rfl (fun st=> ?_)
      (try (apply wO pk;exact rfl));(repeat' (first|(show All _;constructor)|(show Imp _ _;constructor)|(show ImpX _ _ _ _;constructor)|(apply wC pk;(iterate 2 exact rfl))|(apply wE pk;(iterate 2 exact rfl))|(apply wX pk;exact rfl)|(apply wN pk;exact rfl)|(apply wD pk [] [];kernel_rfl;exact rfl;exact rfl)|(apply aB;simp only [zqt,zqf])|(refine aC rfl (fun h=> ?_) (fun h=> ?_)<;>(try simp at h)<;>try (exfalso;omega))|(refine aD ?_;refine ⟨_,_,_,rfl,Wk.refl _,StSub.refl _, ?_,rfl⟩;try rfl)|(apply aL;(iterate 3 exact rfl);(intro _;(first|apply h1|apply h2)<;>first|assumption|omega);rotate_left;(iterate 2 exact rfl))|(intros;(try simp only [zql]);omega)))
  · have e1:iP e l=(0,qL e):=by unfold iP;rw [if_pos hm]
    rw [e1]
    generalize qL e=M at*
    clear e1 h2
    obtain ⟨k,n,v,of⟩:=e
    refine aK aG Tryz.func62 (by kernel_rfl) rfl rfl rfl rfl (fun st=> ?_)
    (try (apply wO pk;exact rfl));(repeat' (first|((exfalso;omega))|(show All _;constructor)|(show Imp _ _;constructor)|(show ImpX _ _ _ _;constructor)|(apply wC pk;(iterate 2 exact rfl))|(apply wE pk;(iterate 2 exact rfl))|(apply wX pk;exact rfl)|(apply wN pk;exact rfl)|(apply wD pk [] [];kernel_rfl;exact rfl;exact rfl)|(apply aB;simp only [zqt,zqf])|(refine aC rfl (fun h=> ?_) (fun h=> ?_)<;>(try simp at h)<;>try (exfalso;omega))|(refine aD ?_;refine ⟨_,_,_,rfl,Wk.refl _,StSub.refl _, ?_,rfl⟩;try rfl)|(apply aL;(iterate 3 exact rfl);(intro _;apply h1<;>first|assumption|omega);rotate_left;(iterate 2 exact rfl))|(intros;(try simp only [zql]);omega)))
mutual
def dB (row:List Vl):Ex→Vl×Int
  | .mk k n v o=>if k=0 then (if n≥row.length then (v0,4) else (row.getD n.toNat v0,0)) else if k=1 then (v,0) else
      match iV row o with
      |(_,some no)=>(v0,no)
      |(got,none)=>if tG (oF k) 0 (got.map Vl.kind) then pQ k (got.getD 0 v0) (got.getD (iY k-1).toNat v0) else (v0,6)
def iV (row:List Vl):List Ex→List Vl×Option Int
  |[]=>([],none)
  |e::es=>if (dB row e).2=0 then ((dB row e).1::(iV row es).1,(iV row es).2) else ([],some (dB row e).2)
end
theorem sY {row:List Vl}:∀{os:List Ex},(∀x∈os,(dB row x).2=0)→iV row os=(os.map fun x=>(dB row x).1,none)
  |[],_=>rfl
  |e::es,h=>by
    have ih:=sY (row:=row) (os:=es) fun x hx=>h x (by simp [hx])
    simp [iV,h e (by simp),ih]
theorem sM {row:List Vl}:∀{os:List Ex} {i:Nat} {x:Ex},(∀j y,j<i→os[j]?=some y→(dB row y).2=0)→os[i]?=some x→(dB row x).2≠0→(iV row os).2=some (dB row x).2
  |[],_,_,_,h,_=>by simp at h
  |e::es,0,x,_,h,hx=>by
    simp at h;subst h
    simp [iV,hx]
  |e::es,i+1,x,h0,h,hx=>by
    simp at h
    have h1:=h0 0 e (by omega) (by simp)
    have ih:=sM (row:=row) (os:=es) (i:=i) (fun j y hj hy=>h0 (j+1) y (by omega) (by simpa using hy)) h hx
    simp [iV,h1,ih]
theorem alC {v:Vl} (h:oX v=true):lim v.n:=by
  unfold oX at h
  split at h
  · simp at h;unfold lim;omega
  · split at h
    · simp at h;unfold lim;omega
    · split at h
      · simp at h;unfold lim;omega
      · cases h
theorem oS :lim v0.n:=by unfold lim v0;simp only;omega
theorem yG (b:Bool):lim (lQ b).n:=by unfold lim lQ vN;cases b<;>simp
theorem anO {op:Int→Int→Int} {a b:Vl}:lim (tW op a b).1.n:=by
  unfold tW
  split
  · exact oS
  · rename_i h
    simp [acQ] at h
    unfold lim vN;simp only;omega
theorem xO {r:Vl→Vl→Vl×Int} {a b:Vl} (h:lim (r a b).1.n):lim (iX r a b).1.n:=by
  unfold iX
  split
  · exact oS
  · exact h
theorem asB (k:Int) (a b:Vl):lim (pQ k a b).1.n:=by
  unfold pQ
  repeat' split
  all_goals first
    |exact xO anO
    |exact xO (yG _)
    |exact yG _
    |(unfold xM;(repeat' split)<;>first|exact oS|(unfold lim vN;simp only;omega))
theorem arC {row:List Vl} (h:∀v∈row,lim v.n) (i:Nat):lim (row.getD i v0).n:=by
  rw [List.getD_eq_getElem?_getD]
  cases hi:row[i]? with
  |none=>exact oS
  |some x=>exact h x (List.mem_of_getElem? hi)
theorem aqU {row:List Vl} (hr:∀v∈row,lim v.n):∀{e:Ex},bS e=true→lim (dB row e).1.n
  | .mk k n v of,hf=>by
    simp only [dB]
    split
    · split
      · exact oS
      · exact arC hr _
    · split
      · rename_i h0 h1
        subst h1
        simp [bS,kI] at hf
        exact alC hf.1.2
      · split
        · exact oS
        · split
          · exact asB _ _ _
          · exact oS
def rowOK (row:List Vl):Prop:=row.length<2^62∧∀v∈row,lim v.n
theorem amN {k n:Int} {v:Vl} {of:List Ex} {row:List Vl} (hr:rowOK row) (hk:k=0∨k=1) (hf:bS (.mk k n v of)=true):
    PF Tryz.prog 110 [.agg (Ex.mk k n v of).cells, .seq (row.map Vl.cells)] (lW (dB row (.mk k n v of))):=by
  have hlen:(row.map Vl.cells).length=row.length:=zql _
  have hrl:=hr.1
  by_cases hk0:k=0
  · subst hk0
    simp [bS,kI] at hf
    by_cases h2:n≥row.length
    · have e:dB row (.mk 0 n v of)=(v0,4):=by simp only [dB,if_pos];rw [if_pos h2]
      rw [e]
      refine aK aG Tryz.func110 (by kernel_rfl) rfl rfl rfl rfl (fun st=> ?_)
      (try (apply wO pk;exact rfl));(repeat' (first|(show All _;constructor)|(show Imp _ _;constructor)|(show ImpX _ _ _ _;constructor)|(apply wC pk;(iterate 2 exact rfl))|(apply wE pk;(iterate 2 exact rfl))|(apply wX pk;exact rfl)|(apply wN pk;exact rfl)|(apply wD pk [] [];kernel_rfl;exact rfl;exact rfl)|(apply aB;simp only [zqt,zqf])|(refine aC rfl (fun h=> ?_) (fun h=> ?_)<;>(try simp at h)<;>try (exfalso;omega))|(refine aD ?_;refine ⟨_,_,_,rfl,Wk.refl _,StSub.refl _, ?_,rfl⟩;try rfl)|(intros;(try simp only [zql]);omega)|((exfalso;simp at*;omega))))
    · have hn:n.toNat<row.length:=by omega
      have hx:=getElem?_pos row n.toNat hn
      have e:dB row (.mk 0 n v of)=(row[n.toNat],0):=by simp only [dB,if_pos];rw [if_neg h2];simp [hx]
      rw [e]
      have hrow:(row.map Vl.cells)[n.toNat]?=some row[n.toNat].cells:=by rw [List.getElem?_map,hx];rfl
      have hnn:n=((n.toNat:Nat):Int):=by omega
      refine aK aG Tryz.func110 (by kernel_rfl) rfl rfl rfl rfl (fun st=> ?_)
      (try (apply wO pk;exact rfl));(repeat' (first|(show All _;constructor)|(show Imp _ _;constructor)|(show ImpX _ _ _ _;constructor)|(apply wC pk;(iterate 2 exact rfl))|(apply wE pk;(iterate 2 exact rfl))|(apply wX pk;exact rfl)|(apply wN pk;exact rfl)|(apply wD pk [] [];kernel_rfl;exact rfl;exact rfl)|(apply aB;simp only [zqt,zqf])|(refine aC rfl (fun h=> ?_) (fun h=> ?_)<;>(try simp at h)<;>try (exfalso;omega))|(refine aD ?_;refine ⟨_,_,_,rfl,Wk.refl _,StSub.refl _, ?_,rfl⟩;try rfl)|(apply bC pk;(iterate 6 exact rfl);rotate_left;exact rfl;(intro hw;exact hnn);(intro hw;apply hrow<;>omega);(intro _;exact rfl);exact rfl)|(intros;(try simp only [zql]);omega)|((exfalso;simp at*;omega))))
  · have hk1:k=1:=by omega
    subst hk1
    have e:dB row (.mk 1 n v of)=(v,0):=by simp [dB]
    rw [e]
    refine aK aG Tryz.func110 (by kernel_rfl) rfl rfl rfl rfl (fun st=> ?_)
    (try (apply wO pk;exact rfl));(repeat' (first|(show All _;constructor)|(show Imp _ _;constructor)|(show ImpX _ _ _ _;constructor)|(apply wC pk;(iterate 2 exact rfl))|(apply wE pk;(iterate 2 exact rfl))|(apply wX pk;exact rfl)|(apply wN pk;exact rfl)|(apply wD pk [] [];kernel_rfl;exact rfl;exact rfl)|(apply aB;simp only [zqt,zqf])|(refine aC rfl (fun h=> ?_) (fun h=> ?_)<;>(try simp at h)<;>try (exfalso;omega))|(refine aD ?_;refine ⟨_,_,_,rfl,Wk.refl _,StSub.refl _, ?_,rfl⟩;try rfl)|(intros;(try simp only [zql]);omega)))
def ahW :List PV:=[(PV.val (Value.int .i64 (0))),(PV.val (Value.int .i64 (0))),(PV.val (Value.string (e0)))]
def azV :List Vl→List PV
  |[]=>ahW++ahW
  |[a]=>a.cells++ahW
  |a::b::_=>a.cells++b.cells
mutual
theorem yB {row:List Vl} (hr:rowOK row):∀(e:Ex),e.ok→bS e=true→PF Tryz.prog 110 [.agg e.cells, .seq (row.map Vl.cells)] (lW (dB row e))
  | .mk k n v of,hok,hf=>by
    have ih:=vG hr of
    by_cases hk01:k=0∨k=1
    · exact amN hr hk01 hf
    have hk0:¬k=0:=by omega
    have hk1:¬k=1:=by omega
    obtain ⟨hk,hn,hv,hlen,hall⟩:=pZ hf hk0 hk1
    simp only [Ex.ok] at hok
    have hm:=adJ k
    have hrl:=Ex.rows_len of
    obtain ⟨fid,caps,hlook,hsays⟩:=tT hk.1 hk.2
    have hE:dB row (.mk k n v of)=match iV row of with|(_,some no)=>(v0,no)|(got,none)=>if tG (oF k) 0 (got.map Vl.kind) then pQ k (got.getD 0 v0) (got.getD (iY k-1).toNat v0) else (v0,6):=by simp only [dB,if_neg hk0,if_neg hk1];try rfl
    generalize dB row (.mk k n v of)=E at*
    refine aK aG Tryz.func110 (by kernel_rfl) rfl rfl rfl rfl (fun st=> ?_)
    focus ((try (apply wO pk;exact rfl));(repeat' (first|((exfalso;omega))|(show All _;constructor)|(show Imp _ _;constructor)|(show ImpX _ _ _ _;constructor)|(apply wC pk;(iterate 2 exact rfl))|(apply wE pk;(iterate 2 exact rfl))|(apply wX pk;exact rfl)|(apply wN pk;exact rfl)|(apply wD pk [] [];kernel_rfl;exact rfl;exact rfl)|(apply aB;simp only [zqt,zqf])|(refine aC rfl (fun h=> ?_) (fun h=> ?_)<;>(try simp at h)<;>try (exfalso;omega))|(refine aD ?_;refine ⟨_,_,_,rfl,Wk.refl _,StSub.refl _, ?_,rfl⟩;try rfl)|(intros;(try simp only [zql]);omega))))
    refine tJ 7 3 rfl rfl (fun id hid=> ?_)
    have hid:st id=none:=hid
    refine aP (X:={x:List Vl×Nat//x.1.length≤of.length∧st x.2=none∧x.1=(of.take x.1.length).map (fun y=>(dB row y).1)∧∀j y,j<x.1.length→of[j]?=some y→(dB row y).2=0}) (fun i=>(((((((((St.nil 81 (upd st i.1.2 (some (.tok 3)))).pv 1 (.seq (row.map Vl.cells))).var 2 75 ((Ex.mk k n v of).cells)).var 4 47 (ahW)).var 6 177 (azV i.1.1)).pv 7 (.own i.1.2 ((i.1.1.map Vl.kind).map I1))).pv 33 (.seq (Ex.rows of))).pv 34 ((PV.val (Value.int .i64 (((Ex.rows of).length:Nat)))))).pv 35 ((PV.val (Value.int .i64 ((i.1.1.length:Nat))))))) (fun i=>of.length-i.1.1.length) ⟨([],id),by simp,hid,by simp,by simp⟩ ?_ (fun i=> ?_)
    · (first|exact Sub.nil _ _ _ (StSub.refl _) rfl|((repeat (first|refine Sub.pv ?_ rfl|refine Sub.var ?_ rfl rfl|refine Sub.pv' ?_ rfl (by first|rfl|simp)|refine Sub.var' ?_ rfl rfl (by first|rfl|simp)));(first|exact Sub.nil _ _ _ (StSub.refl _) rfl|exact Sub.nil _ _ _ (aQ (by assumption)) rfl|exact Sub.nil _ _ _ (aJ (by first|rfl|exact aV (by assumption)|((simp only [St.pv,St.put,St.sst,St.setv,St.nil,St.var,aN]);first|done|rfl))) rfl|(refine Sub.nil _ _ _ (aJ ?_) rfl;(simp only [St.pv,St.put,St.sst,St.setv,St.nil,St.var,aN]);(rw [cX (by assumption)]);first|done|rfl))))
    obtain ⟨⟨got,id⟩,hi,hid,hgot,hz⟩:=i
    simp only at hi hid hgot hz
    dsimp only
    by_cases hend:of.length≤got.length
    · have hle:got.length=of.length:=by omega
      have htk:of.take got.length=of:=qP (by omega)
      rw [htk] at hgot
      have hall2:∀x∈of,(dB row x).2=0:=fun x hx=>by
        obtain ⟨j,hj⟩:=List.mem_iff_getElem?.1 hx
        exact hz j x (by have:=(List.getElem?_eq_some_iff.1 hj).1;omega) hj
      have hgot2:iV row of=(got,none):=by rw [hgot];exact sY hall2
      have hlim:∀v∈got,lim v.n:=fun v hv=>by
        rw [hgot] at hv
        obtain ⟨e,he,rfl⟩:=List.mem_map.1 hv
        exact aqU hr.2 (hall e he)
      have hts:=oA (m:=iY k) (nb:=oF k) (f:=fid) (caps:=caps) (l:=got.map Vl.kind) (by simp;omega)
      unfold iM at hts
      rw [hgot2] at hE
      simp only at hE
      clear hgot2 hall2 hz hgot htk
      generalize tG (oF k) 0 (got.map Vl.kind)=G at*
      cases G with
      |false=>
        rw [if_neg (by simp)] at hE
        (try (apply wO pk;exact rfl));(repeat' (first|(show All _;constructor)|(show Imp _ _;constructor)|(show ImpX _ _ _ _;constructor)|(apply wC pk;(iterate 2 exact rfl))|(apply wE pk;(iterate 2 exact rfl))|(apply wX pk;exact rfl)|(apply wN pk;exact rfl)|(apply wD pk [] [];kernel_rfl;exact rfl;exact rfl)|(apply aB;simp only [zqt,zqf])|(refine aC rfl (fun h=> ?_) (fun h=> ?_)<;>(try simp at h)<;>try (exfalso;omega))|(refine aD ?_;first|(refine ⟨_,_,_,rfl,Wk.refl _,StSub.refl _, ?_,rfl⟩;(first|rfl|((rw [hE];rfl);done)))|(refine ⟨_,_,_,rfl,Wk.refl _,aH (by assumption), ?_,rfl⟩;(first|rfl|((rw [hE];rfl);done)))|(refine ⟨_,_,_,rfl,Wk.soft _,StSub.refl _, ?_,rfl⟩;(first|rfl|((rw [hE];rfl);done)))|(refine ⟨_,_,_,rfl,Wk.soft _,aH (by assumption), ?_,rfl⟩;(first|rfl|((rw [hE];rfl);done)))|(refine ⟨_,_,_,rfl,Wk.refl _,StSub.refl _, ?_,rfl⟩)|(refine ⟨_,_,_,rfl,Wk.soft _,aH (by assumption), ?_,rfl⟩))|(apply aL;(iterate 3 exact rfl);(intro _;(first|apply cK|apply hts)<;>first|assumption|omega);rotate_left;(iterate 2 exact rfl))|(apply eE;(iterate 3 exact rfl);(intro _;(first|apply cK|apply hts)<;>first|assumption|omega);rotate_left;(iterate 2 exact rfl))|((apply oI pk;(iterate 4 exact rfl);(focus repeat' constructor);exact rfl;exact hlook;exact rfl))|(intros;(try simp only [zql]);omega)))
      |true=>
        rw [if_pos rfl] at hE
        rcases got with _|⟨a,_|⟨b,_|⟨_,_⟩⟩⟩
        · simp only [List.length_nil] at hle;omega
        · have hm1:iY k=1:=by simp only [List.length_cons,List.length_nil] at hle;omega
          have ha:=hlim a (by simp)
          have hs:=hsays a.kind a.n a.s a.kind a.n a.s ha ha
          rw [hm1] at hE hts hlook
          have e:E=pQ k a a:=hE
          rw [e]
          generalize pQ k a a=R at*
          (try (apply wO pk;exact rfl));(repeat' (first|(show All _;constructor)|(show Imp _ _;constructor)|(show ImpX _ _ _ _;constructor)|(apply wC pk;(iterate 2 exact rfl))|(apply wE pk;(iterate 2 exact rfl))|(apply wX pk;exact rfl)|(apply wN pk;exact rfl)|(apply wD pk [] [];kernel_rfl;exact rfl;exact rfl)|(apply aB;simp only [zqt,zqf])|(refine aC rfl (fun h=> ?_) (fun h=> ?_)<;>(try simp at h)<;>try (exfalso;omega))|(refine aD ?_;first|(refine ⟨_,_,_,rfl,Wk.refl _,StSub.refl _, ?_,rfl⟩;(first|rfl))|(refine ⟨_,_,_,rfl,Wk.refl _,aH (by assumption), ?_,rfl⟩;(first|rfl))|(refine ⟨_,_,_,rfl,Wk.soft _,StSub.refl _, ?_,rfl⟩;(first|rfl))|(refine ⟨_,_,_,rfl,Wk.soft _,aH (by assumption), ?_,rfl⟩;(first|rfl))|(refine ⟨_,_,_,rfl,Wk.refl _,StSub.refl _, ?_,rfl⟩)|(refine ⟨_,_,_,rfl,Wk.soft _,aH (by assumption), ?_,rfl⟩))|(apply aL;(iterate 3 exact rfl);(intro _;(first|apply cK|apply hts|apply hs)<;>first|assumption|omega);rotate_left;(iterate 2 exact rfl))|(apply eE;(iterate 3 exact rfl);(intro _;(first|apply cK|apply hts|apply hs)<;>first|assumption|omega);rotate_left;(iterate 2 exact rfl))|((apply oI pk;(iterate 4 exact rfl);(focus repeat' constructor);exact rfl;exact hlook;exact rfl))|((apply aoF pk 0;(iterate 5 exact rfl);(focus repeat' constructor);exact rfl;(intro _;rfl);(intro _;omega);exact rfl))|(intros;(try simp only [zql]);omega)))
        · have hm1:iY k=2:=by simp only [List.length_cons,List.length_nil] at hle;omega
          have ha:=hlim a (by simp)
          have hb:=hlim b (by simp)
          have hs:=hsays a.kind a.n a.s b.kind b.n b.s ha hb
          rw [hm1] at hE hts hlook
          have e:E=pQ k a b:=hE
          rw [e]
          generalize pQ k a b=R at*
          (try (apply wO pk;exact rfl));(repeat' (first|(show All _;constructor)|(show Imp _ _;constructor)|(show ImpX _ _ _ _;constructor)|(apply wC pk;(iterate 2 exact rfl))|(apply wE pk;(iterate 2 exact rfl))|(apply wX pk;exact rfl)|(apply wN pk;exact rfl)|(apply wD pk [] [];kernel_rfl;exact rfl;exact rfl)|(apply aB;simp only [zqt,zqf])|(refine aC rfl (fun h=> ?_) (fun h=> ?_)<;>(try simp at h)<;>try (exfalso;omega))|(refine aD ?_;first|(refine ⟨_,_,_,rfl,Wk.refl _,StSub.refl _, ?_,rfl⟩;(first|rfl))|(refine ⟨_,_,_,rfl,Wk.refl _,aH (by assumption), ?_,rfl⟩;(first|rfl))|(refine ⟨_,_,_,rfl,Wk.soft _,StSub.refl _, ?_,rfl⟩;(first|rfl))|(refine ⟨_,_,_,rfl,Wk.soft _,aH (by assumption), ?_,rfl⟩;(first|rfl))|(refine ⟨_,_,_,rfl,Wk.refl _,StSub.refl _, ?_,rfl⟩)|(refine ⟨_,_,_,rfl,Wk.soft _,aH (by assumption), ?_,rfl⟩))|(apply aL;(iterate 3 exact rfl);(intro _;(first|apply cK|apply hts|apply hs)<;>first|assumption|omega);rotate_left;(iterate 2 exact rfl))|(apply eE;(iterate 3 exact rfl);(intro _;(first|apply cK|apply hts|apply hs)<;>first|assumption|omega);rotate_left;(iterate 2 exact rfl))|((apply oI pk;(iterate 4 exact rfl);(focus repeat' constructor);exact rfl;exact hlook;exact rfl))|((apply aoF pk 0;(iterate 5 exact rfl);(focus repeat' constructor);exact rfl;(intro _;rfl);(intro _;omega);exact rfl))|((apply aoF pk 1;(iterate 5 exact rfl);(focus repeat' constructor);exact rfl;(intro _;rfl);(intro _;omega);exact rfl))|(intros;(try simp only [zql]);omega)))
        · simp only [List.length_cons] at hle;omega
    obtain ⟨x,hx⟩:=eQ (l:=of) (i:=got.length) (by omega)
    have hrow:=Ex.rows_get hx
    have hm':=List.mem_of_getElem? hx
    have ihx:=ih x hm' (Ex.oks_mem hok.2 hm') (hall x hm')
    have hsome:=fun h0=>sM (row:=row) hz hx h0
    have hzs:(dB row x).2=0→∀j y,j<got.length+1→of[j]?=some y→(dB row y).2=0:=fun h0 j y hj hy=>by
      by_cases hji:j=got.length
      · subst hji;rw [hx] at hy;injection hy with hy;subst hy;exact h0
      · exact hz j y (by omega) hy
    have hmap:=nZ hx (fun y=>(dB row y).1)
    rw [←hgot] at hmap
    have hE2:(dB row x).2≠0→E=(v0,(dB row x).2):=fun h0=>by
      have:=hsome h0
      rw [hE]
      revert this
      cases iV row of with|mk a b=>intro this;simp only at this;subst this;rfl
    clear hsome hE
    generalize hrr:dB row x=r at*
    obtain ⟨⟨rk,rn,rs⟩,re⟩:=r
    obtain ⟨k',n',v',of'⟩:=x
    dsimp only at*
    by_cases h2:re=0
    · have hz2:=hzs h2
      have hg2:got.length<2:=by omega
      rcases got with _|⟨a,_|⟨b,_⟩⟩
      · simp only [List.length_nil] at hend hi
        have hne:¬(Ex.rows of=[]):=fun q=>by rw [q] at hrl;simp only [List.length_nil] at hrl;omega
        have hz1:(List.map Vl.kind ([]:List Vl)).length=0:=rfl
        have w1:([⟨rk,rn,rs⟩]:List Vl).length≤of.length:=by show 1≤of.length;omega
        have w2:([⟨rk,rn,rs⟩]:List Vl).length=1:=rfl
        have w3:([]:List Vl).length=0:=rfl
        have hz3:(List.map I1 (List.map Vl.kind ([]:List Vl))).length=0:=rfl
        (try (apply wO pk;exact rfl));(repeat' (first|(exact absurd (by assumption:Ex.rows of=[]) hne)|((exfalso;omega))|(show All _;constructor)|(show Imp _ _;constructor)|(show ImpX _ _ _ _;constructor)|(apply wC pk;(iterate 2 exact rfl))|(apply wE pk;(iterate 2 exact rfl))|(apply wX pk;exact rfl)|(apply wN pk;exact rfl)|(apply wD pk [] [];kernel_rfl;exact rfl;exact rfl)|(apply aB;simp only [zqt,zqf])|(refine aC rfl (fun h=> ?_) (fun h=> ?_)<;>(try simp at h)<;>try (exfalso;omega))|(refine aD ?_;first|(refine ⟨_,_,_,rfl,Wk.refl _,StSub.refl _, ?_,rfl⟩;(first|rfl))|(refine ⟨_,_,_,rfl,Wk.refl _,aH (by assumption), ?_,rfl⟩;(first|rfl))|(refine ⟨_,_,_,rfl,Wk.soft _,StSub.refl _, ?_,rfl⟩;(first|rfl))|(refine ⟨_,_,_,rfl,Wk.soft _,aH (by assumption), ?_,rfl⟩;(first|rfl))|(refine ⟨_,_,_,rfl,Wk.refl _,StSub.refl _, ?_,rfl⟩)|(refine ⟨_,_,_,rfl,Wk.soft _,aH (by assumption), ?_,rfl⟩))|(apply aL;(iterate 3 exact rfl);(intro _;apply ihx<;>first|assumption|omega);rotate_left;(iterate 2 exact rfl))|(apply bC pk;(iterate 6 exact rfl);rotate_left;exact rfl;(intro hw;exact rfl);(intro hw;apply hrow<;>omega);(intro _;exact (Ex.cells_len _));exact rfl)|((apply aoF pk 0;(iterate 5 exact rfl);(focus repeat' constructor);exact rfl;(intro _;rfl);(intro _;omega);exact rfl))|(refine ⟨⟨([⟨rk,rn,rs⟩],id'),w1,iH hid',hmap.symm,hz2⟩, ?_,by simp only;omega⟩;((dsimp only));(first|exact Sub.nil _ _ _ (StSub.refl _) rfl|((repeat (first|refine Sub.pv ?_ rfl|refine Sub.var ?_ rfl rfl));(first|exact Sub.nil _ _ _ (StSub.refl _) rfl|exact Sub.nil _ _ _ (aQ (by assumption)) rfl|exact Sub.nil _ _ _ (aJ (by first|rfl|exact aV (by assumption)|((simp only [St.pv,St.put,St.sst,St.setv,St.nil,St.var,aN]);first|done|rfl))) rfl|(refine Sub.nil _ _ _ (aJ ?_) rfl;(simp only [St.pv,St.put,St.sst,St.setv,St.nil,St.var,aN]);(rw [cX (by assumption)]);first|done|rfl)))))|(apply apS pk (rk) 8;(iterate 8 exact rfl);exact aA _ _ _;exact fun _=>rfl;exact fun _=>rfl;exact pB;(first|omega|(simp;omega));(first|omega|(simp;omega));exact rfl;intro id' hid')|(intros;(try simp only [zql]);omega)))
      · simp only [List.length_cons,List.length_nil] at hend hi
        have hz1:(List.map Vl.kind [a]).length=1:=rfl
        have w1:([a,⟨rk,rn,rs⟩]:List Vl).length≤of.length:=by show 2≤of.length;omega
        have w2:([a,⟨rk,rn,rs⟩]:List Vl).length=2:=rfl
        have w3:[a].length=1:=rfl
        have hz3:(List.map I1 (List.map Vl.kind [a])).length=1:=rfl
        (try (apply wO pk;exact rfl));(repeat' (first|((exfalso;omega))|(show All _;constructor)|(show Imp _ _;constructor)|(show ImpX _ _ _ _;constructor)|(apply wC pk;(iterate 2 exact rfl))|(apply wE pk;(iterate 2 exact rfl))|(apply wX pk;exact rfl)|(apply wN pk;exact rfl)|(apply wD pk [] [];kernel_rfl;exact rfl;exact rfl)|(apply aB;simp only [zqt,zqf])|(refine aC rfl (fun h=> ?_) (fun h=> ?_)<;>(try simp at h)<;>try (exfalso;omega))|(refine aD ?_;first|(refine ⟨_,_,_,rfl,Wk.refl _,StSub.refl _, ?_,rfl⟩;(first|rfl))|(refine ⟨_,_,_,rfl,Wk.refl _,aH (by assumption), ?_,rfl⟩;(first|rfl))|(refine ⟨_,_,_,rfl,Wk.soft _,StSub.refl _, ?_,rfl⟩;(first|rfl))|(refine ⟨_,_,_,rfl,Wk.soft _,aH (by assumption), ?_,rfl⟩;(first|rfl))|(refine ⟨_,_,_,rfl,Wk.refl _,StSub.refl _, ?_,rfl⟩)|(refine ⟨_,_,_,rfl,Wk.soft _,aH (by assumption), ?_,rfl⟩))|(apply aL;(iterate 3 exact rfl);(intro _;apply ihx<;>first|assumption|omega);rotate_left;(iterate 2 exact rfl))|(apply bC pk;(iterate 6 exact rfl);rotate_left;exact rfl;(intro hw;exact rfl);(intro hw;apply hrow<;>omega);(intro _;exact (Ex.cells_len _));exact rfl)|((apply aoF pk 1;(iterate 5 exact rfl);(focus repeat' constructor);exact rfl;(intro _;rfl);(intro _;omega);exact rfl))|(refine ⟨⟨([a,⟨rk,rn,rs⟩],id'),w1,iH hid',hmap.symm,hz2⟩, ?_,by simp only;omega⟩;((dsimp only));(first|exact Sub.nil _ _ _ (StSub.refl _) rfl|((repeat (first|refine Sub.pv ?_ rfl|refine Sub.var ?_ rfl rfl));(first|exact Sub.nil _ _ _ (StSub.refl _) rfl|exact Sub.nil _ _ _ (aQ (by assumption)) rfl|exact Sub.nil _ _ _ (aJ (by first|rfl|exact aV (by assumption)|((simp only [St.pv,St.put,St.sst,St.setv,St.nil,St.var,aN]);first|done|rfl))) rfl|(refine Sub.nil _ _ _ (aJ ?_) rfl;(simp only [St.pv,St.put,St.sst,St.setv,St.nil,St.var,aN]);(rw [cX (by assumption)]);first|done|rfl)))))|(apply apS pk (rk) 8;(iterate 8 exact rfl);exact aA _ _ _;exact fun _=>rfl;exact fun _=>rfl;exact pB;(first|omega|(simp;omega));(first|omega|(simp;omega));exact rfl;intro id' hid')|(intros;(try simp only [zql]);omega)))
      · exact absurd hg2 (by simp)
    · have e:=hE2 h2
      (try (apply wO pk;exact rfl));(repeat' (first|((exfalso;omega))|(show All _;constructor)|(show Imp _ _;constructor)|(show ImpX _ _ _ _;constructor)|(apply wC pk;(iterate 2 exact rfl))|(apply wE pk;(iterate 2 exact rfl))|(apply wX pk;exact rfl)|(apply wN pk;exact rfl)|(apply wD pk [] [];kernel_rfl;exact rfl;exact rfl)|(apply aB;simp only [zqt,zqf])|(refine aC rfl (fun h=> ?_) (fun h=> ?_)<;>(try simp at h)<;>try (exfalso;omega))|(refine aD ?_;first|(refine ⟨_,_,_,rfl,Wk.refl _,StSub.refl _, ?_,rfl⟩;(first|rfl|((rw [e];rfl);done)))|(refine ⟨_,_,_,rfl,Wk.refl _,aH (by assumption), ?_,rfl⟩;(first|rfl|((rw [e];rfl);done)))|(refine ⟨_,_,_,rfl,Wk.soft _,StSub.refl _, ?_,rfl⟩;(first|rfl|((rw [e];rfl);done)))|(refine ⟨_,_,_,rfl,Wk.soft _,aH (by assumption), ?_,rfl⟩;(first|rfl|((rw [e];rfl);done)))|(refine ⟨_,_,_,rfl,Wk.refl _,StSub.refl _, ?_,rfl⟩)|(refine ⟨_,_,_,rfl,Wk.soft _,aH (by assumption), ?_,rfl⟩))|(apply aL;(iterate 3 exact rfl);(intro _;apply ihx<;>first|assumption|omega);rotate_left;(iterate 2 exact rfl))|(apply bC pk;(iterate 6 exact rfl);rotate_left;exact rfl;(intro hw;exact rfl);(intro hw;apply hrow<;>omega);(intro _;exact (Ex.cells_len _));exact rfl)|(intros;(try simp only [zql]);omega)))
theorem vG {row:List Vl} (hr:rowOK row):∀(os:List Ex) (x:Ex),x∈os→x.ok→bS x=true→PF Tryz.prog 110 [.agg x.cells, .seq (row.map Vl.cells)] (lW (dB row x))
  |[],_,h,_=>by cases h
  |e::es,x,h,hok=>by
    rcases List.mem_cons.1 h with h|h
    · rw [h] at hok⊢;exact yB hr e hok
    · exact vG hr es x h hok
end
def EvalR (e:Ex) (row:List Vl):Vl×Int:=if qL e≠0 then (v0,qL e) else dB row e
theorem Eval_spec {e:Ex} (hok:e.ok) {row:List Vl} (hr:rowOK row):PF Tryz.prog 67 [.agg e.cells, .seq (row.map Vl.cells)] (lW (EvalR e row)):=by
  have h1:=gO hok
  by_cases hm:qL e=0
  · have h3:=yB hr e hok (wU hm).2
    rw [hm] at h1
    have e1:EvalR e row=dB row e:=by unfold EvalR;rw [if_neg (fun q=>q hm)]
    rw [e1]
    generalize dB row e=R at*
    clear hm e1
    obtain ⟨k,n,v,of⟩:=e
    refine aK aG Tryz.func67 (by kernel_rfl) rfl rfl rfl rfl (fun st=> ?_)
    (try (apply wO pk;exact rfl));(repeat' (first|(show All _;constructor)|(show Imp _ _;constructor)|(show ImpX _ _ _ _;constructor)|(apply wC pk;(iterate 2 exact rfl))|(apply wE pk;(iterate 2 exact rfl))|(apply wX pk;exact rfl)|(apply wN pk;exact rfl)|(apply wD pk [] [];kernel_rfl;exact rfl;exact rfl)|(apply aB;simp only [zqt,zqf])|(refine aC rfl (fun h=> ?_) (fun h=> ?_)<;>(try simp at h)<;>try (exfalso;omega))|(refine aD ?_;refine ⟨_,_,_,rfl,Wk.refl _,StSub.refl _, ?_,rfl⟩;try rfl)|(apply aL;(iterate 3 exact rfl);(intro _;(first|apply h1|apply h3)<;>first|assumption|omega);rotate_left;(iterate 2 exact rfl))|(intros;(try simp only [zql]);omega)))
  · have e1:EvalR e row=(v0,qL e):=by unfold EvalR;rw [if_pos hm]
    rw [e1]
    generalize qL e=M at*
    clear e1
    obtain ⟨k,n,v,of⟩:=e
    refine aK aG Tryz.func67 (by kernel_rfl) rfl rfl rfl rfl (fun st=> ?_)
    (try (apply wO pk;exact rfl));(repeat' (first|((exfalso;omega))|(show All _;constructor)|(show Imp _ _;constructor)|(show ImpX _ _ _ _;constructor)|(apply wC pk;(iterate 2 exact rfl))|(apply wE pk;(iterate 2 exact rfl))|(apply wX pk;exact rfl)|(apply wN pk;exact rfl)|(apply wD pk [] [];kernel_rfl;exact rfl;exact rfl)|(apply aB;simp only [zqt,zqf])|(refine aC rfl (fun h=> ?_) (fun h=> ?_)<;>(try simp at h)<;>try (exfalso;omega))|(refine aD ?_;refine ⟨_,_,_,rfl,Wk.refl _,StSub.refl _, ?_,rfl⟩;try rfl)|(apply aL;(iterate 3 exact rfl);(intro _;apply h1<;>first|assumption|omega);rotate_left;(iterate 2 exact rfl))|(intros;(try simp only [zql]);omega)))
def kZ (f:Ex→Int→Int) (left:Int):Int→List Ex→Int
  |n,[]=>n
  |n,x::xs=>if n≤left then kZ f left (n+f x (left-n)) xs else n
def nodesR :Nat→Ex→Int→Int
  |0,_,left=>left+1
  |d+1,e,left=>kZ (nodesR d) left 1 e.of
theorem yN {f:Ex→Int→Int} {left:Int} (hf:∀x l,0≤l→1≤f x l∧f x l≤l+1):∀(l:List Ex) (n:Int),1≤n→n≤left+1→1≤kZ f left n l∧kZ f left n l≤left+1
  |[],n,h1,h2=>⟨h1,h2⟩
  |x::xs,n,h1,h2=>by
    simp only [kZ]
    split
    · rename_i h
      have:=hf x (left-n) (by omega)
      exact yN hf xs _ (by omega) (by omega)
    · exact ⟨h1,h2⟩
theorem yM :∀(d:Nat) (e:Ex) (left:Int),0≤left→1≤nodesR d e left∧nodesR d e left≤left+1
  |0,_,left,h=>by simp only [nodesR];omega
  |d+1,e,left,h=>by
    simp only [nodesR]
    exact yN (fun x l hl=>yM d x l hl) _ _ (by omega) (by omega)
theorem ahG :∀(d:Nat) (e:Ex) (left z:Int),z=(d:Nat)→d≤1000→0≤left→left≤1000→e.ok→PF Tryz.prog 100 [.agg e.cells,(PV.val (Value.int .i64 (left))),(PV.val (Value.int .i64 (z)))] (PV.val (Value.int .i64 (nodesR d e left))):=by
  intro d
  induction d with
  |zero=>
    intro e left z hz _ h1 h2 hok
    subst hz
    obtain ⟨k,n,v,of⟩:=e
    refine aK aG Tryz.func100 (by kernel_rfl) rfl rfl rfl rfl (fun st=> ?_)
    (try (apply wO pk;exact rfl));(repeat' (first|(show All _;constructor)|(show Imp _ _;constructor)|(show ImpX _ _ _ _;constructor)|(apply wC pk;(iterate 2 exact rfl))|(apply wE pk;(iterate 2 exact rfl))|(apply wX pk;exact rfl)|(apply wN pk;exact rfl)|(apply wD pk [] [];kernel_rfl;exact rfl;exact rfl)|(apply aB;simp only [zqt,zqf])|(refine aC rfl (fun h=> ?_) (fun h=> ?_)<;>(try simp at h)<;>try (exfalso;omega))|(refine aD ?_;refine ⟨_,_,_,rfl,Wk.refl _,StSub.refl _, ?_,rfl⟩;try rfl)|(intros;(try simp only [zql]);omega)|((exfalso;simp at*;done))))
  |succ d ih=>
    intro e left z hz hd h1 h2 hok
    subst hz
    obtain ⟨k,n,v,of⟩:=e
    simp only [Ex.ok] at hok
    have hrl:=Ex.rows_len of
    refine aK aG Tryz.func100 (by kernel_rfl) rfl rfl rfl rfl (fun st=> ?_)
    focus ((try (apply wO pk;exact rfl));(repeat' (first|((exfalso;omega))|(show All _;constructor)|(show Imp _ _;constructor)|(show ImpX _ _ _ _;constructor)|(apply wC pk;(iterate 2 exact rfl))|(apply wE pk;(iterate 2 exact rfl))|(apply wX pk;exact rfl)|(apply wN pk;exact rfl)|(apply wD pk [] [];kernel_rfl;exact rfl;exact rfl)|(apply aB;simp only [zqt,zqf])|(refine aC rfl (fun h=> ?_) (fun h=> ?_)<;>(try simp at h)<;>try (exfalso;omega))|(refine aD ?_;refine ⟨_,_,_,rfl,Wk.refl _,StSub.refl _, ?_,rfl⟩;try rfl)|(intros;(try simp only [zql]);omega))))
    refine aP (X:={x:Nat×Int//x.1≤of.length∧1≤x.2∧x.2≤left+1∧nodesR (d+1) (.mk k n v of) left=kZ (nodesR d) left x.2 (of.drop x.1)}) (fun i=>((((((St.nil 39 st).pv 1 ((PV.val (Value.int .i64 (left))))).pv 2 ((PV.val (Value.int .i64 ((d+1:Nat)))))).var 3 75 ((Ex.mk k n v of).cells)).pv 7 ((PV.val (Value.int .i64 (i.1.2))))).pv 8 ((PV.val (Value.int .i64 ((i.1.1:Nat))))))) (fun i=>of.length-i.1.1) ⟨(0,1),by simp,by simp,by simp only;omega,rfl⟩ ?_ (fun i=> ?_)
    · ((repeat (first|refine Sub.pv ?_ rfl|refine Sub.var ?_ rfl rfl));exact Sub.nil _ _ _ (StSub.refl _) rfl)
    obtain ⟨⟨i,m⟩,hi,hm1,hm2,hinv⟩:=i
    simp only at hi hm1 hm2 hinv
    dsimp only
    by_cases hend:¬(i<of.length∧m≤left)
    · have hfin:kZ (nodesR d) left m (of.drop i)=m:=by
        by_cases hlt:i<of.length
        · obtain ⟨x,hx⟩:=eQ hlt
          rw [pN hx]
          simp only [kZ]
          rw [if_neg (fun q=>hend ⟨hlt,q⟩)]
        · rw [aiY hlt];rfl
      rw [hfin] at hinv
      (try (apply wO pk;exact rfl));(repeat' (first|(show All _;constructor)|(show Imp _ _;constructor)|(show ImpX _ _ _ _;constructor)|(apply wC pk;(iterate 2 exact rfl))|(apply wE pk;(iterate 2 exact rfl))|(apply wX pk;exact rfl)|(apply wN pk;exact rfl)|(apply wD pk [] [];kernel_rfl;exact rfl;exact rfl)|(apply aB;simp only [zqt,zqf])|(refine aC rfl (fun h=> ?_) (fun h=> ?_)<;>(try simp at h)<;>try (exfalso;omega))|(refine aD ?_;refine ⟨_,_,_,rfl,Wk.refl _,StSub.refl _, ?_,rfl⟩;try first|rfl|((rw [hinv]);done))|(intros;(try simp only [zql]);omega)|((exfalso;simp at*;omega))))
    obtain ⟨hlt,hml⟩:=Decidable.of_not_not hend
    obtain ⟨x,hx⟩:=eQ hlt
    have hrow:=Ex.rows_get hx
    have hx2:=yM d x (left-m) (by omega)
    have ihx:=fun z hz=>ih x (left-m) z hz (by omega) (by omega) (by omega) (Ex.oks_mem hok.2 (List.mem_of_getElem? hx))
    rw [pN hx] at hinv
    simp only [kZ] at hinv
    rw [if_pos hml] at hinv
    generalize nodesR d x (left-m)=r at*
    obtain ⟨k',n',v',of'⟩:=x
    (try (apply wO pk;exact rfl));(repeat' (first|(show All _;constructor)|(show Imp _ _;constructor)|(show ImpX _ _ _ _;constructor)|(apply wC pk;(iterate 2 exact rfl))|(apply wE pk;(iterate 2 exact rfl))|(apply wX pk;exact rfl)|(apply wN pk;exact rfl)|(apply wD pk [] [];kernel_rfl;exact rfl;exact rfl)|(apply aB;simp only [zqt,zqf])|(refine aC rfl (fun h=> ?_) (fun h=> ?_)<;>(try simp at h)<;>try (exfalso;omega))|(refine aD ?_;refine ⟨_,_,_,rfl,Wk.refl _,StSub.refl _, ?_,rfl⟩;try rfl)|(apply aL;(iterate 3 exact rfl);(intro _;apply ihx<;>first|assumption|omega);rotate_left;(iterate 2 exact rfl))|(apply bC pk;(iterate 6 exact rfl);rotate_left;exact rfl;(intro hw;exact rfl);(intro hw;apply hrow<;>omega);(intro _;exact (Ex.cells_len _));exact rfl)|(refine ⟨⟨(i+1,m+r),by simp only;omega,by simp only;omega,by simp only;omega,hinv⟩, ?_,by simp only;omega⟩;((repeat (first|refine Sub.pv ?_ rfl|refine Sub.var ?_ rfl rfl));exact Sub.nil _ _ _ (StSub.refl _) rfl))|(intros;(try simp only [zql]);omega)|((exfalso;simp at*;omega))))
theorem Few_spec {e:Ex} (hok:e.ok):PF Tryz.prog 60 [.agg e.cells] (PV.val (Value.bool (decide (nodesR 25 e 60≤60)))):=by
  have h:=ahG 25 e 60 25 rfl (by omega) (by omega) (by omega) hok
  generalize nodesR 25 e 60=N at*
  obtain ⟨k,n,v,of⟩:=e
  refine aK aG Tryz.func60 (by kernel_rfl) rfl rfl rfl rfl (fun st=> ?_)
  (try (apply wO pk;exact rfl));(repeat' (first|(show All _;constructor)|(show Imp _ _;constructor)|(show ImpX _ _ _ _;constructor)|(apply wC pk;(iterate 2 exact rfl))|(apply wE pk;(iterate 2 exact rfl))|(apply wX pk;exact rfl)|(apply wN pk;exact rfl)|(apply wD pk [] [];kernel_rfl;exact rfl;exact rfl)|(apply aB;simp only [zqt,zqf])|(refine aC rfl (fun h=> ?_) (fun h=> ?_)<;>(try simp at h)<;>try (exfalso;omega))|(refine aD ?_;refine ⟨_,_,_,rfl,Wk.refl _,StSub.refl _, ?_,rfl⟩;try rfl)|(apply aL;(iterate 3 exact rfl);(intro _;apply h<;>first|assumption|omega);rotate_left;(iterate 2 exact rfl))|(intros;(try simp only [zql]);omega)))
end Go.Proofs.YtcglimangneafaaGreatDoor.X
