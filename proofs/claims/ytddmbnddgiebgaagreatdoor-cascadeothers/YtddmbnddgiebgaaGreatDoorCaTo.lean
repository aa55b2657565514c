import Derived.Test.YtddmbnddgiebgaaGreatDoorCaA
set_option linter.unusedSimpArgs false
set_option linter.unusedVariables false
namespace Go.Proofs.YtddmbnddgiebgaaGreatDoor
open Go Go.Abs
attribute [local irreducible] Ev PWp
set_option maxRecDepth 10000
set_option maxHeartbeats 4000000
theorem jC {G:R2→Bool} {l:Ln} {f:Fr} {k:Int} (h:ptP l f.col=some k):bI G l f=G (f.table,k):=by unfold bI;rw [h]
theorem pR {G:R2→Bool} {l:Ln} {f:Fr} (h:ptP l f.col=none):bI G l f=false:=by unfold bI;rw [h]
theorem apO {α:Type} {f:α→Bool} {l:List α} {i:Nat} (h:i<l.length) (hf:f l[i]=true):l.any f=true:=List.any_eq_true.2 ⟨_,List.getElem_mem h,hf⟩
theorem asB {α:Type} {f:α→Bool} {l:List α} (h:∀j (h:j<l.length),f l[j]=false):l.any f=false:=by
  rw [←Bool.not_eq_true,List.any_eq_true]
  rintro ⟨x,hx,hf⟩
  obtain ⟨j,hj,rfl⟩:=List.getElem_of_mem hx
  rw [h j hj] at hf;cases hf
theorem asQ {α:Type} {f:α→Bool} {l:List α} {i:Nat} (hI:∀j (h:j<l.length),j<i→f l[j]=false) (h:i<l.length) (hf:f l[i]=false):∀j (h:j<l.length),j<i+1→f l[j]=false:=fun j hj hji=>by
  rcases Nat.lt_succ_iff_lt_or_eq.1 hji with q|q
  · exact hI j hj q
  · subst q;exact hf
def rB (t:Tb) (l:Ln) (G:R2→Bool) (act:Int):Bool:=t.foreign.any fun f=>bI G l f&&(decide (act<0)||decide (f.act=act))
theorem oH (t:Tb) (l:Ln) (rows:List R2) (act:Int) (hl:rows.length<1000000000000) (hf:t.foreign.length<1000000000000) (hR:∀f∈t.foreign,iJ l f.col):PF Tryz.prog 18 [.agg t.cells, .agg l.cells, .seq (rows.map r2C),(PV.val (Value.int .i64 (act)))] (PV.val (Value.bool (rB t l (inR rows) act))):=by
  refine aL aH Tryz.func18 (by kernel_rfl) rfl rfl rfl rfl (fun st=> ?_)
  focus ((try (apply wO pk;exact rfl));(repeat' (first|(show All _;constructor)|(show Imp _ _;constructor)|(show ImpX _ _ _ _;constructor)|(apply wC pk;(iterate 2 exact rfl))|(apply wE pk;(iterate 2 exact rfl))|(apply wX pk;exact rfl)|(apply wN pk;exact rfl)|(apply wD pk [] [];kernel_rfl;exact rfl;exact rfl)|(apply aC;simp only [zqt,zqf])|(refine aD rfl (fun h=> ?_) (fun h=> ?_)<;>(try simp at h)<;>try (exfalso;omega))|(refine aF ?_;refine ⟨_,_,_,rfl,Wk.refl _,StSub.refl _, ?_,rfl⟩;try rfl)|(intros;(try simp only [zql]);omega))))
  refine aP (X:={x:Nat//x≤t.foreign.length∧∀j (h:j<t.foreign.length),j<x→(bI (inR rows) l t.foreign[j]&&(decide (act<0)||decide (t.foreign[j].act=act)))=false}) (fun i=>(((((((St.nil 47 st).pv 2 (.seq (rows.map r2C))).pv 3 ((PV.val (Value.int .i64 (act))))).var 5 43 (l.cells)).pv 14 (.seq (t.foreign.map Fr.cells))).pv 15 ((PV.val (Value.int .i64 (((t.foreign.map Fr.cells).length:Nat)))))).pv 16 ((PV.val (Value.int .i64 ((i.1:Nat))))))) (fun i=>t.foreign.length-i.1) ⟨0,by omega,by omega⟩ ?_ (fun i=> ?_)
  · ((repeat (first|refine Sub.pv ?_ rfl|refine Sub.var ?_ rfl rfl));exact Sub.nil _ _ _ (StSub.refl _) rfl)
  obtain ⟨i,hi,hI⟩:=i
  dsimp only
  by_cases hend:t.foreign.length≤i
  · have e:rB t l (inR rows) act=false:=asB fun j hj=>hI j hj (by omega)
    (try (apply wO pk;exact rfl));(repeat' (first|(show All _;constructor)|(show Imp _ _;constructor)|(show ImpX _ _ _ _;constructor)|(apply wC pk;(iterate 2 exact rfl))|(apply wE pk;(iterate 2 exact rfl))|(apply wX pk;exact rfl)|(apply wN pk;exact rfl)|(apply wD pk [] [];kernel_rfl;exact rfl;exact rfl)|(apply aC;simp only [zqt,zqf])|(refine aD rfl (fun h=> ?_) (fun h=> ?_)<;>(try simp at h)<;>try (exfalso;omega))|(refine aF ?_;refine ⟨_,_,_,rfl,Wk.refl _,StSub.refl _, ?_,rfl⟩;try first|rfl|((rw [e]);done))|(intros;(try simp only [zql]);omega)))
  have hil:i<t.foreign.length:=by omega
  have hp:=xS l t.foreign[i].col (hR _ (List.getElem_mem hil))
  have hU:=asQ (f:=fun f=>bI (inR rows) l f&&(decide (act<0)||decide (f.act=act))) hI hil
  have hY:(bI (inR rows) l t.foreign[i]&&(decide (act<0)||decide (t.foreign[i].act=act)))=true→rB t l (inR rows) act=true:=fun h=>apO (f:=fun f=>bI (inR rows) l f&&(decide (act<0)||decide (f.act=act))) hil h
  cases hc:ptP l t.foreign[i].col with
  |none=>
    rw [hc] at hp
    rw [pR hc] at hU
    have hn:=jT rows (t.foreign[i].table,0) hl
    (try (apply wO pk;exact rfl));(repeat' (first|(show All _;constructor)|(show Imp _ _;constructor)|(show ImpX _ _ _ _;constructor)|(apply wC pk;(iterate 2 exact rfl))|(apply wE pk;(iterate 2 exact rfl))|(apply wX pk;exact rfl)|(apply wN pk;exact rfl)|(apply wD pk [] [];kernel_rfl;exact rfl;exact rfl)|(apply aC;simp only [zqt,zqf])|(refine aD rfl (fun h=> ?_) (fun h=> ?_)<;>(try simp at h)<;>try (exfalso;omega))|(refine aF ?_;refine ⟨_,_,_,rfl,Wk.refl _,StSub.refl _, ?_,rfl⟩;try rfl)|(apply aK;(iterate 3 exact rfl);(intro _;(first|apply hp|apply hn)<;>first|assumption|omega);rotate_left;(iterate 2 exact rfl))|(apply bC pk;(iterate 6 exact rfl);rotate_left;exact rfl;(intro hw;exact rfl);(intro hw;apply aJ<;>omega);(intro _;exact rfl);exact rfl)|(refine ⟨⟨i+1,by omega,hU rfl⟩, ?_,by simp only;omega⟩;((repeat (first|refine Sub.pv ?_ rfl|refine Sub.var ?_ rfl rfl));exact Sub.nil _ _ _ (StSub.refl _) rfl))|(intros;(try simp only [zql]);omega)))
  |some k=>
    rw [hc] at hp
    rw [jC hc] at hU hY
    have hn:=jT rows (t.foreign[i].table,k) hl
    cases hG:inR rows (t.foreign[i].table,k) with
    |false=>
      rw [hG] at hn hU
      (try (apply wO pk;exact rfl));(repeat' (first|(show All _;constructor)|(show Imp _ _;constructor)|(show ImpX _ _ _ _;constructor)|(apply wC pk;(iterate 2 exact rfl))|(apply wE pk;(iterate 2 exact rfl))|(apply wX pk;exact rfl)|(apply wN pk;exact rfl)|(apply wD pk [] [];kernel_rfl;exact rfl;exact rfl)|(apply aC;simp only [zqt,zqf])|(refine aD rfl (fun h=> ?_) (fun h=> ?_)<;>(try simp at h)<;>try (exfalso;omega))|(refine aF ?_;refine ⟨_,_,_,rfl,Wk.refl _,StSub.refl _, ?_,rfl⟩;try rfl)|(apply aK;(iterate 3 exact rfl);(intro _;(first|apply hp|apply hn)<;>first|assumption|omega);rotate_left;(iterate 2 exact rfl))|(apply bC pk;(iterate 6 exact rfl);rotate_left;exact rfl;(intro hw;exact rfl);(intro hw;apply aJ<;>omega);(intro _;exact rfl);exact rfl)|(refine ⟨⟨i+1,by omega,hU rfl⟩, ?_,by simp only;omega⟩;((repeat (first|refine Sub.pv ?_ rfl|refine Sub.var ?_ rfl rfl));exact Sub.nil _ _ _ (StSub.refl _) rfl))|(intros;(try simp only [zql]);omega)))
    |true=>
      rw [hG] at hn hU hY
      by_cases ha:act<0∨t.foreign[i].act=act
      have e:=hY (by simp [ha])
      rotate_left
      have hU2:=hU (by simp only [not_or] at ha;rw [decide_eq_false ha.1,decide_eq_false ha.2];rfl)
      rotate_left
      all_goals ((try (apply wO pk;exact rfl));(repeat' (first|(show All _;constructor)|(show Imp _ _;constructor)|(show ImpX _ _ _ _;constructor)|(apply wC pk;(iterate 2 exact rfl))|(apply wE pk;(iterate 2 exact rfl))|(apply wX pk;exact rfl)|(apply wN pk;exact rfl)|(apply wD pk [] [];kernel_rfl;exact rfl;exact rfl)|(apply aC;simp only [zqt,zqf])|(refine aD rfl (fun h=> ?_) (fun h=> ?_)<;>(try simp at h)<;>try (exfalso;omega))|(refine aF ?_;refine ⟨_,_,_,rfl,Wk.refl _,StSub.refl _, ?_,rfl⟩;try first|rfl|((rw [e]);done))|(apply aK;(iterate 3 exact rfl);(intro _;(first|apply hp|apply hn)<;>first|assumption|omega);rotate_left;(iterate 2 exact rfl))|(apply bC pk;(iterate 6 exact rfl);rotate_left;exact rfl;(intro hw;exact rfl);(intro hw;apply aJ<;>omega);(intro _;exact rfl);exact rfl)|(refine ⟨⟨i+1,by omega,hU2⟩, ?_,by simp only;omega⟩;((repeat (first|refine Sub.pv ?_ rfl|refine Sub.var ?_ rfl rfl));exact Sub.nil _ _ _ (StSub.refl _) rfl))|(intros;(try simp only [zql]);omega)|((exfalso;grind)))))
theorem iZ (s:Sc) (b:Bs) (hb:BsB b):PF Tryz.prog 9 [.agg (scC s), .agg (bsC b)] (PV.val (Value.bool (kK b&&decide ((s.length:Int)≤20)))):=by
  have hf:=ajU b hb.1 hb.2
  generalize kK b=F at*
  refine aL aH Tryz.func9 (by kernel_rfl) rfl rfl rfl rfl (fun st=> ?_)
  (try (apply wO pk;exact rfl));(repeat' (first|(show All _;constructor)|(show Imp _ _;constructor)|(show ImpX _ _ _ _;constructor)|(apply wC pk;(iterate 2 exact rfl))|(apply wE pk;(iterate 2 exact rfl))|(apply wX pk;exact rfl)|(apply wN pk;exact rfl)|(apply wD pk [] [];kernel_rfl;exact rfl;exact rfl)|(apply aC;simp only [zqt,zqf])|(refine aD rfl (fun h=> ?_) (fun h=> ?_)<;>(try simp at h)<;>try (exfalso;omega))|(refine aF ?_;refine ⟨_,_,_,rfl,Wk.refl _,StSub.refl _, ?_,rfl⟩;try first|rfl|((rw [zql]);done))|(apply aK;(iterate 3 exact rfl);(intro _;apply hf<;>first|assumption|omega);rotate_left;(iterate 2 exact rfl))|(intros;(try simp only [zql]);omega)))
theorem rW (n:Int):PF Tryz.prog 25 [(PV.val (Value.int .i64 (n)))] (.agg (Cl.mk 0 ⟨1,n,e0⟩ []).cells):=by
  refine aL aH Tryz.func25 (by kernel_rfl) rfl rfl rfl rfl (fun st=> ?_)
  (try (apply wO pk;exact rfl));(repeat' (first|((refine aF ?_;exact ⟨_,_,_,rfl, .agg (.cons (Wk.refl _) (.cons (Wk.refl _) (.cons (Wk.refl _) (.cons (Wk.refl _) (.cons Wk.nil .nil))))),StSub.refl _,rfl,rfl⟩))|(show All _;constructor)|(show Imp _ _;constructor)|(show ImpX _ _ _ _;constructor)|(apply wC pk;(iterate 2 exact rfl))|(apply wE pk;(iterate 2 exact rfl))|(apply wX pk;exact rfl)|(apply wN pk;exact rfl)|(apply wDx pk;exact rfl;kernel_rfl;exact rfl;exact rfl)|(apply aC;simp only [zqt,zqf])|(refine aD rfl (fun h=> ?_) (fun h=> ?_)<;>(try simp at h)<;>try (exfalso;omega))|((try refine aF ?_);refine ⟨_,_,_,rfl,Wk.refl _,StSub.refl _, ?_⟩)|(apply ncA;(iterate 3 exact rfl);rotate_left;exact rfl;exact rfl)|(apply ldR pk;exact rfl;exact rfl;rotate_left;exact rfl;(focus ((repeat (first|exact aA _ _ _|assumption|refine (aB (by assumption)).trans ?_));done));exact rfl;exact rfl)|(apply stR pk;exact rfl;exact rfl;(focus ((repeat (first|exact aA _ _ _|assumption|refine (aB (by assumption)).trans ?_));done));exact rfl;exact rfl)|(intros;(try simp only [zql]);omega)))
def kkC (x:Nat×Nat):List PV:=[(PV.val (Value.int .i64 ((x.1:Nat)))),(PV.val (Value.int .i64 ((x.2:Nat))))]
def kS (s:Sc) (a:Int) (k y:Nat):List (Nat×Nat):=((List.range y).filter fun i=>decide (s[k]!.foreign[i]!.table=a)).map fun i=>(k,i)
def lT (s:Sc) (a:Int) (k:Nat):List (Nat×Nat):=(List.range k).flatMap (aqK s a)
theorem sS {α:Type} (p:α→Bool) (y:α):[y].filter p=if p y=true then [y] else []:=by by_cases h:p y=true<;>simp [h]
theorem apR (s:Sc) (a:Int) (k y:Nat):kS s a k (y+1)=if s[k]!.foreign[y]!.table=a then kS s a k y++[(k,y)] else kS s a k y:=by
  unfold kS
  rw [List.range_succ,List.filter_append,List.map_append,sS]
  by_cases h:s[k]!.foreign[y]!.table=a
  · rw [if_pos h,if_pos (decide_eq_true h)];rfl
  · rw [if_neg h,if_neg (by rw [decide_eq_false h];simp)];simp
theorem aeV (s:Sc) (a:Int) (k:Nat):lT s a (k+1)=lT s a k++kS s a k s[k]!.foreign.length:=by
  unfold lT
  rw [List.range_succ,List.flatMap_append]
  simp [aqK,kS]
theorem aaH (s:Sc) (a:Int) (k y:Nat):(kS s a k y).length≤y:=by
  unfold kS
  rw [zql]
  exact Nat.le_trans (List.length_filter_le ..) (by simp)
theorem sH (s:Sc) (a:Int) (h:∀k (h:k<s.length),s[k].foreign.length≤16):∀k,k≤s.length→(lT s a k).length≤16*k
  |0,_=>by simp [lT]
  |k+1,hk=>by
    have h1:=sH s a h k (by omega)
    have h2:=aaH s a k s[k]!.foreign.length
    have h3:=h k (by omega)
    rw [aeV,List.length_append]
    rw [getElem!_pos s k (by omega)] at h2⊢
    omega
theorem aoJ (s:Sc) (a:Int) (hs:s.length≤16) (h16:∀k (h:k<s.length),s[k].foreign.length≤16) (st:aI):PC Tryz.prog 59 [.agg (scC s),(PV.val (Value.int .i64 (a)))] st fun r S=>∃id,r= .vec id 2 0 (dW s a).length∧st id=none∧S=upd st id (some (.arr 28 ((dW s a).map kkC))):=by
  have hlO:=sH s a h16
  refine dU aH Tryz.func59 (by kernel_rfl) rfl rfl rfl rfl ?_
  focus ((try (apply wO pk;exact rfl));(repeat' (first|(show All _;constructor)|(show Imp _ _;constructor)|(show ImpX _ _ _ _;constructor)|(apply wC pk;(iterate 2 exact rfl))|(apply wE pk;(iterate 2 exact rfl))|(apply wX pk;exact rfl)|(apply wN pk;exact rfl)|(apply wD pk [] [];kernel_rfl;exact rfl;exact rfl)|(apply aC;simp only [zqt,zqf])|(refine aD rfl (fun h=> ?_) (fun h=> ?_)<;>(try simp at h)<;>try (exfalso;omega))|(refine aF ?_;refine ⟨_,_,_,rfl,Wk.refl _,StSub.refl _, ?_,rfl⟩;try rfl)|(intros;(try simp only [zql]);omega))))
  refine oO 5 28 2 rfl rfl rfl (fun id hid=> ?_)
  refine aP (X:={x:Nat×Nat//x.1≤s.length∧st x.2=none}) (fun i=>((((((St.nil 39 (upd st i.1.2 (some (.arr 28 ((lT s a i.1.1).map kkC))))).pv 1 ((PV.val (Value.int .i64 (a))))).pv 5 (.vec i.1.2 2 0 (lT s a i.1.1).length)).pv 11 (.seq (s.map Tb.cells))).pv 12 ((PV.val (Value.int .i64 (((s.map Tb.cells).length:Nat)))))).pv 13 ((PV.val (Value.int .i64 ((i.1.1:Nat))))))) (fun i=>s.length-i.1.1) ⟨(0,id),by simp,hid⟩ ?_ (fun i=> ?_)
  · dsimp only
    (first|exact Sub.nil _ _ _ (StSub.refl _) rfl|((repeat (first|refine Sub.pv ?_ rfl|refine Sub.var ?_ rfl rfl));(first|exact Sub.nil _ _ _ (StSub.refl _) rfl|exact Sub.nil _ _ _ (aS (by assumption)) rfl|exact Sub.nil _ _ _ (aM (by first|rfl|exact bM (by assumption)|((simp only [St.pv,St.put,St.sst,St.setv,St.nil,St.var,aO]);first|done|rfl))) rfl|(refine Sub.nil _ _ _ (aM ?_) rfl;(simp only [St.pv,St.put,St.sst,St.setv,St.nil,St.var,aO]);(rw [eJ (by assumption)]);first|done|rfl))))
  obtain ⟨⟨i,id⟩,hi,hid⟩:=i
  simp only at hi hid
  dsimp only
  have hlo:=hlO i hi
  by_cases hend:s.length≤i
  · obtain rfl:i=s.length:=by omega
    (try (apply wO pk;exact rfl));(repeat' (first|(show All _;constructor)|(show Imp _ _;constructor)|(show ImpX _ _ _ _;constructor)|(apply wC pk;(iterate 2 exact rfl))|(apply wE pk;(iterate 2 exact rfl))|(apply wX pk;exact rfl)|(apply wN pk;exact rfl)|(apply wDx pk;exact rfl;kernel_rfl;exact rfl;exact rfl)|(apply aC;simp only [zqt,zqf])|(refine aD rfl (fun h=> ?_) (fun h=> ?_)<;>(try simp at h)<;>try (exfalso;omega))|((try refine aF ?_);(first|(refine ⟨_,_,_,rfl,Wk.refl _,StSub.refl _, ?_⟩;(exact ⟨id,rfl,hid,rfl⟩);done)|(refine ⟨_,_, ?zs,rfl,Wk.refl _, ?zh, ?zr⟩;(case zh=>(refine aG ?_ (by assumption);(repeat refine aG ?_ (by assumption));exact StSub.refl _));(case zr=>(exact ⟨id,rfl,hid,rfl⟩)))|refine ⟨_,_,_,rfl,Wk.refl _,StSub.refl _, ?_⟩))|(apply ncA;(iterate 3 exact rfl);rotate_left;exact rfl;exact rfl)|(apply ldR pk;exact rfl;exact rfl;rotate_left;exact rfl;(focus ((repeat (first|exact aA _ _ _|assumption|refine (aB (by assumption)).trans ?_));done));exact rfl;exact rfl)|(apply stR pk;exact rfl;exact rfl;(focus ((repeat (first|exact aA _ _ _|assumption|refine (aB (by assumption)).trans ?_));done));exact rfl;exact rfl)|(intros;(try simp only [zql]);omega)))
  have hil:i<s.length:=by omega
  have hf16:=h16 i hil
  have hOU:=aeV s a i
  have hIU:=apR s a i
  rw [getElem!_pos s i hil] at hOU hIU
  focus ((try (apply wO pk;exact rfl));(repeat' (first|(show All _;constructor)|(show Imp _ _;constructor)|(show ImpX _ _ _ _;constructor)|(apply wC pk;(iterate 2 exact rfl))|(apply wE pk;(iterate 2 exact rfl))|(apply wX pk;exact rfl)|(apply wN pk;exact rfl)|(apply wD pk [] [];kernel_rfl;exact rfl;exact rfl)|(apply aC;simp only [zqt,zqf])|(refine aD rfl (fun h=> ?_) (fun h=> ?_)<;>(try simp at h)<;>try (exfalso;omega))|(refine aF ?_;refine ⟨_,_,_,rfl,Wk.refl _,StSub.refl _, ?_,rfl⟩;try rfl)|(apply bC pk;(iterate 6 exact rfl);rotate_left;exact rfl;(intro hw;exact rfl);(intro hw;apply aJ<;>omega);(intro _;exact rfl);exact rfl)|(intros;(try simp only [zql]);omega))))
  refine aP (X:={x:Nat×Nat//x.1≤s[i].foreign.length∧st x.2=none}) (fun y=>((((((((((St.nil 39 (upd st y.1.2 (some (.arr 28 ((lT s a i++kS s a i y.1.1).map kkC))))).pv 1 ((PV.val (Value.int .i64 (a))))).pv 5 (.vec y.1.2 2 0 (lT s a i++kS s a i y.1.1).length)).pv 6 ((PV.val (Value.int .i64 ((i:Nat)))))).pv 11 (.seq (s.map Tb.cells))).pv 12 ((PV.val (Value.int .i64 (((s.map Tb.cells).length:Nat)))))).pv 13 ((PV.val (Value.int .i64 ((i:Nat)))))).pv 19 (.seq (s[i].foreign.map Fr.cells))).pv 20 ((PV.val (Value.int .i64 (((s[i].foreign.map Fr.cells).length:Nat)))))).pv 21 ((PV.val (Value.int .i64 ((y.1.1:Nat))))))) (fun y=>s[i].foreign.length-y.1.1) ⟨(0,id),by simp,hid⟩ ?_ (fun y=> ?_)
  · dsimp only
    have e:lT s a i++kS s a i 0=lT s a i:=by simp [kS]
    rw [e]
    (first|exact Sub.nil _ _ _ (StSub.refl _) rfl|((repeat (first|refine Sub.pv ?_ rfl|refine Sub.var ?_ rfl rfl));(first|exact Sub.nil _ _ _ (StSub.refl _) rfl|exact Sub.nil _ _ _ (aS (by assumption)) rfl|exact Sub.nil _ _ _ (aM (by first|rfl|exact bM (by assumption)|((simp only [St.pv,St.put,St.sst,St.setv,St.nil,St.var,aO]);first|done|rfl))) rfl|(refine Sub.nil _ _ _ (aM ?_) rfl;(simp only [St.pv,St.put,St.sst,St.setv,St.nil,St.var,aO]);(rw [eJ (by assumption)]);first|done|rfl))))
  obtain ⟨⟨y,id⟩,hy,hid⟩:=y
  simp only at hy hid
  dsimp only
  have hli:=aaH s a i y
  have hlA:(lT s a i++kS s a i y).length≤1000:=by rw [List.length_append];omega
  by_cases hend2:s[i].foreign.length≤y
  obtain rfl:y=s[i].foreign.length:=by omega
  rw [←hOU]
  rotate_left
  have hyl:y<s[i].foreign.length:=by omega
  have hIU:=hIU y
  rw [getElem!_pos s[i].foreign y hyl] at hIU
  by_cases hk:s[i].foreign[y].table=a
  rw [if_pos hk] at hIU
  have e:lT s a i++kS s a i (y+1)=(lT s a i++kS s a i y)++[(i,y)]:=by rw [hIU,List.append_assoc]
  have el:(lT s a i++kS s a i (y+1)).length=(lT s a i++kS s a i y).length+1:=by rw [e,List.length_append];rfl
  generalize lT s a i++kS s a i y=A at*
  rotate_left
  rw [if_neg hk] at hIU
  rw [←hIU]
  rotate_left
  all_goals ((try (apply wO pk;exact rfl));(repeat' (first|(show All _;constructor)|(show Imp _ _;constructor)|(show ImpX _ _ _ _;constructor)|(apply wC pk;(iterate 2 exact rfl))|(apply wE pk;(iterate 2 exact rfl))|(apply wX pk;exact rfl)|(apply wN pk;exact rfl)|(apply wD pk [] [];kernel_rfl;exact rfl;exact rfl)|(apply aC;simp only [zqt,zqf])|(refine aD rfl (fun h=> ?_) (fun h=> ?_)<;>(try simp at h)<;>try (exfalso;omega))|(refine aF ?_;first|(refine ⟨_,_,_,rfl,Wk.refl _,StSub.refl _, ?_,rfl⟩;(first|rfl))|(refine ⟨_,_,_,rfl,Wk.refl _,aN (by assumption), ?_,rfl⟩;(first|rfl))|(refine ⟨_,_,_,rfl,Wk.soft _,StSub.refl _, ?_,rfl⟩;(first|rfl))|(refine ⟨_,_,_,rfl,Wk.soft _,aN (by assumption), ?_,rfl⟩;(first|rfl))|(refine ⟨_,_,_,rfl,Wk.refl _,StSub.refl _, ?_,rfl⟩)|(refine ⟨_,_,_,rfl,Wk.soft _,aN (by assumption), ?_,rfl⟩))|(apply bC pk;(iterate 6 exact rfl);rotate_left;exact rfl;(intro hw;exact rfl);(intro hw;apply aJ<;>omega);(intro _;exact rfl);exact rfl)|(apply apV pk (f:=kkC) [(i,y)] 16;(iterate 9 exact rfl);(focus ((repeat (first|exact aA _ _ _|assumption|refine (aB (by assumption)).trans ?_));done));(first|omega|assumption|(focus (simp;done))|(focus (simp;omega))|(focus (simp at*;omega)));exact fun _=>rfl;exact fun _=>rfl;exact rK;(first|omega|assumption|(focus (simp;done))|(focus (simp;omega))|(focus (simp at*;omega)));(first|omega|assumption|(focus (simp;done))|(focus (simp;omega))|(focus (simp at*;omega)));exact rfl;intro id' hid')|(apply ap0 pk (f:=kkC) [(i,y)] 16;(iterate 10 exact rfl);exact fun _=>rfl;exact fun _=>rfl;exact rK;(first|omega|assumption|(focus (simp;done))|(focus (simp;omega))|(focus (simp at*;omega)));(first|omega|assumption|(focus (simp;done))|(focus (simp;omega))|(focus (simp at*;omega)));exact rfl;intro id' hid')|((first|refine ⟨⟨(i+1,id),by simp only;omega,hid⟩, ?_,by simp only;omega⟩|refine ⟨⟨(y+1,id),by simp only;omega,hid⟩, ?_,by simp only;omega⟩);(first|exact Sub.nil _ _ _ (StSub.refl _) rfl|((repeat (first|refine Sub.pv ?_ rfl|refine Sub.var ?_ rfl rfl));(first|exact Sub.nil _ _ _ (StSub.refl _) rfl|exact Sub.nil _ _ _ (aS (by assumption)) rfl|exact Sub.nil _ _ _ (aM (by first|rfl|exact bM (by assumption)|((simp only [St.pv,St.put,St.sst,St.setv,St.nil,St.var,aO]);first|done|rfl))) rfl|(refine Sub.nil _ _ _ (aM ?_) rfl;(simp only [St.pv,St.put,St.sst,St.setv,St.nil,St.var,aO]);(rw [eJ (by assumption)]);first|done|rfl)))))|(refine ⟨⟨(y+1,id'),by simp only;omega,nL hid'⟩, ?_,by simp only;omega⟩;((dsimp only;try rw [e]));(first|exact Sub.nil _ _ _ (StSub.refl _) rfl|((repeat (first|refine Sub.pv ?_ rfl|refine Sub.var ?_ rfl rfl|refine Sub.pv' ?_ rfl (by (first|rfl|(simp;done)|(simp;omega)))|refine Sub.var' ?_ rfl rfl (by (first|rfl|(simp;done)|(simp;omega)))));(first|exact Sub.nil _ _ _ (StSub.refl _) rfl|exact Sub.nil _ _ _ (aS (by assumption)) rfl|exact Sub.nil _ _ _ (aM (by first|rfl|exact bM (by assumption)|((simp only [St.pv,St.put,St.sst,St.setv,St.nil,St.var,aO]);first|done|rfl))) rfl|(refine Sub.nil _ _ _ (aM ?_) rfl;(simp only [St.pv,St.put,St.sst,St.setv,St.nil,St.var,aO]);(rw [eJ (by assumption)]);first|done|rfl)))))|(intros;(try simp only [zql]);omega))))
theorem agY (s:Sc) (a:Int) (hs:s.length≤16) (h16:∀k (h:k<s.length),s[k].foreign.length≤16):PF Tryz.prog 59 [.agg (scC s),(PV.val (Value.int .i64 (a)))] (.seq ((dW s a).map kkC)):=fun st=>
  iP (sz:=2) (aoJ s a hs h16 st) fun p st' h=>by
    obtain ⟨id,rfl,h3,rfl⟩:=h
    exact .inl ⟨id,28,(dW s a).map kkC,_,st,aA _ _ _,adY,iI rfl,cJ h3,rfl,rfl⟩
end Go.Proofs.YtddmbnddgiebgaaGreatDoor
