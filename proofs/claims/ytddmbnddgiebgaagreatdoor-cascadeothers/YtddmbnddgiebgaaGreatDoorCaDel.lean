import Derived.Test.YtddmbnddgiebgaaGreatDoorCaLeft
set_option linter.unusedSimpArgs false
set_option linter.unusedVariables false
namespace Go.Proofs.YtddmbnddgiebgaaGreatDoor
open Go Go.Abs
attribute [local irreducible] Ev PWp
set_option maxRecDepth 10000
set_option maxHeartbeats 4000000
theorem aqD (s:Sc) (hl:s.length<1000000000000) (st:aI):PC Tryz.prog 24 [.agg (scC s)] st fun r S=>∃id,r= .agg [.vec id 1 0 s.length]∧st id=none∧S=upd st id (some (.arr 55 ((List.replicate s.length ()).map uF))):=by
  refine dU aH Tryz.func24 (by kernel_rfl) rfl rfl rfl rfl ?_
  (try (apply wO pk;exact rfl));(repeat' (first|(show All _;constructor)|(show Imp _ _;constructor)|(show ImpX _ _ _ _;constructor)|(apply wC pk;(iterate 2 exact rfl))|(apply wE pk;(iterate 2 exact rfl))|(apply wX pk;exact rfl)|(apply wN pk;exact rfl)|(apply wDx pk;exact rfl;kernel_rfl;exact rfl;exact rfl)|(apply aC;simp only [zqt,zqf])|(refine aD rfl (fun h=> ?_) (fun h=> ?_)<;>(try simp at h)<;>try (exfalso;omega))|((try refine aF ?_);(first|(refine ⟨_,_,_,rfl,Wk.refl _,StSub.refl _, ?_⟩;(exact ⟨id,rfl,hid,rfl⟩);done)|(refine ⟨_,_, ?zs,rfl,Wk.refl _, ?zh, ?zr⟩;(case zh=>(refine aG ?_ (by assumption);(repeat refine aG ?_ (by assumption));exact StSub.refl _));(case zr=>(exact ⟨id,rfl,hid,rfl⟩)))|refine ⟨_,_,_,rfl,Wk.refl _,StSub.refl _, ?_⟩))|(apply ncA;(iterate 3 exact rfl);rotate_left;exact rfl;exact rfl)|(apply ldR pk;exact rfl;exact rfl;rotate_left;exact rfl;(focus ((repeat (first|exact aA _ _ _|assumption|refine (aB (by assumption)).trans ?_));done));exact rfl;exact rfl)|(apply stR pk;exact rfl;exact rfl;(focus ((repeat (first|exact aA _ _ _|assumption|refine (aB (by assumption)).trans ?_));done));exact rfl;exact rfl)|(apply asI pk () (f:=uF) (n:=s.length) (B:=24);(iterate 11 exact rfl);(focus (simp;done));(focus (simp;done));exact rE;omega;omega;intro id hid)|(intros;(try simp only [zql]);omega)))
def gI (n k:Nat) (f:Nat→List Ln):List (List PV):=(List.range n).map fun j=>if j<k then [.seq ((f j).map Ln.cells)] else [.val (.slice none 0 0)]
theorem adN (n:Nat) (f:Nat→List Ln):gI n 0 f=(List.replicate n ()).map uF:=by
  refine List.ext_getElem (by simp [gI]) fun j h1 h2=> ?_
  simp [gI,uF]
theorem aiT {n k:Nat} (h:k<n) (f:Nat→List Ln):(gI n k f)[k]?=some [.val (.slice none 0 0)]:=by simp [gI,h]
theorem ahA {n k:Nat} (f:Nat→List Ln):(gI n k f).set k [.seq ((f k).map Ln.cells)]=gI n (k+1) f:=by
  refine List.ext_getElem (by simp [gI]) fun j h1 h2=> ?_
  rw [List.getElem_set]
  simp only [gI,List.getElem_map,List.getElem_range]
  by_cases e:k=j
  · subst e;rw [if_pos rfl,if_pos (Nat.lt_succ_self _)]
  · rw [if_neg e]
    by_cases h:j<k
    · rw [if_pos h,if_pos (by omega)]
    · rw [if_neg h,if_neg (by omega)]
theorem ahT (n:Nat) (f:Nat→List Ln):gI n n f=((List.range n).map fun j=>(⟨f j⟩:Da)).map Da.cells:=by
  unfold gI
  rw [List.map_map]
  refine List.map_congr_left fun j hj=> ?_
  rw [if_pos (List.mem_range.1 hj)];rfl
theorem ahE (n k:Nat) (f:Nat→List Ln):(gI n k f).length=n:=by simp [gI]
section
variable {st:aI} {idT idL id':Nat}
theorem aiY {x a o:Option AObj} (h:idL≠idT):StSub (upd (upd st idL a) idT o) (upd (upd (upd st idT x) idL a) idT o):=aM (by rw [dO (Ne.symm h),aO])
theorem adR {a b b' o o1 o2:Option AObj} (h:st idL=none) (h1:idL≠idT) (eb:b'=b) (eo:o2=o1):StSub (upd (upd st id' b') idT o2) (upd (upd (upd (upd (upd st idL a) idT o) idL none) id' b) idT o1):=fun j=>by
  subst eb;subst eo
  by_cases e1:j=idT
  · subst e1;right;rw [aA,aA]
  · rw [aB e1,aB e1]
    by_cases e2:j=id'
    · subst e2;right;rw [aA,aA]
    · rw [aB e2,aB e2]
      by_cases e3:j=idL
      · subst e3;left;exact h
      · right;rw [aB e3,aB e1,aB e3]
theorem afX {a o o1 o2:Option AObj} (h:st idL=none) (h1:idL≠idT) (eo:o2=o1):StSub (upd st idT o2) (upd (upd (upd (upd st idL a) idT o) idL none) idT o1):=fun j=>by
  subst eo
  by_cases e1:j=idT
  · subst e1;right;rw [aA,aA]
  · rw [aB e1,aB e1]
    by_cases e3:j=idL
    · subst e3;left;exact h
    · right;rw [aB e3,aB e1,aB e3]
theorem sN {a o:Option AObj} (h:st idL=none) (h1:st idT=none):StSub st (upd (upd st idL a) idT o):=fun j=>by
  cases hj:st j with
  |none=>exact .inl rfl
  |some x=>
    right
    rw [aB (fun e=>by subst e;rw [h1] at hj;cases hj),aB (fun e=>by subst e;rw [h] at hj;cases hj),hj]
theorem nO {a o:AObj} (h:upd (upd st idL (some a)) idT (some o) id'=none):idT≠id'∧st id'=none:=by
  by_cases e:id'=idT
  · rw [e,aA] at h;cases h
  · rw [aB e] at h
    refine ⟨Ne.symm e, ?_⟩
    by_cases e2:id'=idL
    · rw [e2,aA] at h;cases h
    · rwa [aB e2] at h
end
def kJ (s:Sc) (b:Bs) (G:R2→Bool) (who:Dt) (k y:Nat):List Ln:=((b[k]!.lines.take y).filter fun l=> !G ((k:Int),l.key)).map (bH s[k]! G who)
def iT (s:Sc) (b:Bs) (G:R2→Bool) (who:Dt) (k:Nat):List Ln:=(b[k]!.lines.filter fun l=> !G ((k:Int),l.key)).map (bH s[k]! G who)
def eS (s:Sc) (b:Bs) (G:R2→Bool) (who:Dt):Bs:=(List.range b.length).map fun k=>⟨iT s b G who k⟩
def nX (t:Tb) (G:R2→Bool) (k:Nat) (l:Ln):Bool:=G ((k:Int),l.key)||lG t G l
def oA (s:Sc) (b:Bs) (G:R2→Bool):Bool:=(List.range b.length).all fun k=>b[k]!.lines.all (nX s[k]! G k)
theorem aqI {s:Sc} {b:Bs} {G:R2→Bool} {who:Dt} {k y:Nat} (h:y<b[k]!.lines.length):kJ s b G who k (y+1)=if G ((k:Int),b[k]!.lines[y].key)=true then kJ s b G who k y else kJ s b G who k y++[bH s[k]! G who b[k]!.lines[y]]:=by
  unfold kJ
  rw [List.take_succ_eq_append_getElem h,List.filter_append,List.map_append,sS]
  cases hg:G ((k:Int),b[k]!.lines[y].key)<;>simp
theorem akJ {s:Sc} {b:Bs} {G:R2→Bool} {who:Dt} {k:Nat}:kJ s b G who k b[k]!.lines.length=iT s b G who k:=by unfold kJ iT;rw [List.take_length]
theorem amG (s:Sc) (b:Bs) (G:R2→Bool) (who:Dt) (k y:Nat):(kJ s b G who k y).length≤b[k]!.lines.length:=by
  unfold kJ
  rw [zql]
  exact Nat.le_trans (List.length_filter_le ..) (by rw [List.length_take];omega)
theorem aoE {s:Sc} {b:Bs} {G:R2→Bool} {k y:Nat} (hk:k<b.length) (hy:y<b[k].lines.length) (h:nX s[k]! G k b[k].lines[y]=false):oA s b G=false:=by
  unfold oA
  rw [←Bool.not_eq_true,List.all_eq_true]
  intro q
  have:=q k (List.mem_range.2 hk)
  rw [getElem!_pos b k hk] at this
  have:=List.all_eq_true.1 this _ (List.getElem_mem hy)
  rw [h] at this;cases this
structure FolD (s:Sc) (b:Bs):Prop extends Fol s b where
  ln:∀k (h:k<b.length),b[k].lines.length≤100000
  cl:∀k (h:k<b.length),∀l∈b[k].lines,l.cells_.length<100000000000∧l.by_.length<100000000000
  cols:∀k (h:k<s.length),∀i j (hi:i<s[k].foreign.length) (hj:j<s[k].foreign.length),s[k].foreign[i].col=s[k].foreign[j].col→i=j
def atF (s:Sc) (b:Bs) (who:Dt) (M:List R2) (st:aI) (r:PV) (S:aI):Prop:=
  (oA s b (inR M)=false∧r= .tup [.agg [.val (.slice none 0 0)],(PV.val (Value.int .i64 (10)))]∧StSub st S)∨(oA s b (inR M)=true∧∃id,r= .tup [.agg [.vec id 1 0 b.length],(PV.val (Value.int .i64 (0)))]∧S id=some (.arr 55 ((eS s b (inR M) who).map Da.cells))∧StSub st (upd S id none))
theorem arO {s:Sc} {b:Bs} (hFo:FolD s b) (hr:PF Tryz.prog 14 [.agg (scC s), .agg (bsC b)] (PV.val (Value.bool (true)))) (z:R2) (who:Dt) (hz:eQ b z=true) (st:aI):PC Tryz.prog 11 [.agg (scC s), .agg (bsC b),(PV.val (Value.int .i64 (z.1))),(PV.val (Value.int .i64 (z.2))), .agg who.cells] st (atF s b who (bS s b z) st):=by
  have hk:=rU hFo.toFol (fun d hd=>by obtain ⟨k,hk,rfl⟩:=List.getElem_of_mem hd;have:=hFo.ln k hk;omega) z
  unfold amW at hk
  have hM0:0<(bS s b z).length:=by
    unfold bS
    rw [if_pos hz]
    exact List.length_pos_of_mem ((oW hFo.len (gC.1 hz)).me z rfl)
  obtain ⟨⟨hlen,s16,f16,hreg,hlns⟩,ln,hcl,hcols⟩:=hFo
  have hnew:=aqD s (by omega)
  generalize bS s b z=M at*
  refine dU aH Tryz.func11 (by kernel_rfl) rfl rfl rfl rfl ?_
  have hlm:aV eD bF (mE M)≠[]:=fun e=>by
    have:=congrArg List.length e
    unfold aV mE at this
    rw [zql,zql] at this
    simp only [List.length_nil] at this;omega
  have hI:∀k y,(kJ s b (inR M) who k y).length≤b[k]!.lines.length:=fun k y=>amG s b (inR M) who k y
  focus ((try (apply wO pk;exact rfl));(repeat' (first|((apply lnF pk;(iterate 3 exact rfl);rotate_left;exact rfl;exact rfl))|(show All _;constructor)|(show Imp _ _;constructor)|(show ImpX _ _ _ _;constructor)|(apply wC pk;(iterate 2 exact rfl))|(apply wE pk;(iterate 2 exact rfl))|(apply wX pk;exact rfl)|(apply wN pk;exact rfl)|(apply wDx pk;exact rfl;kernel_rfl;exact rfl;exact rfl)|(apply aC;simp only [zqt,zqf])|(refine aD rfl (fun h=> ?_) (fun h=> ?_)<;>(try simp at h)<;>try (exfalso;omega))|((try refine aF ?_);refine ⟨_,_,_,rfl,Wk.refl _,StSub.refl _, ?_⟩)|(apply aK;(iterate 3 exact rfl);(intro _;(first|apply hr|apply hk)<;>first|assumption|omega);rotate_left;(iterate 2 exact rfl))|(apply dG;(iterate 3 exact rfl);(intro _;(first|apply hr|apply hk)<;>first|assumption|omega);rotate_left;(iterate 2 exact rfl))|(apply ncA;(iterate 3 exact rfl);rotate_left;exact rfl;exact rfl)|(apply ldR pk;exact rfl;exact rfl;rotate_left;exact rfl;(focus ((repeat (first|exact aA _ _ _|assumption|refine (aB (by assumption)).trans ?_));done));exact rfl;exact rfl)|(apply stR pk;exact rfl;exact rfl;(focus ((repeat (first|exact aA _ _ _|assumption|refine (aB (by assumption)).trans ?_));done));exact rfl;exact rfl)|(apply bZ;exact rfl;exact rfl;(apply (hnew st)<;>first|exact aA _ _ _|assumption|omega|(focus ((repeat (first|exact aA _ _ _|assumption|refine (aB (by assumption)).trans ?_));done)));(iterate 3 exact rfl);intro _ st' hR;obtain ⟨idT,rfl,hidT,rfl⟩:=hR)|(apply bZ;exact rfl;exact rfl;(first|(apply fail_no_spec<;>first|exact aA _ _ _|assumption|omega|(simp only [zqs];omega)|(focus ((repeat (first|exact aA _ _ _|assumption|refine (aB (by assumption)).trans ?_));done))));(iterate 3 exact rfl);intro _ st' hR;(first|subst hR|obtain ⟨rfl,rfl⟩:=hR))|(intros;(try simp only [zql]);omega)|((exfalso;first|exact hlm h|fail)))))
  have hidT0:st idT=none:=hidT
  have hsub:StSub (upd st idT (some (.arr 55 (gI b.length 0 (iT s b (inR M) who))))) (upd st idT (some (.arr 55 ((List.replicate s.length ()).map uF)))):=by rw [adN,hlen];exact StSub.refl _
  refine aP (X:={x:Nat//x≤b.length∧∀k (h:k<b.length),k<x→∀y (h:y<b[k].lines.length),nX s[k]! (inR M) k b[k].lines[y]=true}) (fun i=>(((((((((St.nil 89 (upd st idT (some (.arr 55 (gI b.length i.1 (iT s b (inR M) who)))))).var 5 24 ((scC s))).var 9 30 (who.cells)).var 10 27 ([.val (.slice none 0 0)])).pv 12 (.fmap (aV eD bF (mE M)))).var 13 27 ([.vec idT 1 0 s.length])).pv 37 (.seq (b.map Da.cells))).pv 38 ((PV.val (Value.int .i64 (((b.map Da.cells).length:Nat)))))).pv 39 ((PV.val (Value.int .i64 ((i.1:Nat))))))) (fun i=>b.length-i.1) ⟨0,by omega,by simp⟩ ?_ (fun i=> ?_)
  · (repeat (first|refine Sub.pv ?_ rfl|refine Sub.var ?_ rfl rfl));exact Sub.nil _ _ _ hsub rfl
  obtain ⟨i,hi,hIv⟩:=i
  dsimp only
  by_cases hend:b.length≤i
  · obtain rfl:i=b.length:=by omega
    have hmay:oA s b (inR M)=true:=by
      unfold oA
      rw [List.all_eq_true]
      intro k hk
      have hk:=List.mem_range.1 hk
      rw [getElem!_pos b k hk,List.all_eq_true]
      intro l hl
      obtain ⟨y,hy,rfl⟩:=List.getElem_of_mem hl
      exact hIv k hk hk y hy
    rw [ahT]
    (try (apply wO pk;exact rfl));(repeat' (first|(show All _;constructor)|(show Imp _ _;constructor)|(show ImpX _ _ _ _;constructor)|(apply wC pk;(iterate 2 exact rfl))|(apply wE pk;(iterate 2 exact rfl))|(apply wX pk;exact rfl)|(apply wN pk;exact rfl)|(apply wDx pk;exact rfl;kernel_rfl;exact rfl;exact rfl)|(apply aC;simp only [zqt,zqf])|(refine aD rfl (fun h=> ?_) (fun h=> ?_)<;>(try simp at h)<;>try (exfalso;omega))|((try refine aF ?_);(first|(refine ⟨_,_,_,rfl,Wk.refl _,StSub.refl _, ?_⟩;(exact .inr ⟨hmay,idT,by rw [hlen],aA _ _ _,cJ hidT0⟩);done)|(refine ⟨_,_, ?zs,rfl,Wk.refl _, ?zh, ?zr⟩;(case zh=>(refine aG ?_ (by assumption);(repeat refine aG ?_ (by assumption));exact StSub.refl _));(case zr=>(exact .inr ⟨hmay,idT,by rw [hlen],aA _ _ _,cJ hidT0⟩)))|refine ⟨_,_,_,rfl,Wk.refl _,StSub.refl _, ?_⟩))|(apply ncA;(iterate 3 exact rfl);rotate_left;exact rfl;exact rfl)|(apply ldR pk;exact rfl;exact rfl;rotate_left;exact rfl;(focus ((repeat (first|exact aA _ _ _|assumption|refine (aB (by assumption)).trans ?_));done));exact rfl;exact rfl)|(apply stR pk;exact rfl;exact rfl;(focus ((repeat (first|exact aA _ _ _|assumption|refine (aB (by assumption)).trans ?_));done));exact rfl;exact rfl)|(intros;(try simp only [zql]);omega)))
  have hib:i<b.length:=by omega
  have his:i<s.length:=by omega
  have hrow:=aiT hib (iT s b (inR M) who)
  have hset:=ahA (n:=b.length) (k:=i) (iT s b (inR M) who)
  have hrl:=ahE b.length i (iT s b (inR M) who)
  have hIu:=fun y h=>aqI (s:=s) (b:=b) (G:=inR M) (who:=who) (k:=i) (y:=y) h
  have hIa:=akJ (s:=s) (b:=b) (G:=inR M) (who:=who) (k:=i)
  have hI0:kJ s b (inR M) who i 0=[]:=by simp [kJ]
  have hIl:=hI i
  have hreg:=hreg i his
  have hln:=ln i hib
  have hcl:=hcl i hib
  have hcol:=hcols i his
  have hf16:=f16 i his
  simp only [getElem!_pos b i hib,getElem!_pos s i his] at hIu hIa hIl hreg
  generalize gI b.length i (iT s b (inR M) who)=R at*
  focus ((try (apply wO pk;exact rfl));(repeat' (first|(show All _;constructor)|(show Imp _ _;constructor)|(show ImpX _ _ _ _;constructor)|(apply wC pk;(iterate 2 exact rfl))|(apply wE pk;(iterate 2 exact rfl))|(apply wX pk;exact rfl)|(apply wN pk;exact rfl)|(apply wDx pk;exact rfl;kernel_rfl;exact rfl;exact rfl)|(apply aC;simp only [zqt,zqf])|(refine aD rfl (fun h=> ?_) (fun h=> ?_)<;>(try simp at h)<;>try (exfalso;omega))|((try refine aF ?_);refine ⟨_,_,_,rfl,Wk.refl _,StSub.refl _, ?_⟩)|(apply bC pk;(iterate 6 exact rfl);rotate_left;exact rfl;(intro hw;exact rfl);(intro hw;apply aJ<;>omega);(intro _;exact rfl);exact rfl)|(apply ncA;(iterate 3 exact rfl);rotate_left;exact rfl;exact rfl)|(apply ldR pk;exact rfl;exact rfl;rotate_left;exact rfl;(focus ((repeat (first|exact aA _ _ _|assumption|refine (aB (by assumption)).trans ?_));done));exact rfl;exact rfl)|(apply stR pk;exact rfl;exact rfl;(focus ((repeat (first|exact aA _ _ _|assumption|refine (aB (by assumption)).trans ?_));done));exact rfl;exact rfl)|(intros;(try simp only [zql]);omega))))
  refine aaV (id:=idT) (k:=i) 43 3 (aA _ _ _) hrow rfl (fun idL hidL=> ?_)
  have hidL1:upd st idT (some (.arr 55 R)) idL=none:=hidL
  have hne:idL≠idT:=fun e=>by rw [e,aA] at hidL1;cases hidL1
  have hidL0:st idL=none:=by rwa [aB hne] at hidL1
  clear hidL hidL1
  have hsub2:StSub (upd (upd st idL (some (.arr 43 ((kJ s b (inR M) who i 0).map Ln.cells)))) idT (some (.arr 55 (R.set i [.vec idL 3 0 (kJ s b (inR M) who i 0).length])))) (upd (upd (upd st idT (some (.arr 55 R))) idL (some (.arr 43 []))) idT (some (.arr 55 (R.set i [.vec idL 3 0 0])))):=by rw [hI0];exact aiY hne
  refine aP (X:={x:Nat×Nat//x.1≤b[i].lines.length∧st x.2=none∧x.2≠idT∧∀y (h:y<b[i].lines.length),y<x.1→nX s[i] (inR M) i b[i].lines[y]=true}) (fun y=>(((((((((((((St.nil 89 (upd (upd st y.1.2 (some (.arr 43 ((kJ s b (inR M) who i y.1.1).map Ln.cells)))) idT (some (.arr 55 (R.set i [.vec y.1.2 3 0 (kJ s b (inR M) who i y.1.1).length]))))).var 5 24 ((scC s))).var 9 30 (who.cells)).var 10 27 ([.val (.slice none 0 0)])).pv 12 (.fmap (aV eD bF (mE M)))).var 13 27 ([.vec idT 1 0 s.length])).pv 14 ((PV.val (Value.int .i64 ((i:Nat)))))).pv 37 (.seq (b.map Da.cells))).pv 38 ((PV.val (Value.int .i64 (((b.map Da.cells).length:Nat)))))).pv 39 ((PV.val (Value.int .i64 ((i:Nat)))))).pv 45 (.seq (b[i].lines.map Ln.cells))).pv 46 ((PV.val (Value.int .i64 (((b[i].lines.map Ln.cells).length:Nat)))))).pv 47 ((PV.val (Value.int .i64 ((y.1.1:Nat))))))) (fun y=>b[i].lines.length-y.1.1) ⟨(0,idL),by simp,hidL0,hne,by simp⟩ ?_ (fun y=> ?_)
  · dsimp only
    (repeat (first|refine Sub.pv ?_ rfl|refine Sub.var ?_ rfl rfl));exact Sub.nil _ _ _ hsub2 rfl
  clear hidL0 hne hsub2 hsub
  obtain ⟨⟨y,idL⟩,hy,hidL0,hne,hyI⟩:=y
  dsimp only at hy hidL0 hne hyI
  dsimp only
  have hneT:=Ne.symm hne
  have hgr:(R.set i [.vec idL 3 0 (kJ s b (inR M) who i y).length])[i]?=some [.vec idL 3 0 (kJ s b (inR M) who i y).length]:=List.getElem?_set_self (by omega)
  have hIy:=hIl y
  by_cases hend2:b[i].lines.length≤y
  · obtain rfl:y=b[i].lines.length:=by omega
    rw [hIa] at hgr⊢
    have hup:∀k (h:k<b.length),k<i+1→∀y (h:y<b[k].lines.length),nX s[k]! (inR M) k b[k].lines[y]=true:=fun k hk hki v hv=>by
      rcases Nat.lt_succ_iff_lt_or_eq.1 hki with q|q
      · exact hIv k hk q v hv
      · subst q;rw [getElem!_pos s k his];exact hyI v hv hv
    refine acM (id:=idT) (idL:=idL) (k:=i) (aA _ _ _) hgr ((aB hne).trans (aA _ _ _)) mD (zql _) hneT ?_
    rw [List.set_set,hset]
    (try (apply wO pk;exact rfl));(repeat' (first|(show All _;constructor)|(show Imp _ _;constructor)|(show ImpX _ _ _ _;constructor)|(apply wC pk;(iterate 2 exact rfl))|(apply wE pk;(iterate 2 exact rfl))|(apply wX pk;exact rfl)|(apply wN pk;exact rfl)|(apply wDx pk;exact rfl;kernel_rfl;exact rfl;exact rfl)|(apply aC;simp only [zqt,zqf])|(refine aD rfl (fun h=> ?_) (fun h=> ?_)<;>(try simp at h)<;>try (exfalso;omega))|((try refine aF ?_);refine ⟨_,_,_,rfl,Wk.refl _,StSub.refl _, ?_⟩)|(apply bC pk;(iterate 6 exact rfl);rotate_left;exact rfl;(intro hw;exact rfl);(intro hw;apply aJ<;>omega);(intro _;exact rfl);exact rfl)|(apply ncA;(iterate 3 exact rfl);rotate_left;exact rfl;exact rfl)|(apply ldR pk;exact rfl;exact rfl;rotate_left;exact rfl;(focus ((repeat (first|exact aA _ _ _|assumption|refine (aB (by assumption)).trans ?_));done));exact rfl;exact rfl)|(apply stR pk;exact rfl;exact rfl;(focus ((repeat (first|exact aA _ _ _|assumption|refine (aB (by assumption)).trans ?_));done));exact rfl;exact rfl)|(refine ⟨⟨i+1,by omega,hup⟩, ?_,by simp only;omega⟩;(first|exact Sub.nil _ _ _ (StSub.refl _) rfl|((repeat (first|refine Sub.pv ?_ rfl|refine Sub.var ?_ rfl rfl));(first|exact Sub.nil _ _ _ (afX hidL0 hne rfl) rfl|exact Sub.nil _ _ _ (StSub.refl _) rfl|exact Sub.nil _ _ _ (aS (by assumption)) rfl|exact Sub.nil _ _ _ (aM (by first|rfl|exact bM (by assumption)|((simp only [St.pv,St.put,St.sst,St.setv,St.nil,St.var,aO]);first|done|rfl))) rfl|(refine Sub.nil _ _ _ (aM ?_) rfl;(simp only [St.pv,St.put,St.sst,St.setv,St.nil,St.var,aO]);(rw [eJ (by assumption)]);first|done|rfl)))))|(intros;(try simp only [zql]);omega)))
  have hyl:y<b[i].lines.length:=by omega
  obtain ⟨l,hle⟩:∃l,b[i].lines[y]=l:=⟨_,rfl⟩
  have hlm:l∈b[i].lines:=hle▸List.getElem_mem hyl
  have hgl:(b[i].lines.map Ln.cells)[y]?=some l.cells:=by rw [List.getElem?_map,List.getElem?_eq_getElem hyl,hle];rfl
  have hIu:=hIu y hyl
  rw [hle] at hIu
  have hyU:nX s[i] (inR M) i l=true→∀v (h:v<b[i].lines.length),v<y+1→nX s[i] (inR M) i b[i].lines[v]=true:=fun h v hv hvy=>by
    rcases Nat.lt_succ_iff_lt_or_eq.1 hvy with q|q
    · exact hyI v hv q
    · subst q;rw [hle];exact h
  have hbad:nX s[i] (inR M) i l=false→oA s b (inR M)=false:=fun h=>aoE hib hyl (by rw [getElem!_pos s i his,hle];exact h)
  have hleft:=ahF s[i] l M who (by omega) (by have:=(hcl l hlm).1;omega) (hcl l hlm).2 (fun f hf=>hreg f hf l hlm) hcol
  unfold akC at hleft
  cases hG:inR M ((i:Int),l.key) with
  |true=>
    rw [hG,if_pos rfl] at hIu
    have hU:=hyU (by unfold nX;rw [hG];rfl)
    (try (apply wO pk;exact rfl));(repeat' (first|((apply lkS (M:=M) (k:=((i:Int),l.key));(iterate 5 exact rfl);rotate_left;exact rfl;exact rfl;rw [hG]))|(show All _;constructor)|(show Imp _ _;constructor)|(show ImpX _ _ _ _;constructor)|(apply wC pk;(iterate 2 exact rfl))|(apply wE pk;(iterate 2 exact rfl))|(apply wX pk;exact rfl)|(apply wN pk;exact rfl)|(apply wDx pk;exact rfl;kernel_rfl;exact rfl;exact rfl)|(apply aC;simp only [zqt,zqf])|(refine aD rfl (fun h=> ?_) (fun h=> ?_)<;>(try simp at h)<;>try (exfalso;omega))|((try refine aF ?_);refine ⟨_,_,_,rfl,Wk.refl _,StSub.refl _, ?_⟩)|(apply bC pk;(iterate 6 exact rfl);rotate_left;exact rfl;(first|((intro hw;exact rfl);(intro hw;apply hgl<;>omega);(intro _;exact rfl))|((intro hw;exact rfl);(intro hw;apply aJ<;>omega);(intro _;exact rfl)));exact rfl)|(apply ncA;(iterate 3 exact rfl);rotate_left;exact rfl;exact rfl)|(apply ldR pk;exact rfl;exact rfl;rotate_left;exact rfl;(focus ((repeat (first|exact aA _ _ _|assumption|refine (aB (by assumption)).trans ?_));done));exact rfl;exact rfl)|(apply stR pk;exact rfl;exact rfl;(focus ((repeat (first|exact aA _ _ _|assumption|refine (aB (by assumption)).trans ?_));done));exact rfl;exact rfl)|(refine ⟨⟨(y+1,idL),by simp only;omega,hidL0,hne,hU⟩, ?_,by simp only;omega⟩;((dsimp only;rw [hIu]));(first|exact Sub.nil _ _ _ (StSub.refl _) rfl|((repeat (first|refine Sub.pv ?_ rfl|refine Sub.var ?_ rfl rfl));(first|exact Sub.nil _ _ _ (StSub.refl _) rfl|exact Sub.nil _ _ _ (aS (by assumption)) rfl|exact Sub.nil _ _ _ (aM (by first|rfl|exact bM (by assumption)|((simp only [St.pv,St.put,St.sst,St.setv,St.nil,St.var,aO]);first|done|rfl))) rfl|(refine Sub.nil _ _ _ (aM ?_) rfl;(simp only [St.pv,St.put,St.sst,St.setv,St.nil,St.var,aO]);(rw [eJ (by assumption)]);first|done|rfl)))))|(intros;(try simp only [zql]);omega)))
  |false=>
    rw [hG,if_neg (by simp)] at hIu
    cases hL:lG s[i] (inR M) l with
    |false=>
      rw [hL,if_neg (by simp)] at hleft
      have hb:=hbad (by unfold nX;rw [hG,hL];rfl)
      (try (apply wO pk;exact rfl));(repeat' (first|((apply lkS (M:=M) (k:=((i:Int),l.key));(iterate 5 exact rfl);rotate_left;exact rfl;exact rfl;rw [hG]))|(apply wD pk [] [];kernel_rfl;exact rfl;exact rfl)|(show All _;constructor)|(show Imp _ _;constructor)|(show ImpX _ _ _ _;constructor)|(apply wC pk;(iterate 2 exact rfl))|(apply wE pk;(iterate 2 exact rfl))|(apply wX pk;exact rfl)|(apply wN pk;exact rfl)|(apply wDx pk;exact rfl;kernel_rfl;exact rfl;exact rfl)|(apply aC;simp only [zqt,zqf])|(refine aD rfl (fun h=> ?_) (fun h=> ?_)<;>(try simp at h)<;>try (exfalso;omega))|((try refine aF ?_);(first|(refine ⟨_,_,_,rfl,Wk.refl _,StSub.refl _, ?_⟩;(exact .inl ⟨hb,rfl,sN hidL0 hidT0⟩);done)|(refine ⟨_,_, ?zs,rfl,Wk.refl _, ?zh, ?zr⟩;(case zh=>(refine aG ?_ (by assumption);(repeat refine aG ?_ (by assumption));exact StSub.refl _));(case zr=>(exact .inl ⟨hb,rfl,sN hidL0 hidT0⟩)))|refine ⟨_,_,_,rfl,Wk.refl _,StSub.refl _, ?_⟩))|(apply aK;(iterate 3 exact rfl);(intro _;apply hleft<;>first|assumption|omega);rotate_left;(iterate 2 exact rfl))|(apply dG;(iterate 3 exact rfl);(intro _;apply hleft<;>first|assumption|omega);rotate_left;(iterate 2 exact rfl))|(apply bC pk;(iterate 6 exact rfl);rotate_left;exact rfl;(first|((intro hw;exact rfl);(intro hw;apply hgl<;>omega);(intro _;exact rfl))|((intro hw;exact rfl);(intro hw;apply aJ<;>omega);(intro _;exact rfl)));exact rfl)|(apply ncA;(iterate 3 exact rfl);rotate_left;exact rfl;exact rfl)|(apply ldR pk;exact rfl;exact rfl;rotate_left;exact rfl;(focus ((repeat (first|exact aA _ _ _|assumption|refine (aB (by assumption)).trans ?_));done));exact rfl;exact rfl)|(apply stR pk;exact rfl;exact rfl;(focus ((repeat (first|exact aA _ _ _|assumption|refine (aB (by assumption)).trans ?_));done));exact rfl;exact rfl)|(intros;(try simp only [zql]);omega)))
    |true=>
      rw [hL,if_pos rfl] at hleft
      have hU:=hyU (by unfold nX;rw [hG,hL];rfl)
      have hlenU:(kJ s b (inR M) who i (y+1)).length=(kJ s b (inR M) who i y).length+1:=by rw [hIu,List.length_append];rfl
      (try (apply wO pk;exact rfl));(repeat' (first|((apply wD (id:=17) pk [11,14] [8];kernel_rfl;exact rfl;exact rfl))|((apply wD (id:=14) pk [] [];kernel_rfl;exact rfl;exact rfl))|((apply lkS (M:=M) (k:=((i:Int),l.key));(iterate 5 exact rfl);rotate_left;exact rfl;exact rfl;rw [hG]))|(show All _;constructor)|(show Imp _ _;constructor)|(show ImpX _ _ _ _;constructor)|(apply wC pk;(iterate 2 exact rfl))|(apply wE pk;(iterate 2 exact rfl))|(apply wX pk;exact rfl)|(apply wN pk;exact rfl)|(apply wDx pk;exact rfl;kernel_rfl;exact rfl;exact rfl)|(apply aC;simp only [zqt,zqf])|(refine aD rfl (fun h=> ?_) (fun h=> ?_)<;>(try simp at h)<;>try (exfalso;omega))|((try refine aF ?_);refine ⟨_,_,_,rfl,Wk.refl _,StSub.refl _, ?_⟩)|(apply aK;(iterate 3 exact rfl);(intro _;apply hleft<;>first|assumption|omega);rotate_left;(iterate 2 exact rfl))|(apply dG;(iterate 3 exact rfl);(intro _;apply hleft<;>first|assumption|omega);rotate_left;(iterate 2 exact rfl))|(apply bC pk;(iterate 6 exact rfl);rotate_left;exact rfl;(first|((intro hw;exact rfl);(intro hw;apply hgl<;>omega);(intro _;exact rfl))|((intro hw;exact rfl);(intro hw;apply aJ<;>omega);(intro _;exact rfl)));exact rfl)|(apply ncA;(iterate 3 exact rfl);rotate_left;exact rfl;exact rfl)|(apply ldR pk;exact rfl;exact rfl;rotate_left;exact rfl;(focus ((repeat (first|exact aA _ _ _|assumption|refine (aB (by assumption)).trans ?_));done));exact rfl;exact rfl)|(apply stR pk;exact rfl;exact rfl;(focus ((repeat (first|exact aA _ _ _|assumption|refine (aB (by assumption)).trans ?_));done));exact rfl;exact rfl)|(apply apV pk (f:=Ln.cells) [bH s[i] (inR M) who l] 56;(iterate 9 exact rfl);(focus ((repeat (first|exact aA _ _ _|assumption|refine (aB (by assumption)).trans ?_));done));(first|omega|assumption|(focus (simp;done))|(focus (simp;omega))|(focus (simp at*;omega)));exact fun _=>rfl;exact fun _=>rfl;exact nV;(first|omega|assumption|(focus (simp;done))|(focus (simp;omega))|(focus (simp at*;omega)));(first|omega|assumption|(focus (simp;done))|(focus (simp;omega))|(focus (simp at*;omega)));exact rfl;intro id' hid')|(apply ap0 pk (f:=Ln.cells) [bH s[i] (inR M) who l] 56;(iterate 10 exact rfl);exact fun _=>rfl;exact fun _=>rfl;exact nV;(first|omega|assumption|(focus (simp;done))|(focus (simp;omega))|(focus (simp at*;omega)));(first|omega|assumption|(focus (simp;done))|(focus (simp;omega))|(focus (simp at*;omega)));exact rfl;intro id' hid')|(apply ixA pk;(iterate 5 exact rfl);rotate_left;exact rfl;(intro hw;(first|exact (show _=((i:Nat):Int) from by omega)|(simp [gw] at hw;first|exact (show _=((i:Nat):Int) from by omega)|(refine (show _=((0:Nat):Int) from ?_);omega))|exact rfl));(intro hw;(first|omega|(focus (simp [gw] at hw;done))|(simp [gw] at hw;omega)|(simp only [zqs];omega)));exact rfl;(first|exact Nat.zero_add _|exact rfl))|(apply ldA pk Ln.elem;exact rfl;exact rfl;rotate_left;exact rfl;(focus ((repeat (first|exact aA _ _ _|assumption|refine (aB (by assumption)).trans ?_));done));(intro hw;(first|omega|(focus (simp [gw] at hw;done))|(simp [gw] at hw;omega)|(simp only [zqs];omega)));exact rfl)|(apply stA pk Ln.elem;(iterate 3 exact rfl);(focus ((repeat (first|exact aA _ _ _|assumption|refine (aB (by assumption)).trans ?_));done));(first|omega|(simp only [zqs];omega));exact rfl)|((apply ldX pk;exact rfl;exact rfl;rotate_left;exact rfl;exact aA _ _ _;exact rfl;exact hgr;exact rfl;exact rfl))|((have hq:=nO hid';apply stX pk;exact rfl;exact rfl;exact (aB hq.1).trans ((aB hneT).trans (aA _ _ _));exact rfl;exact hgr;exact rfl;exact rfl))|(refine ⟨⟨(y+1,id'),by simp only;omega,(nO hid').2,Ne.symm (nO hid').1,hU⟩, ?_,by simp only;omega⟩;((dsimp only));(first|exact Sub.nil _ _ _ (StSub.refl _) rfl|((repeat (first|refine Sub.pv ?_ rfl|refine Sub.var ?_ rfl rfl));(first|exact Sub.nil _ _ _ (adR hidL0 hne (by rw [hIu]) (by rw [List.set_set,hlenU];rfl)) rfl|exact Sub.nil _ _ _ (StSub.refl _) rfl|exact Sub.nil _ _ _ (aS (by assumption)) rfl|exact Sub.nil _ _ _ (aM (by first|rfl|exact bM (by assumption)|((simp only [St.pv,St.put,St.sst,St.setv,St.nil,St.var,aO]);first|done|rfl))) rfl|(refine Sub.nil _ _ _ (aM ?_) rfl;(simp only [St.pv,St.put,St.sst,St.setv,St.nil,St.var,aO]);(rw [eJ (by assumption)]);first|done|rfl)))))|(intros;(try simp only [zql]);omega)))
end Go.Proofs.YtddmbnddgiebgaaGreatDoor
