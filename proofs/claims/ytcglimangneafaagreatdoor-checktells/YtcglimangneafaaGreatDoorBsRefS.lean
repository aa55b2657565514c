import Derived.Test.YtcglimangneafaaGreatDoorBsRefP
set_option linter.unusedSimpArgs false
set_option linter.unusedVariables false
namespace Go.Proofs.YtcglimangneafaaGreatDoor
open Go Go.Abs
attribute [local irreducible] Ev PWp
set_option maxRecDepth 10000
set_option maxHeartbeats 4000000
end Go.Proofs.YtcglimangneafaaGreatDoor
namespace Go.Proofs.YtcglimangneafaaGreatDoor
open Go Go.Abs
attribute [local irreducible] Ev PWp
set_option maxRecDepth 10000
set_option maxHeartbeats 4000000
section
variable {P:Program} {tt:TT} {l:List Oper} {d:Md} {r:List Oper} {s:St} {K:St→Prop} {t:Nat} {ty:TypeId} {pos:String} {after:Array Edge}
theorem aAn {T T2:TypeId} {x y:Operand} {a b:Int} (hx:opd s x=some (.val (.int .i64 a))) (hy:opd s y=some (.val (.int .i64 b))) (hf:bM s [x,y]=true) (hd:Nat.blt t s.n=true) (ht:cI d l r=true) (k:∀c,Ev P l d r (s.put (some t) true (.pv (.val (.int .i64 c)))) K):Ev P l d (⟨some t, .binOp .add T x y T2,ty,pos,after,none⟩::r) s K:=
  iJ (c:=IntKind.i64.wrap (a+b)) rfl hx hy (fun _=> .inl ⟨rfl,rfl⟩) (by simp only [bM,Bool.and_eq_true] at hf;exact ⟨fun _=>hf.1,fun _=>hf.2.1,trivial⟩) hd ht (k _)
end
def tot (b:Bs):Nat:=(b.map fun d=>d.lines.length).sum
theorem aqA {b:Bs} {i:Nat} (h:i<b.length):tot (b.take (i+1))=tot (b.take i)+b[i].lines.length:=by
  unfold tot
  rw [List.take_succ_eq_append_getElem h,List.map_append,List.sum_append];simp
theorem ayN (b:Bs) (i:Nat):tot (b.take i)≤tot b:=by
  have:tot b=tot (b.take i)+tot (b.drop i):=by
    unfold tot;rw [←List.sum_append,←List.map_append,List.take_append_drop]
  omega
def tZ (b:Bs):Bool:=decide (b.length≤20)&&(decide (tot b≤100)&&b.all fun d=>d.lines.all eX)
theorem ayZ {b:Bs} {i y:Nat} (hi:i<b.length) (hy:y<b[i].lines.length) (h:eX b[i].lines[y]=false):tZ b=false:=by
  unfold tZ
  have:(b.all fun d=>d.lines.all eX)=false:=by
    rw [←Bool.not_eq_true,List.all_eq_true]
    intro q
    have:=List.all_eq_true.1 (q _ (List.getElem_mem hi)) _ (List.getElem_mem hy)
    rw [h] at this;cases this
  rw [this];simp
theorem apI (b:Bs) (hb:b.length<200000000000000) (hd:∀d∈b,d.lines.length<200000000000000∧∀l∈d.lines,l.cells_.length<4611686018427387904):PF Tryz.prog 59 [.agg (bsC b)] (PV.val (Value.bool (tZ b))):=by
  by_cases h20:¬b.length≤20
  · have hF:tZ b=false:=by unfold tZ;rw [decide_eq_false h20];rfl
    rw [hF]
    refine aH aD Tryz.func59 (by kernel_rfl) rfl rfl rfl rfl (fun st=> ?_)
    focus ((try (apply wO pk;exact rfl));(repeat' ((show All _;constructor))))
    refine aJ (X:={x:Nat×Int//x.1≤b.length}) (fun i=>((((St.nil 56 st).var 1 27 ((bsC b))).pv 3 ((PV.val (Value.int .i64 (i.1.2))))).pv 4 ((PV.val (Value.int .i64 ((i.1.1:Nat))))))) (fun i=>b.length-i.1.1) ⟨(0,0),by simp⟩ ?_ (fun i=> ?_)
    · ((repeat (first|refine Sub.pv ?_ rfl|refine Sub.var ?_ rfl rfl));exact Sub.nil _ _ _ (StSub.refl _) rfl)
    obtain ⟨⟨i,n⟩,hi⟩:=i
    simp only at hi
    dsimp only
    by_cases hend:b.length≤i
    rotate_left
    have hil:i<b.length:=by omega
    have hdl:=(hd _ (List.getElem_mem hil)).1
    focus ((try (apply wO pk;exact rfl));(repeat' (first|((iterate 3 (apply gI aD;(iterate 4 exact rfl)));apply aAn;(iterate 5 exact rfl);intro n')|(show All _;constructor)|(show Imp _ _;constructor)|(apply wC pk;(iterate 2 exact rfl))|(apply wE pk;(iterate 2 exact rfl))|(refine aA rfl (fun h=> ?_) (fun h=> ?_)<;>(try simp at h)<;>try (exfalso;omega))|(apply aM pk;(iterate 6 exact rfl);rotate_left;exact rfl;(intro hw;exact rfl);(intro hw;apply aF<;>omega);(intro _;exact rfl);exact rfl)|(intros;(try simp only [zql]);omega))))
    refine aJ (X:={x:Nat//x≤b[i].lines.length}) (fun y=>(((((St.nil 56 st).var 1 27 ((bsC b))).pv 3 ((PV.val (Value.int .i64 (n'))))).pv 4 ((PV.val (Value.int .i64 ((i:Nat)))))).pv 5 ((PV.val (Value.int .i64 ((y.1:Nat))))))) (fun y=>b[i].lines.length-y.1) ⟨0,by omega⟩ ?_ (fun y=> ?_)
    · ((repeat (first|refine Sub.pv ?_ rfl|refine Sub.var ?_ rfl rfl));exact Sub.nil _ _ _ (StSub.refl _) rfl)
    obtain ⟨y,hy⟩:=y
    dsimp only
    by_cases hend2:b[i].lines.length≤y
    rotate_left
    have hyl:y<b[i].lines.length:=by omega
    have hs:=xO b[i].lines[y] ((hd _ (List.getElem_mem hil)).2 _ (List.getElem_mem hyl))
    rotate_left
    all_goals ((try (apply wO pk;exact rfl));(repeat' (first|(show All _;constructor)|(show Imp _ _;constructor)|(show ImpX _ _ _ _;constructor)|(apply wC pk;(iterate 2 exact rfl))|(apply wE pk;(iterate 2 exact rfl))|(refine aA rfl (fun h=> ?_) (fun h=> ?_)<;>(try simp at h)<;>try (exfalso;omega))|(refine aB ?_;refine ⟨_,_,_,rfl,Wk.refl _,StSub.refl _, ?_,rfl⟩;try first|rfl|((rw [zql,decide_eq_false (by omega)];rfl);done))|(apply aI;(iterate 3 exact rfl);(intro _;apply hs<;>first|assumption|omega);rotate_left;(iterate 2 exact rfl))|(apply aM pk;(iterate 6 exact rfl);rotate_left;exact rfl;(intro hw;exact rfl);(intro hw;apply aF<;>omega);(intro _;exact rfl);exact rfl)|((first|refine ⟨⟨(i+1,n'),by simp only;omega⟩, ?_,by simp only;omega⟩|refine ⟨⟨y+1,by omega⟩, ?_,by simp only;omega⟩);((repeat (first|refine Sub.pv ?_ rfl|refine Sub.var ?_ rfl rfl));exact Sub.nil _ _ _ (StSub.refl _) rfl))|(intros;(try simp only [zql]);omega))))
  replace h20:=Decidable.of_not_not h20
  refine aH aD Tryz.func59 (by kernel_rfl) rfl rfl rfl rfl (fun st=> ?_)
  focus ((try (apply wO pk;exact rfl));(repeat' ((show All _;constructor))))
  refine aJ (X:={x:Nat×Nat//x.1≤b.length∧x.2=tot (b.take x.1)∧x.2≤x.1*200000000000000∧(x.2≤100→∀j (h:j<b.length),j<x.1→∀l∈b[j].lines,eX l=true)}) (fun i=>((((St.nil 56 st).var 1 27 ((bsC b))).pv 3 ((PV.val (Value.int .i64 ((i.1.2:Nat)))))).pv 4 ((PV.val (Value.int .i64 ((i.1.1:Nat))))))) (fun i=>b.length-i.1.1) ⟨(0,0),by simp,rfl,by simp,by simp⟩ ?_ (fun i=> ?_)
  · ((repeat (first|refine Sub.pv ?_ rfl|refine Sub.var ?_ rfl rfl));exact Sub.nil _ _ _ (StSub.refl _) rfl)
  obtain ⟨⟨i,n⟩,hi,hn,hb2,hS⟩:=i
  simp only at hi hn hb2 hS
  dsimp only
  by_cases hend:b.length≤i
  have e:decide ((n:Int)≤100)=(decide (tot b≤100)&&b.all fun d=>d.lines.all eX):=by
    rw [List.take_of_length_le hend] at hn
    subst hn
    by_cases q:tot b≤100
    · rw [decide_eq_true (by omega),decide_eq_true q,Bool.true_and,eq_comm,List.all_eq_true]
      intro d hd'
      obtain ⟨j,hj,rfl⟩:=List.getElem_of_mem hd'
      rw [List.all_eq_true]
      exact hS q j hj (by omega)
    · rw [decide_eq_false (by omega),decide_eq_false q];rfl
  have e2:decide ((b.length:Int)≤20)=decide (b.length≤20):=by rw [decide_eq_decide];omega
  rotate_left
  have hil:i<b.length:=by omega
  obtain ⟨d1,d2⟩:=hd _ (List.getElem_mem hil)
  have ht:=aqA hil
  have hF:=fun y h=>ayZ (y:=y) hil h
  focus ((try (apply wO pk;exact rfl));(repeat' (first|(show All _;constructor)|(show Imp _ _;constructor)|(apply wC pk;(iterate 2 exact rfl))|(apply wE pk;(iterate 2 exact rfl))|(refine aA rfl (fun h=> ?_) (fun h=> ?_)<;>(try simp at h)<;>try (exfalso;omega))|(apply aM pk;(iterate 6 exact rfl);rotate_left;exact rfl;(intro hw;exact rfl);(intro hw;apply aF<;>omega);(intro _;exact rfl);exact rfl)|(intros;(try simp only [zql]);omega))))
  refine aJ (X:={x:Nat//x≤b[i].lines.length∧(n+b[i].lines.length≤100→∀j (h:j<b[i].lines.length),j<x→eX b[i].lines[j]=true)}) (fun y=>(((((St.nil 56 st).var 1 27 ((bsC b))).pv 3 ((PV.val (Value.int .i64 (((n+b[i].lines.length:Nat):Int)))))).pv 4 ((PV.val (Value.int .i64 ((i:Nat)))))).pv 5 ((PV.val (Value.int .i64 ((y.1:Nat))))))) (fun y=>b[i].lines.length-y.1) ⟨0,by omega,by omega⟩ ?_ (fun y=> ?_)
  · ((repeat (first|refine Sub.pv ?_ rfl|refine Sub.var ?_ rfl rfl|refine Sub.pv' ?_ rfl (by (congr 2;rw [zql];omega))));exact Sub.nil _ _ _ (StSub.refl _) rfl)
  obtain ⟨y,hy,hyS⟩:=y
  dsimp only
  have hnx:¬(y<b[i].lines.length∧n+b[i].lines.length≤100)→(n+b[i].lines.length≤100→∀j (h:j<b.length),j<i+1→∀l∈b[j].lines,eX l=true):=fun h q j hj hji l hl=>by
    rcases Nat.lt_succ_iff_lt_or_eq.1 hji with r|r
    · exact hS (by omega) j hj r l hl
    · subst r
      obtain ⟨z,hz,rfl⟩:=List.getElem_of_mem hl
      exact hyS q z hz (by omega)
  have hn2:n+b[i].lines.length=tot (b.take (i+1)):=by omega
  by_cases hend2:b[i].lines.length≤y
  rotate_left
  have hyl:y<b[i].lines.length:=by omega
  have hs:=xO b[i].lines[y] (d2 _ (List.getElem_mem hyl))
  have hF2:=hF y hyl
  have hSt:eX b[i].lines[y]=true→(n+b[i].lines.length≤100→∀j (h:j<b[i].lines.length),j<y+1→eX b[i].lines[j]=true):=fun h q j hj hjy=>by
    rcases Nat.lt_succ_iff_lt_or_eq.1 hjy with r|r
    · exact hyS q j hj r
    · subst r;exact h
  generalize hG:eX b[i].lines[y]=G at*
  cases G
  rotate_left
  rotate_left
  all_goals ((try (apply wO pk;exact rfl));(repeat' (first|(show All _;constructor)|(show Imp _ _;constructor)|(show ImpX _ _ _ _;constructor)|(apply wC pk;(iterate 2 exact rfl))|(apply wE pk;(iterate 2 exact rfl))|(refine aA rfl (fun h=> ?_) (fun h=> ?_)<;>(try simp at h)<;>try (exfalso;omega))|(refine aB ?_;refine ⟨_,_,_,rfl,Wk.refl _,StSub.refl _, ?_,rfl⟩;try first|rfl|((first|((rw [zql];unfold tZ;rw [←e,←e2]);done)|((rw [hF2 rfl]);done));done))|(apply aI;(iterate 3 exact rfl);(intro _;apply hs<;>first|assumption|omega);rotate_left;(iterate 2 exact rfl))|(apply aM pk;(iterate 6 exact rfl);rotate_left;exact rfl;(intro hw;exact rfl);(intro hw;apply aF<;>omega);(intro _;exact rfl);exact rfl)|((first|refine ⟨⟨(i+1,n+b[i].lines.length),by simp only;omega,hn2,by simp only;omega,hnx (by omega)⟩, ?_,by simp only;omega⟩|refine ⟨⟨y+1,by omega,hSt rfl⟩, ?_,by simp only;omega⟩);((repeat (first|refine Sub.pv ?_ rfl|refine Sub.var ?_ rfl rfl));exact Sub.nil _ _ _ (StSub.refl _) rfl))|(intros;(try simp only [zql]);omega))))
end Go.Proofs.YtcglimangneafaaGreatDoor
namespace Go.Proofs.YtcglimangneafaaGreatDoor
open Go Go.Abs
attribute [local irreducible] Ev PWp
set_option maxRecDepth 10000
set_option maxHeartbeats 4000000
def LnS (l:Ln):Prop:=l.by_.length≤1000∧l.cells_.length≤1000∧∀c∈l.cells_,c.parts.length≤1000
def BsS (n:Nat) (b:Bs):Prop:=b.length≤20∧∀d∈b,d.lines.length≤n∧∀l∈d.lines,LnS l
theorem axA {l:Ln} (h:eX l=true):LnS l:=by
  unfold eX at h
  simp only [Bool.and_eq_true,decide_eq_true_eq,List.all_eq_true,kT] at h
  exact ⟨by omega,by omega,fun c hc=>by have:=(h.1 c hc).1;omega⟩
theorem azY {b:Bs} (h:tZ b=true):BsS 100 b:=by
  unfold tZ at h
  simp only [Bool.and_eq_true,decide_eq_true_eq,List.all_eq_true] at h
  obtain ⟨h1,h2,h3⟩:=h
  refine ⟨h1,fun d hd=>⟨?_,fun l hl=>axA (h3 d hd l hl)⟩⟩
  obtain ⟨j,hj,rfl⟩:=List.getElem_of_mem hd
  have e1:=aqA hj
  have e2:=ayN b (j+1)
  omega
theorem BsS.up {n m:Nat} {b:Bs} (h:BsS n b) (hm:n≤m):BsS m b:=⟨h.1,fun d hd=>⟨Nat.le_trans (h.2 d hd).1 hm,(h.2 d hd).2⟩⟩
theorem BsS.lines {n:Nat} {b:Bs} (h:BsS n b) (k:Int):(aV b k).length≤n∧∀l∈aV b k,LnS l:=by
  unfold aV
  split
  · rename_i q
    simp only [okT,Bool.and_eq_true,decide_eq_true_eq] at q
    have hk:k.toNat<b.length:=by omega
    rw [getElem!_pos b k.toNat hk]
    exact h.2 _ (List.getElem_mem hk)
  · exact ⟨Nat.zero_le _,fun l hl=>by cases hl⟩
theorem BsS.set {n:Nat} {b:Bs} (h:BsS n b) (k:Int) {ls:List Ln} (h1:ls.length≤n) (h2:∀l∈ls,LnS l):BsS n (adM b k ls):=by
  refine ⟨by rw [arA];exact h.1,fun d hd=> ?_⟩
  unfold adM at hd
  split at hd
  · rcases List.mem_or_eq_of_mem_set hd with q|q
    · exact h.2 d q
    · subst q;exact ⟨h1,h2⟩
  · exact h.2 d hd
theorem asU {L:List Ln} {a x:Ln} (h:x∈acS L a):x=a∨x∈L:=by
  unfold acS nJ at h
  split at h
  · exact (List.mem_or_eq_of_mem_set h).symm
  · simp only [List.mem_append,List.mem_singleton] at h
    rcases h with (h|h)|h
    · exact .inr (List.mem_of_mem_take h)
    · exact .inl h
    · exact .inr (List.mem_of_mem_drop h)
theorem aoR (L:List Ln) (a:Ln):(acS L a).length≤L.length+1:=by
  unfold acS
  split
  · simp
  · obtain ⟨j,hj,e,_⟩:=aoS L a.key
    rw [e,Int.toNat_natCast,aiG hj];exact Nat.le_refl _
theorem BsS.put {n:Nat} {b:Bs} (h:BsS n b) (k:Int) {a:Ln} (ha:LnS a):BsS (n+1) (ayB b k a):=by
  rw [arP]
  refine (h.up (Nat.le_succ n)).set k ?_ fun l hl=> ?_
  · have:=aoR (aV b k) a;have:=(h.lines k).1;omega
  · rcases asU hl with rfl|q
    · exact ha
    · exact (h.lines k).2 l q
theorem BsS.drop {n:Nat} {b:Bs} (h:BsS n b) (k key:Int):BsS n (aqD b k key):=by
  rw [amZ]
  refine h.set k ?_ fun l hl=> ?_
  · split
    · exact Nat.le_trans (List.length_eraseIdx_le ..) (h.lines k).1
    · exact (h.lines k).1
  · split at hl
    · exact (h.lines k).2 l (List.mem_of_mem_eraseIdx hl)
    · exact (h.lines k).2 l hl
theorem BsS.p {n:Nat} {b:Bs} (h:BsS n b) (hn:n≤1000):∀d∈b,d.lines.length<1000000000000∧∀x∈d.lines,x.by_.length<1000000000000∧x.cells_.length<1000000000000∧∀c∈x.cells_,c.parts.length<1000000000000:=fun d hd=>by
  obtain ⟨h1,h2⟩:=h.2 d hd
  refine ⟨by omega,fun x hx=> ?_⟩
  obtain ⟨q1,q2,q3⟩:=h2 x hx
  exact ⟨by omega,by omega,fun c hc=>by have:=q3 c hc;omega⟩
theorem BsS.l {n:Nat} {b:Bs} (h:BsS n b) (hn:n≤1000):b.length<100000000000∧∀d∈b,d.lines.length<100000000000:=⟨by have:=h.1;omega,fun d hd=>by have:=(h.2 d hd).1;omega⟩
def BsB (b:Bs):Prop:=b.length<200000000000000∧∀d∈b,d.lines.length<200000000000000∧∀l∈d.lines,l.cells_.length<4611686018427387904
end Go.Proofs.YtcglimangneafaaGreatDoor
namespace Go.Proofs.YtcglimangneafaaGreatDoor
open Go Go.Abs
end Go.Proofs.YtcglimangneafaaGreatDoor
