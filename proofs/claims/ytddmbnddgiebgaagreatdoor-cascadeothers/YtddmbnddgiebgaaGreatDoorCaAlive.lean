import Derived.Test.YtddmbnddgiebgaaGreatDoorCaDelS
import Derived.Test.YtddmbnddgiebgaaGreatDoorAbsJ
set_option linter.unusedSimpArgs false
set_option linter.unusedVariables false
namespace Go.Proofs.YtddmbnddgiebgaaGreatDoor
open Go Go.Abs
attribute [local irreducible] Ev PWp
set_option maxRecDepth 10000
set_option maxHeartbeats 4000000
def colP2 :Co:=⟨⟨#[112]⟩,0,1,true⟩
def sOl (a:Int):Sc:=[⟨⟨#[97]⟩,[colId],[],[],[],[]⟩,⟨⟨#[98]⟩,[colId,colP2],[],[],[⟨1,0,a⟩],[]⟩,⟨⟨#[99]⟩,[colId,colP2],[],[],[⟨1,1,2⟩],[]⟩]
def rOl (a:Int):List (List PV):=[[.val (.string ⟨#[97]⟩), .seq [colId.cells], .val (.slice none 0 0), .val (.slice none 0 0), .val (.slice none 0 0), .val (.slice none 0 0)],[.val (.string ⟨#[98]⟩), .seq [colId.cells,colP2.cells], .val (.slice none 0 0), .val (.slice none 0 0), .seq [[(PV.val (Value.int .i64 (1))),(PV.val (Value.int .i64 (0))),(PV.val (Value.int .i64 (a)))]], .val (.slice none 0 0)],[.val (.string ⟨#[99]⟩), .seq [colId.cells,colP2.cells], .val (.slice none 0 0), .val (.slice none 0 0), .seq [[(PV.val (Value.int .i64 (1))),(PV.val (Value.int .i64 (1))),(PV.val (Value.int .i64 (2)))]], .val (.slice none 0 0)]]
theorem wkO (a:Int):Wk (.agg [.seq (rOl a)]) (.agg (scC (sOl a))):=by
  have h:∀{l:List (List PV×List PV)},(∀x∈l,WkL x.1 x.2)→Wk (.seq (l.map Prod.fst)) (.seq (l.map Prod.snd)):=fun h=>Wk.rows h
  refine Wk.agg (.cons (h (l:=(rOl a).zip ((sOl a).map Tb.cells)) fun x hx=> ?_) .nil)
  simp only [rOl,sOl,List.map_cons,List.map_nil,List.zip_cons_cons,List.zip_nil_left,List.mem_cons,List.not_mem_nil,or_false] at hx
  rcases hx with rfl|rfl|rfl
  · exact .cons (Wk.refl _) (.cons (Wk.refl _) (.cons Wk.nil (.cons Wk.nil (.cons Wk.nil (.cons Wk.nil .nil)))))
  · exact .cons (Wk.refl _) (.cons (Wk.refl _) (.cons Wk.nil (.cons Wk.nil (.cons (Wk.refl _) (.cons Wk.nil .nil)))))
  · exact .cons (Wk.refl _) (.cons (Wk.refl _) (.cons Wk.nil (.cons Wk.nil (.cons (Wk.refl _) (.cons Wk.nil .nil)))))
def cN (n:Int):Cl:=⟨0,⟨1,n,e0⟩,[]⟩
def lA1 :Ln:=⟨1,[cN 1],[]⟩
def lA2 :Ln:=⟨2,[cN 2,cN 1],[]⟩
def lA3 :Ln:=⟨3,[cN 3,cN 2],[]⟩
def lA4 :Ln:=⟨3,[cN 3,Cl.zero],[⟨1,9⟩]⟩
def bA0 :Bs:=[⟨[]⟩,⟨[]⟩,⟨[]⟩]
def bA1 :Bs:=[⟨[lA1]⟩,⟨[]⟩,⟨[]⟩]
def bA2 :Bs:=[⟨[lA1]⟩,⟨[lA2]⟩,⟨[]⟩]
def bA3 :Bs:=[⟨[lA1]⟩,⟨[lA2]⟩,⟨[lA3]⟩]
def bA4 :Bs:=[⟨[]⟩,⟨[]⟩,⟨[lA4]⟩]
theorem atL {b:Bs} (h:∀d∈b,d.lines.length<100∧∀l∈d.lines,(l.cells_.length<100∧l.by_.length<100)∧∀c∈l.cells_,c.kind=0∧c.parts.length=0):∀d∈b,aoM txA d:=fun d hd=>by
  obtain ⟨h1,h2⟩:=h d hd
  refine ⟨by omega,fun l hl=> ?_⟩
  obtain ⟨⟨q1,q2⟩,q3⟩:=h2 l hl
  refine ⟨⟨by omega,by omega⟩,fun c hc=> ?_⟩
  obtain ⟨w1,w2⟩:=q3 c hc
  exact ⟨by omega,fun e=>by rw [w1] at e;cases e⟩
theorem arF (a:Int):∀t∈sOl a,TbB t:=fun t ht=>by
  simp only [sOl,List.mem_cons,List.not_mem_nil,or_false] at ht
  rcases ht with rfl|rfl|rfl<;>exact ⟨by simp,by simp,by simp,by simp,by simp⟩
theorem aaR :BsS 100 bA3:=by unfold BsS LnS;decide
theorem arA :∀d∈bA3,aoM txA d:=atL (by decide)
theorem gO1 :bK txA (sOl 1) bA3=true:=by kernel_rfl
theorem gO0 :bK txA (sOl 0) bA3=true:=by kernel_rfl
theorem rO1 :PF Tryz.prog 14 [.agg (scC (sOl 1)), .agg (bsC bA3)] (PV.val (Value.bool (true))):=gO1▸nR txA (sOl 1) bA3 (by decide) (arF 1) (by decide) arA
theorem rO0 :PF Tryz.prog 14 [.agg (scC (sOl 0)), .agg (bsC bA3)] (PV.val (Value.bool (true))):=gO0▸nR txA (sOl 0) bA3 (by decide) (arF 0) (by decide) arA
section
variable {st:aI} {idS:Nat}
theorem apF {a:Int}:Fz idS 6 (rOl a) (.vec idS 6 0 3) (.seq (rOl a)):=by
  have:=Fz.all (id:=idS) (sz:=6) (rows:=rOl a)
  exact this
theorem fzO {a:Int} {ps:List PV}:FzL idS 6 (rOl a) (.agg [.vec idS 6 0 3]::ps) (.agg [.seq (rOl a)]::ps):= .cons (.agg (.cons (apF) .nil)) (FzL.refl _)
theorem adX {a:Int} {f:FuncId} {ps:List PV} {r:PV} (hst:st idS=some (.arr 52 (rOl a))) (h:PF Tryz.prog f (.agg (scC (sOl a))::ps) r) (ha:apart 3 (rOl a).flatten r=true):PC Tryz.prog f (.agg [.vec idS 6 0 3]::ps) st fun r' S=>r'=r∧S=st:=
  PC.borrow 3 hst aoT (by simp [rOl]) fzO (.cons (wkO a) (WkL.refl _)) h ha
theorem anT (st:aI) (idS:Nat):PC Tryz.prog 24 [.agg [.vec idS 6 0 3]] st fun r S=>∃id,r= .agg [.vec id 1 0 3]∧st id=none∧S=upd st id (some (.arr 55 ((List.replicate 3 ()).map uF))):=by
  refine dU aH Tryz.func24 (by kernel_rfl) rfl rfl rfl rfl ?_
  (try (apply wO pk;exact rfl));(repeat' (first|(show All _;constructor)|(show Imp _ _;constructor)|(show ImpX _ _ _ _;constructor)|(apply wC pk;(iterate 2 exact rfl))|(apply wE pk;(iterate 2 exact rfl))|(apply wX pk;exact rfl)|(apply wN pk;exact rfl)|(apply wDx pk;exact rfl;kernel_rfl;exact rfl;exact rfl)|(apply aC;simp only [zqt,zqf])|(refine aD rfl (fun h=> ?_) (fun h=> ?_)<;>(try simp at h)<;>try (exfalso;omega))|((try refine aF ?_);(first|(refine ⟨_,_,_,rfl,Wk.refl _,StSub.refl _, ?_⟩;(exact ⟨id,rfl,hid,rfl⟩);done)|(refine ⟨_,_, ?zs,rfl,Wk.refl _, ?zh, ?zr⟩;(case zh=>(refine aG ?_ (by assumption);(repeat refine aG ?_ (by assumption));exact StSub.refl _));(case zr=>(exact ⟨id,rfl,hid,rfl⟩)))|refine ⟨_,_,_,rfl,Wk.refl _,StSub.refl _, ?_⟩))|(apply ncA;(iterate 3 exact rfl);rotate_left;exact rfl;exact rfl)|(apply ldR pk;exact rfl;exact rfl;rotate_left;exact rfl;(focus ((repeat (first|exact aA _ _ _|assumption|refine (aB (by assumption)).trans ?_));done));exact rfl;exact rfl)|(apply stR pk;exact rfl;exact rfl;(focus ((repeat (first|exact aA _ _ _|assumption|refine (aB (by assumption)).trans ?_));done));exact rfl;exact rfl)|(apply asI pk () (f:=uF) (n:=3) (B:=24);(iterate 11 exact rfl);(focus (simp;done));(focus (simp;done));exact rE;omega;omega;intro id hid)|(intros;(try simp only [zql]);omega)))
theorem auX {idN:Nat} (hst:st idN=some (.arr 55 ((List.replicate 3 ()).map uF))):PC Tryz.prog 23 [.agg [.vec idN 1 0 3],(PV.val (Value.int .i64 (0))), .agg lA1.cells] st fun r S=>r= .agg (bsC bA1)∧S=upd st idN none:=by
  have h:PF Tryz.prog 23 [.agg (bsC bA0),(PV.val (Value.int .i64 (0))), .agg lA1.cells] (.agg (bsC bA1)):=(show yS bA0 0 lA1=bA1 from by kernel_rfl)▸rR bA0 0 lA1 (by decide) (by decide)
  exact PC.freezeZ hst wS (.cons (.agg (.cons (iI rfl) .nil)) (FzL.refl _)) (PC.wkArgs (.cons (asA 3) (WkL.refl _)) (h _))
theorem avJ (hst:st idS=some (.arr 52 (rOl 1))):PC Tryz.prog 15 [.agg [.vec idS 6 0 3], .agg (bsC bA3),(PV.val (Value.int .i64 (0))),(PV.val (Value.int .i64 (1)))] st fun r S=>r= .seq (([(0,1),(1,2)]:List R2).map r2C)∧S=st:=
  adX hst ((show (if true=true then jN (sOl 1) bA3 (0,1) else [])=[(0,1),(1,2)] from by kernel_rfl)▸vO (z:=(0,1)) rO1 (fun _=>nP gO1 aaR) (fun _=>mB gO1) (by decide) (tP aaR)) (by kernel_rfl)
theorem auS (hst:st idS=some (.arr 52 (rOl 1))):PC Tryz.prog 11 [.agg [.vec idS 6 0 3], .agg (bsC bA3),(PV.val (Value.int .i64 (0))),(PV.val (Value.int .i64 (1))), .agg (Dt.mk 1 9).cells] st fun r S=>r=abR (bA4,0)∧S=st:=
  adX hst ((show dQ true (sOl 1) bA3 (0,1) ⟨1,9⟩ (bS (sOl 1) bA3 (0,1))=(bA4,0) from by kernel_rfl)▸oF rO1 (fun _=>rJ gO1 aaR) (0,1) ⟨1,9⟩) (by kernel_rfl)
theorem auU (hst:st idS=some (.arr 52 (rOl 1))):PC Tryz.prog 11 [.agg [.vec idS 6 0 3], .agg (bsC bA3),(PV.val (Value.int .i64 (0))),(PV.val (Value.int .i64 (2))), .agg (Dt.mk 0 0).cells] st fun r S=>r=abR ([],4)∧S=st:=
  adX hst ((show dQ true (sOl 1) bA3 (0,2) ⟨0,0⟩ (bS (sOl 1) bA3 (0,2))=([],4) from by kernel_rfl)▸oF rO1 (fun _=>rJ gO1 aaR) (0,2) ⟨0,0⟩) (by kernel_rfl)
theorem atV (hst:st idS=some (.arr 52 (rOl 0))):PC Tryz.prog 11 [.agg [.vec idS 6 0 3], .agg (bsC bA3),(PV.val (Value.int .i64 (0))),(PV.val (Value.int .i64 (1))), .agg (Dt.mk 0 0).cells] st fun r S=>r=abR ([],10)∧S=st:=
  adX hst ((show dQ true (sOl 0) bA3 (0,1) ⟨0,0⟩ (bS (sOl 0) bA3 (0,1))=([],10) from by kernel_rfl)▸oF rO0 (fun _=>rJ gO0 aaR) (0,1) ⟨0,0⟩) (by kernel_rfl)
end
end Go.Proofs.YtddmbnddgiebgaaGreatDoor
namespace Go.Proofs.YtddmbnddgiebgaaGreatDoor
open Go Go.Abs
attribute [local irreducible] Ev PWp
set_option maxRecDepth 10000
set_option maxHeartbeats 4000000
theorem aeB {l:Ln} (h:∀c∈l.cells_,c.kind=0) (c:Int):iJ l c:=fun j hj _=>h _ (List.getElem_mem hj)
theorem akP {st:aI} {i j:Nat} {a b c x:Option AObj} (h:st i=none) (k:st j=none):StSub st (upd (upd (upd (upd st i a) j b) j c) i x):=fun q=>by
  cases hq:st q with
  |none=>exact .inl rfl
  |some o=>
    right
    have w:∀{i:Nat},st i=none→q≠i:=fun {i} hi e=>by subst e;rw [hi] at hq;cases hq
    rw [aB (w h),aB (w k),aB (w k),aB (w h),hq]
theorem fC :PF Tryz.prog 10 [] (PV.val (Value.bool (true))):=by
  have n1:=rW 1
  have n2:=rW 2
  have n3:=rW 3
  have p2:PF Tryz.prog 23 [.agg (bsC bA1),(PV.val (Value.int .i64 (1))), .agg lA2.cells] (.agg (bsC bA2)):=(show yS bA1 1 lA2=bA2 from by kernel_rfl)▸rR bA1 1 lA2 (by decide) (by decide)
  have p3:PF Tryz.prog 23 [.agg (bsC bA2),(PV.val (Value.int .i64 (2))), .agg lA3.cells] (.agg (bsC bA3)):=(show yS bA2 2 lA3=bA3 from by kernel_rfl)▸rR bA2 2 lA3 (by decide) (by decide)
  have g1:PF Tryz.prog 16 [.agg (bsC bA4),(PV.val (Value.int .i64 (2))),(PV.val (Value.int .i64 (3)))] (.tup [.agg lA4.cells,(PV.val (Value.bool (true)))]):=tG bA4 2 3 (by decide)
  have q1:PF Tryz.prog 26 [.agg lA4.cells,(PV.val (Value.int .i64 (0)))] (.tup [(PV.val (Value.int .i64 (3))),(PV.val (Value.bool (true)))]):=fY lA4 0 (aeB (by decide) 0)
  have q2:PF Tryz.prog 26 [.agg lA4.cells,(PV.val (Value.int .i64 (1)))] (.tup [(PV.val (Value.int .i64 (0))),(PV.val (Value.bool (false)))]):=fY lA4 1 (aeB (by decide) 1)
  have s1:PF Tryz.prog 27 [.agg (bsC bA4),(PV.val (Value.int .i64 (0)))] (.seq (([]:List (List Vl)).map roC)):=sI shA bA4 0 (by decide) (by decide) fun l hl=>by cases hl
  have s2:PF Tryz.prog 27 [.agg (bsC bA4),(PV.val (Value.int .i64 (1)))] (.seq (([]:List (List Vl)).map roC)):=sI shA bA4 1 (by decide) (by decide) fun l hl=>by cases hl
  refine aL aH Tryz.func10 (by kernel_rfl) rfl rfl rfl rfl (fun st=> ?_)
  ((first|apply gon pk 7|apply avD pk 7);exact rfl;(focus repeat' constructor);(focus repeat' (first|exact All.nil|refine All.cons ?_ ?_|(intros;omega))))
  apply avI pk 15
  exact rfl
  repeat constructor
  repeat constructor
  apply atO pk
  exact rfl
  exact rfl
  exact rfl
  exact rfl
  exact rfl
  exact rfl
  exact rfl
  intro idS hidS
  focus ((try (apply wO pk;exact rfl));(repeat' (first|(show All _;constructor)|(show Imp _ _;constructor)|(show ImpX _ _ _ _;constructor)|(apply wC pk;(iterate 2 exact rfl))|(apply wE pk;(iterate 2 exact rfl))|(apply wX pk;exact rfl)|(apply wN pk;exact rfl)|(apply wDx pk;exact rfl;kernel_rfl;exact rfl;exact rfl)|(apply aC;simp only [zqt,zqf])|(refine aD rfl (fun h=> ?_) (fun h=> ?_)<;>(try simp at h)<;>try (exfalso;omega))|((try refine aF ?_);refine ⟨_,_,_,rfl,Wk.refl _,StSub.refl _, ?_⟩)|(apply aK;(iterate 3 exact rfl);(intro _;(first|apply n1|apply n2|apply n3|apply p2|apply p3)<;>first|assumption|omega);rotate_left;(iterate 2 exact rfl))|(apply dG;(iterate 3 exact rfl);(intro _;(first|apply n1|apply n2|apply n3|apply p2|apply p3)<;>first|assumption|omega);rotate_left;(iterate 2 exact rfl))|(apply ncA;(iterate 3 exact rfl);rotate_left;exact rfl;exact rfl)|(apply ldR pk;exact rfl;exact rfl;rotate_left;exact rfl;(focus ((repeat (first|exact aA _ _ _|assumption|refine (aB (by assumption)).trans ?_));done));exact rfl;exact rfl)|(apply stR pk;exact rfl;exact rfl;(focus ((repeat (first|exact aA _ _ _|assumption|refine (aB (by assumption)).trans ?_));done));exact rfl;exact rfl)|(apply bZ;exact rfl;exact rfl;(apply anT<;>first|exact aA _ _ _|assumption|omega|(focus ((repeat (first|exact aA _ _ _|assumption|refine (aB (by assumption)).trans ?_));done)));(iterate 3 exact rfl);intro _ st' hR;obtain ⟨idN,rfl,hidN,rfl⟩:=hR)|(apply bZ;exact rfl;exact rfl;(first|(apply auX<;>first|exact aA _ _ _|assumption|omega|(simp only [zqs];omega)|(focus ((repeat (first|exact aA _ _ _|assumption|refine (aB (by assumption)).trans ?_));done))));(iterate 3 exact rfl);intro _ st' hR;(first|subst hR|obtain ⟨rfl,rfl⟩:=hR))|(intros;(try simp only [zql]);omega))))
  have hneS:idS≠idN:=fun e=>by
    have h:upd st idS (some (.arr 52 (rOl 1))) idN=none:=hidN
    rw [←e,aA] at h;cases h
  have hr1:(rOl 1)[1]?=some [.val (.string ⟨#[98]⟩), .seq [colId.cells,colP2.cells], .val (.slice none 0 0), .val (.slice none 0 0), .seq [[(PV.val (Value.int .i64 (1))),(PV.val (Value.int .i64 (0))),(PV.val (Value.int .i64 (1)))]], .val (.slice none 0 0)]:=rfl
  have hS0:st idS=none:=hidS
  have hN0:st idN=none:=by
    have h:upd st idS (some (.arr 52 (rOl 1))) idN=none:=hidN
    rwa [aB (Ne.symm hneS)] at h
  (try (apply wO pk;exact rfl));(repeat' (first|((refine aF ?_;refine ⟨_,_,st,rfl,Wk.refl _,akP hS0 hN0, ?_,rfl⟩))|(apply wD pk [] [];kernel_rfl;exact rfl;exact rfl)|(show All _;constructor)|(show Imp _ _;constructor)|(show ImpX _ _ _ _;constructor)|(apply wC pk;(iterate 2 exact rfl))|(apply wE pk;(iterate 2 exact rfl))|(apply wX pk;exact rfl)|(apply wN pk;exact rfl)|(apply wDx pk;exact rfl;kernel_rfl;exact rfl;exact rfl)|(apply aC;simp only [zqt,zqf])|(refine aD rfl (fun h=> ?_) (fun h=> ?_)<;>(try simp at h)<;>try (exfalso;omega))|((try refine aF ?_);refine ⟨_,_,_,rfl,Wk.refl _,StSub.refl _, ?_⟩)|(apply aK;(iterate 3 exact rfl);(intro _;(first|apply n1|apply n2|apply n3|apply p2|apply p3|apply g1|apply q1|apply q2|apply s1|apply s2)<;>first|assumption|omega);rotate_left;(iterate 2 exact rfl))|(apply dG;(iterate 3 exact rfl);(intro _;(first|apply n1|apply n2|apply n3|apply p2|apply p3|apply g1|apply q1|apply q2|apply s1|apply s2)<;>first|assumption|omega);rotate_left;(iterate 2 exact rfl))|(apply bC pk;(iterate 6 exact rfl);rotate_left;exact rfl;(intro hw;exact rfl);(intro hw;apply aJ<;>first|omega|(decide));(intro _;exact rfl);exact rfl)|(apply ncA;(iterate 3 exact rfl);rotate_left;exact rfl;exact rfl)|(apply ldR pk;exact rfl;exact rfl;rotate_left;exact rfl;(focus ((repeat (first|exact aA _ _ _|assumption|refine (aB (by assumption)).trans ?_));done));exact rfl;exact rfl)|(apply stR pk;exact rfl;exact rfl;(focus ((repeat (first|exact aA _ _ _|assumption|refine (aB (by assumption)).trans ?_));done));exact rfl;exact rfl)|(apply ixA pk;(iterate 5 exact rfl);rotate_left;exact rfl;(intro hw;(first|exact (show _=((1:Nat):Int) from by omega)|(simp [gw] at hw;first|exact (show _=((1:Nat):Int) from by omega)|(refine (show _=((0:Nat):Int) from ?_);omega))|exact rfl));(intro hw;(first|omega|(focus (simp [gw] at hw;done))|(simp [gw] at hw;omega)|(simp only [zqs];omega)));exact rfl;(first|exact Nat.zero_add _|exact rfl))|(apply ldA pk Vl.elem;exact rfl;exact rfl;rotate_left;exact rfl;(focus ((repeat (first|exact aA _ _ _|assumption|refine (aB (by assumption)).trans ?_));done));(intro hw;(first|omega|(focus (simp [gw] at hw;done))|(simp [gw] at hw;omega)|(simp only [zqs];omega)));exact rfl)|(apply stA pk Vl.elem;(iterate 3 exact rfl);(focus ((repeat (first|exact aA _ _ _|assumption|refine (aB (by assumption)).trans ?_));done));(first|omega|(simp only [zqs];omega));exact rfl)|(apply bZ;exact rfl;exact rfl;(first|(apply avJ<;>first|exact aA _ _ _|assumption|omega|(simp only [zqs];omega)|(focus ((repeat (first|exact aA _ _ _|assumption|refine (aB (by assumption)).trans ?_));done)))|(apply auS<;>first|exact aA _ _ _|assumption|omega|(simp only [zqs];omega)|(focus ((repeat (first|exact aA _ _ _|assumption|refine (aB (by assumption)).trans ?_));done)))|(apply auU<;>first|exact aA _ _ _|assumption|omega|(simp only [zqs];omega)|(focus ((repeat (first|exact aA _ _ _|assumption|refine (aB (by assumption)).trans ?_));done)))|(apply atV<;>first|exact aA _ _ _|assumption|omega|(simp only [zqs];omega)|(focus ((repeat (first|exact aA _ _ _|assumption|refine (aB (by assumption)).trans ?_));done))));(iterate 3 exact rfl);intro _ st' hR;(first|subst hR|obtain ⟨rfl,rfl⟩:=hR))|((apply stX pk;exact rfl;exact rfl;(refine (aB hneS).trans ((aB hneS).trans (aA _ _ _)));exact rfl;exact hr1;exact rfl;exact rfl))|(decide)|(intros;(try simp only [zql]);omega)|((intros;first|(simp;done)|decide))))
  kernel_rfl
end Go.Proofs.YtddmbnddgiebgaaGreatDoor
