import Derived.Test.YtcglimangneafaaGreatDoorCkFewS
set_option linter.unusedSimpArgs false
set_option linter.unusedVariables false
namespace Go.Proofs.YtcglimangneafaaGreatDoor
open Go Go.Abs
attribute [local irreducible] Ev PWp
set_option maxRecDepth 10000
set_option maxHeartbeats 4000000
theorem azA {A B:List (List PV)} (hl:A.length=B.length) (h:∀x∈A.zip B,WkL x.1 x.2):Wk (.seq A) (.seq B):=by
  have:=Wk.rows (f:=Prod.fst) (k:=Prod.snd) (l:=A.zip B) h
  rwa [List.map_fst_zip (by omega),List.map_snd_zip (by omega)] at this
theorem wk1 {a b:List PV} (h:WkL a b):Wk (.seq [a]) (.seq [b]):=azA rfl fun x hx=>by
  rw [List.mem_singleton.1 hx];exact h
theorem wk2 {a b c d:List PV} (h:WkL a b) (k:WkL c d):Wk (.seq [a,c]) (.seq [b,d]):=azA rfl fun x hx=>by
  simp only [List.zip_cons_cons,List.zip_nil_left,List.mem_cons,List.not_mem_nil,or_false] at hx
  rcases hx with rfl|rfl
  · exact h
  · exact k
def awX :PV:= .val (.slice none 0 0)
def aAE (n:Int):X.Ex:= .mk 1 0 ⟨1,n,e0⟩ []
def noE :X.Ex:= .mk 9 0 X.v0 [.mk 5 0 X.v0 [.mk 0 2 X.v0 [],aAE 4]]
def plC :List Co:=[⟨⟨#[105,100]⟩,0,1,false⟩,⟨⟨#[117]⟩,0,1,true⟩,⟨⟨#[110]⟩,0,1,false⟩,⟨⟨#[103]⟩,0,1,true⟩,⟨⟨#[117,112]⟩,0,1,true⟩]
def plT (name:ByteArray):Tb:=⟨name,plC,[1],[noE.cells],[⟨4,0,0⟩],[⟨2,3,10⟩]⟩
def plS :Sc:=[plT ⟨#[97]⟩]
def noR :List PV:=[(PV.val (Value.int .i64 (9))),(PV.val (Value.int .i64 (0))),(PV.val (Value.int .i64 (0))),(PV.val (Value.int .i64 (0))),(PV.val (Value.string (e0))), .seq [[(PV.val (Value.int .i64 (5))),(PV.val (Value.int .i64 (0))),(PV.val (Value.int .i64 (0))),(PV.val (Value.int .i64 (0))),(PV.val (Value.string (e0))), .seq [[(PV.val (Value.int .i64 (0))),(PV.val (Value.int .i64 (2))),(PV.val (Value.int .i64 (0))),(PV.val (Value.int .i64 (0))),(PV.val (Value.string (e0))),awX],[(PV.val (Value.int .i64 (1))),(PV.val (Value.int .i64 (0))),(PV.val (Value.int .i64 (1))),(PV.val (Value.int .i64 (4))),(PV.val (Value.string (e0))),awX]]]]]
theorem ayM :WkL noR noE.cells:=
  .cons (Wk.refl _) (.cons (Wk.refl _) (.cons (Wk.refl _) (.cons (Wk.refl _) (.cons (Wk.refl _) (.cons (wk1 (.cons (Wk.refl _) (.cons (Wk.refl _) (.cons (Wk.refl _) (.cons (Wk.refl _) (.cons (Wk.refl _) (.cons (wk2
    (.cons (Wk.refl _) (.cons (Wk.refl _) (.cons (Wk.refl _) (.cons (Wk.refl _) (.cons (Wk.refl _) (.cons Wk.nil .nil))))))
    (.cons (Wk.refl _) (.cons (Wk.refl _) (.cons (Wk.refl _) (.cons (Wk.refl _) (.cons (Wk.refl _) (.cons Wk.nil .nil))))))) .nil))))))) .nil)))))
def plR :List PV:=[.val (.string ⟨#[97]⟩), .seq (plC.map Co.cells), .seq [[(PV.val (Value.int .i64 (1)))]], .seq [noR], .seq [[(PV.val (Value.int .i64 (4))),(PV.val (Value.int .i64 (0))),(PV.val (Value.int .i64 (0)))]], .seq [[(PV.val (Value.int .i64 (2))),(PV.val (Value.int .i64 (3))),(PV.val (Value.int .i64 (10)))]]]
theorem azR :Wk (.agg [.seq [plR]]) (.agg (scC plS)):=
  Wk.agg (.cons (wk1 (.cons (Wk.refl _) (.cons (Wk.refl _) (.cons (Wk.refl _) (.cons (wk1 ayM) (.cons (Wk.refl _) (.cons (Wk.refl _) .nil))))))) .nil)
theorem agH :PF Tryz.prog 19 [] (.agg (scC plS)):=by
  refine aH aD Tryz.func19 (by kernel_rfl) rfl rfl rfl rfl (fun st=> ?_)
  (try (apply wO pk;exact rfl));(repeat' (first|((refine aB ?_;exact ⟨_,_,_,rfl,azR,StSub.refl _,rfl,rfl⟩))|(show All _;constructor)))
def alY (n:Int):Vl:=if n<0 then Vl.zero else ⟨1,n,e0⟩
theorem iR (n:Int):PF Tryz.prog 57 [(PV.val (Value.int .i64 (n)))] (.agg (alY n).cells):=by
  unfold alY
  by_cases h:n<0
  · rw [if_pos h]
    refine aH aD Tryz.func57 (by kernel_rfl) rfl rfl rfl rfl (fun st=> ?_)
    (try (apply wO pk;exact rfl));(repeat' (first|(show All _;constructor)|(apply wC pk;(iterate 2 exact rfl))|(refine aA rfl (fun h=> ?_) (fun h=> ?_)<;>(try simp at h)<;>try (exfalso;omega))|(refine aB ?_;refine ⟨_,_,_,rfl,Wk.refl _,StSub.refl _, ?_,rfl⟩;try rfl)))
  · rw [if_neg h]
    refine aH aD Tryz.func57 (by kernel_rfl) rfl rfl rfl rfl (fun st=> ?_)
    (try (apply wO pk;exact rfl));(repeat' (first|(show All _;constructor)|(apply wC pk;(iterate 2 exact rfl))|(refine aA rfl (fun h=> ?_) (fun h=> ?_)<;>(try simp at h)<;>try (exfalso;omega))|(refine aB ?_;refine ⟨_,_,_,rfl,Wk.refl _,StSub.refl _, ?_,rfl⟩;try rfl)))
def cV (n:Int):Cl:=⟨0,alY n,[]⟩
def lnC (k u n g up:Int):Ln:=⟨k,[cV k,cV u,cV n,cV g,cV up],[]⟩
def cR (n:Int):List PV:=[(PV.val (Value.int .i64 (0))),(PV.val (Value.int .i64 ((alY n).kind))),(PV.val (Value.int .i64 ((alY n).n))),(PV.val (Value.string ((alY n).s))),awX]
theorem aAB (n:Int):WkL (cR n) (cV n).cells:= .cons (Wk.refl _) (.cons (Wk.refl _) (.cons (Wk.refl _) (.cons (Wk.refl _) (.cons Wk.nil .nil))))
theorem axZ (k u n g up:Int):Wk (.agg [(PV.val (Value.int .i64 (k))), .seq [cR k,cR u,cR n,cR g,cR up],awX]) (.agg (lnC k u n g up).cells):=
  Wk.agg (.cons (Wk.refl _) (.cons (azA rfl fun x hx=>by
    have hx:x∈[(cR k,(cV k).cells),(cR u,(cV u).cells),(cR n,(cV n).cells),(cR g,(cV g).cells),(cR up,(cV up).cells)]:=hx
    simp only [List.mem_cons,List.not_mem_nil,or_false] at hx
    rcases hx with rfl|rfl|rfl|rfl|rfl<;>exact aAB _) (.cons Wk.nil .nil)))
theorem dX (k u n g up:Int):PF Tryz.prog 29 [(PV.val (Value.int .i64 (k))),(PV.val (Value.int .i64 (u))),(PV.val (Value.int .i64 (n))),(PV.val (Value.int .i64 (g))),(PV.val (Value.int .i64 (up)))] (.agg (lnC k u n g up).cells):=by
  have n1:=iR k
  have n2:=iR u
  have n3:=iR n
  have n4:=iR g
  have n5:=iR up
  have hw:=axZ k u n g up
  refine aH aD Tryz.func29 (by kernel_rfl) rfl rfl rfl rfl (fun st=> ?_)
  (try (apply wO pk;exact rfl));(repeat' (first|((refine aB ?_;exact ⟨_,_,_,rfl,hw,StSub.refl _,rfl,rfl⟩))|(show All _;constructor)|(show Imp _ _;constructor)|(apply wE pk;(iterate 2 exact rfl))|(apply aI;(iterate 3 exact rfl);(intro _;first|(apply n1<;>first|assumption|omega)|(apply n2<;>first|assumption|omega)|(apply n3<;>first|assumption|omega)|(apply n4<;>first|assumption|omega)|(apply n5<;>first|assumption|omega));rotate_left;(iterate 2 exact rfl))))
theorem zH (l:List Ln):PF Tryz.prog 28 [.seq (l.map Ln.cells)] (.agg (bsC [⟨l⟩])):=by
  refine aH aD Tryz.func28 (by kernel_rfl) rfl rfl rfl rfl (fun st=> ?_)
  (try (apply wO pk;exact rfl));(repeat' (first|(show All _;constructor)|(refine aB ?_;refine ⟨_,_,_,rfl,Wk.refl _,StSub.refl _, ?_,rfl⟩;try rfl)))
theorem aiK :noE.ok:=by simp [noE,aAE,X.Ex.ok,X.Ex.oks]
theorem awH (name:ByteArray):mB (plT name):=fun c hc=>by
  rw [List.mem_singleton.1 hc]
  exact ⟨noE,aiK,rfl⟩
def exP (r:List Vl):Int:=chE (X.EvalR noE r)
theorem uF {α:Type} (f:α→Int) (x:α):cC f [x]=f x:=by
  rw [sE]
  split
  · rename_i h;rw [h];rfl
  · rfl
theorem ayP (name:ByteArray):exR (plT name)=exP:=by
  funext r
  unfold exR exP
  show cC _ [noE.cells]=_
  rw [uF,akU aiK]
theorem amE (name:ByteArray):rightX (plT name)=0:=by
  unfold rightX
  show cC _ [noE.cells]=_
  rw [uF,akU aiK]
  kernel_rfl
theorem qV :rightC plS=0:=by
  unfold rightC
  rw [if_pos (show cD plS=0 from by kernel_rfl)]
  show cC rightX [plT ⟨#[97]⟩]=0
  rw [uF,amE]
theorem axY {ex ex':Tb→List Vl→Int} {b:Bs} {t:Tb} {rows:List (List Vl)} (h:ex t=ex' t):ckT ex b t rows=ckT ex' b t rows:=by unfold ckT;rw [h]
theorem axB {sh:Cl→Vl} {ex:Tb→List Vl→Int} {t:Tb} {b:Bs}:ckW sh ex [t] b=ckT ex b t (bQ sh b 0):=by
  unfold ckW
  show cC _ [0]=_
  rw [uF];rfl
theorem aAs :ScB plS:=fun t ht=>by
  rw [List.mem_singleton.1 ht]
  exact ⟨by decide,by decide,by decide,by decide,by decide⟩
theorem plB {b:Bs} (h:BsS 100 b):CkB 100 plS b:=⟨aAs,by decide,fun t ht=>by rw [List.mem_singleton.1 ht];decide,fun t ht=>by rw [List.mem_singleton.1 ht];exact awH _,h,by decide⟩
theorem sA {b:Bs} {c:Int} (h:BsS 100 b) (hg:eG T.rightP plS b=true) (hc:ckT (fun _=>exP) b (plT ⟨#[97]⟩) (bQ aZ b 0)=c):PF Tryz.prog 13 [.agg (scC plS), .agg (bsC b)] (PV.val (Value.int .i64 (c))):=by
  have e:whyC plS b=c:=by
    unfold whyC mayC
    rw [qV,hg,if_pos (by decide)]
    show ckW aZ exR [plT ⟨#[97]⟩] b=c
    rw [axB,axY (ex':=fun _=>exP) (ayP _),hc]
  exact e▸adU (plB h)
def bW1 :Bs:=[⟨[lnC 1 1 6 0 2,lnC 2 (-1) 5 1 (-1)]⟩]
def bW2 :Bs:=[⟨[lnC 1 1 6 0 2,lnC 2 (-1) 5 0 (-1)]⟩]
def bW3 :Bs:=[⟨[lnC 1 1 1 0 (-1),lnC 2 1 1 0 (-1)]⟩]
def bW4 :Bs:=[⟨[lnC 1 1 4 0 (-1)]⟩]
def bW5 :Bs:=[⟨[lnC 1 1 1 0 7]⟩]
def bW6 :Bs:=[⟨[lnC 1 1 (-1) 0 (-1)]⟩]
theorem w1 :PF Tryz.prog 13 [.agg (scC plS), .agg (bsC bW1)] (PV.val (Value.int .i64 (0))):=sA (by unfold BsS LnS;decide) (by kernel_rfl) (by kernel_rfl)
theorem w2 :PF Tryz.prog 13 [.agg (scC plS), .agg (bsC bW2)] (PV.val (Value.int .i64 (11))):=sA (by unfold BsS LnS;decide) (by kernel_rfl) (by kernel_rfl)
theorem w3 :PF Tryz.prog 13 [.agg (scC plS), .agg (bsC bW3)] (PV.val (Value.int .i64 (8))):=sA (by unfold BsS LnS;decide) (by kernel_rfl) (by kernel_rfl)
theorem w4 :PF Tryz.prog 13 [.agg (scC plS), .agg (bsC bW4)] (PV.val (Value.int .i64 (9))):=sA (by unfold BsS LnS;decide) (by kernel_rfl) (by kernel_rfl)
theorem w5 :PF Tryz.prog 13 [.agg (scC plS), .agg (bsC bW5)] (PV.val (Value.int .i64 (10))):=sA (by unfold BsS LnS;decide) (by kernel_rfl) (by kernel_rfl)
theorem w6 :PF Tryz.prog 13 [.agg (scC plS), .agg (bsC bW6)] (PV.val (Value.int .i64 (7))):=sA (by unfold BsS LnS;decide) (by kernel_rfl) (by kernel_rfl)
theorem w7 :PF Tryz.prog 15 [.agg (scC plS), .agg (bsC bW2),(PV.val (Value.int .i64 (0))),(PV.val (Value.int .i64 (0))),(PV.val (Value.int .i64 (0)))] (PV.val (Value.int .i64 (11))):=by
  have e:totC plS bW2 0 0 0=11:=by
    unfold totC
    rw [dif_pos ⟨by unfold mayC;rw [qV,show eG T.rightP plS bW2=true from by kernel_rfl];rfl,by decide,by decide⟩]
    kernel_rfl
  exact e▸xL (plB (by unfold BsS LnS;decide)) 0 0 0
theorem w8 :PF Tryz.prog 11 [.agg (scC plS)] (PV.val (Value.int .i64 (0))):=qV▸(plB (b:=bW1) (by unfold BsS LnS;decide)).right
theorem of1 (a:Ln):PF Tryz.prog 28 [.seq [a.cells]] (.agg (bsC [⟨[a]⟩])):=zH [a]
theorem of2 (a c:Ln):PF Tryz.prog 28 [.seq [a.cells,c.cells]] (.agg (bsC [⟨[a,c]⟩])):=zH [a,c]
theorem aaY :PF Tryz.prog 9 [] (PV.val (Value.bool (true))):=by
  have n1:=dX 1 1 6 0 2
  have n2:=dX 2 (-1) 5 1 (-1)
  have n3:=dX 2 (-1) 5 0 (-1)
  have n4:=dX 1 1 1 0 (-1)
  have n5:=dX 2 1 1 0 (-1)
  have n6:=dX 1 1 4 0 (-1)
  have n7:=dX 1 1 1 0 7
  have n8:=dX 1 1 (-1) 0 (-1)
  have o1:PF Tryz.prog 28 [.seq [(lnC 1 1 6 0 2).cells,(lnC 2 (-1) 5 1 (-1)).cells]] (.agg (bsC bW1)):=of2 _ _
  have o2:PF Tryz.prog 28 [.seq [(lnC 1 1 6 0 2).cells,(lnC 2 (-1) 5 0 (-1)).cells]] (.agg (bsC bW2)):=of2 _ _
  have o3:PF Tryz.prog 28 [.seq [(lnC 1 1 1 0 (-1)).cells,(lnC 2 1 1 0 (-1)).cells]] (.agg (bsC bW3)):=of2 _ _
  have o4:PF Tryz.prog 28 [.seq [(lnC 1 1 4 0 (-1)).cells]] (.agg (bsC bW4)):=of1 _
  have o5:PF Tryz.prog 28 [.seq [(lnC 1 1 1 0 7).cells]] (.agg (bsC bW5)):=of1 _
  have o6:PF Tryz.prog 28 [.seq [(lnC 1 1 (-1) 0 (-1)).cells]] (.agg (bsC bW6)):=of1 _
  refine aH aD Tryz.func9 (by kernel_rfl) rfl rfl rfl rfl (fun st=> ?_)
  (try (apply wO pk;exact rfl));(repeat' (first|(show All _;constructor)|(show Imp _ _;constructor)|(show ImpX _ _ _ _;constructor)|(apply wE pk;(iterate 2 exact rfl))|(apply wD pk [] [];kernel_rfl;exact rfl;exact rfl)|(refine aB ?_;refine ⟨_,_,_,rfl,Wk.refl _,StSub.refl _, ?_,rfl⟩;try rfl)|(apply aI;(iterate 3 exact rfl);(intro _;(first|apply agH|apply n1|apply n2|apply n3|apply n4|apply n5|apply n6|apply n7|apply n8|apply o1|apply o2|apply o3|apply o4|apply o5|apply o6|apply w1|apply w2|apply w3|apply w4|apply w5|apply w6|apply w7|apply w8)<;>first|assumption|omega);rotate_left;(iterate 2 exact rfl))))
end Go.Proofs.YtcglimangneafaaGreatDoor
