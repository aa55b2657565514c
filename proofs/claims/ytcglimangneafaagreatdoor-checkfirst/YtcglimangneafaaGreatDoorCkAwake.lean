import Derived.Test.YtcglimangneafaaGreatDoorCkFewS
set_option linter.unusedSimpArgs false
set_option linter.unusedVariables false
namespace Go.Proofs.YtcglimangneafaaGreatDoor
open Go Go.Abs
attribute [local irreducible] Ev PWp
set_option maxRecDepth 10000
set_option maxHeartbeats 4000000
theorem axQ {A B:List (List PV)} (hl:A.length=B.length) (h:∀x∈A.zip B,WkL x.1 x.2):Wk (.seq A) (.seq B):=by
  have:=Wk.rows (f:=Prod.fst) (k:=Prod.snd) (l:=A.zip B) h
  rwa [List.map_fst_zip (by omega),List.map_snd_zip (by omega)] at this
theorem wk1 {a b:List PV} (h:WkL a b):Wk (.seq [a]) (.seq [b]):=axQ rfl fun x hx=>by
  rw [List.mem_singleton.1 hx];exact h
theorem wk2 {a b c d:List PV} (h:WkL a b) (k:WkL c d):Wk (.seq [a,c]) (.seq [b,d]):=axQ rfl fun x hx=>by
  simp only [List.zip_cons_cons,List.zip_nil_left,List.mem_cons,List.not_mem_nil,or_false] at hx
  rcases hx with rfl|rfl
  · exact h
  · exact k
def avC :PV:= .val (.slice none 0 0)
def azM (n:Int):X.Ex:= .mk 1 0 ⟨1,n,e0⟩ []
def noE :X.Ex:= .mk 9 0 X.v0 [.mk 5 0 X.v0 [.mk 0 2 X.v0 [],azM 4]]
def plC :List Co:=[⟨⟨#[105,100]⟩,0,1,false⟩,⟨⟨#[117]⟩,0,1,true⟩,⟨⟨#[110]⟩,0,1,false⟩,⟨⟨#[103]⟩,0,1,true⟩,⟨⟨#[117,112]⟩,0,1,true⟩]
def plT (name:ByteArray):Tb:=⟨name,plC,[1],[noE.cells],[⟨4,0,0⟩],[⟨2,3,10⟩]⟩
def plS :Sc:=[plT ⟨#[97]⟩]
def noR :List PV:=[(PV.val (Value.int .i64 (9))),(PV.val (Value.int .i64 (0))),(PV.val (Value.int .i64 (0))),(PV.val (Value.int .i64 (0))),(PV.val (Value.string (e0))), .seq [[(PV.val (Value.int .i64 (5))),(PV.val (Value.int .i64 (0))),(PV.val (Value.int .i64 (0))),(PV.val (Value.int .i64 (0))),(PV.val (Value.string (e0))), .seq [[(PV.val (Value.int .i64 (0))),(PV.val (Value.int .i64 (2))),(PV.val (Value.int .i64 (0))),(PV.val (Value.int .i64 (0))),(PV.val (Value.string (e0))),avC],[(PV.val (Value.int .i64 (1))),(PV.val (Value.int .i64 (0))),(PV.val (Value.int .i64 (1))),(PV.val (Value.int .i64 (4))),(PV.val (Value.string (e0))),avC]]]]]
theorem axC :WkL noR noE.cells:=
  .cons (Wk.refl _) (.cons (Wk.refl _) (.cons (Wk.refl _) (.cons (Wk.refl _) (.cons (Wk.refl _) (.cons (wk1 (.cons (Wk.refl _) (.cons (Wk.refl _) (.cons (Wk.refl _) (.cons (Wk.refl _) (.cons (Wk.refl _) (.cons (wk2
    (.cons (Wk.refl _) (.cons (Wk.refl _) (.cons (Wk.refl _) (.cons (Wk.refl _) (.cons (Wk.refl _) (.cons Wk.nil .nil))))))
    (.cons (Wk.refl _) (.cons (Wk.refl _) (.cons (Wk.refl _) (.cons (Wk.refl _) (.cons (Wk.refl _) (.cons Wk.nil .nil))))))) .nil))))))) .nil)))))
def plR :List PV:=[.val (.string ⟨#[97]⟩), .seq (plC.map Co.cells), .seq [[(PV.val (Value.int .i64 (1)))]], .seq [noR], .seq [[(PV.val (Value.int .i64 (4))),(PV.val (Value.int .i64 (0))),(PV.val (Value.int .i64 (0)))]], .seq [[(PV.val (Value.int .i64 (2))),(PV.val (Value.int .i64 (3))),(PV.val (Value.int .i64 (10)))]]]
theorem ayE :Wk (.agg [.seq [plR]]) (.agg (scC plS)):=
  Wk.agg (.cons (wk1 (.cons (Wk.refl _) (.cons (Wk.refl _) (.cons (Wk.refl _) (.cons (wk1 axC) (.cons (Wk.refl _) (.cons (Wk.refl _) .nil))))))) .nil)
theorem uD :PF Tryz.prog 19 [] (.agg (scC plS)):=by
  refine aK aG Tryz.func19 (by kernel_rfl) rfl rfl rfl rfl (fun st=> ?_)
  (try (apply wO pk;exact rfl));(repeat' (first|((refine aD ?_;exact ⟨_,_,_,rfl,ayE,StSub.refl _,rfl,rfl⟩))|(show All _;constructor)|(show Imp _ _;constructor)|(show ImpX _ _ _ _;constructor)|(apply wC pk;(iterate 2 exact rfl))|(apply wE pk;(iterate 2 exact rfl))|(apply wX pk;exact rfl)|(apply wN pk;exact rfl)|(apply wDx pk;exact rfl;kernel_rfl;exact rfl;exact rfl)|(apply aB;simp only [zqt,zqf])|(refine aC rfl (fun h=> ?_) (fun h=> ?_)<;>(try simp at h)<;>try (exfalso;omega))|((try refine aD ?_);refine ⟨_,_,_,rfl,Wk.refl _,StSub.refl _, ?_⟩)|(apply ncA;(iterate 3 exact rfl);rotate_left;exact rfl;exact rfl)|(apply ldR pk;exact rfl;exact rfl;rotate_left;exact rfl;(focus ((repeat (first|exact aA _ _ _|assumption|refine (aF (by assumption)).trans ?_));done));exact rfl;exact rfl)|(apply stR pk;exact rfl;exact rfl;(focus ((repeat (first|exact aA _ _ _|assumption|refine (aF (by assumption)).trans ?_));done));exact rfl;exact rfl)|(intros;(try simp only [zql]);omega)))
def vZ (n:Int):Vl:=if n<0 then Vl.zero else ⟨1,n,e0⟩
theorem iU (n:Int):PF Tryz.prog 57 [(PV.val (Value.int .i64 (n)))] (.agg (vZ n).cells):=by
  unfold vZ
  by_cases h:n<0
  · rw [if_pos h]
    refine aK aG Tryz.func57 (by kernel_rfl) rfl rfl rfl rfl (fun st=> ?_)
    (try (apply wO pk;exact rfl));(repeat' (first|((exfalso;omega))|(show All _;constructor)|(show Imp _ _;constructor)|(show ImpX _ _ _ _;constructor)|(apply wC pk;(iterate 2 exact rfl))|(apply wE pk;(iterate 2 exact rfl))|(apply wX pk;exact rfl)|(apply wN pk;exact rfl)|(apply wD pk [] [];kernel_rfl;exact rfl;exact rfl)|(apply aB;simp only [zqt,zqf])|(refine aC rfl (fun h=> ?_) (fun h=> ?_)<;>(try simp at h)<;>try (exfalso;omega))|(refine aD ?_;refine ⟨_,_,_,rfl,Wk.refl _,StSub.refl _, ?_,rfl⟩;try rfl)|(intros;(try simp only [zql]);omega)))
  · rw [if_neg h]
    refine aK aG Tryz.func57 (by kernel_rfl) rfl rfl rfl rfl (fun st=> ?_)
    (try (apply wO pk;exact rfl));(repeat' (first|((exfalso;omega))|(show All _;constructor)|(show Imp _ _;constructor)|(show ImpX _ _ _ _;constructor)|(apply wC pk;(iterate 2 exact rfl))|(apply wE pk;(iterate 2 exact rfl))|(apply wX pk;exact rfl)|(apply wN pk;exact rfl)|(apply wD pk [] [];kernel_rfl;exact rfl;exact rfl)|(apply aB;simp only [zqt,zqf])|(refine aC rfl (fun h=> ?_) (fun h=> ?_)<;>(try simp at h)<;>try (exfalso;omega))|(refine aD ?_;refine ⟨_,_,_,rfl,Wk.refl _,StSub.refl _, ?_,rfl⟩;try rfl)|(intros;(try simp only [zql]);omega)))
def cV (n:Int):Cl:=⟨0,vZ n,[]⟩
def lnC (k u n g up:Int):Ln:=⟨k,[cV k,cV u,cV n,cV g,cV up],[]⟩
def cR (n:Int):List PV:=[(PV.val (Value.int .i64 (0))),(PV.val (Value.int .i64 ((vZ n).kind))),(PV.val (Value.int .i64 ((vZ n).n))),(PV.val (Value.string ((vZ n).s))),avC]
theorem azK (n:Int):WkL (cR n) (cV n).cells:= .cons (Wk.refl _) (.cons (Wk.refl _) (.cons (Wk.refl _) (.cons (Wk.refl _) (.cons Wk.nil .nil))))
theorem awL (k u n g up:Int):Wk (.agg [(PV.val (Value.int .i64 (k))), .seq [cR k,cR u,cR n,cR g,cR up],avC]) (.agg (lnC k u n g up).cells):=
  Wk.agg (.cons (Wk.refl _) (.cons (axQ rfl fun x hx=>by
    have hx:x∈[(cR k,(cV k).cells),(cR u,(cV u).cells),(cR n,(cV n).cells),(cR g,(cV g).cells),(cR up,(cV up).cells)]:=hx
    simp only [List.mem_cons,List.not_mem_nil,or_false] at hx
    rcases hx with rfl|rfl|rfl|rfl|rfl<;>exact azK _) (.cons Wk.nil .nil)))
theorem dJ (k u n g up:Int):PF Tryz.prog 29 [(PV.val (Value.int .i64 (k))),(PV.val (Value.int .i64 (u))),(PV.val (Value.int .i64 (n))),(PV.val (Value.int .i64 (g))),(PV.val (Value.int .i64 (up)))] (.agg (lnC k u n g up).cells):=by
  have n1:=iU k
  have n2:=iU u
  have n3:=iU n
  have n4:=iU g
  have n5:=iU up
  have hw:=awL k u n g up
  refine aK aG Tryz.func29 (by kernel_rfl) rfl rfl rfl rfl (fun st=> ?_)
  (try (apply wO pk;exact rfl));(repeat' (first|((refine aD ?_;exact ⟨_,_,_,rfl,hw,StSub.refl _,rfl,rfl⟩))|(show All _;constructor)|(show Imp _ _;constructor)|(show ImpX _ _ _ _;constructor)|(apply wC pk;(iterate 2 exact rfl))|(apply wE pk;(iterate 2 exact rfl))|(apply wX pk;exact rfl)|(apply wN pk;exact rfl)|(apply wDx pk;exact rfl;kernel_rfl;exact rfl;exact rfl)|(apply aB;simp only [zqt,zqf])|(refine aC rfl (fun h=> ?_) (fun h=> ?_)<;>(try simp at h)<;>try (exfalso;omega))|((try refine aD ?_);refine ⟨_,_,_,rfl,Wk.refl _,StSub.refl _, ?_⟩)|(apply aL;(iterate 3 exact rfl);(intro _;first|(apply n1<;>first|assumption|omega)|(apply n2<;>first|assumption|omega)|(apply n3<;>first|assumption|omega)|(apply n4<;>first|assumption|omega)|(apply n5<;>first|assumption|omega));rotate_left;(iterate 2 exact rfl))|(apply eE;(iterate 3 exact rfl);(intro _;first|(apply n1<;>first|assumption|omega)|(apply n2<;>first|assumption|omega)|(apply n3<;>first|assumption|omega)|(apply n4<;>first|assumption|omega)|(apply n5<;>first|assumption|omega));rotate_left;(iterate 2 exact rfl))|(apply ncA;(iterate 3 exact rfl);rotate_left;exact rfl;exact rfl)|(apply ldR pk;exact rfl;exact rfl;rotate_left;exact rfl;(focus ((repeat (first|exact aA _ _ _|assumption|refine (aF (by assumption)).trans ?_));done));exact rfl;exact rfl)|(apply stR pk;exact rfl;exact rfl;(focus ((repeat (first|exact aA _ _ _|assumption|refine (aF (by assumption)).trans ?_));done));exact rfl;exact rfl)|(intros;(try simp only [zql]);omega)))
theorem rP (l:List Ln):PF Tryz.prog 28 [.seq (l.map Ln.cells)] (.agg (bsC [⟨l⟩])):=by
  refine aK aG Tryz.func28 (by kernel_rfl) rfl rfl rfl rfl (fun st=> ?_)
  (try (apply wO pk;exact rfl));(repeat' (first|(show All _;constructor)|(show Imp _ _;constructor)|(show ImpX _ _ _ _;constructor)|(apply wC pk;(iterate 2 exact rfl))|(apply wE pk;(iterate 2 exact rfl))|(apply wX pk;exact rfl)|(apply wN pk;exact rfl)|(apply wD pk [] [];kernel_rfl;exact rfl;exact rfl)|(apply aB;simp only [zqt,zqf])|(refine aC rfl (fun h=> ?_) (fun h=> ?_)<;>(try simp at h)<;>try (exfalso;omega))|(refine aD ?_;refine ⟨_,_,_,rfl,Wk.refl _,StSub.refl _, ?_,rfl⟩;try rfl)|(intros;(try simp only [zql]);omega)))
theorem agO :noE.ok:=by simp [noE,azM,X.Ex.ok,X.Ex.oks]
theorem aiX (name:ByteArray):pS (plT name):=fun c hc=>by
  rw [List.mem_singleton.1 hc]
  exact ⟨noE,agO,rfl⟩
def exP (r:List Vl):Int:=chE (X.EvalR noE r)
theorem pY {α:Type} (f:α→Int) (x:α):dD f [x]=f x:=by
  rw [iK]
  split
  · rename_i h;rw [h];rfl
  · rfl
theorem axE (name:ByteArray):exR (plT name)=exP:=by
  funext r
  unfold exR exP
  show dD _ [noE.cells]=_
  rw [pY,ajD agO]
theorem rB (name:ByteArray):rightX (plT name)=0:=by
  unfold rightX
  show dD _ [noE.cells]=_
  rw [pY,ajD agO]
  kernel_rfl
theorem jZ :rightC plS=0:=by
  unfold rightC
  rw [if_pos (show cC plS=0 from by kernel_rfl)]
  show dD rightX [plT ⟨#[97]⟩]=0
  rw [pY,rB]
theorem awJ {ex ex':Tb→List Vl→Int} {b:Bs} {t:Tb} {rows:List (List Vl)} (h:ex t=ex' t):ckT ex b t rows=ckT ex' b t rows:=by unfold ckT;rw [h]
theorem avH {sh:Cl→Vl} {ex:Tb→List Vl→Int} {t:Tb} {b:Bs}:ckW sh ex [t] b=ckT ex b t (bJ sh b 0):=by
  unfold ckW
  show dD _ [0]=_
  rw [pY];rfl
theorem azE :ScB plS:=fun t ht=>by
  rw [List.mem_singleton.1 ht]
  exact ⟨by decide,by decide,by decide,by decide,by decide⟩
theorem plB {b:Bs} (h:BsS 100 b):CkB 100 plS b:=⟨azE,by decide,fun t ht=>by rw [List.mem_singleton.1 ht];decide,fun t ht=>by rw [List.mem_singleton.1 ht];exact aiX _,h,by decide⟩
theorem rZ {b:Bs} {c:Int} (h:BsS 100 b) (hg:cY T.rightP plS b=true) (hc:ckT (fun _=>exP) b (plT ⟨#[97]⟩) (bJ bB b 0)=c):PF Tryz.prog 13 [.agg (scC plS), .agg (bsC b)] (PV.val (Value.int .i64 (c))):=by
  have e:whyC plS b=c:=by
    unfold whyC mayC
    rw [jZ,hg,if_pos (by decide)]
    show ckW bB exR [plT ⟨#[97]⟩] b=c
    rw [avH,awJ (ex':=fun _=>exP) (axE _),hc]
  exact e▸gQ (plB h)
def bW1 :Bs:=[⟨[lnC 1 1 6 0 2,lnC 2 (-1) 5 1 (-1)]⟩]
def bW2 :Bs:=[⟨[lnC 1 1 6 0 2,lnC 2 (-1) 5 0 (-1)]⟩]
def bW3 :Bs:=[⟨[lnC 1 1 1 0 (-1),lnC 2 1 1 0 (-1)]⟩]
def bW4 :Bs:=[⟨[lnC 1 1 4 0 (-1)]⟩]
def bW5 :Bs:=[⟨[lnC 1 1 1 0 7]⟩]
def bW6 :Bs:=[⟨[lnC 1 1 (-1) 0 (-1)]⟩]
theorem w1 :PF Tryz.prog 13 [.agg (scC plS), .agg (bsC bW1)] (PV.val (Value.int .i64 (0))):=rZ (by unfold BsS LnS;decide) (by kernel_rfl) (by kernel_rfl)
theorem w2 :PF Tryz.prog 13 [.agg (scC plS), .agg (bsC bW2)] (PV.val (Value.int .i64 (11))):=rZ (by unfold BsS LnS;decide) (by kernel_rfl) (by kernel_rfl)
theorem w3 :PF Tryz.prog 13 [.agg (scC plS), .agg (bsC bW3)] (PV.val (Value.int .i64 (8))):=rZ (by unfold BsS LnS;decide) (by kernel_rfl) (by kernel_rfl)
theorem w4 :PF Tryz.prog 13 [.agg (scC plS), .agg (bsC bW4)] (PV.val (Value.int .i64 (9))):=rZ (by unfold BsS LnS;decide) (by kernel_rfl) (by kernel_rfl)
theorem w5 :PF Tryz.prog 13 [.agg (scC plS), .agg (bsC bW5)] (PV.val (Value.int .i64 (10))):=rZ (by unfold BsS LnS;decide) (by kernel_rfl) (by kernel_rfl)
theorem w6 :PF Tryz.prog 13 [.agg (scC plS), .agg (bsC bW6)] (PV.val (Value.int .i64 (7))):=rZ (by unfold BsS LnS;decide) (by kernel_rfl) (by kernel_rfl)
theorem w7 :PF Tryz.prog 15 [.agg (scC plS), .agg (bsC bW2),(PV.val (Value.int .i64 (0))),(PV.val (Value.int .i64 (0))),(PV.val (Value.int .i64 (0)))] (PV.val (Value.int .i64 (11))):=by
  have e:totC plS bW2 0 0 0=11:=by
    unfold totC
    rw [dif_pos ⟨by unfold mayC;rw [jZ,show cY T.rightP plS bW2=true from by kernel_rfl];rfl,by decide,by decide⟩]
    kernel_rfl
  exact e▸pG (plB (by unfold BsS LnS;decide)) 0 0 0
theorem w8 :PF Tryz.prog 11 [.agg (scC plS)] (PV.val (Value.int .i64 (0))):=jZ▸(plB (b:=bW1) (by unfold BsS LnS;decide)).right
theorem of1 (a:Ln):PF Tryz.prog 28 [.seq [a.cells]] (.agg (bsC [⟨[a]⟩])):=rP [a]
theorem of2 (a c:Ln):PF Tryz.prog 28 [.seq [a.cells,c.cells]] (.agg (bsC [⟨[a,c]⟩])):=rP [a,c]
theorem eR :PF Tryz.prog 9 [] (PV.val (Value.bool (true))):=by
  have n1:=dJ 1 1 6 0 2
  have n2:=dJ 2 (-1) 5 1 (-1)
  have n3:=dJ 2 (-1) 5 0 (-1)
  have n4:=dJ 1 1 1 0 (-1)
  have n5:=dJ 2 1 1 0 (-1)
  have n6:=dJ 1 1 4 0 (-1)
  have n7:=dJ 1 1 1 0 7
  have n8:=dJ 1 1 (-1) 0 (-1)
  have o1:PF Tryz.prog 28 [.seq [(lnC 1 1 6 0 2).cells,(lnC 2 (-1) 5 1 (-1)).cells]] (.agg (bsC bW1)):=of2 _ _
  have o2:PF Tryz.prog 28 [.seq [(lnC 1 1 6 0 2).cells,(lnC 2 (-1) 5 0 (-1)).cells]] (.agg (bsC bW2)):=of2 _ _
  have o3:PF Tryz.prog 28 [.seq [(lnC 1 1 1 0 (-1)).cells,(lnC 2 1 1 0 (-1)).cells]] (.agg (bsC bW3)):=of2 _ _
  have o4:PF Tryz.prog 28 [.seq [(lnC 1 1 4 0 (-1)).cells]] (.agg (bsC bW4)):=of1 _
  have o5:PF Tryz.prog 28 [.seq [(lnC 1 1 1 0 7).cells]] (.agg (bsC bW5)):=of1 _
  have o6:PF Tryz.prog 28 [.seq [(lnC 1 1 (-1) 0 (-1)).cells]] (.agg (bsC bW6)):=of1 _
  refine aK aG Tryz.func9 (by kernel_rfl) rfl rfl rfl rfl (fun st=> ?_)
  (try (apply wO pk;exact rfl));(repeat' (first|(show All _;constructor)|(show Imp _ _;constructor)|(show ImpX _ _ _ _;constructor)|(apply wC pk;(iterate 2 exact rfl))|(apply wE pk;(iterate 2 exact rfl))|(apply wX pk;exact rfl)|(apply wN pk;exact rfl)|(apply wD pk [] [];kernel_rfl;exact rfl;exact rfl)|(apply aB;simp only [zqt,zqf])|(refine aC rfl (fun h=> ?_) (fun h=> ?_)<;>(try simp at h)<;>try (exfalso;omega))|(refine aD ?_;refine ⟨_,_,_,rfl,Wk.refl _,StSub.refl _, ?_,rfl⟩;try rfl)|(apply aL;(iterate 3 exact rfl);(intro _;(first|apply uD|apply n1|apply n2|apply n3|apply n4|apply n5|apply n6|apply n7|apply n8|apply o1|apply o2|apply o3|apply o4|apply o5|apply o6|apply w1|apply w2|apply w3|apply w4|apply w5|apply w6|apply w7|apply w8)<;>first|assumption|omega);rotate_left;(iterate 2 exact rfl))|(intros;(try simp only [zql]);omega)))
end Go.Proofs.YtcglimangneafaaGreatDoor
