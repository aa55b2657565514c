import Derived.Test.YtcglimangneafaaGreatDoorBsFn
import Derived.Test.YtcglimangneafaaGreatDoorBsLay
import Derived.Test.YtcglimangneafaaGreatDoorAbsE
set_option linter.unusedSimpArgs false
set_option linter.unusedVariables false
namespace Go.Proofs.YtcglimangneafaaGreatDoor.T
open Go Go.Abs
structure Sp where
  time:Int
  dev:Int
  seq:Int
  deriving DecidableEq,Inhabited
def Sp.cells (a:Sp):List PV:=[.val (.int .i64 (a.time)), .val (.int .i64 (a.dev)), .val (.int .i64 (a.seq))]
def Sp.zero :Sp:=⟨0,0,0⟩
theorem Sp.ext_iff (a b:Sp):a=b↔a.time=b.time∧a.dev=b.dev∧a.seq=b.seq:=by cases a;cases b;simp
theorem Sp.eta (a:Sp):Sp.mk a.time a.dev a.seq=a:=rfl
theorem Sp.eqb (a b:Sp):(decide (a.time=b.time)&&(decide (a.dev=b.dev)&&(decide (a.seq=b.seq))))=decide (a=b):=by rw [Bool.eq_iff_iff];simp [Sp.ext_iff]
theorem Sp.eqz (a:Sp):(decide (a.time=0)&&(decide (a.dev=0)&&(decide (a.seq=0))))=decide (a=Sp.zero):=by rw [Bool.eq_iff_iff];simp [Sp.ext_iff,Sp.zero]
theorem Sp.elem :Elem tt 237 Sp.cells (fun a=> .agg a.cells) 3:=⟨rfl,fun _=>rfl,fun _=>rfl,fun _=>rfl,fun _=>rfl⟩
structure Nm where
  dot:Dt
  at_:Int
  deriving DecidableEq,Inhabited
def Nm.cells (a:Nm):List PV:=[.val (.int .i64 (a.dot.dev)), .val (.int .i64 (a.dot.seq)), .val (.int .i64 (a.at_))]
def Nm.zero :Nm:=⟨Dt.zero,0⟩
theorem Nm.ext_iff (a b:Nm):a=b↔a.dot=b.dot∧a.at_=b.at_:=by cases a;cases b;simp
theorem Nm.eta (a:Nm):Nm.mk a.dot a.at_=a:=rfl
theorem Nm.eqb (a b:Nm):(decide (a.dot=b.dot)&&(decide (a.at_=b.at_)))=decide (a=b):=by rw [Bool.eq_iff_iff];simp [Nm.ext_iff]
theorem Nm.eqz (a:Nm):(decide (a.dot=Dt.zero)&&(decide (a.at_=0)))=decide (a=Nm.zero):=by rw [Bool.eq_iff_iff];simp [Nm.ext_iff,Nm.zero]
theorem Nm.elem :Elem tt 223 Nm.cells (fun a=> .agg a.cells) 3:=⟨rfl,fun _=>rfl,fun _=>rfl,fun _=>rfl,fun _=>rfl⟩
end Go.Proofs.YtcglimangneafaaGreatDoor.T
namespace Go.Proofs.YtcglimangneafaaGreatDoor.T
open Go Go.Abs
attribute [local irreducible] Ev PWp
set_option maxRecDepth 10000
def aO (p:Pt):Nm:=⟨p.dot,p.at_⟩
def aN (p:Pt):Nm:=⟨p.after,p.afterAt⟩
def bC (p:Pt):Sp:=⟨p.time,p.dot.dev,p.dot.seq⟩
def eR (n a b:Int):Bool:=decide (n≥a)&&decide (n≤b)
def vP (n:Nm):Bool:=(eR n.dot.dev 1 64&&eR n.dot.seq 1 1048576)&&eR n.at_ 0 1999
def bR (p:Pt):Bool:=((((decide (p.val.kind=1)&&decide (p.val.s=e0))&&eR p.val.n 0 255)&&eR p.time 1 1125899906842624)&&vP (aO p))&&(decide (aN p=Nm.zero)||vP (aN p))
def iT (a b:Sp):Bool:=if a.time≠b.time then decide (a.time<b.time) else if a.dev≠b.dev then decide (a.dev<b.dev) else decide (a.seq<b.seq)
def dG (p q:Pt):Bool:=iT (bC p) (bC q)||(decide (bC p=bC q)&&decide (p.at_<q.at_))
theorem uA (p:Pt):PF Tryz.prog 219 [.agg p.cells] (.agg (aO p).cells):=by
  refine aH aD Tryz.func219 (by kernel_rfl) rfl rfl rfl rfl (fun st=> ?_)
  (try (apply wO pk;exact rfl));(repeat' (first|(show All _;constructor)|(refine aB ?_;refine ⟨_,_,_,rfl,Wk.refl _,StSub.refl _, ?_,rfl⟩;try rfl)))
theorem mM (p:Pt):PF Tryz.prog 221 [.agg p.cells] (.agg (aN p).cells):=by
  refine aH aD Tryz.func221 (by kernel_rfl) rfl rfl rfl rfl (fun st=> ?_)
  (try (apply wO pk;exact rfl));(repeat' (first|(show All _;constructor)|(refine aB ?_;refine ⟨_,_,_,rfl,Wk.refl _,StSub.refl _, ?_,rfl⟩;try rfl)))
theorem lD (p:Pt):PF Tryz.prog 249 [.agg p.cells] (.agg (bC p).cells):=by
  refine aH aD Tryz.func249 (by kernel_rfl) rfl rfl rfl rfl (fun st=> ?_)
  (try (apply wO pk;exact rfl));(repeat' (first|(show All _;constructor)|(refine aB ?_;refine ⟨_,_,_,rfl,Wk.refl _,StSub.refl _, ?_,rfl⟩;try rfl)))
theorem tF (n a b:Int):PF Tryz.prog 247 [(PV.val (Value.int .i64 (n))),(PV.val (Value.int .i64 (a))),(PV.val (Value.int .i64 (b)))] (PV.val (Value.bool (eR n a b))):=by
  refine aH aD Tryz.func247 (by kernel_rfl) rfl rfl rfl rfl (fun st=> ?_)
  (try (apply wO pk;exact rfl));(repeat' (first|(show All _;constructor)|(show Imp _ _;constructor)|(show ImpX _ _ _ _;constructor)|(refine aB ?_;refine ⟨_,_,_,rfl,Wk.refl _,StSub.refl _, ?_,rfl⟩;try rfl)))
theorem gW (n:Nm):PF Tryz.prog 248 [.agg n.cells] (PV.val (Value.bool (vP n))):=by
  refine aH aD Tryz.func248 (by kernel_rfl) rfl rfl rfl rfl (fun st=> ?_)
  (try (apply wO pk;exact rfl));(repeat' (first|(show All _;constructor)|(show Imp _ _;constructor)|(show ImpX _ _ _ _;constructor)|(apply wE pk;(iterate 2 exact rfl))|(refine aB ?_;refine ⟨_,_,_,rfl,Wk.refl _,StSub.refl _, ?_,rfl⟩;try rfl)|(apply aI;(iterate 3 exact rfl);(intro _;apply tF<;>first|assumption|omega);rotate_left;(iterate 2 exact rfl))))
theorem jL (p:Pt):PF Tryz.prog 220 [.agg p.cells] (PV.val (Value.bool (bR p))):=by
  refine aH aD Tryz.func220 (by kernel_rfl) rfl rfl rfl rfl (fun st=> ?_)
  (try (apply wO pk;exact rfl));(repeat' (first|(show All _;constructor)|(show Imp _ _;constructor)|(show ImpX _ _ _ _;constructor)|(apply wE pk;(iterate 2 exact rfl))|(refine aB ?_;refine ⟨_,_,_,rfl,Wk.refl _,StSub.refl _, ?_,rfl⟩;try first|rfl|(simp only [bR,Dt.eqz,Nm.eqz];done))|(apply aI;(iterate 3 exact rfl);(intro _;(first|apply tF|apply (uA p)|apply (mM p)|apply (gW (aO p))|apply (gW (aN p)))<;>first|assumption|omega);rotate_left;(iterate 2 exact rfl))))
def aAO (a:Sp):List PV:=[(PV.val (Value.int .i64 (a.time))),(PV.val (Value.int .i64 (a.dev))),(PV.val (Value.int .i64 (a.seq)))]
theorem aeY (a:Sp):PF Tryz.prog 286 [.agg a.cells] (.agg (aAO a)):=by
  refine aH aD Tryz.func286 (by kernel_rfl) rfl rfl rfl rfl (fun st=> ?_)
  (try (apply wO pk;exact rfl));(repeat' (first|(show All _;constructor)|(refine aB ?_;refine ⟨_,_,_,rfl,Wk.refl _,StSub.refl _, ?_,rfl⟩;try rfl)))
def abG :List Int→List Int→Int
  |[],[]=>0
  |[],_::_=> -1
  |_::_,[]=>1
  |a::l,b::m=>if iB a b=0 then abG l m else iB a b
theorem zT {l m:List Int} {i:Nat} (h:i<l.length) (h2:i<m.length):abG (l.drop i) (m.drop i)=if iB l[i] m[i]=0 then abG (l.drop (i+1)) (m.drop (i+1)) else iB l[i] m[i]:=by
  rw [List.drop_eq_getElem_cons h,List.drop_eq_getElem_cons h2,abG]
theorem aaF (l m:List Int) (hl:l.length<4611686018427387904):PF Tryz.prog 287 [.seq (l.map I1), .seq (m.map I1)] (PV.val (Value.int .i64 (abG l m))):=by
  refine aH aD Tryz.func287 (by kernel_rfl) rfl rfl rfl rfl (fun st=> ?_)
  (try (apply wO pk;exact rfl));(repeat' ((show All _;constructor)))
  refine aJ (X:={x:Nat//x≤l.length∧x≤m.length∧abG (l.drop x) (m.drop x)=abG l m}) (fun i=>((((((St.nil 36 st).pv 0 (.seq (l.map I1))).pv 1 (.seq (m.map I1))).pv 9 (.seq (l.map I1))).pv 10 ((PV.val (Value.int .i64 ((((l.map I1)).length:Nat)))))).pv 11 ((PV.val (Value.int .i64 ((i.1:Nat))))))) (fun i=>l.length-i.1) ⟨0,by omega,by omega,by simp⟩ ?_ (fun i=> ?_)
  · ((repeat (refine Sub.pv ?_ rfl));exact Sub.nil _ _ _ (StSub.refl _) rfl)
  obtain ⟨i,h1,h2,hinv⟩:=i
  dsimp only
  (try (apply wO pk;exact rfl));(repeat' (first|(show All _;constructor)|(show Imp _ _;constructor)|(apply wC pk;(iterate 2 exact rfl))|(apply wE pk;(iterate 2 exact rfl))|(refine aA rfl (fun h=> ?_) (fun h=> ?_)<;>(try simp at h)<;>try (exfalso;omega))|(refine aB ?_;refine ⟨_,_,_,rfl,Wk.refl _,StSub.refl _, ?_,rfl⟩;try first|rfl|((rw [←hinv];(first|(rw [zT (by omega) (by omega),if_neg (by assumption)];done)|(rw [List.drop_eq_nil_of_le (show l.length≤i by omega),List.drop_eq_getElem_cons (show i<m.length by omega)];rfl)|(rw [List.drop_eq_nil_of_le (show l.length≤i by omega),List.drop_eq_nil_of_le (show m.length≤i by omega)];rfl)|(rw [List.drop_eq_nil_of_le (show m.length≤i by omega),List.drop_eq_getElem_cons (show i<l.length by omega)];rfl)));done))|(apply aI;(iterate 3 exact rfl);(intro _;apply (hZ _ _)<;>first|assumption|omega);rotate_left;(iterate 2 exact rfl))|(apply aM pk;(iterate 6 exact rfl);rotate_left;exact rfl;(intro hw;exact rfl);(intro hw;apply aF<;>omega);(intro _;exact rfl);exact rfl)|(refine ⟨⟨i+1,by omega,by omega,by rw [←hinv,zT (i:=i) (by omega) (by omega),if_pos (by assumption)]⟩, ?_,by simp only;omega⟩;((repeat (refine Sub.pv ?_ rfl));exact Sub.nil _ _ _ (StSub.refl _) rfl))|(intros;(try simp only [zql]);omega)))
def auI (a b:Sp):Int:=if a=b then 0 else abG [a.time,a.dev,a.seq] [b.time,b.dev,b.seq]
theorem amD (a b:Sp):PF Tryz.prog 271 [.agg a.cells, .agg b.cells] (PV.val (Value.int .i64 (auI a b))):=by
  refine aH aD Tryz.func271 (by kernel_rfl) rfl rfl rfl rfl (fun st=> ?_)
  (try (apply wO pk;exact rfl));(repeat' (first|(apply axT 5;(iterate 3 exact rfl))|(apply axT 6;(iterate 3 exact rfl))|(show All _;constructor)|(show Imp _ _;constructor)|(apply wC pk;(iterate 2 exact rfl))|(apply wE pk;(iterate 2 exact rfl))|(apply wD pk [] [];kernel_rfl;exact rfl;exact rfl)|(refine aA rfl (fun h=> ?_) (fun h=> ?_)<;>(try simp at h)<;>try (exfalso;omega))|(refine aB ?_;refine ⟨_,_,_,rfl,Wk.refl _,StSub.refl _, ?_,rfl⟩;try first|rfl|((simp_all [auI,Sp.ext_iff];done);done))|(apply aI;(iterate 3 exact rfl);(intro _;(first|apply (aeY a)|apply (aeY b)|apply (aaF [a.time,a.dev,a.seq] [b.time,b.dev,b.seq] (show 3<4611686018427387904 from by omega)))<;>first|assumption|omega);rotate_left;(iterate 2 exact rfl))|(apply slA pk (rows:=[a.time,a.dev,a.seq].map I1);(iterate 7 exact rfl);rotate_left;exact rfl;exact rfl)|(apply slA pk (rows:=[b.time,b.dev,b.seq].map I1);(iterate 7 exact rfl);rotate_left;exact rfl;exact rfl)))
theorem aaC (a b:Int):iB a b<0↔a<b:=by unfold iB;split<;>(try split)<;>omega
theorem avQ (a b:Int):iB a b=0↔a=b:=by unfold iB;split<;>(try split)<;>omega
theorem anV (a b:Sp):decide (auI a b<0)=iT a b:=by
  unfold auI iT
  by_cases h:a=b
  · subst h;simp
  · rw [if_neg h]
    simp only [abG,avQ]
    by_cases h1:a.time=b.time
    · by_cases h2:a.dev=b.dev
      · have h3:¬a.seq=b.seq:=fun e=>h ((Sp.ext_iff _ _).2 ⟨h1,h2,e⟩)
        simp [h1,h2,h3,aaC]
      · simp [h1,h2,aaC]
    · simp [h1,aaC]
theorem nI (a b:Sp):PF Tryz.prog 250 [.agg a.cells, .agg b.cells] (PV.val (Value.bool (iT a b))):=by
  rw [←anV]
  refine aH aD Tryz.func250 (by kernel_rfl) rfl rfl rfl rfl (fun st=> ?_)
  (try (apply wO pk;exact rfl));(repeat' (first|(show All _;constructor)|(show Imp _ _;constructor)|(apply wE pk;(iterate 2 exact rfl))|(refine aB ?_;refine ⟨_,_,_,rfl,Wk.refl _,StSub.refl _, ?_,rfl⟩;try rfl)|(apply aI;(iterate 3 exact rfl);(intro _;apply (amD a b)<;>first|assumption|omega);rotate_left;(iterate 2 exact rfl))))
end Go.Proofs.YtcglimangneafaaGreatDoor.T
namespace Go.Proofs.YtcglimangneafaaGreatDoor.T
open Go Go.Abs
attribute [local irreducible] Ev PWp
set_option maxRecDepth 10000
set_option maxHeartbeats 1000000
theorem aAf {f:FuncId} {args:List PV} {st:aL} {R R':PV→aL→Prop} (h:PC Tryz.prog f args st R) (hr:∀p st',R p st'→∃q,Wk p q∧R' q st'):PC Tryz.prog f args st R':=
  ⟨h.1,fun w g vs hm hv=>(h.2 w g vs hm hv).mono fun e w' ⟨v,r,st',g',h1,h2,h3,h4⟩=>by
    obtain ⟨q,k1,k2⟩:=hr _ _ h2
    exact ⟨v,q,st',g',h1,k2,k1 _ _ h3,h4⟩⟩
theorem Wk.und (p:PV):Wk p .und:=fun _ _ _=>by simp [Rep]
def Nm.vals (k:Nm):List Value:=[.int .i64 k.dot.dev, .int .i64 k.dot.seq, .int .i64 k.at_]
def axL (k:Dt):List Value:=[.int .i64 k.dev, .int .i64 k.seq]
def Nm.enc (k:Nm):Value:= .agg k.vals.toArray
def ajY (k:Dt):Value:= .agg (axL k).toArray
theorem Nm.key :KeyOK Tryz.prog 223 Nm.enc (fun k=> .agg k.cells):=
  qL aD Nm.vals rfl rfl (fun _=>rfl) (fun a b=>by show some ((decide (a.dot.dev=b.dot.dev)&&decide (a.dot.seq=b.dot.seq))&&decide (a.at_=b.at_))=_;rw [Dt.eqb,Nm.eqb]) (fun _=>rfl) (by kernel_rfl)
theorem axI :KeyOK Tryz.prog 138 ajY (fun k=> .agg k.cells):=
  qL aD axL rfl rfl (fun _=>rfl) (fun a b=>by show some (decide (a.dev=b.dev)&&decide (a.seq=b.seq))=_;rw [Dt.eqb]) (fun _=>rfl) (by kernel_rfl)
def ptF (p:Pt):PV:= .agg p.cells
def jS (n:Int):PV:=(PV.val (Value.int .i64 (n)))
def cY (l:List Pt):List (Nm×Pt):=l.foldl (fun m p=>cK (aO p) p m) []
def dO (l:List Pt):List (Dt×Int):=l.foldl (fun m p=>cK p.dot p.time m) []
def pA (m:List (Nm×Pt)) (t:List (Dt×Int)) (p:Pt):Bool:= !((bT (aO p) m).isSome|| !bR p||(match bT p.dot t with|some x=>decide (x≠p.time)|none=>false))
def iA :List Pt→List (Nm×Pt)→List (Dt×Int)→Bool
  |[],_,_=>true
  |p::r,m,t=>pA m t p&&iA r (cK (aO p) p m) (cK p.dot p.time t)
def amV (m:List (Nm×Pt)) (p:Pt):Bool:=decide (aN p=Nm.zero)||(match bT (aN p) m with|some u=>dG u p|none=>false)
def dU (l:List Pt):Bool:=iA l [] []&&l.all (amV (cY l))
theorem aaB {l:List Pt} {i:Nat} (h:i<l.length):cY (l.take (i+1))=cK (aO l[i]) l[i] (cY (l.take i)):=by
  rw [List.take_succ_eq_append_getElem h,cY,List.foldl_append];rfl
theorem aaJ {l:List Pt} {i:Nat} (h:i<l.length):dO (l.take (i+1))=cK l[i].dot l[i].time (dO (l.take i)):=by
  rw [List.take_succ_eq_append_getElem h,dO,List.foldl_append];rfl
theorem aeG {l:List Pt} {i:Nat} (h:i<l.length) {m t}:iA (l.drop i) m t=(pA m t l[i]&&iA (l.drop (i+1)) (cK (aO l[i]) l[i] m) (cK l[i].dot l[i].time t)):=by
  rw [List.drop_eq_getElem_cons h];rfl
theorem uR (p q:Pt):PF Tryz.prog 222 [.agg p.cells, .agg q.cells] (PV.val (Value.bool (dG p q))):=by
  refine aH aD Tryz.func222 (by kernel_rfl) rfl rfl rfl rfl (fun st=> ?_)
  (try (apply wO pk;exact rfl));(repeat' (first|(show All _;constructor)|(show Imp _ _;constructor)|(show ImpX _ _ _ _;constructor)|(apply wE pk;(iterate 2 exact rfl))|(apply wD pk [] [];kernel_rfl;exact rfl;exact rfl)|(refine aB ?_;refine ⟨_,_,_,rfl,Wk.refl _,StSub.refl _, ?_,rfl⟩;try first|rfl|(simp only [dG,Sp.eqb];done))|(apply aI;(iterate 3 exact rfl);(intro _;(first|apply (lD p)|apply (lD q)|apply (nI (bC p) (bC q)))<;>first|assumption|omega);rotate_left;(iterate 2 exact rfl))))
theorem atT (l:List Pt) (st:aL) (hl:l.length<4611686018427387904):PC Tryz.prog 179 [.seq (l.map Pt.cells)] st fun p st'=>(∃m,p= .tup [m,(PV.val (Value.bool (dU l)))])∧st'=st:=by
  refine eH aD Tryz.func179 (by kernel_rfl) rfl rfl rfl rfl ?_
  (try (apply wO pk;exact rfl));(repeat' ((show All _;constructor)))
  refine mkM (enc:=Nm.enc) (f:=ptF) rfl (fun id1 hid1=> ?_)
  (try (apply wO pk;exact rfl));(repeat' (first|(show All _;constructor)|(apply wE pk;(iterate 2 exact rfl))))
  refine mkM (enc:=ajY) (f:=jS) rfl (fun id2 hid2=> ?_)
  have hid1:st id1=none:=hid1
  have hne:id1≠id2:=by intro e;subst e;have:=hid2;simp only [St.put,St.pv,St.sst,aC] at this;cases this
  have hid2:st id2=none:=by have:=hid2;simp only [St.put,St.pv,St.sst] at this;exact (aG (Ne.symm hne)).symm.trans this
  have hne2:=Ne.symm hne
  (try (apply wO pk;exact rfl));(repeat' (first|(show All _;constructor)|(apply wE pk;(iterate 2 exact rfl))))
  refine aJ (X:={x:Nat//x≤l.length∧iA l [] []=iA (l.drop x) (cY (l.take x)) (dO (l.take x))}) (fun i=>(((((((St.nil 94 (upd (upd st id1 (some (.map (bA Nm.enc ptF (cY (l.take i.1)))))) id2 (some (.map (bA ajY jS (dO (l.take i.1))))))).pv 0 (.seq (l.map Pt.cells))).pv 4 (.mref id1)).pv 5 (.mref id2)).pv 18 (.seq (l.map Pt.cells))).pv 19 ((PV.val (Value.int .i64 ((((l.map Pt.cells)).length:Nat)))))).pv 20 ((PV.val (Value.int .i64 ((i.1:Nat))))))) (fun i=>l.length-i.1) ⟨0,by omega,rfl⟩ ?_ (fun i=> ?_)
  · (((repeat (refine Sub.pv ?_ rfl));(exact Sub.nil _ _ _ (StSub.refl _) rfl)))
  obtain ⟨i,hi,hinv⟩:=i
  dsimp only
  have hs:=fun h:i<l.length=>aeG h (m:=cY (l.take i)) (t:=dO (l.take i))
  have hs1:=fun h:i<l.length=>aaB h
  have hs2:=fun h:i<l.length=>aaJ h
  (try (apply wO pk;exact rfl));(repeat' (first|(show All _;constructor)|(show Imp _ _;constructor)|(show ImpX _ _ _ _;constructor)|(apply wC pk;(iterate 2 exact rfl))|(apply wE pk;(iterate 2 exact rfl))|(apply wDm pk;exact rfl;kernel_rfl;exact rfl;exact rfl)|(refine aA rfl (fun h=> ?_) (fun h=> ?_)<;>(try simp at h)<;>try (exfalso;omega))|((try refine aB ?_);((refine ⟨_,_, ?zs,rfl,Wk.refl _, ?zh, ?zr⟩;(case zh=>(refine eK ?_ (by assumption);(repeat refine eK ?_ (by assumption));exact StSub.refl _));(case zr=>((have e:dU l=false:=(by unfold dU;rw [hinv,hs (by omega)];first|(simp [pA, *];done)|(rcases ‹_∨_›with q|q<;>simp [pA, *]));exact ⟨⟨.val (.map none),by rw [e]⟩,rfl⟩))))))|(apply aI;(iterate 3 exact rfl);(intro _;(first|apply uA|apply jL)<;>first|assumption|omega);rotate_left;(iterate 2 exact rfl))|(apply aM pk;(iterate 6 exact rfl);rotate_left;exact rfl;(intro hw;exact rfl);(intro hw;apply aF<;>omega);(intro _;exact rfl);exact rfl)|(apply arR pk Nm.key (f:=ptF);(iterate 5 exact rfl);rotate_left;exact rfl;((focus ((repeat (first|exact aC _ _ _|refine (aG (by assumption)).trans ?_));done)));exact rfl;intro v hv;rotate_left;intro hv;rotate_left)|(apply meA pk Nm.key (f:=ptF) (z:=Pt.zero);(iterate 6 exact rfl);((focus ((repeat (first|exact aC _ _ _|refine (aG (by assumption)).trans ?_));done)));exact rfl)|(apply esA pk Nm.key (f:=ptF);(iterate 4 exact rfl);(exact aC _ _ _);exact rfl)|(apply arR pk axI (f:=jS);(iterate 5 exact rfl);rotate_left;exact rfl;(exact aC _ _ _);exact rfl;intro v hv;rotate_left;intro hv;rotate_left)|(apply muA pk axI (f:=jS);(exact .inr rfl);(iterate 5 exact rfl);((focus ((repeat (first|exact aC _ _ _|refine (aG (by assumption)).trans ?_));done)));exact rfl)|(refine ⟨⟨i+1,by omega,by rw [hinv,hs (by omega),hs1 (by omega),hs2 (by omega)];simp [pA, *]⟩, ?_,by simp only;omega⟩;(simp only [hs1 (show i<l.length by omega),hs2 (show i<l.length by omega)]);(((repeat (refine Sub.pv ?_ rfl));((refine Sub.nil _ _ _ (iO ?_) rfl;(simp only [St.pv,St.put,St.sst,St.setv,St.nil,St.var,gP]);(rw [aAJ (by assumption)]);first|done|rfl)))))|(intros;(try simp only [zql]);omega)))
  have e1:l.take i=l:=List.take_of_length_le (by omega)
  have w1:iA l [] []=true:=by rw [hinv,List.drop_eq_nil_of_le (by omega)];rfl
  refine aJ (X:={x:Nat//x≤l.length∧(l.take x).all (amV (cY (l.take i)))=true}) (fun y=>(((((St.nil 94 (upd (upd st id1 (some (.map (bA Nm.enc ptF (cY (l.take i)))))) id2 (some (.map (bA ajY jS (dO (l.take i))))))).pv 4 (.mref id1)).pv 65 (.seq (l.map Pt.cells))).pv 66 ((PV.val (Value.int .i64 ((((l.map Pt.cells)).length:Nat)))))).pv 67 ((PV.val (Value.int .i64 ((y.1:Nat))))))) (fun y=>l.length-y.1) ⟨0,by omega,rfl⟩ ?_ (fun y=> ?_)
  · (((repeat (refine Sub.pv ?_ rfl));(exact Sub.nil _ _ _ (StSub.refl _) rfl)))
  clear hs hs1 hs2
  obtain ⟨y,hy,hall⟩:=y
  dsimp only
  (try (apply wO pk;exact rfl));(repeat' (first|(show All _;constructor)|(show Imp _ _;constructor)|(show ImpX _ _ _ _;constructor)|(apply wC pk;(iterate 2 exact rfl))|(apply wE pk;(iterate 2 exact rfl))|(refine aA rfl (fun h=> ?_) (fun h=> ?_)<;>(try simp at h)<;>try (exfalso;omega))|((try refine aB ?_);((refine ⟨_,_, ?zs,rfl,Wk.refl _, ?zh, ?zr⟩;(case zh=>(refine eK ?_ (by assumption);(repeat refine eK ?_ (by assumption));exact StSub.refl _));(case zr=>((first|(have e:dU l=false:=(by unfold dU;simp only [e1] at*;rw [w1,Bool.true_and,List.all_eq_false];refine ⟨l[y]'(by assumption),List.getElem_mem _, ?_⟩;simp [amV,Nm.ext_iff,Dt.ext_iff,Nm.zero,Dt.zero,and_assoc, *];try (intros;omega));exact ⟨⟨.val (.map none),by rw [e]⟩,rfl⟩)|(have e:dU l=true:=(by unfold dU;simp only [e1] at*;rw [w1,Bool.true_and,←hall,List.take_of_length_le (by omega)]);exact ⟨⟨.mref id1,by rw [e]⟩,rfl⟩)))))))|(apply aI;(iterate 3 exact rfl);(intro _;(first|apply mM|apply uR|apply (uR Pt.zero))<;>first|assumption|omega);rotate_left;(iterate 2 exact rfl))|(apply aM pk;(iterate 6 exact rfl);rotate_left;exact rfl;(intro hw;exact rfl);(intro hw;apply aF<;>omega);(intro _;exact rfl);exact rfl)|(apply arR pk Nm.key (f:=ptF);(iterate 5 exact rfl);rotate_left;exact rfl;((focus ((repeat (first|exact aC _ _ _|refine (aG (by assumption)).trans ?_));done)));exact rfl;intro v hv;rotate_left;intro hv;rotate_left)|(refine ⟨⟨y+1,by omega,by simp only [e1] at*;rw [List.take_succ_eq_append_getElem (by omega),List.all_append,hall];simp [amV,Nm.ext_iff,Dt.ext_iff,Nm.zero,Dt.zero,and_assoc, *];try grind⟩, ?_,by simp only;omega⟩;(((repeat (refine Sub.pv ?_ rfl));(exact Sub.nil _ _ _ (StSub.refl _) rfl))))|(intros;(try simp only [zql]);omega)))
end Go.Proofs.YtcglimangneafaaGreatDoor.T
