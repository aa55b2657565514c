import Derived.Test.YtddmbnddgiebgaaGreatDoorBsFn
import Derived.Test.YtddmbnddgiebgaaGreatDoorBsLay
import Derived.Test.YtddmbnddgiebgaaGreatDoorAbsE
set_option linter.unusedSimpArgs false
set_option linter.unusedVariables false
namespace Go.Proofs.YtddmbnddgiebgaaGreatDoor.T
open Go Go.Abs
structure Sp where
  time:Int
  dev:Int
  seq:Int
  deriving DecidableEq,Inhabited
def Sp.cells (a:Sp):List PV:=[.val (.int .i64 (a.time)), .val (.int .i64 (a.dev)), .val (.int .i64 (a.seq))]
def Sp.zero :Sp:=⟨0,0,0⟩
theorem Sp.ext_iff (a b:Sp):a=b↔a.time=b.time∧a.dev=b.dev∧a.seq=b.seq:=by cases a;cases b;simp
theorem Sp.eqb (a b:Sp):(decide (a.time=b.time)&&(decide (a.dev=b.dev)&&(decide (a.seq=b.seq))))=decide (a=b):=by rw [Bool.eq_iff_iff];simp [Sp.ext_iff]
theorem Sp.eqz (a:Sp):(decide (a.time=0)&&(decide (a.dev=0)&&(decide (a.seq=0))))=decide (a=Sp.zero):=by rw [Bool.eq_iff_iff];simp [Sp.ext_iff,Sp.zero]
theorem Sp.elem :Elem tt 230 Sp.cells (fun a=> .agg a.cells) 3:=⟨rfl,fun _=>rfl,fun _=>rfl,fun _=>rfl,fun _=>rfl⟩
structure Nm where
  dot:Dt
  at_:Int
  deriving DecidableEq,Inhabited
def Nm.cells (a:Nm):List PV:=[.val (.int .i64 (a.dot.dev)), .val (.int .i64 (a.dot.seq)), .val (.int .i64 (a.at_))]
def Nm.zero :Nm:=⟨Dt.zero,0⟩
theorem Nm.ext_iff (a b:Nm):a=b↔a.dot=b.dot∧a.at_=b.at_:=by cases a;cases b;simp
theorem Nm.eqb (a b:Nm):(decide (a.dot=b.dot)&&(decide (a.at_=b.at_)))=decide (a=b):=by rw [Bool.eq_iff_iff];simp [Nm.ext_iff]
theorem Nm.eqz (a:Nm):(decide (a.dot=Dt.zero)&&(decide (a.at_=0)))=decide (a=Nm.zero):=by rw [Bool.eq_iff_iff];simp [Nm.ext_iff,Nm.zero]
theorem Nm.elem :Elem tt 209 Nm.cells (fun a=> .agg a.cells) 3:=⟨rfl,fun _=>rfl,fun _=>rfl,fun _=>rfl,fun _=>rfl⟩
end Go.Proofs.YtddmbnddgiebgaaGreatDoor.T
namespace Go.Proofs.YtddmbnddgiebgaaGreatDoor.T
open Go Go.Abs
attribute [local irreducible] Ev PWp
set_option maxRecDepth 10000
def aS (p:Pt):Nm:=⟨p.dot,p.at_⟩
def aR (p:Pt):Nm:=⟨p.after,p.afterAt⟩
def bD (p:Pt):Sp:=⟨p.time,p.dot.dev,p.dot.seq⟩
def eR (n a b:Int):Bool:=decide (n≥a)&&decide (n≤b)
def tF (n:Nm):Bool:=(eR n.dot.dev 1 64&&eR n.dot.seq 1 1048576)&&eR n.at_ 0 1999
def bW (p:Pt):Bool:=((((decide (p.val.kind=1)&&decide (p.val.s=e0))&&eR p.val.n 0 255)&&eR p.time 1 1125899906842624)&&tF (aS p))&&(decide (aR p=Nm.zero)||tF (aR p))
def gU (a b:Sp):Bool:=if a.time≠b.time then decide (a.time<b.time) else if a.dev≠b.dev then decide (a.dev<b.dev) else decide (a.seq<b.seq)
def dG (p q:Pt):Bool:=gU (bD p) (bD q)||(decide (bD p=bD q)&&decide (p.at_<q.at_))
theorem jM (p:Pt):PF Tryz.prog 187 [.agg p.cells] (.agg (aS p).cells):=by
  refine aL aH Tryz.func187 (by kernel_rfl) rfl rfl rfl rfl (fun st=> ?_)
  (try (apply wO pk;exact rfl));(repeat' (first|(show All _;constructor)|(show Imp _ _;constructor)|(show ImpX _ _ _ _;constructor)|(apply wC pk;(iterate 2 exact rfl))|(apply wE pk;(iterate 2 exact rfl))|(apply wX pk;exact rfl)|(apply wN pk;exact rfl)|(apply wD pk [] [];kernel_rfl;exact rfl;exact rfl)|(apply aB;simp only [zqt,zqf])|(refine aD rfl (fun h=> ?_) (fun h=> ?_)<;>(try simp at h)<;>try (exfalso;omega))|(refine aF ?_;refine ⟨_,_,_,rfl,Wk.refl _,StSub.refl _, ?_,rfl⟩;try rfl)|(intros;(try simp only [zql]);omega)))
theorem eH (p:Pt):PF Tryz.prog 189 [.agg p.cells] (.agg (aR p).cells):=by
  refine aL aH Tryz.func189 (by kernel_rfl) rfl rfl rfl rfl (fun st=> ?_)
  (try (apply wO pk;exact rfl));(repeat' (first|(show All _;constructor)|(show Imp _ _;constructor)|(show ImpX _ _ _ _;constructor)|(apply wC pk;(iterate 2 exact rfl))|(apply wE pk;(iterate 2 exact rfl))|(apply wX pk;exact rfl)|(apply wN pk;exact rfl)|(apply wD pk [] [];kernel_rfl;exact rfl;exact rfl)|(apply aB;simp only [zqt,zqf])|(refine aD rfl (fun h=> ?_) (fun h=> ?_)<;>(try simp at h)<;>try (exfalso;omega))|(refine aF ?_;refine ⟨_,_,_,rfl,Wk.refl _,StSub.refl _, ?_,rfl⟩;try rfl)|(intros;(try simp only [zql]);omega)))
theorem kE (p:Pt):PF Tryz.prog 211 [.agg p.cells] (.agg (bD p).cells):=by
  refine aL aH Tryz.func211 (by kernel_rfl) rfl rfl rfl rfl (fun st=> ?_)
  (try (apply wO pk;exact rfl));(repeat' (first|(show All _;constructor)|(show Imp _ _;constructor)|(show ImpX _ _ _ _;constructor)|(apply wC pk;(iterate 2 exact rfl))|(apply wE pk;(iterate 2 exact rfl))|(apply wX pk;exact rfl)|(apply wN pk;exact rfl)|(apply wD pk [] [];kernel_rfl;exact rfl;exact rfl)|(apply aB;simp only [zqt,zqf])|(refine aD rfl (fun h=> ?_) (fun h=> ?_)<;>(try simp at h)<;>try (exfalso;omega))|(refine aF ?_;refine ⟨_,_,_,rfl,Wk.refl _,StSub.refl _, ?_,rfl⟩;try rfl)|(intros;(try simp only [zql]);omega)))
theorem rE (n a b:Int):PF Tryz.prog 209 [(PV.val (Value.int .i64 (n))),(PV.val (Value.int .i64 (a))),(PV.val (Value.int .i64 (b)))] (PV.val (Value.bool (eR n a b))):=by
  refine aL aH Tryz.func209 (by kernel_rfl) rfl rfl rfl rfl (fun st=> ?_)
  (try (apply wO pk;exact rfl));(repeat' (first|(show All _;constructor)|(show Imp _ _;constructor)|(show ImpX _ _ _ _;constructor)|(apply wC pk;(iterate 2 exact rfl))|(apply wE pk;(iterate 2 exact rfl))|(apply wX pk;exact rfl)|(apply wN pk;exact rfl)|(apply wD pk [] [];kernel_rfl;exact rfl;exact rfl)|(apply aB;simp only [zqt,zqf])|(refine aD rfl (fun h=> ?_) (fun h=> ?_)<;>(try simp at h)<;>try (exfalso;omega))|(refine aF ?_;refine ⟨_,_,_,rfl,Wk.refl _,StSub.refl _, ?_,rfl⟩;try rfl)|(intros;(try simp only [zql]);omega)))
theorem zY (n:Nm):PF Tryz.prog 210 [.agg n.cells] (PV.val (Value.bool (tF n))):=by
  refine aL aH Tryz.func210 (by kernel_rfl) rfl rfl rfl rfl (fun st=> ?_)
  (try (apply wO pk;exact rfl));(repeat' (first|(show All _;constructor)|(show Imp _ _;constructor)|(show ImpX _ _ _ _;constructor)|(apply wC pk;(iterate 2 exact rfl))|(apply wE pk;(iterate 2 exact rfl))|(apply wX pk;exact rfl)|(apply wN pk;exact rfl)|(apply wD pk [] [];kernel_rfl;exact rfl;exact rfl)|(apply aB;simp only [zqt,zqf])|(refine aD rfl (fun h=> ?_) (fun h=> ?_)<;>(try simp at h)<;>try (exfalso;omega))|(refine aF ?_;refine ⟨_,_,_,rfl,Wk.refl _,StSub.refl _, ?_,rfl⟩;try rfl)|(apply aN;(iterate 3 exact rfl);(intro _;apply rE<;>first|assumption|omega);rotate_left;(iterate 2 exact rfl))|(intros;(try simp only [zql]);omega)))
theorem qS (p:Pt):PF Tryz.prog 188 [.agg p.cells] (PV.val (Value.bool (bW p))):=by
  refine aL aH Tryz.func188 (by kernel_rfl) rfl rfl rfl rfl (fun st=> ?_)
  (try (apply wO pk;exact rfl));(repeat' (first|(show All _;constructor)|(show Imp _ _;constructor)|(show ImpX _ _ _ _;constructor)|(apply wC pk;(iterate 2 exact rfl))|(apply wE pk;(iterate 2 exact rfl))|(apply wX pk;exact rfl)|(apply wN pk;exact rfl)|(apply wD pk [] [];kernel_rfl;exact rfl;exact rfl)|(apply aB;simp only [zqt,zqf])|(refine aD rfl (fun h=> ?_) (fun h=> ?_)<;>(try simp at h)<;>try (exfalso;omega))|(refine aF ?_;refine ⟨_,_,_,rfl,Wk.refl _,StSub.refl _, ?_,rfl⟩;try first|rfl|(simp only [bW,Dt.eqz,Nm.eqz];done))|(apply aN;(iterate 3 exact rfl);(intro _;(first|apply rE|apply (jM p)|apply (eH p)|apply (zY (aS p))|apply (zY (aR p)))<;>first|assumption|omega);rotate_left;(iterate 2 exact rfl))|(intros;(try simp only [zql]);omega)))
def awF (a:Sp):List PV:=[(PV.val (Value.int .i64 (a.time))),(PV.val (Value.int .i64 (a.dev))),(PV.val (Value.int .i64 (a.seq)))]
theorem abZ (a:Sp):PF Tryz.prog 251 [.agg a.cells] (.agg (awF a)):=by
  refine aL aH Tryz.func251 (by kernel_rfl) rfl rfl rfl rfl (fun st=> ?_)
  (try (apply wO pk;exact rfl));(repeat' (first|(show All _;constructor)|(show Imp _ _;constructor)|(show ImpX _ _ _ _;constructor)|(apply wC pk;(iterate 2 exact rfl))|(apply wE pk;(iterate 2 exact rfl))|(apply wX pk;exact rfl)|(apply wN pk;exact rfl)|(apply wD pk [] [];kernel_rfl;exact rfl;exact rfl)|(apply aB;simp only [zqt,zqf])|(refine aD rfl (fun h=> ?_) (fun h=> ?_)<;>(try simp at h)<;>try (exfalso;omega))|(refine aF ?_;refine ⟨_,_,_,rfl,Wk.refl _,StSub.refl _, ?_,rfl⟩;try rfl)|(intros;(try simp only [zql]);omega)))
def yG :List Int→List Int→Int
  |[],[]=>0
  |[],_::_=> -1
  |_::_,[]=>1
  |a::l,b::m=>if eT a b=0 then yG l m else eT a b
theorem wZ {l m:List Int} {i:Nat} (h:i<l.length) (h2:i<m.length):yG (l.drop i) (m.drop i)=if eT l[i] m[i]=0 then yG (l.drop (i+1)) (m.drop (i+1)) else eT l[i] m[i]:=by
  rw [List.drop_eq_getElem_cons h,List.drop_eq_getElem_cons h2,yG]
theorem xP (l m:List Int) (hl:l.length<4611686018427387904):PF Tryz.prog 252 [.seq (l.map I1), .seq (m.map I1)] (PV.val (Value.int .i64 (yG l m))):=by
  refine aL aH Tryz.func252 (by kernel_rfl) rfl rfl rfl rfl (fun st=> ?_)
  (try (apply wO pk;exact rfl));(repeat' (first|(show All _;constructor)|(show Imp _ _;constructor)|(show ImpX _ _ _ _;constructor)|(apply wC pk;(iterate 2 exact rfl))|(apply wE pk;(iterate 2 exact rfl))|(apply wX pk;exact rfl)|(apply wN pk;exact rfl)|(apply wD pk [] [];kernel_rfl;exact rfl;exact rfl)|(apply aB;simp only [zqt,zqf])|(refine aD rfl (fun h=> ?_) (fun h=> ?_)<;>(try simp at h)<;>try (exfalso;omega))|(refine aF ?_;refine ⟨_,_,_,rfl,Wk.refl _,StSub.refl _, ?_,rfl⟩;try rfl)|(intros;(try simp only [zql]);omega)))
  refine aO (X:={x:Nat//x≤l.length∧x≤m.length∧yG (l.drop x) (m.drop x)=yG l m}) (fun i=>((((((St.nil 36 st).pv 0 (.seq (l.map I1))).pv 1 (.seq (m.map I1))).pv 9 (.seq (l.map I1))).pv 10 ((PV.val (Value.int .i64 ((((l.map I1)).length:Nat)))))).pv 11 ((PV.val (Value.int .i64 ((i.1:Nat))))))) (fun i=>l.length-i.1) ⟨0,by omega,by omega,by simp⟩ ?_ (fun i=> ?_)
  · ((repeat (first|refine Sub.pv ?_ rfl|refine Sub.var ?_ rfl rfl));exact Sub.nil _ _ _ (StSub.refl _) rfl)
  obtain ⟨i,h1,h2,hinv⟩:=i
  dsimp only
  (try (apply wO pk;exact rfl));(repeat' (first|(show All _;constructor)|(show Imp _ _;constructor)|(show ImpX _ _ _ _;constructor)|(apply wC pk;(iterate 2 exact rfl))|(apply wE pk;(iterate 2 exact rfl))|(apply wX pk;exact rfl)|(apply wN pk;exact rfl)|(apply wD pk [] [];kernel_rfl;exact rfl;exact rfl)|(apply aB;simp only [zqt,zqf])|(refine aD rfl (fun h=> ?_) (fun h=> ?_)<;>(try simp at h)<;>try (exfalso;omega))|(refine aF ?_;refine ⟨_,_,_,rfl,Wk.refl _,StSub.refl _, ?_,rfl⟩;try first|rfl|((rw [←hinv];(first|(rw [wZ (by omega) (by omega),if_neg (by assumption)];done)|(rw [List.drop_eq_nil_of_le (show l.length≤i by omega),List.drop_eq_getElem_cons (show i<m.length by omega)];rfl)|(rw [List.drop_eq_nil_of_le (show l.length≤i by omega),List.drop_eq_nil_of_le (show m.length≤i by omega)];rfl)|(rw [List.drop_eq_nil_of_le (show m.length≤i by omega),List.drop_eq_getElem_cons (show i<l.length by omega)];rfl)));done))|(apply aN;(iterate 3 exact rfl);(intro _;apply (eQ _ _)<;>first|assumption|omega);rotate_left;(iterate 2 exact rfl))|(apply aW pk;(iterate 6 exact rfl);rotate_left;exact rfl;(intro hw;exact rfl);(intro hw;apply aI<;>omega);(intro _;exact rfl);exact rfl)|(refine ⟨⟨i+1,by omega,by omega,by rw [←hinv,wZ (i:=i) (by omega) (by omega),if_pos (by assumption)]⟩, ?_,by simp only;omega⟩;((repeat (first|refine Sub.pv ?_ rfl|refine Sub.var ?_ rfl rfl));exact Sub.nil _ _ _ (StSub.refl _) rfl))|(intros;(try simp only [zql]);omega)))
def aoN (a b:Sp):Int:=if a=b then 0 else yG [a.time,a.dev,a.seq] [b.time,b.dev,b.seq]
theorem aiC (a b:Sp):PF Tryz.prog 234 [.agg a.cells, .agg b.cells] (PV.val (Value.int .i64 (aoN a b))):=by
  refine aL aH Tryz.func234 (by kernel_rfl) rfl rfl rfl rfl (fun st=> ?_)
  (try (apply wO pk;exact rfl));(repeat' (first|(apply asH 5;(iterate 3 exact rfl))|(apply asH 6;(iterate 3 exact rfl))|(show All _;constructor)|(show Imp _ _;constructor)|(show ImpX _ _ _ _;constructor)|(apply wC pk;(iterate 2 exact rfl))|(apply wE pk;(iterate 2 exact rfl))|(apply wX pk;exact rfl)|(apply wN pk;exact rfl)|(apply wD pk [] [];kernel_rfl;exact rfl;exact rfl)|(apply aB;simp only [zqt,zqf])|(refine aD rfl (fun h=> ?_) (fun h=> ?_)<;>(try simp at h)<;>try (exfalso;omega))|(refine aF ?_;refine ⟨_,_,_,rfl,Wk.refl _,StSub.refl _, ?_,rfl⟩;try first|rfl|((simp_all [aoN,Sp.ext_iff];done);done))|(apply aN;(iterate 3 exact rfl);(intro _;(first|apply (abZ a)|apply (abZ b)|apply (xP [a.time,a.dev,a.seq] [b.time,b.dev,b.seq] (show 3<4611686018427387904 from by omega)))<;>first|assumption|omega);rotate_left;(iterate 2 exact rfl))|(apply slA pk (rows:=[a.time,a.dev,a.seq].map I1);(iterate 7 exact rfl);rotate_left;exact rfl;exact rfl)|(apply slA pk (rows:=[b.time,b.dev,b.seq].map I1);(iterate 7 exact rfl);rotate_left;exact rfl;exact rfl)|(intros;(try simp only [zql]);omega)))
theorem xK (a b:Int):eT a b<0↔a<b:=by unfold eT;split<;>(try split)<;>omega
theorem aqB (a b:Int):eT a b=0↔a=b:=by unfold eT;split<;>(try split)<;>omega
theorem ajK (a b:Sp):decide (aoN a b<0)=gU a b:=by
  unfold aoN gU
  by_cases h:a=b
  · subst h;simp
  · rw [if_neg h]
    simp only [yG,aqB]
    by_cases h1:a.time=b.time
    · by_cases h2:a.dev=b.dev
      · have h3:¬a.seq=b.seq:=fun e=>h ((Sp.ext_iff _ _).2 ⟨h1,h2,e⟩)
        simp [h1,h2,h3,xK]
      · simp [h1,h2,xK]
    · simp [h1,xK]
theorem vV (a b:Sp):PF Tryz.prog 212 [.agg a.cells, .agg b.cells] (PV.val (Value.bool (gU a b))):=by
  rw [←ajK]
  refine aL aH Tryz.func212 (by kernel_rfl) rfl rfl rfl rfl (fun st=> ?_)
  (try (apply wO pk;exact rfl));(repeat' (first|(show All _;constructor)|(show Imp _ _;constructor)|(show ImpX _ _ _ _;constructor)|(apply wC pk;(iterate 2 exact rfl))|(apply wE pk;(iterate 2 exact rfl))|(apply wX pk;exact rfl)|(apply wN pk;exact rfl)|(apply wD pk [] [];kernel_rfl;exact rfl;exact rfl)|(apply aB;simp only [zqt,zqf])|(refine aD rfl (fun h=> ?_) (fun h=> ?_)<;>(try simp at h)<;>try (exfalso;omega))|(refine aF ?_;refine ⟨_,_,_,rfl,Wk.refl _,StSub.refl _, ?_,rfl⟩;try rfl)|(apply aN;(iterate 3 exact rfl);(intro _;apply (aiC a b)<;>first|assumption|omega);rotate_left;(iterate 2 exact rfl))|(intros;(try simp only [zql]);omega)))
end Go.Proofs.YtddmbnddgiebgaaGreatDoor.T
namespace Go.Proofs.YtddmbnddgiebgaaGreatDoor.T
open Go Go.Abs
attribute [local irreducible] Ev PWp
set_option maxRecDepth 10000
set_option maxHeartbeats 1000000
theorem avB {f:FuncId} {args:List PV} {st:aM} {R R':PV→aM→Prop} (h:PC Tryz.prog f args st R) (hr:∀p st',R p st'→∃q,Wk p q∧R' q st'):PC Tryz.prog f args st R':=
  ⟨h.1,fun w g vs hm hv=>(h.2 w g vs hm hv).mono fun e w' ⟨v,r,st',g',h1,h2,h3,h4⟩=>by
    obtain ⟨q,k1,k2⟩:=hr _ _ h2
    exact ⟨v,q,st',g',h1,k2,k1 _ _ h3,h4⟩⟩
theorem Wk.und (p:PV):Wk p .und:=fun _ _ _=>by simp [Rep]
def Nm.vals (k:Nm):List Value:=[.int .i64 k.dot.dev, .int .i64 k.dot.seq, .int .i64 k.at_]
def arY (k:Dt):List Value:=[.int .i64 k.dev, .int .i64 k.seq]
def Nm.enc (k:Nm):Value:= .agg k.vals.toArray
def afZ (k:Dt):Value:= .agg (arY k).toArray
theorem Nm.key :KeyOK Tryz.prog 209 Nm.enc (fun k=> .agg k.cells):=
  pA aH Nm.vals rfl rfl (fun _=>rfl) (fun a b=>by show some ((decide (a.dot.dev=b.dot.dev)&&decide (a.dot.seq=b.dot.seq))&&decide (a.at_=b.at_))=_;rw [Dt.eqb,Nm.eqb]) (fun _=>rfl) (by kernel_rfl)
theorem sE :KeyOK Tryz.prog 30 afZ (fun k=> .agg k.cells):=
  pA aH arY rfl rfl (fun _=>rfl) (fun a b=>by show some (decide (a.dev=b.dev)&&decide (a.seq=b.seq))=_;rw [Dt.eqb]) (fun _=>rfl) (by kernel_rfl)
def ptF (p:Pt):PV:= .agg p.cells
def uQ (n:Int):PV:=(PV.val (Value.int .i64 (n)))
def cU (l:List Pt):List (Nm×Pt):=l.foldl (fun m p=>dE (aS p) p m) []
def dP (l:List Pt):List (Dt×Int):=l.foldl (fun m p=>dE p.dot p.time m) []
def jV (m:List (Nm×Pt)) (t:List (Dt×Int)) (p:Pt):Bool:= !((dJ (aS p) m).isSome|| !bW p||(match dJ p.dot t with|some x=>decide (x≠p.time)|none=>false))
def gC :List Pt→List (Nm×Pt)→List (Dt×Int)→Bool
  |[],_,_=>true
  |p::r,m,t=>jV m t p&&gC r (dE (aS p) p m) (dE p.dot p.time t)
def adX (m:List (Nm×Pt)) (p:Pt):Bool:=decide (aR p=Nm.zero)||(match dJ (aR p) m with|some u=>dG u p|none=>false)
def cP (l:List Pt):Bool:=gC l [] []&&l.all (adX (cU l))
theorem xF {l:List Pt} {i:Nat} (h:i<l.length):cU (l.take (i+1))=dE (aS l[i]) l[i] (cU (l.take i)):=by
  rw [List.take_succ_eq_append_getElem h,cU,List.foldl_append];rfl
theorem xV {l:List Pt} {i:Nat} (h:i<l.length):dP (l.take (i+1))=dE l[i].dot l[i].time (dP (l.take i)):=by
  rw [List.take_succ_eq_append_getElem h,dP,List.foldl_append];rfl
theorem abG {l:List Pt} {i:Nat} (h:i<l.length) {m t}:gC (l.drop i) m t=(jV m t l[i]&&gC (l.drop (i+1)) (dE (aS l[i]) l[i] m) (dE l[i].dot l[i].time t)):=by
  rw [List.drop_eq_getElem_cons h];rfl
theorem jL (p q:Pt):PF Tryz.prog 190 [.agg p.cells, .agg q.cells] (PV.val (Value.bool (dG p q))):=by
  refine aL aH Tryz.func190 (by kernel_rfl) rfl rfl rfl rfl (fun st=> ?_)
  (try (apply wO pk;exact rfl));(repeat' (first|(show All _;constructor)|(show Imp _ _;constructor)|(show ImpX _ _ _ _;constructor)|(apply wC pk;(iterate 2 exact rfl))|(apply wE pk;(iterate 2 exact rfl))|(apply wX pk;exact rfl)|(apply wN pk;exact rfl)|(apply wD pk [] [];kernel_rfl;exact rfl;exact rfl)|(apply aB;simp only [zqt,zqf])|(refine aD rfl (fun h=> ?_) (fun h=> ?_)<;>(try simp at h)<;>try (exfalso;omega))|(refine aF ?_;refine ⟨_,_,_,rfl,Wk.refl _,StSub.refl _, ?_,rfl⟩;try first|rfl|(simp only [dG,Sp.eqb];done))|(apply aN;(iterate 3 exact rfl);(intro _;(first|apply (kE p)|apply (kE q)|apply (vV (bD p) (bD q)))<;>first|assumption|omega);rotate_left;(iterate 2 exact rfl))|(intros;(try simp only [zql]);omega)))
theorem aoA (l:List Pt) (st:aM) (hl:l.length<4611686018427387904):PC Tryz.prog 152 [.seq (l.map Pt.cells)] st fun p st'=>(∃m,p= .tup [m,(PV.val (Value.bool (cP l)))])∧st'=st:=by
  refine cR aH Tryz.func152 (by kernel_rfl) rfl rfl rfl rfl ?_
  (try (apply wO pk;exact rfl));(repeat' (first|(show All _;constructor)|(show Imp _ _;constructor)|(show ImpX _ _ _ _;constructor)|(apply wC pk;(iterate 2 exact rfl))|(apply wE pk;(iterate 2 exact rfl))|(apply wX pk;exact rfl)|(apply wN pk;exact rfl)|(apply wD pk [] [];kernel_rfl;exact rfl;exact rfl)|(apply aB;simp only [zqt,zqf])|(refine aD rfl (fun h=> ?_) (fun h=> ?_)<;>(try simp at h)<;>try (exfalso;omega))|(refine aF ?_;refine ⟨_,_,_,rfl,Wk.refl _,StSub.refl _, ?_,rfl⟩;try rfl)|(intros;(try simp only [zql]);omega)))
  refine mkM (enc:=Nm.enc) (f:=ptF) rfl (fun id1 hid1=> ?_)
  (try (apply wO pk;exact rfl));(repeat' (first|(show All _;constructor)|(show Imp _ _;constructor)|(show ImpX _ _ _ _;constructor)|(apply wC pk;(iterate 2 exact rfl))|(apply wE pk;(iterate 2 exact rfl))|(apply wX pk;exact rfl)|(apply wN pk;exact rfl)|(apply wD pk [] [];kernel_rfl;exact rfl;exact rfl)|(apply aB;simp only [zqt,zqf])|(refine aD rfl (fun h=> ?_) (fun h=> ?_)<;>(try simp at h)<;>try (exfalso;omega))|(refine aF ?_;refine ⟨_,_,_,rfl,Wk.refl _,StSub.refl _, ?_,rfl⟩;try rfl)|(intros;(try simp only [zql]);omega)))
  refine mkM (enc:=afZ) (f:=uQ) rfl (fun id2 hid2=> ?_)
  have hid1:st id1=none:=hid1
  have hne:id1≠id2:=by intro e;subst e;have:=hid2;simp only [St.put,St.pv,St.sst,aA] at this;cases this
  have hid2:st id2=none:=by have:=hid2;simp only [St.put,St.pv,St.sst] at this;exact (aC (Ne.symm hne)).symm.trans this
  have hne2:=Ne.symm hne
  (try (apply wO pk;exact rfl));(repeat' (first|(show All _;constructor)|(show Imp _ _;constructor)|(show ImpX _ _ _ _;constructor)|(apply wC pk;(iterate 2 exact rfl))|(apply wE pk;(iterate 2 exact rfl))|(apply wX pk;exact rfl)|(apply wN pk;exact rfl)|(apply wD pk [] [];kernel_rfl;exact rfl;exact rfl)|(apply aB;simp only [zqt,zqf])|(refine aD rfl (fun h=> ?_) (fun h=> ?_)<;>(try simp at h)<;>try (exfalso;omega))|(refine aF ?_;refine ⟨_,_,_,rfl,Wk.refl _,StSub.refl _, ?_,rfl⟩;try rfl)|(intros;(try simp only [zql]);omega)))
  refine aO (X:={x:Nat//x≤l.length∧gC l [] []=gC (l.drop x) (cU (l.take x)) (dP (l.take x))}) (fun i=>(((((((St.nil 94 (upd (upd st id1 (some (.map (aZ Nm.enc ptF (cU (l.take i.1)))))) id2 (some (.map (aZ afZ uQ (dP (l.take i.1))))))).pv 0 (.seq (l.map Pt.cells))).pv 4 (.mref id1)).pv 5 (.mref id2)).pv 18 (.seq (l.map Pt.cells))).pv 19 ((PV.val (Value.int .i64 ((((l.map Pt.cells)).length:Nat)))))).pv 20 ((PV.val (Value.int .i64 ((i.1:Nat))))))) (fun i=>l.length-i.1) ⟨0,by omega,rfl⟩ ?_ (fun i=> ?_)
  · (first|exact Sub.nil _ _ _ (StSub.refl _) rfl|((repeat (first|refine Sub.pv ?_ rfl|refine Sub.var ?_ rfl rfl));(first|exact Sub.nil _ _ _ (StSub.refl _) rfl|exact Sub.nil _ _ _ (aP (by assumption)) rfl|exact Sub.nil _ _ _ (aJ (by first|rfl|exact aT (by assumption)|((simp only [St.pv,St.put,St.sst,St.setv,St.nil,St.var,aK]);first|done|rfl))) rfl|(refine Sub.nil _ _ _ (aJ ?_) rfl;(simp only [St.pv,St.put,St.sst,St.setv,St.nil,St.var,aK]);(rw [cI (by assumption)]);first|done|rfl))))
  obtain ⟨i,hi,hinv⟩:=i
  dsimp only
  have hs:=fun h:i<l.length=>abG h (m:=cU (l.take i)) (t:=dP (l.take i))
  have hs1:=fun h:i<l.length=>xF h
  have hs2:=fun h:i<l.length=>xV h
  (try (apply wO pk;exact rfl));(repeat' (first|(show All _;constructor)|(show Imp _ _;constructor)|(show ImpX _ _ _ _;constructor)|(apply wC pk;(iterate 2 exact rfl))|(apply wE pk;(iterate 2 exact rfl))|(apply wX pk;exact rfl)|(apply wN pk;exact rfl)|(apply wDm pk;exact rfl;kernel_rfl;exact rfl;exact rfl)|(apply aB;simp only [zqt,zqf])|(refine aD rfl (fun h=> ?_) (fun h=> ?_)<;>(try simp at h)<;>try (exfalso;omega))|((try refine aF ?_);(first|(refine ⟨_,_,_,rfl,Wk.refl _,StSub.refl _, ?_⟩;((have e:cP l=false:=(by unfold cP;rw [hinv,hs (by omega)];first|(simp [jV, *];done)|(rcases ‹_∨_›with q|q<;>simp [jV, *]));exact ⟨⟨.val (.map none),by rw [e]⟩,rfl⟩));done)|(refine ⟨_,_, ?zs,rfl,Wk.refl _, ?zh, ?zr⟩;(case zh=>(refine aG ?_ (by assumption);(repeat refine aG ?_ (by assumption));exact StSub.refl _));(case zr=>((have e:cP l=false:=(by unfold cP;rw [hinv,hs (by omega)];first|(simp [jV, *];done)|(rcases ‹_∨_›with q|q<;>simp [jV, *]));exact ⟨⟨.val (.map none),by rw [e]⟩,rfl⟩))))|refine ⟨_,_,_,rfl,Wk.refl _,StSub.refl _, ?_⟩))|(apply aN;(iterate 3 exact rfl);(intro _;(first|apply jM|apply qS)<;>first|assumption|omega);rotate_left;(iterate 2 exact rfl))|(apply bZ;(iterate 3 exact rfl);(intro _;(first|apply jM|apply qS)<;>first|assumption|omega);rotate_left;(iterate 2 exact rfl))|(apply aW pk;(iterate 6 exact rfl);rotate_left;exact rfl;(intro hw;exact rfl);(intro hw;apply aI<;>omega);(intro _;exact rfl);exact rfl)|(apply ncA;(iterate 3 exact rfl);rotate_left;exact rfl;exact rfl)|(apply ldR pk;exact rfl;exact rfl;rotate_left;exact rfl;(focus ((repeat (first|exact aA _ _ _|assumption|refine (aC (by assumption)).trans ?_));done));exact rfl;exact rfl)|(apply stR pk;exact rfl;exact rfl;(focus ((repeat (first|exact aA _ _ _|assumption|refine (aC (by assumption)).trans ?_));done));exact rfl;exact rfl)|(apply adT pk Nm.key (f:=ptF);(iterate 5 exact rfl);rotate_left;exact rfl;(focus ((repeat (first|exact aA _ _ _|assumption|refine (aC (by assumption)).trans ?_));done));exact rfl;intro v hv;rotate_left;intro hv;rotate_left)|(apply muA pk Nm.key (f:=ptF);(first|exact .inl rfl|exact .inr rfl);(iterate 5 exact rfl);(focus ((repeat (first|exact aA _ _ _|assumption|refine (aC (by assumption)).trans ?_));done));exact rfl)|(apply meA pk Nm.key (f:=ptF) (z:=Pt.zero);(iterate 6 exact rfl);(focus ((repeat (first|exact aA _ _ _|assumption|refine (aC (by assumption)).trans ?_));done));exact rfl)|(apply esA pk Nm.key (f:=ptF);(iterate 4 exact rfl);(focus ((repeat (first|exact aA _ _ _|assumption|refine (aC (by assumption)).trans ?_));done));exact rfl)|(apply adT pk sE (f:=uQ);(iterate 5 exact rfl);rotate_left;exact rfl;(focus ((repeat (first|exact aA _ _ _|assumption|refine (aC (by assumption)).trans ?_));done));exact rfl;intro v hv;rotate_left;intro hv;rotate_left)|(apply muA pk sE (f:=uQ);(first|exact .inl rfl|exact .inr rfl);(iterate 5 exact rfl);(focus ((repeat (first|exact aA _ _ _|assumption|refine (aC (by assumption)).trans ?_));done));exact rfl)|(apply meA pk sE (f:=uQ) (z:=0);(iterate 6 exact rfl);(focus ((repeat (first|exact aA _ _ _|assumption|refine (aC (by assumption)).trans ?_));done));exact rfl)|(apply adT pk sE (f:=uQ) (k:=(l[i]'(by assumption)).dot);(iterate 5 exact rfl);rotate_left;exact rfl;(focus ((repeat (first|exact aA _ _ _|assumption|refine (aC (by assumption)).trans ?_));done));exact rfl;intro v hv;rotate_left;intro hv;rotate_left)|(apply muA pk sE (f:=uQ) (k:=(l[i]'(by assumption)).dot);(first|exact .inl rfl|exact .inr rfl);(iterate 5 exact rfl);(focus ((repeat (first|exact aA _ _ _|assumption|refine (aC (by assumption)).trans ?_));done));exact rfl)|(apply meA pk sE (f:=uQ) (z:=0) (k:=(l[i]'(by assumption)).dot);(iterate 6 exact rfl);(focus ((repeat (first|exact aA _ _ _|assumption|refine (aC (by assumption)).trans ?_));done));exact rfl)|(apply esA pk sE (f:=uQ);(iterate 4 exact rfl);(focus ((repeat (first|exact aA _ _ _|assumption|refine (aC (by assumption)).trans ?_));done));exact rfl)|(refine ⟨⟨i+1,by omega,by rw [hinv,hs (by omega),hs1 (by omega),hs2 (by omega)];simp [jV, *]⟩, ?_,by simp only;omega⟩;(simp only [hs1 (show i<l.length by omega),hs2 (show i<l.length by omega)]);(first|exact Sub.nil _ _ _ (StSub.refl _) rfl|((repeat (first|refine Sub.pv ?_ rfl|refine Sub.var ?_ rfl rfl));(first|exact Sub.nil _ _ _ (StSub.refl _) rfl|exact Sub.nil _ _ _ (aP (by assumption)) rfl|exact Sub.nil _ _ _ (aJ (by first|rfl|exact aT (by assumption)|((simp only [St.pv,St.put,St.sst,St.setv,St.nil,St.var,aK]);first|done|rfl))) rfl|(refine Sub.nil _ _ _ (aJ ?_) rfl;(simp only [St.pv,St.put,St.sst,St.setv,St.nil,St.var,aK]);(rw [cI (by assumption)]);first|done|rfl)))))|(intros;(try simp only [zql]);omega)))
  have e1:l.take i=l:=List.take_of_length_le (by omega)
  have w1:gC l [] []=true:=by rw [hinv,List.drop_eq_nil_of_le (by omega)];rfl
  refine aO (X:={x:Nat//x≤l.length∧(l.take x).all (adX (cU (l.take i)))=true}) (fun y=>(((((St.nil 94 (upd (upd st id1 (some (.map (aZ Nm.enc ptF (cU (l.take i)))))) id2 (some (.map (aZ afZ uQ (dP (l.take i))))))).pv 4 (.mref id1)).pv 65 (.seq (l.map Pt.cells))).pv 66 ((PV.val (Value.int .i64 ((((l.map Pt.cells)).length:Nat)))))).pv 67 ((PV.val (Value.int .i64 ((y.1:Nat))))))) (fun y=>l.length-y.1) ⟨0,by omega,rfl⟩ ?_ (fun y=> ?_)
  · (first|exact Sub.nil _ _ _ (StSub.refl _) rfl|((repeat (first|refine Sub.pv ?_ rfl|refine Sub.var ?_ rfl rfl));(first|exact Sub.nil _ _ _ (StSub.refl _) rfl|exact Sub.nil _ _ _ (aP (by assumption)) rfl|exact Sub.nil _ _ _ (aJ (by first|rfl|exact aT (by assumption)|((simp only [St.pv,St.put,St.sst,St.setv,St.nil,St.var,aK]);first|done|rfl))) rfl|(refine Sub.nil _ _ _ (aJ ?_) rfl;(simp only [St.pv,St.put,St.sst,St.setv,St.nil,St.var,aK]);(rw [cI (by assumption)]);first|done|rfl))))
  clear hs hs1 hs2
  obtain ⟨y,hy,hall⟩:=y
  dsimp only
  (try (apply wO pk;exact rfl));(repeat' (first|(show All _;constructor)|(show Imp _ _;constructor)|(show ImpX _ _ _ _;constructor)|(apply wC pk;(iterate 2 exact rfl))|(apply wE pk;(iterate 2 exact rfl))|(apply wX pk;exact rfl)|(apply wN pk;exact rfl)|(apply wDm pk;exact rfl;kernel_rfl;exact rfl;exact rfl)|(apply aB;simp only [zqt,zqf])|(refine aD rfl (fun h=> ?_) (fun h=> ?_)<;>(try simp at h)<;>try (exfalso;omega))|((try refine aF ?_);(first|(refine ⟨_,_,_,rfl,Wk.refl _,StSub.refl _, ?_⟩;((first|(have e:cP l=false:=(by unfold cP;simp only [e1] at*;rw [w1,Bool.true_and,List.all_eq_false];refine ⟨l[y]'(by assumption),List.getElem_mem _, ?_⟩;simp [adX,Nm.ext_iff,Dt.ext_iff,Nm.zero,Dt.zero,and_assoc, *];try (intros;omega));exact ⟨⟨.val (.map none),by rw [e]⟩,rfl⟩)|(have e:cP l=true:=(by unfold cP;simp only [e1] at*;rw [w1,Bool.true_and,←hall,List.take_of_length_le (by omega)]);exact ⟨⟨.mref id1,by rw [e]⟩,rfl⟩)));done)|(refine ⟨_,_, ?zs,rfl,Wk.refl _, ?zh, ?zr⟩;(case zh=>(refine aG ?_ (by assumption);(repeat refine aG ?_ (by assumption));exact StSub.refl _));(case zr=>((first|(have e:cP l=false:=(by unfold cP;simp only [e1] at*;rw [w1,Bool.true_and,List.all_eq_false];refine ⟨l[y]'(by assumption),List.getElem_mem _, ?_⟩;simp [adX,Nm.ext_iff,Dt.ext_iff,Nm.zero,Dt.zero,and_assoc, *];try (intros;omega));exact ⟨⟨.val (.map none),by rw [e]⟩,rfl⟩)|(have e:cP l=true:=(by unfold cP;simp only [e1] at*;rw [w1,Bool.true_and,←hall,List.take_of_length_le (by omega)]);exact ⟨⟨.mref id1,by rw [e]⟩,rfl⟩)))))|refine ⟨_,_,_,rfl,Wk.refl _,StSub.refl _, ?_⟩))|(apply aN;(iterate 3 exact rfl);(intro _;(first|apply eH|apply jL|apply (jL Pt.zero))<;>first|assumption|omega);rotate_left;(iterate 2 exact rfl))|(apply bZ;(iterate 3 exact rfl);(intro _;(first|apply eH|apply jL|apply (jL Pt.zero))<;>first|assumption|omega);rotate_left;(iterate 2 exact rfl))|(apply aW pk;(iterate 6 exact rfl);rotate_left;exact rfl;(intro hw;exact rfl);(intro hw;apply aI<;>omega);(intro _;exact rfl);exact rfl)|(apply ncA;(iterate 3 exact rfl);rotate_left;exact rfl;exact rfl)|(apply ldR pk;exact rfl;exact rfl;rotate_left;exact rfl;(focus ((repeat (first|exact aA _ _ _|assumption|refine (aC (by assumption)).trans ?_));done));exact rfl;exact rfl)|(apply stR pk;exact rfl;exact rfl;(focus ((repeat (first|exact aA _ _ _|assumption|refine (aC (by assumption)).trans ?_));done));exact rfl;exact rfl)|(apply adT pk Nm.key (f:=ptF);(iterate 5 exact rfl);rotate_left;exact rfl;(focus ((repeat (first|exact aA _ _ _|assumption|refine (aC (by assumption)).trans ?_));done));exact rfl;intro v hv;rotate_left;intro hv;rotate_left)|(apply muA pk Nm.key (f:=ptF);(first|exact .inl rfl|exact .inr rfl);(iterate 5 exact rfl);(focus ((repeat (first|exact aA _ _ _|assumption|refine (aC (by assumption)).trans ?_));done));exact rfl)|(apply meA pk Nm.key (f:=ptF) (z:=Pt.zero);(iterate 6 exact rfl);(focus ((repeat (first|exact aA _ _ _|assumption|refine (aC (by assumption)).trans ?_));done));exact rfl)|(apply esA pk Nm.key (f:=ptF);(iterate 4 exact rfl);(focus ((repeat (first|exact aA _ _ _|assumption|refine (aC (by assumption)).trans ?_));done));exact rfl)|(refine ⟨⟨y+1,by omega,by simp only [e1] at*;rw [List.take_succ_eq_append_getElem (by omega),List.all_append,hall];simp [adX,Nm.ext_iff,Dt.ext_iff,Nm.zero,Dt.zero,and_assoc, *];try grind⟩, ?_,by simp only;omega⟩;(first|exact Sub.nil _ _ _ (StSub.refl _) rfl|((repeat (first|refine Sub.pv ?_ rfl|refine Sub.var ?_ rfl rfl));(first|exact Sub.nil _ _ _ (StSub.refl _) rfl|exact Sub.nil _ _ _ (aP (by assumption)) rfl|exact Sub.nil _ _ _ (aJ (by first|rfl|exact aT (by assumption)|((simp only [St.pv,St.put,St.sst,St.setv,St.nil,St.var,aK]);first|done|rfl))) rfl|(refine Sub.nil _ _ _ (aJ ?_) rfl;(simp only [St.pv,St.put,St.sst,St.setv,St.nil,St.var,aK]);(rw [cI (by assumption)]);first|done|rfl)))))|(intros;(try simp only [zql]);omega)))
end Go.Proofs.YtddmbnddgiebgaaGreatDoor.T
