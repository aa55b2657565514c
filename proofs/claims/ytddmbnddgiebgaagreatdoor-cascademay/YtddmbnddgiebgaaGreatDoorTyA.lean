import Derived.Test.YtddmbnddgiebgaaGreatDoorBsFn
import Derived.Test.YtddmbnddgiebgaaGreatDoorBsLay
import Derived.Test.YtddmbnddgiebgaaGreatDoorAbsE
set_option linter.unusedSimpArgs false
set_option linter.unusedVariables false
namespace Go.Proofs.YtddmbnddgiebgaaGreatDoor.T
open Go Go.Abs
structure Sp where
  time:Int
  dev:Int
  seq:Int
  deriving DecidableEq,Inhabited
def Sp.cells (a:Sp):List PV:=[.val (.int .i64 (a.time)), .val (.int .i64 (a.dev)), .val (.int .i64 (a.seq))]
def Sp.zero :Sp:=⟨0,0,0⟩
theorem Sp.ext_iff (a b:Sp):a=b↔a.time=b.time∧a.dev=b.dev∧a.seq=b.seq:=by cases a;cases b;simp
theorem Sp.eqb (a b:Sp):(decide (a.time=b.time)&&(decide (a.dev=b.dev)&&(decide (a.seq=b.seq))))=decide (a=b):=by rw [Bool.eq_iff_iff];simp [Sp.ext_iff]
theorem Sp.eqz (a:Sp):(decide (a.time=0)&&(decide (a.dev=0)&&(decide (a.seq=0))))=decide (a=Sp.zero):=by rw [Bool.eq_iff_iff];simp [Sp.ext_iff,Sp.zero]
theorem Sp.elem :Elem tt 230 Sp.cells (fun a=> .agg a.cells) 3:=⟨rfl,fun _=>rfl,fun _=>rfl,fun _=>rfl,fun _=>rfl⟩
structure Nm where
  dot:Dt
  at_:Int
  deriving DecidableEq,Inhabited
def Nm.cells (a:Nm):List PV:=[.val (.int .i64 (a.dot.dev)), .val (.int .i64 (a.dot.seq)), .val (.int .i64 (a.at_))]
def Nm.zero :Nm:=⟨Dt.zero,0⟩
theorem Nm.ext_iff (a b:Nm):a=b↔a.dot=b.dot∧a.at_=b.at_:=by cases a;cases b;simp
theorem Nm.eqb (a b:Nm):(decide (a.dot=b.dot)&&(decide (a.at_=b.at_)))=decide (a=b):=by rw [Bool.eq_iff_iff];simp [Nm.ext_iff]
theorem Nm.eqz (a:Nm):(decide (a.dot=Dt.zero)&&(decide (a.at_=0)))=decide (a=Nm.zero):=by rw [Bool.eq_iff_iff];simp [Nm.ext_iff,Nm.zero]
theorem Nm.elem :Elem tt 209 Nm.cells (fun a=> .agg a.cells) 3:=⟨rfl,fun _=>rfl,fun _=>rfl,fun _=>rfl,fun _=>rfl⟩
end Go.Proofs.YtddmbnddgiebgaaGreatDoor.T
namespace Go.Proofs.YtddmbnddgiebgaaGreatDoor.T
open Go Go.Abs
attribute [local irreducible] Ev PWp
set_option maxRecDepth 10000
def aZ (p:Pt):Nm:=⟨p.dot,p.at_⟩
def bE (p:Pt):Nm:=⟨p.after,p.afterAt⟩
def cL (p:Pt):Sp:=⟨p.time,p.dot.dev,p.dot.seq⟩
def gU (n a b:Int):Bool:=decide (n≥a)&&decide (n≤b)
def akG (n:Nm):Bool:=(gU n.dot.dev 1 64&&gU n.dot.seq 1 1048576)&&gU n.at_ 0 1999
def dM (p:Pt):Bool:=((((decide (p.val.kind=1)&&decide (p.val.s=e0))&&gU p.val.n 0 255)&&gU p.time 1 1125899906842624)&&akG (aZ p))&&(decide (bE p=Nm.zero)||akG (bE p))
def mJ (a b:Sp):Bool:=if a.time≠b.time then decide (a.time<b.time) else if a.dev≠b.dev then decide (a.dev<b.dev) else decide (a.seq<b.seq)
def dP (p q:Pt):Bool:=mJ (cL p) (cL q)||(decide (cL p=cL q)&&decide (p.at_<q.at_))
theorem jA (p:Pt):PF Tryz.prog 187 [.agg p.cells] (.agg (aZ p).cells):=by
  refine aM aH Tryz.func187 (by kernel_rfl) rfl rfl rfl rfl (fun st=> ?_)
  (try (apply wO pk;exact rfl));(repeat' (first|(show All _;constructor)|(show Imp _ _;constructor)|(show ImpX _ _ _ _;constructor)|(apply wC pk;(iterate 2 exact rfl))|(apply wE pk;(iterate 2 exact rfl))|(apply wX pk;exact rfl)|(apply wN pk;exact rfl)|(apply wD pk [] [];kernel_rfl;exact rfl;exact rfl)|(apply aC;simp only [zqt,zqf])|(refine aD rfl (fun h=> ?_) (fun h=> ?_)<;>(try simp at h)<;>try (exfalso;omega))|(refine aF ?_;refine ⟨_,_,_,rfl,Wk.refl _,StSub.refl _, ?_,rfl⟩;try rfl)|(intros;(try simp only [zql]);omega)))
theorem eD (p:Pt):PF Tryz.prog 189 [.agg p.cells] (.agg (bE p).cells):=by
  refine aM aH Tryz.func189 (by kernel_rfl) rfl rfl rfl rfl (fun st=> ?_)
  (try (apply wO pk;exact rfl));(repeat' (first|(show All _;constructor)|(show Imp _ _;constructor)|(show ImpX _ _ _ _;constructor)|(apply wC pk;(iterate 2 exact rfl))|(apply wE pk;(iterate 2 exact rfl))|(apply wX pk;exact rfl)|(apply wN pk;exact rfl)|(apply wD pk [] [];kernel_rfl;exact rfl;exact rfl)|(apply aC;simp only [zqt,zqf])|(refine aD rfl (fun h=> ?_) (fun h=> ?_)<;>(try simp at h)<;>try (exfalso;omega))|(refine aF ?_;refine ⟨_,_,_,rfl,Wk.refl _,StSub.refl _, ?_,rfl⟩;try rfl)|(intros;(try simp only [zql]);omega)))
theorem jK (p:Pt):PF Tryz.prog 211 [.agg p.cells] (.agg (cL p).cells):=by
  refine aM aH Tryz.func211 (by kernel_rfl) rfl rfl rfl rfl (fun st=> ?_)
  (try (apply wO pk;exact rfl));(repeat' (first|(show All _;constructor)|(show Imp _ _;constructor)|(show ImpX _ _ _ _;constructor)|(apply wC pk;(iterate 2 exact rfl))|(apply wE pk;(iterate 2 exact rfl))|(apply wX pk;exact rfl)|(apply wN pk;exact rfl)|(apply wD pk [] [];kernel_rfl;exact rfl;exact rfl)|(apply aC;simp only [zqt,zqf])|(refine aD rfl (fun h=> ?_) (fun h=> ?_)<;>(try simp at h)<;>try (exfalso;omega))|(refine aF ?_;refine ⟨_,_,_,rfl,Wk.refl _,StSub.refl _, ?_,rfl⟩;try rfl)|(intros;(try simp only [zql]);omega)))
theorem qM (n a b:Int):PF Tryz.prog 209 [(PV.val (Value.int .i64 (n))),(PV.val (Value.int .i64 (a))),(PV.val (Value.int .i64 (b)))] (PV.val (Value.bool (gU n a b))):=by
  refine aM aH Tryz.func209 (by kernel_rfl) rfl rfl rfl rfl (fun st=> ?_)
  (try (apply wO pk;exact rfl));(repeat' (first|(show All _;constructor)|(show Imp _ _;constructor)|(show ImpX _ _ _ _;constructor)|(apply wC pk;(iterate 2 exact rfl))|(apply wE pk;(iterate 2 exact rfl))|(apply wX pk;exact rfl)|(apply wN pk;exact rfl)|(apply wD pk [] [];kernel_rfl;exact rfl;exact rfl)|(apply aC;simp only [zqt,zqf])|(refine aD rfl (fun h=> ?_) (fun h=> ?_)<;>(try simp at h)<;>try (exfalso;omega))|(refine aF ?_;refine ⟨_,_,_,rfl,Wk.refl _,StSub.refl _, ?_,rfl⟩;try rfl)|(intros;(try simp only [zql]);omega)))
theorem yP (n:Nm):PF Tryz.prog 210 [.agg n.cells] (PV.val (Value.bool (akG n))):=by
  refine aM aH Tryz.func210 (by kernel_rfl) rfl rfl rfl rfl (fun st=> ?_)
  (try (apply wO pk;exact rfl));(repeat' (first|(show All _;constructor)|(show Imp _ _;constructor)|(show ImpX _ _ _ _;constructor)|(apply wC pk;(iterate 2 exact rfl))|(apply wE pk;(iterate 2 exact rfl))|(apply wX pk;exact rfl)|(apply wN pk;exact rfl)|(apply wD pk [] [];kernel_rfl;exact rfl;exact rfl)|(apply aC;simp only [zqt,zqf])|(refine aD rfl (fun h=> ?_) (fun h=> ?_)<;>(try simp at h)<;>try (exfalso;omega))|(refine aF ?_;refine ⟨_,_,_,rfl,Wk.refl _,StSub.refl _, ?_,rfl⟩;try rfl)|(apply aK;(iterate 3 exact rfl);(intro _;apply qM<;>first|assumption|omega);rotate_left;(iterate 2 exact rfl))|(intros;(try simp only [zql]);omega)))
theorem pZ (p:Pt):PF Tryz.prog 188 [.agg p.cells] (PV.val (Value.bool (dM p))):=by
  refine aM aH Tryz.func188 (by kernel_rfl) rfl rfl rfl rfl (fun st=> ?_)
  (try (apply wO pk;exact rfl));(repeat' (first|(show All _;constructor)|(show Imp _ _;constructor)|(show ImpX _ _ _ _;constructor)|(apply wC pk;(iterate 2 exact rfl))|(apply wE pk;(iterate 2 exact rfl))|(apply wX pk;exact rfl)|(apply wN pk;exact rfl)|(apply wD pk [] [];kernel_rfl;exact rfl;exact rfl)|(apply aC;simp only [zqt,zqf])|(refine aD rfl (fun h=> ?_) (fun h=> ?_)<;>(try simp at h)<;>try (exfalso;omega))|(refine aF ?_;refine ⟨_,_,_,rfl,Wk.refl _,StSub.refl _, ?_,rfl⟩;try first|rfl|(simp only [dM,Dt.eqz,Nm.eqz];done))|(apply aK;(iterate 3 exact rfl);(intro _;(first|apply qM|apply (jA p)|apply (eD p)|apply (yP (aZ p))|apply (yP (bE p)))<;>first|assumption|omega);rotate_left;(iterate 2 exact rfl))|(intros;(try simp only [zql]);omega)))
def auK (a:Sp):List PV:=[(PV.val (Value.int .i64 (a.time))),(PV.val (Value.int .i64 (a.dev))),(PV.val (Value.int .i64 (a.seq)))]
theorem aaG (a:Sp):PF Tryz.prog 251 [.agg a.cells] (.agg (auK a)):=by
  refine aM aH Tryz.func251 (by kernel_rfl) rfl rfl rfl rfl (fun st=> ?_)
  (try (apply wO pk;exact rfl));(repeat' (first|(show All _;constructor)|(show Imp _ _;constructor)|(show ImpX _ _ _ _;constructor)|(apply wC pk;(iterate 2 exact rfl))|(apply wE pk;(iterate 2 exact rfl))|(apply wX pk;exact rfl)|(apply wN pk;exact rfl)|(apply wD pk [] [];kernel_rfl;exact rfl;exact rfl)|(apply aC;simp only [zqt,zqf])|(refine aD rfl (fun h=> ?_) (fun h=> ?_)<;>(try simp at h)<;>try (exfalso;omega))|(refine aF ?_;refine ⟨_,_,_,rfl,Wk.refl _,StSub.refl _, ?_,rfl⟩;try rfl)|(intros;(try simp only [zql]);omega)))
def xB :List Int→List Int→Int
  |[],[]=>0
  |[],_::_=> -1
  |_::_,[]=>1
  |a::l,b::m=>if eN a b=0 then xB l m else eN a b
theorem vQ {l m:List Int} {i:Nat} (h:i<l.length) (h2:i<m.length):xB (l.drop i) (m.drop i)=if eN l[i] m[i]=0 then xB (l.drop (i+1)) (m.drop (i+1)) else eN l[i] m[i]:=by
  rw [List.drop_eq_getElem_cons h,List.drop_eq_getElem_cons h2,xB]
theorem wA (l m:List Int) (hl:l.length<4611686018427387904):PF Tryz.prog 252 [.seq (l.map I1), .seq (m.map I1)] (PV.val (Value.int .i64 (xB l m))):=by
  refine aM aH Tryz.func252 (by kernel_rfl) rfl rfl rfl rfl (fun st=> ?_)
  (try (apply wO pk;exact rfl));(repeat' (first|(show All _;constructor)|(show Imp _ _;constructor)|(show ImpX _ _ _ _;constructor)|(apply wC pk;(iterate 2 exact rfl))|(apply wE pk;(iterate 2 exact rfl))|(apply wX pk;exact rfl)|(apply wN pk;exact rfl)|(apply wD pk [] [];kernel_rfl;exact rfl;exact rfl)|(apply aC;simp only [zqt,zqf])|(refine aD rfl (fun h=> ?_) (fun h=> ?_)<;>(try simp at h)<;>try (exfalso;omega))|(refine aF ?_;refine ⟨_,_,_,rfl,Wk.refl _,StSub.refl _, ?_,rfl⟩;try rfl)|(intros;(try simp only [zql]);omega)))
  refine aP (X:={x:Nat//x≤l.length∧x≤m.length∧xB (l.drop x) (m.drop x)=xB l m}) (fun i=>((((((St.nil 36 st).pv 0 (.seq (l.map I1))).pv 1 (.seq (m.map I1))).pv 9 (.seq (l.map I1))).pv 10 ((PV.val (Value.int .i64 ((((l.map I1)).length:Nat)))))).pv 11 ((PV.val (Value.int .i64 ((i.1:Nat))))))) (fun i=>l.length-i.1) ⟨0,by omega,by omega,by simp⟩ ?_ (fun i=> ?_)
  · ((repeat (first|refine Sub.pv ?_ rfl|refine Sub.var ?_ rfl rfl));exact Sub.nil _ _ _ (StSub.refl _) rfl)
  obtain ⟨i,h1,h2,hinv⟩:=i
  dsimp only
  (try (apply wO pk;exact rfl));(repeat' (first|(show All _;constructor)|(show Imp _ _;constructor)|(show ImpX _ _ _ _;constructor)|(apply wC pk;(iterate 2 exact rfl))|(apply wE pk;(iterate 2 exact rfl))|(apply wX pk;exact rfl)|(apply wN pk;exact rfl)|(apply wD pk [] [];kernel_rfl;exact rfl;exact rfl)|(apply aC;simp only [zqt,zqf])|(refine aD rfl (fun h=> ?_) (fun h=> ?_)<;>(try simp at h)<;>try (exfalso;omega))|(refine aF ?_;refine ⟨_,_,_,rfl,Wk.refl _,StSub.refl _, ?_,rfl⟩;try first|rfl|((rw [←hinv];(first|(rw [vQ (by omega) (by omega),if_neg (by assumption)];done)|(rw [List.drop_eq_nil_of_le (show l.length≤i by omega),List.drop_eq_getElem_cons (show i<m.length by omega)];rfl)|(rw [List.drop_eq_nil_of_le (show l.length≤i by omega),List.drop_eq_nil_of_le (show m.length≤i by omega)];rfl)|(rw [List.drop_eq_nil_of_le (show m.length≤i by omega),List.drop_eq_getElem_cons (show i<l.length by omega)];rfl)));done))|(apply aK;(iterate 3 exact rfl);(intro _;apply (eK _ _)<;>first|assumption|omega);rotate_left;(iterate 2 exact rfl))|(apply bD pk;(iterate 6 exact rfl);rotate_left;exact rfl;(intro hw;exact rfl);(intro hw;apply aJ<;>omega);(intro _;exact rfl);exact rfl)|(refine ⟨⟨i+1,by omega,by omega,by rw [←hinv,vQ (i:=i) (by omega) (by omega),if_pos (by assumption)]⟩, ?_,by simp only;omega⟩;((repeat (first|refine Sub.pv ?_ rfl|refine Sub.var ?_ rfl rfl));exact Sub.nil _ _ _ (StSub.refl _) rfl))|(intros;(try simp only [zql]);omega)))
def anB (a b:Sp):Int:=if a=b then 0 else xB [a.time,a.dev,a.seq] [b.time,b.dev,b.seq]
theorem agK (a b:Sp):PF Tryz.prog 234 [.agg a.cells, .agg b.cells] (PV.val (Value.int .i64 (anB a b))):=by
  refine aM aH Tryz.func234 (by kernel_rfl) rfl rfl rfl rfl (fun st=> ?_)
  (try (apply wO pk;exact rfl));(repeat' (first|(apply aqU 5;(iterate 3 exact rfl))|(apply aqU 6;(iterate 3 exact rfl))|(show All _;constructor)|(show Imp _ _;constructor)|(show ImpX _ _ _ _;constructor)|(apply wC pk;(iterate 2 exact rfl))|(apply wE pk;(iterate 2 exact rfl))|(apply wX pk;exact rfl)|(apply wN pk;exact rfl)|(apply wD pk [] [];kernel_rfl;exact rfl;exact rfl)|(apply aC;simp only [zqt,zqf])|(refine aD rfl (fun h=> ?_) (fun h=> ?_)<;>(try simp at h)<;>try (exfalso;omega))|(refine aF ?_;refine ⟨_,_,_,rfl,Wk.refl _,StSub.refl _, ?_,rfl⟩;try first|rfl|((simp_all [anB,Sp.ext_iff];done);done))|(apply aK;(iterate 3 exact rfl);(intro _;(first|apply (aaG a)|apply (aaG b)|apply (wA [a.time,a.dev,a.seq] [b.time,b.dev,b.seq] (show 3<4611686018427387904 from by omega)))<;>first|assumption|omega);rotate_left;(iterate 2 exact rfl))|(apply slA pk (rows:=[a.time,a.dev,a.seq].map I1);(iterate 7 exact rfl);rotate_left;exact rfl;exact rfl)|(apply slA pk (rows:=[b.time,b.dev,b.seq].map I1);(iterate 7 exact rfl);rotate_left;exact rfl;exact rfl)|(intros;(try simp only [zql]);omega)))
theorem vY (a b:Int):eN a b<0↔a<b:=by unfold eN;split<;>(try split)<;>omega
theorem aoO (a b:Int):eN a b=0↔a=b:=by unfold eN;split<;>(try split)<;>omega
theorem ahQ (a b:Sp):decide (anB a b<0)=mJ a b:=by
  unfold anB mJ
  by_cases h:a=b
  · subst h;simp
  · rw [if_neg h]
    simp only [xB,aoO]
    by_cases h1:a.time=b.time
    · by_cases h2:a.dev=b.dev
      · have h3:¬a.seq=b.seq:=fun e=>h ((Sp.ext_iff _ _).2 ⟨h1,h2,e⟩)
        simp [h1,h2,h3,vY]
      · simp [h1,h2,vY]
    · simp [h1,vY]
theorem uT (a b:Sp):PF Tryz.prog 212 [.agg a.cells, .agg b.cells] (PV.val (Value.bool (mJ a b))):=by
  rw [←ahQ]
  refine aM aH Tryz.func212 (by kernel_rfl) rfl rfl rfl rfl (fun st=> ?_)
  (try (apply wO pk;exact rfl));(repeat' (first|(show All _;constructor)|(show Imp _ _;constructor)|(show ImpX _ _ _ _;constructor)|(apply wC pk;(iterate 2 exact rfl))|(apply wE pk;(iterate 2 exact rfl))|(apply wX pk;exact rfl)|(apply wN pk;exact rfl)|(apply wD pk [] [];kernel_rfl;exact rfl;exact rfl)|(apply aC;simp only [zqt,zqf])|(refine aD rfl (fun h=> ?_) (fun h=> ?_)<;>(try simp at h)<;>try (exfalso;omega))|(refine aF ?_;refine ⟨_,_,_,rfl,Wk.refl _,StSub.refl _, ?_,rfl⟩;try rfl)|(apply aK;(iterate 3 exact rfl);(intro _;apply (agK a b)<;>first|assumption|omega);rotate_left;(iterate 2 exact rfl))|(intros;(try simp only [zql]);omega)))
end Go.Proofs.YtddmbnddgiebgaaGreatDoor.T
namespace Go.Proofs.YtddmbnddgiebgaaGreatDoor.T
open Go Go.Abs
attribute [local irreducible] Ev PWp
set_option maxRecDepth 10000
set_option maxHeartbeats 1000000
theorem atH {f:FuncId} {args:List PV} {st:aI} {R R':PV→aI→Prop} (h:PC Tryz.prog f args st R) (hr:∀p st',R p st'→∃q,Wk p q∧R' q st'):PC Tryz.prog f args st R':=
  ⟨h.1,fun w g vs hm hv=>(h.2 w g vs hm hv).mono fun e w' ⟨v,r,st',g',h1,h2,h3,h4⟩=>by
    obtain ⟨q,k1,k2⟩:=hr _ _ h2
    exact ⟨v,q,st',g',h1,k2,k1 _ _ h3,h4⟩⟩
theorem Wk.und (p:PV):Wk p .und:=fun _ _ _=>by simp [Rep]
def Nm.vals (k:Nm):List Value:=[.int .i64 k.dot.dev, .int .i64 k.dot.seq, .int .i64 k.at_]
def aqN (k:Dt):List Value:=[.int .i64 k.dev, .int .i64 k.seq]
def Nm.enc (k:Nm):Value:= .agg k.vals.toArray
def aeF (k:Dt):Value:= .agg (aqN k).toArray
theorem Nm.key :KeyOK Tryz.prog 209 Nm.enc (fun k=> .agg k.cells):=
  nZ aH Nm.vals rfl rfl (fun _=>rfl) (fun a b=>by show some ((decide (a.dot.dev=b.dot.dev)&&decide (a.dot.seq=b.dot.seq))&&decide (a.at_=b.at_))=_;rw [Dt.eqb,Nm.eqb]) (fun _=>rfl) (by kernel_rfl)
theorem rM :KeyOK Tryz.prog 30 aeF (fun k=> .agg k.cells):=
  nZ aH aqN rfl rfl (fun _=>rfl) (fun a b=>by show some (decide (a.dev=b.dev)&&decide (a.seq=b.seq))=_;rw [Dt.eqb]) (fun _=>rfl) (by kernel_rfl)
def ptF (p:Pt):PV:= .agg p.cells
def tT (n:Int):PV:=(PV.val (Value.int .i64 (n)))
def cS (l:List Pt):List (Nm×Pt):=l.foldl (fun m p=>dD (aZ p) p m) []
def dN (l:List Pt):List (Dt×Int):=l.foldl (fun m p=>dD p.dot p.time m) []
def jH (m:List (Nm×Pt)) (t:List (Dt×Int)) (p:Pt):Bool:= !((dG (aZ p) m).isSome|| !dM p||(match dG p.dot t with|some x=>decide (x≠p.time)|none=>false))
def fS :List Pt→List (Nm×Pt)→List (Dt×Int)→Bool
  |[],_,_=>true
  |p::r,m,t=>jH m t p&&fS r (dD (aZ p) p m) (dD p.dot p.time t)
def acE (m:List (Nm×Pt)) (p:Pt):Bool:=decide (bE p=Nm.zero)||(match dG (bE p) m with|some u=>dP u p|none=>false)
def dK (l:List Pt):Bool:=fS l [] []&&l.all (acE (cS l))
theorem vV {l:List Pt} {i:Nat} (h:i<l.length):cS (l.take (i+1))=dD (aZ l[i]) l[i] (cS (l.take i)):=by
  rw [List.take_succ_eq_append_getElem h,cS,List.foldl_append];rfl
theorem wK {l:List Pt} {i:Nat} (h:i<l.length):dN (l.take (i+1))=dD l[i].dot l[i].time (dN (l.take i)):=by
  rw [List.take_succ_eq_append_getElem h,dN,List.foldl_append];rfl
theorem zS {l:List Pt} {i:Nat} (h:i<l.length) {m t}:fS (l.drop i) m t=(jH m t l[i]&&fS (l.drop (i+1)) (dD (aZ l[i]) l[i] m) (dD l[i].dot l[i].time t)):=by
  rw [List.drop_eq_getElem_cons h];rfl
theorem iZ (p q:Pt):PF Tryz.prog 190 [.agg p.cells, .agg q.cells] (PV.val (Value.bool (dP p q))):=by
  refine aM aH Tryz.func190 (by kernel_rfl) rfl rfl rfl rfl (fun st=> ?_)
  (try (apply wO pk;exact rfl));(repeat' (first|(show All _;constructor)|(show Imp _ _;constructor)|(show ImpX _ _ _ _;constructor)|(apply wC pk;(iterate 2 exact rfl))|(apply wE pk;(iterate 2 exact rfl))|(apply wX pk;exact rfl)|(apply wN pk;exact rfl)|(apply wD pk [] [];kernel_rfl;exact rfl;exact rfl)|(apply aC;simp only [zqt,zqf])|(refine aD rfl (fun h=> ?_) (fun h=> ?_)<;>(try simp at h)<;>try (exfalso;omega))|(refine aF ?_;refine ⟨_,_,_,rfl,Wk.refl _,StSub.refl _, ?_,rfl⟩;try first|rfl|(simp only [dP,Sp.eqb];done))|(apply aK;(iterate 3 exact rfl);(intro _;(first|apply (jK p)|apply (jK q)|apply (uT (cL p) (cL q)))<;>first|assumption|omega);rotate_left;(iterate 2 exact rfl))|(intros;(try simp only [zql]);omega)))
theorem amP (l:List Pt) (st:aI) (hl:l.length<4611686018427387904):PC Tryz.prog 152 [.seq (l.map Pt.cells)] st fun p st'=>(∃m,p= .tup [m,(PV.val (Value.bool (dK l)))])∧st'=st:=by
  refine dS aH Tryz.func152 (by kernel_rfl) rfl rfl rfl rfl ?_
  (try (apply wO pk;exact rfl));(repeat' (first|(show All _;constructor)|(show Imp _ _;constructor)|(show ImpX _ _ _ _;constructor)|(apply wC pk;(iterate 2 exact rfl))|(apply wE pk;(iterate 2 exact rfl))|(apply wX pk;exact rfl)|(apply wN pk;exact rfl)|(apply wD pk [] [];kernel_rfl;exact rfl;exact rfl)|(apply aC;simp only [zqt,zqf])|(refine aD rfl (fun h=> ?_) (fun h=> ?_)<;>(try simp at h)<;>try (exfalso;omega))|(refine aF ?_;refine ⟨_,_,_,rfl,Wk.refl _,StSub.refl _, ?_,rfl⟩;try rfl)|(intros;(try simp only [zql]);omega)))
  refine mkM (enc:=Nm.enc) (f:=ptF) rfl (fun id1 hid1=> ?_)
  (try (apply wO pk;exact rfl));(repeat' (first|(show All _;constructor)|(show Imp _ _;constructor)|(show ImpX _ _ _ _;constructor)|(apply wC pk;(iterate 2 exact rfl))|(apply wE pk;(iterate 2 exact rfl))|(apply wX pk;exact rfl)|(apply wN pk;exact rfl)|(apply wD pk [] [];kernel_rfl;exact rfl;exact rfl)|(apply aC;simp only [zqt,zqf])|(refine aD rfl (fun h=> ?_) (fun h=> ?_)<;>(try simp at h)<;>try (exfalso;omega))|(refine aF ?_;refine ⟨_,_,_,rfl,Wk.refl _,StSub.refl _, ?_,rfl⟩;try rfl)|(intros;(try simp only [zql]);omega)))
  refine mkM (enc:=aeF) (f:=tT) rfl (fun id2 hid2=> ?_)
  have hid1:st id1=none:=hid1
  have hne:id1≠id2:=by intro e;subst e;have:=hid2;simp only [St.put,St.pv,St.sst,aA] at this;cases this
  have hid2:st id2=none:=by have:=hid2;simp only [St.put,St.pv,St.sst] at this;exact (aB (Ne.symm hne)).symm.trans this
  have hne2:=Ne.symm hne
  (try (apply wO pk;exact rfl));(repeat' (first|(show All _;constructor)|(show Imp _ _;constructor)|(show ImpX _ _ _ _;constructor)|(apply wC pk;(iterate 2 exact rfl))|(apply wE pk;(iterate 2 exact rfl))|(apply wX pk;exact rfl)|(apply wN pk;exact rfl)|(apply wD pk [] [];kernel_rfl;exact rfl;exact rfl)|(apply aC;simp only [zqt,zqf])|(refine aD rfl (fun h=> ?_) (fun h=> ?_)<;>(try simp at h)<;>try (exfalso;omega))|(refine aF ?_;refine ⟨_,_,_,rfl,Wk.refl _,StSub.refl _, ?_,rfl⟩;try rfl)|(intros;(try simp only [zql]);omega)))
  refine aP (X:={x:Nat//x≤l.length∧fS l [] []=fS (l.drop x) (cS (l.take x)) (dN (l.take x))}) (fun i=>(((((((St.nil 94 (upd (upd st id1 (some (.map (aU Nm.enc ptF (cS (l.take i.1)))))) id2 (some (.map (aU aeF tT (dN (l.take i.1))))))).pv 0 (.seq (l.map Pt.cells))).pv 4 (.mref id1)).pv 5 (.mref id2)).pv 18 (.seq (l.map Pt.cells))).pv 19 ((PV.val (Value.int .i64 ((((l.map Pt.cells)).length:Nat)))))).pv 20 ((PV.val (Value.int .i64 ((i.1:Nat))))))) (fun i=>l.length-i.1) ⟨0,by omega,rfl⟩ ?_ (fun i=> ?_)
  · (first|exact Sub.nil _ _ _ (StSub.refl _) rfl|((repeat (first|refine Sub.pv ?_ rfl|refine Sub.var ?_ rfl rfl));(first|exact Sub.nil _ _ _ (StSub.refl _) rfl|exact Sub.nil _ _ _ (aS (by assumption)) rfl|exact Sub.nil _ _ _ (aL (by first|rfl|exact bJ (by assumption)|((simp only [St.pv,St.put,St.sst,St.setv,St.nil,St.var,aO]);first|done|rfl))) rfl|(refine Sub.nil _ _ _ (aL ?_) rfl;(simp only [St.pv,St.put,St.sst,St.setv,St.nil,St.var,aO]);(rw [eE (by assumption)]);first|done|rfl))))
  obtain ⟨i,hi,hinv⟩:=i
  dsimp only
  have hs:=fun h:i<l.length=>zS h (m:=cS (l.take i)) (t:=dN (l.take i))
  have hs1:=fun h:i<l.length=>vV h
  have hs2:=fun h:i<l.length=>wK h
  (try (apply wO pk;exact rfl));(repeat' (first|(show All _;constructor)|(show Imp _ _;constructor)|(show ImpX _ _ _ _;constructor)|(apply wC pk;(iterate 2 exact rfl))|(apply wE pk;(iterate 2 exact rfl))|(apply wX pk;exact rfl)|(apply wN pk;exact rfl)|(apply wDm pk;exact rfl;kernel_rfl;exact rfl;exact rfl)|(apply aC;simp only [zqt,zqf])|(refine aD rfl (fun h=> ?_) (fun h=> ?_)<;>(try simp at h)<;>try (exfalso;omega))|((try refine aF ?_);(first|(refine ⟨_,_,_,rfl,Wk.refl _,StSub.refl _, ?_⟩;((have e:dK l=false:=(by unfold dK;rw [hinv,hs (by omega)];first|(simp [jH, *];done)|(rcases ‹_∨_›with q|q<;>simp [jH, *]));exact ⟨⟨.val (.map none),by rw [e]⟩,rfl⟩));done)|(refine ⟨_,_, ?zs,rfl,Wk.refl _, ?zh, ?zr⟩;(case zh=>(refine aG ?_ (by assumption);(repeat refine aG ?_ (by assumption));exact StSub.refl _));(case zr=>((have e:dK l=false:=(by unfold dK;rw [hinv,hs (by omega)];first|(simp [jH, *];done)|(rcases ‹_∨_›with q|q<;>simp [jH, *]));exact ⟨⟨.val (.map none),by rw [e]⟩,rfl⟩))))|refine ⟨_,_,_,rfl,Wk.refl _,StSub.refl _, ?_⟩))|(apply aK;(iterate 3 exact rfl);(intro _;(first|apply jA|apply pZ)<;>first|assumption|omega);rotate_left;(iterate 2 exact rfl))|(apply dE;(iterate 3 exact rfl);(intro _;(first|apply jA|apply pZ)<;>first|assumption|omega);rotate_left;(iterate 2 exact rfl))|(apply bD pk;(iterate 6 exact rfl);rotate_left;exact rfl;(intro hw;exact rfl);(intro hw;apply aJ<;>omega);(intro _;exact rfl);exact rfl)|(apply ncA;(iterate 3 exact rfl);rotate_left;exact rfl;exact rfl)|(apply ldR pk;exact rfl;exact rfl;rotate_left;exact rfl;(focus ((repeat (first|exact aA _ _ _|assumption|refine (aB (by assumption)).trans ?_));done));exact rfl;exact rfl)|(apply stR pk;exact rfl;exact rfl;(focus ((repeat (first|exact aA _ _ _|assumption|refine (aB (by assumption)).trans ?_));done));exact rfl;exact rfl)|(apply abZ pk Nm.key (f:=ptF);(iterate 5 exact rfl);rotate_left;exact rfl;(focus ((repeat (first|exact aA _ _ _|assumption|refine (aB (by assumption)).trans ?_));done));exact rfl;intro v hv;rotate_left;intro hv;rotate_left)|(apply muA pk Nm.key (f:=ptF);(first|exact .inl rfl|exact .inr rfl);(iterate 5 exact rfl);(focus ((repeat (first|exact aA _ _ _|assumption|refine (aB (by assumption)).trans ?_));done));exact rfl)|(apply meA pk Nm.key (f:=ptF) (z:=Pt.zero);(iterate 6 exact rfl);(focus ((repeat (first|exact aA _ _ _|assumption|refine (aB (by assumption)).trans ?_));done));exact rfl)|(apply esA pk Nm.key (f:=ptF);(iterate 4 exact rfl);(focus ((repeat (first|exact aA _ _ _|assumption|refine (aB (by assumption)).trans ?_));done));exact rfl)|(apply abZ pk rM (f:=tT);(iterate 5 exact rfl);rotate_left;exact rfl;(focus ((repeat (first|exact aA _ _ _|assumption|refine (aB (by assumption)).trans ?_));done));exact rfl;intro v hv;rotate_left;intro hv;rotate_left)|(apply muA pk rM (f:=tT);(first|exact .inl rfl|exact .inr rfl);(iterate 5 exact rfl);(focus ((repeat (first|exact aA _ _ _|assumption|refine (aB (by assumption)).trans ?_));done));exact rfl)|(apply meA pk rM (f:=tT) (z:=0);(iterate 6 exact rfl);(focus ((repeat (first|exact aA _ _ _|assumption|refine (aB (by assumption)).trans ?_));done));exact rfl)|(apply abZ pk rM (f:=tT) (k:=(l[i]'(by assumption)).dot);(iterate 5 exact rfl);rotate_left;exact rfl;(focus ((repeat (first|exact aA _ _ _|assumption|refine (aB (by assumption)).trans ?_));done));exact rfl;intro v hv;rotate_left;intro hv;rotate_left)|(apply muA pk rM (f:=tT) (k:=(l[i]'(by assumption)).dot);(first|exact .inl rfl|exact .inr rfl);(iterate 5 exact rfl);(focus ((repeat (first|exact aA _ _ _|assumption|refine (aB (by assumption)).trans ?_));done));exact rfl)|(apply meA pk rM (f:=tT) (z:=0) (k:=(l[i]'(by assumption)).dot);(iterate 6 exact rfl);(focus ((repeat (first|exact aA _ _ _|assumption|refine (aB (by assumption)).trans ?_));done));exact rfl)|(apply esA pk rM (f:=tT);(iterate 4 exact rfl);(focus ((repeat (first|exact aA _ _ _|assumption|refine (aB (by assumption)).trans ?_));done));exact rfl)|(refine ⟨⟨i+1,by omega,by rw [hinv,hs (by omega),hs1 (by omega),hs2 (by omega)];simp [jH, *]⟩, ?_,by simp only;omega⟩;(simp only [hs1 (show i<l.length by omega),hs2 (show i<l.length by omega)]);(first|exact Sub.nil _ _ _ (StSub.refl _) rfl|((repeat (first|refine Sub.pv ?_ rfl|refine Sub.var ?_ rfl rfl));(first|exact Sub.nil _ _ _ (StSub.refl _) rfl|exact Sub.nil _ _ _ (aS (by assumption)) rfl|exact Sub.nil _ _ _ (aL (by first|rfl|exact bJ (by assumption)|((simp only [St.pv,St.put,St.sst,St.setv,St.nil,St.var,aO]);first|done|rfl))) rfl|(refine Sub.nil _ _ _ (aL ?_) rfl;(simp only [St.pv,St.put,St.sst,St.setv,St.nil,St.var,aO]);(rw [eE (by assumption)]);first|done|rfl)))))|(intros;(try simp only [zql]);omega)))
  have e1:l.take i=l:=List.take_of_length_le (by omega)
  have w1:fS l [] []=true:=by rw [hinv,List.drop_eq_nil_of_le (by omega)];rfl
  refine aP (X:={x:Nat//x≤l.length∧(l.take x).all (acE (cS (l.take i)))=true}) (fun y=>(((((St.nil 94 (upd (upd st id1 (some (.map (aU Nm.enc ptF (cS (l.take i)))))) id2 (some (.map (aU aeF tT (dN (l.take i))))))).pv 4 (.mref id1)).pv 65 (.seq (l.map Pt.cells))).pv 66 ((PV.val (Value.int .i64 ((((l.map Pt.cells)).length:Nat)))))).pv 67 ((PV.val (Value.int .i64 ((y.1:Nat))))))) (fun y=>l.length-y.1) ⟨0,by omega,rfl⟩ ?_ (fun y=> ?_)
  · (first|exact Sub.nil _ _ _ (StSub.refl _) rfl|((repeat (first|refine Sub.pv ?_ rfl|refine Sub.var ?_ rfl rfl));(first|exact Sub.nil _ _ _ (StSub.refl _) rfl|exact Sub.nil _ _ _ (aS (by assumption)) rfl|exact Sub.nil _ _ _ (aL (by first|rfl|exact bJ (by assumption)|((simp only [St.pv,St.put,St.sst,St.setv,St.nil,St.var,aO]);first|done|rfl))) rfl|(refine Sub.nil _ _ _ (aL ?_) rfl;(simp only [St.pv,St.put,St.sst,St.setv,St.nil,St.var,aO]);(rw [eE (by assumption)]);first|done|rfl))))
  clear hs hs1 hs2
  obtain ⟨y,hy,hall⟩:=y
  dsimp only
  (try (apply wO pk;exact rfl));(repeat' (first|(show All _;constructor)|(show Imp _ _;constructor)|(show ImpX _ _ _ _;constructor)|(apply wC pk;(iterate 2 exact rfl))|(apply wE pk;(iterate 2 exact rfl))|(apply wX pk;exact rfl)|(apply wN pk;exact rfl)|(apply wDm pk;exact rfl;kernel_rfl;exact rfl;exact rfl)|(apply aC;simp only [zqt,zqf])|(refine aD rfl (fun h=> ?_) (fun h=> ?_)<;>(try simp at h)<;>try (exfalso;omega))|((try refine aF ?_);(first|(refine ⟨_,_,_,rfl,Wk.refl _,StSub.refl _, ?_⟩;((first|(have e:dK l=false:=(by unfold dK;simp only [e1] at*;rw [w1,Bool.true_and,List.all_eq_false];refine ⟨l[y]'(by assumption),List.getElem_mem _, ?_⟩;simp [acE,Nm.ext_iff,Dt.ext_iff,Nm.zero,Dt.zero,and_assoc, *];try (intros;omega));exact ⟨⟨.val (.map none),by rw [e]⟩,rfl⟩)|(have e:dK l=true:=(by unfold dK;simp only [e1] at*;rw [w1,Bool.true_and,←hall,List.take_of_length_le (by omega)]);exact ⟨⟨.mref id1,by rw [e]⟩,rfl⟩)));done)|(refine ⟨_,_, ?zs,rfl,Wk.refl _, ?zh, ?zr⟩;(case zh=>(refine aG ?_ (by assumption);(repeat refine aG ?_ (by assumption));exact StSub.refl _));(case zr=>((first|(have e:dK l=false:=(by unfold dK;simp only [e1] at*;rw [w1,Bool.true_and,List.all_eq_false];refine ⟨l[y]'(by assumption),List.getElem_mem _, ?_⟩;simp [acE,Nm.ext_iff,Dt.ext_iff,Nm.zero,Dt.zero,and_assoc, *];try (intros;omega));exact ⟨⟨.val (.map none),by rw [e]⟩,rfl⟩)|(have e:dK l=true:=(by unfold dK;simp only [e1] at*;rw [w1,Bool.true_and,←hall,List.take_of_length_le (by omega)]);exact ⟨⟨.mref id1,by rw [e]⟩,rfl⟩)))))|refine ⟨_,_,_,rfl,Wk.refl _,StSub.refl _, ?_⟩))|(apply aK;(iterate 3 exact rfl);(intro _;(first|apply eD|apply iZ|apply (iZ Pt.zero))<;>first|assumption|omega);rotate_left;(iterate 2 exact rfl))|(apply dE;(iterate 3 exact rfl);(intro _;(first|apply eD|apply iZ|apply (iZ Pt.zero))<;>first|assumption|omega);rotate_left;(iterate 2 exact rfl))|(apply bD pk;(iterate 6 exact rfl);rotate_left;exact rfl;(intro hw;exact rfl);(intro hw;apply aJ<;>omega);(intro _;exact rfl);exact rfl)|(apply ncA;(iterate 3 exact rfl);rotate_left;exact rfl;exact rfl)|(apply ldR pk;exact rfl;exact rfl;rotate_left;exact rfl;(focus ((repeat (first|exact aA _ _ _|assumption|refine (aB (by assumption)).trans ?_));done));exact rfl;exact rfl)|(apply stR pk;exact rfl;exact rfl;(focus ((repeat (first|exact aA _ _ _|assumption|refine (aB (by assumption)).trans ?_));done));exact rfl;exact rfl)|(apply abZ pk Nm.key (f:=ptF);(iterate 5 exact rfl);rotate_left;exact rfl;(focus ((repeat (first|exact aA _ _ _|assumption|refine (aB (by assumption)).trans ?_));done));exact rfl;intro v hv;rotate_left;intro hv;rotate_left)|(apply muA pk Nm.key (f:=ptF);(first|exact .inl rfl|exact .inr rfl);(iterate 5 exact rfl);(focus ((repeat (first|exact aA _ _ _|assumption|refine (aB (by assumption)).trans ?_));done));exact rfl)|(apply meA pk Nm.key (f:=ptF) (z:=Pt.zero);(iterate 6 exact rfl);(focus ((repeat (first|exact aA _ _ _|assumption|refine (aB (by assumption)).trans ?_));done));exact rfl)|(apply esA pk Nm.key (f:=ptF);(iterate 4 exact rfl);(focus ((repeat (first|exact aA _ _ _|assumption|refine (aB (by assumption)).trans ?_));done));exact rfl)|(refine ⟨⟨y+1,by omega,by simp only [e1] at*;rw [List.take_succ_eq_append_getElem (by omega),List.all_append,hall];simp [acE,Nm.ext_iff,Dt.ext_iff,Nm.zero,Dt.zero,and_assoc, *];try grind⟩, ?_,by simp only;omega⟩;(first|exact Sub.nil _ _ _ (StSub.refl _) rfl|((repeat (first|refine Sub.pv ?_ rfl|refine Sub.var ?_ rfl rfl));(first|exact Sub.nil _ _ _ (StSub.refl _) rfl|exact Sub.nil _ _ _ (aS (by assumption)) rfl|exact Sub.nil _ _ _ (aL (by first|rfl|exact bJ (by assumption)|((simp only [St.pv,St.put,St.sst,St.setv,St.nil,St.var,aO]);first|done|rfl))) rfl|(refine Sub.nil _ _ _ (aL ?_) rfl;(simp only [St.pv,St.put,St.sst,St.setv,St.nil,St.var,aO]);(rw [eE (by assumption)]);first|done|rfl)))))|(intros;(try simp only [zql]);omega)))
end Go.Proofs.YtddmbnddgiebgaaGreatDoor.T
