import Derived.Test.YtddmbnddgiebgaaGreatDoorBsFn
import Derived.Test.YtddmbnddgiebgaaGreatDoorBsLay
import Derived.Test.YtddmbnddgiebgaaGreatDoorAbsE
set_option linter.unusedSimpArgs false
set_option linter.unusedVariables false
namespace Go.Proofs.YtddmbnddgiebgaaGreatDoor.T
open Go Go.Abs
structure Sp where
  time:Int
  dev:Int
  seq:Int
  deriving DecidableEq,Inhabited
def Sp.cells (a:Sp):List PV:=[.val (.int .i64 (a.time)), .val (.int .i64 (a.dev)), .val (.int .i64 (a.seq))]
def Sp.zero :Sp:=⟨0,0,0⟩
theorem Sp.ext_iff (a b:Sp):a=b↔a.time=b.time∧a.dev=b.dev∧a.seq=b.seq:=by cases a;cases b;simp
theorem Sp.eqb (a b:Sp):(decide (a.time=b.time)&&(decide (a.dev=b.dev)&&(decide (a.seq=b.seq))))=decide (a=b):=by rw [Bool.eq_iff_iff];simp [Sp.ext_iff]
theorem Sp.eqz (a:Sp):(decide (a.time=0)&&(decide (a.dev=0)&&(decide (a.seq=0))))=decide (a=Sp.zero):=by rw [Bool.eq_iff_iff];simp [Sp.ext_iff,Sp.zero]
theorem Sp.elem :Elem tt 230 Sp.cells (fun a=> .agg a.cells) 3:=⟨rfl,fun _=>rfl,fun _=>rfl,fun _=>rfl,fun _=>rfl⟩
structure Nm where
  dot:Dt
  at_:Int
  deriving DecidableEq,Inhabited
def Nm.cells (a:Nm):List PV:=[.val (.int .i64 (a.dot.dev)), .val (.int .i64 (a.dot.seq)), .val (.int .i64 (a.at_))]
def Nm.zero :Nm:=⟨Dt.zero,0⟩
theorem Nm.ext_iff (a b:Nm):a=b↔a.dot=b.dot∧a.at_=b.at_:=by cases a;cases b;simp
theorem Nm.eqb (a b:Nm):(decide (a.dot=b.dot)&&(decide (a.at_=b.at_)))=decide (a=b):=by rw [Bool.eq_iff_iff];simp [Nm.ext_iff]
theorem Nm.eqz (a:Nm):(decide (a.dot=Dt.zero)&&(decide (a.at_=0)))=decide (a=Nm.zero):=by rw [Bool.eq_iff_iff];simp [Nm.ext_iff,Nm.zero]
theorem Nm.elem :Elem tt 209 Nm.cells (fun a=> .agg a.cells) 3:=⟨rfl,fun _=>rfl,fun _=>rfl,fun _=>rfl,fun _=>rfl⟩
end Go.Proofs.YtddmbnddgiebgaaGreatDoor.T
namespace Go.Proofs.YtddmbnddgiebgaaGreatDoor.T
open Go Go.Abs
attribute [local irreducible] Ev PWp
set_option maxRecDepth 10000
def bA (p:Pt):Nm:=⟨p.dot,p.at_⟩
def bG (p:Pt):Nm:=⟨p.after,p.afterAt⟩
def cT (p:Pt):Sp:=⟨p.time,p.dot.dev,p.dot.seq⟩
def iF (n a b:Int):Bool:=decide (n≥a)&&decide (n≤b)
def akW (n:Nm):Bool:=(iF n.dot.dev 1 64&&iF n.dot.seq 1 1048576)&&iF n.at_ 0 1999
def dM (p:Pt):Bool:=((((decide (p.val.kind=1)&&decide (p.val.s=e0))&&iF p.val.n 0 255)&&iF p.time 1 1125899906842624)&&akW (bA p))&&(decide (bG p=Nm.zero)||akW (bG p))
def mX (a b:Sp):Bool:=if a.time≠b.time then decide (a.time<b.time) else if a.dev≠b.dev then decide (a.dev<b.dev) else decide (a.seq<b.seq)
def dR (p q:Pt):Bool:=mX (cT p) (cT q)||(decide (cT p=cT q)&&decide (p.at_<q.at_))
theorem jS (p:Pt):PF Tryz.prog 187 [.agg p.cells] (.agg (bA p).cells):=by
  refine aL aH Tryz.func187 (by kernel_rfl) rfl rfl rfl rfl (fun st=> ?_)
  (try (apply wO pk;exact rfl));(repeat' (first|(show All _;constructor)|(show Imp _ _;constructor)|(show ImpX _ _ _ _;constructor)|(apply wC pk;(iterate 2 exact rfl))|(apply wE pk;(iterate 2 exact rfl))|(apply wX pk;exact rfl)|(apply wN pk;exact rfl)|(apply wD pk [] [];kernel_rfl;exact rfl;exact rfl)|(apply aC;simp only [zqt,zqf])|(refine aD rfl (fun h=> ?_) (fun h=> ?_)<;>(try simp at h)<;>try (exfalso;omega))|(refine aF ?_;refine ⟨_,_,_,rfl,Wk.refl _,StSub.refl _, ?_,rfl⟩;try rfl)|(intros;(try simp only [zql]);omega)))
theorem eI (p:Pt):PF Tryz.prog 189 [.agg p.cells] (.agg (bG p).cells):=by
  refine aL aH Tryz.func189 (by kernel_rfl) rfl rfl rfl rfl (fun st=> ?_)
  (try (apply wO pk;exact rfl));(repeat' (first|(show All _;constructor)|(show Imp _ _;constructor)|(show ImpX _ _ _ _;constructor)|(apply wC pk;(iterate 2 exact rfl))|(apply wE pk;(iterate 2 exact rfl))|(apply wX pk;exact rfl)|(apply wN pk;exact rfl)|(apply wD pk [] [];kernel_rfl;exact rfl;exact rfl)|(apply aC;simp only [zqt,zqf])|(refine aD rfl (fun h=> ?_) (fun h=> ?_)<;>(try simp at h)<;>try (exfalso;omega))|(refine aF ?_;refine ⟨_,_,_,rfl,Wk.refl _,StSub.refl _, ?_,rfl⟩;try rfl)|(intros;(try simp only [zql]);omega)))
theorem kF (p:Pt):PF Tryz.prog 211 [.agg p.cells] (.agg (cT p).cells):=by
  refine aL aH Tryz.func211 (by kernel_rfl) rfl rfl rfl rfl (fun st=> ?_)
  (try (apply wO pk;exact rfl));(repeat' (first|(show All _;constructor)|(show Imp _ _;constructor)|(show ImpX _ _ _ _;constructor)|(apply wC pk;(iterate 2 exact rfl))|(apply wE pk;(iterate 2 exact rfl))|(apply wX pk;exact rfl)|(apply wN pk;exact rfl)|(apply wD pk [] [];kernel_rfl;exact rfl;exact rfl)|(apply aC;simp only [zqt,zqf])|(refine aD rfl (fun h=> ?_) (fun h=> ?_)<;>(try simp at h)<;>try (exfalso;omega))|(refine aF ?_;refine ⟨_,_,_,rfl,Wk.refl _,StSub.refl _, ?_,rfl⟩;try rfl)|(intros;(try simp only [zql]);omega)))
theorem qS (n a b:Int):PF Tryz.prog 209 [(PV.val (Value.int .i64 (n))),(PV.val (Value.int .i64 (a))),(PV.val (Value.int .i64 (b)))] (PV.val (Value.bool (iF n a b))):=by
  refine aL aH Tryz.func209 (by kernel_rfl) rfl rfl rfl rfl (fun st=> ?_)
  (try (apply wO pk;exact rfl));(repeat' (first|(show All _;constructor)|(show Imp _ _;constructor)|(show ImpX _ _ _ _;constructor)|(apply wC pk;(iterate 2 exact rfl))|(apply wE pk;(iterate 2 exact rfl))|(apply wX pk;exact rfl)|(apply wN pk;exact rfl)|(apply wD pk [] [];kernel_rfl;exact rfl;exact rfl)|(apply aC;simp only [zqt,zqf])|(refine aD rfl (fun h=> ?_) (fun h=> ?_)<;>(try simp at h)<;>try (exfalso;omega))|(refine aF ?_;refine ⟨_,_,_,rfl,Wk.refl _,StSub.refl _, ?_,rfl⟩;try rfl)|(intros;(try simp only [zql]);omega)))
theorem yW (n:Nm):PF Tryz.prog 210 [.agg n.cells] (PV.val (Value.bool (akW n))):=by
  refine aL aH Tryz.func210 (by kernel_rfl) rfl rfl rfl rfl (fun st=> ?_)
  (try (apply wO pk;exact rfl));(repeat' (first|(show All _;constructor)|(show Imp _ _;constructor)|(show ImpX _ _ _ _;constructor)|(apply wC pk;(iterate 2 exact rfl))|(apply wE pk;(iterate 2 exact rfl))|(apply wX pk;exact rfl)|(apply wN pk;exact rfl)|(apply wD pk [] [];kernel_rfl;exact rfl;exact rfl)|(apply aC;simp only [zqt,zqf])|(refine aD rfl (fun h=> ?_) (fun h=> ?_)<;>(try simp at h)<;>try (exfalso;omega))|(refine aF ?_;refine ⟨_,_,_,rfl,Wk.refl _,StSub.refl _, ?_,rfl⟩;try rfl)|(apply aK;(iterate 3 exact rfl);(intro _;apply qS<;>first|assumption|omega);rotate_left;(iterate 2 exact rfl))|(intros;(try simp only [zql]);omega)))
theorem qF (p:Pt):PF Tryz.prog 188 [.agg p.cells] (PV.val (Value.bool (dM p))):=by
  refine aL aH Tryz.func188 (by kernel_rfl) rfl rfl rfl rfl (fun st=> ?_)
  (try (apply wO pk;exact rfl));(repeat' (first|(show All _;constructor)|(show Imp _ _;constructor)|(show ImpX _ _ _ _;constructor)|(apply wC pk;(iterate 2 exact rfl))|(apply wE pk;(iterate 2 exact rfl))|(apply wX pk;exact rfl)|(apply wN pk;exact rfl)|(apply wD pk [] [];kernel_rfl;exact rfl;exact rfl)|(apply aC;simp only [zqt,zqf])|(refine aD rfl (fun h=> ?_) (fun h=> ?_)<;>(try simp at h)<;>try (exfalso;omega))|(refine aF ?_;refine ⟨_,_,_,rfl,Wk.refl _,StSub.refl _, ?_,rfl⟩;try first|rfl|(simp only [dM,Dt.eqz,Nm.eqz];done))|(apply aK;(iterate 3 exact rfl);(intro _;(first|apply qS|apply (jS p)|apply (eI p)|apply (yW (bA p))|apply (yW (bG p)))<;>first|assumption|omega);rotate_left;(iterate 2 exact rfl))|(intros;(try simp only [zql]);omega)))
def avA (a:Sp):List PV:=[(PV.val (Value.int .i64 (a.time))),(PV.val (Value.int .i64 (a.dev))),(PV.val (Value.int .i64 (a.seq)))]
theorem aaO (a:Sp):PF Tryz.prog 251 [.agg a.cells] (.agg (avA a)):=by
  refine aL aH Tryz.func251 (by kernel_rfl) rfl rfl rfl rfl (fun st=> ?_)
  (try (apply wO pk;exact rfl));(repeat' (first|(show All _;constructor)|(show Imp _ _;constructor)|(show ImpX _ _ _ _;constructor)|(apply wC pk;(iterate 2 exact rfl))|(apply wE pk;(iterate 2 exact rfl))|(apply wX pk;exact rfl)|(apply wN pk;exact rfl)|(apply wD pk [] [];kernel_rfl;exact rfl;exact rfl)|(apply aC;simp only [zqt,zqf])|(refine aD rfl (fun h=> ?_) (fun h=> ?_)<;>(try simp at h)<;>try (exfalso;omega))|(refine aF ?_;refine ⟨_,_,_,rfl,Wk.refl _,StSub.refl _, ?_,rfl⟩;try rfl)|(intros;(try simp only [zql]);omega)))
def xK :List Int→List Int→Int
  |[],[]=>0
  |[],_::_=> -1
  |_::_,[]=>1
  |a::l,b::m=>if eW a b=0 then xK l m else eW a b
theorem vZ {l m:List Int} {i:Nat} (h:i<l.length) (h2:i<m.length):xK (l.drop i) (m.drop i)=if eW l[i] m[i]=0 then xK (l.drop (i+1)) (m.drop (i+1)) else eW l[i] m[i]:=by
  rw [List.drop_eq_getElem_cons h,List.drop_eq_getElem_cons h2,xK]
theorem wQ (l m:List Int) (hl:l.length<4611686018427387904):PF Tryz.prog 252 [.seq (l.map I1), .seq (m.map I1)] (PV.val (Value.int .i64 (xK l m))):=by
  refine aL aH Tryz.func252 (by kernel_rfl) rfl rfl rfl rfl (fun st=> ?_)
  (try (apply wO pk;exact rfl));(repeat' (first|(show All _;constructor)|(show Imp _ _;constructor)|(show ImpX _ _ _ _;constructor)|(apply wC pk;(iterate 2 exact rfl))|(apply wE pk;(iterate 2 exact rfl))|(apply wX pk;exact rfl)|(apply wN pk;exact rfl)|(apply wD pk [] [];kernel_rfl;exact rfl;exact rfl)|(apply aC;simp only [zqt,zqf])|(refine aD rfl (fun h=> ?_) (fun h=> ?_)<;>(try simp at h)<;>try (exfalso;omega))|(refine aF ?_;refine ⟨_,_,_,rfl,Wk.refl _,StSub.refl _, ?_,rfl⟩;try rfl)|(intros;(try simp only [zql]);omega)))
  refine aP (X:={x:Nat//x≤l.length∧x≤m.length∧xK (l.drop x) (m.drop x)=xK l m}) (fun i=>((((((St.nil 36 st).pv 0 (.seq (l.map I1))).pv 1 (.seq (m.map I1))).pv 9 (.seq (l.map I1))).pv 10 ((PV.val (Value.int .i64 ((((l.map I1)).length:Nat)))))).pv 11 ((PV.val (Value.int .i64 ((i.1:Nat))))))) (fun i=>l.length-i.1) ⟨0,by omega,by omega,by simp⟩ ?_ (fun i=> ?_)
  · ((repeat (first|refine Sub.pv ?_ rfl|refine Sub.var ?_ rfl rfl));exact Sub.nil _ _ _ (StSub.refl _) rfl)
  obtain ⟨i,h1,h2,hinv⟩:=i
  dsimp only
  (try (apply wO pk;exact rfl));(repeat' (first|(show All _;constructor)|(show Imp _ _;constructor)|(show ImpX _ _ _ _;constructor)|(apply wC pk;(iterate 2 exact rfl))|(apply wE pk;(iterate 2 exact rfl))|(apply wX pk;exact rfl)|(apply wN pk;exact rfl)|(apply wD pk [] [];kernel_rfl;exact rfl;exact rfl)|(apply aC;simp only [zqt,zqf])|(refine aD rfl (fun h=> ?_) (fun h=> ?_)<;>(try simp at h)<;>try (exfalso;omega))|(refine aF ?_;refine ⟨_,_,_,rfl,Wk.refl _,StSub.refl _, ?_,rfl⟩;try first|rfl|((rw [←hinv];(first|(rw [vZ (by omega) (by omega),if_neg (by assumption)];done)|(rw [List.drop_eq_nil_of_le (show l.length≤i by omega),List.drop_eq_getElem_cons (show i<m.length by omega)];rfl)|(rw [List.drop_eq_nil_of_le (show l.length≤i by omega),List.drop_eq_nil_of_le (show m.length≤i by omega)];rfl)|(rw [List.drop_eq_nil_of_le (show m.length≤i by omega),List.drop_eq_getElem_cons (show i<l.length by omega)];rfl)));done))|(apply aK;(iterate 3 exact rfl);(intro _;apply (eU _ _)<;>first|assumption|omega);rotate_left;(iterate 2 exact rfl))|(apply bC pk;(iterate 6 exact rfl);rotate_left;exact rfl;(intro hw;exact rfl);(intro hw;apply aJ<;>omega);(intro _;exact rfl);exact rfl)|(refine ⟨⟨i+1,by omega,by omega,by rw [←hinv,vZ (i:=i) (by omega) (by omega),if_pos (by assumption)]⟩, ?_,by simp only;omega⟩;((repeat (first|refine Sub.pv ?_ rfl|refine Sub.var ?_ rfl rfl));exact Sub.nil _ _ _ (StSub.refl _) rfl))|(intros;(try simp only [zql]);omega)))
def anR (a b:Sp):Int:=if a=b then 0 else xK [a.time,a.dev,a.seq] [b.time,b.dev,b.seq]
theorem agX (a b:Sp):PF Tryz.prog 234 [.agg a.cells, .agg b.cells] (PV.val (Value.int .i64 (anR a b))):=by
  refine aL aH Tryz.func234 (by kernel_rfl) rfl rfl rfl rfl (fun st=> ?_)
  (try (apply wO pk;exact rfl));(repeat' (first|(apply arK 5;(iterate 3 exact rfl))|(apply arK 6;(iterate 3 exact rfl))|(show All _;constructor)|(show Imp _ _;constructor)|(show ImpX _ _ _ _;constructor)|(apply wC pk;(iterate 2 exact rfl))|(apply wE pk;(iterate 2 exact rfl))|(apply wX pk;exact rfl)|(apply wN pk;exact rfl)|(apply wD pk [] [];kernel_rfl;exact rfl;exact rfl)|(apply aC;simp only [zqt,zqf])|(refine aD rfl (fun h=> ?_) (fun h=> ?_)<;>(try simp at h)<;>try (exfalso;omega))|(refine aF ?_;refine ⟨_,_,_,rfl,Wk.refl _,StSub.refl _, ?_,rfl⟩;try first|rfl|((simp_all [anR,Sp.ext_iff];done);done))|(apply aK;(iterate 3 exact rfl);(intro _;(first|apply (aaO a)|apply (aaO b)|apply (wQ [a.time,a.dev,a.seq] [b.time,b.dev,b.seq] (show 3<4611686018427387904 from by omega)))<;>first|assumption|omega);rotate_left;(iterate 2 exact rfl))|(apply slA pk (rows:=[a.time,a.dev,a.seq].map I1);(iterate 7 exact rfl);rotate_left;exact rfl;exact rfl)|(apply slA pk (rows:=[b.time,b.dev,b.seq].map I1);(iterate 7 exact rfl);rotate_left;exact rfl;exact rfl)|(intros;(try simp only [zql]);omega)))
theorem wM (a b:Int):eW a b<0↔a<b:=by unfold eW;split<;>(try split)<;>omega
theorem apD (a b:Int):eW a b=0↔a=b:=by unfold eW;split<;>(try split)<;>omega
theorem aiE (a b:Sp):decide (anR a b<0)=mX a b:=by
  unfold anR mX
  by_cases h:a=b
  · subst h;simp
  · rw [if_neg h]
    simp only [xK,apD]
    by_cases h1:a.time=b.time
    · by_cases h2:a.dev=b.dev
      · have h3:¬a.seq=b.seq:=fun e=>h ((Sp.ext_iff _ _).2 ⟨h1,h2,e⟩)
        simp [h1,h2,h3,wM]
      · simp [h1,h2,wM]
    · simp [h1,wM]
theorem vC (a b:Sp):PF Tryz.prog 212 [.agg a.cells, .agg b.cells] (PV.val (Value.bool (mX a b))):=by
  rw [←aiE]
  refine aL aH Tryz.func212 (by kernel_rfl) rfl rfl rfl rfl (fun st=> ?_)
  (try (apply wO pk;exact rfl));(repeat' (first|(show All _;constructor)|(show Imp _ _;constructor)|(show ImpX _ _ _ _;constructor)|(apply wC pk;(iterate 2 exact rfl))|(apply wE pk;(iterate 2 exact rfl))|(apply wX pk;exact rfl)|(apply wN pk;exact rfl)|(apply wD pk [] [];kernel_rfl;exact rfl;exact rfl)|(apply aC;simp only [zqt,zqf])|(refine aD rfl (fun h=> ?_) (fun h=> ?_)<;>(try simp at h)<;>try (exfalso;omega))|(refine aF ?_;refine ⟨_,_,_,rfl,Wk.refl _,StSub.refl _, ?_,rfl⟩;try rfl)|(apply aK;(iterate 3 exact rfl);(intro _;apply (agX a b)<;>first|assumption|omega);rotate_left;(iterate 2 exact rfl))|(intros;(try simp only [zql]);omega)))
end Go.Proofs.YtddmbnddgiebgaaGreatDoor.T
namespace Go.Proofs.YtddmbnddgiebgaaGreatDoor.T
open Go Go.Abs
attribute [local irreducible] Ev PWp
set_option maxRecDepth 10000
set_option maxHeartbeats 1000000
theorem auA {f:FuncId} {args:List PV} {st:aI} {R R':PV→aI→Prop} (h:PC Tryz.prog f args st R) (hr:∀p st',R p st'→∃q,Wk p q∧R' q st'):PC Tryz.prog f args st R':=
  ⟨h.1,fun w g vs hm hv=>(h.2 w g vs hm hv).mono fun e w' ⟨v,r,st',g',h1,h2,h3,h4⟩=>by
    obtain ⟨q,k1,k2⟩:=hr _ _ h2
    exact ⟨v,q,st',g',h1,k2,k1 _ _ h3,h4⟩⟩
theorem Wk.und (p:PV):Wk p .und:=fun _ _ _=>by simp [Rep]
def Nm.vals (k:Nm):List Value:=[.int .i64 k.dot.dev, .int .i64 k.dot.seq, .int .i64 k.at_]
def arC (k:Dt):List Value:=[.int .i64 k.dev, .int .i64 k.seq]
def Nm.enc (k:Nm):Value:= .agg k.vals.toArray
def aeR (k:Dt):Value:= .agg (arC k).toArray
theorem Nm.key :KeyOK Tryz.prog 209 Nm.enc (fun k=> .agg k.cells):=
  oI aH Nm.vals rfl rfl (fun _=>rfl) (fun a b=>by show some ((decide (a.dot.dev=b.dot.dev)&&decide (a.dot.seq=b.dot.seq))&&decide (a.at_=b.at_))=_;rw [Dt.eqb,Nm.eqb]) (fun _=>rfl) (by kernel_rfl)
theorem rS :KeyOK Tryz.prog 30 aeR (fun k=> .agg k.cells):=
  oI aH arC rfl rfl (fun _=>rfl) (fun a b=>by show some (decide (a.dev=b.dev)&&decide (a.seq=b.seq))=_;rw [Dt.eqb]) (fun _=>rfl) (by kernel_rfl)
def ptF (p:Pt):PV:= .agg p.cells
def uA (n:Int):PV:=(PV.val (Value.int .i64 (n)))
def cX (l:List Pt):List (Nm×Pt):=l.foldl (fun m p=>dF (bA p) p m) []
def dN (l:List Pt):List (Dt×Int):=l.foldl (fun m p=>dF p.dot p.time m) []
def jZ (m:List (Nm×Pt)) (t:List (Dt×Int)) (p:Pt):Bool:= !((dH (bA p) m).isSome|| !dM p||(match dH p.dot t with|some x=>decide (x≠p.time)|none=>false))
def gG :List Pt→List (Nm×Pt)→List (Dt×Int)→Bool
  |[],_,_=>true
  |p::r,m,t=>jZ m t p&&gG r (dF (bA p) p m) (dF p.dot p.time t)
def acP (m:List (Nm×Pt)) (p:Pt):Bool:=decide (bG p=Nm.zero)||(match dH (bG p) m with|some u=>dR u p|none=>false)
def dK (l:List Pt):Bool:=gG l [] []&&l.all (acP (cX l))
theorem wI {l:List Pt} {i:Nat} (h:i<l.length):cX (l.take (i+1))=dF (bA l[i]) l[i] (cX (l.take i)):=by
  rw [List.take_succ_eq_append_getElem h,cX,List.foldl_append];rfl
theorem wW {l:List Pt} {i:Nat} (h:i<l.length):dN (l.take (i+1))=dF l[i].dot l[i].time (dN (l.take i)):=by
  rw [List.take_succ_eq_append_getElem h,dN,List.foldl_append];rfl
theorem aaA {l:List Pt} {i:Nat} (h:i<l.length) {m t}:gG (l.drop i) m t=(jZ m t l[i]&&gG (l.drop (i+1)) (dF (bA l[i]) l[i] m) (dF l[i].dot l[i].time t)):=by
  rw [List.drop_eq_getElem_cons h];rfl
theorem jR (p q:Pt):PF Tryz.prog 190 [.agg p.cells, .agg q.cells] (PV.val (Value.bool (dR p q))):=by
  refine aL aH Tryz.func190 (by kernel_rfl) rfl rfl rfl rfl (fun st=> ?_)
  (try (apply wO pk;exact rfl));(repeat' (first|(show All _;constructor)|(show Imp _ _;constructor)|(show ImpX _ _ _ _;constructor)|(apply wC pk;(iterate 2 exact rfl))|(apply wE pk;(iterate 2 exact rfl))|(apply wX pk;exact rfl)|(apply wN pk;exact rfl)|(apply wD pk [] [];kernel_rfl;exact rfl;exact rfl)|(apply aC;simp only [zqt,zqf])|(refine aD rfl (fun h=> ?_) (fun h=> ?_)<;>(try simp at h)<;>try (exfalso;omega))|(refine aF ?_;refine ⟨_,_,_,rfl,Wk.refl _,StSub.refl _, ?_,rfl⟩;try first|rfl|(simp only [dR,Sp.eqb];done))|(apply aK;(iterate 3 exact rfl);(intro _;(first|apply (kF p)|apply (kF q)|apply (vC (cT p) (cT q)))<;>first|assumption|omega);rotate_left;(iterate 2 exact rfl))|(intros;(try simp only [zql]);omega)))
theorem anF (l:List Pt) (st:aI) (hl:l.length<4611686018427387904):PC Tryz.prog 152 [.seq (l.map Pt.cells)] st fun p st'=>(∃m,p= .tup [m,(PV.val (Value.bool (dK l)))])∧st'=st:=by
  refine dU aH Tryz.func152 (by kernel_rfl) rfl rfl rfl rfl ?_
  (try (apply wO pk;exact rfl));(repeat' (first|(show All _;constructor)|(show Imp _ _;constructor)|(show ImpX _ _ _ _;constructor)|(apply wC pk;(iterate 2 exact rfl))|(apply wE pk;(iterate 2 exact rfl))|(apply wX pk;exact rfl)|(apply wN pk;exact rfl)|(apply wD pk [] [];kernel_rfl;exact rfl;exact rfl)|(apply aC;simp only [zqt,zqf])|(refine aD rfl (fun h=> ?_) (fun h=> ?_)<;>(try simp at h)<;>try (exfalso;omega))|(refine aF ?_;refine ⟨_,_,_,rfl,Wk.refl _,StSub.refl _, ?_,rfl⟩;try rfl)|(intros;(try simp only [zql]);omega)))
  refine mkM (enc:=Nm.enc) (f:=ptF) rfl (fun id1 hid1=> ?_)
  (try (apply wO pk;exact rfl));(repeat' (first|(show All _;constructor)|(show Imp _ _;constructor)|(show ImpX _ _ _ _;constructor)|(apply wC pk;(iterate 2 exact rfl))|(apply wE pk;(iterate 2 exact rfl))|(apply wX pk;exact rfl)|(apply wN pk;exact rfl)|(apply wD pk [] [];kernel_rfl;exact rfl;exact rfl)|(apply aC;simp only [zqt,zqf])|(refine aD rfl (fun h=> ?_) (fun h=> ?_)<;>(try simp at h)<;>try (exfalso;omega))|(refine aF ?_;refine ⟨_,_,_,rfl,Wk.refl _,StSub.refl _, ?_,rfl⟩;try rfl)|(intros;(try simp only [zql]);omega)))
  refine mkM (enc:=aeR) (f:=uA) rfl (fun id2 hid2=> ?_)
  have hid1:st id1=none:=hid1
  have hne:id1≠id2:=by intro e;subst e;have:=hid2;simp only [St.put,St.pv,St.sst,aA] at this;cases this
  have hid2:st id2=none:=by have:=hid2;simp only [St.put,St.pv,St.sst] at this;exact (aB (Ne.symm hne)).symm.trans this
  have hne2:=Ne.symm hne
  (try (apply wO pk;exact rfl));(repeat' (first|(show All _;constructor)|(show Imp _ _;constructor)|(show ImpX _ _ _ _;constructor)|(apply wC pk;(iterate 2 exact rfl))|(apply wE pk;(iterate 2 exact rfl))|(apply wX pk;exact rfl)|(apply wN pk;exact rfl)|(apply wD pk [] [];kernel_rfl;exact rfl;exact rfl)|(apply aC;simp only [zqt,zqf])|(refine aD rfl (fun h=> ?_) (fun h=> ?_)<;>(try simp at h)<;>try (exfalso;omega))|(refine aF ?_;refine ⟨_,_,_,rfl,Wk.refl _,StSub.refl _, ?_,rfl⟩;try rfl)|(intros;(try simp only [zql]);omega)))
  refine aP (X:={x:Nat//x≤l.length∧gG l [] []=gG (l.drop x) (cX (l.take x)) (dN (l.take x))}) (fun i=>(((((((St.nil 94 (upd (upd st id1 (some (.map (aV Nm.enc ptF (cX (l.take i.1)))))) id2 (some (.map (aV aeR uA (dN (l.take i.1))))))).pv 0 (.seq (l.map Pt.cells))).pv 4 (.mref id1)).pv 5 (.mref id2)).pv 18 (.seq (l.map Pt.cells))).pv 19 ((PV.val (Value.int .i64 ((((l.map Pt.cells)).length:Nat)))))).pv 20 ((PV.val (Value.int .i64 ((i.1:Nat))))))) (fun i=>l.length-i.1) ⟨0,by omega,rfl⟩ ?_ (fun i=> ?_)
  · (first|exact Sub.nil _ _ _ (StSub.refl _) rfl|((repeat (first|refine Sub.pv ?_ rfl|refine Sub.var ?_ rfl rfl));(first|exact Sub.nil _ _ _ (StSub.refl _) rfl|exact Sub.nil _ _ _ (aS (by assumption)) rfl|exact Sub.nil _ _ _ (aM (by first|rfl|exact bM (by assumption)|((simp only [St.pv,St.put,St.sst,St.setv,St.nil,St.var,aO]);first|done|rfl))) rfl|(refine Sub.nil _ _ _ (aM ?_) rfl;(simp only [St.pv,St.put,St.sst,St.setv,St.nil,St.var,aO]);(rw [eJ (by assumption)]);first|done|rfl))))
  obtain ⟨i,hi,hinv⟩:=i
  dsimp only
  have hs:=fun h:i<l.length=>aaA h (m:=cX (l.take i)) (t:=dN (l.take i))
  have hs1:=fun h:i<l.length=>wI h
  have hs2:=fun h:i<l.length=>wW h
  (try (apply wO pk;exact rfl));(repeat' (first|(show All _;constructor)|(show Imp _ _;constructor)|(show ImpX _ _ _ _;constructor)|(apply wC pk;(iterate 2 exact rfl))|(apply wE pk;(iterate 2 exact rfl))|(apply wX pk;exact rfl)|(apply wN pk;exact rfl)|(apply wDm pk;exact rfl;kernel_rfl;exact rfl;exact rfl)|(apply aC;simp only [zqt,zqf])|(refine aD rfl (fun h=> ?_) (fun h=> ?_)<;>(try simp at h)<;>try (exfalso;omega))|((try refine aF ?_);(first|(refine ⟨_,_,_,rfl,Wk.refl _,StSub.refl _, ?_⟩;((have e:dK l=false:=(by unfold dK;rw [hinv,hs (by omega)];first|(simp [jZ, *];done)|(rcases ‹_∨_›with q|q<;>simp [jZ, *]));exact ⟨⟨.val (.map none),by rw [e]⟩,rfl⟩));done)|(refine ⟨_,_, ?zs,rfl,Wk.refl _, ?zh, ?zr⟩;(case zh=>(refine aG ?_ (by assumption);(repeat refine aG ?_ (by assumption));exact StSub.refl _));(case zr=>((have e:dK l=false:=(by unfold dK;rw [hinv,hs (by omega)];first|(simp [jZ, *];done)|(rcases ‹_∨_›with q|q<;>simp [jZ, *]));exact ⟨⟨.val (.map none),by rw [e]⟩,rfl⟩))))|refine ⟨_,_,_,rfl,Wk.refl _,StSub.refl _, ?_⟩))|(apply aK;(iterate 3 exact rfl);(intro _;(first|apply jS|apply qF)<;>first|assumption|omega);rotate_left;(iterate 2 exact rfl))|(apply dG;(iterate 3 exact rfl);(intro _;(first|apply jS|apply qF)<;>first|assumption|omega);rotate_left;(iterate 2 exact rfl))|(apply bC pk;(iterate 6 exact rfl);rotate_left;exact rfl;(intro hw;exact rfl);(intro hw;apply aJ<;>omega);(intro _;exact rfl);exact rfl)|(apply ncA;(iterate 3 exact rfl);rotate_left;exact rfl;exact rfl)|(apply ldR pk;exact rfl;exact rfl;rotate_left;exact rfl;(focus ((repeat (first|exact aA _ _ _|assumption|refine (aB (by assumption)).trans ?_));done));exact rfl;exact rfl)|(apply stR pk;exact rfl;exact rfl;(focus ((repeat (first|exact aA _ _ _|assumption|refine (aB (by assumption)).trans ?_));done));exact rfl;exact rfl)|(apply acK pk Nm.key (f:=ptF);(iterate 5 exact rfl);rotate_left;exact rfl;(focus ((repeat (first|exact aA _ _ _|assumption|refine (aB (by assumption)).trans ?_));done));exact rfl;intro v hv;rotate_left;intro hv;rotate_left)|(apply muA pk Nm.key (f:=ptF);(first|exact .inl rfl|exact .inr rfl);(iterate 5 exact rfl);(focus ((repeat (first|exact aA _ _ _|assumption|refine (aB (by assumption)).trans ?_));done));exact rfl)|(apply meA pk Nm.key (f:=ptF) (z:=Pt.zero);(iterate 6 exact rfl);(focus ((repeat (first|exact aA _ _ _|assumption|refine (aB (by assumption)).trans ?_));done));exact rfl)|(apply esA pk Nm.key (f:=ptF);(iterate 4 exact rfl);(focus ((repeat (first|exact aA _ _ _|assumption|refine (aB (by assumption)).trans ?_));done));exact rfl)|(apply acK pk rS (f:=uA);(iterate 5 exact rfl);rotate_left;exact rfl;(focus ((repeat (first|exact aA _ _ _|assumption|refine (aB (by assumption)).trans ?_));done));exact rfl;intro v hv;rotate_left;intro hv;rotate_left)|(apply muA pk rS (f:=uA);(first|exact .inl rfl|exact .inr rfl);(iterate 5 exact rfl);(focus ((repeat (first|exact aA _ _ _|assumption|refine (aB (by assumption)).trans ?_));done));exact rfl)|(apply meA pk rS (f:=uA) (z:=0);(iterate 6 exact rfl);(focus ((repeat (first|exact aA _ _ _|assumption|refine (aB (by assumption)).trans ?_));done));exact rfl)|(apply acK pk rS (f:=uA) (k:=(l[i]'(by assumption)).dot);(iterate 5 exact rfl);rotate_left;exact rfl;(focus ((repeat (first|exact aA _ _ _|assumption|refine (aB (by assumption)).trans ?_));done));exact rfl;intro v hv;rotate_left;intro hv;rotate_left)|(apply muA pk rS (f:=uA) (k:=(l[i]'(by assumption)).dot);(first|exact .inl rfl|exact .inr rfl);(iterate 5 exact rfl);(focus ((repeat (first|exact aA _ _ _|assumption|refine (aB (by assumption)).trans ?_));done));exact rfl)|(apply meA pk rS (f:=uA) (z:=0) (k:=(l[i]'(by assumption)).dot);(iterate 6 exact rfl);(focus ((repeat (first|exact aA _ _ _|assumption|refine (aB (by assumption)).trans ?_));done));exact rfl)|(apply esA pk rS (f:=uA);(iterate 4 exact rfl);(focus ((repeat (first|exact aA _ _ _|assumption|refine (aB (by assumption)).trans ?_));done));exact rfl)|(refine ⟨⟨i+1,by omega,by rw [hinv,hs (by omega),hs1 (by omega),hs2 (by omega)];simp [jZ, *]⟩, ?_,by simp only;omega⟩;(simp only [hs1 (show i<l.length by omega),hs2 (show i<l.length by omega)]);(first|exact Sub.nil _ _ _ (StSub.refl _) rfl|((repeat (first|refine Sub.pv ?_ rfl|refine Sub.var ?_ rfl rfl));(first|exact Sub.nil _ _ _ (StSub.refl _) rfl|exact Sub.nil _ _ _ (aS (by assumption)) rfl|exact Sub.nil _ _ _ (aM (by first|rfl|exact bM (by assumption)|((simp only [St.pv,St.put,St.sst,St.setv,St.nil,St.var,aO]);first|done|rfl))) rfl|(refine Sub.nil _ _ _ (aM ?_) rfl;(simp only [St.pv,St.put,St.sst,St.setv,St.nil,St.var,aO]);(rw [eJ (by assumption)]);first|done|rfl)))))|(intros;(try simp only [zql]);omega)))
  have e1:l.take i=l:=List.take_of_length_le (by omega)
  have w1:gG l [] []=true:=by rw [hinv,List.drop_eq_nil_of_le (by omega)];rfl
  refine aP (X:={x:Nat//x≤l.length∧(l.take x).all (acP (cX (l.take i)))=true}) (fun y=>(((((St.nil 94 (upd (upd st id1 (some (.map (aV Nm.enc ptF (cX (l.take i)))))) id2 (some (.map (aV aeR uA (dN (l.take i))))))).pv 4 (.mref id1)).pv 65 (.seq (l.map Pt.cells))).pv 66 ((PV.val (Value.int .i64 ((((l.map Pt.cells)).length:Nat)))))).pv 67 ((PV.val (Value.int .i64 ((y.1:Nat))))))) (fun y=>l.length-y.1) ⟨0,by omega,rfl⟩ ?_ (fun y=> ?_)
  · (first|exact Sub.nil _ _ _ (StSub.refl _) rfl|((repeat (first|refine Sub.pv ?_ rfl|refine Sub.var ?_ rfl rfl));(first|exact Sub.nil _ _ _ (StSub.refl _) rfl|exact Sub.nil _ _ _ (aS (by assumption)) rfl|exact Sub.nil _ _ _ (aM (by first|rfl|exact bM (by assumption)|((simp only [St.pv,St.put,St.sst,St.setv,St.nil,St.var,aO]);first|done|rfl))) rfl|(refine Sub.nil _ _ _ (aM ?_) rfl;(simp only [St.pv,St.put,St.sst,St.setv,St.nil,St.var,aO]);(rw [eJ (by assumption)]);first|done|rfl))))
  clear hs hs1 hs2
  obtain ⟨y,hy,hall⟩:=y
  dsimp only
  (try (apply wO pk;exact rfl));(repeat' (first|(show All _;constructor)|(show Imp _ _;constructor)|(show ImpX _ _ _ _;constructor)|(apply wC pk;(iterate 2 exact rfl))|(apply wE pk;(iterate 2 exact rfl))|(apply wX pk;exact rfl)|(apply wN pk;exact rfl)|(apply wDm pk;exact rfl;kernel_rfl;exact rfl;exact rfl)|(apply aC;simp only [zqt,zqf])|(refine aD rfl (fun h=> ?_) (fun h=> ?_)<;>(try simp at h)<;>try (exfalso;omega))|((try refine aF ?_);(first|(refine ⟨_,_,_,rfl,Wk.refl _,StSub.refl _, ?_⟩;((first|(have e:dK l=false:=(by unfold dK;simp only [e1] at*;rw [w1,Bool.true_and,List.all_eq_false];refine ⟨l[y]'(by assumption),List.getElem_mem _, ?_⟩;simp [acP,Nm.ext_iff,Dt.ext_iff,Nm.zero,Dt.zero,and_assoc, *];try (intros;omega));exact ⟨⟨.val (.map none),by rw [e]⟩,rfl⟩)|(have e:dK l=true:=(by unfold dK;simp only [e1] at*;rw [w1,Bool.true_and,←hall,List.take_of_length_le (by omega)]);exact ⟨⟨.mref id1,by rw [e]⟩,rfl⟩)));done)|(refine ⟨_,_, ?zs,rfl,Wk.refl _, ?zh, ?zr⟩;(case zh=>(refine aG ?_ (by assumption);(repeat refine aG ?_ (by assumption));exact StSub.refl _));(case zr=>((first|(have e:dK l=false:=(by unfold dK;simp only [e1] at*;rw [w1,Bool.true_and,List.all_eq_false];refine ⟨l[y]'(by assumption),List.getElem_mem _, ?_⟩;simp [acP,Nm.ext_iff,Dt.ext_iff,Nm.zero,Dt.zero,and_assoc, *];try (intros;omega));exact ⟨⟨.val (.map none),by rw [e]⟩,rfl⟩)|(have e:dK l=true:=(by unfold dK;simp only [e1] at*;rw [w1,Bool.true_and,←hall,List.take_of_length_le (by omega)]);exact ⟨⟨.mref id1,by rw [e]⟩,rfl⟩)))))|refine ⟨_,_,_,rfl,Wk.refl _,StSub.refl _, ?_⟩))|(apply aK;(iterate 3 exact rfl);(intro _;(first|apply eI|apply jR|apply (jR Pt.zero))<;>first|assumption|omega);rotate_left;(iterate 2 exact rfl))|(apply dG;(iterate 3 exact rfl);(intro _;(first|apply eI|apply jR|apply (jR Pt.zero))<;>first|assumption|omega);rotate_left;(iterate 2 exact rfl))|(apply bC pk;(iterate 6 exact rfl);rotate_left;exact rfl;(intro hw;exact rfl);(intro hw;apply aJ<;>omega);(intro _;exact rfl);exact rfl)|(apply ncA;(iterate 3 exact rfl);rotate_left;exact rfl;exact rfl)|(apply ldR pk;exact rfl;exact rfl;rotate_left;exact rfl;(focus ((repeat (first|exact aA _ _ _|assumption|refine (aB (by assumption)).trans ?_));done));exact rfl;exact rfl)|(apply stR pk;exact rfl;exact rfl;(focus ((repeat (first|exact aA _ _ _|assumption|refine (aB (by assumption)).trans ?_));done));exact rfl;exact rfl)|(apply acK pk Nm.key (f:=ptF);(iterate 5 exact rfl);rotate_left;exact rfl;(focus ((repeat (first|exact aA _ _ _|assumption|refine (aB (by assumption)).trans ?_));done));exact rfl;intro v hv;rotate_left;intro hv;rotate_left)|(apply muA pk Nm.key (f:=ptF);(first|exact .inl rfl|exact .inr rfl);(iterate 5 exact rfl);(focus ((repeat (first|exact aA _ _ _|assumption|refine (aB (by assumption)).trans ?_));done));exact rfl)|(apply meA pk Nm.key (f:=ptF) (z:=Pt.zero);(iterate 6 exact rfl);(focus ((repeat (first|exact aA _ _ _|assumption|refine (aB (by assumption)).trans ?_));done));exact rfl)|(apply esA pk Nm.key (f:=ptF);(iterate 4 exact rfl);(focus ((repeat (first|exact aA _ _ _|assumption|refine (aB (by assumption)).trans ?_));done));exact rfl)|(refine ⟨⟨y+1,by omega,by simp only [e1] at*;rw [List.take_succ_eq_append_getElem (by omega),List.all_append,hall];simp [acP,Nm.ext_iff,Dt.ext_iff,Nm.zero,Dt.zero,and_assoc, *];try grind⟩, ?_,by simp only;omega⟩;(first|exact Sub.nil _ _ _ (StSub.refl _) rfl|((repeat (first|refine Sub.pv ?_ rfl|refine Sub.var ?_ rfl rfl));(first|exact Sub.nil _ _ _ (StSub.refl _) rfl|exact Sub.nil _ _ _ (aS (by assumption)) rfl|exact Sub.nil _ _ _ (aM (by first|rfl|exact bM (by assumption)|((simp only [St.pv,St.put,St.sst,St.setv,St.nil,St.var,aO]);first|done|rfl))) rfl|(refine Sub.nil _ _ _ (aM ?_) rfl;(simp only [St.pv,St.put,St.sst,St.setv,St.nil,St.var,aO]);(rw [eJ (by assumption)]);first|done|rfl)))))|(intros;(try simp only [zql]);omega)))
end Go.Proofs.YtddmbnddgiebgaaGreatDoor.T
