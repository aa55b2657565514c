import Derived.Test.YtcglimangneafaaGreatDoorBsFn
import Derived.Test.YtcglimangneafaaGreatDoorBsLay
import Derived.Test.YtcglimangneafaaGreatDoorAbsE
set_option linter.unusedSimpArgs false
set_option linter.unusedVariables false
namespace Go.Proofs.YtcglimangneafaaGreatDoor.T
open Go Go.Abs
structure Sp where
  time:Int
  dev:Int
  seq:Int
  deriving DecidableEq,Inhabited
def Sp.cells (a:Sp):List PV:=[.val (.int .i64 (a.time)), .val (.int .i64 (a.dev)), .val (.int .i64 (a.seq))]
def Sp.zero :Sp:=⟨0,0,0⟩
theorem Sp.ext_iff (a b:Sp):a=b↔a.time=b.time∧a.dev=b.dev∧a.seq=b.seq:=by cases a;cases b;simp
theorem Sp.eqb (a b:Sp):(decide (a.time=b.time)&&(decide (a.dev=b.dev)&&(decide (a.seq=b.seq))))=decide (a=b):=by rw [Bool.eq_iff_iff];simp [Sp.ext_iff]
theorem Sp.eqz (a:Sp):(decide (a.time=0)&&(decide (a.dev=0)&&(decide (a.seq=0))))=decide (a=Sp.zero):=by rw [Bool.eq_iff_iff];simp [Sp.ext_iff,Sp.zero]
theorem Sp.elem :Elem tt 237 Sp.cells (fun a=> .agg a.cells) 3:=⟨rfl,fun _=>rfl,fun _=>rfl,fun _=>rfl,fun _=>rfl⟩
structure Nm where
  dot:Dt
  at_:Int
  deriving DecidableEq,Inhabited
def Nm.cells (a:Nm):List PV:=[.val (.int .i64 (a.dot.dev)), .val (.int .i64 (a.dot.seq)), .val (.int .i64 (a.at_))]
def Nm.zero :Nm:=⟨Dt.zero,0⟩
theorem Nm.ext_iff (a b:Nm):a=b↔a.dot=b.dot∧a.at_=b.at_:=by cases a;cases b;simp
theorem Nm.eqb (a b:Nm):(decide (a.dot=b.dot)&&(decide (a.at_=b.at_)))=decide (a=b):=by rw [Bool.eq_iff_iff];simp [Nm.ext_iff]
theorem Nm.eqz (a:Nm):(decide (a.dot=Dt.zero)&&(decide (a.at_=0)))=decide (a=Nm.zero):=by rw [Bool.eq_iff_iff];simp [Nm.ext_iff,Nm.zero]
theorem Nm.elem :Elem tt 223 Nm.cells (fun a=> .agg a.cells) 3:=⟨rfl,fun _=>rfl,fun _=>rfl,fun _=>rfl,fun _=>rfl⟩
end Go.Proofs.YtcglimangneafaaGreatDoor.T
namespace Go.Proofs.YtcglimangneafaaGreatDoor.T
open Go Go.Abs
attribute [local irreducible] Ev PWp
set_option maxRecDepth 10000
def bG (p:Pt):Nm:=⟨p.dot,p.at_⟩
def bO (p:Pt):Nm:=⟨p.after,p.afterAt⟩
def cW (p:Pt):Sp:=⟨p.time,p.dot.dev,p.dot.seq⟩
def iA (n a b:Int):Bool:=decide (n≥a)&&decide (n≤b)
def aoR (n:Nm):Bool:=(iA n.dot.dev 1 64&&iA n.dot.seq 1 1048576)&&iA n.at_ 0 1999
def dI (p:Pt):Bool:=((((decide (p.val.kind=1)&&decide (p.val.s=e0))&&iA p.val.n 0 255)&&iA p.time 1 1125899906842624)&&aoR (bG p))&&(decide (bO p=Nm.zero)||aoR (bO p))
def oE (a b:Sp):Bool:=if a.time≠b.time then decide (a.time<b.time) else if a.dev≠b.dev then decide (a.dev<b.dev) else decide (a.seq<b.seq)
def eY (p q:Pt):Bool:=oE (cW p) (cW q)||(decide (cW p=cW q)&&decide (p.at_<q.at_))
theorem lA (p:Pt):PF Tryz.prog 219 [.agg p.cells] (.agg (bG p).cells):=by
  refine aK aG Tryz.func219 (by kernel_rfl) rfl rfl rfl rfl (fun st=> ?_)
  (try (apply wO pk;exact rfl));(repeat' (first|(show All _;constructor)|(show Imp _ _;constructor)|(show ImpX _ _ _ _;constructor)|(apply wC pk;(iterate 2 exact rfl))|(apply wE pk;(iterate 2 exact rfl))|(apply wX pk;exact rfl)|(apply wN pk;exact rfl)|(apply wD pk [] [];kernel_rfl;exact rfl;exact rfl)|(apply aB;simp only [zqt,zqf])|(refine aC rfl (fun h=> ?_) (fun h=> ?_)<;>(try simp at h)<;>try (exfalso;omega))|(refine aD ?_;refine ⟨_,_,_,rfl,Wk.refl _,StSub.refl _, ?_,rfl⟩;try rfl)|(intros;(try simp only [zql]);omega)))
theorem eI (p:Pt):PF Tryz.prog 221 [.agg p.cells] (.agg (bO p).cells):=by
  refine aK aG Tryz.func221 (by kernel_rfl) rfl rfl rfl rfl (fun st=> ?_)
  (try (apply wO pk;exact rfl));(repeat' (first|(show All _;constructor)|(show Imp _ _;constructor)|(show ImpX _ _ _ _;constructor)|(apply wC pk;(iterate 2 exact rfl))|(apply wE pk;(iterate 2 exact rfl))|(apply wX pk;exact rfl)|(apply wN pk;exact rfl)|(apply wD pk [] [];kernel_rfl;exact rfl;exact rfl)|(apply aB;simp only [zqt,zqf])|(refine aC rfl (fun h=> ?_) (fun h=> ?_)<;>(try simp at h)<;>try (exfalso;omega))|(refine aD ?_;refine ⟨_,_,_,rfl,Wk.refl _,StSub.refl _, ?_,rfl⟩;try rfl)|(intros;(try simp only [zql]);omega)))
theorem lK (p:Pt):PF Tryz.prog 249 [.agg p.cells] (.agg (cW p).cells):=by
  refine aK aG Tryz.func249 (by kernel_rfl) rfl rfl rfl rfl (fun st=> ?_)
  (try (apply wO pk;exact rfl));(repeat' (first|(show All _;constructor)|(show Imp _ _;constructor)|(show ImpX _ _ _ _;constructor)|(apply wC pk;(iterate 2 exact rfl))|(apply wE pk;(iterate 2 exact rfl))|(apply wX pk;exact rfl)|(apply wN pk;exact rfl)|(apply wD pk [] [];kernel_rfl;exact rfl;exact rfl)|(apply aB;simp only [zqt,zqf])|(refine aC rfl (fun h=> ?_) (fun h=> ?_)<;>(try simp at h)<;>try (exfalso;omega))|(refine aD ?_;refine ⟨_,_,_,rfl,Wk.refl _,StSub.refl _, ?_,rfl⟩;try rfl)|(intros;(try simp only [zql]);omega)))
theorem sT (n a b:Int):PF Tryz.prog 247 [(PV.val (Value.int .i64 (n))),(PV.val (Value.int .i64 (a))),(PV.val (Value.int .i64 (b)))] (PV.val (Value.bool (iA n a b))):=by
  refine aK aG Tryz.func247 (by kernel_rfl) rfl rfl rfl rfl (fun st=> ?_)
  (try (apply wO pk;exact rfl));(repeat' (first|(show All _;constructor)|(show Imp _ _;constructor)|(show ImpX _ _ _ _;constructor)|(apply wC pk;(iterate 2 exact rfl))|(apply wE pk;(iterate 2 exact rfl))|(apply wX pk;exact rfl)|(apply wN pk;exact rfl)|(apply wD pk [] [];kernel_rfl;exact rfl;exact rfl)|(apply aB;simp only [zqt,zqf])|(refine aC rfl (fun h=> ?_) (fun h=> ?_)<;>(try simp at h)<;>try (exfalso;omega))|(refine aD ?_;refine ⟨_,_,_,rfl,Wk.refl _,StSub.refl _, ?_,rfl⟩;try rfl)|(intros;(try simp only [zql]);omega)))
theorem gO (n:Nm):PF Tryz.prog 248 [.agg n.cells] (PV.val (Value.bool (aoR n))):=by
  refine aK aG Tryz.func248 (by kernel_rfl) rfl rfl rfl rfl (fun st=> ?_)
  (try (apply wO pk;exact rfl));(repeat' (first|(show All _;constructor)|(show Imp _ _;constructor)|(show ImpX _ _ _ _;constructor)|(apply wC pk;(iterate 2 exact rfl))|(apply wE pk;(iterate 2 exact rfl))|(apply wX pk;exact rfl)|(apply wN pk;exact rfl)|(apply wD pk [] [];kernel_rfl;exact rfl;exact rfl)|(apply aB;simp only [zqt,zqf])|(refine aC rfl (fun h=> ?_) (fun h=> ?_)<;>(try simp at h)<;>try (exfalso;omega))|(refine aD ?_;refine ⟨_,_,_,rfl,Wk.refl _,StSub.refl _, ?_,rfl⟩;try rfl)|(apply aL;(iterate 3 exact rfl);(intro _;apply sT<;>first|assumption|omega);rotate_left;(iterate 2 exact rfl))|(intros;(try simp only [zql]);omega)))
theorem gP (p:Pt):PF Tryz.prog 220 [.agg p.cells] (PV.val (Value.bool (dI p))):=by
  refine aK aG Tryz.func220 (by kernel_rfl) rfl rfl rfl rfl (fun st=> ?_)
  (try (apply wO pk;exact rfl));(repeat' (first|(show All _;constructor)|(show Imp _ _;constructor)|(show ImpX _ _ _ _;constructor)|(apply wC pk;(iterate 2 exact rfl))|(apply wE pk;(iterate 2 exact rfl))|(apply wX pk;exact rfl)|(apply wN pk;exact rfl)|(apply wD pk [] [];kernel_rfl;exact rfl;exact rfl)|(apply aB;simp only [zqt,zqf])|(refine aC rfl (fun h=> ?_) (fun h=> ?_)<;>(try simp at h)<;>try (exfalso;omega))|(refine aD ?_;refine ⟨_,_,_,rfl,Wk.refl _,StSub.refl _, ?_,rfl⟩;try first|rfl|(simp only [dI,Dt.eqz,Nm.eqz];done))|(apply aL;(iterate 3 exact rfl);(intro _;(first|apply sT|apply (lA p)|apply (eI p)|apply (gO (bG p))|apply (gO (bO p)))<;>first|assumption|omega);rotate_left;(iterate 2 exact rfl))|(intros;(try simp only [zql]);omega)))
def azX (a:Sp):List PV:=[(PV.val (Value.int .i64 (a.time))),(PV.val (Value.int .i64 (a.dev))),(PV.val (Value.int .i64 (a.seq)))]
theorem acZ (a:Sp):PF Tryz.prog 286 [.agg a.cells] (.agg (azX a)):=by
  refine aK aG Tryz.func286 (by kernel_rfl) rfl rfl rfl rfl (fun st=> ?_)
  (try (apply wO pk;exact rfl));(repeat' (first|(show All _;constructor)|(show Imp _ _;constructor)|(show ImpX _ _ _ _;constructor)|(apply wC pk;(iterate 2 exact rfl))|(apply wE pk;(iterate 2 exact rfl))|(apply wX pk;exact rfl)|(apply wN pk;exact rfl)|(apply wD pk [] [];kernel_rfl;exact rfl;exact rfl)|(apply aB;simp only [zqt,zqf])|(refine aC rfl (fun h=> ?_) (fun h=> ?_)<;>(try simp at h)<;>try (exfalso;omega))|(refine aD ?_;refine ⟨_,_,_,rfl,Wk.refl _,StSub.refl _, ?_,rfl⟩;try rfl)|(intros;(try simp only [zql]);omega)))
def zW :List Int→List Int→Int
  |[],[]=>0
  |[],_::_=> -1
  |_::_,[]=>1
  |a::l,b::m=>if gY a b=0 then zW l m else gY a b
theorem yL {l m:List Int} {i:Nat} (h:i<l.length) (h2:i<m.length):zW (l.drop i) (m.drop i)=if gY l[i] m[i]=0 then zW (l.drop (i+1)) (m.drop (i+1)) else gY l[i] m[i]:=by
  rw [List.drop_eq_getElem_cons h,List.drop_eq_getElem_cons h2,zW]
theorem zA (l m:List Int) (hl:l.length<4611686018427387904):PF Tryz.prog 287 [.seq (l.map I1), .seq (m.map I1)] (PV.val (Value.int .i64 (zW l m))):=by
  refine aK aG Tryz.func287 (by kernel_rfl) rfl rfl rfl rfl (fun st=> ?_)
  (try (apply wO pk;exact rfl));(repeat' (first|(show All _;constructor)|(show Imp _ _;constructor)|(show ImpX _ _ _ _;constructor)|(apply wC pk;(iterate 2 exact rfl))|(apply wE pk;(iterate 2 exact rfl))|(apply wX pk;exact rfl)|(apply wN pk;exact rfl)|(apply wD pk [] [];kernel_rfl;exact rfl;exact rfl)|(apply aB;simp only [zqt,zqf])|(refine aC rfl (fun h=> ?_) (fun h=> ?_)<;>(try simp at h)<;>try (exfalso;omega))|(refine aD ?_;refine ⟨_,_,_,rfl,Wk.refl _,StSub.refl _, ?_,rfl⟩;try rfl)|(intros;(try simp only [zql]);omega)))
  refine aP (X:={x:Nat//x≤l.length∧x≤m.length∧zW (l.drop x) (m.drop x)=zW l m}) (fun i=>((((((St.nil 36 st).pv 0 (.seq (l.map I1))).pv 1 (.seq (m.map I1))).pv 9 (.seq (l.map I1))).pv 10 ((PV.val (Value.int .i64 ((((l.map I1)).length:Nat)))))).pv 11 ((PV.val (Value.int .i64 ((i.1:Nat))))))) (fun i=>l.length-i.1) ⟨0,by omega,by omega,by simp⟩ ?_ (fun i=> ?_)
  · ((repeat (first|refine Sub.pv ?_ rfl|refine Sub.var ?_ rfl rfl));exact Sub.nil _ _ _ (StSub.refl _) rfl)
  obtain ⟨i,h1,h2,hinv⟩:=i
  dsimp only
  (try (apply wO pk;exact rfl));(repeat' (first|(show All _;constructor)|(show Imp _ _;constructor)|(show ImpX _ _ _ _;constructor)|(apply wC pk;(iterate 2 exact rfl))|(apply wE pk;(iterate 2 exact rfl))|(apply wX pk;exact rfl)|(apply wN pk;exact rfl)|(apply wD pk [] [];kernel_rfl;exact rfl;exact rfl)|(apply aB;simp only [zqt,zqf])|(refine aC rfl (fun h=> ?_) (fun h=> ?_)<;>(try simp at h)<;>try (exfalso;omega))|(refine aD ?_;refine ⟨_,_,_,rfl,Wk.refl _,StSub.refl _, ?_,rfl⟩;try first|rfl|((rw [←hinv];(first|(rw [yL (by omega) (by omega),if_neg (by assumption)];done)|(rw [List.drop_eq_nil_of_le (show l.length≤i by omega),List.drop_eq_getElem_cons (show i<m.length by omega)];rfl)|(rw [List.drop_eq_nil_of_le (show l.length≤i by omega),List.drop_eq_nil_of_le (show m.length≤i by omega)];rfl)|(rw [List.drop_eq_nil_of_le (show m.length≤i by omega),List.drop_eq_getElem_cons (show i<l.length by omega)];rfl)));done))|(apply aL;(iterate 3 exact rfl);(intro _;apply (gU _ _)<;>first|assumption|omega);rotate_left;(iterate 2 exact rfl))|(apply bC pk;(iterate 6 exact rfl);rotate_left;exact rfl;(intro hw;exact rfl);(intro hw;apply aM<;>omega);(intro _;exact rfl);exact rfl)|(refine ⟨⟨i+1,by omega,by omega,by rw [←hinv,yL (i:=i) (by omega) (by omega),if_pos (by assumption)]⟩, ?_,by simp only;omega⟩;((repeat (first|refine Sub.pv ?_ rfl|refine Sub.var ?_ rfl rfl));exact Sub.nil _ _ _ (StSub.refl _) rfl))|(intros;(try simp only [zql]);omega)))
def asG (a b:Sp):Int:=if a=b then 0 else zW [a.time,a.dev,a.seq] [b.time,b.dev,b.seq]
theorem akM (a b:Sp):PF Tryz.prog 271 [.agg a.cells, .agg b.cells] (PV.val (Value.int .i64 (asG a b))):=by
  refine aK aG Tryz.func271 (by kernel_rfl) rfl rfl rfl rfl (fun st=> ?_)
  (try (apply wO pk;exact rfl));(repeat' (first|(apply awC 5;(iterate 3 exact rfl))|(apply awC 6;(iterate 3 exact rfl))|(show All _;constructor)|(show Imp _ _;constructor)|(show ImpX _ _ _ _;constructor)|(apply wC pk;(iterate 2 exact rfl))|(apply wE pk;(iterate 2 exact rfl))|(apply wX pk;exact rfl)|(apply wN pk;exact rfl)|(apply wD pk [] [];kernel_rfl;exact rfl;exact rfl)|(apply aB;simp only [zqt,zqf])|(refine aC rfl (fun h=> ?_) (fun h=> ?_)<;>(try simp at h)<;>try (exfalso;omega))|(refine aD ?_;refine ⟨_,_,_,rfl,Wk.refl _,StSub.refl _, ?_,rfl⟩;try first|rfl|((simp_all [asG,Sp.ext_iff];done);done))|(apply aL;(iterate 3 exact rfl);(intro _;(first|apply (acZ a)|apply (acZ b)|apply (zA [a.time,a.dev,a.seq] [b.time,b.dev,b.seq] (show 3<4611686018427387904 from by omega)))<;>first|assumption|omega);rotate_left;(iterate 2 exact rfl))|(apply slA pk (rows:=[a.time,a.dev,a.seq].map I1);(iterate 7 exact rfl);rotate_left;exact rfl;exact rfl)|(apply slA pk (rows:=[b.time,b.dev,b.seq].map I1);(iterate 7 exact rfl);rotate_left;exact rfl;exact rfl)|(intros;(try simp only [zql]);omega)))
theorem yZ (a b:Int):gY a b<0↔a<b:=by unfold gY;split<;>(try split)<;>omega
theorem atQ (a b:Int):gY a b=0↔a=b:=by unfold gY;split<;>(try split)<;>omega
theorem alY (a b:Sp):decide (asG a b<0)=oE a b:=by
  unfold asG oE
  by_cases h:a=b
  · subst h;simp
  · rw [if_neg h]
    simp only [zW,atQ]
    by_cases h1:a.time=b.time
    · by_cases h2:a.dev=b.dev
      · have h3:¬a.seq=b.seq:=fun e=>h ((Sp.ext_iff _ _).2 ⟨h1,h2,e⟩)
        simp [h1,h2,h3,yZ]
      · simp [h1,h2,yZ]
    · simp [h1,yZ]
theorem iF (a b:Sp):PF Tryz.prog 250 [.agg a.cells, .agg b.cells] (PV.val (Value.bool (oE a b))):=by
  rw [←alY]
  refine aK aG Tryz.func250 (by kernel_rfl) rfl rfl rfl rfl (fun st=> ?_)
  (try (apply wO pk;exact rfl));(repeat' (first|(show All _;constructor)|(show Imp _ _;constructor)|(show ImpX _ _ _ _;constructor)|(apply wC pk;(iterate 2 exact rfl))|(apply wE pk;(iterate 2 exact rfl))|(apply wX pk;exact rfl)|(apply wN pk;exact rfl)|(apply wD pk [] [];kernel_rfl;exact rfl;exact rfl)|(apply aB;simp only [zqt,zqf])|(refine aC rfl (fun h=> ?_) (fun h=> ?_)<;>(try simp at h)<;>try (exfalso;omega))|(refine aD ?_;refine ⟨_,_,_,rfl,Wk.refl _,StSub.refl _, ?_,rfl⟩;try rfl)|(apply aL;(iterate 3 exact rfl);(intro _;apply (akM a b)<;>first|assumption|omega);rotate_left;(iterate 2 exact rfl))|(intros;(try simp only [zql]);omega)))
end Go.Proofs.YtcglimangneafaaGreatDoor.T
namespace Go.Proofs.YtcglimangneafaaGreatDoor.T
open Go Go.Abs
attribute [local irreducible] Ev PWp
set_option maxRecDepth 10000
set_option maxHeartbeats 1000000
theorem ayQ {f:FuncId} {args:List PV} {st:aO} {R R':PV→aO→Prop} (h:PC Tryz.prog f args st R) (hr:∀p st',R p st'→∃q,Wk p q∧R' q st'):PC Tryz.prog f args st R':=
  ⟨h.1,fun w g vs hm hv=>(h.2 w g vs hm hv).mono fun e w' ⟨v,r,st',g',h1,h2,h3,h4⟩=>by
    obtain ⟨q,k1,k2⟩:=hr _ _ h2
    exact ⟨v,q,st',g',h1,k2,k1 _ _ h3,h4⟩⟩
theorem Wk.und (p:PV):Wk p .und:=fun _ _ _=>by simp [Rep]
def Nm.vals (k:Nm):List Value:=[.int .i64 k.dot.dev, .int .i64 k.dot.seq, .int .i64 k.at_]
def avT (k:Dt):List Value:=[.int .i64 k.dev, .int .i64 k.seq]
def Nm.enc (k:Nm):Value:= .agg k.vals.toArray
def ahZ (k:Dt):Value:= .agg (avT k).toArray
theorem Nm.key :KeyOK Tryz.prog 223 Nm.enc (fun k=> .agg k.cells):=
  qK aG Nm.vals rfl rfl (fun _=>rfl) (fun a b=>by show some ((decide (a.dot.dev=b.dot.dev)&&decide (a.dot.seq=b.dot.seq))&&decide (a.at_=b.at_))=_;rw [Dt.eqb,Nm.eqb]) (fun _=>rfl) (by kernel_rfl)
theorem tZ :KeyOK Tryz.prog 138 ahZ (fun k=> .agg k.cells):=
  qK aG avT rfl rfl (fun _=>rfl) (fun a b=>by show some (decide (a.dev=b.dev)&&decide (a.seq=b.seq))=_;rw [Dt.eqb]) (fun _=>rfl) (by kernel_rfl)
def ptF (p:Pt):PV:= .agg p.cells
def gL (n:Int):PV:=(PV.val (Value.int .i64 (n)))
def dF (l:List Pt):List (Nm×Pt):=l.foldl (fun m p=>cS (bG p) p m) []
def dR (l:List Pt):List (Dt×Int):=l.foldl (fun m p=>cS p.dot p.time m) []
def lG (m:List (Nm×Pt)) (t:List (Dt×Int)) (p:Pt):Bool:= !((cD (bG p) m).isSome|| !dI p||(match cD p.dot t with|some x=>decide (x≠p.time)|none=>false))
def gX :List Pt→List (Nm×Pt)→List (Dt×Int)→Bool
  |[],_,_=>true
  |p::r,m,t=>lG m t p&&gX r (cS (bG p) p m) (cS p.dot p.time t)
def afU (m:List (Nm×Pt)) (p:Pt):Bool:=decide (bO p=Nm.zero)||(match cD (bO p) m with|some u=>eY u p|none=>false)
def dM (l:List Pt):Bool:=gX l [] []&&l.all (afU (dF l))
theorem yX {l:List Pt} {i:Nat} (h:i<l.length):dF (l.take (i+1))=cS (bG l[i]) l[i] (dF (l.take i)):=by
  rw [List.take_succ_eq_append_getElem h,dF,List.foldl_append];rfl
theorem zG {l:List Pt} {i:Nat} (h:i<l.length):dR (l.take (i+1))=cS l[i].dot l[i].time (dR (l.take i)):=by
  rw [List.take_succ_eq_append_getElem h,dR,List.foldl_append];rfl
theorem acH {l:List Pt} {i:Nat} (h:i<l.length) {m t}:gX (l.drop i) m t=(lG m t l[i]&&gX (l.drop (i+1)) (cS (bG l[i]) l[i] m) (cS l[i].dot l[i].time t)):=by
  rw [List.drop_eq_getElem_cons h];rfl
theorem kY (p q:Pt):PF Tryz.prog 222 [.agg p.cells, .agg q.cells] (PV.val (Value.bool (eY p q))):=by
  refine aK aG Tryz.func222 (by kernel_rfl) rfl rfl rfl rfl (fun st=> ?_)
  (try (apply wO pk;exact rfl));(repeat' (first|(show All _;constructor)|(show Imp _ _;constructor)|(show ImpX _ _ _ _;constructor)|(apply wC pk;(iterate 2 exact rfl))|(apply wE pk;(iterate 2 exact rfl))|(apply wX pk;exact rfl)|(apply wN pk;exact rfl)|(apply wD pk [] [];kernel_rfl;exact rfl;exact rfl)|(apply aB;simp only [zqt,zqf])|(refine aC rfl (fun h=> ?_) (fun h=> ?_)<;>(try simp at h)<;>try (exfalso;omega))|(refine aD ?_;refine ⟨_,_,_,rfl,Wk.refl _,StSub.refl _, ?_,rfl⟩;try first|rfl|(simp only [eY,Sp.eqb];done))|(apply aL;(iterate 3 exact rfl);(intro _;(first|apply (lK p)|apply (lK q)|apply (iF (cW p) (cW q)))<;>first|assumption|omega);rotate_left;(iterate 2 exact rfl))|(intros;(try simp only [zql]);omega)))
theorem arQ (l:List Pt) (st:aO) (hl:l.length<4611686018427387904):PC Tryz.prog 179 [.seq (l.map Pt.cells)] st fun p st'=>(∃m,p= .tup [m,(PV.val (Value.bool (dM l)))])∧st'=st:=by
  refine eD aG Tryz.func179 (by kernel_rfl) rfl rfl rfl rfl ?_
  (try (apply wO pk;exact rfl));(repeat' (first|(show All _;constructor)|(show Imp _ _;constructor)|(show ImpX _ _ _ _;constructor)|(apply wC pk;(iterate 2 exact rfl))|(apply wE pk;(iterate 2 exact rfl))|(apply wX pk;exact rfl)|(apply wN pk;exact rfl)|(apply wD pk [] [];kernel_rfl;exact rfl;exact rfl)|(apply aB;simp only [zqt,zqf])|(refine aC rfl (fun h=> ?_) (fun h=> ?_)<;>(try simp at h)<;>try (exfalso;omega))|(refine aD ?_;refine ⟨_,_,_,rfl,Wk.refl _,StSub.refl _, ?_,rfl⟩;try rfl)|(intros;(try simp only [zql]);omega)))
  refine mkM (enc:=Nm.enc) (f:=ptF) rfl (fun id1 hid1=> ?_)
  (try (apply wO pk;exact rfl));(repeat' (first|(show All _;constructor)|(show Imp _ _;constructor)|(show ImpX _ _ _ _;constructor)|(apply wC pk;(iterate 2 exact rfl))|(apply wE pk;(iterate 2 exact rfl))|(apply wX pk;exact rfl)|(apply wN pk;exact rfl)|(apply wD pk [] [];kernel_rfl;exact rfl;exact rfl)|(apply aB;simp only [zqt,zqf])|(refine aC rfl (fun h=> ?_) (fun h=> ?_)<;>(try simp at h)<;>try (exfalso;omega))|(refine aD ?_;refine ⟨_,_,_,rfl,Wk.refl _,StSub.refl _, ?_,rfl⟩;try rfl)|(intros;(try simp only [zql]);omega)))
  refine mkM (enc:=ahZ) (f:=gL) rfl (fun id2 hid2=> ?_)
  have hid1:st id1=none:=hid1
  have hne:id1≠id2:=by intro e;subst e;have:=hid2;simp only [St.put,St.pv,St.sst,aA] at this;cases this
  have hid2:st id2=none:=by have:=hid2;simp only [St.put,St.pv,St.sst] at this;exact (aF (Ne.symm hne)).symm.trans this
  have hne2:=Ne.symm hne
  (try (apply wO pk;exact rfl));(repeat' (first|(show All _;constructor)|(show Imp _ _;constructor)|(show ImpX _ _ _ _;constructor)|(apply wC pk;(iterate 2 exact rfl))|(apply wE pk;(iterate 2 exact rfl))|(apply wX pk;exact rfl)|(apply wN pk;exact rfl)|(apply wD pk [] [];kernel_rfl;exact rfl;exact rfl)|(apply aB;simp only [zqt,zqf])|(refine aC rfl (fun h=> ?_) (fun h=> ?_)<;>(try simp at h)<;>try (exfalso;omega))|(refine aD ?_;refine ⟨_,_,_,rfl,Wk.refl _,StSub.refl _, ?_,rfl⟩;try rfl)|(intros;(try simp only [zql]);omega)))
  refine aP (X:={x:Nat//x≤l.length∧gX l [] []=gX (l.drop x) (dF (l.take x)) (dR (l.take x))}) (fun i=>(((((((St.nil 94 (upd (upd st id1 (some (.map (bH Nm.enc ptF (dF (l.take i.1)))))) id2 (some (.map (bH ahZ gL (dR (l.take i.1))))))).pv 0 (.seq (l.map Pt.cells))).pv 4 (.mref id1)).pv 5 (.mref id2)).pv 18 (.seq (l.map Pt.cells))).pv 19 ((PV.val (Value.int .i64 ((((l.map Pt.cells)).length:Nat)))))).pv 20 ((PV.val (Value.int .i64 ((i.1:Nat))))))) (fun i=>l.length-i.1) ⟨0,by omega,rfl⟩ ?_ (fun i=> ?_)
  · (first|exact Sub.nil _ _ _ (StSub.refl _) rfl|((repeat (first|refine Sub.pv ?_ rfl|refine Sub.var ?_ rfl rfl));(first|exact Sub.nil _ _ _ (StSub.refl _) rfl|exact Sub.nil _ _ _ (aQ (by assumption)) rfl|exact Sub.nil _ _ _ (aJ (by first|rfl|exact aV (by assumption)|((simp only [St.pv,St.put,St.sst,St.setv,St.nil,St.var,aN]);first|done|rfl))) rfl|(refine Sub.nil _ _ _ (aJ ?_) rfl;(simp only [St.pv,St.put,St.sst,St.setv,St.nil,St.var,aN]);(rw [cX (by assumption)]);first|done|rfl))))
  obtain ⟨i,hi,hinv⟩:=i
  dsimp only
  have hs:=fun h:i<l.length=>acH h (m:=dF (l.take i)) (t:=dR (l.take i))
  have hs1:=fun h:i<l.length=>yX h
  have hs2:=fun h:i<l.length=>zG h
  (try (apply wO pk;exact rfl));(repeat' (first|(show All _;constructor)|(show Imp _ _;constructor)|(show ImpX _ _ _ _;constructor)|(apply wC pk;(iterate 2 exact rfl))|(apply wE pk;(iterate 2 exact rfl))|(apply wX pk;exact rfl)|(apply wN pk;exact rfl)|(apply wDm pk;exact rfl;kernel_rfl;exact rfl;exact rfl)|(apply aB;simp only [zqt,zqf])|(refine aC rfl (fun h=> ?_) (fun h=> ?_)<;>(try simp at h)<;>try (exfalso;omega))|((try refine aD ?_);(first|(refine ⟨_,_,_,rfl,Wk.refl _,StSub.refl _, ?_⟩;((have e:dM l=false:=(by unfold dM;rw [hinv,hs (by omega)];first|(simp [lG, *];done)|(rcases ‹_∨_›with q|q<;>simp [lG, *]));exact ⟨⟨.val (.map none),by rw [e]⟩,rfl⟩));done)|(refine ⟨_,_, ?zs,rfl,Wk.refl _, ?zh, ?zr⟩;(case zh=>(refine aI ?_ (by assumption);(repeat refine aI ?_ (by assumption));exact StSub.refl _));(case zr=>((have e:dM l=false:=(by unfold dM;rw [hinv,hs (by omega)];first|(simp [lG, *];done)|(rcases ‹_∨_›with q|q<;>simp [lG, *]));exact ⟨⟨.val (.map none),by rw [e]⟩,rfl⟩))))|refine ⟨_,_,_,rfl,Wk.refl _,StSub.refl _, ?_⟩))|(apply aL;(iterate 3 exact rfl);(intro _;(first|apply lA|apply gP)<;>first|assumption|omega);rotate_left;(iterate 2 exact rfl))|(apply eE;(iterate 3 exact rfl);(intro _;(first|apply lA|apply gP)<;>first|assumption|omega);rotate_left;(iterate 2 exact rfl))|(apply bC pk;(iterate 6 exact rfl);rotate_left;exact rfl;(intro hw;exact rfl);(intro hw;apply aM<;>omega);(intro _;exact rfl);exact rfl)|(apply ncA;(iterate 3 exact rfl);rotate_left;exact rfl;exact rfl)|(apply ldR pk;exact rfl;exact rfl;rotate_left;exact rfl;(focus ((repeat (first|exact aA _ _ _|assumption|refine (aF (by assumption)).trans ?_));done));exact rfl;exact rfl)|(apply stR pk;exact rfl;exact rfl;(focus ((repeat (first|exact aA _ _ _|assumption|refine (aF (by assumption)).trans ?_));done));exact rfl;exact rfl)|(apply afS pk Nm.key (f:=ptF);(iterate 5 exact rfl);rotate_left;exact rfl;(focus ((repeat (first|exact aA _ _ _|assumption|refine (aF (by assumption)).trans ?_));done));exact rfl;intro v hv;rotate_left;intro hv;rotate_left)|(apply muA pk Nm.key (f:=ptF);(first|exact .inl rfl|exact .inr rfl);(iterate 5 exact rfl);(focus ((repeat (first|exact aA _ _ _|assumption|refine (aF (by assumption)).trans ?_));done));exact rfl)|(apply meA pk Nm.key (f:=ptF) (z:=Pt.zero);(iterate 6 exact rfl);(focus ((repeat (first|exact aA _ _ _|assumption|refine (aF (by assumption)).trans ?_));done));exact rfl)|(apply esA pk Nm.key (f:=ptF);(iterate 4 exact rfl);(focus ((repeat (first|exact aA _ _ _|assumption|refine (aF (by assumption)).trans ?_));done));exact rfl)|(apply afS pk tZ (f:=gL);(iterate 5 exact rfl);rotate_left;exact rfl;(focus ((repeat (first|exact aA _ _ _|assumption|refine (aF (by assumption)).trans ?_));done));exact rfl;intro v hv;rotate_left;intro hv;rotate_left)|(apply muA pk tZ (f:=gL);(first|exact .inl rfl|exact .inr rfl);(iterate 5 exact rfl);(focus ((repeat (first|exact aA _ _ _|assumption|refine (aF (by assumption)).trans ?_));done));exact rfl)|(apply meA pk tZ (f:=gL) (z:=0);(iterate 6 exact rfl);(focus ((repeat (first|exact aA _ _ _|assumption|refine (aF (by assumption)).trans ?_));done));exact rfl)|(apply afS pk tZ (f:=gL) (k:=(l[i]'(by assumption)).dot);(iterate 5 exact rfl);rotate_left;exact rfl;(focus ((repeat (first|exact aA _ _ _|assumption|refine (aF (by assumption)).trans ?_));done));exact rfl;intro v hv;rotate_left;intro hv;rotate_left)|(apply muA pk tZ (f:=gL) (k:=(l[i]'(by assumption)).dot);(first|exact .inl rfl|exact .inr rfl);(iterate 5 exact rfl);(focus ((repeat (first|exact aA _ _ _|assumption|refine (aF (by assumption)).trans ?_));done));exact rfl)|(apply meA pk tZ (f:=gL) (z:=0) (k:=(l[i]'(by assumption)).dot);(iterate 6 exact rfl);(focus ((repeat (first|exact aA _ _ _|assumption|refine (aF (by assumption)).trans ?_));done));exact rfl)|(apply esA pk tZ (f:=gL);(iterate 4 exact rfl);(focus ((repeat (first|exact aA _ _ _|assumption|refine (aF (by assumption)).trans ?_));done));exact rfl)|(refine ⟨⟨i+1,by omega,by rw [hinv,hs (by omega),hs1 (by omega),hs2 (by omega)];simp [lG, *]⟩, ?_,by simp only;omega⟩;(simp only [hs1 (show i<l.length by omega),hs2 (show i<l.length by omega)]);(first|exact Sub.nil _ _ _ (StSub.refl _) rfl|((repeat (first|refine Sub.pv ?_ rfl|refine Sub.var ?_ rfl rfl));(first|exact Sub.nil _ _ _ (StSub.refl _) rfl|exact Sub.nil _ _ _ (aQ (by assumption)) rfl|exact Sub.nil _ _ _ (aJ (by first|rfl|exact aV (by assumption)|((simp only [St.pv,St.put,St.sst,St.setv,St.nil,St.var,aN]);first|done|rfl))) rfl|(refine Sub.nil _ _ _ (aJ ?_) rfl;(simp only [St.pv,St.put,St.sst,St.setv,St.nil,St.var,aN]);(rw [cX (by assumption)]);first|done|rfl)))))|(intros;(try simp only [zql]);omega)))
  have e1:l.take i=l:=List.take_of_length_le (by omega)
  have w1:gX l [] []=true:=by rw [hinv,List.drop_eq_nil_of_le (by omega)];rfl
  refine aP (X:={x:Nat//x≤l.length∧(l.take x).all (afU (dF (l.take i)))=true}) (fun y=>(((((St.nil 94 (upd (upd st id1 (some (.map (bH Nm.enc ptF (dF (l.take i)))))) id2 (some (.map (bH ahZ gL (dR (l.take i))))))).pv 4 (.mref id1)).pv 65 (.seq (l.map Pt.cells))).pv 66 ((PV.val (Value.int .i64 ((((l.map Pt.cells)).length:Nat)))))).pv 67 ((PV.val (Value.int .i64 ((y.1:Nat))))))) (fun y=>l.length-y.1) ⟨0,by omega,rfl⟩ ?_ (fun y=> ?_)
  · (first|exact Sub.nil _ _ _ (StSub.refl _) rfl|((repeat (first|refine Sub.pv ?_ rfl|refine Sub.var ?_ rfl rfl));(first|exact Sub.nil _ _ _ (StSub.refl _) rfl|exact Sub.nil _ _ _ (aQ (by assumption)) rfl|exact Sub.nil _ _ _ (aJ (by first|rfl|exact aV (by assumption)|((simp only [St.pv,St.put,St.sst,St.setv,St.nil,St.var,aN]);first|done|rfl))) rfl|(refine Sub.nil _ _ _ (aJ ?_) rfl;(simp only [St.pv,St.put,St.sst,St.setv,St.nil,St.var,aN]);(rw [cX (by assumption)]);first|done|rfl))))
  clear hs hs1 hs2
  obtain ⟨y,hy,hall⟩:=y
  dsimp only
  (try (apply wO pk;exact rfl));(repeat' (first|(show All _;constructor)|(show Imp _ _;constructor)|(show ImpX _ _ _ _;constructor)|(apply wC pk;(iterate 2 exact rfl))|(apply wE pk;(iterate 2 exact rfl))|(apply wX pk;exact rfl)|(apply wN pk;exact rfl)|(apply wDm pk;exact rfl;kernel_rfl;exact rfl;exact rfl)|(apply aB;simp only [zqt,zqf])|(refine aC rfl (fun h=> ?_) (fun h=> ?_)<;>(try simp at h)<;>try (exfalso;omega))|((try refine aD ?_);(first|(refine ⟨_,_,_,rfl,Wk.refl _,StSub.refl _, ?_⟩;((first|(have e:dM l=false:=(by unfold dM;simp only [e1] at*;rw [w1,Bool.true_and,List.all_eq_false];refine ⟨l[y]'(by assumption),List.getElem_mem _, ?_⟩;simp [afU,Nm.ext_iff,Dt.ext_iff,Nm.zero,Dt.zero,and_assoc, *];try (intros;omega));exact ⟨⟨.val (.map none),by rw [e]⟩,rfl⟩)|(have e:dM l=true:=(by unfold dM;simp only [e1] at*;rw [w1,Bool.true_and,←hall,List.take_of_length_le (by omega)]);exact ⟨⟨.mref id1,by rw [e]⟩,rfl⟩)));done)|(refine ⟨_,_, ?zs,rfl,Wk.refl _, ?zh, ?zr⟩;(case zh=>(refine aI ?_ (by assumption);(repeat refine aI ?_ (by assumption));exact StSub.refl _));(case zr=>((first|(have e:dM l=false:=(by unfold dM;simp only [e1] at*;rw [w1,Bool.true_and,List.all_eq_false];refine ⟨l[y]'(by assumption),List.getElem_mem _, ?_⟩;simp [afU,Nm.ext_iff,Dt.ext_iff,Nm.zero,Dt.zero,and_assoc, *];try (intros;omega));exact ⟨⟨.val (.map none),by rw [e]⟩,rfl⟩)|(have e:dM l=true:=(by unfold dM;simp only [e1] at*;rw [w1,Bool.true_and,←hall,List.take_of_length_le (by omega)]);exact ⟨⟨.mref id1,by rw [e]⟩,rfl⟩)))))|refine ⟨_,_,_,rfl,Wk.refl _,StSub.refl _, ?_⟩))|(apply aL;(iterate 3 exact rfl);(intro _;(first|apply eI|apply kY|apply (kY Pt.zero))<;>first|assumption|omega);rotate_left;(iterate 2 exact rfl))|(apply eE;(iterate 3 exact rfl);(intro _;(first|apply eI|apply kY|apply (kY Pt.zero))<;>first|assumption|omega);rotate_left;(iterate 2 exact rfl))|(apply bC pk;(iterate 6 exact rfl);rotate_left;exact rfl;(intro hw;exact rfl);(intro hw;apply aM<;>omega);(intro _;exact rfl);exact rfl)|(apply ncA;(iterate 3 exact rfl);rotate_left;exact rfl;exact rfl)|(apply ldR pk;exact rfl;exact rfl;rotate_left;exact rfl;(focus ((repeat (first|exact aA _ _ _|assumption|refine (aF (by assumption)).trans ?_));done));exact rfl;exact rfl)|(apply stR pk;exact rfl;exact rfl;(focus ((repeat (first|exact aA _ _ _|assumption|refine (aF (by assumption)).trans ?_));done));exact rfl;exact rfl)|(apply afS pk Nm.key (f:=ptF);(iterate 5 exact rfl);rotate_left;exact rfl;(focus ((repeat (first|exact aA _ _ _|assumption|refine (aF (by assumption)).trans ?_));done));exact rfl;intro v hv;rotate_left;intro hv;rotate_left)|(apply muA pk Nm.key (f:=ptF);(first|exact .inl rfl|exact .inr rfl);(iterate 5 exact rfl);(focus ((repeat (first|exact aA _ _ _|assumption|refine (aF (by assumption)).trans ?_));done));exact rfl)|(apply meA pk Nm.key (f:=ptF) (z:=Pt.zero);(iterate 6 exact rfl);(focus ((repeat (first|exact aA _ _ _|assumption|refine (aF (by assumption)).trans ?_));done));exact rfl)|(apply esA pk Nm.key (f:=ptF);(iterate 4 exact rfl);(focus ((repeat (first|exact aA _ _ _|assumption|refine (aF (by assumption)).trans ?_));done));exact rfl)|(refine ⟨⟨y+1,by omega,by simp only [e1] at*;rw [List.take_succ_eq_append_getElem (by omega),List.all_append,hall];simp [afU,Nm.ext_iff,Dt.ext_iff,Nm.zero,Dt.zero,and_assoc, *];try grind⟩, ?_,by simp only;omega⟩;(first|exact Sub.nil _ _ _ (StSub.refl _) rfl|((repeat (first|refine Sub.pv ?_ rfl|refine Sub.var ?_ rfl rfl));(first|exact Sub.nil _ _ _ (StSub.refl _) rfl|exact Sub.nil _ _ _ (aQ (by assumption)) rfl|exact Sub.nil _ _ _ (aJ (by first|rfl|exact aV (by assumption)|((simp only [St.pv,St.put,St.sst,St.setv,St.nil,St.var,aN]);first|done|rfl))) rfl|(refine Sub.nil _ _ _ (aJ ?_) rfl;(simp only [St.pv,St.put,St.sst,St.setv,St.nil,St.var,aN]);(rw [cX (by assumption)]);first|done|rfl)))))|(intros;(try simp only [zql]);omega)))
end Go.Proofs.YtcglimangneafaaGreatDoor.T
