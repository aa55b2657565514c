import Derived.Test.YtkaliolnijkadaaGreatDoorBsFn
import Derived.Test.YtkaliolnijkadaaGreatDoorBsLay
import Derived.Test.YtkaliolnijkadaaGreatDoorAbsE
set_option linter.unusedSimpArgs false
set_option linter.unusedVariables false
namespace Go.Proofs.YtkaliolnijkadaaGreatDoor.T
open Go Go.Abs
structure Sp where
  time:Int
  dev:Int
  seq:Int
  deriving DecidableEq,Inhabited
def Sp.cells (a:Sp):List PV:=[.val (.int .i64 (a.time)), .val (.int .i64 (a.dev)), .val (.int .i64 (a.seq))]
def Sp.zero :Sp:=⟨0,0,0⟩
theorem Sp.ext_iff (a b:Sp):a=b↔a.time=b.time∧a.dev=b.dev∧a.seq=b.seq:=by cases a;cases b;simp
theorem Sp.eqb (a b:Sp):(decide (a.time=b.time)&&(decide (a.dev=b.dev)&&(decide (a.seq=b.seq))))=decide (a=b):=by rw [Bool.eq_iff_iff];simp [Sp.ext_iff]
theorem Sp.eqz (a:Sp):(decide (a.time=0)&&(decide (a.dev=0)&&(decide (a.seq=0))))=decide (a=Sp.zero):=by rw [Bool.eq_iff_iff];simp [Sp.ext_iff,Sp.zero]
theorem Sp.elem :Elem tt 197 Sp.cells (fun a=> .agg a.cells) 3:=⟨rfl,fun _=>rfl,fun _=>rfl,fun _=>rfl,fun _=>rfl⟩
structure Nm where
  dot:Dt
  at_:Int
  deriving DecidableEq,Inhabited
def Nm.cells (a:Nm):List PV:=[.val (.int .i64 (a.dot.dev)), .val (.int .i64 (a.dot.seq)), .val (.int .i64 (a.at_))]
def Nm.zero :Nm:=⟨Dt.zero,0⟩
theorem Nm.ext_iff (a b:Nm):a=b↔a.dot=b.dot∧a.at_=b.at_:=by cases a;cases b;simp
theorem Nm.eqb (a b:Nm):(decide (a.dot=b.dot)&&(decide (a.at_=b.at_)))=decide (a=b):=by rw [Bool.eq_iff_iff];simp [Nm.ext_iff]
theorem Nm.eqz (a:Nm):(decide (a.dot=Dt.zero)&&(decide (a.at_=0)))=decide (a=Nm.zero):=by rw [Bool.eq_iff_iff];simp [Nm.ext_iff,Nm.zero]
theorem Nm.elem :Elem tt 176 Nm.cells (fun a=> .agg a.cells) 3:=⟨rfl,fun _=>rfl,fun _=>rfl,fun _=>rfl,fun _=>rfl⟩
end Go.Proofs.YtkaliolnijkadaaGreatDoor.T
namespace Go.Proofs.YtkaliolnijkadaaGreatDoor.T
open Go Go.Abs
attribute [local irreducible] Ev PWp
set_option maxRecDepth 10000
def aO (p:Pt):Nm:=⟨p.dot,p.at_⟩
def aN (p:Pt):Nm:=⟨p.after,p.afterAt⟩
def aZ (p:Pt):Sp:=⟨p.time,p.dot.dev,p.dot.seq⟩
def eA (n a b:Int):Bool:=decide (n≥a)&&decide (n≤b)
def pD (n:Nm):Bool:=(eA n.dot.dev 1 64&&eA n.dot.seq 1 1048576)&&eA n.at_ 0 1999
def bT (p:Pt):Bool:=((((decide (p.val.kind=1)&&decide (p.val.s=e0))&&eA p.val.n 0 255)&&eA p.time 1 1125899906842624)&&pD (aO p))&&(decide (aN p=Nm.zero)||pD (aN p))
def fV (a b:Sp):Bool:=if a.time≠b.time then decide (a.time<b.time) else if a.dev≠b.dev then decide (a.dev<b.dev) else decide (a.seq<b.seq)
def cU (p q:Pt):Bool:=fV (aZ p) (aZ q)||(decide (aZ p=aZ q)&&decide (p.at_<q.at_))
theorem iJ (p:Pt):PF Tryz.prog 146 [.agg p.cells] (.agg (aO p).cells):=by
  refine aJ aG Tryz.func146 (by kernel_rfl) rfl rfl rfl rfl (fun st=> ?_)
  (try (apply wO pk;exact rfl));(repeat' (first|(show All _;constructor)|(show Imp _ _;constructor)|(show ImpX _ _ _ _;constructor)|(apply wC pk;(iterate 2 exact rfl))|(apply wE pk;(iterate 2 exact rfl))|(apply wX pk;exact rfl)|(apply wN pk;exact rfl)|(apply wD pk [] [];kernel_rfl;exact rfl;exact rfl)|(apply aB;simp only [cond_true,cond_false])|(refine aC rfl (fun h=> ?_) (fun h=> ?_)<;>(try simp at h)<;>try (exfalso;omega))|(refine aF ?_;refine ⟨_,_,_,rfl,Wk.refl _,StSub.refl _, ?_,rfl⟩;try rfl)|(intros;(try simp only [List.length_map]);omega)))
theorem dP (p:Pt):PF Tryz.prog 148 [.agg p.cells] (.agg (aN p).cells):=by
  refine aJ aG Tryz.func148 (by kernel_rfl) rfl rfl rfl rfl (fun st=> ?_)
  (try (apply wO pk;exact rfl));(repeat' (first|(show All _;constructor)|(show Imp _ _;constructor)|(show ImpX _ _ _ _;constructor)|(apply wC pk;(iterate 2 exact rfl))|(apply wE pk;(iterate 2 exact rfl))|(apply wX pk;exact rfl)|(apply wN pk;exact rfl)|(apply wD pk [] [];kernel_rfl;exact rfl;exact rfl)|(apply aB;simp only [cond_true,cond_false])|(refine aC rfl (fun h=> ?_) (fun h=> ?_)<;>(try simp at h)<;>try (exfalso;omega))|(refine aF ?_;refine ⟨_,_,_,rfl,Wk.refl _,StSub.refl _, ?_,rfl⟩;try rfl)|(intros;(try simp only [List.length_map]);omega)))
theorem iF (p:Pt):PF Tryz.prog 183 [.agg p.cells] (.agg (aZ p).cells):=by
  refine aJ aG Tryz.func183 (by kernel_rfl) rfl rfl rfl rfl (fun st=> ?_)
  (try (apply wO pk;exact rfl));(repeat' (first|(show All _;constructor)|(show Imp _ _;constructor)|(show ImpX _ _ _ _;constructor)|(apply wC pk;(iterate 2 exact rfl))|(apply wE pk;(iterate 2 exact rfl))|(apply wX pk;exact rfl)|(apply wN pk;exact rfl)|(apply wD pk [] [];kernel_rfl;exact rfl;exact rfl)|(apply aB;simp only [cond_true,cond_false])|(refine aC rfl (fun h=> ?_) (fun h=> ?_)<;>(try simp at h)<;>try (exfalso;omega))|(refine aF ?_;refine ⟨_,_,_,rfl,Wk.refl _,StSub.refl _, ?_,rfl⟩;try rfl)|(intros;(try simp only [List.length_map]);omega)))
theorem oH (n a b:Int):PF Tryz.prog 181 [(PV.val (Value.int .i64 (n))),(PV.val (Value.int .i64 (a))),(PV.val (Value.int .i64 (b)))] (PV.val (Value.bool (eA n a b))):=by
  refine aJ aG Tryz.func181 (by kernel_rfl) rfl rfl rfl rfl (fun st=> ?_)
  (try (apply wO pk;exact rfl));(repeat' (first|(show All _;constructor)|(show Imp _ _;constructor)|(show ImpX _ _ _ _;constructor)|(apply wC pk;(iterate 2 exact rfl))|(apply wE pk;(iterate 2 exact rfl))|(apply wX pk;exact rfl)|(apply wN pk;exact rfl)|(apply wD pk [] [];kernel_rfl;exact rfl;exact rfl)|(apply aB;simp only [cond_true,cond_false])|(refine aC rfl (fun h=> ?_) (fun h=> ?_)<;>(try simp at h)<;>try (exfalso;omega))|(refine aF ?_;refine ⟨_,_,_,rfl,Wk.refl _,StSub.refl _, ?_,rfl⟩;try rfl)|(intros;(try simp only [List.length_map]);omega)))
theorem wH (n:Nm):PF Tryz.prog 182 [.agg n.cells] (PV.val (Value.bool (pD n))):=by
  refine aJ aG Tryz.func182 (by kernel_rfl) rfl rfl rfl rfl (fun st=> ?_)
  (try (apply wO pk;exact rfl));(repeat' (first|(show All _;constructor)|(show Imp _ _;constructor)|(show ImpX _ _ _ _;constructor)|(apply wC pk;(iterate 2 exact rfl))|(apply wE pk;(iterate 2 exact rfl))|(apply wX pk;exact rfl)|(apply wN pk;exact rfl)|(apply wD pk [] [];kernel_rfl;exact rfl;exact rfl)|(apply aB;simp only [cond_true,cond_false])|(refine aC rfl (fun h=> ?_) (fun h=> ?_)<;>(try simp at h)<;>try (exfalso;omega))|(refine aF ?_;refine ⟨_,_,_,rfl,Wk.refl _,StSub.refl _, ?_,rfl⟩;try rfl)|(apply aL;(iterate 3 exact rfl);(intro _;apply oH<;>first|assumption|omega);rotate_left;(iterate 2 exact rfl))|(intros;(try simp only [List.length_map]);omega)))
theorem nS (p:Pt):PF Tryz.prog 147 [.agg p.cells] (PV.val (Value.bool (bT p))):=by
  refine aJ aG Tryz.func147 (by kernel_rfl) rfl rfl rfl rfl (fun st=> ?_)
  (try (apply wO pk;exact rfl));(repeat' (first|(show All _;constructor)|(show Imp _ _;constructor)|(show ImpX _ _ _ _;constructor)|(apply wC pk;(iterate 2 exact rfl))|(apply wE pk;(iterate 2 exact rfl))|(apply wX pk;exact rfl)|(apply wN pk;exact rfl)|(apply wD pk [] [];kernel_rfl;exact rfl;exact rfl)|(apply aB;simp only [cond_true,cond_false])|(refine aC rfl (fun h=> ?_) (fun h=> ?_)<;>(try simp at h)<;>try (exfalso;omega))|(refine aF ?_;refine ⟨_,_,_,rfl,Wk.refl _,StSub.refl _, ?_,rfl⟩;try first|rfl|(simp only [bT,Dt.eqz,Nm.eqz];done))|(apply aL;(iterate 3 exact rfl);(intro _;(first|apply oH|apply (iJ p)|apply (dP p)|apply (wH (aO p))|apply (wH (aN p)))<;>first|assumption|omega);rotate_left;(iterate 2 exact rfl))|(intros;(try simp only [List.length_map]);omega)))
def amU (a:Sp):List PV:=[(PV.val (Value.int .i64 (a.time))),(PV.val (Value.int .i64 (a.dev))),(PV.val (Value.int .i64 (a.seq)))]
theorem uP (a:Sp):PF Tryz.prog 217 [.agg a.cells] (.agg (amU a)):=by
  refine aJ aG Tryz.func217 (by kernel_rfl) rfl rfl rfl rfl (fun st=> ?_)
  (try (apply wO pk;exact rfl));(repeat' (first|(show All _;constructor)|(show Imp _ _;constructor)|(show ImpX _ _ _ _;constructor)|(apply wC pk;(iterate 2 exact rfl))|(apply wE pk;(iterate 2 exact rfl))|(apply wX pk;exact rfl)|(apply wN pk;exact rfl)|(apply wD pk [] [];kernel_rfl;exact rfl;exact rfl)|(apply aB;simp only [cond_true,cond_false])|(refine aC rfl (fun h=> ?_) (fun h=> ?_)<;>(try simp at h)<;>try (exfalso;omega))|(refine aF ?_;refine ⟨_,_,_,rfl,Wk.refl _,StSub.refl _, ?_,rfl⟩;try rfl)|(intros;(try simp only [List.length_map]);omega)))
def sF :List Int→List Int→Int
  |[],[]=>0
  |[],_::_=> -1
  |_::_,[]=>1
  |a::l,b::m=>if fF a b=0 then sF l m else fF a b
theorem rJ {l m:List Int} {i:Nat} (h:i<l.length) (h2:i<m.length):sF (l.drop i) (m.drop i)=if fF l[i] m[i]=0 then sF (l.drop (i+1)) (m.drop (i+1)) else fF l[i] m[i]:=by
  rw [List.drop_eq_getElem_cons h,List.drop_eq_getElem_cons h2,sF]
theorem tZ (l m:List Int) (hl:l.length<4611686018427387904):PF Tryz.prog 218 [.seq (l.map I1), .seq (m.map I1)] (PV.val (Value.int .i64 (sF l m))):=by
  refine aJ aG Tryz.func218 (by kernel_rfl) rfl rfl rfl rfl (fun st=> ?_)
  (try (apply wO pk;exact rfl));(repeat' (first|(show All _;constructor)|(show Imp _ _;constructor)|(show ImpX _ _ _ _;constructor)|(apply wC pk;(iterate 2 exact rfl))|(apply wE pk;(iterate 2 exact rfl))|(apply wX pk;exact rfl)|(apply wN pk;exact rfl)|(apply wD pk [] [];kernel_rfl;exact rfl;exact rfl)|(apply aB;simp only [cond_true,cond_false])|(refine aC rfl (fun h=> ?_) (fun h=> ?_)<;>(try simp at h)<;>try (exfalso;omega))|(refine aF ?_;refine ⟨_,_,_,rfl,Wk.refl _,StSub.refl _, ?_,rfl⟩;try rfl)|(intros;(try simp only [List.length_map]);omega)))
  refine aM (X:={x:Nat//x≤l.length∧x≤m.length∧sF (l.drop x) (m.drop x)=sF l m}) (fun i=>((((((St.nil 36 st).pv 0 (.seq (l.map I1))).pv 1 (.seq (m.map I1))).pv 9 (.seq (l.map I1))).pv 10 ((PV.val (Value.int .i64 ((((l.map I1)).length:Nat)))))).pv 11 ((PV.val (Value.int .i64 ((i.1:Nat))))))) (fun i=>l.length-i.1) ⟨0,by omega,by omega,by simp⟩ ?_ (fun i=> ?_)
  · ((repeat (first|refine Sub.pv ?_ rfl|refine Sub.var ?_ rfl rfl));exact Sub.nil _ _ _ (StSub.refl _) rfl)
  obtain ⟨i,h1,h2,hinv⟩:=i
  dsimp only
  (try (apply wO pk;exact rfl));(repeat' (first|(show All _;constructor)|(show Imp _ _;constructor)|(show ImpX _ _ _ _;constructor)|(apply wC pk;(iterate 2 exact rfl))|(apply wE pk;(iterate 2 exact rfl))|(apply wX pk;exact rfl)|(apply wN pk;exact rfl)|(apply wD pk [] [];kernel_rfl;exact rfl;exact rfl)|(apply aB;simp only [cond_true,cond_false])|(refine aC rfl (fun h=> ?_) (fun h=> ?_)<;>(try simp at h)<;>try (exfalso;omega))|(refine aF ?_;refine ⟨_,_,_,rfl,Wk.refl _,StSub.refl _, ?_,rfl⟩;try first|rfl|((rw [←hinv];(first|(rw [rJ (by omega) (by omega),if_neg (by assumption)];done)|(rw [List.drop_eq_nil_of_le (show l.length≤i by omega),List.drop_eq_getElem_cons (show i<m.length by omega)];rfl)|(rw [List.drop_eq_nil_of_le (show l.length≤i by omega),List.drop_eq_nil_of_le (show m.length≤i by omega)];rfl)|(rw [List.drop_eq_nil_of_le (show m.length≤i by omega),List.drop_eq_getElem_cons (show i<l.length by omega)];rfl)));done))|(apply aL;(iterate 3 exact rfl);(intro _;apply (fC _ _)<;>first|assumption|omega);rotate_left;(iterate 2 exact rfl))|(apply bC pk;(iterate 6 exact rfl);rotate_left;exact rfl;(intro hw;exact rfl);(intro hw;apply aI<;>omega);(intro _;exact rfl);exact rfl)|(refine ⟨⟨i+1,by omega,by omega,by rw [←hinv,rJ (i:=i) (by omega) (by omega),if_pos (by assumption)]⟩, ?_,by simp only;omega⟩;((repeat (first|refine Sub.pv ?_ rfl|refine Sub.var ?_ rfl rfl));exact Sub.nil _ _ _ (StSub.refl _) rfl))|(intros;(try simp only [List.length_map]);omega)))
def ajT (a b:Sp):Int:=if a=b then 0 else sF [a.time,a.dev,a.seq] [b.time,b.dev,b.seq]
theorem adM (a b:Sp):PF Tryz.prog 200 [.agg a.cells, .agg b.cells] (PV.val (Value.int .i64 (ajT a b))):=by
  refine aJ aG Tryz.func200 (by kernel_rfl) rfl rfl rfl rfl (fun st=> ?_)
  (try (apply wO pk;exact rfl));(repeat' (first|(apply akB 5;(iterate 3 exact rfl))|(apply akB 6;(iterate 3 exact rfl))|(show All _;constructor)|(show Imp _ _;constructor)|(show ImpX _ _ _ _;constructor)|(apply wC pk;(iterate 2 exact rfl))|(apply wE pk;(iterate 2 exact rfl))|(apply wX pk;exact rfl)|(apply wN pk;exact rfl)|(apply wD pk [] [];kernel_rfl;exact rfl;exact rfl)|(apply aB;simp only [cond_true,cond_false])|(refine aC rfl (fun h=> ?_) (fun h=> ?_)<;>(try simp at h)<;>try (exfalso;omega))|(refine aF ?_;refine ⟨_,_,_,rfl,Wk.refl _,StSub.refl _, ?_,rfl⟩;try first|rfl|((simp_all [ajT,Sp.ext_iff];done);done))|(apply aL;(iterate 3 exact rfl);(intro _;(first|apply (uP a)|apply (uP b)|apply (tZ [a.time,a.dev,a.seq] [b.time,b.dev,b.seq] (show 3<4611686018427387904 from by omega)))<;>first|assumption|omega);rotate_left;(iterate 2 exact rfl))|(apply slA pk (rows:=[a.time,a.dev,a.seq].map I1);(iterate 7 exact rfl);rotate_left;exact rfl;exact rfl)|(apply slA pk (rows:=[b.time,b.dev,b.seq].map I1);(iterate 7 exact rfl);rotate_left;exact rfl;exact rfl)|(intros;(try simp only [List.length_map]);omega)))
theorem sK (a b:Int):fF a b<0↔a<b:=by unfold fF;split<;>(try split)<;>omega
theorem ajY (a b:Int):fF a b=0↔a=b:=by unfold fF;split<;>(try split)<;>omega
theorem acF (a b:Sp):decide (ajT a b<0)=fV a b:=by
  unfold ajT fV
  by_cases h:a=b
  · subst h;simp
  · rw [if_neg h]
    simp only [sF,ajY]
    by_cases h1:a.time=b.time
    · by_cases h2:a.dev=b.dev
      · have h3:¬a.seq=b.seq:=fun e=>h ((Sp.ext_iff _ _).2 ⟨h1,h2,e⟩)
        simp [h1,h2,h3,sK]
      · simp [h1,h2,sK]
    · simp [h1,sK]
theorem rM (a b:Sp):PF Tryz.prog 184 [.agg a.cells, .agg b.cells] (PV.val (Value.bool (fV a b))):=by
  rw [←acF]
  refine aJ aG Tryz.func184 (by kernel_rfl) rfl rfl rfl rfl (fun st=> ?_)
  (try (apply wO pk;exact rfl));(repeat' (first|(show All _;constructor)|(show Imp _ _;constructor)|(show ImpX _ _ _ _;constructor)|(apply wC pk;(iterate 2 exact rfl))|(apply wE pk;(iterate 2 exact rfl))|(apply wX pk;exact rfl)|(apply wN pk;exact rfl)|(apply wD pk [] [];kernel_rfl;exact rfl;exact rfl)|(apply aB;simp only [cond_true,cond_false])|(refine aC rfl (fun h=> ?_) (fun h=> ?_)<;>(try simp at h)<;>try (exfalso;omega))|(refine aF ?_;refine ⟨_,_,_,rfl,Wk.refl _,StSub.refl _, ?_,rfl⟩;try rfl)|(apply aL;(iterate 3 exact rfl);(intro _;apply (adM a b)<;>first|assumption|omega);rotate_left;(iterate 2 exact rfl))|(intros;(try simp only [List.length_map]);omega)))
end Go.Proofs.YtkaliolnijkadaaGreatDoor.T
namespace Go.Proofs.YtkaliolnijkadaaGreatDoor.T
open Go Go.Abs
attribute [local irreducible] Ev PWp
set_option maxRecDepth 10000
set_option maxHeartbeats 1000000
theorem alY {f:FuncId} {args:List PV} {st:aK} {R R':PV→aK→Prop} (h:PC Tryz.prog f args st R) (hr:∀p st',R p st'→∃q,Wk p q∧R' q st'):PC Tryz.prog f args st R':=
  ⟨h.1,fun w g vs hm hv=>(h.2 w g vs hm hv).mono fun e w' ⟨v,r,st',g',h1,h2,h3,h4⟩=>by
    obtain ⟨q,k1,k2⟩:=hr _ _ h2
    exact ⟨v,q,st',g',h1,k2,k1 _ _ h3,h4⟩⟩
theorem Wk.und (p:PV):Wk p .und:=fun _ _ _=>by simp [Rep]
def Nm.vals (k:Nm):List Value:=[.int .i64 k.dot.dev, .int .i64 k.dot.seq, .int .i64 k.at_]
def akG (k:Dt):List Value:=[.int .i64 k.dev, .int .i64 k.seq]
def Nm.enc (k:Nm):Value:= .agg k.vals.toArray
def aaJ (k:Dt):Value:= .agg (akG k).toArray
theorem Nm.key :KeyOK Tryz.prog 176 Nm.enc (fun k=> .agg k.cells):=
  lV aG Nm.vals rfl rfl (fun _=>rfl) (fun a b=>by show some ((decide (a.dot.dev=b.dot.dev)&&decide (a.dot.seq=b.dot.seq))&&decide (a.at_=b.at_))=_;rw [Dt.eqb,Nm.eqb]) (fun _=>rfl) (by kernel_rfl)
theorem pB :KeyOK Tryz.prog 40 aaJ (fun k=> .agg k.cells):=
  lV aG akG rfl rfl (fun _=>rfl) (fun a b=>by show some (decide (a.dev=b.dev)&&decide (a.seq=b.seq))=_;rw [Dt.eqb]) (fun _=>rfl) (by kernel_rfl)
def ptF (p:Pt):PV:= .agg p.cells
def qO (n:Int):PV:=(PV.val (Value.int .i64 (n)))
def cL (l:List Pt):List (Nm×Pt):=l.foldl (fun m p=>cX (aO p) p m) []
def dA (l:List Pt):List (Dt×Int):=l.foldl (fun m p=>cX p.dot p.time m) []
def iK (m:List (Nm×Pt)) (t:List (Dt×Int)) (p:Pt):Bool:= !((dN (aO p) m).isSome|| !bT p||(match dN p.dot t with|some x=>decide (x≠p.time)|none=>false))
def fH :List Pt→List (Nm×Pt)→List (Dt×Int)→Bool
  |[],_,_=>true
  |p::r,m,t=>iK m t p&&fH r (cX (aO p) p m) (cX p.dot p.time t)
def zQ (m:List (Nm×Pt)) (p:Pt):Bool:=decide (aN p=Nm.zero)||(match dN (aN p) m with|some u=>cU u p|none=>false)
def cG (l:List Pt):Bool:=fH l [] []&&l.all (zQ (cL l))
theorem sO {l:List Pt} {i:Nat} (h:i<l.length):cL (l.take (i+1))=cX (aO l[i]) l[i] (cL (l.take i)):=by
  rw [List.take_succ_eq_append_getElem h,cL,List.foldl_append];rfl
theorem tV {l:List Pt} {i:Nat} (h:i<l.length):dA (l.take (i+1))=cX l[i].dot l[i].time (dA (l.take i)):=by
  rw [List.take_succ_eq_append_getElem h,dA,List.foldl_append];rfl
theorem xC {l:List Pt} {i:Nat} (h:i<l.length) {m t}:fH (l.drop i) m t=(iK m t l[i]&&fH (l.drop (i+1)) (cX (aO l[i]) l[i] m) (cX l[i].dot l[i].time t)):=by
  rw [List.drop_eq_getElem_cons h];rfl
theorem hZ (p q:Pt):PF Tryz.prog 149 [.agg p.cells, .agg q.cells] (PV.val (Value.bool (cU p q))):=by
  refine aJ aG Tryz.func149 (by kernel_rfl) rfl rfl rfl rfl (fun st=> ?_)
  (try (apply wO pk;exact rfl));(repeat' (first|(show All _;constructor)|(show Imp _ _;constructor)|(show ImpX _ _ _ _;constructor)|(apply wC pk;(iterate 2 exact rfl))|(apply wE pk;(iterate 2 exact rfl))|(apply wX pk;exact rfl)|(apply wN pk;exact rfl)|(apply wD pk [] [];kernel_rfl;exact rfl;exact rfl)|(apply aB;simp only [cond_true,cond_false])|(refine aC rfl (fun h=> ?_) (fun h=> ?_)<;>(try simp at h)<;>try (exfalso;omega))|(refine aF ?_;refine ⟨_,_,_,rfl,Wk.refl _,StSub.refl _, ?_,rfl⟩;try first|rfl|(simp only [cU,Sp.eqb];done))|(apply aL;(iterate 3 exact rfl);(intro _;(first|apply (iF p)|apply (iF q)|apply (rM (aZ p) (aZ q)))<;>first|assumption|omega);rotate_left;(iterate 2 exact rfl))|(intros;(try simp only [List.length_map]);omega)))
theorem ahC (l:List Pt) (st:aK) (hl:l.length<4611686018427387904):PC Tryz.prog 111 [.seq (l.map Pt.cells)] st fun p st'=>(∃m,p= .tup [m,(PV.val (Value.bool (cG l)))])∧st'=st:=by
  refine dG aG Tryz.func111 (by kernel_rfl) rfl rfl rfl rfl ?_
  (try (apply wO pk;exact rfl));(repeat' (first|(show All _;constructor)|(show Imp _ _;constructor)|(show ImpX _ _ _ _;constructor)|(apply wC pk;(iterate 2 exact rfl))|(apply wE pk;(iterate 2 exact rfl))|(apply wX pk;exact rfl)|(apply wN pk;exact rfl)|(apply wD pk [] [];kernel_rfl;exact rfl;exact rfl)|(apply aB;simp only [cond_true,cond_false])|(refine aC rfl (fun h=> ?_) (fun h=> ?_)<;>(try simp at h)<;>try (exfalso;omega))|(refine aF ?_;refine ⟨_,_,_,rfl,Wk.refl _,StSub.refl _, ?_,rfl⟩;try rfl)|(intros;(try simp only [List.length_map]);omega)))
  refine mkM (enc:=Nm.enc) (f:=ptF) rfl (fun id1 hid1=> ?_)
  (try (apply wO pk;exact rfl));(repeat' (first|(show All _;constructor)|(show Imp _ _;constructor)|(show ImpX _ _ _ _;constructor)|(apply wC pk;(iterate 2 exact rfl))|(apply wE pk;(iterate 2 exact rfl))|(apply wX pk;exact rfl)|(apply wN pk;exact rfl)|(apply wD pk [] [];kernel_rfl;exact rfl;exact rfl)|(apply aB;simp only [cond_true,cond_false])|(refine aC rfl (fun h=> ?_) (fun h=> ?_)<;>(try simp at h)<;>try (exfalso;omega))|(refine aF ?_;refine ⟨_,_,_,rfl,Wk.refl _,StSub.refl _, ?_,rfl⟩;try rfl)|(intros;(try simp only [List.length_map]);omega)))
  refine mkM (enc:=aaJ) (f:=qO) rfl (fun id2 hid2=> ?_)
  have hid1:st id1=none:=hid1
  have hne:id1≠id2:=by intro e;subst e;have:=hid2;simp only [St.put,St.pv,St.sst,aA] at this;cases this
  have hid2:st id2=none:=by have:=hid2;simp only [St.put,St.pv,St.sst] at this;exact (aD (Ne.symm hne)).symm.trans this
  have hne2:=Ne.symm hne
  (try (apply wO pk;exact rfl));(repeat' (first|(show All _;constructor)|(show Imp _ _;constructor)|(show ImpX _ _ _ _;constructor)|(apply wC pk;(iterate 2 exact rfl))|(apply wE pk;(iterate 2 exact rfl))|(apply wX pk;exact rfl)|(apply wN pk;exact rfl)|(apply wD pk [] [];kernel_rfl;exact rfl;exact rfl)|(apply aB;simp only [cond_true,cond_false])|(refine aC rfl (fun h=> ?_) (fun h=> ?_)<;>(try simp at h)<;>try (exfalso;omega))|(refine aF ?_;refine ⟨_,_,_,rfl,Wk.refl _,StSub.refl _, ?_,rfl⟩;try rfl)|(intros;(try simp only [List.length_map]);omega)))
  refine aM (X:={x:Nat//x≤l.length∧fH l [] []=fH (l.drop x) (cL (l.take x)) (dA (l.take x))}) (fun i=>(((((((St.nil 94 (upd (upd st id1 (some (.map (bI Nm.enc ptF (cL (l.take i.1)))))) id2 (some (.map (bI aaJ qO (dA (l.take i.1))))))).pv 0 (.seq (l.map Pt.cells))).pv 4 (.mref id1)).pv 5 (.mref id2)).pv 18 (.seq (l.map Pt.cells))).pv 19 ((PV.val (Value.int .i64 ((((l.map Pt.cells)).length:Nat)))))).pv 20 ((PV.val (Value.int .i64 ((i.1:Nat))))))) (fun i=>l.length-i.1) ⟨0,by omega,rfl⟩ ?_ (fun i=> ?_)
  · (first|exact Sub.nil _ _ _ (StSub.refl _) rfl|((repeat (first|refine Sub.pv ?_ rfl|refine Sub.var ?_ rfl rfl));(first|exact Sub.nil _ _ _ (StSub.refl _) rfl|exact Sub.nil _ _ _ (bE (by assumption)) rfl|exact Sub.nil _ _ _ (aS (by first|rfl|exact bX (by assumption)|((simp only [St.pv,St.put,St.sst,St.setv,St.nil,St.var,aV]);first|done|rfl))) rfl|(refine Sub.nil _ _ _ (aS ?_) rfl;(simp only [St.pv,St.put,St.sst,St.setv,St.nil,St.var,aV]);(rw [fW (by assumption)]);first|done|rfl))))
  obtain ⟨i,hi,hinv⟩:=i
  dsimp only
  have hs:=fun h:i<l.length=>xC h (m:=cL (l.take i)) (t:=dA (l.take i))
  have hs1:=fun h:i<l.length=>sO h
  have hs2:=fun h:i<l.length=>tV h
  (try (apply wO pk;exact rfl));(repeat' (first|(show All _;constructor)|(show Imp _ _;constructor)|(show ImpX _ _ _ _;constructor)|(apply wC pk;(iterate 2 exact rfl))|(apply wE pk;(iterate 2 exact rfl))|(apply wX pk;exact rfl)|(apply wN pk;exact rfl)|(apply wDm pk;exact rfl;kernel_rfl;exact rfl;exact rfl)|(apply aB;simp only [cond_true,cond_false])|(refine aC rfl (fun h=> ?_) (fun h=> ?_)<;>(try simp at h)<;>try (exfalso;omega))|((try refine aF ?_);(first|(refine ⟨_,_,_,rfl,Wk.refl _,StSub.refl _, ?_⟩;((have e:cG l=false:=(by unfold cG;rw [hinv,hs (by omega)];first|(simp [iK, *];done)|(rcases ‹_∨_›with q|q<;>simp [iK, *]));exact ⟨⟨.val (.map none),by rw [e]⟩,rfl⟩));done)|(refine ⟨_,_, ?zs,rfl,Wk.refl _, ?zh, ?zr⟩;(case zh=>(refine aH ?_ (by assumption);(repeat refine aH ?_ (by assumption));exact StSub.refl _));(case zr=>((have e:cG l=false:=(by unfold cG;rw [hinv,hs (by omega)];first|(simp [iK, *];done)|(rcases ‹_∨_›with q|q<;>simp [iK, *]));exact ⟨⟨.val (.map none),by rw [e]⟩,rfl⟩))))|refine ⟨_,_,_,rfl,Wk.refl _,StSub.refl _, ?_⟩))|(apply aL;(iterate 3 exact rfl);(intro _;(first|apply iJ|apply nS)<;>first|assumption|omega);rotate_left;(iterate 2 exact rfl))|(apply fB;(iterate 3 exact rfl);(intro _;(first|apply iJ|apply nS)<;>first|assumption|omega);rotate_left;(iterate 2 exact rfl))|(apply bC pk;(iterate 6 exact rfl);rotate_left;exact rfl;(intro hw;exact rfl);(intro hw;apply aI<;>omega);(intro _;exact rfl);exact rfl)|(apply ncA;(iterate 3 exact rfl);rotate_left;exact rfl;exact rfl)|(apply ldR pk;exact rfl;exact rfl;rotate_left;exact rfl;(first|exact aA _ _ _|assumption|(focus ((repeat (first|exact aA _ _ _|assumption|refine (aD (by assumption)).trans ?_));done)));exact rfl;exact rfl)|(apply stR pk;exact rfl;exact rfl;(first|exact aA _ _ _|assumption|(focus ((repeat (first|exact aA _ _ _|assumption|refine (aD (by assumption)).trans ?_));done)));exact rfl;exact rfl)|(apply yE pk Nm.key (f:=ptF);(iterate 5 exact rfl);rotate_left;exact rfl;(first|exact aA _ _ _|assumption|(focus ((repeat (first|exact aA _ _ _|assumption|refine (aD (by assumption)).trans ?_));done)));exact rfl;intro v hv;rotate_left;intro hv;rotate_left)|(apply muA pk Nm.key (f:=ptF);(first|exact .inl rfl|exact .inr rfl);(iterate 5 exact rfl);(first|exact aA _ _ _|assumption|(focus ((repeat (first|exact aA _ _ _|assumption|refine (aD (by assumption)).trans ?_));done)));exact rfl)|(apply meA pk Nm.key (f:=ptF) (z:=Pt.zero);(iterate 6 exact rfl);(first|exact aA _ _ _|assumption|(focus ((repeat (first|exact aA _ _ _|assumption|refine (aD (by assumption)).trans ?_));done)));exact rfl)|(apply esA pk Nm.key (f:=ptF);(iterate 4 exact rfl);(first|exact aA _ _ _|assumption|(focus ((repeat (first|exact aA _ _ _|assumption|refine (aD (by assumption)).trans ?_));done)));exact rfl)|(apply yE pk pB (f:=qO);(iterate 5 exact rfl);rotate_left;exact rfl;(first|exact aA _ _ _|assumption|(focus ((repeat (first|exact aA _ _ _|assumption|refine (aD (by assumption)).trans ?_));done)));exact rfl;intro v hv;rotate_left;intro hv;rotate_left)|(apply muA pk pB (f:=qO);(first|exact .inl rfl|exact .inr rfl);(iterate 5 exact rfl);(first|exact aA _ _ _|assumption|(focus ((repeat (first|exact aA _ _ _|assumption|refine (aD (by assumption)).trans ?_));done)));exact rfl)|(apply meA pk pB (f:=qO) (z:=0);(iterate 6 exact rfl);(first|exact aA _ _ _|assumption|(focus ((repeat (first|exact aA _ _ _|assumption|refine (aD (by assumption)).trans ?_));done)));exact rfl)|(apply yE pk pB (f:=qO) (k:=(l[i]'(by assumption)).dot);(iterate 5 exact rfl);rotate_left;exact rfl;(first|exact aA _ _ _|assumption|(focus ((repeat (first|exact aA _ _ _|assumption|refine (aD (by assumption)).trans ?_));done)));exact rfl;intro v hv;rotate_left;intro hv;rotate_left)|(apply muA pk pB (f:=qO) (k:=(l[i]'(by assumption)).dot);(first|exact .inl rfl|exact .inr rfl);(iterate 5 exact rfl);(first|exact aA _ _ _|assumption|(focus ((repeat (first|exact aA _ _ _|assumption|refine (aD (by assumption)).trans ?_));done)));exact rfl)|(apply meA pk pB (f:=qO) (z:=0) (k:=(l[i]'(by assumption)).dot);(iterate 6 exact rfl);(first|exact aA _ _ _|assumption|(focus ((repeat (first|exact aA _ _ _|assumption|refine (aD (by assumption)).trans ?_));done)));exact rfl)|(apply esA pk pB (f:=qO);(iterate 4 exact rfl);(first|exact aA _ _ _|assumption|(focus ((repeat (first|exact aA _ _ _|assumption|refine (aD (by assumption)).trans ?_));done)));exact rfl)|(refine ⟨⟨i+1,by omega,by rw [hinv,hs (by omega),hs1 (by omega),hs2 (by omega)];simp [iK, *]⟩, ?_,by simp only;omega⟩;(simp only [hs1 (show i<l.length by omega),hs2 (show i<l.length by omega)]);(first|exact Sub.nil _ _ _ (StSub.refl _) rfl|((repeat (first|refine Sub.pv ?_ rfl|refine Sub.var ?_ rfl rfl));(first|exact Sub.nil _ _ _ (StSub.refl _) rfl|exact Sub.nil _ _ _ (bE (by assumption)) rfl|exact Sub.nil _ _ _ (aS (by first|rfl|exact bX (by assumption)|((simp only [St.pv,St.put,St.sst,St.setv,St.nil,St.var,aV]);first|done|rfl))) rfl|(refine Sub.nil _ _ _ (aS ?_) rfl;(simp only [St.pv,St.put,St.sst,St.setv,St.nil,St.var,aV]);(rw [fW (by assumption)]);first|done|rfl)))))|(intros;(try simp only [List.length_map]);omega)))
  have e1:l.take i=l:=List.take_of_length_le (by omega)
  have w1:fH l [] []=true:=by rw [hinv,List.drop_eq_nil_of_le (by omega)];rfl
  refine aM (X:={x:Nat//x≤l.length∧(l.take x).all (zQ (cL (l.take i)))=true}) (fun y=>(((((St.nil 94 (upd (upd st id1 (some (.map (bI Nm.enc ptF (cL (l.take i)))))) id2 (some (.map (bI aaJ qO (dA (l.take i))))))).pv 4 (.mref id1)).pv 65 (.seq (l.map Pt.cells))).pv 66 ((PV.val (Value.int .i64 ((((l.map Pt.cells)).length:Nat)))))).pv 67 ((PV.val (Value.int .i64 ((y.1:Nat))))))) (fun y=>l.length-y.1) ⟨0,by omega,rfl⟩ ?_ (fun y=> ?_)
  · (first|exact Sub.nil _ _ _ (StSub.refl _) rfl|((repeat (first|refine Sub.pv ?_ rfl|refine Sub.var ?_ rfl rfl));(first|exact Sub.nil _ _ _ (StSub.refl _) rfl|exact Sub.nil _ _ _ (bE (by assumption)) rfl|exact Sub.nil _ _ _ (aS (by first|rfl|exact bX (by assumption)|((simp only [St.pv,St.put,St.sst,St.setv,St.nil,St.var,aV]);first|done|rfl))) rfl|(refine Sub.nil _ _ _ (aS ?_) rfl;(simp only [St.pv,St.put,St.sst,St.setv,St.nil,St.var,aV]);(rw [fW (by assumption)]);first|done|rfl))))
  clear hs hs1 hs2
  obtain ⟨y,hy,hall⟩:=y
  dsimp only
  (try (apply wO pk;exact rfl));(repeat' (first|(show All _;constructor)|(show Imp _ _;constructor)|(show ImpX _ _ _ _;constructor)|(apply wC pk;(iterate 2 exact rfl))|(apply wE pk;(iterate 2 exact rfl))|(apply wX pk;exact rfl)|(apply wN pk;exact rfl)|(apply wDm pk;exact rfl;kernel_rfl;exact rfl;exact rfl)|(apply aB;simp only [cond_true,cond_false])|(refine aC rfl (fun h=> ?_) (fun h=> ?_)<;>(try simp at h)<;>try (exfalso;omega))|((try refine aF ?_);(first|(refine ⟨_,_,_,rfl,Wk.refl _,StSub.refl _, ?_⟩;((first|(have e:cG l=false:=(by unfold cG;simp only [e1] at*;rw [w1,Bool.true_and,List.all_eq_false];refine ⟨l[y]'(by assumption),List.getElem_mem _, ?_⟩;simp [zQ,Nm.ext_iff,Dt.ext_iff,Nm.zero,Dt.zero,and_assoc, *];try (intros;omega));exact ⟨⟨.val (.map none),by rw [e]⟩,rfl⟩)|(have e:cG l=true:=(by unfold cG;simp only [e1] at*;rw [w1,Bool.true_and,←hall,List.take_of_length_le (by omega)]);exact ⟨⟨.mref id1,by rw [e]⟩,rfl⟩)));done)|(refine ⟨_,_, ?zs,rfl,Wk.refl _, ?zh, ?zr⟩;(case zh=>(refine aH ?_ (by assumption);(repeat refine aH ?_ (by assumption));exact StSub.refl _));(case zr=>((first|(have e:cG l=false:=(by unfold cG;simp only [e1] at*;rw [w1,Bool.true_and,List.all_eq_false];refine ⟨l[y]'(by assumption),List.getElem_mem _, ?_⟩;simp [zQ,Nm.ext_iff,Dt.ext_iff,Nm.zero,Dt.zero,and_assoc, *];try (intros;omega));exact ⟨⟨.val (.map none),by rw [e]⟩,rfl⟩)|(have e:cG l=true:=(by unfold cG;simp only [e1] at*;rw [w1,Bool.true_and,←hall,List.take_of_length_le (by omega)]);exact ⟨⟨.mref id1,by rw [e]⟩,rfl⟩)))))|refine ⟨_,_,_,rfl,Wk.refl _,StSub.refl _, ?_⟩))|(apply aL;(iterate 3 exact rfl);(intro _;(first|apply dP|apply hZ|apply (hZ Pt.zero))<;>first|assumption|omega);rotate_left;(iterate 2 exact rfl))|(apply fB;(iterate 3 exact rfl);(intro _;(first|apply dP|apply hZ|apply (hZ Pt.zero))<;>first|assumption|omega);rotate_left;(iterate 2 exact rfl))|(apply bC pk;(iterate 6 exact rfl);rotate_left;exact rfl;(intro hw;exact rfl);(intro hw;apply aI<;>omega);(intro _;exact rfl);exact rfl)|(apply ncA;(iterate 3 exact rfl);rotate_left;exact rfl;exact rfl)|(apply ldR pk;exact rfl;exact rfl;rotate_left;exact rfl;(first|exact aA _ _ _|assumption|(focus ((repeat (first|exact aA _ _ _|assumption|refine (aD (by assumption)).trans ?_));done)));exact rfl;exact rfl)|(apply stR pk;exact rfl;exact rfl;(first|exact aA _ _ _|assumption|(focus ((repeat (first|exact aA _ _ _|assumption|refine (aD (by assumption)).trans ?_));done)));exact rfl;exact rfl)|(apply yE pk Nm.key (f:=ptF);(iterate 5 exact rfl);rotate_left;exact rfl;(first|exact aA _ _ _|assumption|(focus ((repeat (first|exact aA _ _ _|assumption|refine (aD (by assumption)).trans ?_));done)));exact rfl;intro v hv;rotate_left;intro hv;rotate_left)|(apply muA pk Nm.key (f:=ptF);(first|exact .inl rfl|exact .inr rfl);(iterate 5 exact rfl);(first|exact aA _ _ _|assumption|(focus ((repeat (first|exact aA _ _ _|assumption|refine (aD (by assumption)).trans ?_));done)));exact rfl)|(apply meA pk Nm.key (f:=ptF) (z:=Pt.zero);(iterate 6 exact rfl);(first|exact aA _ _ _|assumption|(focus ((repeat (first|exact aA _ _ _|assumption|refine (aD (by assumption)).trans ?_));done)));exact rfl)|(apply esA pk Nm.key (f:=ptF);(iterate 4 exact rfl);(first|exact aA _ _ _|assumption|(focus ((repeat (first|exact aA _ _ _|assumption|refine (aD (by assumption)).trans ?_));done)));exact rfl)|(refine ⟨⟨y+1,by omega,by simp only [e1] at*;rw [List.take_succ_eq_append_getElem (by omega),List.all_append,hall];simp [zQ,Nm.ext_iff,Dt.ext_iff,Nm.zero,Dt.zero,and_assoc, *];try grind⟩, ?_,by simp only;omega⟩;(first|exact Sub.nil _ _ _ (StSub.refl _) rfl|((repeat (first|refine Sub.pv ?_ rfl|refine Sub.var ?_ rfl rfl));(first|exact Sub.nil _ _ _ (StSub.refl _) rfl|exact Sub.nil _ _ _ (bE (by assumption)) rfl|exact Sub.nil _ _ _ (aS (by first|rfl|exact bX (by assumption)|((simp only [St.pv,St.put,St.sst,St.setv,St.nil,St.var,aV]);first|done|rfl))) rfl|(refine Sub.nil _ _ _ (aS ?_) rfl;(simp only [St.pv,St.put,St.sst,St.setv,St.nil,St.var,aV]);(rw [fW (by assumption)]);first|done|rfl)))))|(intros;(try simp only [List.length_map]);omega)))
end Go.Proofs.YtkaliolnijkadaaGreatDoor.T
