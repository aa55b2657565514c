import Derived.Test.YtcglimangneafaaGreatDoorBsVal
set_option linter.unusedSimpArgs false
set_option linter.unusedVariables false
namespace Go.Proofs.YtcglimangneafaaGreatDoor.X
open Go Go.Abs
def v0 :Vl:=⟨0,0,e0⟩
inductive Ex where
  |mk (k n:Int) (v:Vl) (of:List Ex)
def Ex.k :Ex→Int| .mk k _ _ _=>k
def Ex.n :Ex→Int| .mk _ n _ _=>n
def Ex.v :Ex→Vl| .mk _ _ v _=>v
def Ex.of :Ex→List Ex| .mk _ _ _ o=>o
mutual
def Ex.cells :Ex→List PV
  | .mk k n v o=>[(PV.val (Value.int .i64 (k))),(PV.val (Value.int .i64 (n))),(PV.val (Value.int .i64 (v.kind))),(PV.val (Value.int .i64 (v.n))),(PV.val (Value.string (v.s))), .seq (Ex.rows o)]
def Ex.rows :List Ex→List (List PV)
  |[]=>[]
  |e::es=>e.cells::Ex.rows es
end
theorem Ex.rows_map :∀l:List Ex,Ex.rows l=l.map Ex.cells
  |[]=>rfl
  |e::es=>by simp [Ex.rows,Ex.rows_map es]
theorem Ex.rows_len :∀(l:List Ex),(Ex.rows l).length=l.length
  |[]=>rfl
  |e::es=>by simp [Ex.rows,Ex.rows_len es]
theorem Ex.rows_get :∀{l:List Ex} {i:Nat} {x:Ex},l[i]?=some x→(Ex.rows l)[i]?=some x.cells
  |[],_,_,h=>by simp at h
  |e::es,0,x,h=>by simp at h;simp [Ex.rows,h]
  |e::es,i+1,x,h=>by simp at h;simpa [Ex.rows] using Ex.rows_get h
theorem Ex.cells_len :∀(x:Ex),x.cells.length=6
  | .mk _ _ _ _=>by simp [Ex.cells]
mutual
def Ex.ok :Ex→Prop
  | .mk _ _ _ o=>o.length<2^62∧Ex.oks o
def Ex.oks :List Ex→Prop
  |[]=>True
  |e::es=>e.ok∧Ex.oks es
end
mutual
theorem Ex.ok_of :∀(e:Ex),kP e.cells→e.ok
  | .mk k n v o,h=>by
    simp only [Ex.cells,kP,lens,Ex.rows_len] at h
    simp only [Ex.ok]
    exact ⟨h.2.2.2.2.2.1.1,Ex.oks_of o h.2.2.2.2.2.1.2⟩
theorem Ex.oks_of :∀(l:List Ex),oC (Ex.rows l)→Ex.oks l
  |[],_=>by simp [Ex.oks]
  |e::es,h=>by
    simp only [Ex.rows,oC] at h
    simp only [Ex.oks]
    exact ⟨Ex.ok_of e h.1,Ex.oks_of es h.2⟩
end
theorem Ex.oks_mem :∀{l:List Ex} {x:Ex},Ex.oks l→x∈l→x.ok
  |[],_,_,hx=>by cases hx
  |e::es,x,h,hx=>by
    simp only [Ex.oks] at h
    rcases List.mem_cons.1 hx with rfl|hx
    · exact h.1
    · exact Ex.oks_mem h.2 hx
def iM (l:List Int):List (List PV):=l.map I1
theorem xD {l:List Int} {i:Nat} {x:Int} (h:l[i]?=some x):(iM l)[i]?=some [(PV.val (Value.int .i64 (x)))]:=by simp [iM,h,I1]
theorem xX (l:List Int):(iM l).length=l.length:=by simp [iM]
theorem eQ {α:Type} {l:List α} {i:Nat} (h:i<l.length):∃x,l[i]?=some x:=⟨l[i],by simp [h]⟩
end Go.Proofs.YtcglimangneafaaGreatDoor.X
namespace Go.Proofs.YtcglimangneafaaGreatDoor.X
open Go Go.Abs
attribute [local irreducible] Ev PWp
set_option maxRecDepth 10000
set_option maxHeartbeats 2000000
theorem qW {k n:Int} {b:ByteArray}:PF Tryz.prog 203 [.agg [(PV.val (Value.int .i64 (k))),(PV.val (Value.int .i64 (n))),(PV.val (Value.string (b)))]] (PV.val (Value.bool (decide (k=0)))):=by
  refine aK aG Tryz.func203 (by kernel_rfl) rfl rfl rfl rfl (fun st=> ?_)
  (try (apply wO pk;exact rfl));(repeat' (first|(show All _;constructor)|(show Imp _ _;constructor)|(show ImpX _ _ _ _;constructor)|(apply wC pk;(iterate 2 exact rfl))|(apply wE pk;(iterate 2 exact rfl))|(apply wX pk;exact rfl)|(apply wN pk;exact rfl)|(apply wD pk [] [];kernel_rfl;exact rfl;exact rfl)|(apply aB;simp only [zqt,zqf])|(refine aC rfl (fun h=> ?_) (fun h=> ?_)<;>(try simp at h)<;>try (exfalso;omega))|(refine aD ?_;refine ⟨_,_,_,rfl,Wk.refl _,StSub.refl _, ?_,rfl⟩;try rfl)|(intros;(try simp only [zql]);omega)))
def oX (v:Vl):Bool:=if v.kind=0 then decide (v.n=0)&&decide (v.s=e0) else if v.kind=1 then (decide (v.s=e0)&&decide (v.n≥ -1099511627776))&&decide (v.n≤1099511627776) else if v.kind=2 then decide (v.n=0)&&decide ((v.s.size:Int)≤200) else false
theorem right_spec {k n:Int} {b:ByteArray}:PF Tryz.prog 188 [.agg [(PV.val (Value.int .i64 (k))),(PV.val (Value.int .i64 (n))),(PV.val (Value.string (b)))]] (PV.val (Value.bool (oX ⟨k,n,b⟩))):=by
  unfold oX
  dsimp only
  by_cases h0:k=0
  · rw [if_pos h0]
    refine aK aG Tryz.func188 (by kernel_rfl) rfl rfl rfl rfl (fun st=> ?_)
    (try (apply wO pk;exact rfl));(repeat' (first|(show All _;constructor)|(show Imp _ _;constructor)|(show ImpX _ _ _ _;constructor)|(apply wC pk;(iterate 2 exact rfl))|(apply wE pk;(iterate 2 exact rfl))|(apply wX pk;exact rfl)|(apply wN pk;exact rfl)|(apply wD pk [] [];kernel_rfl;exact rfl;exact rfl)|(apply aB;simp only [zqt,zqf])|(refine aC rfl (fun h=> ?_) (fun h=> ?_)<;>(try simp at h)<;>try (exfalso;omega))|(refine aD ?_;refine ⟨_,_,_,rfl,Wk.refl _,StSub.refl _, ?_,rfl⟩;try first|rfl|((first|(simp [h0];done)|(exfalso;omega));done))|(intros;(try simp only [zql]);omega)))
  by_cases h1:k=1
  · rw [if_neg h0,if_pos h1]
    refine aK aG Tryz.func188 (by kernel_rfl) rfl rfl rfl rfl (fun st=> ?_)
    (try (apply wO pk;exact rfl));(repeat' (first|(show All _;constructor)|(show Imp _ _;constructor)|(show ImpX _ _ _ _;constructor)|(apply wC pk;(iterate 2 exact rfl))|(apply wE pk;(iterate 2 exact rfl))|(apply wX pk;exact rfl)|(apply wN pk;exact rfl)|(apply wD pk [] [];kernel_rfl;exact rfl;exact rfl)|(apply aB;simp only [zqt,zqf])|(refine aC rfl (fun h=> ?_) (fun h=> ?_)<;>(try simp at h)<;>try (exfalso;omega))|(refine aD ?_;refine ⟨_,_,_,rfl,Wk.refl _,StSub.refl _, ?_,rfl⟩;try first|rfl|((first|(simp;done)|(exfalso;omega));done))|(intros;(try simp only [zql]);omega)))
  rw [if_neg h0,if_neg h1]
  by_cases h2:k=2
  · rw [if_pos h2]
    refine aK aG Tryz.func188 (by kernel_rfl) rfl rfl rfl rfl (fun st=> ?_)
    (try (apply wO pk;exact rfl));(repeat' (first|(show All _;constructor)|(show Imp _ _;constructor)|(show ImpX _ _ _ _;constructor)|(apply wC pk;(iterate 2 exact rfl))|(apply wE pk;(iterate 2 exact rfl))|(apply wX pk;exact rfl)|(apply wN pk;exact rfl)|(apply wD pk [] [];kernel_rfl;exact rfl;exact rfl)|(apply aB;simp only [zqt,zqf])|(refine aC rfl (fun h=> ?_) (fun h=> ?_)<;>(try simp at h)<;>try (exfalso;omega))|(refine aD ?_;refine ⟨_,_,_,rfl,Wk.refl _,StSub.refl _, ?_,rfl⟩;try first|rfl|((first|(simp;done)|(exfalso;omega));done))|(intros;(try simp only [zql]);omega)))
  rw [if_neg h2]
  refine aK aG Tryz.func188 (by kernel_rfl) rfl rfl rfl rfl (fun st=> ?_)
  (try (apply wO pk;exact rfl));(repeat' (first|(show All _;constructor)|(show Imp _ _;constructor)|(show ImpX _ _ _ _;constructor)|(apply wC pk;(iterate 2 exact rfl))|(apply wE pk;(iterate 2 exact rfl))|(apply wX pk;exact rfl)|(apply wN pk;exact rfl)|(apply wD pk [] [];kernel_rfl;exact rfl;exact rfl)|(apply aB;simp only [zqt,zqf])|(refine aC rfl (fun h=> ?_) (fun h=> ?_)<;>(try simp at h)<;>try (exfalso;omega))|(refine aD ?_;refine ⟨_,_,_,rfl,Wk.refl _,StSub.refl _, ?_,rfl⟩;try first|rfl|((first|(simp;done)|(exfalso;omega));done))|(intros;(try simp only [zql]);omega)))
theorem dG {n:Int}:PF Tryz.prog 231 [(PV.val (Value.int .i64 (n)))] (.agg [(PV.val (Value.int .i64 (1))),(PV.val (Value.int .i64 (n))),(PV.val (Value.string (e0)))]):=by
  refine aK aG Tryz.func231 (by kernel_rfl) rfl rfl rfl rfl (fun st=> ?_)
  (try (apply wO pk;exact rfl));(repeat' (first|(show All _;constructor)|(show Imp _ _;constructor)|(show ImpX _ _ _ _;constructor)|(apply wC pk;(iterate 2 exact rfl))|(apply wE pk;(iterate 2 exact rfl))|(apply wX pk;exact rfl)|(apply wN pk;exact rfl)|(apply wD pk [] [];kernel_rfl;exact rfl;exact rfl)|(apply aB;simp only [zqt,zqf])|(refine aC rfl (fun h=> ?_) (fun h=> ?_)<;>(try simp at h)<;>try (exfalso;omega))|(refine aD ?_;refine ⟨_,_,_,rfl,Wk.refl _,StSub.refl _, ?_,rfl⟩;try rfl)|(intros;(try simp only [zql]);omega)))
theorem pD {x:Bool}:PF Tryz.prog 201 [(PV.val (Value.bool (x)))] (.agg [(PV.val (Value.int .i64 (1))),(PV.val (Value.int .i64 (if x then 1 else 0))),(PV.val (Value.string (e0)))]):=by
  refine aK aG Tryz.func201 (by kernel_rfl) rfl rfl rfl rfl (fun st=> ?_)
  (try (apply wO pk;exact rfl));(repeat' (first|(show All _;constructor)|(show Imp _ _;constructor)|(show ImpX _ _ _ _;constructor)|(apply wC pk;(iterate 2 exact rfl))|(apply wE pk;(iterate 2 exact rfl))|(apply wX pk;exact rfl)|(apply wN pk;exact rfl)|(apply wD pk [] [];kernel_rfl;exact rfl;exact rfl)|(apply aB;simp only [zqt,zqf])|(refine aC rfl (fun h=> ?_) (fun h=> ?_)<;>(try simp at h)<;>try (exfalso;omega))|(refine aD ?_;refine ⟨_,_,_,rfl,Wk.refl _,StSub.refl _, ?_,rfl⟩;try first|rfl|((simp [*];done);done))|(apply aL;(iterate 3 exact rfl);(intro _;apply dG<;>first|assumption|omega);rotate_left;(iterate 2 exact rfl))|(intros;(try simp only [zql]);omega)))
def apT (v:Vl):Bool:=decide (v.kind=1)&&(decide (v.n=0)&&decide (v.s=e0))
def axG (v:Vl):Bool:=decide (v.kind=1)&& !decide (v.n=0)
theorem alV {k n:Int} {b:ByteArray}:PF Tryz.prog 197 [.agg [(PV.val (Value.int .i64 (k))),(PV.val (Value.int .i64 (n))),(PV.val (Value.string (b)))]] (PV.val (Value.bool (apT ⟨k,n,b⟩))):=by
  refine aK aG Tryz.func197 (by kernel_rfl) rfl rfl rfl rfl (fun st=> ?_)
  (try (apply wO pk;exact rfl));(repeat' (first|(show All _;constructor)|(show Imp _ _;constructor)|(show ImpX _ _ _ _;constructor)|(apply wC pk;(iterate 2 exact rfl))|(apply wE pk;(iterate 2 exact rfl))|(apply wX pk;exact rfl)|(apply wN pk;exact rfl)|(apply wD pk [] [];kernel_rfl;exact rfl;exact rfl)|(apply aB;simp only [zqt,zqf])|(refine aC rfl (fun h=> ?_) (fun h=> ?_)<;>(try simp at h)<;>try (exfalso;omega))|(refine aD ?_;refine ⟨_,_,_,rfl,Wk.refl _,StSub.refl _, ?_,rfl⟩;try rfl)|(apply aL;(iterate 3 exact rfl);(intro _;apply dG<;>first|assumption|omega);rotate_left;(iterate 2 exact rfl))|(intros;(try simp only [zql]);omega)))
theorem apC {k n:Int} {b:ByteArray}:PF Tryz.prog 198 [.agg [(PV.val (Value.int .i64 (k))),(PV.val (Value.int .i64 (n))),(PV.val (Value.string (b)))]] (PV.val (Value.bool (axG ⟨k,n,b⟩))):=by
  refine aK aG Tryz.func198 (by kernel_rfl) rfl rfl rfl rfl (fun st=> ?_)
  (try (apply wO pk;exact rfl));(repeat' (first|(show All _;constructor)|(show Imp _ _;constructor)|(show ImpX _ _ _ _;constructor)|(apply wC pk;(iterate 2 exact rfl))|(apply wE pk;(iterate 2 exact rfl))|(apply wX pk;exact rfl)|(apply wN pk;exact rfl)|(apply wD pk [] [];kernel_rfl;exact rfl;exact rfl)|(apply aB;simp only [zqt,zqf])|(refine aC rfl (fun h=> ?_) (fun h=> ?_)<;>(try simp at h)<;>try (exfalso;omega))|(refine aD ?_;refine ⟨_,_,_,rfl,Wk.refl _,StSub.refl _, ?_,rfl⟩;try rfl)|(intros;(try simp only [zql]);omega)))
theorem asL {k n:Int} {b:ByteArray} {k' n':Int} {b':ByteArray}:PF Tryz.prog 194 [.agg [(PV.val (Value.int .i64 (k))),(PV.val (Value.int .i64 (n))),(PV.val (Value.string (b)))], .agg [(PV.val (Value.int .i64 (k'))),(PV.val (Value.int .i64 (n'))),(PV.val (Value.string (b')))]] (PV.val (Value.bool (decide (k=k')&&(decide (n=n')&&decide (b=b'))))):=by
  refine aK aG Tryz.func194 (by kernel_rfl) rfl rfl rfl rfl (fun st=> ?_)
  (try (apply wO pk;exact rfl));(repeat' (first|(show All _;constructor)|(show Imp _ _;constructor)|(show ImpX _ _ _ _;constructor)|(apply wC pk;(iterate 2 exact rfl))|(apply wE pk;(iterate 2 exact rfl))|(apply wX pk;exact rfl)|(apply wN pk;exact rfl)|(apply wD pk [] [];kernel_rfl;exact rfl;exact rfl)|(apply aB;simp only [zqt,zqf])|(refine aC rfl (fun h=> ?_) (fun h=> ?_)<;>(try simp at h)<;>try (exfalso;omega))|(refine aD ?_;refine ⟨_,_,_,rfl,Wk.refl _,StSub.refl _, ?_,rfl⟩;try rfl)|(intros;(try simp only [zql]);omega)))
def awF (a b:ByteArray):Bool:=Op.bytesLess a.toList b.toList
theorem iF {k n:Int} {b:ByteArray} {k' n':Int} {b':ByteArray}:PF Tryz.prog 195 [.agg [(PV.val (Value.int .i64 (k))),(PV.val (Value.int .i64 (n))),(PV.val (Value.string (b)))], .agg [(PV.val (Value.int .i64 (k'))),(PV.val (Value.int .i64 (n'))),(PV.val (Value.string (b')))]] (PV.val (Value.bool (decide (n<n')||awF b b'))):=by
  refine aK aG Tryz.func195 (by kernel_rfl) rfl rfl rfl rfl (fun st=> ?_)
  (try (apply wO pk;exact rfl));(repeat' (first|(show All _;constructor)|(show Imp _ _;constructor)|(show ImpX _ _ _ _;constructor)|(apply wC pk;(iterate 2 exact rfl))|(apply wE pk;(iterate 2 exact rfl))|(apply wX pk;exact rfl)|(apply wN pk;exact rfl)|(apply wD pk [] [];kernel_rfl;exact rfl;exact rfl)|(apply aB;simp only [zqt,zqf])|(refine aC rfl (fun h=> ?_) (fun h=> ?_)<;>(try simp at h)<;>try (exfalso;omega))|(refine aD ?_;refine ⟨_,_,_,rfl,Wk.refl _,StSub.refl _, ?_,rfl⟩;try rfl)|(intros;(try simp only [zql]);omega)))
theorem apH {k n:Int} {b:ByteArray} {k' n':Int} {b':ByteArray}:PF Tryz.prog 200 [.agg [(PV.val (Value.int .i64 (k))),(PV.val (Value.int .i64 (n))),(PV.val (Value.string (b)))], .agg [(PV.val (Value.int .i64 (k'))),(PV.val (Value.int .i64 (n'))),(PV.val (Value.string (b')))]] (.tup [.agg [(PV.val (Value.int .i64 (1))),(PV.val (Value.int .i64 (if decide (n=0) then 1 else 0))),(PV.val (Value.string (e0)))],(PV.val (Value.int .i64 (0)))]):=by
  refine aK aG Tryz.func200 (by kernel_rfl) rfl rfl rfl rfl (fun st=> ?_)
  (try (apply wO pk;exact rfl));(repeat' (first|(show All _;constructor)|(show Imp _ _;constructor)|(show ImpX _ _ _ _;constructor)|(apply wC pk;(iterate 2 exact rfl))|(apply wE pk;(iterate 2 exact rfl))|(apply wX pk;exact rfl)|(apply wN pk;exact rfl)|(apply wD pk [] [];kernel_rfl;exact rfl;exact rfl)|(apply aB;simp only [zqt,zqf])|(refine aC rfl (fun h=> ?_) (fun h=> ?_)<;>(try simp at h)<;>try (exfalso;omega))|(refine aD ?_;refine ⟨_,_,_,rfl,Wk.refl _,StSub.refl _, ?_,rfl⟩;try rfl)|(apply aL;(iterate 3 exact rfl);(intro _;apply pD<;>first|assumption|omega);rotate_left;(iterate 2 exact rfl))|(intros;(try simp only [zql]);omega)))
theorem adD {k n:Int} {b:ByteArray} {k' n':Int} {b':ByteArray}:PF Tryz.prog 202 [.agg [(PV.val (Value.int .i64 (k))),(PV.val (Value.int .i64 (n))),(PV.val (Value.string (b)))], .agg [(PV.val (Value.int .i64 (k'))),(PV.val (Value.int .i64 (n'))),(PV.val (Value.string (b')))]] (.tup [.agg [(PV.val (Value.int .i64 (1))),(PV.val (Value.int .i64 (if decide (k=0) then 1 else 0))),(PV.val (Value.string (e0)))],(PV.val (Value.int .i64 (0)))]):=by
  refine aK aG Tryz.func202 (by kernel_rfl) rfl rfl rfl rfl (fun st=> ?_)
  (try (apply wO pk;exact rfl));(repeat' (first|(show All _;constructor)|(show Imp _ _;constructor)|(show ImpX _ _ _ _;constructor)|(apply wC pk;(iterate 2 exact rfl))|(apply wE pk;(iterate 2 exact rfl))|(apply wX pk;exact rfl)|(apply wN pk;exact rfl)|(apply wD pk [] [];kernel_rfl;exact rfl;exact rfl)|(apply aB;simp only [zqt,zqf])|(refine aC rfl (fun h=> ?_) (fun h=> ?_)<;>(try simp at h)<;>try (exfalso;omega))|(refine aD ?_;refine ⟨_,_,_,rfl,Wk.refl _,StSub.refl _, ?_,rfl⟩;try rfl)|(apply aL;(iterate 3 exact rfl);(intro _;(first|apply pD|apply qW)<;>first|assumption|omega);rotate_left;(iterate 2 exact rfl))|(intros;(try simp only [zql]);omega)))
def abA (f:FuncId) (op:Int→Int→Int):Prop:=∀a b,PF Tryz.prog f [(PV.val (Value.int .i64 (a))),(PV.val (Value.int .i64 (b)))] (PV.val (Value.int .i64 (IntKind.wrap .i64 (op a b))))
theorem amC :abA 190 (· + ·):=by
  intro a b
  refine aK aG Tryz.func190 (by kernel_rfl) rfl rfl rfl rfl (fun st=> ?_)
  ((first|apply gon pk 4|apply awZ pk 4);exact rfl;(focus repeat' constructor);(focus repeat' (first|exact All.nil|refine All.cons ?_ ?_|(intros;omega))))
  refine iQ ?_
  iterate 2 (apply lI aG;iterate 4 exact rfl)
  (apply atL;iterate 5 exact rfl)
  (apply lI aG;iterate 4 exact rfl)
  refine rY ?_
  (try (apply wO pk;exact rfl));(repeat' (first|(show All _;constructor)|(show Imp _ _;constructor)|(show ImpX _ _ _ _;constructor)|(apply wC pk;(iterate 2 exact rfl))|(apply wE pk;(iterate 2 exact rfl))|(apply wX pk;exact rfl)|(apply wN pk;exact rfl)|(apply wD pk [] [];kernel_rfl;exact rfl;exact rfl)|(apply aB;simp only [zqt,zqf])|(refine aC rfl (fun h=> ?_) (fun h=> ?_)<;>(try simp at h)<;>try (exfalso;omega))|(refine aD ?_;refine ⟨_,_,_,rfl,Wk.refl _,StSub.refl _, ?_,rfl⟩;try rfl)|(intros;(try simp only [zql]);omega)))
theorem alK :abA 191 (· - ·):=by
  intro a b
  refine aK aG Tryz.func191 (by kernel_rfl) rfl rfl rfl rfl (fun st=> ?_)
  ((first|apply gon pk 4|apply awZ pk 4);exact rfl;(focus repeat' constructor);(focus repeat' (first|exact All.nil|refine All.cons ?_ ?_|(intros;omega))))
  refine iQ ?_
  iterate 2 (apply lI aG;iterate 4 exact rfl)
  (apply auD;iterate 5 exact rfl)
  (apply lI aG;iterate 4 exact rfl)
  refine rY ?_
  (try (apply wO pk;exact rfl));(repeat' (first|(show All _;constructor)|(show Imp _ _;constructor)|(show ImpX _ _ _ _;constructor)|(apply wC pk;(iterate 2 exact rfl))|(apply wE pk;(iterate 2 exact rfl))|(apply wX pk;exact rfl)|(apply wN pk;exact rfl)|(apply wD pk [] [];kernel_rfl;exact rfl;exact rfl)|(apply aB;simp only [zqt,zqf])|(refine aC rfl (fun h=> ?_) (fun h=> ?_)<;>(try simp at h)<;>try (exfalso;omega))|(refine aD ?_;refine ⟨_,_,_,rfl,Wk.refl _,StSub.refl _, ?_,rfl⟩;try rfl)|(intros;(try simp only [zql]);omega)))
theorem akZ :abA 192 (· * ·):=by
  intro a b
  refine aK aG Tryz.func192 (by kernel_rfl) rfl rfl rfl rfl (fun st=> ?_)
  ((first|apply gon pk 4|apply awZ pk 4);exact rfl;(focus repeat' constructor);(focus repeat' (first|exact All.nil|refine All.cons ?_ ?_|(intros;omega))))
  refine iQ ?_
  iterate 2 (apply lI aG;iterate 4 exact rfl)
  (apply atT;iterate 5 exact rfl)
  (apply lI aG;iterate 4 exact rfl)
  refine rY ?_
  (try (apply wO pk;exact rfl));(repeat' (first|(show All _;constructor)|(show Imp _ _;constructor)|(show ImpX _ _ _ _;constructor)|(apply wC pk;(iterate 2 exact rfl))|(apply wE pk;(iterate 2 exact rfl))|(apply wX pk;exact rfl)|(apply wN pk;exact rfl)|(apply wD pk [] [];kernel_rfl;exact rfl;exact rfl)|(apply aB;simp only [zqt,zqf])|(refine aC rfl (fun h=> ?_) (fun h=> ?_)<;>(try simp at h)<;>try (exfalso;omega))|(refine aD ?_;refine ⟨_,_,_,rfl,Wk.refl _,StSub.refl _, ?_,rfl⟩;try rfl)|(intros;(try simp only [zql]);omega)))
def lim (n:Int):Prop:= -4611686018427387904≤n∧n≤4611686018427387904
def axA (op:Int→Int→Int) (a b:Int):Bool:=(((decide (max a (0-a)>0)&&decide (max b (0-b)>0))&&decide (IntKind.wrap .i64 (op 1 1)=1))&&decide (max a (0-a)>1099511627776/max b (0-b)))
def acQ (op:Int→Int→Int) (a b:Int):Bool:=(axA op a b||decide (IntKind.wrap .i64 (op a b)>1099511627776))||decide (IntKind.wrap .i64 (op a b)< -1099511627776)
theorem amP {f:FuncId} {op:Int→Int→Int} (hf:abA f op) {k n:Int} {b:ByteArray} {k' n':Int} {b':ByteArray} (h1:lim n) (h2:lim n'):PF Tryz.prog 230 [.agg [(PV.val (Value.int .i64 (k))),(PV.val (Value.int .i64 (n))),(PV.val (Value.string (b)))], .agg [(PV.val (Value.int .i64 (k'))),(PV.val (Value.int .i64 (n'))),(PV.val (Value.string (b')))], .rp [.fn f []]]
    (if acQ op n n' then .tup [.agg [(PV.val (Value.int .i64 (0))),(PV.val (Value.int .i64 (0))),(PV.val (Value.string (e0)))],(PV.val (Value.int .i64 (20)))] else .tup [.agg [(PV.val (Value.int .i64 (1))),(PV.val (Value.int .i64 (IntKind.wrap .i64 (op n n')))),(PV.val (Value.string (e0)))],(PV.val (Value.int .i64 (0)))]):=by
  obtain ⟨h1,h1'⟩:=h1
  obtain ⟨h2,h2'⟩:=h2
  have e1:=hf 1 1
  have e2:=hf n n'
  have hfin:acQ op n n'=((axA op n n'||decide (IntKind.wrap .i64 (op n n')>1099511627776))||decide (IntKind.wrap .i64 (op n n')< -1099511627776)):=rfl
  unfold axA at hfin
  generalize acQ op n n'=R at*
  refine aK aG Tryz.func230 (by kernel_rfl) rfl rfl rfl rfl (fun st=> ?_)
  (try (apply wO pk;exact rfl));(repeat' (first|(show All _;constructor)|(show Imp _ _;constructor)|(show ImpX _ _ _ _;constructor)|(apply wC pk;(iterate 2 exact rfl))|(apply wE pk;(iterate 2 exact rfl))|(apply wX pk;exact rfl)|(apply wN pk;exact rfl)|(apply wD pk [] [];kernel_rfl;exact rfl;exact rfl)|(apply aB;simp only [zqt,zqf])|(refine aC rfl (fun h=> ?_) (fun h=> ?_)<;>(try simp at h)<;>try (exfalso;omega))|(refine aD ?_;refine ⟨_,_,_,rfl,Wk.refl _,StSub.refl _, ?_,rfl⟩;try first|rfl|((first|(rw [show R=true from by rw [hfin];simpa using h];rfl)|(rw [show R=false from by rw [hfin];simpa using h];rfl));done))|(apply aL;(iterate 3 exact rfl);(intro _;(first|apply e1|apply e2|apply dG)<;>first|assumption|omega);rotate_left;(iterate 2 exact rfl))|((intro h;(have h:=(aAg h).2);(simp only [Bool.and_eq_true,decide_eq_true_eq] at h);omega))|(intros;(try simp only [zql]);omega)))
def lW (r:Vl×Int):PV:= .tup [.agg [(PV.val (Value.int .i64 (r.1.kind))),(PV.val (Value.int .i64 (r.1.n))),(PV.val (Value.string (r.1.s)))],(PV.val (Value.int .i64 (r.2)))]
def vN (n:Int):Vl:=⟨1,n,e0⟩
def lQ (b:Bool):Vl:=vN (if b then 1 else 0)
def adT (f:FuncId) (caps:List PV) (r:Vl→Vl→Vl×Int):Prop:=
  ∀k n b k' n' b',lim n→lim n'→PF Tryz.prog f ([.agg [(PV.val (Value.int .i64 (k))),(PV.val (Value.int .i64 (n))),(PV.val (Value.string (b)))], .agg [(PV.val (Value.int .i64 (k'))),(PV.val (Value.int .i64 (n'))),(PV.val (Value.string (b')))]]++caps) (lW (r ⟨k,n,b⟩ ⟨k',n',b'⟩))
def awU (f:FuncId) (op:Vl→Vl→Bool):Prop:=∀{k n b k' n' b'},PF Tryz.prog f [.agg [(PV.val (Value.int .i64 (k))),(PV.val (Value.int .i64 (n))),(PV.val (Value.string (b)))], .agg [(PV.val (Value.int .i64 (k'))),(PV.val (Value.int .i64 (n'))),(PV.val (Value.string (b')))]] (PV.val (Value.bool (op ⟨k,n,b⟩ ⟨k',n',b'⟩)))
def axY (f:FuncId) (op:Vl→Bool):Prop:=∀{k n b},PF Tryz.prog f [.agg [(PV.val (Value.int .i64 (k))),(PV.val (Value.int .i64 (n))),(PV.val (Value.string (b)))]] (PV.val (Value.bool (op ⟨k,n,b⟩)))
def tW (op:Int→Int→Int) (a b:Vl):Vl×Int:=if acQ op a.n b.n then (v0,20) else (vN (IntKind.wrap .i64 (op a.n b.n)),0)
theorem qV {f:FuncId} {op:Int→Int→Int} (hf:abA f op):adT 230 [.rp [.fn f []]] (tW op):=by
  intro k n b k' n' b' h1 h2
  have:=amP hf (k:=k) (b:=b) (k':=k') (b':=b') h1 h2
  unfold tW
  simp only
  split at this
  · rename_i h;rw [if_pos h];exact this
  · rename_i h;rw [if_neg h];exact this
theorem xY {f:FuncId} {op:Vl→Vl→Bool} (hf:awU f op):adT 232 [.rp [.fn f []]] (fun a b=>(lQ (op a b),0)):=by
  intro k n b k' n' b' h1 h2
  have e1:= @hf k n b k' n' b'
  refine aK aG Tryz.func232 (by kernel_rfl) rfl rfl rfl rfl (fun st=> ?_)
  (try (apply wO pk;exact rfl));(repeat' (first|(show All _;constructor)|(show Imp _ _;constructor)|(show ImpX _ _ _ _;constructor)|(apply wC pk;(iterate 2 exact rfl))|(apply wE pk;(iterate 2 exact rfl))|(apply wX pk;exact rfl)|(apply wN pk;exact rfl)|(apply wD pk [] [];kernel_rfl;exact rfl;exact rfl)|(apply aB;simp only [zqt,zqf])|(refine aC rfl (fun h=> ?_) (fun h=> ?_)<;>(try simp at h)<;>try (exfalso;omega))|(refine aD ?_;refine ⟨_,_,_,rfl,Wk.refl _,StSub.refl _, ?_,rfl⟩;try rfl)|(apply aL;(iterate 3 exact rfl);(intro _;(first|apply e1|apply pD)<;>first|assumption|omega);rotate_left;(iterate 2 exact rfl))|(intros;(try simp only [zql]);omega)))
def iX (r:Vl→Vl→Vl×Int) (a b:Vl):Vl×Int:=if (decide (a.kind=0)||decide (b.kind=0)) then (v0,0) else r a b
theorem gB {f:FuncId} {caps:List PV} {r:Vl→Vl→Vl×Int} (hf:adT f caps r):adT 234 [.rp [.fn f caps]] (iX r):=by
  intro k n b k' n' b' h1 h2
  have e1:=hf k n b k' n' b' h1 h2
  have hd:iX r ⟨k,n,b⟩ ⟨k',n',b'⟩=if (decide (k=0)||decide (k'=0)) then (v0,0) else r ⟨k,n,b⟩ ⟨k',n',b'⟩:=rfl
  generalize iX r ⟨k,n,b⟩ ⟨k',n',b'⟩=R at*
  generalize r ⟨k,n,b⟩ ⟨k',n',b'⟩=R0 at*
  unfold lW at e1⊢
  refine aK aG Tryz.func234 (by kernel_rfl) rfl rfl rfl rfl (fun st=> ?_)
  (try (apply wO pk;exact rfl));(repeat' (first|(show All _;constructor)|(show Imp _ _;constructor)|(show ImpX _ _ _ _;constructor)|(apply wC pk;(iterate 2 exact rfl))|(apply wE pk;(iterate 2 exact rfl))|(apply wX pk;exact rfl)|(apply wN pk;exact rfl)|(apply wD pk [] [];kernel_rfl;exact rfl;exact rfl)|(apply aB;simp only [zqt,zqf])|(refine aC rfl (fun h=> ?_) (fun h=> ?_)<;>(try simp at h)<;>try (exfalso;omega))|(refine aD ?_;refine ⟨_,_,_,rfl,Wk.refl _,StSub.refl _, ?_,rfl⟩;try first|rfl|((first|(simp [*,v0];done)|(simp_all [v0];done));done))|(apply aL;(iterate 3 exact rfl);(intro _;(first|apply e1|apply qW)<;>first|assumption|omega);rotate_left;(iterate 2 exact rfl))|(intros;(try simp only [zql]);omega)))
def xM (op:Vl→Bool) (so:Int) (a b:Vl):Vl×Int:=if (op a||op b) then (vN so,0) else if (decide (a.kind=0)||decide (b.kind=0)) then (v0,0) else (vN (1-so),0)
theorem uQ {f:FuncId} {op:Vl→Bool} (hf:axY f op) {so:Int} (h0:0≤so) (h1:so≤1):adT 233 [.rp [.fn f []], .rp [(PV.val (Value.int .i64 (so)))]] (xM op so):=by
  intro k n b k' n' b' _ _
  have e1:= @hf k n b
  have e2:= @hf k' n' b'
  have hd:xM op so ⟨k,n,b⟩ ⟨k',n',b'⟩=if (op ⟨k,n,b⟩||op ⟨k',n',b'⟩) then (vN so,0) else if (decide (k=0)||decide (k'=0)) then (v0,0) else (vN (1-so),0):=rfl
  generalize xM op so ⟨k,n,b⟩ ⟨k',n',b'⟩=R at*
  generalize op ⟨k,n,b⟩=A at*
  generalize op ⟨k',n',b'⟩=B at*
  unfold lW
  refine aK aG Tryz.func233 (by kernel_rfl) rfl rfl rfl rfl (fun st=> ?_)
  (try (apply wO pk;exact rfl));(repeat' (first|(show All _;constructor)|(show Imp _ _;constructor)|(show ImpX _ _ _ _;constructor)|(apply wC pk;(iterate 2 exact rfl))|(apply wE pk;(iterate 2 exact rfl))|(apply wX pk;exact rfl)|(apply wN pk;exact rfl)|(apply wD pk [] [];kernel_rfl;exact rfl;exact rfl)|(apply aB;simp only [zqt,zqf])|(refine aC rfl (fun h=> ?_) (fun h=> ?_)<;>(try simp at h)<;>try (exfalso;omega))|(refine aD ?_;refine ⟨_,_,_,rfl,Wk.refl _,StSub.refl _, ?_,rfl⟩;try first|rfl|((first|(simp [*,v0,vN];done)|(simp_all [v0,vN];done));done))|(apply aL;(iterate 3 exact rfl);(intro _;(first|apply e1|apply e2|apply qW|apply dG)<;>first|assumption|omega);rotate_left;(iterate 2 exact rfl))|(intros;(try simp only [zql]);omega)))
theorem apY :adT 200 [] (fun a _=>(lQ (decide (a.n=0)),0)):=fun _ _ _ _ _ _ _ _=>apH
theorem abT :adT 202 [] (fun a _=>(lQ (decide (a.kind=0)),0)):=fun _ _ _ _ _ _ _ _=>adD
theorem vM {p:FuncId} {caps:List PV}:PF Tryz.prog 199 [.fn p caps] (.fn 234 [.rp [.fn p caps]]):=by
  refine aK aG Tryz.func199 (by kernel_rfl) rfl rfl rfl rfl (fun st=> ?_)
  (try (apply wO pk;exact rfl));(repeat' (first|(show All _;constructor)|(show Imp _ _;constructor)|(show ImpX _ _ _ _;constructor)|(apply wC pk;(iterate 2 exact rfl))|(apply wE pk;(iterate 2 exact rfl))|(apply wX pk;exact rfl)|(apply wN pk;exact rfl)|(apply wD pk [] [];kernel_rfl;exact rfl;exact rfl)|(apply aB;simp only [zqt,zqf])|(refine aC rfl (fun h=> ?_) (fun h=> ?_)<;>(try simp at h)<;>try (exfalso;omega))|(refine aD ?_;refine ⟨_,_,_,rfl,Wk.refl _,StSub.refl _, ?_,rfl⟩;try rfl)|(apply cP 1;exact rfl;exact rfl)|(intros;(try simp only [zql]);omega)))
theorem aeS {f:FuncId}:PF Tryz.prog 189 [.fn f []] (.agg [(PV.val (Value.int .i64 (2))),(PV.val (Value.bool (true))), .fn 234 [.rp [.fn 230 [.rp [.fn f []]]]]]):=by
  refine aK aG Tryz.func189 (by kernel_rfl) rfl rfl rfl rfl (fun st=> ?_)
  (try (apply wO pk;exact rfl));(repeat' (first|(show All _;constructor)|(show Imp _ _;constructor)|(show ImpX _ _ _ _;constructor)|(apply wC pk;(iterate 2 exact rfl))|(apply wE pk;(iterate 2 exact rfl))|(apply wX pk;exact rfl)|(apply wN pk;exact rfl)|(apply wD pk [] [];kernel_rfl;exact rfl;exact rfl)|(apply aB;simp only [zqt,zqf])|(refine aC rfl (fun h=> ?_) (fun h=> ?_)<;>(try simp at h)<;>try (exfalso;omega))|(refine aD ?_;refine ⟨_,_,_,rfl,Wk.refl _,StSub.refl _, ?_,rfl⟩;try rfl)|(apply aL;(iterate 3 exact rfl);(intro _;apply vM<;>first|assumption|omega);rotate_left;(iterate 2 exact rfl))|(apply cP 1;exact rfl;exact rfl)|(intros;(try simp only [zql]);omega)))
theorem auE {f:FuncId}:PF Tryz.prog 193 [.fn f []] (.agg [(PV.val (Value.int .i64 (2))),(PV.val (Value.bool (false))), .fn 234 [.rp [.fn 232 [.rp [.fn f []]]]]]):=by
  refine aK aG Tryz.func193 (by kernel_rfl) rfl rfl rfl rfl (fun st=> ?_)
  (try (apply wO pk;exact rfl));(repeat' (first|(show All _;constructor)|(show Imp _ _;constructor)|(show ImpX _ _ _ _;constructor)|(apply wC pk;(iterate 2 exact rfl))|(apply wE pk;(iterate 2 exact rfl))|(apply wX pk;exact rfl)|(apply wN pk;exact rfl)|(apply wD pk [] [];kernel_rfl;exact rfl;exact rfl)|(apply aB;simp only [zqt,zqf])|(refine aC rfl (fun h=> ?_) (fun h=> ?_)<;>(try simp at h)<;>try (exfalso;omega))|(refine aD ?_;refine ⟨_,_,_,rfl,Wk.refl _,StSub.refl _, ?_,rfl⟩;try rfl)|(apply aL;(iterate 3 exact rfl);(intro _;apply vM<;>first|assumption|omega);rotate_left;(iterate 2 exact rfl))|(apply cP 1;exact rfl;exact rfl)|(intros;(try simp only [zql]);omega)))
theorem arG {f:FuncId} {so:Int}:PF Tryz.prog 196 [.fn f [],(PV.val (Value.int .i64 (so)))] (.agg [(PV.val (Value.int .i64 (2))),(PV.val (Value.bool (true))), .fn 233 [.rp [.fn f []], .rp [(PV.val (Value.int .i64 (so)))]]]):=by
  refine aK aG Tryz.func196 (by kernel_rfl) rfl rfl rfl rfl (fun st=> ?_)
  (try (apply wO pk;exact rfl));(repeat' (first|(show All _;constructor)|(show Imp _ _;constructor)|(show ImpX _ _ _ _;constructor)|(apply wC pk;(iterate 2 exact rfl))|(apply wE pk;(iterate 2 exact rfl))|(apply wX pk;exact rfl)|(apply wN pk;exact rfl)|(apply wD pk [] [];kernel_rfl;exact rfl;exact rfl)|(apply aB;simp only [zqt,zqf])|(refine aC rfl (fun h=> ?_) (fun h=> ?_)<;>(try simp at h)<;>try (exfalso;omega))|(refine aD ?_;refine ⟨_,_,_,rfl,Wk.refl _,StSub.refl _, ?_,rfl⟩;try rfl)|((apply cP 2;exact rfl;exact rfl))|((apply cP 3;exact rfl;exact rfl))|(intros;(try simp only [zql]);omega)))
end Go.Proofs.YtcglimangneafaaGreatDoor.X
namespace Go.Proofs.YtcglimangneafaaGreatDoor.X
open Go Go.Abs
attribute [local irreducible] Ev PWp
set_option maxRecDepth 10000
def aoD (f:FuncId):PV:= .agg [(PV.val (Value.int .i64 (2))),(PV.val (Value.bool (true))), .fn 234 [.rp [.fn 230 [.rp [.fn f []]]]]]
def axZ (f:FuncId):PV:= .agg [(PV.val (Value.int .i64 (2))),(PV.val (Value.bool (false))), .fn 234 [.rp [.fn 232 [.rp [.fn f []]]]]]
def avV (f:FuncId) (so:Int):PV:= .agg [(PV.val (Value.int .i64 (2))),(PV.val (Value.bool (true))), .fn 233 [.rp [.fn f []], .rp [(PV.val (Value.int .i64 (so)))]]]
def nP :List (Value×PV):=[(.int .i64 2,aoD 190),(.int .i64 3,aoD 191),(.int .i64 4,aoD 192),(.int .i64 5,axZ 194),(.int .i64 6,axZ 195),(.int .i64 7,avV 197 0),(.int .i64 8,avV 198 1),
  (.int .i64 9, .agg [(PV.val (Value.int .i64 (1))),(PV.val (Value.bool (true))), .fn 234 [.rp [.fn 200 []]]]),(.int .i64 10, .agg [(PV.val (Value.int .i64 (1))),(PV.val (Value.bool (false))), .fn 202 []])]
theorem cK :PF Tryz.prog 145 [] (.fmap nP):=by
  refine aK aG Tryz.func145 (by kernel_rfl) rfl rfl rfl rfl (fun st=> ?_)
  focus ((try (apply wO pk;exact rfl));(repeat' (first|((apply oJ 0;exact rfl;exact aA _ _ _))|((refine aD ?_;exact ⟨_,_,st,rfl,Wk.refl _,StSub.via id hid (fun j h=>by repeat (first|refine Eq.trans (aF h) ?_|exact rfl)),rfl,rfl⟩))|(show All _;constructor)|(show Imp _ _;constructor)|(show ImpX _ _ _ _;constructor)|(apply wC pk;(iterate 2 exact rfl))|(apply wE pk;(iterate 2 exact rfl))|(apply wX pk;exact rfl)|(apply wN pk;exact rfl)|(apply wD pk [] [];kernel_rfl;exact rfl;exact rfl)|(apply aB;simp only [zqt,zqf])|(refine aC rfl (fun h=> ?_) (fun h=> ?_)<;>(try simp at h)<;>try (exfalso;omega))|(refine aD ?_;first|(refine ⟨_,_,_,rfl,Wk.refl _,StSub.refl _, ?_,rfl⟩;(first|rfl))|(refine ⟨_,_,_,rfl,Wk.refl _,aH (by assumption), ?_,rfl⟩;(first|rfl))|(refine ⟨_,_,_,rfl,Wk.soft _,StSub.refl _, ?_,rfl⟩;(first|rfl))|(refine ⟨_,_,_,rfl,Wk.soft _,aH (by assumption), ?_,rfl⟩;(first|rfl))|(refine ⟨_,_,_,rfl,Wk.refl _,StSub.refl _, ?_,rfl⟩)|(refine ⟨_,_,_,rfl,Wk.soft _,aH (by assumption), ?_,rfl⟩))|(apply aL;(iterate 3 exact rfl);(intro _;(first|apply aeS|apply auE|apply arG|apply vM)<;>first|assumption|omega);rotate_left;(iterate 2 exact rfl))|((refine vJ rfl (fun id hid=> ?_)))|((apply akP aG;exact .inl rfl;(iterate 7 exact rfl);exact aA _ _ _;exact rfl))|(intros;(try simp only [zql]);omega))))
def eqV (a b:Vl):Bool:=decide (a.kind=b.kind)&&(decide (a.n=b.n)&&decide (a.s=b.s))
def fU (a b:Vl):Bool:=decide (a.n<b.n)||awF a.s b.s
def iY (k:Int):Int:=if k=9∨k=10 then 1 else 2
def oF (k:Int):Bool:= !decide (k=5∨k=6∨k=10)
def pQ (k:Int) (a b:Vl):Vl×Int:=
  if k=2 then iX (tW (· + ·)) a b else if k=3 then iX (tW (· - ·)) a b else if k=4 then iX (tW (· * ·)) a b
  else if k=5 then iX (fun a b=>(lQ (eqV a b),0)) a b else if k=6 then iX (fun a b=>(lQ (fU a b),0)) a b
  else if k=7 then xM apT 0 a b else if k=8 then xM axG 1 a b
  else if k=9 then iX (fun a _=>(lQ (decide (a.n=0)),0)) a b else (lQ (decide (a.kind=0)),0)
theorem tT {k:Int} (h1:2≤k) (h2:k≤10):∃f caps,iB tt 171 nP (.int .i64 k) false=some (.agg [(PV.val (Value.int .i64 (iY k))),(PV.val (Value.bool (oF k))), .fn f caps])∧adT f caps (pQ k):=by
  have:k=2∨k=3∨k=4∨k=5∨k=6∨k=7∨k=8∨k=9∨k=10:=by omega
  rcases this with rfl|rfl|rfl|rfl|rfl|rfl|rfl|rfl|rfl
  · exact ⟨_,_,rfl,gB (qV amC)⟩
  · exact ⟨_,_,rfl,gB (qV alK)⟩
  · exact ⟨_,_,rfl,gB (qV akZ)⟩
  · exact ⟨_,_,rfl,gB (xY (op:=eqV) (fun {_ _ _ _ _ _}=>asL))⟩
  · exact ⟨_,_,rfl,gB (xY (op:=fU) (fun {_ _ _ _ _ _}=>iF))⟩
  · exact ⟨_,_,rfl,uQ (op:=apT) (fun {_ _ _}=>alV) (by omega) (by omega)⟩
  · exact ⟨_,_,rfl,uQ (op:=axG) (fun {_ _ _}=>apC) (by omega) (by omega)⟩
  · exact ⟨_,_,rfl,gB apY⟩
  · exact ⟨_,_,rfl,abT⟩
theorem aqF {k:Int} (h1:2≤k) (h2:k≤10):∃f caps,iB tt 171 nP (.int .i64 k) true=some (.tup [.agg [(PV.val (Value.int .i64 (iY k))),(PV.val (Value.bool (oF k))), .fn f caps],(PV.val (Value.bool (true)))]):=by
  have:k=2∨k=3∨k=4∨k=5∨k=6∨k=7∨k=8∨k=9∨k=10:=by omega
  rcases this with rfl|rfl|rfl|rfl|rfl|rfl|rfl|rfl|rfl<;>exact ⟨_,_,rfl⟩
theorem ajU {k:Int} (h:¬(2≤k∧k≤10)):iB tt 171 nP (.int .i64 k) true=some (.tup [.agg [(PV.val (Value.int .i64 (0))),(PV.val (Value.bool (false))), .val .nilFunc],(PV.val (Value.bool (false)))]):=by
  have hf:vO (.int .i64 k) nP=some none:=by
    unfold nP
    simp only [vO,pV,lT,zqt]
    have e2:¬k=2:=by omega
    have e3:¬k=3:=by omega
    have e4:¬k=4:=by omega
    have e5:¬k=5:=by omega
    have e6:¬k=6:=by omega
    have e7:¬k=7:=by omega
    have e8:¬k=8:=by omega
    have e9:¬k=9:=by omega
    have e10:¬k=10:=by omega
    simp [e2,e3,e4,e5,e6,e7,e8,e9,e10]
  unfold iB
  rw [hf]
  rfl
end Go.Proofs.YtcglimangneafaaGreatDoor.X
namespace Go.Proofs.YtcglimangneafaaGreatDoor.X
open Go Go.Abs
attribute [local irreducible] Ev PWp
set_option maxRecDepth 10000
set_option maxHeartbeats 2000000
theorem aqR {α:Type} {l:List α} {i:Nat} {x:α} {p:α→Bool} (h:l[i]?=some x):(l.take (i+1)).any p=((l.take i).any p||p x):=by
  obtain ⟨hl,rfl⟩:=List.getElem?_eq_some_iff.1 h
  rw [List.take_succ_eq_append_getElem hl,List.any_append]
  simp
theorem acP {α:Type} {l:List α} {i:Nat} {x:α} {p:α→Bool} (h:l[i]?=some x):(l.take (i+1)).all p=((l.take i).all p&&p x):=by
  obtain ⟨hl,rfl⟩:=List.getElem?_eq_some_iff.1 h
  rw [List.take_succ_eq_append_getElem hl,List.all_append]
  simp
theorem awR {α:Type} {l:List α} {i:Nat} {x:α} {p:α→Bool} (h:l[i]?=some x) (hp:p x=true):l.any p=true:=
  List.any_eq_true.2 ⟨x,List.mem_of_getElem? h,hp⟩
theorem aiW {α:Type} {l:List α} {i:Nat} {x:α} {p:α→Bool} (h:l[i]?=some x) (hp:p x=false):l.all p=false:=by
  cases ha:l.all p with
  |false=>rfl
  |true=>rw [List.all_eq_true] at ha;have:=ha x (List.mem_of_getElem? h);rw [hp] at this;cases this
theorem qP {α:Type} {l:List α} {i:Nat} (h:¬i<l.length):l.take i=l:=List.take_of_length_le (by omega)
def nF :Nat→Ex→Bool
  |0,_=>true
  |l+1,e=>e.of.any (nF l)
theorem akO :∀(left:Nat) (e:Ex) (z:Int),z=(left:Nat)→left≤1000→e.ok→PF Tryz.prog 142 [.agg e.cells,(PV.val (Value.int .i64 (z)))] (PV.val (Value.bool (nF left e))):=by
  intro left
  induction left with
  |zero=>
    intro e z hz _ _
    subst hz
    obtain ⟨k,n,v,of⟩:=e
    refine aK aG Tryz.func142 (by kernel_rfl) rfl rfl rfl rfl (fun st=> ?_)
    (try (apply wO pk;exact rfl));(repeat' (first|(show All _;constructor)|(show Imp _ _;constructor)|(show ImpX _ _ _ _;constructor)|(apply wC pk;(iterate 2 exact rfl))|(apply wE pk;(iterate 2 exact rfl))|(apply wX pk;exact rfl)|(apply wN pk;exact rfl)|(apply wD pk [] [];kernel_rfl;exact rfl;exact rfl)|(apply aB;simp only [zqt,zqf])|(refine aC rfl (fun h=> ?_) (fun h=> ?_)<;>(try simp at h)<;>try (exfalso;omega))|(refine aD ?_;refine ⟨_,_,_,rfl,Wk.refl _,StSub.refl _, ?_,rfl⟩;try rfl)|(intros;(try simp only [zql]);omega)|((exfalso;simp at*;done))))
  |succ left ih=>
    intro e z hz hl hok
    subst hz
    obtain ⟨k,n,v,of⟩:=e
    simp only [Ex.ok] at hok
    have hlen:=Ex.rows_len of
    refine aK aG Tryz.func142 (by kernel_rfl) rfl rfl rfl rfl (fun st=> ?_)
    focus ((try (apply wO pk;exact rfl));(repeat' (first|((exfalso;omega))|(show All _;constructor)|(show Imp _ _;constructor)|(show ImpX _ _ _ _;constructor)|(apply wC pk;(iterate 2 exact rfl))|(apply wE pk;(iterate 2 exact rfl))|(apply wX pk;exact rfl)|(apply wN pk;exact rfl)|(apply wD pk [] [];kernel_rfl;exact rfl;exact rfl)|(apply aB;simp only [zqt,zqf])|(refine aC rfl (fun h=> ?_) (fun h=> ?_)<;>(try simp at h)<;>try (exfalso;omega))|(refine aD ?_;refine ⟨_,_,_,rfl,Wk.refl _,StSub.refl _, ?_,rfl⟩;try rfl)|(intros;(try simp only [zql]);omega))))
    refine aP (X:={i:Nat//i≤of.length∧(of.take i).any (nF left)=false}) (fun i=>(((((St.nil 21 st).pv 1 ((PV.val (Value.int .i64 ((left+1:Nat)))))).pv 10 (.seq (Ex.rows of))).pv 11 ((PV.val (Value.int .i64 (((Ex.rows of).length:Nat)))))).pv 12 ((PV.val (Value.int .i64 ((i.1:Nat))))))) (fun i=>of.length-i.1) ⟨0,by omega,by simp⟩ ?_ (fun i=> ?_)
    · ((repeat (first|refine Sub.pv ?_ rfl|refine Sub.var ?_ rfl rfl));exact Sub.nil _ _ _ (StSub.refl _) rfl)
    obtain ⟨i,hi,hany⟩:=i
    dsimp only
    by_cases hend:of.length≤i
    · rw [qP (by omega)] at hany
      have e:nF (left+1) (.mk k n v of)=false:=hany
      (try (apply wO pk;exact rfl));(repeat' (first|(show All _;constructor)|(show Imp _ _;constructor)|(show ImpX _ _ _ _;constructor)|(apply wC pk;(iterate 2 exact rfl))|(apply wE pk;(iterate 2 exact rfl))|(apply wX pk;exact rfl)|(apply wN pk;exact rfl)|(apply wD pk [] [];kernel_rfl;exact rfl;exact rfl)|(apply aB;simp only [zqt,zqf])|(refine aC rfl (fun h=> ?_) (fun h=> ?_)<;>(try simp at h)<;>try (exfalso;omega))|(refine aD ?_;refine ⟨_,_,_,rfl,Wk.refl _,StSub.refl _, ?_,rfl⟩;try first|rfl|((rw [e]);done))|(intros;(try simp only [zql]);omega)))
    obtain ⟨x,hx⟩:=eQ (l:=of) (i:=i) (by omega)
    have hrow:=Ex.rows_get hx
    have hxo:=Ex.oks_mem hok.2 (List.mem_of_getElem? hx)
    have hup:=aqR (p:=nF left) hx
    have hyes:nF left x=true→nF (left+1) (.mk k n v of)=true:=fun h=>awR hx h
    have hd:=ih x (left:Nat) rfl (by omega) hxo
    generalize nF left x=D at*
    obtain ⟨k',n',v',of'⟩:=x
    have hd':∀z:Int,z=(left:Nat)→PF Tryz.prog 142 [.agg (Ex.mk k' n' v' of').cells,(PV.val (Value.int .i64 (z)))] (PV.val (Value.bool (D))):=fun z hz=>hz▸hd
    cases D with
    |true=>
      have e:=hyes rfl
      (try (apply wO pk;exact rfl));(repeat' (first|(show All _;constructor)|(show Imp _ _;constructor)|(show ImpX _ _ _ _;constructor)|(apply wC pk;(iterate 2 exact rfl))|(apply wE pk;(iterate 2 exact rfl))|(apply wX pk;exact rfl)|(apply wN pk;exact rfl)|(apply wD pk [] [];kernel_rfl;exact rfl;exact rfl)|(apply aB;simp only [zqt,zqf])|(refine aC rfl (fun h=> ?_) (fun h=> ?_)<;>(try simp at h)<;>try (exfalso;omega))|(refine aD ?_;refine ⟨_,_,_,rfl,Wk.refl _,StSub.refl _, ?_,rfl⟩;try first|rfl|((rw [e]);done))|(apply aL;(iterate 3 exact rfl);(intro _;apply hd'<;>first|assumption|omega);rotate_left;(iterate 2 exact rfl))|(apply bC pk;(iterate 6 exact rfl);rotate_left;exact rfl;(intro hw;exact rfl);(intro hw;apply hrow<;>omega);(intro _;exact (Ex.cells_len _));exact rfl)|(intros;(try simp only [zql]);omega)))
    |false=>
      rw [hany] at hup
      (try (apply wO pk;exact rfl));(repeat' (first|(show All _;constructor)|(show Imp _ _;constructor)|(show ImpX _ _ _ _;constructor)|(apply wC pk;(iterate 2 exact rfl))|(apply wE pk;(iterate 2 exact rfl))|(apply wX pk;exact rfl)|(apply wN pk;exact rfl)|(apply wD pk [] [];kernel_rfl;exact rfl;exact rfl)|(apply aB;simp only [zqt,zqf])|(refine aC rfl (fun h=> ?_) (fun h=> ?_)<;>(try simp at h)<;>try (exfalso;omega))|(refine aD ?_;refine ⟨_,_,_,rfl,Wk.refl _,StSub.refl _, ?_,rfl⟩;try rfl)|(apply aL;(iterate 3 exact rfl);(intro _;apply hd'<;>first|assumption|omega);rotate_left;(iterate 2 exact rfl))|(apply bC pk;(iterate 6 exact rfl);rotate_left;exact rfl;(intro hw;exact rfl);(intro hw;apply hrow<;>omega);(intro _;exact (Ex.cells_len _));exact rfl)|(refine ⟨⟨i+1,by omega,hup⟩, ?_,by simp only;omega⟩;((repeat (first|refine Sub.pv ?_ rfl|refine Sub.var ?_ rfl rfl));exact Sub.nil _ _ _ (StSub.refl _) rfl))|(intros;(try simp only [zql]);omega)))
end Go.Proofs.YtcglimangneafaaGreatDoor.X
namespace Go.Proofs.YtcglimangneafaaGreatDoor.X
open Go Go.Abs
attribute [local irreducible] Ev PWp
set_option maxRecDepth 10000
set_option maxHeartbeats 4000000
def vz (v:Vl):Bool:=decide (v.kind=0)&&(decide (v.n=0)&&decide (v.s=e0))
def kI (k n:Int) (v:Vl) (l:Int):Bool:=
  if k=0 then (decide (n≥0)&&vz v)&&decide (l=0)
  else if k=1 then (decide (n=0)&&oX v)&&decide (l=0)
  else decide (2≤k∧k≤10)&&decide (n=0)&&vz v&&decide (l=iY k)
mutual
def bS :Ex→Bool
  | .mk k n v o=>kI k n v o.length&&(decide (k=0)||decide (k=1)||mI o)
def mI :List Ex→Bool
  |[]=>true
  |e::es=>bS e&&mI es
end
theorem lD :∀l,mI l=l.all bS
  |[]=>rfl
  |e::es=>by simp [mI,lD es]
mutual
theorem gP :∀(e:Ex),e.ok→PF Tryz.prog 143 [.agg e.cells] (PV.val (Value.bool (bS e)))
  | .mk k n v of,hok=>by
    simp only [Ex.ok] at hok
    have ih:=pL of
    have hlen:=Ex.rows_len of
    obtain ⟨v1,v2,v3⟩:=v
    have hrs:= @right_spec v1 v2 v3
    by_cases hk:2≤k∧k≤10
    · obtain ⟨f,caps,hlook⟩:=aqF hk.1 hk.2
      have hk0:¬k=0:=by omega
      have hk1:¬k=1:=by omega
      have hhead:bS (.mk k n ⟨v1,v2,v3⟩ of)=(kI k n ⟨v1,v2,v3⟩ of.length&&mI of):=by simp [bS,hk0,hk1]
      have hF:kI k n ⟨v1,v2,v3⟩ of.length=(decide (n=0)&&vz ⟨v1,v2,v3⟩&&decide ((of.length:Int)=iY k)):=by simp [kI,hk0,hk1,hk]
      by_cases hh:n=0∧(v1=0∧v2=0∧v3=e0)∧(of.length:Int)=iY k
      · have hF1:kI k n ⟨v1,v2,v3⟩ of.length=true:=by rw [hF];simp [vz,hh]
        rw [hF1,Bool.true_and,lD] at hhead
        refine aK aG Tryz.func143 (by kernel_rfl) rfl rfl rfl rfl (fun st=> ?_)
        focus ((try (apply wO pk;exact rfl));(repeat' (first|(show All _;constructor)|(show Imp _ _;constructor)|(show ImpX _ _ _ _;constructor)|(apply wC pk;(iterate 2 exact rfl))|(apply wE pk;(iterate 2 exact rfl))|(apply wX pk;exact rfl)|(apply wN pk;exact rfl)|(apply wD pk [] [];kernel_rfl;exact rfl;exact rfl)|(apply aB;simp only [zqt,zqf])|(refine aC rfl (fun h=> ?_) (fun h=> ?_)<;>(try simp at h)<;>try (exfalso;omega))|(refine aD ?_;refine ⟨_,_,_,rfl,Wk.refl _,StSub.refl _, ?_,rfl⟩;try rfl)|(apply aL;(iterate 3 exact rfl);(intro _;apply cK<;>first|assumption|omega);rotate_left;(iterate 2 exact rfl))|((apply oI pk;(iterate 4 exact rfl);(focus repeat' constructor);exact rfl;exact hlook;exact rfl))|(intros;(try simp only [zql]);omega)|((exfalso;simp_all;done))|((exfalso;simp at*;omega)))))
        refine aP (X:={i:Nat//i≤of.length∧(of.take i).all bS=true}) (fun i=>((((St.nil 84 st).pv 74 (.seq (Ex.rows of))).pv 75 ((PV.val (Value.int .i64 (((Ex.rows of).length:Nat)))))).pv 76 ((PV.val (Value.int .i64 ((i.1:Nat))))))) (fun i=>of.length-i.1) ⟨0,by omega,by simp⟩ ?_ (fun i=> ?_)
        · ((repeat (first|refine Sub.pv ?_ rfl|refine Sub.var ?_ rfl rfl));exact Sub.nil _ _ _ (StSub.refl _) rfl)
        obtain ⟨i,hi,hall⟩:=i
        dsimp only
        by_cases hend:of.length≤i
        · rw [qP (by omega)] at hall
          rw [hall] at hhead
          (try (apply wO pk;exact rfl));(repeat' (first|(show All _;constructor)|(show Imp _ _;constructor)|(show ImpX _ _ _ _;constructor)|(apply wC pk;(iterate 2 exact rfl))|(apply wE pk;(iterate 2 exact rfl))|(apply wX pk;exact rfl)|(apply wN pk;exact rfl)|(apply wD pk [] [];kernel_rfl;exact rfl;exact rfl)|(apply aB;simp only [zqt,zqf])|(refine aC rfl (fun h=> ?_) (fun h=> ?_)<;>(try simp at h)<;>try (exfalso;omega))|(refine aD ?_;refine ⟨_,_,_,rfl,Wk.refl _,StSub.refl _, ?_,rfl⟩;try first|rfl|((rw [hhead]);done))|(intros;(try simp only [zql]);omega)))
        obtain ⟨x,hx⟩:=eQ (l:=of) (i:=i) (by omega)
        have hrow:=Ex.rows_get hx
        have hm:=List.mem_of_getElem? hx
        have ihx:=ih x hm (Ex.oks_mem hok.2 hm)
        have hup:=acP (p:=bS) hx
        have hno:=fun h=>aiW (p:=bS) hx h
        generalize bS x=D at*
        obtain ⟨k',n',v',of'⟩:=x
        cases D with
        |false=>
          rw [hno rfl] at hhead
          (try (apply wO pk;exact rfl));(repeat' (first|(show All _;constructor)|(show Imp _ _;constructor)|(show ImpX _ _ _ _;constructor)|(apply wC pk;(iterate 2 exact rfl))|(apply wE pk;(iterate 2 exact rfl))|(apply wX pk;exact rfl)|(apply wN pk;exact rfl)|(apply wD pk [] [];kernel_rfl;exact rfl;exact rfl)|(apply aB;simp only [zqt,zqf])|(refine aC rfl (fun h=> ?_) (fun h=> ?_)<;>(try simp at h)<;>try (exfalso;omega))|(refine aD ?_;refine ⟨_,_,_,rfl,Wk.refl _,StSub.refl _, ?_,rfl⟩;try first|rfl|((rw [hhead]);done))|(apply aL;(iterate 3 exact rfl);(intro _;apply ihx<;>first|assumption|omega);rotate_left;(iterate 2 exact rfl))|(apply bC pk;(iterate 6 exact rfl);rotate_left;exact rfl;(intro hw;exact rfl);(intro hw;apply hrow<;>omega);(intro _;exact (Ex.cells_len _));exact rfl)|(intros;(try simp only [zql]);omega)))
        |true=>
          rw [hall] at hup
          (try (apply wO pk;exact rfl));(repeat' (first|(show All _;constructor)|(show Imp _ _;constructor)|(show ImpX _ _ _ _;constructor)|(apply wC pk;(iterate 2 exact rfl))|(apply wE pk;(iterate 2 exact rfl))|(apply wX pk;exact rfl)|(apply wN pk;exact rfl)|(apply wD pk [] [];kernel_rfl;exact rfl;exact rfl)|(apply aB;simp only [zqt,zqf])|(refine aC rfl (fun h=> ?_) (fun h=> ?_)<;>(try simp at h)<;>try (exfalso;omega))|(refine aD ?_;refine ⟨_,_,_,rfl,Wk.refl _,StSub.refl _, ?_,rfl⟩;try rfl)|(apply aL;(iterate 3 exact rfl);(intro _;apply ihx<;>first|assumption|omega);rotate_left;(iterate 2 exact rfl))|(apply bC pk;(iterate 6 exact rfl);rotate_left;exact rfl;(intro hw;exact rfl);(intro hw;apply hrow<;>omega);(intro _;exact (Ex.cells_len _));exact rfl)|(refine ⟨⟨i+1,by omega,hup⟩, ?_,by simp only;omega⟩;((repeat (first|refine Sub.pv ?_ rfl|refine Sub.var ?_ rfl rfl));exact Sub.nil _ _ _ (StSub.refl _) rfl))|(intros;(try simp only [zql]);omega)))
      · have hF1:kI k n ⟨v1,v2,v3⟩ of.length=false:=by
          rw [hF,←Bool.not_eq_true]
          simp only [vz,Bool.and_eq_true,decide_eq_true_eq]
          exact fun q=>hh ⟨q.1.1,q.1.2,q.2⟩
        rw [hF1,Bool.false_and] at hhead
        refine aK aG Tryz.func143 (by kernel_rfl) rfl rfl rfl rfl (fun st=> ?_)
        (try (apply wO pk;exact rfl));(repeat' (first|(show All _;constructor)|(show Imp _ _;constructor)|(show ImpX _ _ _ _;constructor)|(apply wC pk;(iterate 2 exact rfl))|(apply wE pk;(iterate 2 exact rfl))|(apply wX pk;exact rfl)|(apply wN pk;exact rfl)|(apply wD pk [] [];kernel_rfl;exact rfl;exact rfl)|(apply aB;simp only [zqt,zqf])|(refine aC rfl (fun h=> ?_) (fun h=> ?_)<;>(try simp at h)<;>try (exfalso;omega))|(refine aD ?_;refine ⟨_,_,_,rfl,Wk.refl _,StSub.refl _, ?_,rfl⟩;try first|rfl|((rw [hhead]);done))|(apply aL;(iterate 3 exact rfl);(intro _;apply cK<;>first|assumption|omega);rotate_left;(iterate 2 exact rfl))|((apply oI pk;(iterate 4 exact rfl);(focus repeat' constructor);exact rfl;exact hlook;exact rfl))|(intros;(try simp only [zql]);omega)|((exfalso;simp_all;done))|((exfalso;simp at*;omega))))
    · have hlook:=ajU hk
      by_cases hk0:k=0
      · subst hk0
        have e:bS (.mk 0 n ⟨v1,v2,v3⟩ of)=((decide (n≥0)&&(decide (v1=0)&&(decide (v2=0)&&decide (v3=e0))))&&decide ((of.length:Int)=0)):=by simp [bS,kI,vz]
        refine aK aG Tryz.func143 (by kernel_rfl) rfl rfl rfl rfl (fun st=> ?_)
        (try (apply wO pk;exact rfl));(repeat' (first|(show All _;constructor)|(show Imp _ _;constructor)|(show ImpX _ _ _ _;constructor)|(apply wC pk;(iterate 2 exact rfl))|(apply wE pk;(iterate 2 exact rfl))|(apply wX pk;exact rfl)|(apply wN pk;exact rfl)|(apply wD pk [] [];kernel_rfl;exact rfl;exact rfl)|(apply aB;simp only [zqt,zqf])|(refine aC rfl (fun h=> ?_) (fun h=> ?_)<;>(try simp at h)<;>try (exfalso;omega))|(refine aD ?_;refine ⟨_,_,_,rfl,Wk.refl _,StSub.refl _, ?_,rfl⟩;try first|rfl|((first|(rw [e,hlen];done)|(rw [e,hlen];rfl));done))|(apply aL;(iterate 3 exact rfl);(intro _;apply cK<;>first|assumption|omega);rotate_left;(iterate 2 exact rfl))|((apply oI pk;(iterate 4 exact rfl);(focus repeat' constructor);exact rfl;exact hlook;exact rfl))|(intros;(try simp only [zql]);omega)|((exfalso;simp_all;done))))
      by_cases hk1:k=1
      · subst hk1
        have e:bS (.mk 1 n ⟨v1,v2,v3⟩ of)=((decide (n=0)&&oX ⟨v1,v2,v3⟩)&&decide ((of.length:Int)=0)):=by simp [bS,kI]
        generalize oX ⟨v1,v2,v3⟩=R at*
        refine aK aG Tryz.func143 (by kernel_rfl) rfl rfl rfl rfl (fun st=> ?_)
        (try (apply wO pk;exact rfl));(repeat' (first|(show All _;constructor)|(show Imp _ _;constructor)|(show ImpX _ _ _ _;constructor)|(apply wC pk;(iterate 2 exact rfl))|(apply wE pk;(iterate 2 exact rfl))|(apply wX pk;exact rfl)|(apply wN pk;exact rfl)|(apply wD pk [] [];kernel_rfl;exact rfl;exact rfl)|(apply aB;simp only [zqt,zqf])|(refine aC rfl (fun h=> ?_) (fun h=> ?_)<;>(try simp at h)<;>try (exfalso;omega))|(refine aD ?_;refine ⟨_,_,_,rfl,Wk.refl _,StSub.refl _, ?_,rfl⟩;try first|rfl|((first|(rw [e,hlen];done)|(rw [e,hlen];rfl));done))|(apply aL;(iterate 3 exact rfl);(intro _;(first|apply cK|apply hrs)<;>first|assumption|omega);rotate_left;(iterate 2 exact rfl))|((apply oI pk;(iterate 4 exact rfl);(focus repeat' constructor);exact rfl;exact hlook;exact rfl))|(intros;(try simp only [zql]);omega)|((exfalso;simp_all;done))))
      have e:bS (.mk k n ⟨v1,v2,v3⟩ of)=false:=by simp [bS,kI,hk0,hk1,hk]
      refine aK aG Tryz.func143 (by kernel_rfl) rfl rfl rfl rfl (fun st=> ?_)
      (try (apply wO pk;exact rfl));(repeat' (first|(show All _;constructor)|(show Imp _ _;constructor)|(show ImpX _ _ _ _;constructor)|(apply wC pk;(iterate 2 exact rfl))|(apply wE pk;(iterate 2 exact rfl))|(apply wX pk;exact rfl)|(apply wN pk;exact rfl)|(apply wD pk [] [];kernel_rfl;exact rfl;exact rfl)|(apply aB;simp only [zqt,zqf])|(refine aC rfl (fun h=> ?_) (fun h=> ?_)<;>(try simp at h)<;>try (exfalso;omega))|(refine aD ?_;refine ⟨_,_,_,rfl,Wk.refl _,StSub.refl _, ?_,rfl⟩;try first|rfl|((rw [e]);done))|(apply aL;(iterate 3 exact rfl);(intro _;apply cK<;>first|assumption|omega);rotate_left;(iterate 2 exact rfl))|((apply oI pk;(iterate 4 exact rfl);(focus repeat' constructor);exact rfl;exact hlook;exact rfl))|(intros;(try simp only [zql]);omega)|((exfalso;simp_all;done))))
theorem pL :∀(l:List Ex) (x:Ex),x∈l→x.ok→PF Tryz.prog 143 [.agg x.cells] (PV.val (Value.bool (bS x)))
  |[],_,h,_=>by cases h
  |e::es,x,h,hok=>by
    rcases List.mem_cons.1 h with h|h
    · rw [h] at hok⊢;exact gP e hok
    · exact pL es x h hok
end
end Go.Proofs.YtcglimangneafaaGreatDoor.X
