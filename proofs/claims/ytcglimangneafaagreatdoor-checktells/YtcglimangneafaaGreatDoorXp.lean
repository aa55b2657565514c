import Derived.Test.YtcglimangneafaaGreatDoorBsVal
set_option linter.unusedSimpArgs false
set_option linter.unusedVariables false
namespace Go.Proofs.YtcglimangneafaaGreatDoor.X
open Go Go.Abs
def v0 :Vl:=⟨0,0,e0⟩
inductive Ex where
  |mk (k n:Int) (v:Vl) (of:List Ex)
def Ex.k :Ex→Int| .mk k _ _ _=>k
def Ex.n :Ex→Int| .mk _ n _ _=>n
def Ex.v :Ex→Vl| .mk _ _ v _=>v
def Ex.of :Ex→List Ex| .mk _ _ _ o=>o
mutual
def Ex.cells :Ex→List PV
  | .mk k n v o=>[(PV.val (Value.int .i64 (k))),(PV.val (Value.int .i64 (n))),(PV.val (Value.int .i64 (v.kind))),(PV.val (Value.int .i64 (v.n))),(PV.val (Value.string (v.s))), .seq (Ex.rows o)]
def Ex.rows :List Ex→List (List PV)
  |[]=>[]
  |e::es=>e.cells::Ex.rows es
end
theorem Ex.rows_map :∀l:List Ex,Ex.rows l=l.map Ex.cells
  |[]=>rfl
  |e::es=>by simp [Ex.rows,Ex.rows_map es]
theorem Ex.rows_len :∀(l:List Ex),(Ex.rows l).length=l.length
  |[]=>rfl
  |e::es=>by simp [Ex.rows,Ex.rows_len es]
theorem Ex.rows_get :∀{l:List Ex} {i:Nat} {x:Ex},l[i]?=some x→(Ex.rows l)[i]?=some x.cells
  |[],_,_,h=>by simp at h
  |e::es,0,x,h=>by simp at h;simp [Ex.rows,h]
  |e::es,i+1,x,h=>by simp at h;simpa [Ex.rows] using Ex.rows_get h
theorem Ex.cells_len :∀(x:Ex),x.cells.length=6
  | .mk _ _ _ _=>by simp [Ex.cells]
mutual
def Ex.ok :Ex→Prop
  | .mk _ _ _ o=>o.length<2^62∧Ex.oks o
def Ex.oks :List Ex→Prop
  |[]=>True
  |e::es=>e.ok∧Ex.oks es
end
mutual
theorem Ex.ok_of :∀(e:Ex),kO e.cells→e.ok
  | .mk k n v o,h=>by
    simp only [Ex.cells,kO,lens,Ex.rows_len] at h
    simp only [Ex.ok]
    exact ⟨h.2.2.2.2.2.1.1,Ex.oks_of o h.2.2.2.2.2.1.2⟩
theorem Ex.oks_of :∀(l:List Ex),oI (Ex.rows l)→Ex.oks l
  |[],_=>by simp [Ex.oks]
  |e::es,h=>by
    simp only [Ex.rows,oI] at h
    simp only [Ex.oks]
    exact ⟨Ex.ok_of e h.1,Ex.oks_of es h.2⟩
end
theorem Ex.oks_mem :∀{l:List Ex} {x:Ex},Ex.oks l→x∈l→x.ok
  |[],_,_,hx=>by cases hx
  |e::es,x,h,hx=>by
    simp only [Ex.oks] at h
    rcases List.mem_cons.1 hx with rfl|hx
    · exact h.1
    · exact Ex.oks_mem h.2 hx
def fG (l:List Int):List (List PV):=l.map I1
def wU (l:List Vl):List (List PV):=l.map Vl.cells
theorem rA {l:List Int} {i:Nat} {x:Int} (h:l[i]?=some x):(fG l)[i]?=some [(PV.val (Value.int .i64 (x)))]:=by simp [fG,h,I1]
theorem nR (l:List Int):(fG l).length=l.length:=by simp [fG]
theorem yJ (l:List Vl):(wU l).length=l.length:=by simp [wU]
theorem eT {α:Type} {l:List α} {i:Nat} (h:i<l.length):∃x,l[i]?=some x:=⟨l[i],by simp [h]⟩
end Go.Proofs.YtcglimangneafaaGreatDoor.X
namespace Go.Proofs.YtcglimangneafaaGreatDoor.X
open Go Go.Abs
attribute [local irreducible] Ev PWp
set_option maxRecDepth 10000
set_option maxHeartbeats 2000000
theorem qY {k n:Int} {b:ByteArray}:PF Tryz.prog 203 [.agg [(PV.val (Value.int .i64 (k))),(PV.val (Value.int .i64 (n))),(PV.val (Value.string (b)))]] (PV.val (Value.bool (decide (k=0)))):=by
  refine aH aD Tryz.func203 (by kernel_rfl) rfl rfl rfl rfl (fun st=> ?_)
  (try (apply wO pk;exact rfl));(repeat' (first|(show All _;constructor)|(refine aB ?_;refine ⟨_,_,_,rfl,Wk.refl _,StSub.refl _, ?_,rfl⟩;try rfl)))
def rightV (v:Vl):Bool:=if v.kind=0 then decide (v.n=0)&&decide (v.s=e0) else if v.kind=1 then (decide (v.s=e0)&&decide (v.n≥ -1099511627776))&&decide (v.n≤1099511627776) else if v.kind=2 then decide (v.n=0)&&decide ((v.s.size:Int)≤200) else false
theorem right_spec {k n:Int} {b:ByteArray}:PF Tryz.prog 188 [.agg [(PV.val (Value.int .i64 (k))),(PV.val (Value.int .i64 (n))),(PV.val (Value.string (b)))]] (PV.val (Value.bool (rightV ⟨k,n,b⟩))):=by
  unfold rightV
  dsimp only
  by_cases h0:k=0
  · rw [if_pos h0]
    refine aH aD Tryz.func188 (by kernel_rfl) rfl rfl rfl rfl (fun st=> ?_)
    (try (apply wO pk;exact rfl));(repeat' (first|(show All _;constructor)|(apply wC pk;(iterate 2 exact rfl))|(refine aA rfl (fun h=> ?_) (fun h=> ?_)<;>(try simp at h)<;>try (exfalso;omega))|(refine aB ?_;refine ⟨_,_,_,rfl,Wk.refl _,StSub.refl _, ?_,rfl⟩;try first|rfl|(((simp [h0];done));done))))
  by_cases h1:k=1
  · rw [if_neg h0,if_pos h1]
    refine aH aD Tryz.func188 (by kernel_rfl) rfl rfl rfl rfl (fun st=> ?_)
    (try (apply wO pk;exact rfl));(repeat' (first|(show All _;constructor)|(show Imp _ _;constructor)|(show ImpX _ _ _ _;constructor)|(apply wC pk;(iterate 2 exact rfl))|(refine aA rfl (fun h=> ?_) (fun h=> ?_)<;>(try simp at h)<;>try (exfalso;omega))|(refine aB ?_;refine ⟨_,_,_,rfl,Wk.refl _,StSub.refl _, ?_,rfl⟩;try first|rfl|((fail);done))))
  rw [if_neg h0,if_neg h1]
  by_cases h2:k=2
  · rw [if_pos h2]
    refine aH aD Tryz.func188 (by kernel_rfl) rfl rfl rfl rfl (fun st=> ?_)
    (try (apply wO pk;exact rfl));(repeat' (first|(show All _;constructor)|(show Imp _ _;constructor)|(show ImpX _ _ _ _;constructor)|(apply wC pk;(iterate 2 exact rfl))|(refine aA rfl (fun h=> ?_) (fun h=> ?_)<;>(try simp at h)<;>try (exfalso;omega))|(refine aB ?_;refine ⟨_,_,_,rfl,Wk.refl _,StSub.refl _, ?_,rfl⟩;try first|rfl|((fail);done))))
  rw [if_neg h2]
  refine aH aD Tryz.func188 (by kernel_rfl) rfl rfl rfl rfl (fun st=> ?_)
  (try (apply wO pk;exact rfl));(repeat' (first|(show All _;constructor)|(apply wC pk;(iterate 2 exact rfl))|(refine aA rfl (fun h=> ?_) (fun h=> ?_)<;>(try simp at h)<;>try (exfalso;omega))|(refine aB ?_;refine ⟨_,_,_,rfl,Wk.refl _,StSub.refl _, ?_,rfl⟩;try first|rfl|((fail);done))))
theorem dA {n:Int}:PF Tryz.prog 231 [(PV.val (Value.int .i64 (n)))] (.agg [(PV.val (Value.int .i64 (1))),(PV.val (Value.int .i64 (n))),(PV.val (Value.string (e0)))]):=by
  refine aH aD Tryz.func231 (by kernel_rfl) rfl rfl rfl rfl (fun st=> ?_)
  (try (apply wO pk;exact rfl));(repeat' (first|(show All _;constructor)|(refine aB ?_;refine ⟨_,_,_,rfl,Wk.refl _,StSub.refl _, ?_,rfl⟩;try rfl)))
theorem pH {x:Bool}:PF Tryz.prog 201 [(PV.val (Value.bool (x)))] (.agg [(PV.val (Value.int .i64 (1))),(PV.val (Value.int .i64 (if x then 1 else 0))),(PV.val (Value.string (e0)))]):=by
  refine aH aD Tryz.func201 (by kernel_rfl) rfl rfl rfl rfl (fun st=> ?_)
  (try (apply wO pk;exact rfl));(repeat' (first|(show All _;constructor)|(show Imp _ _;constructor)|(apply wC pk;(iterate 2 exact rfl))|(apply wE pk;(iterate 2 exact rfl))|(refine aA rfl (fun h=> ?_) (fun h=> ?_)<;>(try simp at h)<;>try (exfalso;omega))|(refine aB ?_;refine ⟨_,_,_,rfl,Wk.refl _,StSub.refl _, ?_,rfl⟩;try first|rfl|((simp [*];done);done))|(apply aI;(iterate 3 exact rfl);(intro _;apply dA<;>first|assumption|omega);rotate_left;(iterate 2 exact rfl))))
def aeB (v:Vl):Bool:=decide (v.kind=1)&&(decide (v.n=0)&&decide (v.s=e0))
def ayR (v:Vl):Bool:=decide (v.kind=1)&& !decide (v.n=0)
theorem anQ {k n:Int} {b:ByteArray}:PF Tryz.prog 197 [.agg [(PV.val (Value.int .i64 (k))),(PV.val (Value.int .i64 (n))),(PV.val (Value.string (b)))]] (PV.val (Value.bool (aeB ⟨k,n,b⟩))):=by
  refine aH aD Tryz.func197 (by kernel_rfl) rfl rfl rfl rfl (fun st=> ?_)
  (try (apply wO pk;exact rfl));(repeat' (first|(show All _;constructor)|(show Imp _ _;constructor)|(apply wE pk;(iterate 2 exact rfl))|(apply wD pk [] [];kernel_rfl;exact rfl;exact rfl)|(refine aB ?_;refine ⟨_,_,_,rfl,Wk.refl _,StSub.refl _, ?_,rfl⟩;try rfl)|(apply aI;(iterate 3 exact rfl);(intro _;apply dA<;>first|assumption|omega);rotate_left;(iterate 2 exact rfl))))
theorem arB {k n:Int} {b:ByteArray}:PF Tryz.prog 198 [.agg [(PV.val (Value.int .i64 (k))),(PV.val (Value.int .i64 (n))),(PV.val (Value.string (b)))]] (PV.val (Value.bool (ayR ⟨k,n,b⟩))):=by
  refine aH aD Tryz.func198 (by kernel_rfl) rfl rfl rfl rfl (fun st=> ?_)
  (try (apply wO pk;exact rfl));(repeat' (first|(show All _;constructor)|(show Imp _ _;constructor)|(show ImpX _ _ _ _;constructor)|(refine aB ?_;refine ⟨_,_,_,rfl,Wk.refl _,StSub.refl _, ?_,rfl⟩;try rfl)))
theorem auM {k n:Int} {b:ByteArray} {k' n':Int} {b':ByteArray}:PF Tryz.prog 194 [.agg [(PV.val (Value.int .i64 (k))),(PV.val (Value.int .i64 (n))),(PV.val (Value.string (b)))], .agg [(PV.val (Value.int .i64 (k'))),(PV.val (Value.int .i64 (n'))),(PV.val (Value.string (b')))]] (PV.val (Value.bool (decide (k=k')&&(decide (n=n')&&decide (b=b'))))):=by
  refine aH aD Tryz.func194 (by kernel_rfl) rfl rfl rfl rfl (fun st=> ?_)
  (try (apply wO pk;exact rfl));(repeat' (first|(show All _;constructor)|(refine aB ?_;refine ⟨_,_,_,rfl,Wk.refl _,StSub.refl _, ?_,rfl⟩;try rfl)))
def tM (a b:ByteArray):Bool:=Op.bytesLess a.toList b.toList
theorem nI {k n:Int} {b:ByteArray} {k' n':Int} {b':ByteArray}:PF Tryz.prog 195 [.agg [(PV.val (Value.int .i64 (k))),(PV.val (Value.int .i64 (n))),(PV.val (Value.string (b)))], .agg [(PV.val (Value.int .i64 (k'))),(PV.val (Value.int .i64 (n'))),(PV.val (Value.string (b')))]] (PV.val (Value.bool (decide (n<n')||tM b b'))):=by
  refine aH aD Tryz.func195 (by kernel_rfl) rfl rfl rfl rfl (fun st=> ?_)
  (try (apply wO pk;exact rfl));(repeat' (first|(show All _;constructor)|(show Imp _ _;constructor)|(show ImpX _ _ _ _;constructor)|(refine aB ?_;refine ⟨_,_,_,rfl,Wk.refl _,StSub.refl _, ?_,rfl⟩;try rfl)))
theorem arE {k n:Int} {b:ByteArray} {k' n':Int} {b':ByteArray}:PF Tryz.prog 200 [.agg [(PV.val (Value.int .i64 (k))),(PV.val (Value.int .i64 (n))),(PV.val (Value.string (b)))], .agg [(PV.val (Value.int .i64 (k'))),(PV.val (Value.int .i64 (n'))),(PV.val (Value.string (b')))]] (.tup [.agg [(PV.val (Value.int .i64 (1))),(PV.val (Value.int .i64 (if decide (n=0) then 1 else 0))),(PV.val (Value.string (e0)))],(PV.val (Value.int .i64 (0)))]):=by
  refine aH aD Tryz.func200 (by kernel_rfl) rfl rfl rfl rfl (fun st=> ?_)
  (try (apply wO pk;exact rfl));(repeat' (first|(show All _;constructor)|(show Imp _ _;constructor)|(apply wE pk;(iterate 2 exact rfl))|(refine aB ?_;refine ⟨_,_,_,rfl,Wk.refl _,StSub.refl _, ?_,rfl⟩;try rfl)|(apply aI;(iterate 3 exact rfl);(intro _;apply pH<;>first|assumption|omega);rotate_left;(iterate 2 exact rfl))))
theorem afA {k n:Int} {b:ByteArray} {k' n':Int} {b':ByteArray}:PF Tryz.prog 202 [.agg [(PV.val (Value.int .i64 (k))),(PV.val (Value.int .i64 (n))),(PV.val (Value.string (b)))], .agg [(PV.val (Value.int .i64 (k'))),(PV.val (Value.int .i64 (n'))),(PV.val (Value.string (b')))]] (.tup [.agg [(PV.val (Value.int .i64 (1))),(PV.val (Value.int .i64 (if decide (k=0) then 1 else 0))),(PV.val (Value.string (e0)))],(PV.val (Value.int .i64 (0)))]):=by
  refine aH aD Tryz.func202 (by kernel_rfl) rfl rfl rfl rfl (fun st=> ?_)
  (try (apply wO pk;exact rfl));(repeat' (first|(show All _;constructor)|(show Imp _ _;constructor)|(apply wE pk;(iterate 2 exact rfl))|(refine aB ?_;refine ⟨_,_,_,rfl,Wk.refl _,StSub.refl _, ?_,rfl⟩;try rfl)|(apply aI;(iterate 3 exact rfl);(intro _;(first|apply pH|apply qY)<;>first|assumption|omega);rotate_left;(iterate 2 exact rfl))))
def acL (f:FuncId) (op:Int→Int→Int):Prop:=∀a b,PF Tryz.prog f [(PV.val (Value.int .i64 (a))),(PV.val (Value.int .i64 (b)))] (PV.val (Value.int .i64 (IntKind.wrap .i64 (op a b))))
theorem anZ :acL 190 (· + ·):=by
  intro a b
  refine aH aD Tryz.func190 (by kernel_rfl) rfl rfl rfl rfl (fun st=> ?_)
  ((apply aqR pk 4);exact rfl;(focus repeat' constructor);(focus repeat' (exact All.nil)))
  refine fC ?_
  iterate 2 (apply gI aD;iterate 4 exact rfl)
  (apply avN;iterate 5 exact rfl)
  (apply gI aD;iterate 4 exact rfl)
  refine nA ?_
  (try (apply wO pk;exact rfl));(repeat' (first|(show All _;constructor)|(refine aB ?_;refine ⟨_,_,_,rfl,Wk.refl _,StSub.refl _, ?_,rfl⟩;try rfl)))
theorem anE :acL 191 (· - ·):=by
  intro a b
  refine aH aD Tryz.func191 (by kernel_rfl) rfl rfl rfl rfl (fun st=> ?_)
  ((apply aqR pk 4);exact rfl;(focus repeat' constructor);(focus repeat' (exact All.nil)))
  refine fC ?_
  iterate 2 (apply gI aD;iterate 4 exact rfl)
  (apply awB;iterate 5 exact rfl)
  (apply gI aD;iterate 4 exact rfl)
  refine nA ?_
  (try (apply wO pk;exact rfl));(repeat' (first|(show All _;constructor)|(refine aB ?_;refine ⟨_,_,_,rfl,Wk.refl _,StSub.refl _, ?_,rfl⟩;try rfl)))
theorem amQ :acL 192 (· * ·):=by
  intro a b
  refine aH aD Tryz.func192 (by kernel_rfl) rfl rfl rfl rfl (fun st=> ?_)
  ((apply aqR pk 4);exact rfl;(focus repeat' constructor);(focus repeat' (exact All.nil)))
  refine fC ?_
  iterate 2 (apply gI aD;iterate 4 exact rfl)
  (apply avR;iterate 5 exact rfl)
  (apply gI aD;iterate 4 exact rfl)
  refine nA ?_
  (try (apply wO pk;exact rfl));(repeat' (first|(show All _;constructor)|(refine aB ?_;refine ⟨_,_,_,rfl,Wk.refl _,StSub.refl _, ?_,rfl⟩;try rfl)))
def lim (n:Int):Prop:= -4611686018427387904≤n∧n≤4611686018427387904
def amO (op:Int→Int→Int) (a b:Int):Bool:=(((decide (max a (0-a)>0)&&decide (max b (0-b)>0))&&decide (IntKind.wrap .i64 (op 1 1)=1))&&decide (max a (0-a)>1099511627776/max b (0-b)))
def lR (op:Int→Int→Int) (a b:Int):Bool:=(amO op a b||decide (IntKind.wrap .i64 (op a b)>1099511627776))||decide (IntKind.wrap .i64 (op a b)< -1099511627776)
theorem aoM {f:FuncId} {op:Int→Int→Int} (hf:acL f op) {k n:Int} {b:ByteArray} {k' n':Int} {b':ByteArray} (h1:lim n) (h2:lim n'):PF Tryz.prog 230 [.agg [(PV.val (Value.int .i64 (k))),(PV.val (Value.int .i64 (n))),(PV.val (Value.string (b)))], .agg [(PV.val (Value.int .i64 (k'))),(PV.val (Value.int .i64 (n'))),(PV.val (Value.string (b')))], .rp [.fn f []]]
    (if lR op n n' then .tup [.agg [(PV.val (Value.int .i64 (0))),(PV.val (Value.int .i64 (0))),(PV.val (Value.string (e0)))],(PV.val (Value.int .i64 (20)))] else .tup [.agg [(PV.val (Value.int .i64 (1))),(PV.val (Value.int .i64 (IntKind.wrap .i64 (op n n')))),(PV.val (Value.string (e0)))],(PV.val (Value.int .i64 (0)))]):=by
  obtain ⟨h1,h1'⟩:=h1
  obtain ⟨h2,h2'⟩:=h2
  have e1:=hf 1 1
  have e2:=hf n n'
  have hfin:lR op n n'=((amO op n n'||decide (IntKind.wrap .i64 (op n n')>1099511627776))||decide (IntKind.wrap .i64 (op n n')< -1099511627776)):=rfl
  unfold amO at hfin
  generalize lR op n n'=R at*
  refine aH aD Tryz.func230 (by kernel_rfl) rfl rfl rfl rfl (fun st=> ?_)
  (try (apply wO pk;exact rfl));(repeat' (first|(show All _;constructor)|(show Imp _ _;constructor)|(show ImpX _ _ _ _;constructor)|(apply wC pk;(iterate 2 exact rfl))|(apply wE pk;(iterate 2 exact rfl))|(apply wD pk [] [];kernel_rfl;exact rfl;exact rfl)|(refine aA rfl (fun h=> ?_) (fun h=> ?_)<;>(try simp at h)<;>try (exfalso;omega))|(refine aB ?_;refine ⟨_,_,_,rfl,Wk.refl _,StSub.refl _, ?_,rfl⟩;try first|rfl|((first|(rw [show R=true from by rw [hfin];simpa using h];rfl)|(rw [show R=false from by rw [hfin];simpa using h];rfl));done))|(apply aI;(iterate 3 exact rfl);(intro _;(first|apply e1|apply e2|apply dA)<;>first|assumption|omega);rotate_left;(iterate 2 exact rfl))|((intro h;(have h:=(aAV h).2);(simp only [Bool.and_eq_true,decide_eq_true_eq] at h);omega))|(intros;(try simp only [zql]);omega)))
def cS (r:Vl×Int):PV:= .tup [.agg [(PV.val (Value.int .i64 (r.1.kind))),(PV.val (Value.int .i64 (r.1.n))),(PV.val (Value.string (r.1.s)))],(PV.val (Value.int .i64 (r.2)))]
def vN (n:Int):Vl:=⟨1,n,e0⟩
def dV (b:Bool):Vl:=vN (if b then 1 else 0)
def afS (f:FuncId) (caps:List PV) (r:Vl→Vl→Vl×Int):Prop:=
  ∀k n b k' n' b',lim n→lim n'→PF Tryz.prog f ([.agg [(PV.val (Value.int .i64 (k))),(PV.val (Value.int .i64 (n))),(PV.val (Value.string (b)))], .agg [(PV.val (Value.int .i64 (k'))),(PV.val (Value.int .i64 (n'))),(PV.val (Value.string (b')))]]++caps) (cS (r ⟨k,n,b⟩ ⟨k',n',b'⟩))
def ayH (f:FuncId) (op:Vl→Vl→Bool):Prop:=∀{k n b k' n' b'},PF Tryz.prog f [.agg [(PV.val (Value.int .i64 (k))),(PV.val (Value.int .i64 (n))),(PV.val (Value.string (b)))], .agg [(PV.val (Value.int .i64 (k'))),(PV.val (Value.int .i64 (n'))),(PV.val (Value.string (b')))]] (PV.val (Value.bool (op ⟨k,n,b⟩ ⟨k',n',b'⟩)))
def azM (f:FuncId) (op:Vl→Bool):Prop:=∀{k n b},PF Tryz.prog f [.agg [(PV.val (Value.int .i64 (k))),(PV.val (Value.int .i64 (n))),(PV.val (Value.string (b)))]] (PV.val (Value.bool (op ⟨k,n,b⟩)))
def lM (op:Int→Int→Int) (a b:Vl):Vl×Int:=if lR op a.n b.n then (v0,20) else (vN (IntKind.wrap .i64 (op a.n b.n)),0)
theorem qX {f:FuncId} {op:Int→Int→Int} (hf:acL f op):afS 230 [.rp [.fn f []]] (lM op):=by
  intro k n b k' n' b' h1 h2
  have:=aoM hf (k:=k) (b:=b) (k':=k') (b':=b') h1 h2
  unfold lM
  simp only
  split at this
  · rename_i h;rw [if_pos h];exact this
  · rename_i h;rw [if_neg h];exact this
theorem zK {f:FuncId} {op:Vl→Vl→Bool} (hf:ayH f op):afS 232 [.rp [.fn f []]] (fun a b=>(dV (op a b),0)):=by
  intro k n b k' n' b' h1 h2
  have e1:= @hf k n b k' n' b'
  refine aH aD Tryz.func232 (by kernel_rfl) rfl rfl rfl rfl (fun st=> ?_)
  (try (apply wO pk;exact rfl));(repeat' (first|(show All _;constructor)|(show Imp _ _;constructor)|(apply wE pk;(iterate 2 exact rfl))|(refine aB ?_;refine ⟨_,_,_,rfl,Wk.refl _,StSub.refl _, ?_,rfl⟩;try rfl)|(apply aI;(iterate 3 exact rfl);(intro _;(first|apply e1|apply pH)<;>first|assumption|omega);rotate_left;(iterate 2 exact rfl))))
def fQ (r:Vl→Vl→Vl×Int) (a b:Vl):Vl×Int:=if (decide (a.kind=0)||decide (b.kind=0)) then (v0,0) else r a b
theorem gF {f:FuncId} {caps:List PV} {r:Vl→Vl→Vl×Int} (hf:afS f caps r):afS 234 [.rp [.fn f caps]] (fQ r):=by
  intro k n b k' n' b' h1 h2
  have e1:=hf k n b k' n' b' h1 h2
  have hd:fQ r ⟨k,n,b⟩ ⟨k',n',b'⟩=if (decide (k=0)||decide (k'=0)) then (v0,0) else r ⟨k,n,b⟩ ⟨k',n',b'⟩:=rfl
  generalize fQ r ⟨k,n,b⟩ ⟨k',n',b'⟩=R at*
  generalize r ⟨k,n,b⟩ ⟨k',n',b'⟩=R0 at*
  unfold cS at e1⊢
  refine aH aD Tryz.func234 (by kernel_rfl) rfl rfl rfl rfl (fun st=> ?_)
  (try (apply wO pk;exact rfl));(repeat' (first|(show All _;constructor)|(show Imp _ _;constructor)|(show ImpX _ _ _ _;constructor)|(apply wC pk;(iterate 2 exact rfl))|(apply wE pk;(iterate 2 exact rfl))|(refine aA rfl (fun h=> ?_) (fun h=> ?_)<;>(try simp at h)<;>try (exfalso;omega))|(refine aB ?_;refine ⟨_,_,_,rfl,Wk.refl _,StSub.refl _, ?_,rfl⟩;try first|rfl|(((simp [*,v0];done));done))|(apply aI;(iterate 3 exact rfl);(intro _;(first|apply e1|apply qY)<;>first|assumption|omega);rotate_left;(iterate 2 exact rfl))))
def sQ (op:Vl→Bool) (so:Int) (a b:Vl):Vl×Int:=if (op a||op b) then (vN so,0) else if (decide (a.kind=0)||decide (b.kind=0)) then (v0,0) else (vN (1-so),0)
theorem vM {f:FuncId} {op:Vl→Bool} (hf:azM f op) {so:Int} (h0:0≤so) (h1:so≤1):afS 233 [.rp [.fn f []], .rp [(PV.val (Value.int .i64 (so)))]] (sQ op so):=by
  intro k n b k' n' b' _ _
  have e1:= @hf k n b
  have e2:= @hf k' n' b'
  have hd:sQ op so ⟨k,n,b⟩ ⟨k',n',b'⟩=if (op ⟨k,n,b⟩||op ⟨k',n',b'⟩) then (vN so,0) else if (decide (k=0)||decide (k'=0)) then (v0,0) else (vN (1-so),0):=rfl
  generalize sQ op so ⟨k,n,b⟩ ⟨k',n',b'⟩=R at*
  generalize op ⟨k,n,b⟩=A at*
  generalize op ⟨k',n',b'⟩=B at*
  unfold cS
  refine aH aD Tryz.func233 (by kernel_rfl) rfl rfl rfl rfl (fun st=> ?_)
  (try (apply wO pk;exact rfl));(repeat' (first|(show All _;constructor)|(show Imp _ _;constructor)|(show ImpX _ _ _ _;constructor)|(apply wC pk;(iterate 2 exact rfl))|(apply wE pk;(iterate 2 exact rfl))|(refine aA rfl (fun h=> ?_) (fun h=> ?_)<;>(try simp at h)<;>try (exfalso;omega))|(refine aB ?_;refine ⟨_,_,_,rfl,Wk.refl _,StSub.refl _, ?_,rfl⟩;try first|rfl|(((simp [*,v0,vN];done));done))|(apply aI;(iterate 3 exact rfl);(intro _;(first|apply e1|apply e2|apply qY|apply dA)<;>first|assumption|omega);rotate_left;(iterate 2 exact rfl))|(intros;(try simp only [zql]);omega)))
theorem arT :afS 200 [] (fun a _=>(dV (decide (a.n=0)),0)):=fun _ _ _ _ _ _ _ _=>arE
theorem adV :afS 202 [] (fun a _=>(dV (decide (a.kind=0)),0)):=fun _ _ _ _ _ _ _ _=>afA
theorem xH {p:FuncId} {caps:List PV}:PF Tryz.prog 199 [.fn p caps] (.fn 234 [.rp [.fn p caps]]):=by
  refine aH aD Tryz.func199 (by kernel_rfl) rfl rfl rfl rfl (fun st=> ?_)
  (try (apply wO pk;exact rfl));(repeat' (first|(show All _;constructor)|(apply wE pk;(iterate 2 exact rfl))|(refine aB ?_;refine ⟨_,_,_,rfl,Wk.refl _,StSub.refl _, ?_,rfl⟩;try rfl)|(apply cH 1;exact rfl;exact rfl)))
theorem agS {f:FuncId}:PF Tryz.prog 189 [.fn f []] (.agg [(PV.val (Value.int .i64 (2))),(PV.val (Value.bool (true))), .fn 234 [.rp [.fn 230 [.rp [.fn f []]]]]]):=by
  refine aH aD Tryz.func189 (by kernel_rfl) rfl rfl rfl rfl (fun st=> ?_)
  (try (apply wO pk;exact rfl));(repeat' (first|(show All _;constructor)|(show Imp _ _;constructor)|(apply wE pk;(iterate 2 exact rfl))|(refine aB ?_;refine ⟨_,_,_,rfl,Wk.refl _,StSub.refl _, ?_,rfl⟩;try rfl)|(apply aI;(iterate 3 exact rfl);(intro _;apply xH<;>first|assumption|omega);rotate_left;(iterate 2 exact rfl))|(apply cH 1;exact rfl;exact rfl)))
theorem awC {f:FuncId}:PF Tryz.prog 193 [.fn f []] (.agg [(PV.val (Value.int .i64 (2))),(PV.val (Value.bool (false))), .fn 234 [.rp [.fn 232 [.rp [.fn f []]]]]]):=by
  refine aH aD Tryz.func193 (by kernel_rfl) rfl rfl rfl rfl (fun st=> ?_)
  (try (apply wO pk;exact rfl));(repeat' (first|(show All _;constructor)|(show Imp _ _;constructor)|(apply wE pk;(iterate 2 exact rfl))|(refine aB ?_;refine ⟨_,_,_,rfl,Wk.refl _,StSub.refl _, ?_,rfl⟩;try rfl)|(apply aI;(iterate 3 exact rfl);(intro _;apply xH<;>first|assumption|omega);rotate_left;(iterate 2 exact rfl))|(apply cH 1;exact rfl;exact rfl)))
theorem atE {f:FuncId} {so:Int}:PF Tryz.prog 196 [.fn f [],(PV.val (Value.int .i64 (so)))] (.agg [(PV.val (Value.int .i64 (2))),(PV.val (Value.bool (true))), .fn 233 [.rp [.fn f []], .rp [(PV.val (Value.int .i64 (so)))]]]):=by
  refine aH aD Tryz.func196 (by kernel_rfl) rfl rfl rfl rfl (fun st=> ?_)
  (try (apply wO pk;exact rfl));(repeat' (first|(show All _;constructor)|(apply wE pk;(iterate 2 exact rfl))|(refine aB ?_;refine ⟨_,_,_,rfl,Wk.refl _,StSub.refl _, ?_,rfl⟩;try rfl)|((apply cH 2;exact rfl;exact rfl))|((apply cH 3;exact rfl;exact rfl))))
end Go.Proofs.YtcglimangneafaaGreatDoor.X
namespace Go.Proofs.YtcglimangneafaaGreatDoor.X
open Go Go.Abs
attribute [local irreducible] Ev PWp
set_option maxRecDepth 10000
def apY (f:FuncId):PV:= .agg [(PV.val (Value.int .i64 (2))),(PV.val (Value.bool (true))), .fn 234 [.rp [.fn 230 [.rp [.fn f []]]]]]
def azN (f:FuncId):PV:= .agg [(PV.val (Value.int .i64 (2))),(PV.val (Value.bool (false))), .fn 234 [.rp [.fn 232 [.rp [.fn f []]]]]]
def axO (f:FuncId) (so:Int):PV:= .agg [(PV.val (Value.int .i64 (2))),(PV.val (Value.bool (true))), .fn 233 [.rp [.fn f []], .rp [(PV.val (Value.int .i64 (so)))]]]
def nG :List (Value×PV):=[(.int .i64 2,apY 190),(.int .i64 3,apY 191),(.int .i64 4,apY 192),(.int .i64 5,azN 194),(.int .i64 6,azN 195),(.int .i64 7,axO 197 0),(.int .i64 8,axO 198 1),
  (.int .i64 9, .agg [(PV.val (Value.int .i64 (1))),(PV.val (Value.bool (true))), .fn 234 [.rp [.fn 200 []]]]),(.int .i64 10, .agg [(PV.val (Value.int .i64 (1))),(PV.val (Value.bool (false))), .fn 202 []])]
theorem dJ :PF Tryz.prog 145 [] (.fmap nG):=by
  refine aH aD Tryz.func145 (by kernel_rfl) rfl rfl rfl rfl (fun st=> ?_)
  focus ((try (apply wO pk;exact rfl));(repeat' (first|((apply oO 0;exact rfl;exact aC _ _ _))|((refine aB ?_;exact ⟨_,_,st,rfl,Wk.refl _,StSub.via id hid (fun j h=>by repeat (first|refine Eq.trans (aG h) ?_|exact rfl)),rfl,rfl⟩))|(show All _;constructor)|(show Imp _ _;constructor)|(apply wE pk;(iterate 2 exact rfl))|(apply aI;(iterate 3 exact rfl);(intro _;(first|apply agS|apply awC|apply atE|apply xH)<;>first|assumption|omega);rotate_left;(iterate 2 exact rfl))|((refine xB rfl (fun id hid=> ?_)))|((apply amH aD;exact .inl rfl;(iterate 7 exact rfl);exact aC _ _ _;exact rfl)))))
def eqV (a b:Vl):Bool:=decide (a.kind=b.kind)&&(decide (a.n=b.n)&&decide (a.s=b.s))
def cA (a b:Vl):Bool:=decide (a.n<b.n)||tM a.s b.s
def cT (k:Int):Int:=if k=9∨k=10 then 1 else 2
def fR (k:Int):Bool:= !decide (k=5∨k=6∨k=10)
def jK (k:Int) (a b:Vl):Vl×Int:=
  if k=2 then fQ (lM (· + ·)) a b else if k=3 then fQ (lM (· - ·)) a b else if k=4 then fQ (lM (· * ·)) a b
  else if k=5 then fQ (fun a b=>(dV (eqV a b),0)) a b else if k=6 then fQ (fun a b=>(dV (cA a b),0)) a b
  else if k=7 then sQ aeB 0 a b else if k=8 then sQ ayR 1 a b
  else if k=9 then fQ (fun a _=>(dV (decide (a.n=0)),0)) a b else (dV (decide (a.kind=0)),0)
theorem uM {k:Int} (h1:2≤k) (h2:k≤10):∃f caps,iG tt 171 nG (.int .i64 k) false=some (.agg [(PV.val (Value.int .i64 (cT k))),(PV.val (Value.bool (fR k))), .fn f caps])∧afS f caps (jK k):=by
  have:k=2∨k=3∨k=4∨k=5∨k=6∨k=7∨k=8∨k=9∨k=10:=by omega
  rcases this with rfl|rfl|rfl|rfl|rfl|rfl|rfl|rfl|rfl
  · exact ⟨_,_,rfl,gF (qX anZ)⟩
  · exact ⟨_,_,rfl,gF (qX anE)⟩
  · exact ⟨_,_,rfl,gF (qX amQ)⟩
  · exact ⟨_,_,rfl,gF (zK (op:=eqV) (fun {_ _ _ _ _ _}=>auM))⟩
  · exact ⟨_,_,rfl,gF (zK (op:=cA) (fun {_ _ _ _ _ _}=>nI))⟩
  · exact ⟨_,_,rfl,vM (op:=aeB) (fun {_ _ _}=>anQ) (by omega) (by omega)⟩
  · exact ⟨_,_,rfl,vM (op:=ayR) (fun {_ _ _}=>arB) (by omega) (by omega)⟩
  · exact ⟨_,_,rfl,gF arT⟩
  · exact ⟨_,_,rfl,adV⟩
theorem arZ {k:Int} (h1:2≤k) (h2:k≤10):∃f caps,iG tt 171 nG (.int .i64 k) true=some (.tup [.agg [(PV.val (Value.int .i64 (cT k))),(PV.val (Value.bool (fR k))), .fn f caps],(PV.val (Value.bool (true)))]):=by
  have:k=2∨k=3∨k=4∨k=5∨k=6∨k=7∨k=8∨k=9∨k=10:=by omega
  rcases this with rfl|rfl|rfl|rfl|rfl|rfl|rfl|rfl|rfl<;>exact ⟨_,_,rfl⟩
theorem alO {k:Int} (h:¬(2≤k∧k≤10)):iG tt 171 nG (.int .i64 k) true=some (.tup [.agg [(PV.val (Value.int .i64 (0))),(PV.val (Value.bool (false))), .val .nilFunc],(PV.val (Value.bool (false)))]):=by
  have hf:xI (.int .i64 k) nG=some none:=by
    unfold nG
    simp only [xI,pY,lL,zqt]
    have e2:¬k=2:=by omega
    have e3:¬k=3:=by omega
    have e4:¬k=4:=by omega
    have e5:¬k=5:=by omega
    have e6:¬k=6:=by omega
    have e7:¬k=7:=by omega
    have e8:¬k=8:=by omega
    have e9:¬k=9:=by omega
    have e10:¬k=10:=by omega
    simp [e2,e3,e4,e5,e6,e7,e8,e9,e10]
  unfold iG
  rw [hf]
  rfl
end Go.Proofs.YtcglimangneafaaGreatDoor.X
namespace Go.Proofs.YtcglimangneafaaGreatDoor.X
open Go Go.Abs
attribute [local irreducible] Ev PWp
set_option maxRecDepth 10000
set_option maxHeartbeats 2000000
theorem asO {α:Type} {l:List α} {i:Nat} {x:α} {p:α→Bool} (h:l[i]?=some x):(l.take (i+1)).any p=((l.take i).any p||p x):=by
  obtain ⟨hl,rfl⟩:=List.getElem?_eq_some_iff.1 h
  rw [List.take_succ_eq_append_getElem hl,List.any_append]
  simp
theorem aeN {α:Type} {l:List α} {i:Nat} {x:α} {p:α→Bool} (h:l[i]?=some x):(l.take (i+1)).all p=((l.take i).all p&&p x):=by
  obtain ⟨hl,rfl⟩:=List.getElem?_eq_some_iff.1 h
  rw [List.take_succ_eq_append_getElem hl,List.all_append]
  simp
theorem ayF {α:Type} {l:List α} {i:Nat} {x:α} {p:α→Bool} (h:l[i]?=some x) (hp:p x=true):l.any p=true:=
  List.any_eq_true.2 ⟨x,List.mem_of_getElem? h,hp⟩
theorem akP {α:Type} {l:List α} {i:Nat} {x:α} {p:α→Bool} (h:l[i]?=some x) (hp:p x=false):l.all p=false:=by
  cases ha:l.all p with
  |false=>rfl
  |true=>rw [List.all_eq_true] at ha;have:=ha x (List.mem_of_getElem? h);rw [hp] at this;cases this
theorem qP {α:Type} {l:List α} {i:Nat} (h:¬i<l.length):l.take i=l:=List.take_of_length_le (by omega)
def dF :Nat→Ex→Bool
  |0,_=>true
  |l+1,e=>e.of.any (dF l)
theorem amF :∀(left:Nat) (e:Ex) (z:Int),z=(left:Nat)→left≤1000→e.ok→PF Tryz.prog 142 [.agg e.cells,(PV.val (Value.int .i64 (z)))] (PV.val (Value.bool (dF left e))):=by
  intro left
  induction left with
  |zero=>
    intro e z hz _ _
    subst hz
    obtain ⟨k,n,v,of⟩:=e
    refine aH aD Tryz.func142 (by kernel_rfl) rfl rfl rfl rfl (fun st=> ?_)
    (try (apply wO pk;exact rfl));(repeat' (first|(show All _;constructor)|(apply wC pk;(iterate 2 exact rfl))|(refine aA rfl (fun h=> ?_) (fun h=> ?_)<;>(try simp at h)<;>try (exfalso;omega))|(refine aB ?_;refine ⟨_,_,_,rfl,Wk.refl _,StSub.refl _, ?_,rfl⟩;try rfl)))
  |succ left ih=>
    intro e z hz hl hok
    subst hz
    obtain ⟨k,n,v,of⟩:=e
    simp only [Ex.ok] at hok
    have hlen:=Ex.rows_len of
    refine aH aD Tryz.func142 (by kernel_rfl) rfl rfl rfl rfl (fun st=> ?_)
    focus ((try (apply wO pk;exact rfl));(repeat' (first|(show All _;constructor)|(apply wC pk;(iterate 2 exact rfl))|(refine aA rfl (fun h=> ?_) (fun h=> ?_)<;>(try simp at h)<;>try (exfalso;omega)))))
    refine aJ (X:={i:Nat//i≤of.length∧(of.take i).any (dF left)=false}) (fun i=>(((((St.nil 21 st).pv 1 ((PV.val (Value.int .i64 ((left+1:Nat)))))).pv 10 (.seq (Ex.rows of))).pv 11 ((PV.val (Value.int .i64 (((Ex.rows of).length:Nat)))))).pv 12 ((PV.val (Value.int .i64 ((i.1:Nat))))))) (fun i=>of.length-i.1) ⟨0,by omega,by simp⟩ ?_ (fun i=> ?_)
    · ((repeat (refine Sub.pv ?_ rfl));exact Sub.nil _ _ _ (StSub.refl _) rfl)
    obtain ⟨i,hi,hany⟩:=i
    dsimp only
    by_cases hend:of.length≤i
    · rw [qP (by omega)] at hany
      have e:dF (left+1) (.mk k n v of)=false:=hany
      (try (apply wO pk;exact rfl));(repeat' (first|(show All _;constructor)|(apply wC pk;(iterate 2 exact rfl))|(refine aA rfl (fun h=> ?_) (fun h=> ?_)<;>(try simp at h)<;>try (exfalso;omega))|(refine aB ?_;refine ⟨_,_,_,rfl,Wk.refl _,StSub.refl _, ?_,rfl⟩;try first|rfl|((rw [e]);done))))
    obtain ⟨x,hx⟩:=eT (l:=of) (i:=i) (by omega)
    have hrow:=Ex.rows_get hx
    have hxo:=Ex.oks_mem hok.2 (List.mem_of_getElem? hx)
    have hup:=asO (p:=dF left) hx
    have hyes:dF left x=true→dF (left+1) (.mk k n v of)=true:=fun h=>ayF hx h
    have hd:=ih x (left:Nat) rfl (by omega) hxo
    generalize dF left x=D at*
    obtain ⟨k',n',v',of'⟩:=x
    have hd':∀z:Int,z=(left:Nat)→PF Tryz.prog 142 [.agg (Ex.mk k' n' v' of').cells,(PV.val (Value.int .i64 (z)))] (PV.val (Value.bool (D))):=fun z hz=>hz▸hd
    cases D with
    |true=>
      have e:=hyes rfl
      (try (apply wO pk;exact rfl));(repeat' (first|(show All _;constructor)|(show Imp _ _;constructor)|(apply wC pk;(iterate 2 exact rfl))|(apply wE pk;(iterate 2 exact rfl))|(refine aA rfl (fun h=> ?_) (fun h=> ?_)<;>(try simp at h)<;>try (exfalso;omega))|(refine aB ?_;refine ⟨_,_,_,rfl,Wk.refl _,StSub.refl _, ?_,rfl⟩;try first|rfl|((rw [e]);done))|(apply aI;(iterate 3 exact rfl);(intro _;apply hd'<;>first|assumption|omega);rotate_left;(iterate 2 exact rfl))|(apply aM pk;(iterate 6 exact rfl);rotate_left;exact rfl;(intro hw;exact rfl);(intro hw;apply hrow<;>omega);(intro _;exact (Ex.cells_len _));exact rfl)|(intros;(try simp only [zql]);omega)))
    |false=>
      rw [hany] at hup
      (try (apply wO pk;exact rfl));(repeat' (first|(show All _;constructor)|(show Imp _ _;constructor)|(apply wC pk;(iterate 2 exact rfl))|(apply wE pk;(iterate 2 exact rfl))|(refine aA rfl (fun h=> ?_) (fun h=> ?_)<;>(try simp at h)<;>try (exfalso;omega))|(apply aI;(iterate 3 exact rfl);(intro _;apply hd'<;>first|assumption|omega);rotate_left;(iterate 2 exact rfl))|(apply aM pk;(iterate 6 exact rfl);rotate_left;exact rfl;(intro hw;exact rfl);(intro hw;apply hrow<;>omega);(intro _;exact (Ex.cells_len _));exact rfl)|(refine ⟨⟨i+1,by omega,hup⟩, ?_,by simp only;omega⟩;((repeat (refine Sub.pv ?_ rfl));exact Sub.nil _ _ _ (StSub.refl _) rfl))|(intros;(try simp only [zql]);omega)))
end Go.Proofs.YtcglimangneafaaGreatDoor.X
namespace Go.Proofs.YtcglimangneafaaGreatDoor.X
open Go Go.Abs
attribute [local irreducible] Ev PWp
set_option maxRecDepth 10000
set_option maxHeartbeats 4000000
def vz (v:Vl):Bool:=decide (v.kind=0)&&(decide (v.n=0)&&decide (v.s=e0))
def dR (k n:Int) (v:Vl) (l:Int):Bool:=
  if k=0 then (decide (n≥0)&&vz v)&&decide (l=0)
  else if k=1 then (decide (n=0)&&rightV v)&&decide (l=0)
  else decide (2≤k∧k≤10)&&decide (n=0)&&vz v&&decide (l=cT k)
mutual
def aY :Ex→Bool
  | .mk k n v o=>dR k n v o.length&&(decide (k=0)||decide (k=1)||lY o)
def lY :List Ex→Bool
  |[]=>true
  |e::es=>aY e&&lY es
end
theorem iD :∀l,lY l=l.all aY
  |[]=>rfl
  |e::es=>by simp [lY,iD es]
mutual
theorem jL :∀(e:Ex),e.ok→PF Tryz.prog 143 [.agg e.cells] (PV.val (Value.bool (aY e)))
  | .mk k n v of,hok=>by
    simp only [Ex.ok] at hok
    have ih:=pO of
    have hlen:=Ex.rows_len of
    obtain ⟨v1,v2,v3⟩:=v
    have hrs:= @right_spec v1 v2 v3
    by_cases hk:2≤k∧k≤10
    · obtain ⟨f,caps,hlook⟩:=arZ hk.1 hk.2
      have hk0:¬k=0:=by omega
      have hk1:¬k=1:=by omega
      have hhead:aY (.mk k n ⟨v1,v2,v3⟩ of)=(dR k n ⟨v1,v2,v3⟩ of.length&&lY of):=by simp [aY,hk0,hk1]
      have hF:dR k n ⟨v1,v2,v3⟩ of.length=(decide (n=0)&&vz ⟨v1,v2,v3⟩&&decide ((of.length:Int)=cT k)):=by simp [dR,hk0,hk1,hk]
      by_cases hh:n=0∧(v1=0∧v2=0∧v3=e0)∧(of.length:Int)=cT k
      · have hF1:dR k n ⟨v1,v2,v3⟩ of.length=true:=by rw [hF];simp [vz,hh]
        rw [hF1,Bool.true_and,iD] at hhead
        refine aH aD Tryz.func143 (by kernel_rfl) rfl rfl rfl rfl (fun st=> ?_)
        focus ((try (apply wO pk;exact rfl));(repeat' (first|(show All _;constructor)|(show Imp _ _;constructor)|(show ImpX _ _ _ _;constructor)|(apply wC pk;(iterate 2 exact rfl))|(apply wE pk;(iterate 2 exact rfl))|(apply wD pk [] [];kernel_rfl;exact rfl;exact rfl)|(refine aA rfl (fun h=> ?_) (fun h=> ?_)<;>(try simp at h)<;>try (exfalso;omega))|(refine aB ?_;refine ⟨_,_,_,rfl,Wk.refl _,StSub.refl _, ?_,rfl⟩;try rfl)|(apply aI;(iterate 3 exact rfl);(intro _;apply dJ<;>first|assumption|omega);rotate_left;(iterate 2 exact rfl))|((apply oN pk;(iterate 4 exact rfl);(focus repeat' constructor);exact rfl;exact hlook;exact rfl))|((exfalso;simp_all;done)))))
        refine aJ (X:={i:Nat//i≤of.length∧(of.take i).all aY=true}) (fun i=>((((St.nil 84 st).pv 74 (.seq (Ex.rows of))).pv 75 ((PV.val (Value.int .i64 (((Ex.rows of).length:Nat)))))).pv 76 ((PV.val (Value.int .i64 ((i.1:Nat))))))) (fun i=>of.length-i.1) ⟨0,by omega,by simp⟩ ?_ (fun i=> ?_)
        · ((repeat (refine Sub.pv ?_ rfl));exact Sub.nil _ _ _ (StSub.refl _) rfl)
        obtain ⟨i,hi,hall⟩:=i
        dsimp only
        by_cases hend:of.length≤i
        · rw [qP (by omega)] at hall
          rw [hall] at hhead
          (try (apply wO pk;exact rfl));(repeat' (first|(show All _;constructor)|(apply wC pk;(iterate 2 exact rfl))|(refine aA rfl (fun h=> ?_) (fun h=> ?_)<;>(try simp at h)<;>try (exfalso;omega))|(refine aB ?_;refine ⟨_,_,_,rfl,Wk.refl _,StSub.refl _, ?_,rfl⟩;try first|rfl|((rw [hhead]);done))))
        obtain ⟨x,hx⟩:=eT (l:=of) (i:=i) (by omega)
        have hrow:=Ex.rows_get hx
        have hm:=List.mem_of_getElem? hx
        have ihx:=ih x hm (Ex.oks_mem hok.2 hm)
        have hup:=aeN (p:=aY) hx
        have hno:=fun h=>akP (p:=aY) hx h
        generalize aY x=D at*
        obtain ⟨k',n',v',of'⟩:=x
        cases D with
        |false=>
          rw [hno rfl] at hhead
          (try (apply wO pk;exact rfl));(repeat' (first|(show All _;constructor)|(show Imp _ _;constructor)|(apply wC pk;(iterate 2 exact rfl))|(apply wE pk;(iterate 2 exact rfl))|(refine aA rfl (fun h=> ?_) (fun h=> ?_)<;>(try simp at h)<;>try (exfalso;omega))|(refine aB ?_;refine ⟨_,_,_,rfl,Wk.refl _,StSub.refl _, ?_,rfl⟩;try first|rfl|((rw [hhead]);done))|(apply aI;(iterate 3 exact rfl);(intro _;apply ihx<;>first|assumption|omega);rotate_left;(iterate 2 exact rfl))|(apply aM pk;(iterate 6 exact rfl);rotate_left;exact rfl;(intro hw;exact rfl);(intro hw;apply hrow<;>omega);(intro _;exact (Ex.cells_len _));exact rfl)))
        |true=>
          rw [hall] at hup
          (try (apply wO pk;exact rfl));(repeat' (first|(show All _;constructor)|(show Imp _ _;constructor)|(apply wC pk;(iterate 2 exact rfl))|(apply wE pk;(iterate 2 exact rfl))|(refine aA rfl (fun h=> ?_) (fun h=> ?_)<;>(try simp at h)<;>try (exfalso;omega))|(apply aI;(iterate 3 exact rfl);(intro _;apply ihx<;>first|assumption|omega);rotate_left;(iterate 2 exact rfl))|(apply aM pk;(iterate 6 exact rfl);rotate_left;exact rfl;(intro hw;exact rfl);(intro hw;apply hrow<;>omega);(intro _;exact (Ex.cells_len _));exact rfl)|(refine ⟨⟨i+1,by omega,hup⟩, ?_,by simp only;omega⟩;((repeat (refine Sub.pv ?_ rfl));exact Sub.nil _ _ _ (StSub.refl _) rfl))|(intros;(try simp only [zql]);omega)))
      · have hF1:dR k n ⟨v1,v2,v3⟩ of.length=false:=by
          rw [hF,←Bool.not_eq_true]
          simp only [vz,Bool.and_eq_true,decide_eq_true_eq]
          exact fun q=>hh ⟨q.1.1,q.1.2,q.2⟩
        rw [hF1,Bool.false_and] at hhead
        refine aH aD Tryz.func143 (by kernel_rfl) rfl rfl rfl rfl (fun st=> ?_)
        (try (apply wO pk;exact rfl));(repeat' (first|(show All _;constructor)|(show Imp _ _;constructor)|(show ImpX _ _ _ _;constructor)|(apply wC pk;(iterate 2 exact rfl))|(apply wE pk;(iterate 2 exact rfl))|(apply wD pk [] [];kernel_rfl;exact rfl;exact rfl)|(refine aA rfl (fun h=> ?_) (fun h=> ?_)<;>(try simp at h)<;>try (exfalso;omega))|(refine aB ?_;refine ⟨_,_,_,rfl,Wk.refl _,StSub.refl _, ?_,rfl⟩;try first|rfl|((rw [hhead]);done))|(apply aI;(iterate 3 exact rfl);(intro _;apply dJ<;>first|assumption|omega);rotate_left;(iterate 2 exact rfl))|((apply oN pk;(iterate 4 exact rfl);(focus repeat' constructor);exact rfl;exact hlook;exact rfl))|((exfalso;simp_all;done))))
    · have hlook:=alO hk
      by_cases hk0:k=0
      · subst hk0
        have e:aY (.mk 0 n ⟨v1,v2,v3⟩ of)=((decide (n≥0)&&(decide (v1=0)&&(decide (v2=0)&&decide (v3=e0))))&&decide ((of.length:Int)=0)):=by simp [aY,dR,vz]
        refine aH aD Tryz.func143 (by kernel_rfl) rfl rfl rfl rfl (fun st=> ?_)
        (try (apply wO pk;exact rfl));(repeat' (first|(show All _;constructor)|(show Imp _ _;constructor)|(show ImpX _ _ _ _;constructor)|(apply wC pk;(iterate 2 exact rfl))|(apply wE pk;(iterate 2 exact rfl))|(apply wD pk [] [];kernel_rfl;exact rfl;exact rfl)|(refine aA rfl (fun h=> ?_) (fun h=> ?_)<;>(try simp at h)<;>try (exfalso;omega))|(refine aB ?_;refine ⟨_,_,_,rfl,Wk.refl _,StSub.refl _, ?_,rfl⟩;try first|rfl|(((rw [e,hlen];done));done))|(apply aI;(iterate 3 exact rfl);(intro _;apply dJ<;>first|assumption|omega);rotate_left;(iterate 2 exact rfl))|((apply oN pk;(iterate 4 exact rfl);(focus repeat' constructor);exact rfl;exact hlook;exact rfl))))
      by_cases hk1:k=1
      · subst hk1
        have e:aY (.mk 1 n ⟨v1,v2,v3⟩ of)=((decide (n=0)&&rightV ⟨v1,v2,v3⟩)&&decide ((of.length:Int)=0)):=by simp [aY,dR]
        generalize rightV ⟨v1,v2,v3⟩=R at*
        refine aH aD Tryz.func143 (by kernel_rfl) rfl rfl rfl rfl (fun st=> ?_)
        (try (apply wO pk;exact rfl));(repeat' (first|(show All _;constructor)|(show Imp _ _;constructor)|(show ImpX _ _ _ _;constructor)|(apply wC pk;(iterate 2 exact rfl))|(apply wE pk;(iterate 2 exact rfl))|(apply wD pk [] [];kernel_rfl;exact rfl;exact rfl)|(refine aA rfl (fun h=> ?_) (fun h=> ?_)<;>(try simp at h)<;>try (exfalso;omega))|(refine aB ?_;refine ⟨_,_,_,rfl,Wk.refl _,StSub.refl _, ?_,rfl⟩;try first|rfl|(((rw [e,hlen];done));done))|(apply aI;(iterate 3 exact rfl);(intro _;(first|apply dJ|apply hrs)<;>first|assumption|omega);rotate_left;(iterate 2 exact rfl))|((apply oN pk;(iterate 4 exact rfl);(focus repeat' constructor);exact rfl;exact hlook;exact rfl))))
      have e:aY (.mk k n ⟨v1,v2,v3⟩ of)=false:=by simp [aY,dR,hk0,hk1,hk]
      refine aH aD Tryz.func143 (by kernel_rfl) rfl rfl rfl rfl (fun st=> ?_)
      (try (apply wO pk;exact rfl));(repeat' (first|(show All _;constructor)|(show Imp _ _;constructor)|(show ImpX _ _ _ _;constructor)|(apply wC pk;(iterate 2 exact rfl))|(apply wE pk;(iterate 2 exact rfl))|(apply wD pk [] [];kernel_rfl;exact rfl;exact rfl)|(refine aA rfl (fun h=> ?_) (fun h=> ?_)<;>(try simp at h)<;>try (exfalso;omega))|(refine aB ?_;refine ⟨_,_,_,rfl,Wk.refl _,StSub.refl _, ?_,rfl⟩;try first|rfl|((rw [e]);done))|(apply aI;(iterate 3 exact rfl);(intro _;apply dJ<;>first|assumption|omega);rotate_left;(iterate 2 exact rfl))|((apply oN pk;(iterate 4 exact rfl);(focus repeat' constructor);exact rfl;exact hlook;exact rfl))))
theorem pO :∀(l:List Ex) (x:Ex),x∈l→x.ok→PF Tryz.prog 143 [.agg x.cells] (PV.val (Value.bool (aY x)))
  |[],_,h,_=>by cases h
  |e::es,x,h,hok=>by
    rcases List.mem_cons.1 h with h|h
    · rw [h] at hok⊢;exact jL e hok
    · exact pO es x h hok
end
end Go.Proofs.YtcglimangneafaaGreatDoor.X
