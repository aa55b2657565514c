import Derived.Test.YtloecjjehapblaaGreatDoorOpAc
import Derived.Test.YtloecjjehapblaaGreatDoorAbsE
set_option linter.unusedSimpArgs false
set_option linter.unusedVariables false
namespace Go.Proofs.YtloecjjehapblaaGreatDoor
open Go Go.Abs
set_option maxRecDepth 10000
set_option maxHeartbeats 4000000
def lX (n:Int):PV:=(PV.val (Value.int .i64 (n)))
def Ie (k:Int):Value:= .int .i64 k
theorem aBq {g:G} (a:Int):VR Tryz.prog g 3 [.val (Ie a)] (Ie a):=⟨λh=>absurd (h.symm.trans (show bJ Tryz.prog 3=false from by kernel_rfl)) (by simp),λ_=>by simp only [RepL];exact ⟨_,[],rfl,by simp [Rep],rfl⟩⟩
theorem zD :KeyOK Tryz.prog 3 Ie (λk=> .val (Ie k)) where
 und:=rfl
 chk k b w:=gH (k:= .int .i64) (by kernel_rfl) rfl rfl b w
 now kd h a b:=by
  have hI:Tryz.prog.underlying 3=some (.int .i64):=by kernel_rfl
  have hkd:kd= .int .i64:=by
   rw [hI] at h
   injection h with h
   exact h.symm
  subst hkd
  right
  simp only [Ie,Instr.sameNow,if_true]
  congr 1
 eq a b w:=by
  have g:G:=⟨#[],λ_=>none,λ_=>0,λ_=>False⟩
  exact iM aF (g:=g) 8 Op.maxDepth (by decide) 3 _ _ _ _ _ (show peq tt 8 3 [.val (Ie a)] [.val (Ie b)]=some (decide (a=b)) from rfl) (by kernel_rfl) (aBq a) (aBq b)
 rp k g v h:=aP h
 bits k:=abB rfl
end Go.Proofs.YtloecjjehapblaaGreatDoor
namespace Go.Proofs.YtloecjjehapblaaGreatDoor.X
open Go Go.Abs
set_option maxRecDepth 10000
set_option maxHeartbeats 4000000
def v0 :Vl:=⟨0,0,e0⟩
inductive Ex where
 |mk (k n:Int) (v:Vl) (of:List Ex)
def Ex.k :Ex->Int| .mk k _ _ _=>k
def Ex.n :Ex->Int| .mk _ n _ _=>n
def Ex.v :Ex->Vl| .mk _ _ v _=>v
def Ex.of :Ex->List Ex| .mk _ _ _ o=>o
mutual
def Ex.cells :Ex->List PV
 | .mk k n v o=>[(PV.val (Value.int .i64 (k))),(PV.val (Value.int .i64 (n))),(PV.val (Value.int .i64 (v.kind))),(PV.val (Value.int .i64 (v.n))),(PV.val (Value.string (v.s))), .seq (Ex.rows o)]
def Ex.rows :List Ex->List (List PV)
 |[]=>[]
 |e::es=>e.cells::Ex.rows es
end
theorem Ex.rows_map :∀l:List Ex,Ex.rows l=l.map Ex.cells
 |[]=>rfl
 |e::es=>by simp [Ex.rows,Ex.rows_map es]
theorem Ex.rows_len :∀(l:List Ex),(Ex.rows l).length=l.length
 |[]=>rfl
 |e::es=>by simp [Ex.rows,Ex.rows_len es]
theorem Ex.rows_get :∀{l:List Ex} {i:Nat} {x:Ex},l[i]?=some x->(Ex.rows l)[i]?=some x.cells
 |[],_,_,h=>by simp at h
 |e::es,0,x,h=>by simp at h;simp [Ex.rows,h]
 |e::es,i+1,x,h=>by simp at h;simpa [Ex.rows] using Ex.rows_get h
theorem Ex.cells_len :∀(x:Ex),x.cells.length=6
 | .mk _ _ _ _=>by simp [Ex.cells]
mutual
def Ex.ok :Ex->Prop
 | .mk _ _ _ o=>o.length<2^62/\Ex.oks o
def Ex.oks :List Ex->Prop
 |[]=>True
 |e::es=>e.ok/\Ex.oks es
end
mutual
theorem Ex.ok_of :∀(e:Ex),mP e.cells->e.ok
 | .mk k n v o,h=>by
  simp only [Ex.cells,mP,lens,Ex.rows_len] at h
  simp only [Ex.ok]
  exact ⟨h.2.2.2.2.2.1.1,Ex.oks_of o h.2.2.2.2.2.1.2⟩
theorem Ex.oks_of :∀(l:List Ex),qU (Ex.rows l)->Ex.oks l
 |[],_=>by simp [Ex.oks]
 |e::es,h=>by
  simp only [Ex.rows,qU] at h
  simp only [Ex.oks]
  exact ⟨Ex.ok_of e h.1,Ex.oks_of es h.2⟩
end
theorem Ex.oks_mem :∀{l:List Ex} {x:Ex},Ex.oks l->x∈l->x.ok
 |[],_,_,hx=>by cases hx
 |e::es,x,h,hx=>by
  simp only [Ex.oks] at h
  rcases zmc.1 hx with rfl|hx
  ·exact h.1
  ·exact Ex.oks_mem h.2 hx
def jW (l:List Int):List (List PV):=l.map I1
theorem adC {l:List Int} {i:Nat} {x:Int} (h:l[i]?=some x):(jW l)[i]?=some [(PV.val (Value.int .i64 (x)))]:=by simp [jW,h,I1]
theorem aeB (l:List Int):(jW l).length=l.length:=by simp [jW]
theorem fM {α:Type} {l:List α} {i:Nat} (h:i<l.length):∃x,l[i]?=some x:=⟨l[i],by simp [h]⟩
end Go.Proofs.YtloecjjehapblaaGreatDoor.X
namespace Go.Proofs.YtloecjjehapblaaGreatDoor.X
open Go Go.Abs
attribute [local irreducible] Ev PWp
set_option maxRecDepth 10000
set_option maxHeartbeats 4000000
theorem uM {k n:Int} {b:ByteArray}:PF Tryz.prog 349 [.agg [(PV.val (Value.int .i64 (k))),(PV.val (Value.int .i64 (n))),(PV.val (Value.string (b)))]] (PV.val (Value.bool (decide (k=0)))):=by
 refine aG aF Tryz.func349 (by kernel_rfl) rfl rfl rfl rfl (λst=> ?_)
 (try apply wO pk;rfl);(repeat' first|show All _;constructor|(refine aC ?_;refine ⟨_,_,_,rfl,zwr _,zsr _, ?_,rfl⟩;try rfl))
def rR (v:Vl):Bool:=if v.kind=0 then decide (v.n=0)&&decide (v.s=e0) else if v.kind=1 then (decide (v.s=e0)&&decide (v.n>= -1099511627776))&&decide (v.n<=1099511627776) else if v.kind=2 then decide (v.n=0)&&decide ((v.s.size:Int)<=200) else false
theorem right_spec {k n:Int} {b:ByteArray}:PF Tryz.prog 335 [.agg [(PV.val (Value.int .i64 (k))),(PV.val (Value.int .i64 (n))),(PV.val (Value.string (b)))]] (PV.val (Value.bool (rR ⟨k,n,b⟩))):=by
 unfold rR
 dsimp only
 by_cases h0:k=0
 ·rw [if_pos h0]
  refine aG aF Tryz.func335 (by kernel_rfl) rfl rfl rfl rfl (λst=> ?_)
  (try apply wO pk;rfl);(repeat' first|show All _;constructor|apply wC pk;rfl;rfl|refine aA rfl ?_ ?_<;>intro h<;>(try simp at h)<;>try omega|(refine aC ?_;refine ⟨_,_,_,rfl,zwr _,zsr _, ?_,rfl⟩;try first|rfl|((simp [h0];done));done))
 by_cases h1:k=1
 ·rw [if_neg h0,if_pos h1]
  refine aG aF Tryz.func335 (by kernel_rfl) rfl rfl rfl rfl (λst=> ?_)
  (try apply wO pk;rfl);(repeat' first|show All _;constructor|show Imp _ _;constructor|show ImpX _ _ _ _;constructor|apply wC pk;rfl;rfl|refine aA rfl ?_ ?_<;>intro h<;>(try simp at h)<;>try omega|(refine aC ?_;refine ⟨_,_,_,rfl,zwr _,zsr _, ?_,rfl⟩;try first|rfl|(fail);done))
 rw [if_neg h0,if_neg h1]
 by_cases h2:k=2
 ·rw [if_pos h2]
  refine aG aF Tryz.func335 (by kernel_rfl) rfl rfl rfl rfl (λst=> ?_)
  (try apply wO pk;rfl);(repeat' first|show All _;constructor|show Imp _ _;constructor|show ImpX _ _ _ _;constructor|apply wC pk;rfl;rfl|refine aA rfl ?_ ?_<;>intro h<;>(try simp at h)<;>try omega|(refine aC ?_;refine ⟨_,_,_,rfl,zwr _,zsr _, ?_,rfl⟩;try first|rfl|(fail);done))
 rw [if_neg h2]
 refine aG aF Tryz.func335 (by kernel_rfl) rfl rfl rfl rfl (λst=> ?_)
 (try apply wO pk;rfl);(repeat' first|show All _;constructor|apply wC pk;rfl;rfl|refine aA rfl ?_ ?_<;>intro h<;>(try simp at h)<;>try omega|(refine aC ?_;refine ⟨_,_,_,rfl,zwr _,zsr _, ?_,rfl⟩;try first|rfl|(fail);done))
theorem dY {n:Int}:PF Tryz.prog 381 [(PV.val (Value.int .i64 (n)))] (.agg [(PV.val (Value.int .i64 (1))),(PV.val (Value.int .i64 (n))),(PV.val (Value.string (e0)))]):=by
 refine aG aF Tryz.func381 (by kernel_rfl) rfl rfl rfl rfl (λst=> ?_)
 (try apply wO pk;rfl);(repeat' first|show All _;constructor|(refine aC ?_;refine ⟨_,_,_,rfl,zwr _,zsr _, ?_,rfl⟩;try rfl))
theorem rZ {x:Bool}:PF Tryz.prog 347 [(PV.val (Value.bool (x)))] (.agg [(PV.val (Value.int .i64 (1))),(PV.val (Value.int .i64 (if x then 1 else 0))),(PV.val (Value.string (e0)))]):=by
 refine aG aF Tryz.func347 (by kernel_rfl) rfl rfl rfl rfl (λst=> ?_)
 (try apply wO pk;rfl);(repeat' first|show All _;constructor|show Imp _ _;constructor|apply wC pk;rfl;rfl|apply wE pk;rfl;rfl|refine aA rfl ?_ ?_<;>intro h<;>(try simp at h)<;>try omega|(refine aC ?_;refine ⟨_,_,_,rfl,zwr _,zsr _, ?_,rfl⟩;try first|rfl|(simp [*];done);done)|(apply aH;rfl;rfl;rfl;(intro _;apply dY<;>first|assumption|omega);rotate_left;rfl;rfl))
def aAv (v:Vl):Bool:=decide (v.kind=1)&&(decide (v.n=0)&&decide (v.s=e0))
def aFc (v:Vl):Bool:=decide (v.kind=1)&& !decide (v.n=0)
theorem awL {k n:Int} {b:ByteArray}:PF Tryz.prog 344 [.agg [(PV.val (Value.int .i64 (k))),(PV.val (Value.int .i64 (n))),(PV.val (Value.string (b)))]] (PV.val (Value.bool (aAv ⟨k,n,b⟩))):=by
 refine aG aF Tryz.func344 (by kernel_rfl) rfl rfl rfl rfl (λst=> ?_)
 (try apply wO pk;rfl);(repeat' first|show All _;constructor|show Imp _ _;constructor|apply wE pk;rfl;rfl|apply wD pk [] [];kernel_rfl;rfl;rfl|(refine aC ?_;refine ⟨_,_,_,rfl,zwr _,zsr _, ?_,rfl⟩;try rfl)|(apply aH;rfl;rfl;rfl;(intro _;apply dY<;>first|assumption|omega);rotate_left;rfl;rfl))
theorem aAj {k n:Int} {b:ByteArray}:PF Tryz.prog 211 [.agg [(PV.val (Value.int .i64 (k))),(PV.val (Value.int .i64 (n))),(PV.val (Value.string (b)))]] (PV.val (Value.bool (aFc ⟨k,n,b⟩))):=by
 refine aG aF Tryz.func211 (by kernel_rfl) rfl rfl rfl rfl (λst=> ?_)
 (try apply wO pk;rfl);(repeat' first|show All _;constructor|show Imp _ _;constructor|show ImpX _ _ _ _;constructor|(refine aC ?_;refine ⟨_,_,_,rfl,zwr _,zsr _, ?_,rfl⟩;try rfl))
theorem aB3 {k n:Int} {b:ByteArray} {k' n':Int} {b':ByteArray}:PF Tryz.prog 341 [.agg [(PV.val (Value.int .i64 (k))),(PV.val (Value.int .i64 (n))),(PV.val (Value.string (b)))], .agg [(PV.val (Value.int .i64 (k'))),(PV.val (Value.int .i64 (n'))),(PV.val (Value.string (b')))]] (PV.val (Value.bool (decide (k=k')&&(decide (n=n')&&decide (b=b'))))):=by
 refine aG aF Tryz.func341 (by kernel_rfl) rfl rfl rfl rfl (λst=> ?_)
 (try apply wO pk;rfl);(repeat' first|show All _;constructor|(refine aC ?_;refine ⟨_,_,_,rfl,zwr _,zsr _, ?_,rfl⟩;try rfl))
def aD7 (a b:ByteArray):Bool:=Op.bytesLess a.toList b.toList
theorem mD {k n:Int} {b:ByteArray} {k' n':Int} {b':ByteArray}:PF Tryz.prog 342 [.agg [(PV.val (Value.int .i64 (k))),(PV.val (Value.int .i64 (n))),(PV.val (Value.string (b)))], .agg [(PV.val (Value.int .i64 (k'))),(PV.val (Value.int .i64 (n'))),(PV.val (Value.string (b')))]] (PV.val (Value.bool (decide (n<n')||aD7 b b'))):=by
 refine aG aF Tryz.func342 (by kernel_rfl) rfl rfl rfl rfl (λst=> ?_)
 (try apply wO pk;rfl);(repeat' first|show All _;constructor|show Imp _ _;constructor|show ImpX _ _ _ _;constructor|(refine aC ?_;refine ⟨_,_,_,rfl,zwr _,zsr _, ?_,rfl⟩;try rfl))
theorem aAm {k n:Int} {b:ByteArray} {k' n':Int} {b':ByteArray}:PF Tryz.prog 346 [.agg [(PV.val (Value.int .i64 (k))),(PV.val (Value.int .i64 (n))),(PV.val (Value.string (b)))], .agg [(PV.val (Value.int .i64 (k'))),(PV.val (Value.int .i64 (n'))),(PV.val (Value.string (b')))]] (.tup [.agg [(PV.val (Value.int .i64 (1))),(PV.val (Value.int .i64 (if decide (n=0) then 1 else 0))),(PV.val (Value.string (e0)))],(PV.val (Value.int .i64 (0)))]):=by
 refine aG aF Tryz.func346 (by kernel_rfl) rfl rfl rfl rfl (λst=> ?_)
 (try apply wO pk;rfl);(repeat' first|show All _;constructor|show Imp _ _;constructor|apply wE pk;rfl;rfl|(refine aC ?_;refine ⟨_,_,_,rfl,zwr _,zsr _, ?_,rfl⟩;try rfl)|(apply aH;rfl;rfl;rfl;(intro _;apply rZ<;>first|assumption|omega);rotate_left;rfl;rfl))
theorem akQ {k n:Int} {b:ByteArray} {k' n':Int} {b':ByteArray}:PF Tryz.prog 348 [.agg [(PV.val (Value.int .i64 (k))),(PV.val (Value.int .i64 (n))),(PV.val (Value.string (b)))], .agg [(PV.val (Value.int .i64 (k'))),(PV.val (Value.int .i64 (n'))),(PV.val (Value.string (b')))]] (.tup [.agg [(PV.val (Value.int .i64 (1))),(PV.val (Value.int .i64 (if decide (k=0) then 1 else 0))),(PV.val (Value.string (e0)))],(PV.val (Value.int .i64 (0)))]):=by
 refine aG aF Tryz.func348 (by kernel_rfl) rfl rfl rfl rfl (λst=> ?_)
 (try apply wO pk;rfl);(repeat' first|show All _;constructor|show Imp _ _;constructor|apply wE pk;rfl;rfl|(refine aC ?_;refine ⟨_,_,_,rfl,zwr _,zsr _, ?_,rfl⟩;try rfl)|(apply aH;rfl;rfl;rfl;(intro _;(first|apply rZ|apply uM)<;>first|assumption|omega);rotate_left;rfl;rfl))
def ahY (f:FuncId) (op:Int->Int->Int):Prop:=∀a b,PF Tryz.prog f [(PV.val (Value.int .i64 (a))),(PV.val (Value.int .i64 (b)))] (PV.val (Value.int .i64 (IntKind.wrap .i64 (op a b))))
theorem awU :ahY 337 (· + ·):=by
 intro a b
 refine aG aF Tryz.func337 (by kernel_rfl) rfl rfl rfl rfl (λst=> ?_)
 ((apply aEM pk 4);rfl;(focus repeat' constructor);(focus repeat' (exact All.nil)))
 refine kC ?_
 iterate 2 (apply lT aF;iterate 4 rfl)
 (apply aCG;iterate 5 rfl)
 (apply lT aF;iterate 4 rfl)
 refine sD ?_
 (try apply wO pk;rfl);(repeat' first|show All _;constructor|(refine aC ?_;refine ⟨_,_,_,rfl,zwr _,zsr _, ?_,rfl⟩;try rfl))
theorem avW :ahY 338 (· - ·):=by
 intro a b
 refine aG aF Tryz.func338 (by kernel_rfl) rfl rfl rfl rfl (λst=> ?_)
 ((apply aEM pk 4);rfl;(focus repeat' constructor);(focus repeat' (exact All.nil)))
 refine kC ?_
 iterate 2 (apply lT aF;iterate 4 rfl)
 (apply aCZ;iterate 5 rfl)
 (apply lT aF;iterate 4 rfl)
 refine sD ?_
 (try apply wO pk;rfl);(repeat' first|show All _;constructor|(refine aC ?_;refine ⟨_,_,_,rfl,zwr _,zsr _, ?_,rfl⟩;try rfl))
theorem avD :ahY 339 (· * ·):=by
 intro a b
 refine aG aF Tryz.func339 (by kernel_rfl) rfl rfl rfl rfl (λst=> ?_)
 ((apply aEM pk 4);rfl;(focus repeat' constructor);(focus repeat' (exact All.nil)))
 refine kC ?_
 iterate 2 (apply lT aF;iterate 4 rfl)
 (apply aCP;iterate 5 rfl)
 (apply lT aF;iterate 4 rfl)
 refine sD ?_
 (try apply wO pk;rfl);(repeat' first|show All _;constructor|(refine aC ?_;refine ⟨_,_,_,rfl,zwr _,zsr _, ?_,rfl⟩;try rfl))
def lim (n:Int):Prop:= -4611686018427387904<=n/\n<=4611686018427387904
def aER (op:Int->Int->Int) (a b:Int):Bool:=(((decide (max a (0-a)>0)&&decide (max b (0-b)>0))&&decide (IntKind.wrap .i64 (op 1 1)=1))&&decide (max a (0-a)>1099511627776/max b (0-b)))
def akI (op:Int->Int->Int) (a b:Int):Bool:=(aER op a b||decide (IntKind.wrap .i64 (op a b)>1099511627776))||decide (IntKind.wrap .i64 (op a b)< -1099511627776)
theorem axK {f:FuncId} {op:Int->Int->Int} (hf:ahY f op) {k n:Int} {b:ByteArray} {k' n':Int} {b':ByteArray} (h1:lim n) (h2:lim n'):PF Tryz.prog 380 [.agg [(PV.val (Value.int .i64 (k))),(PV.val (Value.int .i64 (n))),(PV.val (Value.string (b)))], .agg [(PV.val (Value.int .i64 (k'))),(PV.val (Value.int .i64 (n'))),(PV.val (Value.string (b')))], .rp [.fn f []]]
  (if akI op n n' then .tup [.agg [(PV.val (Value.int .i64 (0))),(PV.val (Value.int .i64 (0))),(PV.val (Value.string (e0)))],(PV.val (Value.int .i64 (20)))] else .tup [.agg [(PV.val (Value.int .i64 (1))),(PV.val (Value.int .i64 (IntKind.wrap .i64 (op n n')))),(PV.val (Value.string (e0)))],(PV.val (Value.int .i64 (0)))]):=by
 obtain ⟨h1,h1'⟩:=h1
 obtain ⟨h2,h2'⟩:=h2
 have e1:=hf 1 1
 have e2:=hf n n'
 have hfin:akI op n n'=((aER op n n'||decide (IntKind.wrap .i64 (op n n')>1099511627776))||decide (IntKind.wrap .i64 (op n n')< -1099511627776)):=rfl
 unfold aER at hfin
 generalize akI op n n'=R at*
 refine aG aF Tryz.func380 (by kernel_rfl) rfl rfl rfl rfl (λst=> ?_)
 (try apply wO pk;rfl);(repeat' first|show All _;constructor|show Imp _ _;constructor|show ImpX _ _ _ _;constructor|apply wC pk;rfl;rfl|apply wE pk;rfl;rfl|apply wD pk [] [];kernel_rfl;rfl;rfl|refine aA rfl ?_ ?_<;>intro h<;>(try simp at h)<;>try omega|(refine aC ?_;refine ⟨_,_,_,rfl,zwr _,zsr _, ?_,rfl⟩;try first|rfl|(first|rw [show R=true from by rw [hfin];simpa using h];rfl|rw [show R=false from by rw [hfin];simpa using h];rfl);done)|(apply aH;rfl;rfl;rfl;(intro _;(first|apply e1|apply e2|apply dY)<;>first|assumption|omega);rotate_left;rfl;rfl)|((intro h;(have h:=(aHi h).2);(simp only [zba,zde] at h);omega))|intros;(try simp only [zql]);omega)
def oB (r:Vl×Int):PV:= .tup [.agg [(PV.val (Value.int .i64 (r.1.kind))),(PV.val (Value.int .i64 (r.1.n))),(PV.val (Value.string (r.1.s)))],(PV.val (Value.int .i64 (r.2)))]
def vN (n:Int):Vl:=⟨1,n,e0⟩
def nW (b:Bool):Vl:=vN (if b then 1 else 0)
def alM (f:FuncId) (caps:List PV) (r:Vl->Vl->Vl×Int):Prop:=
 ∀k n b k' n' b',lim n->lim n'->PF Tryz.prog f ([.agg [(PV.val (Value.int .i64 (k))),(PV.val (Value.int .i64 (n))),(PV.val (Value.string (b)))], .agg [(PV.val (Value.int .i64 (k'))),(PV.val (Value.int .i64 (n'))),(PV.val (Value.string (b')))]]++caps) (oB (r ⟨k,n,b⟩ ⟨k',n',b'⟩))
def aEB (f:FuncId) (op:Vl->Vl->Bool):Prop:=∀{k n b k' n' b'},PF Tryz.prog f [.agg [(PV.val (Value.int .i64 (k))),(PV.val (Value.int .i64 (n))),(PV.val (Value.string (b)))], .agg [(PV.val (Value.int .i64 (k'))),(PV.val (Value.int .i64 (n'))),(PV.val (Value.string (b')))]] (PV.val (Value.bool (op ⟨k,n,b⟩ ⟨k',n',b'⟩)))
def aFK (f:FuncId) (op:Vl->Bool):Prop:=∀{k n b},PF Tryz.prog f [.agg [(PV.val (Value.int .i64 (k))),(PV.val (Value.int .i64 (n))),(PV.val (Value.string (b)))]] (PV.val (Value.bool (op ⟨k,n,b⟩)))
def yR (op:Int->Int->Int) (a b:Vl):Vl×Int:=if akI op a.n b.n then (v0,20) else (vN (IntKind.wrap .i64 (op a.n b.n)),0)
theorem uL {f:FuncId} {op:Int->Int->Int} (hf:ahY f op):alM 380 [.rp [.fn f []]] (yR op):=by
 intro k n b k' n' b' h1 h2
 have:=axK hf (k:=k) (b:=b) (k':=k') (b':=b') h1 h2
 unfold yR
 simp only
 split at this
 ·rename_i h;rw [if_pos h];exact this
 ·rename_i h;rw [if_neg h];exact this
theorem aeC {f:FuncId} {op:Vl->Vl->Bool} (hf:aEB f op):alM 382 [.rp [.fn f []]] (λa b=>(nW (op a b),0)):=by
 intro k n b k' n' b' h1 h2
 have e1:= @hf k n b k' n' b'
 refine aG aF Tryz.func382 (by kernel_rfl) rfl rfl rfl rfl (λst=> ?_)
 (try apply wO pk;rfl);(repeat' first|show All _;constructor|show Imp _ _;constructor|apply wE pk;rfl;rfl|(refine aC ?_;refine ⟨_,_,_,rfl,zwr _,zsr _, ?_,rfl⟩;try rfl)|(apply aH;rfl;rfl;rfl;(intro _;(first|apply e1|apply rZ)<;>first|assumption|omega);rotate_left;rfl;rfl))
def kL (r:Vl->Vl->Vl×Int) (a b:Vl):Vl×Int:=if (decide (a.kind=0)||decide (b.kind=0)) then (v0,0) else r a b
theorem iE {f:FuncId} {caps:List PV} {r:Vl->Vl->Vl×Int} (hf:alM f caps r):alM 384 [.rp [.fn f caps]] (kL r):=by
 intro k n b k' n' b' h1 h2
 have e1:=hf k n b k' n' b' h1 h2
 have hd:kL r ⟨k,n,b⟩ ⟨k',n',b'⟩=if (decide (k=0)||decide (k'=0)) then (v0,0) else r ⟨k,n,b⟩ ⟨k',n',b'⟩:=rfl
 generalize kL r ⟨k,n,b⟩ ⟨k',n',b'⟩=R at*
 generalize r ⟨k,n,b⟩ ⟨k',n',b'⟩=R0 at*
 unfold oB at e1⊢
 refine aG aF Tryz.func384 (by kernel_rfl) rfl rfl rfl rfl (λst=> ?_)
 (try apply wO pk;rfl);(repeat' first|show All _;constructor|show Imp _ _;constructor|show ImpX _ _ _ _;constructor|apply wC pk;rfl;rfl|apply wE pk;rfl;rfl|refine aA rfl ?_ ?_<;>intro h<;>(try simp at h)<;>try omega|(refine aC ?_;refine ⟨_,_,_,rfl,zwr _,zsr _, ?_,rfl⟩;try first|rfl|((simp [*,v0];done));done)|(apply aH;rfl;rfl;rfl;(intro _;(first|apply e1|apply uM)<;>first|assumption|omega);rotate_left;rfl;rfl))
def adK (op:Vl->Bool) (so:Int) (a b:Vl):Vl×Int:=if (op a||op b) then (vN so,0) else if (decide (a.kind=0)||decide (b.kind=0)) then (v0,0) else (vN (1-so),0)
theorem zX {f:FuncId} {op:Vl->Bool} (hf:aFK f op) {so:Int} (h0:0<=so) (h1:so<=1):alM 383 [.rp [.fn f []], .rp [(PV.val (Value.int .i64 (so)))]] (adK op so):=by
 intro k n b k' n' b' _ _
 have e1:= @hf k n b
 have e2:= @hf k' n' b'
 have hd:adK op so ⟨k,n,b⟩ ⟨k',n',b'⟩=if (op ⟨k,n,b⟩||op ⟨k',n',b'⟩) then (vN so,0) else if (decide (k=0)||decide (k'=0)) then (v0,0) else (vN (1-so),0):=rfl
 generalize adK op so ⟨k,n,b⟩ ⟨k',n',b'⟩=R at*
 generalize op ⟨k,n,b⟩=A at*
 generalize op ⟨k',n',b'⟩=B at*
 unfold oB
 refine aG aF Tryz.func383 (by kernel_rfl) rfl rfl rfl rfl (λst=> ?_)
 (try apply wO pk;rfl);(repeat' first|show All _;constructor|show Imp _ _;constructor|show ImpX _ _ _ _;constructor|apply wC pk;rfl;rfl|apply wE pk;rfl;rfl|refine aA rfl ?_ ?_<;>intro h<;>(try simp at h)<;>try omega|(refine aC ?_;refine ⟨_,_,_,rfl,zwr _,zsr _, ?_,rfl⟩;try first|rfl|((simp [*,v0,vN];done));done)|(apply aH;rfl;rfl;rfl;(intro _;(first|apply e1|apply e2|apply uM|apply dY)<;>first|assumption|omega);rotate_left;rfl;rfl)|intros;(try simp only [zql]);omega)
theorem aAC :alM 346 [] (λa _=>(nW (decide (a.n=0)),0)):=λ_ _ _ _ _ _ _ _=>aAm
theorem ajD :alM 348 [] (λa _=>(nW (decide (a.kind=0)),0)):=λ_ _ _ _ _ _ _ _=>akQ
theorem abG {p:FuncId} {caps:List PV}:PF Tryz.prog 345 [.fn p caps] (.fn 384 [.rp [.fn p caps]]):=by
 refine aG aF Tryz.func345 (by kernel_rfl) rfl rfl rfl rfl (λst=> ?_)
 (try apply wO pk;rfl);(repeat' first|show All _;constructor|apply wE pk;rfl;rfl|(refine aC ?_;refine ⟨_,_,_,rfl,zwr _,zsr _, ?_,rfl⟩;try rfl)|apply bC 1;rfl;rfl)
theorem amO {f:FuncId}:PF Tryz.prog 336 [.fn f []] (.agg [(PV.val (Value.int .i64 (2))),(PV.val (Value.bool (true))), .fn 384 [.rp [.fn 380 [.rp [.fn f []]]]]]):=by
 refine aG aF Tryz.func336 (by kernel_rfl) rfl rfl rfl rfl (λst=> ?_)
 (try apply wO pk;rfl);(repeat' first|show All _;constructor|show Imp _ _;constructor|apply wE pk;rfl;rfl|(refine aC ?_;refine ⟨_,_,_,rfl,zwr _,zsr _, ?_,rfl⟩;try rfl)|(apply aH;rfl;rfl;rfl;(intro _;apply abG<;>first|assumption|omega);rotate_left;rfl;rfl)|apply bC 1;rfl;rfl)
theorem aC2 {f:FuncId}:PF Tryz.prog 340 [.fn f []] (.agg [(PV.val (Value.int .i64 (2))),(PV.val (Value.bool (false))), .fn 384 [.rp [.fn 382 [.rp [.fn f []]]]]]):=by
 refine aG aF Tryz.func340 (by kernel_rfl) rfl rfl rfl rfl (λst=> ?_)
 (try apply wO pk;rfl);(repeat' first|show All _;constructor|show Imp _ _;constructor|apply wE pk;rfl;rfl|(refine aC ?_;refine ⟨_,_,_,rfl,zwr _,zsr _, ?_,rfl⟩;try rfl)|(apply aH;rfl;rfl;rfl;(intro _;apply abG<;>first|assumption|omega);rotate_left;rfl;rfl)|apply bC 1;rfl;rfl)
theorem aBp {f:FuncId} {so:Int}:PF Tryz.prog 343 [.fn f [],(PV.val (Value.int .i64 (so)))] (.agg [(PV.val (Value.int .i64 (2))),(PV.val (Value.bool (true))), .fn 383 [.rp [.fn f []], .rp [(PV.val (Value.int .i64 (so)))]]]):=by
 refine aG aF Tryz.func343 (by kernel_rfl) rfl rfl rfl rfl (λst=> ?_)
 (try apply wO pk;rfl);(repeat' first|show All _;constructor|apply wE pk;rfl;rfl|(refine aC ?_;refine ⟨_,_,_,rfl,zwr _,zsr _, ?_,rfl⟩;try rfl)|apply bC 2;rfl;rfl|apply bC 3;rfl;rfl)
def azI (f:FuncId):PV:= .agg [(PV.val (Value.int .i64 (2))),(PV.val (Value.bool (true))), .fn 384 [.rp [.fn 380 [.rp [.fn f []]]]]]
def aFL (f:FuncId):PV:= .agg [(PV.val (Value.int .i64 (2))),(PV.val (Value.bool (false))), .fn 384 [.rp [.fn 382 [.rp [.fn f []]]]]]
def aD0 (f:FuncId) (so:Int):PV:= .agg [(PV.val (Value.int .i64 (2))),(PV.val (Value.bool (true))), .fn 383 [.rp [.fn f []], .rp [(PV.val (Value.int .i64 (so)))]]]
def qD :List (Value×PV):=[(.int .i64 2,azI 337),(.int .i64 3,azI 338),(.int .i64 4,azI 339),(.int .i64 5,aFL 341),(.int .i64 6,aFL 342),(.int .i64 7,aD0 344 0),(.int .i64 8,aD0 211 1),
 (.int .i64 9, .agg [(PV.val (Value.int .i64 (1))),(PV.val (Value.bool (true))), .fn 384 [.rp [.fn 346 []]]]),(.int .i64 10, .agg [(PV.val (Value.int .i64 (1))),(PV.val (Value.bool (false))), .fn 348 []])]
theorem eG :PF Tryz.prog 277 [] (.fmap qD):=by
 refine aG aF Tryz.func277 (by kernel_rfl) rfl rfl rfl rfl (λst=> ?_)
 focus ((try apply wO pk;rfl);(repeat' first|apply iP 0;rfl;exact aB _ _ _|((refine aC ?_;exact ⟨_,_,st,rfl,zwr _,StSub.via id hid (λj h=>by repeat (first|refine Eq.trans (aD h) ?_|rfl)),rfl,rfl⟩))|show All _;constructor|show Imp _ _;constructor|apply wE pk;rfl;rfl|(apply aH;rfl;rfl;rfl;(intro _;(first|apply amO|apply aC2|apply aBp|apply abG)<;>first|assumption|omega);rotate_left;rfl;rfl)|((refine nQ rfl (λid hid=> ?_)))|apply qG aF;exact .inl rfl;(iterate 7 rfl);exact aB _ _ _;rfl))
def eqV (a b:Vl):Bool:=decide (a.kind=b.kind)&&(decide (a.n=b.n)&&decide (a.s=b.s))
def gS (a b:Vl):Bool:=decide (a.n<b.n)||aD7 a.s b.s
def kN (k:Int):Int:=if k=9\/k=10 then 1 else 2
def qY (k:Int):Bool:= !decide (k=5\/k=6\/k=10)
def sO (k:Int) (a b:Vl):Vl×Int:=
 if k=2 then kL (yR (· + ·)) a b else if k=3 then kL (yR (· - ·)) a b else if k=4 then kL (yR (· * ·)) a b
 else if k=5 then kL (λa b=>(nW (eqV a b),0)) a b else if k=6 then kL (λa b=>(nW (gS a b),0)) a b
 else if k=7 then adK aAv 0 a b else if k=8 then adK aFc 1 a b
 else if k=9 then kL (λa _=>(nW (decide (a.n=0)),0)) a b else (nW (decide (a.kind=0)),0)
theorem yN {k:Int} (h1:2<=k) (h2:k<=10):∃f caps,gK tt 342 qD (.int .i64 k) false=some (.agg [(PV.val (Value.int .i64 (kN k))),(PV.val (Value.bool (qY k))), .fn f caps])/\alM f caps (sO k):=by
 have:k=2\/k=3\/k=4\/k=5\/k=6\/k=7\/k=8\/k=9\/k=10:=by omega
 rcases this with rfl|rfl|rfl|rfl|rfl|rfl|rfl|rfl|rfl
 ·exact ⟨_,_,rfl,iE (uL awU)⟩
 ·exact ⟨_,_,rfl,iE (uL avW)⟩
 ·exact ⟨_,_,rfl,iE (uL avD)⟩
 ·exact ⟨_,_,rfl,iE (aeC (op:=eqV) (fun {_ _ _ _ _ _}=>aB3))⟩
 ·exact ⟨_,_,rfl,iE (aeC (op:=gS) (fun {_ _ _ _ _ _}=>mD))⟩
 ·exact ⟨_,_,rfl,zX (op:=aAv) (fun {_ _ _}=>awL) (by omega) (by omega)⟩
 ·exact ⟨_,_,rfl,zX (op:=aFc) (fun {_ _ _}=>aAj) (by omega) (by omega)⟩
 ·exact ⟨_,_,rfl,iE aAC⟩
 ·exact ⟨_,_,rfl,ajD⟩
theorem aAN {k:Int} (h1:2<=k) (h2:k<=10):∃f caps,gK tt 342 qD (.int .i64 k) true=some (.tup [.agg [(PV.val (Value.int .i64 (kN k))),(PV.val (Value.bool (qY k))), .fn f caps],(PV.val (Value.bool (true)))]):=by
 have:k=2\/k=3\/k=4\/k=5\/k=6\/k=7\/k=8\/k=9\/k=10:=by omega
 rcases this with rfl|rfl|rfl|rfl|rfl|rfl|rfl|rfl|rfl<;>exact ⟨_,_,rfl⟩
theorem atK {k:Int} (h:¬(2<=k/\k<=10)):gK tt 342 qD (.int .i64 k) true=some (.tup [.agg [(PV.val (Value.int .i64 (0))),(PV.val (Value.bool (false))), .val .nilFunc],(PV.val (Value.bool (false)))]):=by
 have hf:abH (.int .i64 k) qD=some none:=by
  unfold qD
  simp only [abH,sZ,nY,zqt]
  have e2:¬k=2:=by omega
  have e3:¬k=3:=by omega
  have e4:¬k=4:=by omega
  have e5:¬k=5:=by omega
  have e6:¬k=6:=by omega
  have e7:¬k=7:=by omega
  have e8:¬k=8:=by omega
  have e9:¬k=9:=by omega
  have e10:¬k=10:=by omega
  simp [e2,e3,e4,e5,e6,e7,e8,e9,e10]
 unfold gK
 rw [hf]
 rfl
theorem aA2 {α:Type} {l:List α} {i:Nat} {x:α} {p:α->Bool} (h:l[i]?=some x):(l.take (i+1)).any p=((l.take i).any p||p x):=by
 obtain ⟨hl,rfl⟩:=List.getElem?_eq_some_iff.1 h
 rw [List.take_succ_eq_append_getElem hl,List.any_append]
 simp
theorem akG {α:Type} {l:List α} {i:Nat} {x:α} {p:α->Bool} (h:l[i]?=some x):(l.take (i+1)).all p=((l.take i).all p&&p x):=by
 obtain ⟨hl,rfl⟩:=List.getElem?_eq_some_iff.1 h
 rw [List.take_succ_eq_append_getElem hl,List.all_append]
 simp
theorem aEw {α:Type} {l:List α} {i:Nat} {x:α} {p:α->Bool} (h:l[i]?=some x) (hp:p x=true):l.any p=true:=
 List.any_eq_true.2 ⟨x,List.mem_of_getElem? h,hp⟩
theorem arX {α:Type} {l:List α} {i:Nat} {x:α} {p:α->Bool} (h:l[i]?=some x) (hp:p x=false):l.all p=false:=by
 cases ha:l.all p with
 |false=>rfl
 |true=>rw [zal] at ha;have:=ha x (List.mem_of_getElem? h);rw [hp] at this;cases this
theorem uA {α:Type} {l:List α} {i:Nat} (h:¬i<l.length):l.take i=l:=List.take_of_length_le (by omega)
def pR :Nat->Ex->Bool
 |0,_=>true
 |l+1,e=>e.of.any (pR l)
theorem auQ :∀(left:Nat) (e:Ex) (z:Int),z=(left:Nat)->left<=1000->e.ok->PF Tryz.prog 275 [.agg e.cells,(PV.val (Value.int .i64 (z)))] (PV.val (Value.bool (pR left e))):=by
 intro left
 induction left with
 |zero=>
  intro e z hz _ _
  subst hz
  obtain ⟨k,n,v,of⟩:=e
  refine aG aF Tryz.func275 (by kernel_rfl) rfl rfl rfl rfl (λst=> ?_)
  (try apply wO pk;rfl);(repeat' first|show All _;constructor|apply wC pk;rfl;rfl|refine aA rfl ?_ ?_<;>intro h<;>(try simp at h)<;>try omega|(refine aC ?_;refine ⟨_,_,_,rfl,zwr _,zsr _, ?_,rfl⟩;try rfl))
 |succ left ih=>
  intro e z hz hl hok
  subst hz
  obtain ⟨k,n,v,of⟩:=e
  simp only [Ex.ok] at hok
  have hlen:=Ex.rows_len of
  refine aG aF Tryz.func275 (by kernel_rfl) rfl rfl rfl rfl (λst=> ?_)
  focus ((try apply wO pk;rfl);(repeat' first|show All _;constructor|apply wC pk;rfl;rfl|refine aA rfl ?_ ?_<;>intro h<;>(try simp at h)<;>try omega))
  refine aK (X:={i:Nat//i<=of.length/\(of.take i).any (pR left)=false}) (λi=>(((((St.nil 21 st).pv 1 ((PV.val (Value.int .i64 ((left+1:Nat)))))).pv 10 (.seq (Ex.rows of))).pv 11 ((PV.val (Value.int .i64 (((Ex.rows of).length:Nat)))))).pv 12 ((PV.val (Value.int .i64 ((i.1:Nat))))))) (λi=>of.length-i.1) ⟨0,by omega,by simp⟩ ?_ (λi=> ?_)
  ·((repeat refine Sub.pv ?_ rfl);exact Sub.nil _ _ _ (zsr _) rfl)
  obtain ⟨i,hi,hany⟩:=i
  dsimp only
  by_cases hend:of.length<=i
  ·rw [uA (by omega)] at hany
   have e:pR (left+1) (.mk k n v of)=false:=hany
   (try apply wO pk;rfl);(repeat' first|show All _;constructor|apply wC pk;rfl;rfl|refine aA rfl ?_ ?_<;>intro h<;>(try simp at h)<;>try omega|(refine aC ?_;refine ⟨_,_,_,rfl,zwr _,zsr _, ?_,rfl⟩;try first|rfl|(rw [e]);done))
  obtain ⟨x,hx⟩:=fM (l:=of) (i:=i) (by omega)
  have hrow:=Ex.rows_get hx
  have hxo:=Ex.oks_mem hok.2 (List.mem_of_getElem? hx)
  have hup:=aA2 (p:=pR left) hx
  have hyes:pR left x=true->pR (left+1) (.mk k n v of)=true:=λh=>aEw hx h
  have hd:=ih x (left:Nat) rfl (by omega) hxo
  generalize pR left x=D at*
  obtain ⟨k',n',v',of'⟩:=x
  have hd':∀z:Int,z=(left:Nat)->PF Tryz.prog 275 [.agg (Ex.mk k' n' v' of').cells,(PV.val (Value.int .i64 (z)))] (PV.val (Value.bool (D))):=λz hz=>hz▸hd
  cases D with
  |true=>
   have e:=hyes rfl
   (try apply wO pk;rfl);(repeat' first|show All _;constructor|show Imp _ _;constructor|apply wC pk;rfl;rfl|apply wE pk;rfl;rfl|refine aA rfl ?_ ?_<;>intro h<;>(try simp at h)<;>try omega|(refine aC ?_;refine ⟨_,_,_,rfl,zwr _,zsr _, ?_,rfl⟩;try first|rfl|(rw [e]);done)|(apply aH;rfl;rfl;rfl;(intro _;apply hd'<;>first|assumption|omega);rotate_left;rfl;rfl)|apply aN pk;(iterate 6 rfl);rotate_left;rfl;(intro hw;rfl);(intro hw;apply hrow<;>omega);(intro _;exact (Ex.cells_len _));rfl|intros;(try simp only [zql]);omega)
  |false=>
   rw [hany] at hup
   (try apply wO pk;rfl);(repeat' first|show All _;constructor|show Imp _ _;constructor|apply wC pk;rfl;rfl|apply wE pk;rfl;rfl|refine aA rfl ?_ ?_<;>intro h<;>(try simp at h)<;>try omega|(apply aH;rfl;rfl;rfl;(intro _;apply hd'<;>first|assumption|omega);rotate_left;rfl;rfl)|apply aN pk;(iterate 6 rfl);rotate_left;rfl;(intro hw;rfl);(intro hw;apply hrow<;>omega);(intro _;exact (Ex.cells_len _));rfl|refine ⟨⟨i+1,by omega,hup⟩, ?_,by simp only;omega⟩;((repeat refine Sub.pv ?_ rfl);exact Sub.nil _ _ _ (zsr _) rfl)|intros;(try simp only [zql]);omega)
end Go.Proofs.YtloecjjehapblaaGreatDoor.X
