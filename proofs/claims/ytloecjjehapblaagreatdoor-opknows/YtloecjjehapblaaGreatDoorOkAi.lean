import Derived.Test.YtloecjjehapblaaGreatDoorOkAh
set_option linter.unusedSimpArgs false
set_option linter.unusedVariables false
namespace Go.Proofs.YtloecjjehapblaaGreatDoor.X
open Go Go.Abs
attribute [local irreducible] Ev PWp
set_option maxRecDepth 10000
set_option maxHeartbeats 4000000
theorem uV {k n:Int} {b:ByteArray}:PF Tryz.prog 349 [.agg [(.val (.int .i64 k)),(.val (.int .i64 n)),(.val (.string b))]] (.val (.bool (decide (k=0)))):=by
 refine aG aF Tryz.func349 (by kernel_rfl) rfl rfl rfl rfl (λst=> ?_)
 (try apply wO pk;rfl);(repeat' first|show Cn _;constructor|(refine aC ?_;refine ⟨_,_,_,rfl,zwr _,zsr _, ?_,rfl⟩;try rfl))
def sD (v:Vl):Bool:=if v.kind=0 then decide (v.n=0)&&decide (v.s=e0) else if v.kind=1 then (decide (v.s=e0)&&decide (v.n>= -1099511627776))&&decide (v.n<=1099511627776) else if v.kind=2 then decide (v.n=0)&&decide ((v.s.size:Int)<=200) else false
theorem right_spec {k n:Int} {b:ByteArray}:PF Tryz.prog 335 [.agg [(.val (.int .i64 k)),(.val (.int .i64 n)),(.val (.string b))]] (.val (.bool (sD ⟨k,n,b⟩))):=by
 unfold sD
 dsimp only
 by_cases h0:k=0
 ·rw [zp h0]
  refine aG aF Tryz.func335 (by kernel_rfl) rfl rfl rfl rfl (λst=> ?_)
  (try apply wO pk;rfl);(repeat' first|show Cn _;constructor|apply wC pk;rfl;rfl|refine aB rfl ?_ ?_<;>intro h<;>(try simp at h)<;>try omega|(refine aC ?_;refine ⟨_,_,_,rfl,zwr _,zsr _, ?_,rfl⟩;try first|rfl|((simp [h0];done));done))
 by_cases h1:k=1
 ·rw [zn h0,zp h1]
  refine aG aF Tryz.func335 (by kernel_rfl) rfl rfl rfl rfl (λst=> ?_)
  (try apply wO pk;rfl);(repeat' first|show Cn _;constructor|apply wC pk;rfl;rfl|refine aB rfl ?_ ?_<;>intro h<;>(try simp at h)<;>try omega|(refine aC ?_;refine ⟨_,_,_,rfl,zwr _,zsr _, ?_,rfl⟩;try first|rfl|(fail);done))
 rw [zn h0,zn h1]
 by_cases h2:k=2
 ·rw [zp h2]
  refine aG aF Tryz.func335 (by kernel_rfl) rfl rfl rfl rfl (λst=> ?_)
  (try apply wO pk;rfl);(repeat' first|show Cn _;constructor|apply wC pk;rfl;rfl|refine aB rfl ?_ ?_<;>intro h<;>(try simp at h)<;>try omega|(refine aC ?_;refine ⟨_,_,_,rfl,zwr _,zsr _, ?_,rfl⟩;try first|rfl|(fail);done))
 rw [zn h2]
 refine aG aF Tryz.func335 (by kernel_rfl) rfl rfl rfl rfl (λst=> ?_)
 (try apply wO pk;rfl);(repeat' first|show Cn _;constructor|apply wC pk;rfl;rfl|refine aB rfl ?_ ?_<;>intro h<;>(try simp at h)<;>try omega|(refine aC ?_;refine ⟨_,_,_,rfl,zwr _,zsr _, ?_,rfl⟩;try first|rfl|(fail);done))
theorem eC {n:Int}:PF Tryz.prog 381 [(.val (.int .i64 n))] (.agg [(.val (.int .i64 1)),(.val (.int .i64 n)),(.val (.string e0))]):=by
 refine aG aF Tryz.func381 (by kernel_rfl) rfl rfl rfl rfl (λst=> ?_)
 (try apply wO pk;rfl);(repeat' first|show Cn _;constructor|(refine aC ?_;refine ⟨_,_,_,rfl,zwr _,zsr _, ?_,rfl⟩;try rfl))
theorem sK {x:Bool}:PF Tryz.prog 347 [(.val (.bool x))] (.agg [(.val (.int .i64 1)),(.val (.int .i64 (if x then 1 else 0))),(.val (.string e0))]):=by
 refine aG aF Tryz.func347 (by kernel_rfl) rfl rfl rfl rfl (λst=> ?_)
 (try apply wO pk;rfl);(repeat' first|show Cn _;constructor|apply wC pk;rfl;rfl|apply wE pk;rfl;rfl|refine aB rfl ?_ ?_<;>intro h<;>(try simp at h)<;>try omega|(refine aC ?_;refine ⟨_,_,_,rfl,zwr _,zsr _, ?_,rfl⟩;try first|rfl|(simp [*];done);done)|(apply aH;rfl;rfl;rfl;(intro _;apply eC<;>first|assumption|omega);rotate_left;rfl;rfl))
def aAs (v:Vl):Bool:=decide (v.kind=1)&&(decide (v.n=0)&&decide (v.s=e0))
def aFd (v:Vl):Bool:=decide (v.kind=1)&& !decide (v.n=0)
theorem awK {k n:Int} {b:ByteArray}:PF Tryz.prog 344 [.agg [(.val (.int .i64 k)),(.val (.int .i64 n)),(.val (.string b))]] (.val (.bool (aAs ⟨k,n,b⟩))):=by
 refine aG aF Tryz.func344 (by kernel_rfl) rfl rfl rfl rfl (λst=> ?_)
 (try apply wO pk;rfl);(repeat' first|show Cn _;constructor|apply wE pk;rfl;rfl|apply wD pk [] [];kernel_rfl;rfl;rfl|(refine aC ?_;refine ⟨_,_,_,rfl,zwr _,zsr _, ?_,rfl⟩;try rfl)|(apply aH;rfl;rfl;rfl;(intro _;apply eC<;>first|assumption|omega);rotate_left;rfl;rfl))
theorem aAf {k n:Int} {b:ByteArray}:PF Tryz.prog 211 [.agg [(.val (.int .i64 k)),(.val (.int .i64 n)),(.val (.string b))]] (.val (.bool (aFd ⟨k,n,b⟩))):=by
 refine aG aF Tryz.func211 (by kernel_rfl) rfl rfl rfl rfl (λst=> ?_)
 (try apply wO pk;rfl);(repeat' first|show Cn _;constructor|(refine aC ?_;refine ⟨_,_,_,rfl,zwr _,zsr _, ?_,rfl⟩;try rfl))
theorem aB1 {k n:Int} {b:ByteArray} {k' n':Int} {b':ByteArray}:PF Tryz.prog 341 [.agg [(.val (.int .i64 k)),(.val (.int .i64 n)),(.val (.string b))], .agg [(.val (.int .i64 (k'))),(.val (.int .i64 (n'))),(.val (.string (b')))]] (.val (.bool (decide (k=k')&&(decide (n=n')&&decide (b=b'))))):=by
 refine aG aF Tryz.func341 (by kernel_rfl) rfl rfl rfl rfl (λst=> ?_)
 (try apply wO pk;rfl);(repeat' first|show Cn _;constructor|(refine aC ?_;refine ⟨_,_,_,rfl,zwr _,zsr _, ?_,rfl⟩;try rfl))
def aD3 (a b:ByteArray):Bool:=Op.bytesLess a.toList b.toList
theorem mI {k n:Int} {b:ByteArray} {k' n':Int} {b':ByteArray}:PF Tryz.prog 342 [.agg [(.val (.int .i64 k)),(.val (.int .i64 n)),(.val (.string b))], .agg [(.val (.int .i64 (k'))),(.val (.int .i64 (n'))),(.val (.string (b')))]] (.val (.bool (decide (n<n')||aD3 b b'))):=by
 refine aG aF Tryz.func342 (by kernel_rfl) rfl rfl rfl rfl (λst=> ?_)
 (try apply wO pk;rfl);(repeat' first|show Cn _;constructor|(refine aC ?_;refine ⟨_,_,_,rfl,zwr _,zsr _, ?_,rfl⟩;try rfl))
theorem aAi {k n:Int} {b:ByteArray} {k' n':Int} {b':ByteArray}:PF Tryz.prog 346 [.agg [(.val (.int .i64 k)),(.val (.int .i64 n)),(.val (.string b))], .agg [(.val (.int .i64 (k'))),(.val (.int .i64 (n'))),(.val (.string (b')))]] (.tup [.agg [(.val (.int .i64 1)),(.val (.int .i64 (if decide (n=0) then 1 else 0))),(.val (.string e0))],(.val (.int .i64 0))]):=by
 refine aG aF Tryz.func346 (by kernel_rfl) rfl rfl rfl rfl (λst=> ?_)
 (try apply wO pk;rfl);(repeat' first|show Cn _;constructor|apply wE pk;rfl;rfl|(refine aC ?_;refine ⟨_,_,_,rfl,zwr _,zsr _, ?_,rfl⟩;try rfl)|(apply aH;rfl;rfl;rfl;(intro _;apply sK<;>first|assumption|omega);rotate_left;rfl;rfl))
theorem akP {k n:Int} {b:ByteArray} {k' n':Int} {b':ByteArray}:PF Tryz.prog 348 [.agg [(.val (.int .i64 k)),(.val (.int .i64 n)),(.val (.string b))], .agg [(.val (.int .i64 (k'))),(.val (.int .i64 (n'))),(.val (.string (b')))]] (.tup [.agg [(.val (.int .i64 1)),(.val (.int .i64 (if decide (k=0) then 1 else 0))),(.val (.string e0))],(.val (.int .i64 0))]):=by
 refine aG aF Tryz.func348 (by kernel_rfl) rfl rfl rfl rfl (λst=> ?_)
 (try apply wO pk;rfl);(repeat' first|show Cn _;constructor|apply wE pk;rfl;rfl|(refine aC ?_;refine ⟨_,_,_,rfl,zwr _,zsr _, ?_,rfl⟩;try rfl)|(apply aH;rfl;rfl;rfl;(intro _;(first|apply sK|apply uV)<;>first|assumption|omega);rotate_left;rfl;rfl))
def ahW (f:FuncId) (op:Int->Int->Int):Prop:=∀a b,PF Tryz.prog f [(PV.val (Value.int .i64 (a))),(PV.val (Value.int .i64 (b)))] (PV.val (Value.int .i64 (IntKind.wrap .i64 (op a b))))
theorem awT :ahW 337 (· + ·):=by
 intro a b
 refine aG aF Tryz.func337 (by kernel_rfl) rfl rfl rfl rfl (λst=> ?_)
 ((apply aEL pk 4);rfl;(focus repeat' constructor);(focus repeat' (exact All.nil)))
 refine nI ?_
 iterate 2 (apply sF aF;iterate 4 rfl)
 (apply aCD;iterate 5 rfl)
 (apply sF aF;iterate 4 rfl)
 refine wH ?_
 (try apply wO pk;rfl);(repeat' first|show Cn _;constructor|(refine aC ?_;refine ⟨_,_,_,rfl,zwr _,zsr _, ?_,rfl⟩;try rfl))
theorem avV :ahW 338 (· - ·):=by
 intro a b
 refine aG aF Tryz.func338 (by kernel_rfl) rfl rfl rfl rfl (λst=> ?_)
 ((apply aEL pk 4);rfl;(focus repeat' constructor);(focus repeat' (exact All.nil)))
 refine nI ?_
 iterate 2 (apply sF aF;iterate 4 rfl)
 (apply aCV;iterate 5 rfl)
 (apply sF aF;iterate 4 rfl)
 refine wH ?_
 (try apply wO pk;rfl);(repeat' first|show Cn _;constructor|(refine aC ?_;refine ⟨_,_,_,rfl,zwr _,zsr _, ?_,rfl⟩;try rfl))
theorem avC :ahW 339 (· * ·):=by
 intro a b
 refine aG aF Tryz.func339 (by kernel_rfl) rfl rfl rfl rfl (λst=> ?_)
 ((apply aEL pk 4);rfl;(focus repeat' constructor);(focus repeat' (exact All.nil)))
 refine nI ?_
 iterate 2 (apply sF aF;iterate 4 rfl)
 (apply aCL;iterate 5 rfl)
 (apply sF aF;iterate 4 rfl)
 refine wH ?_
 (try apply wO pk;rfl);(repeat' first|show Cn _;constructor|(refine aC ?_;refine ⟨_,_,_,rfl,zwr _,zsr _, ?_,rfl⟩;try rfl))
def lim (n:Int):Prop:= -4611686018427387904<=n/\n<=4611686018427387904
def aEQ (op:Int->Int->Int) (a b:Int):Bool:=(((decide (max a (0-a)>0)&&decide (max b (0-b)>0))&&decide (IntKind.wrap .i64 (op 1 1)=1))&&decide (max a (0-a)>1099511627776/max b (0-b)))
def akH (op:Int->Int->Int) (a b:Int):Bool:=(aEQ op a b||decide (IntKind.wrap .i64 (op a b)>1099511627776))||decide (IntKind.wrap .i64 (op a b)< -1099511627776)
theorem axJ {f:FuncId} {op:Int->Int->Int} (hf:ahW f op) {k n:Int} {b:ByteArray} {k' n':Int} {b':ByteArray} (h1:lim n) (h2:lim n'):PF Tryz.prog 380 [.agg [(.val (.int .i64 k)),(.val (.int .i64 n)),(.val (.string b))], .agg [(.val (.int .i64 (k'))),(.val (.int .i64 (n'))),(.val (.string (b')))], .rp [.fn f []]]
  (if akH op n n' then .tup [.agg [(PV.val (Value.int .i64 (0))),(PV.val (Value.int .i64 (0))),(PV.val (Value.string (e0)))],(PV.val (Value.int .i64 (20)))] else .tup [.agg [(PV.val (Value.int .i64 (1))),(PV.val (Value.int .i64 (IntKind.wrap .i64 (op n n')))),(PV.val (Value.string (e0)))],(PV.val (Value.int .i64 (0)))]):=by
 obtain ⟨h1,h1'⟩:=h1
 obtain ⟨h2,h2'⟩:=h2
 have e1:=hf 1 1
 have e2:=hf n n'
 have hfin:akH op n n'=((aEQ op n n'||decide (IntKind.wrap .i64 (op n n')>1099511627776))||decide (IntKind.wrap .i64 (op n n')< -1099511627776)):=rfl
 unfold aEQ at hfin
 generalize akH op n n'=R at*
 refine aG aF Tryz.func380 (by kernel_rfl) rfl rfl rfl rfl (λst=> ?_)
 (try apply wO pk;rfl);(repeat' first|show Cn _;constructor|apply wC pk;rfl;rfl|apply wE pk;rfl;rfl|apply wD pk [] [];kernel_rfl;rfl;rfl|refine aB rfl ?_ ?_<;>intro h<;>(try simp at h)<;>try omega|(refine aC ?_;refine ⟨_,_,_,rfl,zwr _,zsr _, ?_,rfl⟩;try first|rfl|(first|rw [show R=true from by rw [hfin];simpa using h];rfl|rw [show R=false from by rw [hfin];simpa using h];rfl);done)|(apply aH;rfl;rfl;rfl;(intro _;(first|apply e1|apply e2|apply eC)<;>first|assumption|omega);rotate_left;rfl;rfl)|((intro h;(have h:=(aHb h).2);(simp only [zba,zde] at h);omega))|intros;(try simp only [zql]);omega)
def oK (r:Vl×Int):PV:= .tup [.agg [(PV.val (Value.int .i64 (r.1.kind))),(PV.val (Value.int .i64 (r.1.n))),(PV.val (Value.string (r.1.s)))],(PV.val (Value.int .i64 (r.2)))]
def vN (n:Int):Vl:=⟨1,n,e0⟩
def oF (b:Bool):Vl:=vN (if b then 1 else 0)
def alJ (f:FuncId) (caps:List PV) (r:Vl->Vl->Vl×Int):Prop:=
 ∀k n b k' n' b',lim n->lim n'->PF Tryz.prog f ([.agg [(PV.val (Value.int .i64 (k))),(PV.val (Value.int .i64 (n))),(PV.val (Value.string (b)))], .agg [(PV.val (Value.int .i64 (k'))),(PV.val (Value.int .i64 (n'))),(PV.val (Value.string (b')))]]++caps) (oK (r ⟨k,n,b⟩ ⟨k',n',b'⟩))
def aEA (f:FuncId) (op:Vl->Vl->Bool):Prop:=∀{k n b k' n' b'},PF Tryz.prog f [.agg [(PV.val (Value.int .i64 (k))),(PV.val (Value.int .i64 (n))),(PV.val (Value.string (b)))], .agg [(PV.val (Value.int .i64 (k'))),(PV.val (Value.int .i64 (n'))),(PV.val (Value.string (b')))]] (PV.val (Value.bool (op ⟨k,n,b⟩ ⟨k',n',b'⟩)))
def aFM (f:FuncId) (op:Vl->Bool):Prop:=∀{k n b},PF Tryz.prog f [.agg [(PV.val (Value.int .i64 (k))),(PV.val (Value.int .i64 (n))),(PV.val (Value.string (b)))]] (PV.val (Value.bool (op ⟨k,n,b⟩)))
def yP (op:Int->Int->Int) (a b:Vl):Vl×Int:=if akH op a.n b.n then (v0,20) else (vN (IntKind.wrap .i64 (op a.n b.n)),0)
theorem uU {f:FuncId} {op:Int->Int->Int} (hf:ahW f op):alJ 380 [.rp [.fn f []]] (yP op):=by
 intro k n b k' n' b' h1 h2
 have:=axJ hf (k:=k) (b:=b) (k':=k') (b':=b') h1 h2
 unfold yP
 simp only
 split at this
 ·rename_i h;rw [zp h];exact this
 ·rename_i h;rw [zn h];exact this
theorem adZ {f:FuncId} {op:Vl->Vl->Bool} (hf:aEA f op):alJ 382 [.rp [.fn f []]] (λa b=>(oF (op a b),0)):=by
 intro k n b k' n' b' h1 h2
 have e1:= @hf k n b k' n' b'
 refine aG aF Tryz.func382 (by kernel_rfl) rfl rfl rfl rfl (λst=> ?_)
 (try apply wO pk;rfl);(repeat' first|show Cn _;constructor|apply wE pk;rfl;rfl|(refine aC ?_;refine ⟨_,_,_,rfl,zwr _,zsr _, ?_,rfl⟩;try rfl)|(apply aH;rfl;rfl;rfl;(intro _;(first|apply e1|apply sK)<;>first|assumption|omega);rotate_left;rfl;rfl))
def kN (r:Vl->Vl->Vl×Int) (a b:Vl):Vl×Int:=if (decide (a.kind=0)||decide (b.kind=0)) then (v0,0) else r a b
theorem iF {f:FuncId} {caps:List PV} {r:Vl->Vl->Vl×Int} (hf:alJ f caps r):alJ 384 [.rp [.fn f caps]] (kN r):=by
 intro k n b k' n' b' h1 h2
 have e1:=hf k n b k' n' b' h1 h2
 have hd:kN r ⟨k,n,b⟩ ⟨k',n',b'⟩=if (decide (k=0)||decide (k'=0)) then (v0,0) else r ⟨k,n,b⟩ ⟨k',n',b'⟩:=rfl
 generalize kN r ⟨k,n,b⟩ ⟨k',n',b'⟩=R at*
 generalize r ⟨k,n,b⟩ ⟨k',n',b'⟩=R0 at*
 unfold oK at e1⊢
 refine aG aF Tryz.func384 (by kernel_rfl) rfl rfl rfl rfl (λst=> ?_)
 (try apply wO pk;rfl);(repeat' first|show Cn _;constructor|apply wC pk;rfl;rfl|apply wE pk;rfl;rfl|refine aB rfl ?_ ?_<;>intro h<;>(try simp at h)<;>try omega|(refine aC ?_;refine ⟨_,_,_,rfl,zwr _,zsr _, ?_,rfl⟩;try first|rfl|((simp [*,v0];done));done)|(apply aH;rfl;rfl;rfl;(intro _;(first|apply e1|apply uV)<;>first|assumption|omega);rotate_left;rfl;rfl))
def adH (op:Vl->Bool) (so:Int) (a b:Vl):Vl×Int:=if (op a||op b) then (vN so,0) else if (decide (a.kind=0)||decide (b.kind=0)) then (v0,0) else (vN (1-so),0)
theorem zX {f:FuncId} {op:Vl->Bool} (hf:aFM f op) {so:Int} (h0:0<=so) (h1:so<=1):alJ 383 [.rp [.fn f []], .rp [(PV.val (Value.int .i64 (so)))]] (adH op so):=by
 intro k n b k' n' b' _ _
 have e1:= @hf k n b
 have e2:= @hf k' n' b'
 have hd:adH op so ⟨k,n,b⟩ ⟨k',n',b'⟩=if (op ⟨k,n,b⟩||op ⟨k',n',b'⟩) then (vN so,0) else if (decide (k=0)||decide (k'=0)) then (v0,0) else (vN (1-so),0):=rfl
 generalize adH op so ⟨k,n,b⟩ ⟨k',n',b'⟩=R at*
 generalize op ⟨k,n,b⟩=A at*
 generalize op ⟨k',n',b'⟩=B at*
 unfold oK
 refine aG aF Tryz.func383 (by kernel_rfl) rfl rfl rfl rfl (λst=> ?_)
 (try apply wO pk;rfl);(repeat' first|show Cn _;constructor|apply wC pk;rfl;rfl|apply wE pk;rfl;rfl|refine aB rfl ?_ ?_<;>intro h<;>(try simp at h)<;>try omega|(refine aC ?_;refine ⟨_,_,_,rfl,zwr _,zsr _, ?_,rfl⟩;try first|rfl|((simp [*,v0,vN];done));done)|(apply aH;rfl;rfl;rfl;(intro _;(first|apply e1|apply e2|apply uV|apply eC)<;>first|assumption|omega);rotate_left;rfl;rfl)|intros;(try simp only [zql]);omega)
theorem aAz :alJ 346 [] (λa _=>(oF (decide (a.n=0)),0)):=λ_ _ _ _ _ _ _ _=>aAi
theorem ajB :alJ 348 [] (λa _=>(oF (decide (a.kind=0)),0)):=λ_ _ _ _ _ _ _ _=>akP
theorem abD {p:FuncId} {caps:List PV}:PF Tryz.prog 345 [.fn p caps] (.fn 384 [.rp [.fn p caps]]):=by
 refine aG aF Tryz.func345 (by kernel_rfl) rfl rfl rfl rfl (λst=> ?_)
 (try apply wO pk;rfl);(repeat' first|show Cn _;constructor|apply wE pk;rfl;rfl|(refine aC ?_;refine ⟨_,_,_,rfl,zwr _,zsr _, ?_,rfl⟩;try rfl)|apply bD 1;rfl;rfl)
theorem amS {f:FuncId}:PF Tryz.prog 336 [.fn f []] (.agg [(.val (.int .i64 2)),(.val (.bool true)), .fn 384 [.rp [.fn 380 [.rp [.fn f []]]]]]):=by
 refine aG aF Tryz.func336 (by kernel_rfl) rfl rfl rfl rfl (λst=> ?_)
 (try apply wO pk;rfl);(repeat' first|show Cn _;constructor|apply wE pk;rfl;rfl|(refine aC ?_;refine ⟨_,_,_,rfl,zwr _,zsr _, ?_,rfl⟩;try rfl)|(apply aH;rfl;rfl;rfl;(intro _;apply abD<;>first|assumption|omega);rotate_left;rfl;rfl)|apply bD 1;rfl;rfl)
theorem aCY {f:FuncId}:PF Tryz.prog 340 [.fn f []] (.agg [(.val (.int .i64 2)),(.val (.bool false)), .fn 384 [.rp [.fn 382 [.rp [.fn f []]]]]]):=by
 refine aG aF Tryz.func340 (by kernel_rfl) rfl rfl rfl rfl (λst=> ?_)
 (try apply wO pk;rfl);(repeat' first|show Cn _;constructor|apply wE pk;rfl;rfl|(refine aC ?_;refine ⟨_,_,_,rfl,zwr _,zsr _, ?_,rfl⟩;try rfl)|(apply aH;rfl;rfl;rfl;(intro _;apply abD<;>first|assumption|omega);rotate_left;rfl;rfl)|apply bD 1;rfl;rfl)
theorem aBp {f:FuncId} {so:Int}:PF Tryz.prog 343 [.fn f [],(.val (.int .i64 so))] (.agg [(.val (.int .i64 2)),(.val (.bool true)), .fn 383 [.rp [.fn f []], .rp [(.val (.int .i64 so))]]]):=by
 refine aG aF Tryz.func343 (by kernel_rfl) rfl rfl rfl rfl (λst=> ?_)
 (try apply wO pk;rfl);(repeat' first|show Cn _;constructor|apply wE pk;rfl;rfl|(refine aC ?_;refine ⟨_,_,_,rfl,zwr _,zsr _, ?_,rfl⟩;try rfl)|apply bD 2;rfl;rfl|apply bD 3;rfl;rfl)
def azH (f:FuncId):PV:= .agg [(PV.val (Value.int .i64 (2))),(PV.val (Value.bool (true))), .fn 384 [.rp [.fn 380 [.rp [.fn f []]]]]]
def aFN (f:FuncId):PV:= .agg [(PV.val (Value.int .i64 (2))),(PV.val (Value.bool (false))), .fn 384 [.rp [.fn 382 [.rp [.fn f []]]]]]
def aDX (f:FuncId) (so:Int):PV:= .agg [(PV.val (Value.int .i64 (2))),(PV.val (Value.bool (true))), .fn 383 [.rp [.fn f []], .rp [(PV.val (Value.int .i64 (so)))]]]
def qO :List (Value×PV):=[(.int .i64 2,azH 337),(.int .i64 3,azH 338),(.int .i64 4,azH 339),(.int .i64 5,aFN 341),(.int .i64 6,aFN 342),(.int .i64 7,aDX 344 0),(.int .i64 8,aDX 211 1),
 (.int .i64 9, .agg [(PV.val (Value.int .i64 (1))),(PV.val (Value.bool (true))), .fn 384 [.rp [.fn 346 []]]]),(.int .i64 10, .agg [(PV.val (Value.int .i64 (1))),(PV.val (Value.bool (false))), .fn 348 []])]
theorem eH :PF Tryz.prog 277 [] (.fmap qO):=by
 refine aG aF Tryz.func277 (by kernel_rfl) rfl rfl rfl rfl (λst=> ?_)
 focus ((try apply wO pk;rfl);(repeat' first|apply iU 0;rfl;exact aA _ _ _|((refine aC ?_;exact ⟨_,_,st,rfl,zwr _,StSub.via id hid (λj h=>by repeat (first|refine Eq.trans (aD h) ?_|rfl)),rfl,rfl⟩))|show Cn _;constructor|apply wE pk;rfl;rfl|(apply aH;rfl;rfl;rfl;(intro _;(first|apply amS|apply aCY|apply aBp|apply abD)<;>first|assumption|omega);rotate_left;rfl;rfl)|((refine oA rfl (λid hid=> ?_)))|apply qQ aF;exact .inl rfl;(iterate 7 rfl);exact aA _ _ _;rfl))
def eqV (a b:Vl):Bool:=decide (a.kind=b.kind)&&(decide (a.n=b.n)&&decide (a.s=b.s))
def fS (a b:Vl):Bool:=decide (a.n<b.n)||aD3 a.s b.s
def kP (k:Int):Int:=if k=9\/k=10 then 1 else 2
def rJ (k:Int):Bool:= !decide (k=5\/k=6\/k=10)
def sW (k:Int) (a b:Vl):Vl×Int:=
 if k=2 then kN (yP (· + ·)) a b else if k=3 then kN (yP (· - ·)) a b else if k=4 then kN (yP (· * ·)) a b
 else if k=5 then kN (λa b=>(oF (eqV a b),0)) a b else if k=6 then kN (λa b=>(oF (fS a b),0)) a b
 else if k=7 then adH aAs 0 a b else if k=8 then adH aFd 1 a b
 else if k=9 then kN (λa _=>(oF (decide (a.n=0)),0)) a b else (oF (decide (a.kind=0)),0)
theorem yL {k:Int} (h1:2<=k) (h2:k<=10):∃f caps,gM tt 342 qO (.int .i64 k) false=some (.agg [(PV.val (Value.int .i64 (kP k))),(PV.val (Value.bool (rJ k))), .fn f caps])/\alJ f caps (sW k):=by
 have:k=2\/k=3\/k=4\/k=5\/k=6\/k=7\/k=8\/k=9\/k=10:=by omega
 rcases this with rfl|rfl|rfl|rfl|rfl|rfl|rfl|rfl|rfl
 ·exact ⟨_,_,rfl,iF (uU awT)⟩
 ·exact ⟨_,_,rfl,iF (uU avV)⟩
 ·exact ⟨_,_,rfl,iF (uU avC)⟩
 ·exact ⟨_,_,rfl,iF (adZ (op:=eqV) (fun {_ _ _ _ _ _}=>aB1))⟩
 ·exact ⟨_,_,rfl,iF (adZ (op:=fS) (fun {_ _ _ _ _ _}=>mI))⟩
 ·exact ⟨_,_,rfl,zX (op:=aAs) (fun {_ _ _}=>awK) (by omega) (by omega)⟩
 ·exact ⟨_,_,rfl,zX (op:=aFd) (fun {_ _ _}=>aAf) (by omega) (by omega)⟩
 ·exact ⟨_,_,rfl,iF aAz⟩
 ·exact ⟨_,_,rfl,ajB⟩
theorem aAJ {k:Int} (h1:2<=k) (h2:k<=10):∃f caps,gM tt 342 qO (.int .i64 k) true=some (.tup [.agg [(PV.val (Value.int .i64 (kP k))),(PV.val (Value.bool (rJ k))), .fn f caps],(PV.val (Value.bool (true)))]):=by
 have:k=2\/k=3\/k=4\/k=5\/k=6\/k=7\/k=8\/k=9\/k=10:=by omega
 rcases this with rfl|rfl|rfl|rfl|rfl|rfl|rfl|rfl|rfl<;>exact ⟨_,_,rfl⟩
theorem atJ {k:Int} (h:¬(2<=k/\k<=10)):gM tt 342 qO (.int .i64 k) true=some (.tup [.agg [(PV.val (Value.int .i64 (0))),(PV.val (Value.bool (false))), .val .nilFunc],(PV.val (Value.bool (false)))]):=by
 have hf:abE (.int .i64 k) qO=some none:=by
  unfold qO
  simp only [abE,tK,oH,zqt]
  have e2:¬k=2:=by omega
  have e3:¬k=3:=by omega
  have e4:¬k=4:=by omega
  have e5:¬k=5:=by omega
  have e6:¬k=6:=by omega
  have e7:¬k=7:=by omega
  have e8:¬k=8:=by omega
  have e9:¬k=9:=by omega
  have e10:¬k=10:=by omega
  simp [e2,e3,e4,e5,e6,e7,e8,e9,e10]
 unfold gM
 rw [hf]
 rfl
theorem aAY {α:Type} {l:List α} {i:Nat} {x:α} {p:α->Bool} (h:l[i]?=some x):(l.take (i+1)).any p=((l.take i).any p||p x):=by
 obtain ⟨hl,rfl⟩:=zge.1 h
 rw [List.take_succ_eq_append_getElem hl,List.any_append]
 simp
theorem akF {α:Type} {l:List α} {i:Nat} {x:α} {p:α->Bool} (h:l[i]?=some x):(l.take (i+1)).all p=((l.take i).all p&&p x):=by
 obtain ⟨hl,rfl⟩:=zge.1 h
 rw [List.take_succ_eq_append_getElem hl,List.all_append]
 simp
theorem aEv {α:Type} {l:List α} {i:Nat} {x:α} {p:α->Bool} (h:l[i]?=some x) (hp:p x=true):l.any p=true:=
 List.any_eq_true.2 ⟨x,List.mem_of_getElem? h,hp⟩
theorem arY {α:Type} {l:List α} {i:Nat} {x:α} {p:α->Bool} (h:l[i]?=some x) (hp:p x=false):l.all p=false:=by
 cases ha:l.all p with
 |false=>rfl
 |true=>rw [zal] at ha;have:=ha x (List.mem_of_getElem? h);rw [hp] at this;cases this
theorem uL {α:Type} {l:List α} {i:Nat} (h:¬i<l.length):l.take i=l:=ztl (by omega)
def qB :Nat->Ex->Bool
 |0,_=>true
 |l+1,e=>e.of.any (qB l)
theorem auO :∀(left:Nat) (e:Ex) (z:Int),z=(left:Nat)->left<=1000->e.ok->PF Tryz.prog 275 [.agg e.cells,(.val (.int .i64 z))] (.val (.bool (qB left e))):=by
 intro left
 induction left with
 |zero=>
  intro e z hz _ _
  subst hz
  obtain ⟨k,n,v,of⟩:=e
  refine aG aF Tryz.func275 (by kernel_rfl) rfl rfl rfl rfl (λst=> ?_)
  (try apply wO pk;rfl);(repeat' first|show Cn _;constructor|apply wC pk;rfl;rfl|refine aB rfl ?_ ?_<;>intro h<;>(try simp at h)<;>try omega|(refine aC ?_;refine ⟨_,_,_,rfl,zwr _,zsr _, ?_,rfl⟩;try rfl))
 |succ left ih=>
  intro e z hz hl hok
  subst hz
  obtain ⟨k,n,v,of⟩:=e
  simp only [Ex.ok] at hok
  have hlen:=Ex.rows_len of
  refine aG aF Tryz.func275 (by kernel_rfl) rfl rfl rfl rfl (λst=> ?_)
  focus ((try apply wO pk;rfl);(repeat' first|show Cn _;constructor|apply wC pk;rfl;rfl|refine aB rfl ?_ ?_<;>intro h<;>(try simp at h)<;>try omega))
  refine aK (X:={i:Nat//i<=of.length/\(of.take i).any (qB left)=false}) (λi=>(((((St.nil 21 st).pv 1 ((PV.val (Value.int .i64 ((left+1:Nat)))))).pv 10 (.seq (Ex.rows of))).pv 11 ((PV.val (Value.int .i64 (((Ex.rows of).length:Nat)))))).pv 12 ((PV.val (Value.int .i64 ((i.1:Nat))))))) (λi=>of.length-i.1) ⟨0,by omega,by simp⟩ ?_ (λi=> ?_)
  ·((repeat refine Sub.pv ?_ rfl);exact Sub.nil _ _ _ (zsr _) rfl)
  obtain ⟨i,hi,hany⟩:=i
  dsimp only
  by_cases hend:of.length<=i
  ·rw [uL (by omega)] at hany
   have e:qB (left+1) (.mk k n v of)=false:=hany
   (try apply wO pk;rfl);(repeat' first|show Cn _;constructor|apply wC pk;rfl;rfl|refine aB rfl ?_ ?_<;>intro h<;>(try simp at h)<;>try omega|(refine aC ?_;refine ⟨_,_,_,rfl,zwr _,zsr _, ?_,rfl⟩;try first|rfl|(rw [e]);done))
  obtain ⟨x,hx⟩:=iK (l:=of) (i:=i) (by omega)
  have hrow:=Ex.rows_get hx
  have hxo:=Ex.oks_mem hok.2 (List.mem_of_getElem? hx)
  have hup:=aAY (p:=qB left) hx
  have hyes:qB left x=true->qB (left+1) (.mk k n v of)=true:=λh=>aEv hx h
  have hd:=ih x (left:Nat) rfl (by omega) hxo
  generalize qB left x=D at*
  obtain ⟨k',n',v',of'⟩:=x
  have hd':∀z:Int,z=(left:Nat)->PF Tryz.prog 275 [.agg (Ex.mk k' n' v' of').cells,(.val (.int .i64 z))] (.val (.bool D)):=λz hz=>hz▸hd
  cases D with
  |true=>
   have e:=hyes rfl
   (try apply wO pk;rfl);(repeat' first|show Cn _;constructor|apply wC pk;rfl;rfl|apply wE pk;rfl;rfl|refine aB rfl ?_ ?_<;>intro h<;>(try simp at h)<;>try omega|(refine aC ?_;refine ⟨_,_,_,rfl,zwr _,zsr _, ?_,rfl⟩;try first|rfl|(rw [e]);done)|(apply aH;rfl;rfl;rfl;(intro _;apply hd'<;>first|assumption|omega);rotate_left;rfl;rfl)|apply aP pk;(iterate 6 rfl);rotate_left;rfl;(intro hw;rfl);(intro hw;apply hrow<;>omega);(intro _;exact (Ex.cells_len _));rfl|intros;(try simp only [zql]);omega)
  |false=>
   rw [hany] at hup
   (try apply wO pk;rfl);(repeat' first|show Cn _;constructor|apply wC pk;rfl;rfl|apply wE pk;rfl;rfl|refine aB rfl ?_ ?_<;>intro h<;>(try simp at h)<;>try omega|(apply aH;rfl;rfl;rfl;(intro _;apply hd'<;>first|assumption|omega);rotate_left;rfl;rfl)|apply aP pk;(iterate 6 rfl);rotate_left;rfl;(intro hw;rfl);(intro hw;apply hrow<;>omega);(intro _;exact (Ex.cells_len _));rfl|refine ⟨⟨i+1,by omega,hup⟩, ?_,by simp only;omega⟩;((repeat refine Sub.pv ?_ rfl);exact Sub.nil _ _ _ (zsr _) rfl)|intros;(try simp only [zql]);omega)
def vz (v:Vl):Bool:=decide (v.kind=0)&&(decide (v.n=0)&&decide (v.s=e0))
def mJ (k n:Int) (v:Vl) (l:Int):Bool:=
 if k=0 then (decide (n>=0)&&vz v)&&decide (l=0)
 else if k=1 then (decide (n=0)&&sD v)&&decide (l=0)
 else decide (2<=k/\k<=10)&&decide (n=0)&&vz v&&decide (l=kP k)
mutual
def bQ :Ex->Bool
 | .mk k n v o=>mJ k n v o.length&&(decide (k=0)||decide (k=1)||oW o)
def oW :List Ex->Bool
 |[]=>true
 |e::es=>bQ e&&oW es
end
theorem nK :∀l,oW l=l.all bQ
 |[]=>rfl
 |e::es=>by simp [oW,nK es]
mutual
theorem lK :∀(e:Ex),e.ok->PF Tryz.prog 276 [.agg e.cells] (.val (.bool (bQ e)))
 | .mk k n v of,hok=>by
  simp only [Ex.ok] at hok
  have ih:=sS of
  have hlen:=Ex.rows_len of
  obtain ⟨v1,v2,v3⟩:=v
  have hrs:= @right_spec v1 v2 v3
  by_cases hk:2<=k/\k<=10
  ·obtain ⟨f,caps,hlook⟩:=aAJ hk.1 hk.2
   have hk0:¬k=0:=by omega
   have hk1:¬k=1:=by omega
   have hhead:bQ (.mk k n ⟨v1,v2,v3⟩ of)=(mJ k n ⟨v1,v2,v3⟩ of.length&&oW of):=by simp [bQ,hk0,hk1]
   have hF:mJ k n ⟨v1,v2,v3⟩ of.length=(decide (n=0)&&vz ⟨v1,v2,v3⟩&&decide ((of.length:Int)=kP k)):=by simp [mJ,hk0,hk1,hk]
   by_cases hh:n=0/\(v1=0/\v2=0/\v3=e0)/\(of.length:Int)=kP k
   ·have hF1:mJ k n ⟨v1,v2,v3⟩ of.length=true:=by rw [hF];simp [vz,hh]
    rw [hF1,Bool.true_and,nK] at hhead
    refine aG aF Tryz.func276 (by kernel_rfl) rfl rfl rfl rfl (λst=> ?_)
    focus ((try apply wO pk;rfl);(repeat' first|show Cn _;constructor|apply wC pk;rfl;rfl|apply wE pk;rfl;rfl|apply wD pk [] [];kernel_rfl;rfl;rfl|refine aB rfl ?_ ?_<;>intro h<;>(try simp at h)<;>try omega|(refine aC ?_;refine ⟨_,_,_,rfl,zwr _,zsr _, ?_,rfl⟩;try rfl)|(apply aH;rfl;rfl;rfl;(intro _;apply eH<;>first|assumption|omega);rotate_left;rfl;rfl)|apply kW pk;(iterate 4 rfl);(focus repeat' constructor);rfl;exact hlook;rfl|exfalso;simp_all;done))
    refine aK (X:={i:Nat//i<=of.length/\(of.take i).all bQ=true}) (λi=>((((St.nil 84 st).pv 74 (.seq (Ex.rows of))).pv 75 ((PV.val (Value.int .i64 (((Ex.rows of).length:Nat)))))).pv 76 ((PV.val (Value.int .i64 ((i.1:Nat))))))) (λi=>of.length-i.1) ⟨0,by omega,by simp⟩ ?_ (λi=> ?_)
    ·((repeat refine Sub.pv ?_ rfl);exact Sub.nil _ _ _ (zsr _) rfl)
    obtain ⟨i,hi,hall⟩:=i
    dsimp only
    by_cases hend:of.length<=i
    ·rw [uL (by omega)] at hall
     rw [hall] at hhead
     (try apply wO pk;rfl);(repeat' first|show Cn _;constructor|apply wC pk;rfl;rfl|refine aB rfl ?_ ?_<;>intro h<;>(try simp at h)<;>try omega|(refine aC ?_;refine ⟨_,_,_,rfl,zwr _,zsr _, ?_,rfl⟩;try first|rfl|(rw [hhead]);done))
    obtain ⟨x,hx⟩:=iK (l:=of) (i:=i) (by omega)
    have hrow:=Ex.rows_get hx
    have hm:=List.mem_of_getElem? hx
    have ihx:=ih x hm (Ex.oks_mem hok.2 hm)
    have hup:=akF (p:=bQ) hx
    have hno:=λh=>arY (p:=bQ) hx h
    generalize bQ x=D at*
    obtain ⟨k',n',v',of'⟩:=x
    cases D with
    |false=>
     rw [hno rfl] at hhead
     (try apply wO pk;rfl);(repeat' first|show Cn _;constructor|apply wC pk;rfl;rfl|apply wE pk;rfl;rfl|refine aB rfl ?_ ?_<;>intro h<;>(try simp at h)<;>try omega|(refine aC ?_;refine ⟨_,_,_,rfl,zwr _,zsr _, ?_,rfl⟩;try first|rfl|(rw [hhead]);done)|(apply aH;rfl;rfl;rfl;(intro _;apply ihx<;>first|assumption|omega);rotate_left;rfl;rfl)|apply aP pk;(iterate 6 rfl);rotate_left;rfl;(intro hw;rfl);(intro hw;apply hrow<;>omega);(intro _;exact (Ex.cells_len _));rfl)
    |true=>
     rw [hall] at hup
     (try apply wO pk;rfl);(repeat' first|show Cn _;constructor|apply wC pk;rfl;rfl|apply wE pk;rfl;rfl|refine aB rfl ?_ ?_<;>intro h<;>(try simp at h)<;>try omega|(apply aH;rfl;rfl;rfl;(intro _;apply ihx<;>first|assumption|omega);rotate_left;rfl;rfl)|apply aP pk;(iterate 6 rfl);rotate_left;rfl;(intro hw;rfl);(intro hw;apply hrow<;>omega);(intro _;exact (Ex.cells_len _));rfl|refine ⟨⟨i+1,by omega,hup⟩, ?_,by simp only;omega⟩;((repeat refine Sub.pv ?_ rfl);exact Sub.nil _ _ _ (zsr _) rfl)|intros;(try simp only [zql]);omega)
   ·have hF1:mJ k n ⟨v1,v2,v3⟩ of.length=false:=by
     rw [hF,<-Bool.not_eq_true]
     simp only [vz,zba,zde]
     exact λq=>hh ⟨q.1.1,q.1.2,q.2⟩
    rw [hF1,Bool.false_and] at hhead
    refine aG aF Tryz.func276 (by kernel_rfl) rfl rfl rfl rfl (λst=> ?_)
    (try apply wO pk;rfl);(repeat' first|show Cn _;constructor|apply wC pk;rfl;rfl|apply wE pk;rfl;rfl|apply wD pk [] [];kernel_rfl;rfl;rfl|refine aB rfl ?_ ?_<;>intro h<;>(try simp at h)<;>try omega|(refine aC ?_;refine ⟨_,_,_,rfl,zwr _,zsr _, ?_,rfl⟩;try first|rfl|(rw [hhead]);done)|(apply aH;rfl;rfl;rfl;(intro _;apply eH<;>first|assumption|omega);rotate_left;rfl;rfl)|apply kW pk;(iterate 4 rfl);(focus repeat' constructor);rfl;exact hlook;rfl|exfalso;simp_all;done)
  ·have hlook:=atJ hk
   by_cases hk0:k=0
   ·subst hk0
    have e:bQ (.mk 0 n ⟨v1,v2,v3⟩ of)=((decide (n>=0)&&(decide (v1=0)&&(decide (v2=0)&&decide (v3=e0))))&&decide ((of.length:Int)=0)):=by simp [bQ,mJ,vz]
    refine aG aF Tryz.func276 (by kernel_rfl) rfl rfl rfl rfl (λst=> ?_)
    (try apply wO pk;rfl);(repeat' first|show Cn _;constructor|apply wC pk;rfl;rfl|apply wE pk;rfl;rfl|apply wD pk [] [];kernel_rfl;rfl;rfl|refine aB rfl ?_ ?_<;>intro h<;>(try simp at h)<;>try omega|(refine aC ?_;refine ⟨_,_,_,rfl,zwr _,zsr _, ?_,rfl⟩;try first|rfl|((rw [e,hlen];done));done)|(apply aH;rfl;rfl;rfl;(intro _;apply eH<;>first|assumption|omega);rotate_left;rfl;rfl)|apply kW pk;(iterate 4 rfl);(focus repeat' constructor);rfl;exact hlook;rfl)
   by_cases hk1:k=1
   ·subst hk1
    have e:bQ (.mk 1 n ⟨v1,v2,v3⟩ of)=((decide (n=0)&&sD ⟨v1,v2,v3⟩)&&decide ((of.length:Int)=0)):=by simp [bQ,mJ]
    generalize sD ⟨v1,v2,v3⟩=R at*
    refine aG aF Tryz.func276 (by kernel_rfl) rfl rfl rfl rfl (λst=> ?_)
    (try apply wO pk;rfl);(repeat' first|show Cn _;constructor|apply wC pk;rfl;rfl|apply wE pk;rfl;rfl|apply wD pk [] [];kernel_rfl;rfl;rfl|refine aB rfl ?_ ?_<;>intro h<;>(try simp at h)<;>try omega|(refine aC ?_;refine ⟨_,_,_,rfl,zwr _,zsr _, ?_,rfl⟩;try first|rfl|((rw [e,hlen];done));done)|(apply aH;rfl;rfl;rfl;(intro _;(first|apply eH|apply hrs)<;>first|assumption|omega);rotate_left;rfl;rfl)|apply kW pk;(iterate 4 rfl);(focus repeat' constructor);rfl;exact hlook;rfl)
   have e:bQ (.mk k n ⟨v1,v2,v3⟩ of)=false:=by simp [bQ,mJ,hk0,hk1,hk]
   refine aG aF Tryz.func276 (by kernel_rfl) rfl rfl rfl rfl (λst=> ?_)
   (try apply wO pk;rfl);(repeat' first|show Cn _;constructor|apply wC pk;rfl;rfl|apply wE pk;rfl;rfl|apply wD pk [] [];kernel_rfl;rfl;rfl|refine aB rfl ?_ ?_<;>intro h<;>(try simp at h)<;>try omega|(refine aC ?_;refine ⟨_,_,_,rfl,zwr _,zsr _, ?_,rfl⟩;try first|rfl|(rw [e]);done)|(apply aH;rfl;rfl;rfl;(intro _;apply eH<;>first|assumption|omega);rotate_left;rfl;rfl)|apply kW pk;(iterate 4 rfl);(focus repeat' constructor);rfl;exact hlook;rfl)
theorem sS :∀(l:List Ex) (x:Ex),x∈l->x.ok->PF Tryz.prog 276 [.agg x.cells] (.val (.bool (bQ x)))
 |[],_,h,_=>by cases h
 |e::es,x,h,hok=>by
  rcases zmc.1 h with h|h
  ·rw [h] at hok⊢;exact lK e hok
  ·exact sS es x h hok
end
def uD (e:Ex):Int:=if qB 20 e then 2 else if bQ e then 0 else 1
theorem iW {e:Ex} (hok:e.ok):PF Tryz.prog 180 [.agg e.cells] (.val (.int .i64 (uD e))):=by
 have h1:=auO 20 e 20 rfl (by omega) hok
 have h2:=lK e hok
 unfold uD
 generalize qB 20 e=D at*
 generalize bQ e=F at*
 obtain ⟨k,n,v,of⟩:=e
 refine aG aF Tryz.func180 (by kernel_rfl) rfl rfl rfl rfl (λst=> ?_)
 (try apply wO pk;rfl);(repeat' first|show Cn _;constructor|apply wC pk;rfl;rfl|apply wE pk;rfl;rfl|refine aB rfl ?_ ?_<;>intro h<;>(try simp at h)<;>try omega|(refine aC ?_;refine ⟨_,_,_,rfl,zwr _,zsr _, ?_,rfl⟩;try first|rfl|(simp [*];done);done)|(apply aH;rfl;rfl;rfl;(intro _;(first|apply h1|apply h2)<;>first|assumption|omega);rotate_left;rfl;rfl))
mutual
def fF (m:Int):Ex->Bool
 | .mk k n _ o=>(!decide (k=0)||decide (n<m))&&yF m o
def yF (m:Int):List Ex->Bool
 |[]=>true
 |e::es=>fF m e&&yF m es
end
theorem oU (m:Int):∀l,yF m l=l.all (fF m)
 |[]=>rfl
 |e::es=>by simp [yF,oU m es]
mutual
theorem aaK (m:Int):∀(e:Ex),e.ok->PF Tryz.prog 201 [.agg e.cells,(.val (.int .i64 m))] (.val (.bool (fF m e)))
 | .mk k n v of,hok=>by
  simp only [Ex.ok] at hok
  have ih:=wP m of
  have hlen:=Ex.rows_len of
  have hT:fF m (.mk k n v of)=((!decide (k=0)||decide (n<m))&&of.all (fF m)):=by rw [fF,oU]
  refine aG aF Tryz.func201 (by kernel_rfl) rfl rfl rfl rfl (λst=> ?_)
  focus ((try apply wO pk;rfl);(repeat' ((show Cn _;constructor))))
  refine aK (X:={i:Nat//i<=of.length/\(of.take i).all (fF m)=true}) (λi=>((((((St.nil 28 st).pv 1 ((PV.val (Value.int .i64 (m))))).var 2 88 ((Ex.mk k n v of).cells)).pv 8 (.seq (Ex.rows of))).pv 9 ((PV.val (Value.int .i64 (((Ex.rows of).length:Nat)))))).pv 10 ((PV.val (Value.int .i64 ((i.1:Nat))))))) (λi=>of.length-i.1) ⟨0,by omega,by simp⟩ ?_ (λi=> ?_)
  ·((repeat (first|refine Sub.pv ?_ rfl|refine Sub.var ?_ rfl rfl));exact Sub.nil _ _ _ (zsr _) rfl)
  obtain ⟨i,hi,hall⟩:=i
  dsimp only
  by_cases hend:of.length<=i
  ·rw [uL (by omega)] at hall
   rw [hall,Bool.and_true] at hT
   (try apply wO pk;rfl);(repeat' first|show Cn _;constructor|apply wC pk;rfl;rfl|refine aB rfl ?_ ?_<;>intro h<;>(try simp at h)<;>try omega|(refine aC ?_;refine ⟨_,_,_,rfl,zwr _,zsr _, ?_,rfl⟩;try first|rfl|((rw [hT];done));done))
  obtain ⟨x,hx⟩:=iK (l:=of) (i:=i) (by omega)
  have hrow:=Ex.rows_get hx
  have hm:=List.mem_of_getElem? hx
  have ihx:=ih x hm (Ex.oks_mem hok.2 hm)
  have hup:=akF (p:=fF m) hx
  have hno:=λh=>arY (p:=fF m) hx h
  generalize fF m x=D at*
  obtain ⟨k',n',v',of'⟩:=x
  cases D with
  |false=>
   rw [hno rfl,Bool.and_false] at hT
   (try apply wO pk;rfl);(repeat' first|show Cn _;constructor|apply wC pk;rfl;rfl|apply wE pk;rfl;rfl|refine aB rfl ?_ ?_<;>intro h<;>(try simp at h)<;>try omega|(refine aC ?_;refine ⟨_,_,_,rfl,zwr _,zsr _, ?_,rfl⟩;try first|rfl|(rw [hT]);done)|(apply aH;rfl;rfl;rfl;(intro _;apply ihx<;>first|assumption|omega);rotate_left;rfl;rfl)|apply aP pk;(iterate 6 rfl);rotate_left;rfl;(intro hw;rfl);(intro hw;apply hrow<;>omega);(intro _;exact (Ex.cells_len _));rfl)
  |true=>
   rw [hall] at hup
   (try apply wO pk;rfl);(repeat' first|show Cn _;constructor|apply wC pk;rfl;rfl|apply wE pk;rfl;rfl|refine aB rfl ?_ ?_<;>intro h<;>(try simp at h)<;>try omega|(apply aH;rfl;rfl;rfl;(intro _;apply ihx<;>first|assumption|omega);rotate_left;rfl;rfl)|apply aP pk;(iterate 6 rfl);rotate_left;rfl;(intro hw;rfl);(intro hw;apply hrow<;>omega);(intro _;exact (Ex.cells_len _));rfl|(refine ⟨⟨i+1,by omega,hup⟩, ?_,by simp only;omega⟩;((repeat (first|refine Sub.pv ?_ rfl|refine Sub.var ?_ rfl rfl));exact Sub.nil _ _ _ (zsr _) rfl))|intros;(try simp only [zql]);omega)
theorem wP (m:Int):∀(l:List Ex) (x:Ex),x∈l->x.ok->PF Tryz.prog 201 [.agg x.cells,(.val (.int .i64 m))] (.val (.bool (fF m x)))
 |[],_,h,_=>by cases h
 |e::es,x,h,hok=>by
  rcases zmc.1 h with h|h
  ·rw [h] at hok⊢;exact aaK m e hok
  ·exact wP m es x h hok
end
def xY (nb:Bool):Int->List Int->Bool
 |_,[]=>true
 |last,x::xs=>if ((nb&& !decide (x=0))&& !decide (x=1))||((!decide (x=0)&& !decide (last=0))&& !decide (x=last)) then false else xY nb (if x=0 then last else x) xs
theorem ahM {α:Type} {l:List α} {i:Nat} {x:α} (h:l[i]?=some x):l.drop i=x::l.drop (i+1):=by
 obtain ⟨hl,rfl⟩:=zge.1 h
 exact List.drop_eq_getElem_cons hl
theorem aC8 {α:Type} {l:List α} {i:Nat} (h:¬i<l.length):l.drop i=[]:=List.drop_eq_nil_of_le (by omega)
theorem rA {m:Int} {nb:Bool} {f:FuncId} {caps:List PV} {l:List Int} (hl:l.length<2^62):PF Tryz.prog 278 [.agg [(.val (.int .i64 m)),(.val (.bool nb)), .fn f caps], .seq (jX l)] (.val (.bool (xY nb 0 l))):=by
 have hlen:=adY l
 refine aG aF Tryz.func278 (by kernel_rfl) rfl rfl rfl rfl (λst=> ?_)
 focus ((try apply wO pk;rfl);(repeat' ((show Cn _;constructor))))
 refine aK (X:={x:Nat×Int//x.1<=l.length/\xY nb 0 l=xY nb x.2 (l.drop x.1)}) (λi=>((((((St.nil 41 st).var 2 341 ([(PV.val (Value.int .i64 (m))),(PV.val (Value.bool (nb))), .fn f caps])).pv 5 ((PV.val (Value.int .i64 (i.1.2))))).pv 8 (.seq (jX l))).pv 9 ((PV.val (Value.int .i64 ((((jX l)).length:Nat)))))).pv 10 ((PV.val (Value.int .i64 ((i.1.1:Nat))))))) (λi=>l.length-i.1.1) ⟨(0,0),by simp,by simp⟩ ?_ (λi=> ?_)
 ·((repeat (first|refine Sub.pv ?_ rfl|refine Sub.var ?_ rfl rfl));exact Sub.nil _ _ _ (zsr _) rfl)
 obtain ⟨⟨i,last⟩,hi,hinv⟩:=i
 dsimp only at hi hinv
 dsimp only
 generalize xY nb 0 l=R at*
 by_cases hend:l.length<=i
 ·rw [aC8 (by omega)] at hinv
  (try apply wO pk;rfl);(repeat' first|show Cn _;constructor|apply wC pk;rfl;rfl|refine aB rfl ?_ ?_<;>intro h<;>(try simp at h)<;>try omega|(refine aC ?_;refine ⟨_,_,_,rfl,zwr _,zsr _, ?_,rfl⟩;try first|rfl|(rw [hinv];rfl);done))
 obtain ⟨x,hx⟩:=iK (l:=l) (i:=i) (by omega)
 have hrow:=acZ hx
 rw [ahM hx] at hinv
 simp only [xY] at hinv
 by_cases hc:(((nb&& !decide (x=0))&& !decide (x=1))||((!decide (x=0)&& !decide (last=0))&& !decide (x=last)))=true
 ·rw [zp hc] at hinv
  (try apply wO pk;rfl);(repeat' first|show Cn _;constructor|apply wC pk;rfl;rfl|apply wE pk;rfl;rfl|refine aB rfl ?_ ?_<;>intro h<;>(try simp at h)<;>try omega|(refine aC ?_;refine ⟨_,_,_,rfl,zwr _,zsr _, ?_,rfl⟩;try first|rfl|(rw [hinv]);done)|apply aP pk;(iterate 6 rfl);rotate_left;rfl;(intro hw;rfl);(intro hw;apply hrow<;>omega);(intro _;rfl);rfl|intros;(try simp only [zql]);omega|((exfalso;simp at*;grind)))
 rw [zn hc] at hinv
 by_cases hx0:x=0
 ·rw [zp hx0] at hinv
  (try apply wO pk;rfl);(repeat' first|show Cn _;constructor|apply wC pk;rfl;rfl|apply wE pk;rfl;rfl|refine aB rfl ?_ ?_<;>intro h<;>(try simp at h)<;>try omega|apply aP pk;(iterate 6 rfl);rotate_left;rfl;(intro hw;rfl);(intro hw;apply hrow<;>omega);(intro _;rfl);rfl|(refine ⟨⟨(i+1,last),by simp only;omega,hinv⟩, ?_,by simp only;omega⟩;((repeat (first|refine Sub.pv ?_ rfl|refine Sub.var ?_ rfl rfl));exact Sub.nil _ _ _ (zsr _) rfl))|intros;(try simp only [zql]);omega)
 ·rw [zn hx0] at hinv
  (try apply wO pk;rfl);(repeat' first|show Cn _;constructor|apply wC pk;rfl;rfl|apply wE pk;rfl;rfl|refine aB rfl ?_ ?_<;>intro h<;>(try simp at h)<;>try omega|(refine aC ?_;refine ⟨_,_,_,rfl,zwr _,zsr _, ?_,rfl⟩;try rfl)|apply aP pk;(iterate 6 rfl);rotate_left;rfl;(intro hw;rfl);(intro hw;apply hrow<;>omega);(intro _;rfl);rfl|(refine ⟨⟨(i+1,x),by simp only;omega,hinv⟩, ?_,by simp only;omega⟩;((repeat (first|refine Sub.pv ?_ rfl|refine Sub.var ?_ rfl rfl));exact Sub.nil _ _ _ (zsr _) rfl))|intros;(try simp only [zql]);omega|((exfalso;simp at*;grind)))
end Go.Proofs.YtloecjjehapblaaGreatDoor.X
