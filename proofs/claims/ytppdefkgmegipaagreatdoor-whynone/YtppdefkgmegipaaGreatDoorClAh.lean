import Derived.Test.YtppdefkgmegipaaGreatDoorClAb
set_option linter.unusedSimpArgs false
set_option linter.unusedVariables false
namespace Go.Proofs.YtppdefkgmegipaaGreatDoor.X
open Go Go.Abs
section
set_option maxRecDepth 10000
set_option maxHeartbeats 4000000
def v0 :Vl:=⟨0,0,e0⟩
inductive Ex where
 |mk (k n:Int) (v:Vl) (of:List Ex)
def Ex.k :Ex->Int| .mk k _ _ _=>k
def Ex.n :Ex->Int| .mk _ n _ _=>n
def Ex.v :Ex->Vl| .mk _ _ v _=>v
def Ex.of :Ex->List Ex| .mk _ _ _ o=>o
mutual
def Ex.cells :Ex->List PV
 | .mk k n v o=>[(vi (k)),(vi (n)),(vi (v.kind)),(vi (v.n)),(vs (v.s)), .seq (Ex.rows o)]
def Ex.rows :List Ex->List (List PV)
 |[]=>[]
 |e::es=>e.cells::Ex.rows es
end
theorem Ex.rows_map :∀l:List Ex,Ex.rows l=l.map Ex.cells
 |[]=>rfl
 |e::es=>by simp [Ex.rows,Ex.rows_map es]
theorem Ex.rows_len :∀(l:List Ex),(Ex.rows l).length=l.length
 |[]=>rfl
 |e::es=>by simp [Ex.rows,Ex.rows_len es]
theorem Ex.rows_get :∀{l:List Ex} {i:Nat} {x:Ex},l[i]?=some x->(Ex.rows l)[i]?=some x.cells
 |[],_,_,h=>by simp at h
 |e::es,0,x,h=>by simp at h;simp [Ex.rows,h]
 |e::es,i+1,x,h=>by simp at h;simpa [Ex.rows] using Ex.rows_get h
theorem Ex.cells_len :∀(x:Ex),x.cells.length=6
 | .mk _ _ _ _=>by simp [Ex.cells]
mutual
def Ex.ok :Ex->Prop
 | .mk _ _ _ o=>o.length<2^62/\Ex.oks o
def Ex.oks :List Ex->Prop
 |[]=>True
 |e::es=>e.ok/\Ex.oks es
end
mutual
theorem Ex.ok_of :∀(e:Ex),kL e.cells->e.ok
 | .mk k n v o,h=>by
  simp only [Ex.cells,kL,lens,Ex.rows_len] at h
  simp only [Ex.ok]
  exact ⟨h.2.2.2.2.2.1.1,Ex.oks_of o h.2.2.2.2.2.1.2⟩
theorem Ex.oks_of :∀(l:List Ex),oD (Ex.rows l)->Ex.oks l
 |[],_=>by simp [Ex.oks]
 |e::es,h=>by
  simp only [Ex.rows,oD] at h
  simp only [Ex.oks]
  exact ⟨Ex.ok_of e h.1,Ex.oks_of es h.2⟩
end
theorem Ex.oks_mem :∀{l:List Ex} {x:Ex},Ex.oks l->x∈l->x.ok
 |[],_,_,hx=>by cases hx
 |e::es,x,h,hx=>by
  simp only [Ex.oks] at h
  rcases zmc.1 hx with rfl|hx
  ·exact h.1
  ·exact Ex.oks_mem h.2 hx
def irows (l:List Int):List (List PV):=l.map I1
theorem yW {l:List Int} {i:Nat} {x:Int} (h:l[i]?=some x):(irows l)[i]?=some [(vi (x))]:=by simp [irows,h,I1]
theorem zR (l:List Int):(irows l).length=l.length:=by simp [irows]
theorem gB {α:Type} {l:List α} {i:Nat} (h:i<l.length):∃x,l[i]?=some x:=⟨l[i],by simp [h]⟩
end
section
attribute [local irreducible] Ev PWp
set_option maxRecDepth 10000
set_option maxHeartbeats 4000000
theorem rJ {k n:Int} {b:ByteArray}:PF Tryz.prog 224 [.agg [(vi (k)),(vi (n)),(vs (b))]] (vb (decide (k=0))):=by
 refine pF Tryz.func224 rfl (λst=> ?_)
 (repeat' first|apply wZ;rfl|show Cn _;constructor|exact rfl)
def pE (v:Vl):Bool:=if v.kind=0 then decide (v.n=0)&&decide (v.s=e0) else if v.kind=1 then (decide (v.s=e0)&&decide (v.n>= -1099511627776))&&decide (v.n<=1099511627776) else if v.kind=2 then decide (v.n=0)&&decide ((v.s.size:Int)<=200) else false
theorem right_spec {k n:Int} {b:ByteArray}:PF Tryz.prog 210 [.agg [(vi (k)),(vi (n)),(vs (b))]] (vb (pE ⟨k,n,b⟩)):=by
 unfold pE
 dsimp only
 by_cases h0:k=0
 ·rw [zp h0]
  refine pF Tryz.func210 rfl (λst=> ?_)
  (repeat' first|apply wZ;rfl|show Cn _;constructor|exact rfl|show (_:PV)=_;((simp [h0];done));done|omega|intro h)
 by_cases h1:k=1
 ·rw [zn h0,zp h1]
  refine pF Tryz.func210 rfl (λst=> ?_)
  (repeat' first|apply wZ;rfl|show Cn _;constructor|exact rfl|omega|intro h)
 rw [zn h0,zn h1]
 by_cases h2:k=2
 ·rw [zp h2]
  refine pF Tryz.func210 rfl (λst=> ?_)
  (repeat' first|apply wZ;rfl|show Cn _;constructor|exact rfl|omega|intro h)
 rw [zn h2]
 refine pF Tryz.func210 rfl (λst=> ?_)
 (repeat' first|apply wZ;rfl|show Cn _;constructor|exact rfl|omega|intro h)
theorem cS {n:Int}:PF Tryz.prog 247 [(vi (n))] (.agg [(vi (1)),(vi (n)),(vs (e0))]):=by
 refine pF Tryz.func247 rfl (λst=> ?_)
 (repeat' first|apply wZ;rfl|show Cn _;constructor|exact rfl)
theorem pL {x:Bool}:PF Tryz.prog 222 [(vb (x))] (.agg [(vi (1)),(vi (if x then 1 else 0)),(vs (e0))]):=by
 refine pF Tryz.func222 rfl (λst=> ?_)
 (repeat' first|apply wZ;rfl|show Cn _;constructor|exact rfl|(apply cS)|show (_:PV)=_;(simp [*];done);done|apply wY;rfl|intro h)
def auC (v:Vl):Bool:=decide (v.kind=1)&&(decide (v.n=0)&&decide (v.s=e0))
def oneV (v:Vl):Bool:=decide (v.kind=1)&& !decide (v.n=0)
theorem apE {k n:Int} {b:ByteArray}:PF Tryz.prog 219 [.agg [(vi (k)),(vi (n)),(vs (b))]] (vb (auC ⟨k,n,b⟩)):=by
 refine pF Tryz.func219 rfl (λst=> ?_)
 (repeat' first|apply wZ;rfl|show Cn _;constructor|exact rfl|apply KR.mk;kernel_rfl|(apply cS)|apply wY;rfl)
theorem one_spec {k n:Int} {b:ByteArray}:PF Tryz.prog 129 [.agg [(vi (k)),(vi (n)),(vs (b))]] (vb (oneV ⟨k,n,b⟩)):=by
 refine pF Tryz.func129 rfl (λst=> ?_)
 (repeat' first|apply wZ;rfl|show Cn _;constructor|exact rfl)
theorem axO {k n:Int} {b:ByteArray} {k' n':Int} {b':ByteArray}:PF Tryz.prog 216 [.agg [(vi (k)),(vi (n)),(vs (b))], .agg [(vi (k')),(vi (n')),(vs (b'))]] (vb (decide (k=k')&&(decide (n=n')&&decide (b=b')))):=by
 refine pF Tryz.func216 rfl (λst=> ?_)
 (repeat' first|apply wZ;rfl|show Cn _;constructor|exact rfl)
def aAz (a b:ByteArray):Bool:=Op.bytesLess a.toList b.toList
theorem fX {k n:Int} {b:ByteArray} {k' n':Int} {b':ByteArray}:PF Tryz.prog 217 [.agg [(vi (k)),(vi (n)),(vs (b))], .agg [(vi (k')),(vi (n')),(vs (b'))]] (vb (decide (n<n')||aAz b b')):=by
 refine pF Tryz.func217 rfl (λst=> ?_)
 (repeat' first|apply wZ;rfl|show Cn _;constructor|exact rfl)
theorem atQ {k n:Int} {b:ByteArray} {k' n':Int} {b':ByteArray}:PF Tryz.prog 221 [.agg [(vi (k)),(vi (n)),(vs (b))], .agg [(vi (k')),(vi (n')),(vs (b'))]] (.tup [.agg [(vi (1)),(vi (if decide (n=0) then 1 else 0)),(vs (e0))],(vi (0))]):=by
 refine pF Tryz.func221 rfl (λst=> ?_)
 (repeat' first|apply wZ;rfl|show Cn _;constructor|exact rfl|(apply pL)|apply wY;rfl)
theorem afW {k n:Int} {b:ByteArray} {k' n':Int} {b':ByteArray}:PF Tryz.prog 223 [.agg [(vi (k)),(vi (n)),(vs (b))], .agg [(vi (k')),(vi (n')),(vs (b'))]] (.tup [.agg [(vi (1)),(vi (if decide (k=0) then 1 else 0)),(vs (e0))],(vi (0))]):=by
 refine pF Tryz.func223 rfl (λst=> ?_)
 (repeat' first|apply wZ;rfl|show Cn _;constructor|exact rfl|((first|apply pL|apply rJ))|apply wY;rfl)
def adN (f:FuncId) (op:Int->Int->Int):Prop:=∀a b,PF Tryz.prog f [(vi (a)),(vi (b))] (vi (IntKind.wrap .i64 (op a b)))
theorem apU :adN 212 (· + ·):=by
 intro a b
 refine pF Tryz.func212 rfl (λst=> ?_)
 ((apply aA4 pk 4);rfl;(focus repeat' constructor);(focus repeat' (exact All.nil)))
 refine kS ?_
 iterate 2 (apply pH aT;iterate 4 rfl)
 (apply ayQ;iterate 5 rfl)
 (apply pH aT;iterate 4 rfl)
 refine xL ?_
 (repeat' first|apply wZ;rfl|show Cn _;constructor|exact rfl)
theorem aoP :adN 213 (· - ·):=by
 intro a b
 refine pF Tryz.func213 rfl (λst=> ?_)
 ((apply aA4 pk 4);rfl;(focus repeat' constructor);(focus repeat' (exact All.nil)))
 refine kS ?_
 iterate 2 (apply pH aT;iterate 4 rfl)
 (apply azC;iterate 5 rfl)
 (apply pH aT;iterate 4 rfl)
 refine xL ?_
 (repeat' first|apply wZ;rfl|show Cn _;constructor|exact rfl)
theorem anZ :adN 214 (· * ·):=by
 intro a b
 refine pF Tryz.func214 rfl (λst=> ?_)
 ((apply aA4 pk 4);rfl;(focus repeat' constructor);(focus repeat' (exact All.nil)))
 refine kS ?_
 iterate 2 (apply pH aT;iterate 4 rfl)
 (apply ayT;iterate 5 rfl)
 (apply pH aT;iterate 4 rfl)
 refine xL ?_
 (repeat' first|apply wZ;rfl|show Cn _;constructor|exact rfl)
def lim (n:Int):Prop:= -4611686018427387904<=n/\n<=4611686018427387904
def aA7 (op:Int->Int->Int) (a b:Int):Bool:=(((decide (max a (0-a)>0)&&decide (max b (0-b)>0))&&decide (IntKind.wrap .i64 (op 1 1)=1))&&decide (max a (0-a)>1099511627776/max b (0-b)))
def afI (op:Int->Int->Int) (a b:Int):Bool:=(aA7 op a b||decide (IntKind.wrap .i64 (op a b)>1099511627776))||decide (IntKind.wrap .i64 (op a b)< -1099511627776)
theorem aqO {f:FuncId} {op:Int->Int->Int} (hf:adN f op) {k n:Int} {b:ByteArray} {k' n':Int} {b':ByteArray} (h1:lim n) (h2:lim n'):PF Tryz.prog 246 [.agg [(vi (k)),(vi (n)),(vs (b))], .agg [(vi (k')),(vi (n')),(vs (b'))], .rp [.fn f []]]
  (if afI op n n' then .tup [.agg [(vi (0)),(vi (0)),(vs (e0))],(vi (20))] else .tup [.agg [(vi (1)),(vi (IntKind.wrap .i64 (op n n'))),(vs (e0))],(vi (0))]):=by
 obtain ⟨h1,h1'⟩:=h1
 obtain ⟨h2,h2'⟩:=h2
 have e1:=hf 1 1
 have e2:=hf n n'
 have hfin:afI op n n'=((aA7 op n n'||decide (IntKind.wrap .i64 (op n n')>1099511627776))||decide (IntKind.wrap .i64 (op n n')< -1099511627776)):=rfl
 unfold aA7 at hfin
 generalize afI op n n'=R at*
 refine pF Tryz.func246 rfl (λst=> ?_)
 (repeat' first|apply wZ;rfl|show Cn _;constructor|exact rfl|apply KR.mk;kernel_rfl|((first|apply e1|apply e2|apply cS))|show (_:PV)=_;(first|rw [show R=true from by rw [hfin];simpa using h];rfl|rw [show R=false from by rw [hfin];simpa using h];rfl);done|((intro h;(have h:=(aDl h).2);(simp only [zba,zde] at h);omega))|apply wY;rfl|omega|(intro h;simp at h))
def lP (r:Vl×Int):PV:= .tup [.agg [(vi (r.1.kind)),(vi (r.1.n)),(vs (r.1.s))],(vi (r.2))]
def vN (n:Int):Vl:=⟨1,n,e0⟩
def lJ (b:Bool):Vl:=vN (if b then 1 else 0)
def agH (f:FuncId) (caps:List PV) (r:Vl->Vl->Vl×Int):Prop:=
 ∀k n b k' n' b',lim n->lim n'->PF Tryz.prog f ([.agg [(vi (k)),(vi (n)),(vs (b))], .agg [(vi (k')),(vi (n')),(vs (b'))]]++caps) (lP (r ⟨k,n,b⟩ ⟨k',n',b'⟩))
def aAY (f:FuncId) (op:Vl->Vl->Bool):Prop:=∀{k n b k' n' b'},PF Tryz.prog f [.agg [(vi (k)),(vi (n)),(vs (b))], .agg [(vi (k')),(vi (n')),(vs (b'))]] (vb (op ⟨k,n,b⟩ ⟨k',n',b'⟩))
def aBY (f:FuncId) (op:Vl->Bool):Prop:=∀{k n b},PF Tryz.prog f [.agg [(vi (k)),(vi (n)),(vs (b))]] (vb (op ⟨k,n,b⟩))
def uP (op:Int->Int->Int) (a b:Vl):Vl×Int:=if afI op a.n b.n then (v0,20) else (vN (IntKind.wrap .i64 (op a.n b.n)),0)
theorem rI {f:FuncId} {op:Int->Int->Int} (hf:adN f op):agH 246 [.rp [.fn f []]] (uP op):=by
 intro k n b k' n' b' h1 h2
 have:=aqO hf (k:=k) (b:=b) (k':=k') (b':=b') h1 h2
 unfold uP
 simp only
 split at this
 ·rename_i h;rw [zp h];exact this
 ·rename_i h;rw [zn h];exact this
theorem zT {f:FuncId} {op:Vl->Vl->Bool} (hf:aAY f op):agH 248 [.rp [.fn f []]] (λa b=>(lJ (op a b),0)):=by
 intro k n b k' n' b' h1 h2
 have e1:= @hf k n b k' n' b'
 refine pF Tryz.func248 rfl (λst=> ?_)
 (repeat' first|apply wZ;rfl|show Cn _;constructor|exact rfl|((first|apply e1|apply pL))|apply wY;rfl)
def iN (r:Vl->Vl->Vl×Int) (a b:Vl):Vl×Int:=if (decide (a.kind=0)||decide (b.kind=0)) then (v0,0) else r a b
theorem fY {f:FuncId} {caps:List PV} {r:Vl->Vl->Vl×Int} (hf:agH f caps r):agH 250 [.rp [.fn f caps]] (iN r):=by
 intro k n b k' n' b' h1 h2
 have e1:=hf k n b k' n' b' h1 h2
 have hd:iN r ⟨k,n,b⟩ ⟨k',n',b'⟩=if (decide (k=0)||decide (k'=0)) then (v0,0) else r ⟨k,n,b⟩ ⟨k',n',b'⟩:=rfl
 generalize iN r ⟨k,n,b⟩ ⟨k',n',b'⟩=R at*
 generalize r ⟨k,n,b⟩ ⟨k',n',b'⟩=R0 at*
 unfold lP at e1⊢
 refine pF Tryz.func250 rfl (λst=> ?_)
 (repeat' first|apply wZ;rfl|show Cn _;constructor|exact rfl|((first|apply e1|apply rJ))|show (_:PV)=_;((simp [*,v0];done));done|apply wY;rfl|(intro h;simp at h))
def zD (op:Vl->Bool) (so:Int) (a b:Vl):Vl×Int:=if (op a||op b) then (vN so,0) else if (decide (a.kind=0)||decide (b.kind=0)) then (v0,0) else (vN (1-so),0)
theorem vP {f:FuncId} {op:Vl->Bool} (hf:aBY f op) {so:Int} (h0:0<=so) (h1:so<=1):agH 249 [.rp [.fn f []], .rp [(vi (so))]] (zD op so):=by
 intro k n b k' n' b' _ _
 have e1:= @hf k n b
 have e2:= @hf k' n' b'
 have hd:zD op so ⟨k,n,b⟩ ⟨k',n',b'⟩=if (op ⟨k,n,b⟩||op ⟨k',n',b'⟩) then (vN so,0) else if (decide (k=0)||decide (k'=0)) then (v0,0) else (vN (1-so),0):=rfl
 generalize zD op so ⟨k,n,b⟩ ⟨k',n',b'⟩=R at*
 generalize op ⟨k,n,b⟩=A at*
 generalize op ⟨k',n',b'⟩=B at*
 unfold lP
 refine pF Tryz.func249 rfl (λst=> ?_)
 (repeat' first|apply wZ;rfl|show Cn _;constructor|exact rfl|((first|apply e1|apply e2|apply rJ|apply cS))|show (_:PV)=_;((simp [*,v0,vN];done));done|apply wY;rfl|omega|(intro h;simp at h))
theorem auF :agH 221 [] (λa _=>(lJ (decide (a.n=0)),0)):=λ_ _ _ _ _ _ _ _=>atQ
theorem aeI :agH 223 [] (λa _=>(lJ (decide (a.kind=0)),0)):=λ_ _ _ _ _ _ _ _=>afW
theorem xI {p:FuncId} {caps:List PV}:PF Tryz.prog 220 [.fn p caps] (.fn 250 [.rp [.fn p caps]]):=by
 refine pF Tryz.func220 rfl (λst=> ?_)
 (repeat' first|apply wZ;rfl|show Cn _;constructor|exact rfl|apply aQ 1;rfl;rfl)
theorem ahM {f:FuncId}:PF Tryz.prog 211 [.fn f []] (.agg [(vi (2)),(vb (true)), .fn 250 [.rp [.fn 246 [.rp [.fn f []]]]]]):=by
 refine pF Tryz.func211 rfl (λst=> ?_)
 (repeat' first|apply wZ;rfl|show Cn _;constructor|exact rfl|(apply xI)|apply aQ 1;rfl;rfl|apply wY;rfl)
theorem azE {f:FuncId}:PF Tryz.prog 215 [.fn f []] (.agg [(vi (2)),(vb (false)), .fn 250 [.rp [.fn 248 [.rp [.fn f []]]]]]):=by
 refine pF Tryz.func215 rfl (λst=> ?_)
 (repeat' first|apply wZ;rfl|show Cn _;constructor|exact rfl|(apply xI)|apply aQ 1;rfl;rfl|apply wY;rfl)
theorem awC {f:FuncId} {so:Int}:PF Tryz.prog 218 [.fn f [],(vi (so))] (.agg [(vi (2)),(vb (true)), .fn 249 [.rp [.fn f []], .rp [(vi (so))]]]):=by
 refine pF Tryz.func218 rfl (λst=> ?_)
 (repeat' first|apply wZ;rfl|show Cn _;constructor|exact rfl|apply aQ 2;rfl;rfl|apply aQ 3;rfl;rfl)
def asJ (f:FuncId):PV:= .agg [(vi (2)),(vb (true)), .fn 250 [.rp [.fn 246 [.rp [.fn f []]]]]]
def aB0 (f:FuncId):PV:= .agg [(vi (2)),(vb (false)), .fn 250 [.rp [.fn 248 [.rp [.fn f []]]]]]
def aAq (f:FuncId) (so:Int):PV:= .agg [(vi (2)),(vb (true)), .fn 249 [.rp [.fn f []], .rp [(vi (so))]]]
def nM :List (Value×PV):=[(.int .i64 2,asJ 212),(.int .i64 3,asJ 213),(.int .i64 4,asJ 214),(.int .i64 5,aB0 216),(.int .i64 6,aB0 217),(.int .i64 7,aAq 219 0),(.int .i64 8,aAq 129 1),
 (.int .i64 9, .agg [(vi (1)),(vb (true)), .fn 250 [.rp [.fn 221 []]]]),(.int .i64 10, .agg [(vi (1)),(vb (false)), .fn 223 []])]
theorem cQ :PF Tryz.prog 175 [] (.fmap nM):=by
 refine pF Tryz.func175 rfl (λst=> ?_)
 focus ((repeat' first|apply yI 0;rfl;exact aA _ _ _|((exact Cn.any ⟨_,_,st,rfl,zwr _,StSub.via id hid (λj h=>by repeat (first|refine Eq.trans (aC h) ?_|exact rfl)),rfl,rfl⟩))|apply wZ;rfl|show Cn _;constructor|((first|apply ahM|apply azE|apply awC|apply xI))|((refine xF rfl (λid hid=> ?_)))|apply anP aT;exact .inl rfl;(iterate 7 rfl);exact aA _ _ _;rfl|apply wY;rfl))
def eqV (a b:Vl):Bool:=decide (a.kind=b.kind)&&(decide (a.n=b.n)&&decide (a.s=b.s))
def bS (a b:Vl):Bool:=decide (a.n<b.n)||aAz a.s b.s
def iO (k:Int):Int:=if k=9\/k=10 then 1 else 2
def oG (k:Int):Bool:= !decide (k=5\/k=6\/k=10)
def pW (k:Int) (a b:Vl):Vl×Int:=
 if k=2 then iN (uP (· + ·)) a b else if k=3 then iN (uP (· - ·)) a b else if k=4 then iN (uP (· * ·)) a b
 else if k=5 then iN (λa b=>(lJ (eqV a b),0)) a b else if k=6 then iN (λa b=>(lJ (bS a b),0)) a b
 else if k=7 then zD auC 0 a b else if k=8 then zD oneV 1 a b
 else if k=9 then iN (λa _=>(lJ (decide (a.n=0)),0)) a b else (lJ (decide (a.kind=0)),0)
theorem uM {k:Int} (h1:2<=k) (h2:k<=10):∃f caps,gZ tt 247 nM (.int .i64 k) false=some (.agg [(vi (iO k)),(vb (oG k)), .fn f caps])/\agH f caps (pW k):=by
 have:k=2\/k=3\/k=4\/k=5\/k=6\/k=7\/k=8\/k=9\/k=10:=by omega
 rcases this with rfl|rfl|rfl|rfl|rfl|rfl|rfl|rfl|rfl
 ·exact ⟨_,_,rfl,fY (rI apU)⟩
 ·exact ⟨_,_,rfl,fY (rI aoP)⟩
 ·exact ⟨_,_,rfl,fY (rI anZ)⟩
 ·exact ⟨_,_,rfl,fY (zT (op:=eqV) (fun {_ _ _ _ _ _}=>axO))⟩
 ·exact ⟨_,_,rfl,fY (zT (op:=bS) (fun {_ _ _ _ _ _}=>fX))⟩
 ·exact ⟨_,_,rfl,vP (op:=auC) (fun {_ _ _}=>apE) (by omega) (by omega)⟩
 ·exact ⟨_,_,rfl,vP (op:=oneV) (fun {_ _ _}=>one_spec) (by omega) (by omega)⟩
 ·exact ⟨_,_,rfl,fY auF⟩
 ·exact ⟨_,_,rfl,aeI⟩
theorem auL {k:Int} (h1:2<=k) (h2:k<=10):∃f caps,gZ tt 247 nM (.int .i64 k) true=some (.tup [.agg [(vi (iO k)),(vb (oG k)), .fn f caps],(vb (true))]):=by
 have:k=2\/k=3\/k=4\/k=5\/k=6\/k=7\/k=8\/k=9\/k=10:=by omega
 rcases this with rfl|rfl|rfl|rfl|rfl|rfl|rfl|rfl|rfl<;>exact ⟨_,_,rfl⟩
theorem amT {k:Int} (h:¬(2<=k/\k<=10)):gZ tt 247 nM (.int .i64 k) true=some (.tup [.agg [(vi (0)),(vb (false)), .val .nilFunc],(vb (false))]):=by
 have hf:xJ (.int .i64 k) nM=some none:=by
  unfold nM
  simp only [xJ,qD,lM,zqt]
  have e2:¬k=2:=by omega
  have e3:¬k=3:=by omega
  have e4:¬k=4:=by omega
  have e5:¬k=5:=by omega
  have e6:¬k=6:=by omega
  have e7:¬k=7:=by omega
  have e8:¬k=8:=by omega
  have e9:¬k=9:=by omega
  have e10:¬k=10:=by omega
  simp [e2,e3,e4,e5,e6,e7,e8,e9,e10]
 unfold gZ
 rw [hf]
 rfl
theorem avD {α:Type} {l:List α} {i:Nat} {x:α} {p:α->Bool} (h:l[i]?=some x):(l.take (i+1)).any p=((l.take i).any p||p x):=by
 obtain ⟨hl,rfl⟩:=zge.1 h
 rw [List.take_succ_eq_append_getElem hl,List.any_append]
 simp
theorem afH {α:Type} {l:List α} {i:Nat} {x:α} {p:α->Bool} (h:l[i]?=some x):(l.take (i+1)).all p=((l.take i).all p&&p x):=by
 obtain ⟨hl,rfl⟩:=zge.1 h
 rw [List.take_succ_eq_append_getElem hl,List.all_append]
 simp
theorem aAS {α:Type} {l:List α} {i:Nat} {x:α} {p:α->Bool} (h:l[i]?=some x) (hp:p x=true):l.any p=true:=
 List.any_eq_true.2 ⟨x,List.mem_of_getElem? h,hp⟩
theorem alW {α:Type} {l:List α} {i:Nat} {x:α} {p:α->Bool} (h:l[i]?=some x) (hp:p x=false):l.all p=false:=by
 cases ha:l.all p with
 |false=>rfl
 |true=>rw [zal] at ha;have:=ha x (List.mem_of_getElem? h);rw [hp] at this;cases this
theorem qZ {α:Type} {l:List α} {i:Nat} (h:¬i<l.length):l.take i=l:=ztl (by omega)
def mY :Nat->Ex->Bool
 |0,_=>true
 |l+1,e=>e.of.any (mY l)
theorem anO :∀(left:Nat) (e:Ex) (z:Int),z=(left:Nat)->left<=1000->e.ok->PF Tryz.prog 172 [.agg e.cells,(vi (z))] (vb (mY left e)):=by
 intro left
 induction left with
 |zero=>
  intro e z hz _ _
  subst hz
  obtain ⟨k,n,v,of⟩:=e
  refine pF Tryz.func172 rfl (λst=> ?_)
  (repeat' first|apply wZ;rfl|show Cn _;constructor|exact rfl)
 |succ left ih=>
  intro e z hz hl hok
  subst hz
  obtain ⟨k,n,v,of⟩:=e
  simp only [Ex.ok] at hok
  have hlen:=Ex.rows_len of
  refine pF Tryz.func172 rfl (λst=> ?_)
  focus ((repeat' first|apply wZ;rfl|show Cn _;constructor))
  refine aG (X:={i:Nat//i<=of.length/\(of.take i).any (mY left)=false}) (λi=>(((((St.nil 21 st).pv 1 ((vi ((left+1:Nat))))).pv 10 (.seq (Ex.rows of))).pv 11 ((vi (((Ex.rows of).length:Nat))))).pv 12 ((vi ((i.1:Nat)))))) (λi=>of.length-i.1) ⟨0,by omega,by simp⟩ ?_ (λi=> ?_)
  ·(repeat' first|show Cn _;constructor|exact rfl)
  obtain ⟨i,hi,hany⟩:=i
  dsimp only
  by_cases hend:of.length<=i
  ·rw [qZ (by omega)] at hany
   have e:mY (left+1) (.mk k n v of)=false:=hany
   (repeat' first|apply wZ;rfl|show Cn _;constructor|exact rfl|show (_:PV)=_;(rw [e]);done|omega|(intro h;simp at h))
  obtain ⟨x,hx⟩:=gB (l:=of) (i:=i) (by omega)
  have hrow:=Ex.rows_get hx
  have hxo:=Ex.oks_mem hok.2 (List.mem_of_getElem? hx)
  have hup:=avD (p:=mY left) hx
  have hyes:mY left x=true->mY (left+1) (.mk k n v of)=true:=λh=>aAS hx h
  have hd:=ih x (left:Nat) rfl (by omega) hxo
  generalize mY left x=D at*
  obtain ⟨k',n',v',of'⟩:=x
  have hd':∀z:Int,z=(left:Nat)->PF Tryz.prog 172 [.agg (Ex.mk k' n' v' of').cells,(vi (z))] (vb (D)):=λz hz=>hz▸hd
  cases D with
  |true=>
   have e:=hyes rfl
   (repeat' first|apply wZ;rfl|show Cn _;constructor|exact rfl|apply bX pk;(iterate 6 rfl);rotate_left;rfl;(intro hw;rfl);(intro hw;apply hrow<;>omega);(intro _;exact (Ex.cells_len _));rfl|(apply hd'<;>(omega))|show (_:PV)=_;(rw [e]);done|apply wY;rfl|omega|(intro h;simp at h))
  |false=>
   rw [hany] at hup
   (repeat' first|(refine ⟨⟨i+1,by omega,hup⟩, ?_, ?_⟩)|apply wZ;rfl|show Cn _;constructor|exact rfl|apply bX pk;(iterate 6 rfl);rotate_left;rfl;(intro hw;rfl);(intro hw;apply hrow<;>omega);(intro _;exact (Ex.cells_len _));rfl|(apply hd'<;>(omega))|apply wY;rfl|omega|simp only [zql];omega|(intro h;simp at h))
def vz (v:Vl):Bool:=decide (v.kind=0)&&(decide (v.n=0)&&decide (v.s=e0))
def kF (k n:Int) (v:Vl) (l:Int):Bool:=
 if k=0 then (decide (n>=0)&&vz v)&&decide (l=0)
 else if k=1 then (decide (n=0)&&pE v)&&decide (l=0)
 else decide (2<=k/\k<=10)&&decide (n=0)&&vz v&&decide (l=iO k)
mutual
def bJ :Ex->Bool
 | .mk k n v o=>kF k n v o.length&&(decide (k=0)||decide (k=1)||lZ o)
def lZ :List Ex->Bool
 |[]=>true
 |e::es=>bJ e&&lZ es
end
theorem kU :∀l,lZ l=l.all bJ
 |[]=>rfl
 |e::es=>by simp [lZ,kU es]
mutual
theorem jF :∀(e:Ex),e.ok->PF Tryz.prog 173 [.agg e.cells] (vb (bJ e))
 | .mk k n v of,hok=>by
  simp only [Ex.ok] at hok
  have ih:=pR of
  have hlen:=Ex.rows_len of
  obtain ⟨v1,v2,v3⟩:=v
  have hrs:= @right_spec v1 v2 v3
  by_cases hk:2<=k/\k<=10
  ·obtain ⟨f,caps,hlook⟩:=auL hk.1 hk.2
   have hk0:¬k=0:=by omega
   have hk1:¬k=1:=by omega
   have hhead:bJ (.mk k n ⟨v1,v2,v3⟩ of)=(kF k n ⟨v1,v2,v3⟩ of.length&&lZ of):=by simp [bJ,hk0,hk1]
   have hF:kF k n ⟨v1,v2,v3⟩ of.length=(decide (n=0)&&vz ⟨v1,v2,v3⟩&&decide ((of.length:Int)=iO k)):=by simp [kF,hk0,hk1,hk]
   by_cases hh:n=0/\(v1=0/\v2=0/\v3=e0)/\(of.length:Int)=iO k
   ·have hF1:kF k n ⟨v1,v2,v3⟩ of.length=true:=by rw [hF];simp [vz,hh]
    rw [hF1,Bool.true_and,kU] at hhead
    refine pF Tryz.func173 rfl (λst=> ?_)
    focus ((repeat' first|apply wZ;rfl|show Cn _;constructor|exact rfl|apply KR.mk;kernel_rfl|(apply cQ)|apply oK pk;(iterate 4 rfl);(focus repeat' constructor);rfl;exact hlook;rfl|apply wY;rfl|omega|exfalso;simp_all;done|(intro h;simp at h)|intro h))
    refine aG (X:={i:Nat//i<=of.length/\(of.take i).all bJ=true}) (λi=>((((St.nil 84 st).pv 74 (.seq (Ex.rows of))).pv 75 ((vi (((Ex.rows of).length:Nat))))).pv 76 ((vi ((i.1:Nat)))))) (λi=>of.length-i.1) ⟨0,by omega,by simp⟩ ?_ (λi=> ?_)
    ·(repeat' first|show Cn _;constructor|exact rfl)
    obtain ⟨i,hi,hall⟩:=i
    dsimp only
    by_cases hend:of.length<=i
    ·rw [qZ (by omega)] at hall
     rw [hall] at hhead
     (repeat' first|apply wZ;rfl|show Cn _;constructor|exact rfl|show (_:PV)=_;(rw [hhead]);done|omega|(intro h;simp at h))
    obtain ⟨x,hx⟩:=gB (l:=of) (i:=i) (by omega)
    have hrow:=Ex.rows_get hx
    have hm:=List.mem_of_getElem? hx
    have ihx:=ih x hm (Ex.oks_mem hok.2 hm)
    have hup:=afH (p:=bJ) hx
    have hno:=λh=>alW (p:=bJ) hx h
    generalize bJ x=D at*
    obtain ⟨k',n',v',of'⟩:=x
    cases D with
    |false=>
     rw [hno rfl] at hhead
     (repeat' first|apply wZ;rfl|show Cn _;constructor|exact rfl|apply bX pk;(iterate 6 rfl);rotate_left;rfl;(intro hw;rfl);(intro hw;apply hrow<;>omega);(intro _;exact (Ex.cells_len _));rfl|(apply ihx)|show (_:PV)=_;(rw [hhead]);done|apply wY;rfl|omega|(intro h;simp at h))
    |true=>
     rw [hall] at hup
     (repeat' first|(refine ⟨⟨i+1,by omega,hup⟩, ?_, ?_⟩)|apply wZ;rfl|show Cn _;constructor|exact rfl|apply bX pk;(iterate 6 rfl);rotate_left;rfl;(intro hw;rfl);(intro hw;apply hrow<;>omega);(intro _;exact (Ex.cells_len _));rfl|(apply ihx)|apply wY;rfl|omega|simp only [zql];omega|(intro h;simp at h))
   ·have hF1:kF k n ⟨v1,v2,v3⟩ of.length=false:=by
     rw [hF,<-Bool.not_eq_true]
     simp only [vz,zba,zde]
     exact λq=>hh ⟨q.1.1,q.1.2,q.2⟩
    rw [hF1,Bool.false_and] at hhead
    refine pF Tryz.func173 rfl (λst=> ?_)
    (repeat' first|apply wZ;rfl|show Cn _;constructor|exact rfl|apply KR.mk;kernel_rfl|(apply cQ)|show (_:PV)=_;(rw [hhead]);done|apply oK pk;(iterate 4 rfl);(focus repeat' constructor);rfl;exact hlook;rfl|apply wY;rfl|omega|exfalso;simp_all;done|(intro h;simp at h)|intro h)
  ·have hlook:=amT hk
   by_cases hk0:k=0
   ·subst hk0
    have e:bJ (.mk 0 n ⟨v1,v2,v3⟩ of)=((decide (n>=0)&&(decide (v1=0)&&(decide (v2=0)&&decide (v3=e0))))&&decide ((of.length:Int)=0)):=by simp [bJ,kF,vz]
    refine pF Tryz.func173 rfl (λst=> ?_)
    (repeat' first|apply wZ;rfl|show Cn _;constructor|exact rfl|apply KR.mk;kernel_rfl|(apply cQ)|show (_:PV)=_;((rw [e,hlen];done));done|apply oK pk;(iterate 4 rfl);(focus repeat' constructor);rfl;exact hlook;rfl|apply wY;rfl)
   by_cases hk1:k=1
   ·subst hk1
    have e:bJ (.mk 1 n ⟨v1,v2,v3⟩ of)=((decide (n=0)&&pE ⟨v1,v2,v3⟩)&&decide ((of.length:Int)=0)):=by simp [bJ,kF]
    generalize pE ⟨v1,v2,v3⟩=R at*
    refine pF Tryz.func173 rfl (λst=> ?_)
    (repeat' first|apply wZ;rfl|show Cn _;constructor|exact rfl|apply KR.mk;kernel_rfl|((first|apply cQ|apply hrs))|show (_:PV)=_;((rw [e,hlen];done));done|apply oK pk;(iterate 4 rfl);(focus repeat' constructor);rfl;exact hlook;rfl|apply wY;rfl)
   have e:bJ (.mk k n ⟨v1,v2,v3⟩ of)=false:=by simp [bJ,kF,hk0,hk1,hk]
   refine pF Tryz.func173 rfl (λst=> ?_)
   (repeat' first|apply wZ;rfl|show Cn _;constructor|exact rfl|apply KR.mk;kernel_rfl|(apply cQ)|show (_:PV)=_;(rw [e]);done|apply oK pk;(iterate 4 rfl);(focus repeat' constructor);rfl;exact hlook;rfl|apply wY;rfl|omega|intro h)
theorem pR :∀(l:List Ex) (x:Ex),x∈l->x.ok->PF Tryz.prog 173 [.agg x.cells] (vb (bJ x))
 |[],_,h,_=>by cases h
 |e::es,x,h,hok=>by
  rcases zmc.1 h with h|h
  ·rw [h] at hok⊢;exact jF e hok
  ·exact pR es x h hok
end
def qU (e:Ex):Int:=if mY 20 e then 2 else if bJ e then 0 else 1
theorem iK {e:Ex} (hok:e.ok):PF Tryz.prog 117 [.agg e.cells] (vi (qU e)):=by
 have h1:=anO 20 e 20 rfl (by omega) hok
 have h2:=jF e hok
 unfold qU
 generalize mY 20 e=D at*
 generalize bJ e=F at*
 obtain ⟨k,n,v,of⟩:=e
 refine pF Tryz.func117 rfl (λst=> ?_)
 (repeat' first|apply wZ;rfl|show Cn _;constructor|exact rfl|((first|apply h1|apply h2))|show (_:PV)=_;(simp [*];done);done|apply wY;rfl|intro h)
mutual
def dY (m:Int):Ex->Bool
 | .mk k n _ o=>(!decide (k=0)||decide (n<m))&&uH m o
def uH (m:Int):List Ex->Bool
 |[]=>true
 |e::es=>dY m e&&uH m es
end
theorem lY (m:Int):∀l,uH m l=l.all (dY m)
 |[]=>rfl
 |e::es=>by simp [uH,lY m es]
mutual
theorem wF (m:Int):∀(e:Ex),e.ok->PF Tryz.prog 118 [.agg e.cells,(vi (m))] (vb (dY m e))
 | .mk k n v of,hok=>by
  simp only [Ex.ok] at hok
  have ih:=sO m of
  have hlen:=Ex.rows_len of
  have hT:dY m (.mk k n v of)=((!decide (k=0)||decide (n<m))&&of.all (dY m)):=by rw [dY,lY]
  refine pF Tryz.func118 rfl (λst=> ?_)
  focus ((repeat' first|apply wZ;rfl|show Cn _;constructor))
  refine aG (X:={i:Nat//i<=of.length/\(of.take i).all (dY m)=true}) (λi=>((((((St.nil 28 st).pv 1 ((vi (m)))).var 2 56 ((Ex.mk k n v of).cells)).pv 8 (.seq (Ex.rows of))).pv 9 ((vi (((Ex.rows of).length:Nat))))).pv 10 ((vi ((i.1:Nat)))))) (λi=>of.length-i.1) ⟨0,by omega,by simp⟩ ?_ (λi=> ?_)
  ·(repeat' first|show Cn _;constructor|exact rfl)
  obtain ⟨i,hi,hall⟩:=i
  dsimp only
  by_cases hend:of.length<=i
  ·rw [qZ (by omega)] at hall
   rw [hall,Bool.and_true] at hT
   (repeat' first|apply wZ;rfl|show Cn _;constructor|exact rfl|show (_:PV)=_;((rw [hT];done));done|omega|(intro h;simp at h))
  obtain ⟨x,hx⟩:=gB (l:=of) (i:=i) (by omega)
  have hrow:=Ex.rows_get hx
  have hm:=List.mem_of_getElem? hx
  have ihx:=ih x hm (Ex.oks_mem hok.2 hm)
  have hup:=afH (p:=dY m) hx
  have hno:=λh=>alW (p:=dY m) hx h
  generalize dY m x=D at*
  obtain ⟨k',n',v',of'⟩:=x
  cases D with
  |false=>
   rw [hno rfl,Bool.and_false] at hT
   (repeat' first|apply wZ;rfl|show Cn _;constructor|exact rfl|apply bX pk;(iterate 6 rfl);rotate_left;rfl;(intro hw;rfl);(intro hw;apply hrow<;>omega);(intro _;exact (Ex.cells_len _));rfl|(apply ihx)|show (_:PV)=_;(rw [hT]);done|apply wY;rfl|omega|(intro h;simp at h))
  |true=>
   rw [hall] at hup
   (repeat' first|(refine ⟨⟨i+1,by omega,hup⟩, ?_, ?_⟩)|apply wZ;rfl|show Cn _;constructor|exact rfl|apply bX pk;(iterate 6 rfl);rotate_left;rfl;(intro hw;rfl);(intro hw;apply hrow<;>omega);(intro _;exact (Ex.cells_len _));rfl|(apply ihx)|apply wY;rfl|omega|simp only [zql];omega|(intro h;simp at h))
theorem sO (m:Int):∀(l:List Ex) (x:Ex),x∈l->x.ok->PF Tryz.prog 118 [.agg x.cells,(vi (m))] (vb (dY m x))
 |[],_,h,_=>by cases h
 |e::es,x,h,hok=>by
  rcases zmc.1 h with h|h
  ·rw [h] at hok⊢;exact wF m e hok
  ·exact sO m es x h hok
end
def tV (nb:Bool):Int->List Int->Bool
 |_,[]=>true
 |last,x::xs=>if ((nb&& !decide (x=0))&& !decide (x=1))||((!decide (x=0)&& !decide (last=0))&& !decide (x=last)) then false else tV nb (if x=0 then last else x) xs
theorem adA {α:Type} {l:List α} {i:Nat} {x:α} (h:l[i]?=some x):l.drop i=x::l.drop (i+1):=by
 obtain ⟨hl,rfl⟩:=zge.1 h
 exact List.drop_eq_getElem_cons hl
theorem azL {α:Type} {l:List α} {i:Nat} (h:¬i<l.length):l.drop i=[]:=List.drop_eq_nil_of_le (by omega)
theorem nY {m:Int} {nb:Bool} {f:FuncId} {caps:List PV} {l:List Int} (hl:l.length<2^62):PF Tryz.prog 174 [.agg [(vi (m)),(vb (nb)), .fn f caps], .seq (irows l)] (vb (tV nb 0 l)):=by
 have hlen:=zR l
 refine pF Tryz.func174 rfl (λst=> ?_)
 focus ((repeat' first|apply wZ;rfl|show Cn _;constructor))
 refine aG (X:={x:Nat×Int//x.1<=l.length/\tV nb 0 l=tV nb x.2 (l.drop x.1)}) (λi=>((((((St.nil 41 st).var 2 246 ([(vi (m)),(vb (nb)), .fn f caps])).pv 5 ((vi (i.1.2)))).pv 8 (.seq (irows l))).pv 9 ((vi ((((irows l)).length:Nat))))).pv 10 ((vi ((i.1.1:Nat)))))) (λi=>l.length-i.1.1) ⟨(0,0),by simp,by simp⟩ ?_ (λi=> ?_)
 ·(repeat' first|show Cn _;constructor|exact rfl)
 obtain ⟨⟨i,last⟩,hi,hinv⟩:=i
 dsimp only at hi hinv
 dsimp only
 generalize tV nb 0 l=R at*
 by_cases hend:l.length<=i
 ·rw [azL (by omega)] at hinv
  (repeat' first|apply wZ;rfl|show Cn _;constructor|exact rfl|show (_:PV)=_;(rw [hinv];rfl);done|omega|(intro h;simp at h))
 obtain ⟨x,hx⟩:=gB (l:=l) (i:=i) (by omega)
 have hrow:=yW hx
 rw [adA hx] at hinv
 simp only [tV] at hinv
 by_cases hc:(((nb&& !decide (x=0))&& !decide (x=1))||((!decide (x=0)&& !decide (last=0))&& !decide (x=last)))=true
 ·rw [zp hc] at hinv
  (repeat' first|apply wZ;rfl|show Cn _;constructor|exact rfl|apply bX pk;(iterate 6 rfl);rotate_left;rfl;(intro hw;rfl);(intro hw;apply hrow<;>omega);(intro _;rfl);rfl|show (_:PV)=_;(rw [hinv]);done|omega|((exfalso;simp at*;grind))|(intro h;simp at h))
 rw [zn hc] at hinv
 by_cases hx0:x=0
 ·rw [zp hx0] at hinv
  (repeat' first|(refine ⟨⟨(i+1,last),by simp only;omega,hinv⟩, ?_, ?_⟩)|apply wZ;rfl|show Cn _;constructor|exact rfl|apply bX pk;(iterate 6 rfl);rotate_left;rfl;(intro hw;rfl);(intro hw;apply hrow<;>omega);(intro _;rfl);rfl|omega|simp only [zql];omega|intro h;simp at h;omega|(intro h;simp at h)|intro h)
 ·rw [zn hx0] at hinv
  (repeat' first|(refine ⟨⟨(i+1,x),by simp only;omega,hinv⟩, ?_, ?_⟩)|apply wZ;rfl|show Cn _;constructor|exact rfl|apply bX pk;(iterate 6 rfl);rotate_left;rfl;(intro hw;rfl);(intro hw;apply hrow<;>omega);(intro _;rfl);rfl|omega|simp only [zql];omega|((exfalso;simp at*;grind))|(intro h;simp at h)|intro h)
mutual
def bN (l:List Int):Ex->Int×Int
 | .mk k n v o=>if k=0 then (l.getD n.toNat 0,0) else if k=1 then (v.kind,0) else
   match fH l o with
   |(_,some no)=>(0,no)
   |(got,none)=>if tV (oG k) 0 got then (1,0) else (0,6)
def fH (l:List Int):List Ex->List Int×Option Int
 |[]=>([],none)
 |e::es=>if (bN l e).2=0 then ((bN l e).1::(fH l es).1,(fH l es).2) else ([],some (bN l e).2)
end
theorem qQ {l:List Int}:∀{os:List Ex},(∀x∈os,(bN l x).2=0)->fH l os=(os.map λx=>(bN l x).1,none)
 |[],_=>rfl
 |e::es,h=>by
  have ih:=qQ (l:=l) (os:=es) λx hx=>h x (by simp [hx])
  simp [fH,h e (by simp),ih]
theorem qY {l:List Int}:∀{os:List Ex} {i:Nat} {x:Ex},(∀j y,j<i->os[j]?=some y->(bN l y).2=0)->os[i]?=some x->(bN l x).2≠0->(fH l os).2=some (bN l x).2
 |[],_,_,_,h,_=>by simp at h
 |e::es,0,x,_,h,hx=>by
  simp at h;subst h
  simp [fH,hx]
 |e::es,i+1,x,h0,h,hx=>by
  simp at h
  have h1:=h0 0 e (by omega) (by simp)
  have ih:=qY (l:=l) (os:=es) (i:=i) (λj y hj hy=>h0 (j+1) y (by omega) (by simpa using hy)) h hx
  simp [fH,h1,ih]
theorem qE {k n:Int} {v:Vl} {of:List Ex} (h:bJ (.mk k n v of)=true) (hk0:¬k=0) (hk1:¬k=1):(2<=k/\k<=10)/\n=0/\vz v=true/\(of.length:Int)=iO k/\∀x∈of,bJ x=true:=by
 simp only [bJ,kF,if_false,zba,zde,Bool.or_eq_true,hk0,hk1,false_or,kU,zal] at h
 exact ⟨h.1.1.1.1,h.1.1.1.2,h.1.1.2,h.1.2,h.2⟩
theorem agA (k:Int):iO k<=2/\1<=iO k:=by unfold iO;split<;>omega
theorem lB :Tryz.prog.bytesOf 3=8:=by kernel_rfl
theorem nX {α β:Type} {l:List α} {i:Nat} {x:α} (h:l[i]?=some x) (f:α->β):(l.take (i+1)).map f=(l.take i).map f++[f x]:=by
 obtain ⟨hl,rfl⟩:=zge.1 h
 rw [List.take_succ_eq_append_getElem hl,List.map_append]
 rfl
theorem ahQ {k n:Int} {v:Vl} {of:List Ex} (l:List Int) (hl:l.length<2^62) (hk:k=0\/k=1) (hf:bJ (.mk k n v of)=true) (ht:dY l.length (.mk k n v of)=true):
  PF Tryz.prog 119 [.agg (Ex.mk k n v of).cells, .seq (irows l)] (.tup [(vi ((bN l (.mk k n v of)).1)),(vi ((bN l (.mk k n v of)).2))]):=by
 by_cases hk0:k=0
 ·subst hk0
  simp [bJ,kF] at hf
  simp [dY] at ht
  have hn:n.toNat<l.length:=by omega
  obtain ⟨x,hx⟩:=gB hn
  have hrow:=yW hx
  have e:bN l (.mk 0 n v of)=(x,0):=by simp [bN,hx]
  rw [e]
  have hnn:n=((n.toNat:Nat):Int):=by omega
  refine pF Tryz.func119 rfl (λst=> ?_)
  (repeat' first|apply wZ;rfl|show Cn _;constructor|exact rfl|apply bX pk;(iterate 6 rfl);rotate_left;rfl;(intro hw;exact hnn);(intro hw;apply hrow<;>omega);(intro _;rfl);rfl)
 ·have hk1:k=1:=by omega
  subst hk1
  have e:bN l (.mk 1 n v of)=(v.kind,0):=by simp [bN]
  rw [e]
  refine pF Tryz.func119 rfl (λst=> ?_)
  (repeat' first|apply wZ;rfl|show Cn _;constructor|exact rfl)
mutual
theorem uY (l:List Int) (hl:l.length<2^62):∀(e:Ex),e.ok->bJ e=true->dY l.length e=true->PF Tryz.prog 119 [.agg e.cells, .seq (irows l)] (.tup [(vi ((bN l e).1)),(vi ((bN l e).2))])
 | .mk k n v of,hok,hf,ht=>by
  have ih:=sP l hl of
  by_cases hk01:k=0\/k=1
  ·exact ahQ l hl hk01 hf ht
  have hk0:¬k=0:=by omega
  have hk1:¬k=1:=by omega
  obtain ⟨hk,hn,hv,hlen,hall⟩:=qE hf hk0 hk1
  simp only [dY,zba,lY,zal] at ht
  simp only [Ex.ok] at hok
  have hm:=agA k
  have hrl:=Ex.rows_len of
  obtain ⟨fid,caps,hlook,_⟩:=uM hk.1 hk.2
  have hE:bN l (.mk k n v of)=match fH l of with|(_,some no)=>(0,no)|(got,none)=>if tV (oG k) 0 got then (1,0) else (0,6):=by simp only [bN,zn hk0,zn hk1];try rfl
  generalize bN l (.mk k n v of)=E at*
  refine pF Tryz.func119 rfl (λst=> ?_)
  focus ((repeat' first|apply wZ;rfl|show Cn _;constructor|omega|intro h))
  refine abE 6 3 rfl rfl (λid hid=> ?_)
  have hid:st id=none:=hid
  refine aG (X:={x:Nat×Nat//x.1<=of.length/\st x.2=none/\∀j y,j<x.1->of[j]?=some y->(bN l y).2=0}) (λi=>(((((((St.nil 53 (upd st i.1.2 (some (.tok 3)))).pv 1 (.seq (irows l))).var 2 56 ((Ex.mk k n v of).cells)).pv 6 (.own i.1.2 (((of.take i.1.1).map λy=>(bN l y).1).map I1))).pv 26 (.seq (Ex.rows of))).pv 27 ((vi (((Ex.rows of).length:Nat))))).pv 28 ((vi ((i.1.1:Nat)))))) (λi=>of.length-i.1.1) ⟨(0,id),by simp,hid,by simp⟩ ?_ (λi=> ?_)
  ·(repeat' first|show Cn (.t _ _);exact Cn.t0|show Cn _;constructor|exact rfl)
  obtain ⟨⟨i,id⟩,hi,hid,hz⟩:=i
  simp only at hi hid hz
  dsimp only
  by_cases hend:of.length<=i
  ·have htk:of.take i=of:=qZ (by omega)
   have hgot:fH l of=(of.map λy=>(bN l y).1,none):=qQ λx hx=>by
    obtain ⟨j,hj⟩:=List.mem_iff_getElem?.1 hx
    exact hz j x (by have:=(zge.1 hj).1;omega) hj
   rw [hgot] at hE
   simp only at hE
   rw [htk]
   have hts:=nY (m:=iO k) (nb:=oG k) (f:=fid) (caps:=caps) (l:=of.map λy=>(bN l y).1) (by simp;omega)
   unfold irows at hts
   generalize tV (oG k) 0 (of.map λy=>(bN l y).1)=G at*
   cases G with
   |true=>
    rw [zp rfl] at hE
    (repeat' first|(apply Cn.cf;focus (((apply cQ));done))|(apply cV;focus (((apply hts));done))|show Cn (.e _ _ _ _);refine .any ?_;((refine ⟨_,_,_,rfl,zwr _,aB ‹_›, ?_,rfl⟩;(((rw [hE]);done))))|apply wZ;rfl|show Cn _;constructor|apply KR.mk;kernel_rfl|apply oK pk;(iterate 4 rfl);(focus repeat' constructor);rfl;exact hlook;rfl|apply wY;rfl|omega|(intro h;simp at h))
   |false=>
    rw [zn (by simp)] at hE
    (repeat' first|(apply Cn.cf;focus (((apply cQ));done))|(apply cV;focus (((apply hts));done))|show Cn (.e _ _ _ _);refine .any ?_;((refine ⟨_,_,_,rfl,zwr _,aB ‹_›, ?_,rfl⟩;(((rw [hE]);done))))|apply wZ;rfl|show Cn _;constructor|apply KR.mk;kernel_rfl|apply oK pk;(iterate 4 rfl);(focus repeat' constructor);rfl;exact hlook;rfl|apply wY;rfl|omega|(intro h;simp at h))
  obtain ⟨x,hx⟩:=gB (l:=of) (i:=i) (by omega)
  have hrow:=Ex.rows_get hx
  have hm':=List.mem_of_getElem? hx
  have ihx:=ih x hm' (Ex.oks_mem hok.2 hm') (hall x hm') (ht.2 x hm')
  have hsome:=λh0=>qY (l:=l) hz hx h0
  have hzs:(bN l x).2=0->∀j y,j<i+1->of[j]?=some y->(bN l y).2=0:=λh0 j y hj hy=>by
   by_cases hji:j=i
   ·subst hji;rw [hx] at hy;injection hy with hy;subst hy;exact h0
   ·exact hz j y (by omega) hy
  have hmap:((of.take (i+1)).map λy=>(bN l y).1).map I1=((of.take i).map λy=>(bN l y).1).map I1++[I1 (bN l x).1]:=by rw [nX hx (λy=>(bN l y).1),List.map_append];rfl
  have hE2:(bN l x).2≠0->E=(0,(bN l x).2):=λh0=>by
   have:=hsome h0
   rw [hE]
   revert this
   cases fH l of with|mk a b=>intro this;simp only at this;subst this;rfl
  clear hsome hE
  generalize hr:bN l x=r at*
  obtain ⟨r1,r2⟩:=r
  obtain ⟨k',n',v',of'⟩:=x
  dsimp only at*
  by_cases h2:r2=0
  ·have hz2:=hzs h2
   (repeat' first|refine ⟨⟨(i+1,id'),by simp only;omega,kI hid',hz2⟩, ?_, ?_⟩;((dsimp only;rw [hmap]))|show Cn (.t _ _);exact .any (aJ ‹_›)|apply wZ;rfl|show Cn _;constructor|exact rfl|apply bX pk;(iterate 6 rfl);rotate_left;rfl;(intro hw;rfl);(intro hw;apply hrow<;>omega);(intro _;exact (Ex.cells_len _));rfl|(apply ihx)|show _=_;((simp [I1];done))|(apply apS pk (r1) 8;(iterate 8 rfl);exact aA _ _ _;exact λ_=>rfl;exact λ_=>rfl;exact lB;((simp;omega));((simp;omega));rfl;intro id' hid')|apply wY;rfl|omega|simp only [zql];omega|(intro h;simp at h)|intro h)
  ·have e:=hE2 h2
   (repeat' first|show Cn (.e _ _ _ _);refine .any ?_;((refine ⟨_,_,_,rfl,zwr _,aB ‹_›, ?_,rfl⟩;(((rw [e]);done))))|apply wZ;rfl|show Cn _;constructor|apply bX pk;(iterate 6 rfl);rotate_left;rfl;(intro hw;rfl);(intro hw;apply hrow<;>omega);(intro _;exact (Ex.cells_len _));rfl|(apply ihx)|apply wY;rfl|omega|(intro h;simp at h)|intro h)
theorem sP (l:List Int) (hl:l.length<2^62):∀(os:List Ex) (x:Ex),x∈os->x.ok->bJ x=true->dY l.length x=true->PF Tryz.prog 119 [.agg x.cells, .seq (irows l)] (.tup [(vi ((bN l x).1)),(vi ((bN l x).2))])
 |[],_,h,_=>by cases h
 |e::es,x,h,hok=>by
  rcases zmc.1 h with h|h
  ·rw [h] at hok⊢;exact uY l hl e hok
  ·exact sP l hl es x h hok
end
def TypeR (e:Ex) (l:List Int):Int×Int:=if qU e≠0 then (0,qU e) else if dY l.length e then bN l e else (0,4)
theorem yO {e:Ex} (h:qU e=0):mY 20 e=false/\bJ e=true:=by
 unfold qU at h
 split at h
 ·omega
 ·rename_i h1
  split at h
  ·rename_i h2;exact ⟨by simpa using h1,h2⟩
  ·omega
theorem Type_spec {e:Ex} (hok:e.ok) {l:List Int} (hl:l.length<2^62):PF Tryz.prog 73 [.agg e.cells, .seq (irows l)] (.tup [(vi ((TypeR e l).1)),(vi ((TypeR e l).2))]):=by
 have h1:=iK hok
 have h2:=wF ((l.length:Nat):Int) e hok
 have hlen:=zR l
 rw [<-hlen] at h2
 by_cases hm:qU e=0
 ·rw [hm] at h1
  cases ht:dY l.length e with
  |true=>
   have h3:=uY l hl e hok (yO hm).2 ht
   rw [hlen,ht] at h2
   rw [<-hlen] at h2
   have e1:TypeR e l=bN l e:=by unfold TypeR;rw [zn (λq=>q hm),zp ht]
   rw [e1]
   generalize bN l e=R at*
   clear hm ht e1
   obtain ⟨k,n,v,of⟩:=e
   refine pF Tryz.func73 rfl (λst=> ?_)
   (repeat' first|apply wZ;rfl|show Cn _;constructor|exact rfl|((first|apply h1|apply h2|apply h3))|apply wY;rfl)
  |false=>
   rw [hlen,ht] at h2
   rw [<-hlen] at h2
   have e1:TypeR e l=(0,4):=by unfold TypeR;rw [zn (λq=>q hm),zn (by rw [ht];simp)]
   rw [e1]
   clear hm ht e1
   obtain ⟨k,n,v,of⟩:=e
   refine pF Tryz.func73 rfl (λst=> ?_)
   (repeat' first|apply wZ;rfl|show Cn _;constructor|exact rfl|((first|apply h1|apply h2))|apply wY;rfl)
 ·have e1:TypeR e l=(0,qU e):=by unfold TypeR;rw [zp hm]
  rw [e1]
  generalize qU e=M at*
  clear e1 h2
  obtain ⟨k,n,v,of⟩:=e
  refine pF Tryz.func73 rfl (λst=> ?_)
  (repeat' first|apply wZ;rfl|show Cn _;constructor|exact rfl|(apply h1)|apply wY;rfl|omega|intro h)
mutual
def cM (row:List Vl):Ex->Vl×Int
 | .mk k n v o=>if k=0 then (if n>=row.length then (v0,4) else (row.getD n.toNat v0,0)) else if k=1 then (v,0) else
   match iM row o with
   |(_,some no)=>(v0,no)
   |(got,none)=>if tV (oG k) 0 (got.map Vl.kind) then pW k (got.getD 0 v0) (got.getD (iO k-1).toNat v0) else (v0,6)
def iM (row:List Vl):List Ex->List Vl×Option Int
 |[]=>([],none)
 |e::es=>if (cM row e).2=0 then ((cM row e).1::(iM row es).1,(iM row es).2) else ([],some (cM row e).2)
end
theorem tN {row:List Vl}:∀{os:List Ex},(∀x∈os,(cM row x).2=0)->iM row os=(os.map λx=>(cM row x).1,none)
 |[],_=>rfl
 |e::es,h=>by
  have ih:=tN (row:=row) (os:=es) λx hx=>h x (by simp [hx])
  simp [iM,h e (by simp),ih]
theorem sV {row:List Vl}:∀{os:List Ex} {i:Nat} {x:Ex},(∀j y,j<i->os[j]?=some y->(cM row y).2=0)->os[i]?=some x->(cM row x).2≠0->(iM row os).2=some (cM row x).2
 |[],_,_,_,h,_=>by simp at h
 |e::es,0,x,_,h,hx=>by
  simp at h;subst h
  simp [iM,hx]
 |e::es,i+1,x,h0,h,hx=>by
  simp at h
  have h1:=h0 0 e (by omega) (by simp)
  have ih:=sV (row:=row) (os:=es) (i:=i) (λj y hj hy=>h0 (j+1) y (by omega) (by simpa using hy)) h hx
  simp [iM,h1,ih]
theorem aoD {v:Vl} (h:pE v=true):lim v.n:=by
 unfold pE at h
 split at h
 ·simp at h;unfold lim;omega
 ·split at h
  ·simp at h;unfold lim;omega
  ·split at h
   ·simp at h;unfold lim;omega
   ·cases h
theorem oV :lim v0.n:=by unfold lim v0;simp only;omega
theorem aaA (b:Bool):lim (lJ b).n:=by unfold lim lJ vN;cases b<;>simp
theorem arQ {op:Int->Int->Int} {a b:Vl}:lim (uP op a b).1.n:=by
 unfold uP
 split
 ·exact oV
 ·rename_i h
  simp [afI] at h
  unfold lim vN;simp only;omega
theorem zH {r:Vl->Vl->Vl×Int} {a b:Vl} (h:lim (r a b).1.n):lim (iN r a b).1.n:=by
 unfold iN
 split
 ·exact oV
 ·exact h
theorem axB (k:Int) (a b:Vl):lim (pW k a b).1.n:=by
 unfold pW
 repeat' split
 all_goals first
  |exact zH arQ
  |exact zH (aaA _)
  |exact aaA _
  |(unfold zD;(repeat' split)<;>first|exact oV|unfold lim vN;simp only;omega)
theorem avP {row:List Vl} (h:∀v∈row,lim v.n) (i:Nat):lim (row.getD i v0).n:=by
 rw [List.getD_eq_getElem?_getD]
 cases hi:row[i]? with
 |none=>exact oV
 |some x=>exact h x (List.mem_of_getElem? hi)
theorem avI {row:List Vl} (hr:∀v∈row,lim v.n):∀{e:Ex},bJ e=true->lim (cM row e).1.n
 | .mk k n v of,hf=>by
  simp only [cM]
  split
  ·split
   ·exact oV
   ·exact avP hr _
  ·split
   ·rename_i h0 h1
    subst h1
    simp [bJ,kF] at hf
    exact aoD hf.1.2
   ·split
    ·exact oV
    ·split
     ·exact axB _ _ _
     ·exact oV
end
end Go.Proofs.YtppdefkgmegipaaGreatDoor.X
