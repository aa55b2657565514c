import Derived.Test.YtfablfldonhkiaaGreatDoorClAa
import Derived.Test.YtfablfldonhkiaaGreatDoorAbsI
set_option linter.unusedSimpArgs false
set_option linter.unusedVariables false
namespace Go.Proofs.YtfablfldonhkiaaGreatDoor
open Go Go.Abs
attribute [local irreducible] Ev PWp
set_option maxRecDepth 10000
set_option maxHeartbeats 4000000
def abc :ByteArray:=⟨#[97,98,99,100,101,102,103,104,105,106,107,108,109,110,111,112,113,114,115,116,117,118,119,120,121,122]⟩
def abc9 :ByteArray:=⟨#[97,98,99,100,101,102,103,104,105,106,107,108,109,110,111,112,113,114,115,116,117,118,119,120,121,122,48,49,50,51,52,53,54,55,56,57,95]⟩
def aBV (b:UInt8):Bool:=decide (97<=b.toNat)&&decide (b.toNat<=122)
def alB (b:UInt8):Bool:=(aBV b||(decide (48<=b.toNat)&&decide (b.toNat<=57)))||decide (b.toNat=95)
theorem aDo {p:UInt8->Bool} (h:((List.range 256).all λn=>p (UInt8.ofNat n))=true) (b:UInt8):p b=true:=by
 have:=zal.1 h b.toNat (List.mem_range.2 b.toNat_lt)
 simpa using this
theorem avX (b:UInt8):abc9.data.toList.contains b=alB b:=by
 have:=aDo (p:=λb=>abc9.data.toList.contains b==alB b) (by decide+kernel) b
 simpa using this
theorem aEn (b:UInt8):decide (firstIdx abc b>=0)=aBV b:=by
 have:=aDo (p:=λb=>decide (firstIdx abc b>=0)==aBV b) (by decide+kernel) b
 simpa using this
theorem aaB {α:Type} {p:α->Bool}:∀{l:List α},l.dropWhile p=[]↔∀x∈l,p x=true
 |[]=>by simp
 |a::l=>by
  rw [List.dropWhile_cons]
  cases h:p a with
  |true=>simp [h,aaB (l:=l)]
  |false=>simp [h]
theorem afS {l cs:List UInt8}:Lib.trimS l cs=[]↔∀x∈l,cs.contains x=true:=by
 have drop_mem:∀{m:List UInt8} {p:UInt8->Bool},(∀x∈m,p x=true)↔∀x∈m.dropWhile p,p x=true:=by
  intro m p
  constructor
  ·exact λh x hx=>h x (List.dropWhile_sublist p|>.subset hx)
  ·intro h
   cases e:m.dropWhile p with
   |nil=>exact aaB.1 e
   |cons a rs=>
    have h1:=h a (by rw [e];simp)
    have h2:=List.head_dropWhile_not p (l:=m) (by rw [e];simp)
    simp only [e,List.head_cons] at h2
    rw [h1] at h2;cases h2
 unfold Lib.trimS Lib.trimLeftS Lib.trimRightS
 rw [aaB]
 have:=drop_mem (m:=l.reverse) (p:=λx=>cs.contains x)
 simp only [List.mem_reverse] at this⊢
 exact this.symm
theorem akV :(Tryz.prog.info? (renT.t 116)).map (λi=>(i.zero,i.size))=some (some (.agg (Array.replicate 256 (.bool false))),256):=by kernel_rfl
theorem aAD (s:ByteArray) (h0:0<s.size) (hs:s.size<=9223372036854775807):PF Tryz.prog 212 [(vs (s)),(vs (abc9))] (vs (⟨(Lib.trimS s.data.toList abc9.data.toList).toArray⟩)):=
 aHj (by kernel_rfl) λw=>(Any.strings_Trim_set aIV (zero_of_info akV).1 (zero_of_info akV).2 s abc9 w (by decide) h0 hs (by decide) (ascii_of_all (by decide))).mono λe w' ⟨h1,q,h2⟩=>⟨h1, .inr ⟨_,_,q,h2⟩⟩
theorem asF (s:ByteArray) (h:s.data.toList.all alB=true):(⟨(Lib.trimS s.data.toList abc9.data.toList).toArray⟩:ByteArray)=e0:=by
 rw [afS.2 λx hx=>by rw [avX];exact zal.1 h x hx]
theorem aDB (s:ByteArray) (h:s.data.toList.all alB=false):(⟨(Lib.trimS s.data.toList abc9.data.toList).toArray⟩:ByteArray)≠e0:=λe=>by
 have:Lib.trimS s.data.toList abc9.data.toList=[]:=by
  have:=congrArg (λb:ByteArray=>b.data.toList) e
  simpa using this
 rw [afS] at this
 rw [<-Bool.not_eq_true,zal] at h
 exact h λx hx=>by rw [<-avX];exact this x hx
theorem ahZ (b:ByteArray) (c:UInt8):PF Tryz.prog 341 [(vs (b)), .val (.int .u8 (c.toNat:Int))] (vi (firstIdx b c)):=by
 have e:(((c.toNat:Nat):Int).toNat).toUInt8=c:=by simp
 refine pF Tryz.func341 rfl (λst=> ?_)
 (repeat' first|apply wZ;rfl|constructor|rw [e]|apply aHJ pk;rfl;rfl;exact Tryz.func352;kernel_rfl;kernel_rfl;kernel_rfl;kernel_rfl;rfl;rfl;rotate_left;rfl;rfl)
def one (c:UInt8):ByteArray:=⟨#[c]⟩
theorem aAC (c:UInt8):PF Tryz.prog 322 [(vs (abc)),(vs (one c))] (vi (firstIdx abc c)):=by
 have hb:=ahZ abc c
 have hz:(one c).size=1:=rfl
 have hg:(one c)[0]?=some c:=rfl
 have hne:¬(one c=abc):=λe=>by have:=congrArg ByteArray.size e;rw [hz] at this;cases this
 have hno:¬(one c=ByteArray.empty\/one c=abc):=λq=>q.elim (λe=>by have:=congrArg ByteArray.size e;rw [hz] at this;cases this) hne
 refine pF Tryz.func322 rfl (λst=> ?_)
 (repeat' first|apply wZ;rfl|constructor|(apply hb)|apply sxA pk.htt 0 c;(iterate 6 rfl);exact hg;rfl|apply wY;rfl)
theorem arK (c:UInt8):PF Tryz.prog 213 [(vs (abc)),(vs (one c))] (vb (aBV c)):=by
 have h1:=aAC c
 have h2:PF Tryz.prog 291 [(vs (abc)),(vs (one c))] (vi (firstIdx abc c)):=by
  refine pF Tryz.func291 rfl (λst=> ?_)
  (repeat' first|apply wZ;rfl|constructor|(apply h1)|apply wY;rfl)
 refine pF Tryz.func213 rfl (λst=> ?_)
 (repeat' first|apply wZ;rfl|constructor|(apply h2)|rw [<-aEn]|apply wY;rfl)
def aaP (s:ByteArray):Bool:=match s.data.toList with
 |[]=>false
 |c::l=>aBV c&&(decide (s.size<=12)&&(c::l).all alB)
theorem aAG (s:ByteArray):s.size=s.data.toList.length:=(Array.length_toList (xs:=s.data)).symm
theorem aeY (s:ByteArray):PF Tryz.prog 134 [(vs (s))] (vb (aaP s)):=by
 unfold aaP
 cases hl:s.data.toList with
 |nil=>
  obtain rfl:s=e0:=by
   apply ByteArray.ext
   apply Array.toList_inj.1
   rw [hl]
  refine pF Tryz.func134 rfl (λst=> ?_)
  (repeat' first|(apply cW;focus (intro _;(apply (show PF Tryz.prog 212 [_,_] (vs (e0)) from by rename_i hh;exact absurd (show false=true from hh) (by simp)));done))|(apply cW;focus (intro _;(apply (show PF Tryz.prog 213 [_,_] (vb (false)) from by rename_i hh;exact absurd (show false=true from hh) (by simp)));done))|apply wZ;rfl|constructor|apply slT pk 0 1;rfl;rfl;rfl;rotate_left;rfl;(intro _;exact aW);(intro _;exact aJ rfl rfl);(intro _;omega);(intro hh;exact absurd (show false=true from hh) (by simp));rfl|apply wY;rfl)
 |cons c l=>
  have hz:=aAG s
  rw [hl] at hz
  have h0:0<s.size:=by rw [hz];simp
  have hne:¬(s=e0):=λe=>by rw [e] at h0;exact absurd h0 (by decide)
  have hne':¬(s=(⟨#[]⟩:ByteArray)):=hne
  have hone:s.extract 0 1=one c:=by
   apply ByteArray.ext
   apply Array.toList_inj.1
   show _=[c]
   rw [ByteArray.data_extract,Array.toList_extract,hl];rfl
  dsimp only
  by_cases h12:s.size<=12
  ·have ht:=aAD s h0 (by omega)
   have hi12:(s.size:Int)<=12:=by omega
   have hc:=arK c
   rw [<-hone] at hc
   cases ha:s.data.toList.all alB with
   |true=>
    rw [asF s ha] at ht
    rw [hl] at ha
    rw [ha]
    refine pF Tryz.func134 rfl (λst=> ?_)
    (repeat' first|apply wZ;rfl|constructor|((first|apply ht|apply hc))|simp [hne,hne',h12,hi12,e0];done|apply slT pk 0 1;rfl;rfl;rfl;rotate_left;rfl;(intro _;exact aW);(intro _;exact aJ rfl rfl);(intro _;omega);(intro _;omega);rfl|apply wY;rfl)
   |false=>
    have htn:=aDB s ha
    rw [hl] at ha
    rw [ha]
    have htn':¬((⟨(Lib.trimS s.data.toList abc9.data.toList).toArray⟩:ByteArray)=(⟨#[]⟩:ByteArray)):=htn
    generalize (⟨(Lib.trimS s.data.toList abc9.data.toList).toArray⟩:ByteArray)=T at*
    refine pF Tryz.func134 rfl (λst=> ?_)
    (repeat' first|apply wZ;rfl|constructor|((first|apply ht|apply hc))|simp [hne,hne',h12,hi12,htn,htn'];done|apply slT pk 0 1;rfl;rfl;rfl;rotate_left;rfl;(intro _;exact aW);(intro _;exact aJ rfl rfl);(intro _;omega);(intro _;omega);rfl|apply wY;rfl)
  ·have hi12:¬(s.size:Int)<=12:=by omega
   have e:decide (s.size<=12)=false:=decide_eq_false h12
   have e2:decide ((s.size:Int)<=12)=false:=decide_eq_false (by omega)
   have e3:decide (s=e0)=false:=decide_eq_false hne
   have hT:∀p,(gw true (!decide (s=e0)) true&&p)=true->True:=λ_ _=>trivial
   rw [e,Bool.false_and,Bool.and_false]
   refine pF Tryz.func134 rfl (λst=> ?_)
   (repeat' first|(apply cW;focus (intro _;(apply (show PF Tryz.prog 212 [_,_] (vs (e0)) from by rename_i hh;simp [gw,hne] at hh;omega));done))|(apply cW;focus (intro _;(apply (show PF Tryz.prog 213 [_,_] (vb (false)) from by rename_i hh;simp [gw,hne] at hh;omega));done))|apply wZ;rfl|constructor|simp [hne,hne',h12,hi12,e0];done|apply slT pk 0 1;rfl;rfl;rfl;rotate_left;rfl;(intro _;exact aW);(intro _;exact aJ rfl rfl);(intro _;omega);(intro hh;omega);rfl|apply wY;rfl)
def bX (v:Vl):Bool:=if v.kind=0 then decide (v.n=0)&&decide (v.s=e0) else if v.kind=1 then (decide (v.s=e0)&&decide (v.n>= -1099511627776))&&decide (v.n<=1099511627776) else if v.kind=2 then decide (v.n=0)&&decide ((v.s.size:Int)<=200) else false
theorem iZ (v:Vl):PF Tryz.prog 147 [.agg v.cells] (vb (bX v)):=by
 unfold bX
 by_cases h0:v.kind=0
 ·rw [zp h0]
  refine pF Tryz.func147 rfl (λst=> ?_)
  (repeat' first|apply wZ;rfl|constructor|simp [h0];done|intro h)
 by_cases h1:v.kind=1
 ·rw [zn h0,zp h1]
  refine pF Tryz.func147 rfl (λst=> ?_)
  (repeat' first|apply wZ;rfl|constructor|omega|intro h)
 rw [zn h0,zn h1]
 by_cases h2:v.kind=2
 ·rw [zp h2]
  refine pF Tryz.func147 rfl (λst=> ?_)
  (repeat' first|apply wZ;rfl|constructor|omega|intro h)
 rw [zn h2]
 refine pF Tryz.func147 rfl (λst=> ?_)
 (repeat' first|apply wZ;rfl|constructor|omega|intro h)
def cI (c:Cl):Int:=if c.kind≠2\/c.val.kind≠1 then 6 else if c.val.s≠e0\/0<c.parts.length then 1 else if c.val.n< -1099511627776\/c.val.n>1099511627776 then 20 else 0
theorem awY (n:Int):PF Tryz.prog 227 [(vi (n))] (vb (decide (n>= -1099511627776)&&decide (n<=1099511627776))):=by
 refine pF Tryz.func227 rfl (λst=> ?_)
 (repeat' first|apply wZ;rfl|constructor)
theorem lN (c:Cl):PF Tryz.prog 149 [.agg c.cells] (vi (cI c)):=by
 have hf:=awY c.val.n
 unfold cI
 by_cases h1:c.kind≠2\/c.val.kind≠1
 ·rw [zp h1]
  refine pF Tryz.func149 rfl (λst=> ?_)
  (repeat' first|apply wZ;rfl|constructor|intro h;simp at h;omega|intro h)
 rw [zn h1]
 by_cases h2:c.val.s≠e0\/0<c.parts.length
 ·rw [zp h2]
  refine pF Tryz.func149 rfl (λst=> ?_)
  (repeat' first|apply wZ;rfl|constructor|(apply hf)|(((exfalso;simp at*;grind)))|apply wY;rfl|intro h;omega|intro h)
 rw [zn h2]
 by_cases h3:c.val.n< -1099511627776\/c.val.n>1099511627776
 ·rw [zp h3]
  refine pF Tryz.func149 rfl (λst=> ?_)
  (repeat' first|apply wZ;rfl|constructor|(apply hf)|(((exfalso;simp at*;grind)))|apply wY;rfl|intro h;omega|intro h)
 rw [zn h3]
 refine pF Tryz.func149 rfl (λst=> ?_)
 (repeat' first|apply wZ;rfl|constructor|(apply hf)|(((exfalso;simp at*;grind)))|apply wY;rfl|intro h;omega|intro h)
theorem uA (c:Cl):PF Tryz.prog 122 [.seq [c.cells]] (vi (cI c)):=by
 have hc:=lN c
 generalize cI c=R at*
 refine pF Tryz.func122 rfl (λst=> ?_)
 (repeat' first|apply wZ;rfl|constructor)
 refine aC (X:={x:Nat//x<=1/\(x=1->R=0)}) (λi=>((((St.nil 18 st).pv 6 (.seq [c.cells])).pv 7 ((vi ((([c.cells]).length:Nat))))).pv 8 ((vi ((i.1:Nat)))))) (λi=>1-i.1) ⟨0,by omega,by omega⟩ ?_ (λi=> ?_)
 ·(repeat' first|constructor)
 obtain ⟨i,h1,hinv⟩:=i
 dsimp only
 rcases (show i=0\/i=1 by omega) with rfl|rfl
 ·(repeat' first|(refine ⟨⟨1,by omega,λ_=>by assumption⟩, ?_, ?_⟩)|apply wZ;rfl|constructor|apply cN pk;(iterate 6 rfl);rotate_left;rfl;(intro hw;rfl);(intro hw;apply (rfl:([c.cells]:List (List PV))[0]?=some c.cells)<;>omega);(intro _;rfl);rfl|(apply hc)|apply wY;rfl|omega|intro h)
 ·have h0:=hinv rfl
  (repeat' first|apply wZ;rfl|constructor|rw [h0])
def avG (c:Cl):Vl:=if cI c=0 then c.val else Vl.zero
theorem aqT (c:Cl):PF Tryz.prog 75 [.agg c.cells] (.agg (avG c).cells):=by
 have hc:=uA c
 unfold avG
 by_cases h:cI c=0
 ·rw [zp h]
  rw [h] at hc
  refine pF Tryz.func75 rfl (λst=> ?_)
  (repeat' first|apply wZ;rfl|constructor|(apply hc)|apply wY;rfl)
 rw [zn h]
 refine pF Tryz.func75 rfl (λst=> ?_)
 (repeat' first|apply wZ;rfl|constructor|(apply hc)|apply wY;rfl|omega|intro h)
theorem afF (a b:Dt):PF Tryz.prog 226 [.agg a.cells, .agg b.cells] (vi (byD a b)):=by
 have ho:=ahJ [gZ a.dev b.dev,gZ a.seq b.seq] (by simp)
 refine pF Tryz.func226 rfl (λst=> ?_)
 (repeat' first|apply wZ;rfl|show Cn _;constructor|exact rfl|apply KR.mk;kernel_rfl|((first|apply (jE a.dev b.dev)|apply (jE a.seq b.seq)|apply ho))|apply wY;rfl)
theorem auI (a b:Dt):decide (byD a b>=0)= !bA b a:=by
 unfold byD bA gZ
 simp only [orI]
 rw [Bool.eq_iff_iff]
 simp only [zde,Bool.not_eq_true',Bool.or_eq_false_iff,Bool.and_eq_false_iff,decide_eq_false_iff_not]
 grind
def lM (p:Pt):Prop:=p.at_=0/\p.time=0/\p.after=Dt.zero/\p.afterAt=0/\p.gone=false
instance (p :Pt):Decidable (lM p):=by unfold lM;infer_instance
def fD (d:Dt):Bool:=((decide (1<=d.dev)&&decide (d.dev<=64))&&decide (1<=d.seq))&&decide (d.seq<=1048576)
def jG (p:Pt):Bool:=(decide (lM p)&&bX p.val)&&fD p.dot
def jH (p:Pt):Bool:=(decide (lM p)&&(decide (p.val.kind=1)&&bX p.val))&&fD p.dot
def yR (ok:Pt->Bool) (bh:Pt->Pt->Bool) (l:List Pt):Bool:=(List.range l.length).all λj=>ok l[j]! &&(decide (j=0)||bh l[j]! l[j-1]!)
theorem aBW {ok:Pt->Bool} {bh:Pt->Pt->Bool} {l:List Pt} {j:Nat} (h:j<l.length) (hf:(ok l[j]&&(decide (j=0)||bh l[j] (l[j-1]'(by omega))))=false):yR ok bh l=false:=by
 unfold yR
 rw [<-Bool.not_eq_true,zal]
 intro q
 have:=q j (List.mem_range.2 h)
 rw [getElem!_pos l j h,getElem!_pos l (j-1) (by omega),hf] at this
 cases this
theorem ahW {ok:Pt->Bool} {bh:Pt->Pt->Bool} {l:List Pt} (hf:∀j (h:j<l.length),(ok l[j]&&(decide (j=0)||bh l[j] (l[j-1]'(by omega))))=true):yR ok bh l=true:=by
 unfold yR
 rw [zal]
 intro j hj
 have h:=List.mem_range.1 hj
 rw [getElem!_pos l j h,getElem!_pos l (j-1) (by omega)]
 exact hf j h
def lS (c:Cl):Bool:=decide (c.kind=1/\c.val=Vl.zero)&&yR jG (λp q=>bA p.dot q.dot) c.parts
def asV (p:Pt):List PV:=[(vi (p.val.n)),(vi (p.dot.dev)),(vi (p.dot.seq))]
theorem vA (p:Pt):PF Tryz.prog 228 [.agg p.cells] (.agg (asV p)):=by
 refine pF Tryz.func228 rfl (λst=> ?_)
 (repeat' first|apply wZ;rfl|constructor)
def ahI (p q:Pt):Int:=orI [gZ p.val.n q.val.n,gZ p.dot.dev q.dot.dev,gZ p.dot.seq q.dot.seq]
theorem atW (p q:Pt):PF Tryz.prog 229 [.agg (asV p), .agg (asV q)] (vi (ahI p q)):=by
 have ho:=ahJ [gZ p.val.n q.val.n,gZ p.dot.dev q.dot.dev,gZ p.dot.seq q.dot.seq] (by simp)
 refine pF Tryz.func229 rfl (λst=> ?_)
 (repeat' first|apply wZ;rfl|show Cn _;constructor|exact rfl|apply KR.mk;kernel_rfl|((first|apply (jE p.val.n q.val.n)|apply (jE p.dot.dev q.dot.dev)|apply (jE p.dot.seq q.dot.seq)|apply ho))|apply wY;rfl)
def dY (p q:Pt):Bool:=decide (p.val.n>q.val.n)||(decide (p.val.n=q.val.n)&&bA p.dot q.dot)
theorem aDU (p q:Pt):decide (ahI p q>=0)= !dY q p:=by
 unfold ahI dY bA gZ
 simp only [orI]
 rw [Bool.eq_iff_iff]
 simp only [zde,Bool.not_eq_true',Bool.or_eq_false_iff,Bool.and_eq_false_iff,decide_eq_false_iff_not]
 grind
def jL (c:Cl):Bool:=decide (c.kind=3/\c.val=Vl.zero)&&yR jH dY c.parts
theorem uR {x:Bool} (h:gw x (decide (((0:Nat):Int)>0)) true=true):False:=by
 cases x<;>simp [gw] at h
theorem akA (c:Cl) (hl:c.parts.length<4611686018427387904):PF Tryz.prog 148 [.agg c.cells] (vb (lS c)):=by
 unfold lS
 by_cases hk:¬(c.kind=1/\c.val=Vl.zero)
 ·rw [decide_eq_false hk,Bool.false_and]
  rw [Vl.ext_iff] at hk
  simp only [Vl.zero] at hk
  refine pF Tryz.func148 rfl (λst=> ?_)
  (repeat' first|(exfalso;grind)|apply wZ;rfl|constructor|exact rfl|(intro h;simp at h))
 replace hk:=zdn hk
 rw [decide_eq_true hk,Bool.true_and]
 obtain ⟨k1,k2⟩:=hk
 rw [Vl.ext_iff] at k2
 obtain ⟨k2,k3,k4⟩:=k2
 simp only [Vl.zero] at k2 k3 k4
 refine pF Tryz.func148 rfl (λst=> ?_)
 (repeat' first|apply wZ;rfl|constructor|exact rfl|show (_:PV)=_;(exfalso;grind);done|(intro h;simp at h))
 refine aC (X:={x:Nat//x<=c.parts.length/\∀j (h:j<x) (h1:j<c.parts.length),(jG c.parts[j]&&(decide (j=0)||bA c.parts[j].dot (c.parts[j-1]'(by omega)).dot))=true}) (λi=>(((((St.nil 79 st).var 1 110 (c.cells)).pv 16 (.seq (c.parts.map Pt.cells))).pv 17 ((vi (((c.parts.map Pt.cells).length:Nat))))).pv 18 ((vi ((i.1:Nat)))))) (λi=>c.parts.length-i.1) ⟨0,by omega,λ_ h=>absurd h (Nat.not_lt_zero _)⟩ ?_ (λi=> ?_)
 ·(repeat' first|constructor|exact rfl)
 obtain ⟨i,hi,hI⟩:=i
 dsimp only
 by_cases hend:c.parts.length<=i
 ·have e:=ahW (ok:=jG) (bh:=λp q=>bA p.dot q.dot) λj h=>hI j (by omega) h
  (repeat' first|apply wZ;rfl|show Cn _;constructor|exact rfl|show (_:PV)=_;(rw [e]);done|simp only [zql];omega|(intro h;simp at h))
 have h1:i<c.parts.length:=by omega
 have hF:=aBW (ok:=jG) (bh:=λp q=>bA p.dot q.dot) h1
 have hS:(jG c.parts[i]&&(decide (i=0)||bA c.parts[i].dot (c.parts[i-1]'(by omega)).dot))=true->∀j (h:j<i+1) (h1:j<c.parts.length),(jG c.parts[j]&&(decide (j=0)||bA c.parts[j].dot (c.parts[j-1]'(by omega)).dot))=true:=λh j hj h1=>by
  rcases zls.1 hj with q|q
  ·exact hI j q h1
  ·subst q;exact h
 have hv:=iZ c.parts[i].val
 by_cases h0:i=0
 ·subst h0
  have hF':¬(jG c.parts[0]=true)->yR jG (λp q=>bA p.dot q.dot) c.parts=false:=λh=>hF (by rw [<-Bool.not_eq_true];intro q;rw [zba] at q;exact h q.1)
  simp only [jG,lM,fD,Dt.ext_iff,Dt.zero,zba,zde] at hF'
  (repeat' first|apply iX;(intro hw;exact (show _=((0:Nat):Int) from by exact (uR hw).elim));(apply gE;omega);rfl|(apply cW;focus (intro _;(apply (show PF Tryz.prog 226 [_, .agg c.parts[0].dot.cells] (vi (0)) from by rename_i hh;exact (uR hh).elim));done))|(refine ⟨⟨1,by omega,hS (by simp [jG,lM,fD,Dt.ext_iff,Dt.zero];grind)⟩, ?_, ?_⟩)|apply wZ;rfl|show Cn _;constructor|exact rfl|apply KR.mk;kernel_rfl|(apply hv)|show (_:PV)=_;((rw [hF' (by grind)];done));done|apply wY;rfl|apply wI;rfl|apply gE;omega|omega|simp only [zql];omega|(intro h;simp at h))
 obtain ⟨k,rfl⟩:∃k,i=k+1:=⟨i-1,by omega⟩
 have hd:=afF c.parts[k].dot c.parts[k+1].dot
 have hb:byD c.parts[k].dot c.parts[k+1].dot>=0↔bA c.parts[k+1].dot c.parts[k].dot=false:=by have:=auI c.parts[k].dot c.parts[k+1].dot;cases h:bA c.parts[k+1].dot c.parts[k].dot<;>simp [h] at this⊢ <;>omega
 have hF':¬(jG c.parts[k+1]=true/\byD c.parts[k].dot c.parts[k+1].dot<0)->yR jG (λp q=>bA p.dot q.dot) c.parts=false:=λh=>hF (by rw [<-Bool.not_eq_true];intro q;rw [zba] at q;exact h ⟨q.1,by have q2:=q.2;simp at q2;grind⟩)
 simp only [jG,lM,fD,Dt.ext_iff,Dt.zero,zba,zde] at hF'
 (repeat' first|apply iX;(intro hw;exact (show ((((k+1:Nat):Int))-1=((k:Nat):Int)) from by omega));(apply gE;omega);rfl|(refine ⟨⟨k+2,by omega,hS (by simp [jG,lM,fD,Dt.ext_iff,Dt.zero];grind)⟩, ?_, ?_⟩)|apply wZ;rfl|show Cn _;constructor|exact rfl|apply KR.mk;kernel_rfl|((first|apply hv|apply hd))|show (_:PV)=_;(rw [hF' (by grind)]);done|apply wY;rfl|apply wI;rfl|apply gE;omega|omega|simp only [zql];omega|(intro h;simp at h))
theorem ajH (c:Cl) (hl:c.parts.length<4611686018427387904):PF Tryz.prog 150 [.agg c.cells] (vb (jL c)):=by
 unfold jL
 by_cases hk:¬(c.kind=3/\c.val=Vl.zero)
 ·rw [decide_eq_false hk,Bool.false_and]
  rw [Vl.ext_iff] at hk
  simp only [Vl.zero] at hk
  refine pF Tryz.func150 rfl (λst=> ?_)
  (repeat' first|(exfalso;grind)|apply wZ;rfl|constructor|exact rfl|(intro h;simp at h))
 replace hk:=zdn hk
 rw [decide_eq_true hk,Bool.true_and]
 obtain ⟨k1,k2⟩:=hk
 rw [Vl.ext_iff] at k2
 obtain ⟨k2,k3,k4⟩:=k2
 simp only [Vl.zero] at k2 k3 k4
 refine pF Tryz.func150 rfl (λst=> ?_)
 (repeat' first|apply wZ;rfl|constructor|exact rfl|show (_:PV)=_;(exfalso;grind);done|(intro h;simp at h))
 refine aC (X:={x:Nat//x<=c.parts.length/\∀j (h:j<x) (h1:j<c.parts.length),(jH c.parts[j]&&(decide (j=0)||dY c.parts[j] (c.parts[j-1]'(by omega))))=true}) (λi=>(((((St.nil 85 st).var 1 110 (c.cells)).pv 16 (.seq (c.parts.map Pt.cells))).pv 17 ((vi (((c.parts.map Pt.cells).length:Nat))))).pv 18 ((vi ((i.1:Nat)))))) (λi=>c.parts.length-i.1) ⟨0,by omega,λ_ h=>absurd h (Nat.not_lt_zero _)⟩ ?_ (λi=> ?_)
 ·(repeat' first|constructor|exact rfl)
 obtain ⟨i,hi,hI⟩:=i
 dsimp only
 by_cases hend:c.parts.length<=i
 ·have e:=ahW (ok:=jH) (bh:=dY) λj h=>hI j (by omega) h
  (repeat' first|apply wZ;rfl|show Cn _;constructor|exact rfl|show (_:PV)=_;(rw [e]);done|simp only [zql];omega|(intro h;simp at h))
 have h1:i<c.parts.length:=by omega
 have hF:=aBW (ok:=jH) (bh:=dY) h1
 have hS:(jH c.parts[i]&&(decide (i=0)||dY c.parts[i] (c.parts[i-1]'(by omega))))=true->∀j (h:j<i+1) (h1:j<c.parts.length),(jH c.parts[j]&&(decide (j=0)||dY c.parts[j] (c.parts[j-1]'(by omega))))=true:=λh j hj h1=>by
  rcases zls.1 hj with q|q
  ·exact hI j q h1
  ·subst q;exact h
 have hv:=iZ c.parts[i].val
 by_cases h0:i=0
 ·subst h0
  have hof:=vA c.parts[0]
  have hF':¬(jH c.parts[0]=true)->yR jH (dY) c.parts=false:=λh=>hF (by rw [<-Bool.not_eq_true];intro q;rw [zba] at q;exact h q.1)
  simp only [jH,lM,fD,Dt.ext_iff,Dt.zero,zba,zde] at hF'
  (repeat' first|apply iX;(intro hw;exact (show _=((0:Nat):Int) from by exact (uR hw).elim));(apply gE;omega);rfl|(apply cW;focus (intro _;(apply (show PF Tryz.prog 229 [_,_] (vi (0)) from by rename_i hh;exact (uR hh).elim));done))|(refine ⟨⟨1,by omega,hS (by simp [jH,lM,fD,Dt.ext_iff,Dt.zero];grind)⟩, ?_, ?_⟩)|apply wZ;rfl|show Cn _;constructor|exact rfl|apply KR.mk;kernel_rfl|((first|apply hv|apply hof))|show (_:PV)=_;((rw [hF' (by grind)];done));done|apply wY;rfl|apply wI;rfl|apply gE;omega|omega|simp only [zql];omega|(intro h;simp at h))
 obtain ⟨k,rfl⟩:∃k,i=k+1:=⟨i-1,by omega⟩
 have hd1:=vA c.parts[k]
 have hd2:=vA c.parts[k+1]
 have hd:=atW c.parts[k] c.parts[k+1]
 have hb:ahI c.parts[k] c.parts[k+1]>=0↔dY c.parts[k+1] c.parts[k]=false:=by have:=aDU c.parts[k] c.parts[k+1];cases h:dY c.parts[k+1] c.parts[k]<;>simp [h] at this⊢ <;>omega
 have hF':¬(jH c.parts[k+1]=true/\ahI c.parts[k] c.parts[k+1]<0)->yR jH (dY) c.parts=false:=λh=>hF (by rw [<-Bool.not_eq_true];intro q;rw [zba] at q;exact h ⟨q.1,by have q2:=q.2;simp at q2;grind⟩)
 simp only [jH,lM,fD,Dt.ext_iff,Dt.zero,zba,zde] at hF'
 (repeat' first|apply iX;(intro hw;exact (show ((((k+1:Nat):Int))-1=((k:Nat):Int)) from by omega));(apply gE;omega);rfl|(refine ⟨⟨k+2,by omega,hS (by simp [jH,lM,fD,Dt.ext_iff,Dt.zero];grind)⟩, ?_, ?_⟩)|apply wZ;rfl|show Cn _;constructor|exact rfl|apply KR.mk;kernel_rfl|((first|apply hv|apply hd1|apply hd2|apply hd))|show (_:PV)=_;(rw [hF' (by grind)]);done|apply wY;rfl|apply wI;rfl|apply gE;omega|omega|simp only [zql];omega|(intro h;simp at h))
structure Tb where
 name:ByteArray
 cols:List Co
 unique:List Int
 checks:List (List PV)
 foreign:List Fr
 sums:List Su
 deriving Inhabited
def Tb.cells (a:Tb):List PV:=[.val (.string (a.name)), .seq (a.cols.map Co.cells), .seq (a.unique.map I1), .seq a.checks, .seq (a.foreign.map Fr.cells), .seq (a.sums.map Su.cells)]
abbrev Sc :=List Tb
def scC (s:Sc):List PV:=[.seq (s.map Tb.cells)]
theorem aAx (fid:FuncId) (caps:List PV) (f:Co->Bool) (l:List Co) (hl:l.length<4611686018427387904) (hf:∀p,PF Tryz.prog fid ([.agg p.cells]++caps) (vb (f p))):PF Tryz.prog 292 [.seq (l.map Co.cells), .fn fid caps] (vi (cS f l)):=by
 refine pF Tryz.func292 rfl (λst=> ?_)
 (repeat' first|apply wZ;rfl|constructor)
 refine aC (X:={x:Nat//x<=l.length/\∀j (h:j<x) (h2:j<l.length),f l[j]=false}) (λi=>(((((St.nil 19 st).pv 0 (.seq (l.map Co.cells))).pv 1 (.fn fid caps)).pv 7 ((vi ((((l.map Co.cells)).length:Nat))))).pv 8 ((vi ((i.1:Nat)))))) (λi=>l.length-i.1) ⟨0,by omega,by omega⟩ ?_ (λi=> ?_)
 ·(repeat' first|constructor)
 obtain ⟨i,hi,hinv⟩:=i
 dsimp only
 (repeat' first|(refine ⟨⟨i+1,by omega,λj h1 h2=>by rcases zls.1 h1 with q|q;exact hinv j q h2;subst q;assumption⟩, ?_, ?_⟩)|apply wZ;rfl|show Cn _;constructor|exact rfl|(apply hf)|((first|unfold cS;rw [nX ‹_› ‹_› hinv];done|unfold cS;rw [nG ‹_› hinv]))|apply wY;rfl|apply wI;rfl|apply gE;omega|omega|simp only [zql];omega|(intro h;simp at h)|intro h)
theorem axO (fid:FuncId) (caps:List PV) (f:Su->Bool) (l:List Su) (hl:l.length<4611686018427387904) (hf:∀p,PF Tryz.prog fid ([.agg p.cells]++caps) (vb (f p))):PF Tryz.prog 293 [.seq (l.map Su.cells), .fn fid caps] (vi (cS f l)):=by
 refine pF Tryz.func293 rfl (λst=> ?_)
 (repeat' first|apply wZ;rfl|constructor)
 refine aC (X:={x:Nat//x<=l.length/\∀j (h:j<x) (h2:j<l.length),f l[j]=false}) (λi=>(((((St.nil 19 st).pv 0 (.seq (l.map Su.cells))).pv 1 (.fn fid caps)).pv 7 ((vi ((((l.map Su.cells)).length:Nat))))).pv 8 ((vi ((i.1:Nat)))))) (λi=>l.length-i.1) ⟨0,by omega,by omega⟩ ?_ (λi=> ?_)
 ·(repeat' first|constructor)
 obtain ⟨i,hi,hinv⟩:=i
 dsimp only
 (repeat' first|(refine ⟨⟨i+1,by omega,λj h1 h2=>by rcases zls.1 h1 with q|q;exact hinv j q h2;subst q;assumption⟩, ?_, ?_⟩)|apply wZ;rfl|show Cn _;constructor|exact rfl|(apply hf)|((first|unfold cS;rw [nX ‹_› ‹_› hinv];done|unfold cS;rw [nG ‹_› hinv]))|apply wY;rfl|apply wI;rfl|apply gE;omega|omega|simp only [zql];omega|(intro h;simp at h)|intro h)
theorem ayT (fid:FuncId) (caps:List PV) (f:Tb->Bool) (l:List Tb) (hl:l.length<4611686018427387904) (hf:∀p,PF Tryz.prog fid ([.agg p.cells]++caps) (vb (f p))):PF Tryz.prog 214 [.seq (l.map Tb.cells), .fn fid caps] (vi (cS f l)):=by
 refine pF Tryz.func214 rfl (λst=> ?_)
 (repeat' first|apply wZ;rfl|constructor)
 refine aC (X:={x:Nat//x<=l.length/\∀j (h:j<x) (h2:j<l.length),f l[j]=false}) (λi=>(((((St.nil 19 st).pv 0 (.seq (l.map Tb.cells))).pv 1 (.fn fid caps)).pv 7 ((vi ((((l.map Tb.cells)).length:Nat))))).pv 8 ((vi ((i.1:Nat)))))) (λi=>l.length-i.1) ⟨0,by omega,by omega⟩ ?_ (λi=> ?_)
 ·(repeat' first|constructor)
 obtain ⟨i,hi,hinv⟩:=i
 dsimp only
 (repeat' first|(refine ⟨⟨i+1,by omega,λj h1 h2=>by rcases zls.1 h1 with q|q;exact hinv j q h2;subst q;assumption⟩, ?_, ?_⟩)|apply wZ;rfl|show Cn _;constructor|exact rfl|(apply hf)|((first|unfold cS;rw [nX ‹_› ‹_› hinv];done|unfold cS;rw [nG ‹_› hinv]))|apply wY;rfl|apply wI;rfl|apply gE;omega|omega|simp only [zql];omega|(intro h;simp at h)|intro h)
theorem azT (fid:FuncId) (caps:List PV) (f:Co->Bool) (l:List Co) (hl:l.length<4611686018427387904) (hf:∀p,PF Tryz.prog fid ([.agg p.cells]++caps) (vb (f p))):PF Tryz.prog 219 [.seq (l.map Co.cells), .fn fid caps] (vb (l.any f)):=by
 have h:=aAx fid caps f l hl hf
 refine pF Tryz.func219 rfl (λst=> ?_)
 (repeat' first|apply wZ;rfl|constructor|(apply h)|rw [pY]|apply wY;rfl)
theorem axT (fid:FuncId) (caps:List PV) (f:Su->Bool) (l:List Su) (hl:l.length<4611686018427387904) (hf:∀p,PF Tryz.prog fid ([.agg p.cells]++caps) (vb (f p))):PF Tryz.prog 225 [.seq (l.map Su.cells), .fn fid caps] (vb (l.any f)):=by
 have h:=axO fid caps f l hl hf
 refine pF Tryz.func225 rfl (λst=> ?_)
 (repeat' first|apply wZ;rfl|constructor|(apply h)|rw [pY]|apply wY;rfl)
def eB (f:Nat->Int) (n:Nat):Int:=orI ((List.range n).map f)
theorem aCo {l:List Int} {i:Nat} (h:i<l.length) (hf:l[i]≠0) (hn:∀j (h:j<i) (h2:j<l.length),l[j]=0):orI l=l[i]:=by
 induction l generalizing i with
 |nil=>simp at h
 |cons a l ih=>
  cases i with
  |zero=>simp only [List.getElem_cons_zero] at hf⊢;rw [orI,zn hf]
  |succ i=>
   have h0:=hn 0 (by omega) (by simp)
   simp only [List.getElem_cons_zero] at h0
   rw [orI,zp h0]
   simp only [List.getElem_cons_succ] at hf⊢
   exact ih (by simpa using h) hf λj hj h2=>by have:=hn (j+1) (by omega) (by simpa using h2);simpa using this
theorem aAX {l:List Int} (hn:∀x∈l,x=0):orI l=0:=by
 induction l with
 |nil=>rfl
 |cons a l ih=>rw [orI,zp (hn a (by simp))];exact ih λx hx=>hn x (by simp [hx])
theorem alF {f:Nat->Int} {n i:Nat} (h:i<n) (hf:f i≠0) (hn:∀j<i,f j=0):eB f n=f i:=by
 unfold eB
 have:=aCo (l:=(List.range n).map f) (i:=i) (by simpa using h) (by simpa using hf) (λj hj h2=>by simpa using hn j hj)
 simpa using this
theorem alH {f:Nat->Int} {n:Nat} (hn:∀j<n,f j=0):eB f n=0:=
 aAX λx hx=>by
  obtain ⟨j,hj,rfl⟩:=List.mem_map.1 hx
  exact hn j (List.mem_range.1 hj)
theorem iA (fid:FuncId) (caps:List PV) (f:Nat->Int) (n:Nat) (hn:n<4611686018427387904) (hf:∀k,k<n->(∀j<k,f j=0)->PF Tryz.prog fid ([(vi ((k:Nat)))]++caps) (vi (f k))):PF Tryz.prog 216 [(vi ((n:Nat))), .fn fid caps] (vi (eB f n)):=by
 refine pF Tryz.func216 rfl (λst=> ?_)
 (repeat' first|apply wZ;rfl|constructor)
 refine aC (X:={x:Nat//x<=n/\∀j<x,f j=0}) (λi=>((((St.nil 18 st).pv 1 (.fn fid caps)).pv 7 ((vi ((n:Nat))))).pv 8 ((vi ((i.1:Nat)))))) (λi=>n-i.1) ⟨0,by omega,by omega⟩ ?_ (λi=> ?_)
 ·(repeat' first|constructor)
 obtain ⟨i,hi,hinv⟩:=i
 dsimp only
 by_cases hend:n<=i
 ·rw [alH (f:=f) (n:=n) λj hj=>hinv j (by omega)]
  (repeat' first|apply wZ;rfl|constructor|omega|intro h)
 have hfi:=hf i (by omega) hinv
 (repeat' first|(refine ⟨⟨i+1,by omega,λj hj=>by rcases zls.1 hj with q|q;exact hinv j q;subst q;assumption⟩, ?_, ?_⟩)|apply wZ;rfl|show Cn _;constructor|exact rfl|(apply hfi)|rw [alF (by omega) ‹_› hinv]|apply wY;rfl|omega|simp only [zql];omega|intro h)
def mF (c:Co):Bool:=decide (c.kind=0)&&decide (c.type_=1)
def oX (t:Tb) (i:Int):Bool:=decide (i>=1)&&decide (i<t.cols.length)
def kR (t:Tb) (i:Int):Co:=t.cols[i.toNat]!
theorem dR (c:Co):PF Tryz.prog 140 [.agg c.cells] (vb (mF c)):=by
 refine pF Tryz.func140 rfl (λst=> ?_)
 (repeat' first|apply wZ;rfl|constructor)
theorem tC (t:Tb) (i:Int):PF Tryz.prog 221 [.agg t.cells,(vi (i))] (vb (oX t i)):=by
 refine pF Tryz.func221 rfl (λst=> ?_)
 (repeat' first|apply wZ;rfl|constructor|rw [zql];rfl)
def avT (pre:List Co) (c:Co):Int:=if aaP c.name=false\/c.kind<0\/c.kind>4 then 1 else if (pre.any λx=>decide (x.name=c.name))=true then 5 else if (c.type_≠1/\c.type_≠2)\/(¬(c.kind=0\/c.kind=1)/\¬(c.type_=2↔c.kind=4)) then 6 else if c.null=true/\¬(c.kind=0\/c.kind=1) then 1 else 0
def amO (t:Tb) (k:Nat):Int:=avT (t.cols.take k) t.cols[k]!
theorem aCe (x c:Co):PF Tryz.prog 218 [.agg x.cells, .rp c.cells] (vb (decide (x.name=c.name))):=by
 refine pF Tryz.func218 rfl (λst=> ?_)
 (repeat' first|apply wZ;rfl|constructor)
theorem aGr (t:Tb) (k:Nat) (hl:t.cols.length<200000000000000) (hk:k<t.cols.length):PF Tryz.prog 217 [(vi ((k:Nat))), .rp t.cells] (vi (amO t k)):=by
 have hn:=aeY t.cols[k].name
 have hc:=azT 218 [.rp t.cols[k].cells] (λx=>decide (x.name=t.cols[k].name)) (t.cols.take k) (by rw [zlt];omega) λp=>aCe p _
 have e:amO t k=avT (t.cols.take k) t.cols[k]:=by unfold amO;rw [getElem!_pos t.cols k hk]
 rw [e]
 unfold avT
 generalize aaP t.cols[k].name=N at*
 generalize ((t.cols.take k).any λx=>decide (x.name=t.cols[k].name))=A at*
 have hE:(((t.cols.drop 0).take (k-0)).map Co.cells)=(t.cols.take k).map Co.cells:=by simp
 refine pF Tryz.func217 rfl (λst=> ?_)
 (repeat' first|apply wZ;rfl|constructor|((first|apply hn|apply hc))|show (_:PV)=_;(congr 2;grind)|apply aY 4;rfl;rfl|apply slS pk (f:=Co.cells) (xs:=t.cols) 0 k;(iterate 5 rfl);rotate_left;rfl;(intro _;rfl);(intro _;exact aW);(intro _;exact aJ rfl rfl);(intro _;omega);(intro _;omega);rfl;rw [hE]|apply wY;rfl|apply wI;rfl|apply gE;omega|intro h)
theorem agZ (t:Tb) (hl:t.cols.length<200000000000000):PF Tryz.prog 138 [.agg t.cells] (vi (eB (amO t) t.cols.length)):=by
 have e:(t.cols.map Co.cells).length=t.cols.length:=zql _
 have h:=iA 217 [.rp t.cells] (amO t) (t.cols.map Co.cells).length (by omega) λk hk _=>aGr t k hl (by omega)
 rw [<-e]
 refine pF Tryz.func138 rfl (λst=> ?_)
 (repeat' first|apply wZ;rfl|constructor|(apply h)|apply aY 1;rfl;rfl|apply wY;rfl)
theorem zC {t:Tb} {i:Int} (h:oX t i=true):∃j:Nat,i=j/\∃h:j<t.cols.length,kR t i=t.cols[j]:=by
 unfold oX at h
 simp only [zba,zde] at h
 refine ⟨i.toNat,by omega,by omega, ?_⟩
 unfold kR
 rw [getElem!_pos t.cols i.toNat (by omega)]
def amA (h:Bool) (p:Bool) (n:Bool):Int:=if h=false then 4 else if p=true then 1 else if n=false then 6 else 0
def ajW (t:Tb) (k:Nat):Int:=amA (oX t t.unique[k]!) (decide (0<k)&&decide (t.unique[k]!<=t.unique[k-1]!)) (mF (kR t t.unique[k]!))
theorem aED (t:Tb) (k:Nat) (hl:t.cols.length<200000000000000) (hu:t.unique.length<200000000000000) (hk:k<t.unique.length):PF Tryz.prog 220 [(vi ((k:Nat))), .rp t.cells] (vi (ajW t k)):=by
 have hh:=tC t t.unique[k]
 have e:ajW t k=amA (oX t t.unique[k]) (decide (0<k)&&decide (t.unique[k]<=t.unique[k-1]'(by omega))) (mF (kR t t.unique[k])):=by
  unfold ajW;rw [getElem!_pos t.unique k hk,getElem!_pos t.unique (k-1) (by omega)]
 rw [e]
 unfold amA
 cases hc:oX t t.unique[k] with
 |false=>
  rw [hc] at hh
  refine pF Tryz.func220 rfl (λst=> ?_)
  (repeat' first|apply wZ;rfl|constructor|(apply hh)|apply wY;rfl|apply wI;rfl|apply gE;omega)
 |true=>
  rw [hc] at hh
  obtain ⟨j,hj,hjl,hj2⟩:=zC hc
  rw [hj2]
  have hnn:=dR t.cols[j]
  generalize mF t.cols[j]=N at*
  rcases Nat.eq_zero_or_pos k with rfl|hpos
  ·refine pF Tryz.func220 rfl (λst=> ?_)
   (repeat' first|apply iX;(intro hw;exact (by first|rfl|exact hj|exact (show _=((0:Nat):Int) from (uR hw).elim)));(apply gE;omega);rfl|apply wZ;rfl|constructor|((first|apply hh|apply hnn))|(congr 2;grind)|apply wY;rfl|apply wI;rfl|intro h)
  ·obtain ⟨m,rfl⟩:∃m,k=m+1:=⟨k-1,by omega⟩
   refine pF Tryz.func220 rfl (λst=> ?_)
   (repeat' first|apply iX;(intro hw;exact (by first|rfl|exact hj|exact (show ((((m+1:Nat):Int))-1=((m:Nat):Int)) from by omega)));(apply gE;omega);rfl|apply wZ;rfl|constructor|((first|apply hh|apply hnn))|show (_:PV)=_;(congr 2;grind);done|apply wY;rfl|apply wI;rfl|omega|intro h)
theorem ahN (t:Tb) (hl:t.cols.length<200000000000000) (hu:t.unique.length<200000000000000):PF Tryz.prog 142 [.agg t.cells] (vi (eB (ajW t) t.unique.length)):=by
 have e:(t.unique.map I1).length=t.unique.length:=zql _
 have h:=iA 220 [.rp t.cells] (ajW t) (t.unique.map I1).length (by omega) λk hk _=>aED t k hl hu (by omega)
 rw [<-e]
 refine pF Tryz.func142 rfl (λst=> ?_)
 (repeat' first|apply wZ;rfl|constructor|(apply h)|apply aY 1;rfl;rfl|apply wY;rfl)
def anM (h:Bool) (b:Bool) (p:Bool) (a:Bool) (n:Bool) (z:Bool):Int:=if h=false\/b=true then 4 else if p=true\/a=true then 1 else if n=false\/z=true then 6 else 0
def aqS (m:Nat) (t:Tb) (k:Nat):Int:=anM (oX t t.foreign[k]!.col) (decide (t.foreign[k]!.table<0)||decide (t.foreign[k]!.table>=m)) (decide (0<k)&&decide (t.foreign[k]!.col<=t.foreign[k-1]!.col)) (decide (t.foreign[k]!.act<0)||decide (t.foreign[k]!.act>2)) (mF (kR t t.foreign[k]!.col)) (decide (t.foreign[k]!.act=2)&& !(kR t t.foreign[k]!.col).null)
theorem aEy (s:Sc) (t:Tb) (k:Nat) (hl:t.cols.length<200000000000000) (hu:t.foreign.length<200000000000000) (hk:k<t.foreign.length):PF Tryz.prog 222 [(vi ((k:Nat))), .rp t.cells, .rp (scC s)] (vi (aqS s.length t k)):=by
 have hh:=tC t t.foreign[k].col
 have e:aqS s.length t k=anM (oX t t.foreign[k].col) (decide (t.foreign[k].table<0)||decide (t.foreign[k].table>=s.length)) (decide (0<k)&&decide (t.foreign[k].col<=(t.foreign[k-1]'(by omega)).col)) (decide (t.foreign[k].act<0)||decide (t.foreign[k].act>2)) (mF (kR t t.foreign[k].col)) (decide (t.foreign[k].act=2)&& !(kR t t.foreign[k].col).null):=by
  unfold aqS;rw [getElem!_pos t.foreign k hk,getElem!_pos t.foreign (k-1) (by omega)]
 rw [e]
 unfold anM
 have el:(s.map Tb.cells).length=s.length:=zql _
 rw [<-el]
 cases hc:oX t t.foreign[k].col with
 |false=>
  rw [hc] at hh
  refine pF Tryz.func222 rfl (λst=> ?_)
  (repeat' first|apply wZ;rfl|constructor|exact rfl|(apply hh)|apply wY;rfl|apply wI;rfl|apply gE;omega)
 |true=>
  rw [hc] at hh
  obtain ⟨j,hj,hjl,hj2⟩:=zC hc
  rw [hj2]
  have hnn:=dR t.cols[j]
  generalize mF t.cols[j]=N at*
  rcases Nat.eq_zero_or_pos k with rfl|hpos
  ·refine pF Tryz.func222 rfl (λst=> ?_)
   (repeat' first|apply iX;(intro hw;exact (by first|rfl|exact hj|exact (show _=((0:Nat):Int) from (uR hw).elim)));(apply gE;omega);rfl|apply wZ;rfl|show Cn _;constructor|exact rfl|apply KR.mk;kernel_rfl|((first|apply hh|apply hnn))|(congr 2;grind)|apply wY;rfl|apply wI;rfl|omega|intro h)
  ·obtain ⟨m,rfl⟩:∃m,k=m+1:=⟨k-1,by omega⟩
   refine pF Tryz.func222 rfl (λst=> ?_)
   (repeat' first|apply iX;(intro hw;exact (by first|rfl|exact hj|exact (show ((((m+1:Nat):Int))-1=((m:Nat):Int)) from by omega)));(apply gE;omega);rfl|apply wZ;rfl|show Cn _;constructor|exact rfl|apply KR.mk;kernel_rfl|((first|apply hh|apply hnn))|show (_:PV)=_;(congr 2;grind);done|apply wY;rfl|apply wI;rfl|omega|intro h)
theorem adJ (s:Sc) (t:Tb) (hl:t.cols.length<200000000000000) (hu:t.foreign.length<200000000000000):PF Tryz.prog 144 [.agg (scC s), .agg t.cells] (vi (eB (aqS s.length t) t.foreign.length)):=by
 have e:(t.foreign.map Fr.cells).length=t.foreign.length:=zql _
 have h:=iA 222 [.rp t.cells, .rp (scC s)] (aqS s.length t) (t.foreign.map Fr.cells).length (by omega) λk hk _=>aEy s t k hl hu (by omega)
 rw [<-e]
 refine pF Tryz.func144 rfl (λst=> ?_)
 (repeat' first|apply wZ;rfl|constructor|(apply h)|apply aY 3;rfl;rfl|apply aY 2;rfl;rfl|apply wY;rfl)
def amY (h:Bool) (a:Bool) (n:Bool) (p:Bool):Int:=if h=false then 4 else if a=true then 1 else if n=false then 6 else if p=true then 5 else 0
def alP (t:Tb) (k:Nat):Int:=amY (oX t t.sums[k]!.col&&oX t t.sums[k]!.by_) ((decide (t.sums[k]!.col=t.sums[k]!.by_)||decide (t.sums[k]!.max<0))||decide (t.sums[k]!.max>1099511627776)) (mF (kR t t.sums[k]!.col)&&mF (kR t t.sums[k]!.by_)) ((t.sums.take k).any λy=>decide (y.col=t.sums[k]!.col)&&decide (y.by_=t.sums[k]!.by_))
theorem aBp (x c:Su):PF Tryz.prog 224 [.agg x.cells, .rp c.cells] (vb (decide (x.col=c.col)&&decide (x.by_=c.by_))):=by
 refine pF Tryz.func224 rfl (λst=> ?_)
 (repeat' first|apply wZ;rfl|constructor)
theorem aEC (t:Tb) (k:Nat) (hl:t.cols.length<200000000000000) (hu:t.sums.length<200000000000000) (hk:k<t.sums.length):PF Tryz.prog 223 [(vi ((k:Nat))), .rp t.cells] (vi (alP t k)):=by
 have h1:=tC t t.sums[k].col
 have h2:=tC t t.sums[k].by_
 have hc:=axT 224 [.rp t.sums[k].cells] (λy=>decide (y.col=t.sums[k].col)&&decide (y.by_=t.sums[k].by_)) (t.sums.take k) (by rw [zlt];omega) λp=>aBp p _
 have e:alP t k=amY (oX t t.sums[k].col&&oX t t.sums[k].by_) ((decide (t.sums[k].col=t.sums[k].by_)||decide (t.sums[k].max<0))||decide (t.sums[k].max>1099511627776)) (mF (kR t t.sums[k].col)&&mF (kR t t.sums[k].by_)) ((t.sums.take k).any λy=>decide (y.col=t.sums[k].col)&&decide (y.by_=t.sums[k].by_)):=by
  unfold alP;rw [getElem!_pos t.sums k hk]
 have hE:(((t.sums.drop 0).take (k-0)).map Su.cells)=(t.sums.take k).map Su.cells:=by simp
 rw [e]
 unfold amY
 generalize ((t.sums.take k).any λy=>decide (y.col=t.sums[k].col)&&decide (y.by_=t.sums[k].by_))=A at*
 cases c1:oX t t.sums[k].col with
 |false=>
  rw [c1] at h1
  refine pF Tryz.func223 rfl (λst=> ?_)
  (repeat' first|apply wZ;rfl|constructor|((first|apply h1|apply h2))|apply aY 4;rfl;rfl|apply wY;rfl|apply wI;rfl|apply gE;omega)
 |true=>
 cases c2:oX t t.sums[k].by_ with
 |false=>
  rw [c1] at h1
  rw [c2] at h2
  refine pF Tryz.func223 rfl (λst=> ?_)
  (repeat' first|apply wZ;rfl|constructor|((first|apply h1|apply h2))|apply aY 4;rfl;rfl|apply wY;rfl|apply wI;rfl|apply gE;omega)
 |true=>
  rw [c1] at h1
  rw [c2] at h2
  obtain ⟨j,hj,hjl,hj2⟩:=zC c1
  obtain ⟨i,hi,hil,hi2⟩:=zC c2
  rw [hj2,hi2]
  have hn1:=dR t.cols[j]
  have hn2:=dR t.cols[i]
  generalize mF t.cols[j]=N at*
  generalize mF t.cols[i]=M at*
  refine pF Tryz.func223 rfl (λst=> ?_)
  (repeat' first|apply iX;(intro hw;exact (by first|rfl|exact hj|exact hi));(apply gE;omega);rfl|apply wZ;rfl|constructor|exact rfl|((first|apply h1|apply h2|apply hn1|apply hn2|apply hc))|show (_:PV)=_;(congr 2;grind);done|apply aY 4;rfl;rfl|apply slS pk (f:=Su.cells) (xs:=t.sums) 0 k;(iterate 5 rfl);rotate_left;rfl;(intro _;rfl);(intro _;exact aW);(intro _;exact aJ rfl rfl);(intro _;omega);(intro _;omega);rfl;rw [hE]|apply wY;rfl|apply wI;rfl|intro h|intro h)
theorem ayF (t:Tb) (hl:t.cols.length<200000000000000) (hu:t.sums.length<200000000000000):PF Tryz.prog 146 [.agg t.cells] (vi (eB (alP t) t.sums.length)):=by
 have e:(t.sums.map Su.cells).length=t.sums.length:=zql _
 have h:=iA 223 [.rp t.cells] (alP t) (t.sums.map Su.cells).length (by omega) λk hk _=>aEC t k hl hu (by omega)
 rw [<-e]
 refine pF Tryz.func146 rfl (λst=> ?_)
 (repeat' first|apply wZ;rfl|constructor|(apply h)|apply aY 1;rfl;rfl|apply wY;rfl)
theorem aAb (t:Tb) (n:ByteArray):PF Tryz.prog 215 [.agg t.cells, .rp [(vs (n))]] (vb (decide (t.name=n))):=by
 refine pF Tryz.func215 rfl (λst=> ?_)
 (repeat' first|apply wZ;rfl|constructor)
def axV (s:Sc) (n:ByteArray):Int:=cS (λt:Tb=>decide (t.name=n)) s
theorem asE (s:Sc) (n:ByteArray) (hl:s.length<200000000000000):PF Tryz.prog 135 [.agg (scC s),(vs (n))] (.tup [(vi (max (axV s n) 0)),(vb (decide (axV s n>=0)))]):=by
 have h:=ayT 215 [.rp [(vs (n))]] (λt=>decide (t.name=n)) s (by omega) λp=>aAb p n
 change PF _ _ _ (vi (axV s n)) at h
 generalize axV s n=R at*
 refine pF Tryz.func135 rfl (λst=> ?_)
 (repeat' first|apply wZ;rfl|constructor|(apply h)|apply aY 3;rfl;rfl|apply wY;rfl)
end Go.Proofs.YtfablfldonhkiaaGreatDoor
