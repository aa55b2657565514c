import Derived.Test.YtfablfldonhkiaaGreatDoorClAa
import Derived.Test.YtfablfldonhkiaaGreatDoorAbsI
set_option linter.unusedSimpArgs false
set_option linter.unusedVariables false
namespace Go.Proofs.YtfablfldonhkiaaGreatDoor
open Go Go.Abs
attribute [local irreducible] Ev PWp
set_option maxRecDepth 10000
set_option maxHeartbeats 4000000
def abc :ByteArray:=⟨#[97,98,99,100,101,102,103,104,105,106,107,108,109,110,111,112,113,114,115,116,117,118,119,120,121,122]⟩
def abc9 :ByteArray:=⟨#[97,98,99,100,101,102,103,104,105,106,107,108,109,110,111,112,113,114,115,116,117,118,119,120,121,122,48,49,50,51,52,53,54,55,56,57,95]⟩
def aC2 (b:UInt8):Bool:=decide (97<=b.toNat)&&decide (b.toNat<=122)
def alB (b:UInt8):Bool:=(aC2 b||(decide (48<=b.toNat)&&decide (b.toNat<=57)))||decide (b.toNat=95)
theorem aEt {p:UInt8->Bool} (h:((List.range 256).all λn=>p (UInt8.ofNat n))=true) (b:UInt8):p b=true:=by
 have:=zal.1 h b.toNat (List.mem_range.2 b.toNat_lt)
 simpa using this
theorem axY (b:UInt8):abc9.data.toList.contains b=alB b:=by
 have:=aEt (p:=λb=>abc9.data.toList.contains b==alB b) (by decide+kernel) b
 simpa using this
theorem aFq (b:UInt8):decide (firstIdx abc b>=0)=aC2 b:=by
 have:=aEt (p:=λb=>decide (firstIdx abc b>=0)==aC2 b) (by decide+kernel) b
 simpa using this
theorem acE {α:Type} {p:α->Bool}:∀{l:List α},l.dropWhile p=[]↔∀x∈l,p x=true
 |[]=>by simp
 |a::l=>by
  rw [List.dropWhile_cons]
  cases h:p a with
  |true=>simp [h,acE (l:=l)]
  |false=>simp [h]
theorem ahZ {l cs:List UInt8}:Lib.trimS l cs=[]↔∀x∈l,cs.contains x=true:=by
 have b:∀{m:List UInt8} {p:UInt8->Bool},(∀x∈m,p x=true)↔∀x∈m.dropWhile p,p x=true:=by
  intro m p;constructor
  ·exact λh x hx=>h x (List.dropWhile_sublist p|>.subset hx)
  ·intro h
   cases e:m.dropWhile p with
   |nil=>exact acE.1 e
   |cons a rs=>
    have d:=h a (by rw [e];simp);have c:=List.head_dropWhile_not p (l:=m) (by rw [e];simp);simp only [e,List.head_cons] at c;rw [d] at c;cases c
 unfold Lib.trimS Lib.trimLeftS Lib.trimRightS;rw [acE];have:=b (m:=l.reverse) (p:=λx=>cs.contains x);simp only [List.mem_reverse] at this⊢;exact this.symm
theorem anQ :(Tryz.prog.info? (renT.t 116)).map (λi=>(i.zero,i.size))=some (some (.agg (Array.replicate 256 (.bool false))),256):=by kernel_rfl
theorem aBJ (s:ByteArray) (h0:0<s.size) (hs:s.size<=9223372036854775807):PF Tryz.prog 212 [(vs (s)),(vs (abc9))] (vs (⟨(Lib.trimS s.data.toList abc9.data.toList).toArray⟩)):=
 aIJ (by kernel_rfl) λw=>(Any.strings_Trim_set aKX (zero_of_info anQ).1 (zero_of_info anQ).2 s abc9 w (by decide) h0 hs (by decide) (ascii_of_all (by decide))).mono λe w' ⟨a,q,b⟩=>⟨a, .inr ⟨_,_,q,b⟩⟩
theorem auN (s:ByteArray) (h:s.data.toList.all alB=true):(⟨(Lib.trimS s.data.toList abc9.data.toList).toArray⟩:ByteArray)=e0:=by
 rw [ahZ.2 λx hx=>by rw [axY];exact zal.1 h x hx]
theorem aEE (s:ByteArray) (h:s.data.toList.all alB=false):(⟨(Lib.trimS s.data.toList abc9.data.toList).toArray⟩:ByteArray)≠e0:=λe=>by
 have:Lib.trimS s.data.toList abc9.data.toList=[]:=by
  have:=congrArg (λb:ByteArray=>b.data.toList) e
  simpa using this
 rw [ahZ] at this
 rw [<-Bool.not_eq_true,zal] at h
 exact h λx hx=>by rw [<-axY];exact this x hx
theorem akH (b:ByteArray) (c:UInt8):PF Tryz.prog 341 [(vs (b)), .val (.int .u8 (c.toNat:Int))] (vi (firstIdx b c)):=by
 have e:(((c.toNat:Nat):Int).toNat).toUInt8=c:=by simp
 refine pF Tryz.func341 rfl (λst=> ?_)
 (repeat' first|apply wZ;rfl|constructor|rw [e]|apply aJm pk;rfl;rfl;exact Tryz.func352;kernel_rfl;kernel_rfl;kernel_rfl;kernel_rfl;rfl;rfl;rotate_left;rfl;rfl)
def one (c:UInt8):ByteArray:=⟨#[c]⟩
theorem aBI (c:UInt8):PF Tryz.prog 322 [(vs (abc)),(vs (one c))] (vi (firstIdx abc c)):=by
 have hb:=akH abc c;have hz:(one c).size=1:=rfl;have hg:(one c)[0]?=some c:=rfl;have a:¬(one c=abc):=λe=>by have:=congrArg ByteArray.size e;rw [hz] at this;cases this
 have b:¬(one c=ByteArray.empty\/one c=abc):=λq=>q.elim (λe=>by have:=congrArg ByteArray.size e;rw [hz] at this;cases this) a;refine pF Tryz.func322 rfl (λst=> ?_)
 (repeat' first|apply wZ;rfl|constructor|(apply hb)|apply sxA pk.htt 0 c;(iterate 6 rfl);exact hg;rfl|apply wY;rfl)
theorem atT (c:UInt8):PF Tryz.prog 213 [(vs (abc)),(vs (one c))] (vb (aC2 c)):=by
 have a:=aBI c;have b:PF Tryz.prog 291 [(vs (abc)),(vs (one c))] (vi (firstIdx abc c)):=by
  refine pF Tryz.func291 rfl (λst=> ?_)
  (repeat' first|apply wZ;rfl|constructor|(apply a)|apply wY;rfl)
 refine pF Tryz.func213 rfl (λst=> ?_)
 (repeat' first|apply wZ;rfl|constructor|(apply b)|rw [<-aFq]|apply wY;rfl)
def acR (s:ByteArray):Bool:=match s.data.toList with
 |[]=>false
 |c::l=>aC2 c&&(decide (s.size<=12)&&(c::l).all alB)
theorem aBN (s:ByteArray):s.size=s.data.toList.length:=(Array.length_toList (xs:=s.data)).symm
theorem ahG (s:ByteArray):PF Tryz.prog 134 [(vs (s))] (vb (acR s)):=by
 unfold acR;cases hl:s.data.toList with
 |nil=>
  obtain rfl:s=e0:=by
   apply ByteArray.ext;apply Array.toList_inj.1;rw [hl]
  refine pF Tryz.func134 rfl (λst=> ?_)
  (repeat' first|(apply cW;focus (intro _;(apply (show PF Tryz.prog 212 [_,_] (vs (e0)) from by rename_i hh;exact absurd (show false=true from hh) (by simp)));done))|(apply cW;focus (intro _;(apply (show PF Tryz.prog 213 [_,_] (vb (false)) from by rename_i hh;exact absurd (show false=true from hh) (by simp)));done))|apply wZ;rfl|constructor|apply slT pk 0 1;rfl;rfl;rfl;rotate_left;rfl;(intro _;exact aZ);(intro _;exact aL rfl rfl);(intro _;omega);(intro hh;exact absurd (show false=true from hh) (by simp));rfl|apply wY;rfl)
 |cons c l=>
  have hz:=aBN s;rw [hl] at hz;have h0:0<s.size:=by rw [hz];simp
  have a:¬(s=e0):=λe=>by rw [e] at h0;exact absurd h0 (by decide)
  have d:¬(s=(⟨#[]⟩:ByteArray)):=a;have g:s.extract 0 1=one c:=by
   apply ByteArray.ext;apply Array.toList_inj.1;show _=[c];rw [ByteArray.data_extract,Array.toList_extract,hl];rfl
  dsimp only;by_cases f:s.size<=12
  ·have ht:=aBJ s h0 (by omega)
   have b:(s.size:Int)<=12:=by omega
   have hc:=atT c;rw [<-g] at hc;cases ha:s.data.toList.all alB with
   |true=>
    rw [auN s ha] at ht;rw [hl] at ha;rw [ha];refine pF Tryz.func134 rfl (λst=> ?_)
    (repeat' first|apply wZ;rfl|constructor|((first|apply ht|apply hc))|simp [a,d,f,b,e0];done|apply slT pk 0 1;rfl;rfl;rfl;rotate_left;rfl;(intro _;exact aZ);(intro _;exact aL rfl rfl);(intro _;omega);(intro _;omega);rfl|apply wY;rfl)
   |false=>
    have h:=aEE s ha;rw [hl] at ha;rw [ha];have i:¬((⟨(Lib.trimS s.data.toList abc9.data.toList).toArray⟩:ByteArray)=(⟨#[]⟩:ByteArray)):=h;generalize (⟨(Lib.trimS s.data.toList abc9.data.toList).toArray⟩:ByteArray)=T at*;refine pF Tryz.func134 rfl (λst=> ?_)
    (repeat' first|apply wZ;rfl|constructor|((first|apply ht|apply hc))|simp [a,d,f,b,h,i];done|apply slT pk 0 1;rfl;rfl;rfl;rotate_left;rfl;(intro _;exact aZ);(intro _;exact aL rfl rfl);(intro _;omega);(intro _;omega);rfl|apply wY;rfl)
  ·have b:¬(s.size:Int)<=12:=by omega
   have e:decide (s.size<=12)=false:=decide_eq_false f;have j:decide ((s.size:Int)<=12)=false:=decide_eq_false (by omega);have k:decide (s=e0)=false:=decide_eq_false a;have hT:∀p,(gw true (!decide (s=e0)) true&&p)=true->True:=λ_ _=>trivial;rw [e,Bool.false_and,Bool.and_false];refine pF Tryz.func134 rfl (λst=> ?_)
   (repeat' first|(apply cW;focus (intro _;(apply (show PF Tryz.prog 212 [_,_] (vs (e0)) from by rename_i hh;simp [gw,a] at hh;omega));done))|(apply cW;focus (intro _;(apply (show PF Tryz.prog 213 [_,_] (vb (false)) from by rename_i hh;simp [gw,a] at hh;omega));done))|apply wZ;rfl|constructor|simp [a,d,f,b,e0];done|apply slT pk 0 1;rfl;rfl;rfl;rotate_left;rfl;(intro _;exact aZ);(intro _;exact aL rfl rfl);(intro _;omega);(intro hh;omega);rfl|apply wY;rfl)
def cF (v:Vl):Bool:=if v.kind=0 then decide (v.n=0)&&decide (v.s=e0) else if v.kind=1 then (decide (v.s=e0)&&decide (v.n>= -1099511627776))&&decide (v.n<=1099511627776) else if v.kind=2 then decide (v.n=0)&&decide ((v.s.size:Int)<=200) else false
theorem jQ (v:Vl):PF Tryz.prog 147 [.agg v.cells] (vb (cF v)):=by
 unfold cF;by_cases h0:v.kind=0
 ·rw [zp h0]
  refine pF Tryz.func147 rfl (λst=> ?_)
  (repeat' first|apply wZ;rfl|constructor|simp [h0];done|intro h)
 by_cases a:v.kind=1
 ·rw [zn h0,zp a]
  refine pF Tryz.func147 rfl (λst=> ?_)
  (repeat' first|apply wZ;rfl|constructor|omega|intro h)
 rw [zn h0,zn a];by_cases b:v.kind=2
 ·rw [zp b]
  refine pF Tryz.func147 rfl (λst=> ?_)
  (repeat' first|apply wZ;rfl|constructor|omega|intro h)
 rw [zn b];refine pF Tryz.func147 rfl (λst=> ?_)
 (repeat' first|apply wZ;rfl|constructor|omega|intro h)
def bU (c:Cl):Int:=if c.kind≠2\/c.val.kind≠1 then 6 else if c.val.s≠e0\/0<c.parts.length then 1 else if c.val.n< -1099511627776\/c.val.n>1099511627776 then 20 else 0
theorem azA (n:Int):PF Tryz.prog 227 [(vi (n))] (vb (decide (n>= -1099511627776)&&decide (n<=1099511627776))):=by
 refine pF Tryz.func227 rfl (λst=> ?_)
 (repeat' first|apply wZ;rfl|constructor)
theorem mL (c:Cl):PF Tryz.prog 149 [.agg c.cells] (vi (bU c)):=by
 have hf:=azA c.val.n;unfold bU;by_cases a:c.kind≠2\/c.val.kind≠1
 ·rw [zp a]
  refine pF Tryz.func149 rfl (λst=> ?_)
  (repeat' first|apply wZ;rfl|constructor|intro h;simp at h;omega|intro h)
 rw [zn a];by_cases b:c.val.s≠e0\/0<c.parts.length
 ·rw [zp b]
  refine pF Tryz.func149 rfl (λst=> ?_)
  (repeat' first|apply wZ;rfl|constructor|(apply hf)|(((exfalso;simp at*;grind)))|apply wY;rfl|intro h;omega|intro h)
 rw [zn b];by_cases d:c.val.n< -1099511627776\/c.val.n>1099511627776
 ·rw [zp d]
  refine pF Tryz.func149 rfl (λst=> ?_)
  (repeat' first|apply wZ;rfl|constructor|(apply hf)|(((exfalso;simp at*;grind)))|apply wY;rfl|intro h;omega|intro h)
 rw [zn d];refine pF Tryz.func149 rfl (λst=> ?_)
 (repeat' first|apply wZ;rfl|constructor|(apply hf)|(((exfalso;simp at*;grind)))|apply wY;rfl|intro h;omega|intro h)
theorem akP (c:Cl):PF Tryz.prog 203 [.agg c.cells] (vi (bU c)):=by
 unfold bU;by_cases a:c.kind≠2\/c.val.kind≠1
 ·rw [zp a]
  refine pF Tryz.func203 rfl (λst=> ?_)
  (repeat' first|apply wZ;rfl|constructor|intro h;simp at h;omega|intro h)
 rw [zn a];by_cases b:c.val.s≠e0\/0<c.parts.length
 ·rw [zp b]
  refine pF Tryz.func203 rfl (λst=> ?_)
  (repeat' first|apply wZ;rfl|constructor|(((exfalso;simp at*;grind)))|intro h;omega|intro h)
 rw [zn b];by_cases d:c.val.n< -1099511627776\/c.val.n>1099511627776
 ·rw [zp d]
  refine pF Tryz.func203 rfl (λst=> ?_)
  (repeat' first|apply wZ;rfl|constructor|(((exfalso;simp at*;grind)))|intro h;omega|intro h)
 rw [zn d];refine pF Tryz.func203 rfl (λst=> ?_)
 (repeat' first|apply wZ;rfl|constructor|(((exfalso;simp at*;grind)))|intro h;omega|intro h)
theorem vS (c:Cl):PF Tryz.prog 122 [.seq [c.cells]] (vi (bU c)):=by
 have hc:=mL c;generalize bU c=R at*;refine pF Tryz.func122 rfl (λst=> ?_)
 (repeat' first|apply wZ;rfl|constructor)
 refine aC (X:={x:Nat//x<=1/\(x=1->R=0)}) (λi=>((((St.nil 18 st).pv 6 (.seq [c.cells])).pv 7 ((vi ((([c.cells]).length:Nat))))).pv 8 ((vi ((i.1:Nat)))))) (λi=>1-i.1) ⟨0,by omega,by omega⟩ ?_ (λi=> ?_)
 ·(repeat' first|constructor)
 obtain ⟨i,b,a⟩:=i;dsimp only;rcases (show i=0\/i=1 by omega) with rfl|rfl
 ·(repeat' first|(refine ⟨⟨1,by omega,λ_=>by assumption⟩, ?_, ?_⟩)|apply wZ;rfl|constructor|apply dM pk;(iterate 6 rfl);rotate_left;rfl;(intro hw;rfl);(intro hw;apply (rfl:([c.cells]:List (List PV))[0]?=some c.cells)<;>omega);(intro _;rfl);rfl|(apply hc)|apply wY;rfl|omega|intro h)
 ·have h0:=a rfl
  (repeat' first|apply wZ;rfl|constructor|rw [h0])
def adM (c:Cl):Vl:=if bU c=0 then c.val else Vl.zero
theorem atD (c:Cl):PF Tryz.prog 75 [.agg c.cells] (.agg (adM c).cells):=by
 have hc:=vS c;unfold adM;by_cases h:bU c=0
 ·rw [zp h]
  rw [h] at hc;refine pF Tryz.func75 rfl (λst=> ?_)
  (repeat' first|apply wZ;rfl|constructor|(apply hc)|apply wY;rfl)
 rw [zn h];refine pF Tryz.func75 rfl (λst=> ?_)
 (repeat' first|apply wZ;rfl|constructor|(apply hc)|apply wY;rfl|omega|intro h)
theorem ahN (a b:Dt):PF Tryz.prog 226 [.agg a.cells, .agg b.cells] (vi (byD a b)):=by
 have ho:=ajP [iT a.dev b.dev,iT a.seq b.seq] (by simp);refine pF Tryz.func226 rfl (λst=> ?_)
 (repeat' first|apply wZ;rfl|show Cn _;constructor|exact rfl|apply KR.mk;kernel_rfl|((first|apply (jW a.dev b.dev)|apply (jW a.seq b.seq)|apply ho))|apply wY;rfl)
theorem awM (a b:Dt):decide (byD a b>=0)= !bE b a:=by
 unfold byD bE iT;simp only [orI];rw [Bool.eq_iff_iff];simp only [zde,Bool.not_eq_true',Bool.or_eq_false_iff,Bool.and_eq_false_iff,decide_eq_false_iff_not]
 grind
def mK (p:Pt):Prop:=p.at_=0/\p.time=0/\p.after=Dt.zero/\p.afterAt=0/\p.gone=false
instance (p :Pt):Decidable (mK p):=by unfold mK;infer_instance
def fM (d:Dt):Bool:=((decide (1<=d.dev)&&decide (d.dev<=64))&&decide (1<=d.seq))&&decide (d.seq<=1048576)
def jY (p:Pt):Bool:=(decide (mK p)&&cF p.val)&&fM p.dot
def jZ (p:Pt):Bool:=(decide (mK p)&&(decide (p.val.kind=1)&&cF p.val))&&fM p.dot
def aaN (ok:Pt->Bool) (bh:Pt->Pt->Bool) (l:List Pt):Bool:=(List.range l.length).all λj=>ok l[j]! &&(decide (j=0)||bh l[j]! l[j-1]!)
theorem aC3 {ok:Pt->Bool} {bh:Pt->Pt->Bool} {l:List Pt} {j:Nat} (h:j<l.length) (hf:(ok l[j]&&(decide (j=0)||bh l[j] (l[j-1]'(by omega))))=false):aaN ok bh l=false:=by
 unfold aaN;rw [<-Bool.not_eq_true,zal];intro q;have:=q j (List.mem_range.2 h);rw [getElem!_pos l j h,getElem!_pos l (j-1) (by omega),hf] at this;cases this
theorem akE {ok:Pt->Bool} {bh:Pt->Pt->Bool} {l:List Pt} (hf:∀j (h:j<l.length),(ok l[j]&&(decide (j=0)||bh l[j] (l[j-1]'(by omega))))=true):aaN ok bh l=true:=by
 unfold aaN;rw [zal];intro j hj;have h:=List.mem_range.1 hj;rw [getElem!_pos l j h,getElem!_pos l (j-1) (by omega)];exact hf j h
def mT (c:Cl):Bool:=decide (c.kind=1/\c.val=Vl.zero)&&aaN jY (λp q=>bE p.dot q.dot) c.parts
def avD (p:Pt):List PV:=[(vi (p.val.n)),(vi (p.dot.dev)),(vi (p.dot.seq))]
theorem xB (p:Pt):PF Tryz.prog 228 [.agg p.cells] (.agg (avD p)):=by
 refine pF Tryz.func228 rfl (λst=> ?_)
 (repeat' first|apply wZ;rfl|constructor)
def ahI (p q:Pt):Int:=orI [iT p.val.n q.val.n,iT p.dot.dev q.dot.dev,iT p.dot.seq q.dot.seq]
theorem awA (p q:Pt):PF Tryz.prog 229 [.agg (avD p), .agg (avD q)] (vi (ahI p q)):=by
 have ho:=ajP [iT p.val.n q.val.n,iT p.dot.dev q.dot.dev,iT p.dot.seq q.dot.seq] (by simp);refine pF Tryz.func229 rfl (λst=> ?_)
 (repeat' first|apply wZ;rfl|show Cn _;constructor|exact rfl|apply KR.mk;kernel_rfl|((first|apply (jW p.val.n q.val.n)|apply (jW p.dot.dev q.dot.dev)|apply (jW p.dot.seq q.dot.seq)|apply ho))|apply wY;rfl)
def eI (p q:Pt):Bool:=decide (p.val.n>q.val.n)||(decide (p.val.n=q.val.n)&&bE p.dot q.dot)
theorem aEU (p q:Pt):decide (ahI p q>=0)= !eI q p:=by
 unfold ahI eI bE iT;simp only [orI];rw [Bool.eq_iff_iff];simp only [zde,Bool.not_eq_true',Bool.or_eq_false_iff,Bool.and_eq_false_iff,decide_eq_false_iff_not]
 grind
def kG (c:Cl):Bool:=decide (c.kind=3/\c.val=Vl.zero)&&aaN jZ eI c.parts
theorem wO {x:Bool} (h:gw x (decide (((0:Nat):Int)>0)) true=true):False:=by
 cases x<;>simp [gw] at h
theorem amQ (c:Cl) (hl:c.parts.length<4611686018427387904):PF Tryz.prog 148 [.agg c.cells] (vb (mT c)):=by
 unfold mT;by_cases hk:¬(c.kind=1/\c.val=Vl.zero)
 ·rw [decide_eq_false hk,Bool.false_and]
  rw [Vl.ext_iff] at hk;simp only [Vl.zero] at hk;refine pF Tryz.func148 rfl (λst=> ?_)
  (repeat' first|(exfalso;grind)|apply wZ;rfl|constructor|exact rfl|(intro h;simp at h))
 replace hk:=zdn hk
 rw [decide_eq_true hk,Bool.true_and];obtain ⟨k1,k2⟩:=hk;rw [Vl.ext_iff] at k2;obtain ⟨k2,m,n⟩:=k2;simp only [Vl.zero] at k2 m n;refine pF Tryz.func148 rfl (λst=> ?_)
 (repeat' first|apply wZ;rfl|constructor|exact rfl|show (_:PV)=_;(exfalso;grind);done|(intro h;simp at h))
 refine aC (X:={x:Nat//x<=c.parts.length/\∀j (h:j<x) (b:j<c.parts.length),(jY c.parts[j]&&(decide (j=0)||bE c.parts[j].dot (c.parts[j-1]'(by omega)).dot))=true}) (λi=>(((((St.nil 79 st).var 1 110 (c.cells)).pv 16 (.seq (c.parts.map Pt.cells))).pv 17 ((vi (((c.parts.map Pt.cells).length:Nat))))).pv 18 ((vi ((i.1:Nat)))))) (λi=>c.parts.length-i.1) ⟨0,by omega,λ_ h=>absurd h (Nat.not_lt_zero _)⟩ ?_ (λi=> ?_)
 ·(repeat' first|constructor|exact rfl)
 obtain ⟨i,hi,f⟩:=i;dsimp only;by_cases l:c.parts.length<=i
 ·have e:=akE (ok:=jY) (bh:=λp q=>bE p.dot q.dot) λj h=>f j (by omega) h
  (repeat' first|apply wZ;rfl|show Cn _;constructor|exact rfl|show (_:PV)=_;(rw [e]);done|simp only [zql];omega|(intro h;simp at h))
 have b:i<c.parts.length:=by omega
 have d:=aC3 (ok:=jY) (bh:=λp q=>bE p.dot q.dot) b;have g:(jY c.parts[i]&&(decide (i=0)||bE c.parts[i].dot (c.parts[i-1]'(by omega)).dot))=true->∀j (h:j<i+1) (b:j<c.parts.length),(jY c.parts[j]&&(decide (j=0)||bE c.parts[j].dot (c.parts[j-1]'(by omega)).dot))=true:=λh j hj b=>by
  rcases zls.1 hj with q|q
  ·exact f j q b
  ·subst q;exact h
 have hv:=jQ c.parts[i].val;by_cases h0:i=0
 ·subst h0
  have a:¬(jY c.parts[0]=true)->aaN jY (λp q=>bE p.dot q.dot) c.parts=false:=λh=>d (by rw [<-Bool.not_eq_true];intro q;rw [zba] at q;exact h q.1);simp only [jY,mK,fM,Dt.ext_iff,Dt.zero,zba,zde] at a
  (repeat' first|apply iX;(intro hw;exact (show _=((0:Nat):Int) from by exact (wO hw).elim));(apply gE;omega);rfl|(apply cW;focus (intro _;(apply (show PF Tryz.prog 226 [_, .agg c.parts[0].dot.cells] (vi (0)) from by rename_i hh;exact (wO hh).elim));done))|(refine ⟨⟨1,by omega,g (by simp [jY,mK,fM,Dt.ext_iff,Dt.zero];grind)⟩, ?_, ?_⟩)|apply wZ;rfl|show Cn _;constructor|exact rfl|apply KR.mk;kernel_rfl|(apply hv)|show (_:PV)=_;((rw [a (by grind)];done));done|apply wY;rfl|apply wI;rfl|apply gE;omega|omega|simp only [zql];omega|(intro h;simp at h))
 obtain ⟨k,rfl⟩:∃k,i=k+1:=⟨i-1,by omega⟩;have hd:=ahN c.parts[k].dot c.parts[k+1].dot;have hb:byD c.parts[k].dot c.parts[k+1].dot>=0↔bE c.parts[k+1].dot c.parts[k].dot=false:=by have:=awM c.parts[k].dot c.parts[k+1].dot;cases h:bE c.parts[k+1].dot c.parts[k].dot<;>simp [h] at this⊢ <;>omega
 have a:¬(jY c.parts[k+1]=true/\byD c.parts[k].dot c.parts[k+1].dot<0)->aaN jY (λp q=>bE p.dot q.dot) c.parts=false:=λh=>d (by rw [<-Bool.not_eq_true];intro q;rw [zba] at q;exact h ⟨q.1,by have o:=q.2;simp at o;grind⟩);simp only [jY,mK,fM,Dt.ext_iff,Dt.zero,zba,zde] at a
 (repeat' first|apply iX;(intro hw;exact (show ((((k+1:Nat):Int))-1=((k:Nat):Int)) from by omega));(apply gE;omega);rfl|(refine ⟨⟨k+2,by omega,g (by simp [jY,mK,fM,Dt.ext_iff,Dt.zero];grind)⟩, ?_, ?_⟩)|apply wZ;rfl|show Cn _;constructor|exact rfl|apply KR.mk;kernel_rfl|((first|apply hv|apply hd))|show (_:PV)=_;(rw [a (by grind)]);done|apply wY;rfl|apply wI;rfl|apply gE;omega|omega|simp only [zql];omega|(intro h;simp at h))
theorem alT (c:Cl) (hl:c.parts.length<4611686018427387904):PF Tryz.prog 150 [.agg c.cells] (vb (kG c)):=by
 unfold kG;by_cases hk:¬(c.kind=3/\c.val=Vl.zero)
 ·rw [decide_eq_false hk,Bool.false_and]
  rw [Vl.ext_iff] at hk;simp only [Vl.zero] at hk;refine pF Tryz.func150 rfl (λst=> ?_)
  (repeat' first|(exfalso;grind)|apply wZ;rfl|constructor|exact rfl|(intro h;simp at h))
 replace hk:=zdn hk
 rw [decide_eq_true hk,Bool.true_and];obtain ⟨k1,k2⟩:=hk;rw [Vl.ext_iff] at k2;obtain ⟨k2,p,r⟩:=k2;simp only [Vl.zero] at k2 p r;refine pF Tryz.func150 rfl (λst=> ?_)
 (repeat' first|apply wZ;rfl|constructor|exact rfl|show (_:PV)=_;(exfalso;grind);done|(intro h;simp at h))
 refine aC (X:={x:Nat//x<=c.parts.length/\∀j (h:j<x) (b:j<c.parts.length),(jZ c.parts[j]&&(decide (j=0)||eI c.parts[j] (c.parts[j-1]'(by omega))))=true}) (λi=>(((((St.nil 85 st).var 1 110 (c.cells)).pv 16 (.seq (c.parts.map Pt.cells))).pv 17 ((vi (((c.parts.map Pt.cells).length:Nat))))).pv 18 ((vi ((i.1:Nat)))))) (λi=>c.parts.length-i.1) ⟨0,by omega,λ_ h=>absurd h (Nat.not_lt_zero _)⟩ ?_ (λi=> ?_)
 ·(repeat' first|constructor|exact rfl)
 obtain ⟨i,hi,m⟩:=i;dsimp only;by_cases o:c.parts.length<=i
 ·have e:=akE (ok:=jZ) (bh:=eI) λj h=>m j (by omega) h
  (repeat' first|apply wZ;rfl|show Cn _;constructor|exact rfl|show (_:PV)=_;(rw [e]);done|simp only [zql];omega|(intro h;simp at h))
 have b:i<c.parts.length:=by omega
 have l:=aC3 (ok:=jZ) (bh:=eI) b;have n:(jZ c.parts[i]&&(decide (i=0)||eI c.parts[i] (c.parts[i-1]'(by omega))))=true->∀j (h:j<i+1) (b:j<c.parts.length),(jZ c.parts[j]&&(decide (j=0)||eI c.parts[j] (c.parts[j-1]'(by omega))))=true:=λh j hj b=>by
  rcases zls.1 hj with q|q
  ·exact m j q b
  ·subst q;exact h
 have hv:=jQ c.parts[i].val;by_cases h0:i=0
 ·subst h0
  have g:=xB c.parts[0];have a:¬(jZ c.parts[0]=true)->aaN jZ (eI) c.parts=false:=λh=>l (by rw [<-Bool.not_eq_true];intro q;rw [zba] at q;exact h q.1);simp only [jZ,mK,fM,Dt.ext_iff,Dt.zero,zba,zde] at a
  (repeat' first|apply iX;(intro hw;exact (show _=((0:Nat):Int) from by exact (wO hw).elim));(apply gE;omega);rfl|(apply cW;focus (intro _;(apply (show PF Tryz.prog 229 [_,_] (vi (0)) from by rename_i hh;exact (wO hh).elim));done))|(refine ⟨⟨1,by omega,n (by simp [jZ,mK,fM,Dt.ext_iff,Dt.zero];grind)⟩, ?_, ?_⟩)|apply wZ;rfl|show Cn _;constructor|exact rfl|apply KR.mk;kernel_rfl|((first|apply hv|apply g))|show (_:PV)=_;((rw [a (by grind)];done));done|apply wY;rfl|apply wI;rfl|apply gE;omega|omega|simp only [zql];omega|(intro h;simp at h))
 obtain ⟨k,rfl⟩:∃k,i=k+1:=⟨i-1,by omega⟩;have d:=xB c.parts[k];have f:=xB c.parts[k+1];have hd:=awA c.parts[k] c.parts[k+1];have hb:ahI c.parts[k] c.parts[k+1]>=0↔eI c.parts[k+1] c.parts[k]=false:=by have:=aEU c.parts[k] c.parts[k+1];cases h:eI c.parts[k+1] c.parts[k]<;>simp [h] at this⊢ <;>omega
 have a:¬(jZ c.parts[k+1]=true/\ahI c.parts[k] c.parts[k+1]<0)->aaN jZ (eI) c.parts=false:=λh=>l (by rw [<-Bool.not_eq_true];intro q;rw [zba] at q;exact h ⟨q.1,by have s:=q.2;simp at s;grind⟩);simp only [jZ,mK,fM,Dt.ext_iff,Dt.zero,zba,zde] at a
 (repeat' first|apply iX;(intro hw;exact (show ((((k+1:Nat):Int))-1=((k:Nat):Int)) from by omega));(apply gE;omega);rfl|(refine ⟨⟨k+2,by omega,n (by simp [jZ,mK,fM,Dt.ext_iff,Dt.zero];grind)⟩, ?_, ?_⟩)|apply wZ;rfl|show Cn _;constructor|exact rfl|apply KR.mk;kernel_rfl|((first|apply hv|apply d|apply f|apply hd))|show (_:PV)=_;(rw [a (by grind)]);done|apply wY;rfl|apply wI;rfl|apply gE;omega|omega|simp only [zql];omega|(intro h;simp at h))
structure Tb where
 name:ByteArray
 cols:List Co
 unique:List Int
 checks:List (List PV)
 foreign:List Fr
 sums:List Su
 deriving Inhabited
def Tb.cells (a:Tb):List PV:=[.val (.string (a.name)), .seq (a.cols.map Co.cells), .seq (a.unique.map I1), .seq a.checks, .seq (a.foreign.map Fr.cells), .seq (a.sums.map Su.cells)]
abbrev Sc :=List Tb
def scC (s:Sc):List PV:=[.seq (s.map Tb.cells)]
theorem aBD (b:FuncId) (caps:List PV) (f:Co->Bool) (l:List Co) (hl:l.length<4611686018427387904) (hf:∀p,PF Tryz.prog b ([.agg p.cells]++caps) (vb (f p))):PF Tryz.prog 292 [.seq (l.map Co.cells), .fn b caps] (vi (cY f l)):=by
 refine pF Tryz.func292 rfl (λst=> ?_)
 (repeat' first|apply wZ;rfl|constructor)
 refine aC (X:={x:Nat//x<=l.length/\∀j (h:j<x) (c:j<l.length),f l[j]=false}) (λi=>(((((St.nil 19 st).pv 0 (.seq (l.map Co.cells))).pv 1 (.fn b caps)).pv 7 ((vi ((((l.map Co.cells)).length:Nat))))).pv 8 ((vi ((i.1:Nat)))))) (λi=>l.length-i.1) ⟨0,by omega,by omega⟩ ?_ (λi=> ?_)
 ·(repeat' first|constructor)
 obtain ⟨i,hi,a⟩:=i;dsimp only
 (repeat' first|(refine ⟨⟨i+1,by omega,λj d c=>by rcases zls.1 d with q|q;exact a j q c;subst q;assumption⟩, ?_, ?_⟩)|apply wZ;rfl|show Cn _;constructor|exact rfl|(apply hf)|((first|unfold cY;rw [lK ‹_› ‹_› a];done|unfold cY;rw [mS ‹_› a]))|apply wY;rfl|apply wI;rfl|apply gE;omega|omega|simp only [zql];omega|(intro h;simp at h)|intro h)
theorem azT (b:FuncId) (caps:List PV) (f:Su->Bool) (l:List Su) (hl:l.length<4611686018427387904) (hf:∀p,PF Tryz.prog b ([.agg p.cells]++caps) (vb (f p))):PF Tryz.prog 293 [.seq (l.map Su.cells), .fn b caps] (vi (cY f l)):=by
 refine pF Tryz.func293 rfl (λst=> ?_)
 (repeat' first|apply wZ;rfl|constructor)
 refine aC (X:={x:Nat//x<=l.length/\∀j (h:j<x) (c:j<l.length),f l[j]=false}) (λi=>(((((St.nil 19 st).pv 0 (.seq (l.map Su.cells))).pv 1 (.fn b caps)).pv 7 ((vi ((((l.map Su.cells)).length:Nat))))).pv 8 ((vi ((i.1:Nat)))))) (λi=>l.length-i.1) ⟨0,by omega,by omega⟩ ?_ (λi=> ?_)
 ·(repeat' first|constructor)
 obtain ⟨i,hi,a⟩:=i;dsimp only
 (repeat' first|(refine ⟨⟨i+1,by omega,λj d c=>by rcases zls.1 d with q|q;exact a j q c;subst q;assumption⟩, ?_, ?_⟩)|apply wZ;rfl|show Cn _;constructor|exact rfl|(apply hf)|((first|unfold cY;rw [lK ‹_› ‹_› a];done|unfold cY;rw [mS ‹_› a]))|apply wY;rfl|apply wI;rfl|apply gE;omega|omega|simp only [zql];omega|(intro h;simp at h)|intro h)
theorem aAB (b:FuncId) (caps:List PV) (f:Tb->Bool) (l:List Tb) (hl:l.length<4611686018427387904) (hf:∀p,PF Tryz.prog b ([.agg p.cells]++caps) (vb (f p))):PF Tryz.prog 214 [.seq (l.map Tb.cells), .fn b caps] (vi (cY f l)):=by
 refine pF Tryz.func214 rfl (λst=> ?_)
 (repeat' first|apply wZ;rfl|constructor)
 refine aC (X:={x:Nat//x<=l.length/\∀j (h:j<x) (c:j<l.length),f l[j]=false}) (λi=>(((((St.nil 19 st).pv 0 (.seq (l.map Tb.cells))).pv 1 (.fn b caps)).pv 7 ((vi ((((l.map Tb.cells)).length:Nat))))).pv 8 ((vi ((i.1:Nat)))))) (λi=>l.length-i.1) ⟨0,by omega,by omega⟩ ?_ (λi=> ?_)
 ·(repeat' first|constructor)
 obtain ⟨i,hi,a⟩:=i;dsimp only
 (repeat' first|(refine ⟨⟨i+1,by omega,λj d c=>by rcases zls.1 d with q|q;exact a j q c;subst q;assumption⟩, ?_, ?_⟩)|apply wZ;rfl|show Cn _;constructor|exact rfl|(apply hf)|((first|unfold cY;rw [lK ‹_› ‹_› a];done|unfold cY;rw [mS ‹_› a]))|apply wY;rfl|apply wI;rfl|apply gE;omega|omega|simp only [zql];omega|(intro h;simp at h)|intro h)
theorem aA6 (a:FuncId) (caps:List PV) (f:Co->Bool) (l:List Co) (hl:l.length<4611686018427387904) (hf:∀p,PF Tryz.prog a ([.agg p.cells]++caps) (vb (f p))):PF Tryz.prog 219 [.seq (l.map Co.cells), .fn a caps] (vb (l.any f)):=by
 have h:=aBD a caps f l hl hf;refine pF Tryz.func219 rfl (λst=> ?_)
 (repeat' first|apply wZ;rfl|constructor|(apply h)|rw [qV]|apply wY;rfl)
theorem azY (a:FuncId) (caps:List PV) (f:Su->Bool) (l:List Su) (hl:l.length<4611686018427387904) (hf:∀p,PF Tryz.prog a ([.agg p.cells]++caps) (vb (f p))):PF Tryz.prog 225 [.seq (l.map Su.cells), .fn a caps] (vb (l.any f)):=by
 have h:=azT a caps f l hl hf;refine pF Tryz.func225 rfl (λst=> ?_)
 (repeat' first|apply wZ;rfl|constructor|(apply h)|rw [qV]|apply wY;rfl)
def eN (f:Nat->Int) (n:Nat):Int:=orI ((List.range n).map f)
theorem aDx {l:List Int} {i:Nat} (h:i<l.length) (hf:l[i]≠0) (hn:∀j (h:j<i) (b:j<l.length),l[j]=0):orI l=l[i]:=by
 induction l generalizing i with
 |nil=>simp at h
 |cons a l ih=>
  cases i with
  |zero=>simp only [List.getElem_cons_zero] at hf⊢;rw [orI,zn hf]
  |succ i=>
   have h0:=hn 0 (by omega) (by simp);simp only [List.getElem_cons_zero] at h0;rw [orI,zp h0];simp only [List.getElem_cons_succ] at hf⊢;exact ih (by simpa using h) hf λj hj b=>by have:=hn (j+1) (by omega) (by simpa using b);simpa using this
theorem aB5 {l:List Int} (hn:∀x∈l,x=0):orI l=0:=by
 induction l with
 |nil=>rfl
 |cons a l ih=>rw [orI,zp (hn a (by simp))];exact ih λx hx=>hn x (by simp [hx])
theorem aoB {f:Nat->Int} {n i:Nat} (h:i<n) (hf:f i≠0) (hn:∀j<i,f j=0):eN f n=f i:=by
 unfold eN;have:=aDx (l:=(List.range n).map f) (i:=i) (by simpa using h) (by simpa using hf) (λj hj a=>by simpa using hn j hj)
 simpa using this
theorem aoD {f:Nat->Int} {n:Nat} (hn:∀j<n,f j=0):eN f n=0:=
 aB5 λx hx=>by
  obtain ⟨j,hj,rfl⟩:=List.mem_map.1 hx
  exact hn j (List.mem_range.1 hj)
theorem iU (b:FuncId) (caps:List PV) (f:Nat->Int) (n:Nat) (hn:n<4611686018427387904) (hf:∀k,k<n->(∀j<k,f j=0)->PF Tryz.prog b ([(vi ((k:Nat)))]++caps) (vi (f k))):PF Tryz.prog 216 [(vi ((n:Nat))), .fn b caps] (vi (eN f n)):=by
 refine pF Tryz.func216 rfl (λst=> ?_)
 (repeat' first|apply wZ;rfl|constructor)
 refine aC (X:={x:Nat//x<=n/\∀j<x,f j=0}) (λi=>((((St.nil 18 st).pv 1 (.fn b caps)).pv 7 ((vi ((n:Nat))))).pv 8 ((vi ((i.1:Nat)))))) (λi=>n-i.1) ⟨0,by omega,by omega⟩ ?_ (λi=> ?_)
 ·(repeat' first|constructor)
 obtain ⟨i,hi,a⟩:=i;dsimp only;by_cases d:n<=i
 ·rw [aoD (f:=f) (n:=n) λj hj=>a j (by omega)]
  (repeat' first|apply wZ;rfl|constructor|omega|intro h)
 have c:=hf i (by omega) a
 (repeat' first|(refine ⟨⟨i+1,by omega,λj hj=>by rcases zls.1 hj with q|q;exact a j q;subst q;assumption⟩, ?_, ?_⟩)|apply wZ;rfl|show Cn _;constructor|exact rfl|(apply c)|rw [aoB (by omega) ‹_› a]|apply wY;rfl|omega|simp only [zql];omega|intro h)
def nD (c:Co):Bool:=decide (c.kind=0)&&decide (c.type_=1)
def pX (t:Tb) (i:Int):Bool:=decide (i>=1)&&decide (i<t.cols.length)
def lO (t:Tb) (i:Int):Co:=t.cols[i.toNat]!
theorem eC (c:Co):PF Tryz.prog 140 [.agg c.cells] (vb (nD c)):=by
 refine pF Tryz.func140 rfl (λst=> ?_)
 (repeat' first|apply wZ;rfl|constructor)
theorem uS (t:Tb) (i:Int):PF Tryz.prog 221 [.agg t.cells,(vi (i))] (vb (pX t i)):=by
 refine pF Tryz.func221 rfl (λst=> ?_)
 (repeat' first|apply wZ;rfl|constructor|rw [zql];rfl)
def axU (pre:List Co) (c:Co):Int:=if acR c.name=false\/c.kind<0\/c.kind>4 then 1 else if (pre.any λx=>decide (x.name=c.name))=true then 5 else if (c.type_≠1/\c.type_≠2)\/(¬(c.kind=0\/c.kind=1)/\¬(c.type_=2↔c.kind=4)) then 6 else if c.null=true/\¬(c.kind=0\/c.kind=1) then 1 else 0
def apM (t:Tb) (k:Nat):Int:=axU (t.cols.take k) t.cols[k]!
theorem aDn (x c:Co):PF Tryz.prog 218 [.agg x.cells, .rp c.cells] (vb (decide (x.name=c.name))):=by
 refine pF Tryz.func218 rfl (λst=> ?_)
 (repeat' first|apply wZ;rfl|constructor)
theorem aHG (t:Tb) (k:Nat) (hl:t.cols.length<200000000000000) (hk:k<t.cols.length):PF Tryz.prog 217 [(vi ((k:Nat))), .rp t.cells] (vi (apM t k)):=by
 have hn:=ahG t.cols[k].name;have hc:=aA6 218 [.rp t.cols[k].cells] (λx=>decide (x.name=t.cols[k].name)) (t.cols.take k) (by rw [zlt];omega) λp=>aDn p _;have e:apM t k=axU (t.cols.take k) t.cols[k]:=by unfold apM;rw [getElem!_pos t.cols k hk]
 rw [e];unfold axU;generalize acR t.cols[k].name=N at*;generalize ((t.cols.take k).any λx=>decide (x.name=t.cols[k].name))=A at*;have a:(((t.cols.drop 0).take (k-0)).map Co.cells)=(t.cols.take k).map Co.cells:=by simp
 refine pF Tryz.func217 rfl (λst=> ?_)
 (repeat' first|apply wZ;rfl|constructor|((first|apply hn|apply hc))|show (_:PV)=_;(congr 2;grind)|apply bC 4;rfl;rfl|apply slS pk (f:=Co.cells) (xs:=t.cols) 0 k;(iterate 5 rfl);rotate_left;rfl;(intro _;rfl);(intro _;exact aZ);(intro _;exact aL rfl rfl);(intro _;omega);(intro _;omega);rfl;rw [a]|apply wY;rfl|apply wI;rfl|apply gE;omega|intro h)
theorem ajC (t:Tb) (hl:t.cols.length<200000000000000):PF Tryz.prog 138 [.agg t.cells] (vi (eN (apM t) t.cols.length)):=by
 have e:(t.cols.map Co.cells).length=t.cols.length:=zql _;have h:=iU 217 [.rp t.cells] (apM t) (t.cols.map Co.cells).length (by omega) λk hk _=>aHG t k hl (by omega);rw [<-e];refine pF Tryz.func138 rfl (λst=> ?_)
 (repeat' first|apply wZ;rfl|constructor|(apply h)|apply bC 1;rfl;rfl|apply wY;rfl)
theorem aaZ {t:Tb} {i:Int} (h:pX t i=true):∃j:Nat,i=j/\∃h:j<t.cols.length,lO t i=t.cols[j]:=by
 unfold pX at h;simp only [zba,zde] at h;refine ⟨i.toNat,by omega,by omega, ?_⟩;unfold lO;rw [getElem!_pos t.cols i.toNat (by omega)]
def aoW (h:Bool) (p:Bool) (n:Bool):Int:=if h=false then 4 else if p=true then 1 else if n=false then 6 else 0
def amN (t:Tb) (k:Nat):Int:=aoW (pX t t.unique[k]!) (decide (0<k)&&decide (t.unique[k]!<=t.unique[k-1]!)) (nD (lO t t.unique[k]!))
theorem aFJ (t:Tb) (k:Nat) (hl:t.cols.length<200000000000000) (hu:t.unique.length<200000000000000) (hk:k<t.unique.length):PF Tryz.prog 220 [(vi ((k:Nat))), .rp t.cells] (vi (amN t k)):=by
 have hh:=uS t t.unique[k];have e:amN t k=aoW (pX t t.unique[k]) (decide (0<k)&&decide (t.unique[k]<=t.unique[k-1]'(by omega))) (nD (lO t t.unique[k])):=by
  unfold amN;rw [getElem!_pos t.unique k hk,getElem!_pos t.unique (k-1) (by omega)]
 rw [e];unfold aoW;cases hc:pX t t.unique[k] with
 |false=>
  rw [hc] at hh;refine pF Tryz.func220 rfl (λst=> ?_)
  (repeat' first|apply wZ;rfl|constructor|(apply hh)|apply wY;rfl|apply wI;rfl|apply gE;omega)
 |true=>
  rw [hc] at hh;obtain ⟨j,hj,d,b⟩:=aaZ hc;rw [b];have a:=eC t.cols[j];generalize nD t.cols[j]=N at*;rcases Nat.eq_zero_or_pos k with rfl|c
  ·refine pF Tryz.func220 rfl (λst=> ?_)
   (repeat' first|apply iX;(intro hw;exact (by first|rfl|exact hj|exact (show _=((0:Nat):Int) from (wO hw).elim)));(apply gE;omega);rfl|apply wZ;rfl|constructor|((first|apply hh|apply a))|(congr 2;grind)|apply wY;rfl|apply wI;rfl|intro h)
  ·obtain ⟨m,rfl⟩:∃m,k=m+1:=⟨k-1,by omega⟩
   refine pF Tryz.func220 rfl (λst=> ?_)
   (repeat' first|apply iX;(intro hw;exact (by first|rfl|exact hj|exact (show ((((m+1:Nat):Int))-1=((m:Nat):Int)) from by omega)));(apply gE;omega);rfl|apply wZ;rfl|constructor|((first|apply hh|apply a))|show (_:PV)=_;(congr 2;grind);done|apply wY;rfl|apply wI;rfl|omega|intro h)
theorem ajU (t:Tb) (hl:t.cols.length<200000000000000) (hu:t.unique.length<200000000000000):PF Tryz.prog 142 [.agg t.cells] (vi (eN (amN t) t.unique.length)):=by
 have e:(t.unique.map I1).length=t.unique.length:=zql _;have h:=iU 220 [.rp t.cells] (amN t) (t.unique.map I1).length (by omega) λk hk _=>aFJ t k hl hu (by omega);rw [<-e];refine pF Tryz.func142 rfl (λst=> ?_)
 (repeat' first|apply wZ;rfl|constructor|(apply h)|apply bC 1;rfl;rfl|apply wY;rfl)
def aqP (h:Bool) (b:Bool) (p:Bool) (a:Bool) (n:Bool) (z:Bool):Int:=if h=false\/b=true then 4 else if p=true\/a=true then 1 else if n=false\/z=true then 6 else 0
def atC (m:Nat) (t:Tb) (k:Nat):Int:=aqP (pX t t.foreign[k]!.col) (decide (t.foreign[k]!.table<0)||decide (t.foreign[k]!.table>=m)) (decide (0<k)&&decide (t.foreign[k]!.col<=t.foreign[k-1]!.col)) (decide (t.foreign[k]!.act<0)||decide (t.foreign[k]!.act>2)) (nD (lO t t.foreign[k]!.col)) (decide (t.foreign[k]!.act=2)&& !(lO t t.foreign[k]!.col).null)
theorem aFD (s:Sc) (t:Tb) (k:Nat) (hl:t.cols.length<200000000000000) (hu:t.foreign.length<200000000000000) (hk:k<t.foreign.length):PF Tryz.prog 222 [(vi ((k:Nat))), .rp t.cells, .rp (scC s)] (vi (atC s.length t k)):=by
 have hh:=uS t t.foreign[k].col;have e:atC s.length t k=aqP (pX t t.foreign[k].col) (decide (t.foreign[k].table<0)||decide (t.foreign[k].table>=s.length)) (decide (0<k)&&decide (t.foreign[k].col<=(t.foreign[k-1]'(by omega)).col)) (decide (t.foreign[k].act<0)||decide (t.foreign[k].act>2)) (nD (lO t t.foreign[k].col)) (decide (t.foreign[k].act=2)&& !(lO t t.foreign[k].col).null):=by
  unfold atC;rw [getElem!_pos t.foreign k hk,getElem!_pos t.foreign (k-1) (by omega)]
 rw [e];unfold aqP;have el:(s.map Tb.cells).length=s.length:=zql _;rw [<-el];cases hc:pX t t.foreign[k].col with
 |false=>
  rw [hc] at hh;refine pF Tryz.func222 rfl (λst=> ?_)
  (repeat' first|apply wZ;rfl|constructor|exact rfl|(apply hh)|apply wY;rfl|apply wI;rfl|apply gE;omega)
 |true=>
  rw [hc] at hh;obtain ⟨j,hj,d,b⟩:=aaZ hc;rw [b];have a:=eC t.cols[j];generalize nD t.cols[j]=N at*;rcases Nat.eq_zero_or_pos k with rfl|c
  ·refine pF Tryz.func222 rfl (λst=> ?_)
   (repeat' first|apply iX;(intro hw;exact (by first|rfl|exact hj|exact (show _=((0:Nat):Int) from (wO hw).elim)));(apply gE;omega);rfl|apply wZ;rfl|show Cn _;constructor|exact rfl|apply KR.mk;kernel_rfl|((first|apply hh|apply a))|(congr 2;grind)|apply wY;rfl|apply wI;rfl|omega|intro h)
  ·obtain ⟨m,rfl⟩:∃m,k=m+1:=⟨k-1,by omega⟩
   refine pF Tryz.func222 rfl (λst=> ?_)
   (repeat' first|apply iX;(intro hw;exact (by first|rfl|exact hj|exact (show ((((m+1:Nat):Int))-1=((m:Nat):Int)) from by omega)));(apply gE;omega);rfl|apply wZ;rfl|show Cn _;constructor|exact rfl|apply KR.mk;kernel_rfl|((first|apply hh|apply a))|show (_:PV)=_;(congr 2;grind);done|apply wY;rfl|apply wI;rfl|omega|intro h)
theorem afO (s:Sc) (t:Tb) (hl:t.cols.length<200000000000000) (hu:t.foreign.length<200000000000000):PF Tryz.prog 144 [.agg (scC s), .agg t.cells] (vi (eN (atC s.length t) t.foreign.length)):=by
 have e:(t.foreign.map Fr.cells).length=t.foreign.length:=zql _;have h:=iU 222 [.rp t.cells, .rp (scC s)] (atC s.length t) (t.foreign.map Fr.cells).length (by omega) λk hk _=>aFD s t k hl hu (by omega);rw [<-e];refine pF Tryz.func144 rfl (λst=> ?_)
 (repeat' first|apply wZ;rfl|constructor|(apply h)|apply bC 3;rfl;rfl|apply bC 2;rfl;rfl|apply wY;rfl)
def aqA (h:Bool) (a:Bool) (n:Bool) (p:Bool):Int:=if h=false then 4 else if a=true then 1 else if n=false then 6 else if p=true then 5 else 0
def aoM (t:Tb) (k:Nat):Int:=aqA (pX t t.sums[k]!.col&&pX t t.sums[k]!.by_) ((decide (t.sums[k]!.col=t.sums[k]!.by_)||decide (t.sums[k]!.max<0))||decide (t.sums[k]!.max>1099511627776)) (nD (lO t t.sums[k]!.col)&&nD (lO t t.sums[k]!.by_)) ((t.sums.take k).any λy=>decide (y.col=t.sums[k]!.col)&&decide (y.by_=t.sums[k]!.by_))
theorem aCu (x c:Su):PF Tryz.prog 224 [.agg x.cells, .rp c.cells] (vb (decide (x.col=c.col)&&decide (x.by_=c.by_))):=by
 refine pF Tryz.func224 rfl (λst=> ?_)
 (repeat' first|apply wZ;rfl|constructor)
theorem aFI (t:Tb) (k:Nat) (hl:t.cols.length<200000000000000) (hu:t.sums.length<200000000000000) (hk:k<t.sums.length):PF Tryz.prog 223 [(vi ((k:Nat))), .rp t.cells] (vi (aoM t k)):=by
 have a:=uS t t.sums[k].col;have b:=uS t t.sums[k].by_;have hc:=azY 224 [.rp t.sums[k].cells] (λy=>decide (y.col=t.sums[k].col)&&decide (y.by_=t.sums[k].by_)) (t.sums.take k) (by rw [zlt];omega) λp=>aCu p _;have e:aoM t k=aqA (pX t t.sums[k].col&&pX t t.sums[k].by_) ((decide (t.sums[k].col=t.sums[k].by_)||decide (t.sums[k].max<0))||decide (t.sums[k].max>1099511627776)) (nD (lO t t.sums[k].col)&&nD (lO t t.sums[k].by_)) ((t.sums.take k).any λy=>decide (y.col=t.sums[k].col)&&decide (y.by_=t.sums[k].by_)):=by
  unfold aoM;rw [getElem!_pos t.sums k hk]
 have m:(((t.sums.drop 0).take (k-0)).map Su.cells)=(t.sums.take k).map Su.cells:=by simp
 rw [e];unfold aqA;generalize ((t.sums.take k).any λy=>decide (y.col=t.sums[k].col)&&decide (y.by_=t.sums[k].by_))=A at*;cases c1:pX t t.sums[k].col with
 |false=>
  rw [c1] at a;refine pF Tryz.func223 rfl (λst=> ?_)
  (repeat' first|apply wZ;rfl|constructor|((first|apply a|apply b))|apply bC 4;rfl;rfl|apply wY;rfl|apply wI;rfl|apply gE;omega)
 |true=>
 cases c2:pX t t.sums[k].by_ with
 |false=>
  rw [c1] at a;rw [c2] at b;refine pF Tryz.func223 rfl (λst=> ?_)
  (repeat' first|apply wZ;rfl|constructor|((first|apply a|apply b))|apply bC 4;rfl;rfl|apply wY;rfl|apply wI;rfl|apply gE;omega)
 |true=>
  rw [c1] at a;rw [c2] at b;obtain ⟨j,hj,o,d⟩:=aaZ c1;obtain ⟨i,hi,n,c⟩:=aaZ c2;rw [d,c];have g:=eC t.cols[j];have l:=eC t.cols[i];generalize nD t.cols[j]=N at*;generalize nD t.cols[i]=M at*;refine pF Tryz.func223 rfl (λst=> ?_)
  (repeat' first|apply iX;(intro hw;exact (by first|rfl|exact hj|exact hi));(apply gE;omega);rfl|apply wZ;rfl|constructor|exact rfl|((first|apply a|apply b|apply g|apply l|apply hc))|show (_:PV)=_;(congr 2;grind);done|apply bC 4;rfl;rfl|apply slS pk (f:=Su.cells) (xs:=t.sums) 0 k;(iterate 5 rfl);rotate_left;rfl;(intro _;rfl);(intro _;exact aZ);(intro _;exact aL rfl rfl);(intro _;omega);(intro _;omega);rfl;rw [m]|apply wY;rfl|apply wI;rfl|intro h|intro h)
theorem aAm (t:Tb) (hl:t.cols.length<200000000000000) (hu:t.sums.length<200000000000000):PF Tryz.prog 146 [.agg t.cells] (vi (eN (aoM t) t.sums.length)):=by
 have e:(t.sums.map Su.cells).length=t.sums.length:=zql _;have h:=iU 223 [.rp t.cells] (aoM t) (t.sums.map Su.cells).length (by omega) λk hk _=>aFI t k hl hu (by omega);rw [<-e];refine pF Tryz.func146 rfl (λst=> ?_)
 (repeat' first|apply wZ;rfl|constructor|(apply h)|apply bC 1;rfl;rfl|apply wY;rfl)
theorem aBg (t:Tb) (n:ByteArray):PF Tryz.prog 215 [.agg t.cells, .rp [(vs (n))]] (vb (decide (t.name=n))):=by
 refine pF Tryz.func215 rfl (λst=> ?_)
 (repeat' first|apply wZ;rfl|constructor)
def aAa (s:Sc) (n:ByteArray):Int:=cY (λt:Tb=>decide (t.name=n)) s
theorem auM (s:Sc) (n:ByteArray) (hl:s.length<200000000000000):PF Tryz.prog 135 [.agg (scC s),(vs (n))] (.tup [(vi (max (aAa s n) 0)),(vb (decide (aAa s n>=0)))]):=by
 have h:=aAB 215 [.rp [(vs (n))]] (λt=>decide (t.name=n)) s (by omega) λp=>aBg p n;change PF _ _ _ (vi (aAa s n)) at h;generalize aAa s n=R at*;refine pF Tryz.func135 rfl (λst=> ?_)
 (repeat' first|apply wZ;rfl|constructor|(apply h)|apply bC 3;rfl;rfl|apply wY;rfl)
end Go.Proofs.YtfablfldonhkiaaGreatDoor
