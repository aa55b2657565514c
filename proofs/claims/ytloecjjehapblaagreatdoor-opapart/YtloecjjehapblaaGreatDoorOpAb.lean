import Derived.Test.YtloecjjehapblaaGreatDoorOpAa
import Derived.Test.YtloecjjehapblaaGreatDoorAbsI
set_option linter.unusedSimpArgs false
set_option linter.unusedVariables false
namespace Go.Proofs.YtloecjjehapblaaGreatDoor
open Go Go.Abs
attribute [local irreducible] Ev PWp
set_option maxRecDepth 10000
set_option maxHeartbeats 4000000
def abc :ByteArray:=⟨#[97,98,99,100,101,102,103,104,105,106,107,108,109,110,111,112,113,114,115,116,117,118,119,120,121,122]⟩
def abc9 :ByteArray:=⟨#[97,98,99,100,101,102,103,104,105,106,107,108,109,110,111,112,113,114,115,116,117,118,119,120,121,122,48,49,50,51,52,53,54,55,56,57,95]⟩
def aAz (b:UInt8):Bool:=decide (97<=b.toNat)&&decide (b.toNat<=122)
def alB (b:UInt8):Bool:=(aAz b||(decide (48<=b.toNat)&&decide (b.toNat<=57)))||decide (b.toNat=95)
theorem aBK {p:UInt8->Bool} (h:((List.range 256).all λn=>p (UInt8.ofNat n))=true) (b:UInt8):p b=true:=by
 have:=zal.1 h b.toNat (List.mem_range.2 b.toNat_lt)
 simpa using this
theorem atK (b:UInt8):abc9.data.toList.contains b=alB b:=by
 have:=aBK (p:=λb=>abc9.data.toList.contains b==alB b) (by decide+kernel) b
 simpa using this
theorem aCu (b:UInt8):decide (firstIdx abc b>=0)=aAz b:=by
 have:=aBK (p:=λb=>decide (firstIdx abc b>=0)==aAz b) (by decide+kernel) b
 simpa using this
theorem zD {α:Type} {p:α->Bool}:∀{l:List α},l.dropWhile p=[]↔∀x∈l,p x=true
 |[]=>by simp
 |a::l=>by
  rw [List.dropWhile_cons]
  cases h:p a with
  |true=>simp [h,zD (l:=l)]
  |false=>simp [h]
theorem afE {l cs:List UInt8}:Lib.trimS l cs=[]↔∀x∈l,cs.contains x=true:=by
 have drop_mem:∀{m:List UInt8} {p:UInt8->Bool},(∀x∈m,p x=true)↔∀x∈m.dropWhile p,p x=true:=by
  intro m p
  constructor
  ·exact λh x hx=>h x (List.dropWhile_sublist p|>.subset hx)
  ·intro h
   cases e:m.dropWhile p with
   |nil=>exact zD.1 e
   |cons a rs=>
    have h1:=h a (by rw [e];simp)
    have h2:=List.head_dropWhile_not p (l:=m) (by rw [e];simp)
    simp only [e,List.head_cons] at h2
    rw [h1] at h2;cases h2
 unfold Lib.trimS Lib.trimLeftS Lib.trimRightS
 rw [zD]
 have:=drop_mem (m:=l.reverse) (p:=λx=>cs.contains x)
 simp only [List.mem_reverse] at this⊢
 exact this.symm
theorem akF :(Tryz.prog.info? (renT.t 116)).map (λi=>(i.zero,i.size))=some (some (.agg (Array.replicate 256 (.bool false))),256):=by kernel_rfl
theorem ayM (s:ByteArray) (h0:0<s.size) (hs:s.size<=9223372036854775807):PF Tryz.prog 256 [(.val (.string s)),(.val (.string abc9))] (.val (.string (⟨(Lib.trimS s.data.toList abc9.data.toList).toArray⟩))):=
 aET (by kernel_rfl) λw=>(Any.strings_Trim_set aGz (zero_of_info akF).1 (zero_of_info akF).2 s abc9 w (by decide) h0 hs (by decide) (ascii_of_all (by decide))).mono λe w' ⟨h1,q,h2⟩=>⟨h1, .inr ⟨_,_,q,h2⟩⟩
theorem aqO (s:ByteArray) (h:s.data.toList.all alB=true):(⟨(Lib.trimS s.data.toList abc9.data.toList).toArray⟩:ByteArray)=e0:=by
 rw [afE.2 λx hx=>by rw [atK];exact zal.1 h x hx]
theorem aBV (s:ByteArray) (h:s.data.toList.all alB=false):(⟨(Lib.trimS s.data.toList abc9.data.toList).toArray⟩:ByteArray)≠e0:=λe=>by
 have:Lib.trimS s.data.toList abc9.data.toList=[]:=by
  have:=congrArg (λb:ByteArray=>b.data.toList) e
  simpa using this
 rw [afE] at this
 rw [<-Bool.not_eq_true,zal] at h
 exact h λx hx=>by rw [<-atK];exact this x hx
theorem ahD (b:ByteArray) (c:UInt8):PF Tryz.prog 404 [(.val (.string b)), .val (.int .u8 (c.toNat:Int))] (.val (.int .i64 (firstIdx b c))):=by
 have e:(((c.toNat:Nat):Int).toNat).toUInt8=c:=by simp
 refine aG aD Tryz.func404 (by kernel_rfl) rfl rfl rfl rfl (λst=> ?_)
 (try apply wO pk;rfl);(repeat' first|show Cn _;constructor|apply wE pk;rfl;rfl|(refine aB ?_;refine ⟨_,_,_,rfl,zwr _,zsr _, ?_,rfl⟩;try first|rfl|(rw [e]);done)|apply aFg pk;rfl;rfl;exact Tryz.func417;kernel_rfl;kernel_rfl;kernel_rfl;kernel_rfl;rfl;rfl;rotate_left;rfl;rfl)
def one (c:UInt8):ByteArray:=⟨#[c]⟩
theorem ayL (c:UInt8):PF Tryz.prog 379 [(.val (.string abc)),(.val (.string (one c)))] (.val (.int .i64 (firstIdx abc c))):=by
 have hb:=ahD abc c
 have hz:(one c).size=1:=rfl
 have hg:(one c)[0]?=some c:=rfl
 have hne:¬(one c=abc):=λe=>by have:=congrArg ByteArray.size e;rw [hz] at this;cases this
 have hno:¬(one c=ByteArray.empty\/one c=abc):=λq=>q.elim (λe=>by have:=congrArg ByteArray.size e;rw [hz] at this;cases this) hne
 refine aG aD Tryz.func379 (by kernel_rfl) rfl rfl rfl rfl (λst=> ?_)
 (try apply wO pk;rfl);(repeat' first|exact absurd ‹_› hno|show Cn _;constructor|apply wC pk;rfl;rfl|apply wE pk;rfl;rfl|refine aA rfl ?_ ?_<;>intro h<;>(try simp at h)<;>try omega|(refine aB ?_;refine ⟨_,_,_,rfl,zwr _,zsr _, ?_,rfl⟩;try rfl)|(apply aH;rfl;rfl;rfl;(intro _;apply hb<;>first|assumption|omega);rotate_left;rfl;rfl)|apply sxA pk.htt 0 c;(iterate 6 rfl);exact hg;rfl)
theorem apT (c:UInt8):PF Tryz.prog 257 [(.val (.string abc)),(.val (.string (one c)))] (.val (.bool (aAz c))):=by
 have h1:=ayL c
 have h2:PF Tryz.prog 332 [(.val (.string abc)),(.val (.string (one c)))] (.val (.int .i64 (firstIdx abc c))):=by
  refine aG aD Tryz.func332 (by kernel_rfl) rfl rfl rfl rfl (λst=> ?_)
  (try apply wO pk;rfl);(repeat' first|show Cn _;constructor|apply wE pk;rfl;rfl|(refine aB ?_;refine ⟨_,_,_,rfl,zwr _,zsr _, ?_,rfl⟩;try rfl)|(apply aH;rfl;rfl;rfl;(intro _;apply h1<;>first|assumption|omega);rotate_left;rfl;rfl))
 refine aG aD Tryz.func257 (by kernel_rfl) rfl rfl rfl rfl (λst=> ?_)
 (try apply wO pk;rfl);(repeat' first|show Cn _;constructor|apply wE pk;rfl;rfl|(refine aB ?_;refine ⟨_,_,_,rfl,zwr _,zsr _, ?_,rfl⟩;try first|rfl|(rw [<-aCu]);done)|(apply aH;rfl;rfl;rfl;(intro _;apply h2<;>first|assumption|omega);rotate_left;rfl;rfl))
def zV (s:ByteArray):Bool:=match s.data.toList with
 |[]=>false
 |c::l=>aAz c&&(decide (s.size<=12)&&(c::l).all alB)
theorem ayP (s:ByteArray):s.size=s.data.toList.length:=(Array.length_toList (xs:=s.data)).symm
theorem aeO (s:ByteArray):PF Tryz.prog 162 [(.val (.string s))] (.val (.bool (zV s))):=by
 unfold zV
 cases hl:s.data.toList with
 |nil=>
  obtain rfl:s=e0:=by
   apply ByteArray.ext
   apply Array.toList_inj.1
   rw [hl]
  refine aG aD Tryz.func162 (by kernel_rfl) rfl rfl rfl rfl (λst=> ?_)
  (try apply wO pk;rfl);(repeat' first|show Cn _;constructor|apply wE pk;rfl;rfl|(refine aB ?_;refine ⟨_,_,_,rfl,zwr _,zsr _, ?_,rfl⟩;try rfl)|(apply aH;rfl;rfl;rfl;(intro _;(first|apply (show PF Tryz.prog 256 [_,_] (PV.val (Value.string (e0))) from by rename_i hh;exact absurd (show false=true from hh) (by simp))|apply (show PF Tryz.prog 257 [_,_] (PV.val (Value.bool (false))) from by rename_i hh;exact absurd (show false=true from hh) (by simp)))<;>first|assumption|omega);rotate_left;rfl;rfl)|apply slT pk 0 1;rfl;rfl;rfl;rotate_left;rfl;(intro _;exact bG);(intro _;exact aV rfl rfl);(intro _;omega);(intro hh;exact absurd (show false=true from hh) (by simp));rfl)
 |cons c l=>
  have hz:=ayP s
  rw [hl] at hz
  have h0:0<s.size:=by rw [hz];simp
  have hne:¬(s=e0):=λe=>by rw [e] at h0;exact absurd h0 (by decide)
  have hne':¬(s=(⟨#[]⟩:ByteArray)):=hne
  have hone:s.extract 0 1=one c:=by
   apply ByteArray.ext
   apply Array.toList_inj.1
   show _=[c]
   rw [ByteArray.data_extract,Array.toList_extract,hl];rfl
  dsimp only
  by_cases h12:s.size<=12
  ·have ht:=ayM s h0 (by omega)
   have hi12:(s.size:Int)<=12:=by omega
   have hc:=apT c
   rw [<-hone] at hc
   cases ha:s.data.toList.all alB with
   |true=>
    rw [aqO s ha] at ht
    rw [hl] at ha
    rw [ha]
    refine aG aD Tryz.func162 (by kernel_rfl) rfl rfl rfl rfl (λst=> ?_)
    (try apply wO pk;rfl);(repeat' first|show Cn _;constructor|apply wE pk;rfl;rfl|(refine aB ?_;refine ⟨_,_,_,rfl,zwr _,zsr _, ?_,rfl⟩;try first|rfl|(simp [hne,hne',h12,hi12,e0];done);done)|(apply aH;rfl;rfl;rfl;(intro _;(first|apply ht|apply hc)<;>first|assumption|omega);rotate_left;rfl;rfl)|apply slT pk 0 1;rfl;rfl;rfl;rotate_left;rfl;(intro _;exact bG);(intro _;exact aV rfl rfl);(intro _;omega);(intro _;omega);rfl)
   |false=>
    have htn:=aBV s ha
    rw [hl] at ha
    rw [ha]
    have htn':¬((⟨(Lib.trimS s.data.toList abc9.data.toList).toArray⟩:ByteArray)=(⟨#[]⟩:ByteArray)):=htn
    generalize (⟨(Lib.trimS s.data.toList abc9.data.toList).toArray⟩:ByteArray)=T at*
    refine aG aD Tryz.func162 (by kernel_rfl) rfl rfl rfl rfl (λst=> ?_)
    (try apply wO pk;rfl);(repeat' first|show Cn _;constructor|apply wE pk;rfl;rfl|(refine aB ?_;refine ⟨_,_,_,rfl,zwr _,zsr _, ?_,rfl⟩;try first|rfl|(simp [hne,hne',h12,hi12,htn,htn'];done);done)|(apply aH;rfl;rfl;rfl;(intro _;(first|apply ht|apply hc)<;>first|assumption|omega);rotate_left;rfl;rfl)|apply slT pk 0 1;rfl;rfl;rfl;rotate_left;rfl;(intro _;exact bG);(intro _;exact aV rfl rfl);(intro _;omega);(intro _;omega);rfl)
  ·have hi12:¬(s.size:Int)<=12:=by omega
   have e:decide (s.size<=12)=false:=decide_eq_false h12
   have e2:decide ((s.size:Int)<=12)=false:=decide_eq_false (by omega)
   have e3:decide (s=e0)=false:=decide_eq_false hne
   have hT:∀p,(gw true (!decide (s=e0)) true&&p)=true->True:=λ_ _=>trivial
   rw [e,Bool.false_and,Bool.and_false]
   refine aG aD Tryz.func162 (by kernel_rfl) rfl rfl rfl rfl (λst=> ?_)
   (try apply wO pk;rfl);(repeat' first|show Cn _;constructor|apply wE pk;rfl;rfl|(refine aB ?_;refine ⟨_,_,_,rfl,zwr _,zsr _, ?_,rfl⟩;try first|rfl|(simp [hne,hne',h12,hi12,e0];done);done)|(apply aH;rfl;rfl;rfl;(intro _;(first|apply (show PF Tryz.prog 256 [_,_] (PV.val (Value.string (e0))) from by rename_i hh;simp [gw,hne] at hh;omega)|apply (show PF Tryz.prog 257 [_,_] (PV.val (Value.bool (false))) from by rename_i hh;simp [gw,hne] at hh;omega))<;>first|assumption|omega);rotate_left;rfl;rfl)|apply slT pk 0 1;rfl;rfl;rfl;rotate_left;rfl;(intro _;exact bG);(intro _;exact aV rfl rfl);(intro _;omega);(intro hh;omega);rfl)
def cP (v:Vl):Bool:=if v.kind=0 then decide (v.n=0)&&decide (v.s=e0) else if v.kind=1 then (decide (v.s=e0)&&decide (v.n>= -1099511627776))&&decide (v.n<=1099511627776) else if v.kind=2 then decide (v.n=0)&&decide ((v.s.size:Int)<=200) else false
theorem iP (v:Vl):PF Tryz.prog 175 [.agg v.cells] (.val (.bool (cP v))):=by
 unfold cP
 by_cases h0:v.kind=0
 ·rw [zp h0]
  refine aG aD Tryz.func175 (by kernel_rfl) rfl rfl rfl rfl (λst=> ?_)
  (try apply wO pk;rfl);(repeat' first|show Cn _;constructor|apply wC pk;rfl;rfl|refine aA rfl ?_ ?_<;>intro h<;>(try simp at h)<;>try omega|(refine aB ?_;refine ⟨_,_,_,rfl,zwr _,zsr _, ?_,rfl⟩;try first|rfl|((simp [h0];done));done))
 by_cases h1:v.kind=1
 ·rw [zn h0,zp h1]
  refine aG aD Tryz.func175 (by kernel_rfl) rfl rfl rfl rfl (λst=> ?_)
  (try apply wO pk;rfl);(repeat' first|show Cn _;constructor|apply wC pk;rfl;rfl|refine aA rfl ?_ ?_<;>intro h<;>(try simp at h)<;>try omega|(refine aB ?_;refine ⟨_,_,_,rfl,zwr _,zsr _, ?_,rfl⟩;try first|rfl|(fail);done))
 rw [zn h0,zn h1]
 by_cases h2:v.kind=2
 ·rw [zp h2]
  refine aG aD Tryz.func175 (by kernel_rfl) rfl rfl rfl rfl (λst=> ?_)
  (try apply wO pk;rfl);(repeat' first|show Cn _;constructor|apply wC pk;rfl;rfl|refine aA rfl ?_ ?_<;>intro h<;>(try simp at h)<;>try omega|(refine aB ?_;refine ⟨_,_,_,rfl,zwr _,zsr _, ?_,rfl⟩;try first|rfl|(fail);done))
 rw [zn h2]
 refine aG aD Tryz.func175 (by kernel_rfl) rfl rfl rfl rfl (λst=> ?_)
 (try apply wO pk;rfl);(repeat' first|show Cn _;constructor|apply wC pk;rfl;rfl|refine aA rfl ?_ ?_<;>intro h<;>(try simp at h)<;>try omega|(refine aB ?_;refine ⟨_,_,_,rfl,zwr _,zsr _, ?_,rfl⟩;try first|rfl|(fail);done))
def cO (c:Cl):Int:=if c.kind≠2\/c.val.kind≠1 then 6 else if c.val.s≠e0\/0<c.parts.length then 1 else if c.val.n< -1099511627776\/c.val.n>1099511627776 then 20 else 0
theorem auJ (n:Int):PF Tryz.prog 271 [(.val (.int .i64 n))] (.val (.bool (decide (n>= -1099511627776)&&decide (n<=1099511627776)))):=by
 refine aG aD Tryz.func271 (by kernel_rfl) rfl rfl rfl rfl (λst=> ?_)
 (try apply wO pk;rfl);(repeat' first|show Cn _;constructor|(refine aB ?_;refine ⟨_,_,_,rfl,zwr _,zsr _, ?_,rfl⟩;try rfl))
theorem lK (c:Cl):PF Tryz.prog 177 [.agg c.cells] (.val (.int .i64 (cO c))):=by
 have hf:=auJ c.val.n
 unfold cO
 by_cases h1:c.kind≠2\/c.val.kind≠1
 ·rw [zp h1]
  refine aG aD Tryz.func177 (by kernel_rfl) rfl rfl rfl rfl (λst=> ?_)
  (try apply wO pk;rfl);(repeat' first|show Cn _;constructor|apply wC pk;rfl;rfl|refine aA rfl ?_ ?_<;>intro h<;>(try simp at h)<;>try omega|(refine aB ?_;refine ⟨_,_,_,rfl,zwr _,zsr _, ?_,rfl⟩;try first|rfl|(fail);done))
 rw [zn h1]
 by_cases h2:c.val.s≠e0\/0<c.parts.length
 ·rw [zp h2]
  refine aG aD Tryz.func177 (by kernel_rfl) rfl rfl rfl rfl (λst=> ?_)
  (try apply wO pk;rfl);(repeat' first|show Cn _;constructor|apply wC pk;rfl;rfl|apply wE pk;rfl;rfl|refine aA rfl ?_ ?_<;>intro h<;>(try simp at h)<;>try omega|(refine aB ?_;refine ⟨_,_,_,rfl,zwr _,zsr _, ?_,rfl⟩;try first|rfl|((exfalso;simp at*;grind));done)|(apply aH;rfl;rfl;rfl;(intro _;apply hf<;>first|assumption|omega);rotate_left;rfl;rfl))
 rw [zn h2]
 by_cases h3:c.val.n< -1099511627776\/c.val.n>1099511627776
 ·rw [zp h3]
  refine aG aD Tryz.func177 (by kernel_rfl) rfl rfl rfl rfl (λst=> ?_)
  (try apply wO pk;rfl);(repeat' first|show Cn _;constructor|apply wC pk;rfl;rfl|apply wE pk;rfl;rfl|refine aA rfl ?_ ?_<;>intro h<;>(try simp at h)<;>try omega|(refine aB ?_;refine ⟨_,_,_,rfl,zwr _,zsr _, ?_,rfl⟩;try first|rfl|((exfalso;simp at*;grind));done)|(apply aH;rfl;rfl;rfl;(intro _;apply hf<;>first|assumption|omega);rotate_left;rfl;rfl))
 rw [zn h3]
 refine aG aD Tryz.func177 (by kernel_rfl) rfl rfl rfl rfl (λst=> ?_)
 (try apply wO pk;rfl);(repeat' first|show Cn _;constructor|apply wC pk;rfl;rfl|apply wE pk;rfl;rfl|refine aA rfl ?_ ?_<;>intro h<;>(try simp at h)<;>try omega|(refine aB ?_;refine ⟨_,_,_,rfl,zwr _,zsr _, ?_,rfl⟩;try first|rfl|((exfalso;simp at*;grind));done)|(apply aH;rfl;rfl;rfl;(intro _;apply hf<;>first|assumption|omega);rotate_left;rfl;rfl))
theorem tG (c:Cl):PF Tryz.prog 112 [.seq [c.cells]] (.val (.int .i64 (cO c))):=by
 have hc:=lK c
 generalize cO c=R at*
 refine aG aD Tryz.func112 (by kernel_rfl) rfl rfl rfl rfl (λst=> ?_)
 (try apply wO pk;rfl);(repeat' ((show Cn _;constructor)))
 refine aK (X:={x:Nat//x<=1/\(x=1->R=0)}) (λi=>((((St.nil 18 st).pv 6 (.seq [c.cells])).pv 7 ((PV.val (Value.int .i64 ((([c.cells]).length:Nat)))))).pv 8 ((PV.val (Value.int .i64 ((i.1:Nat))))))) (λi=>1-i.1) ⟨0,by omega,by omega⟩ ?_ (λi=> ?_)
 ·((repeat refine Sub.pv ?_ rfl);exact Sub.nil _ _ _ (zsr _) rfl)
 obtain ⟨i,h1,hinv⟩:=i
 dsimp only
 rcases (show i=0\/i=1 by omega) with rfl|rfl
 ·(try apply wO pk;rfl);(repeat' first|show Cn _;constructor|apply wC pk;rfl;rfl|apply wE pk;rfl;rfl|refine aA rfl ?_ ?_<;>intro h<;>(try simp at h)<;>try omega|(refine aB ?_;refine ⟨_,_,_,rfl,zwr _,zsr _, ?_,rfl⟩;try first|rfl|rfl;done)|(apply aH;rfl;rfl;rfl;(intro _;apply hc<;>first|assumption|omega);rotate_left;rfl;rfl)|apply aO pk;(iterate 6 rfl);rotate_left;rfl;(intro hw;rfl);(intro hw;apply (rfl:([c.cells]:List (List PV))[0]?=some c.cells)<;>omega);(intro _;rfl);rfl|refine ⟨⟨1,by omega,λ_=>by assumption⟩, ?_,by simp only;omega⟩;((repeat refine Sub.pv ?_ rfl);exact Sub.nil _ _ _ (zsr _) rfl)|intros;(try simp only [zql]);omega)
 ·have h0:=hinv rfl
  (try apply wO pk;rfl);(repeat' first|show Cn _;constructor|apply wC pk;rfl;rfl|refine aA rfl ?_ ?_<;>intro h<;>(try simp at h)<;>try omega|(refine aB ?_;refine ⟨_,_,_,rfl,zwr _,zsr _, ?_,rfl⟩;try first|rfl|(rw [h0]);done))
def asW (c:Cl):Vl:=if cO c=0 then c.val else Vl.zero
theorem apD (c:Cl):PF Tryz.prog 67 [.agg c.cells] (.agg (asW c).cells):=by
 have hc:=tG c
 unfold asW
 by_cases h:cO c=0
 ·rw [zp h]
  rw [h] at hc
  refine aG aD Tryz.func67 (by kernel_rfl) rfl rfl rfl rfl (λst=> ?_)
  (try apply wO pk;rfl);(repeat' first|show Cn _;constructor|apply wC pk;rfl;rfl|apply wE pk;rfl;rfl|refine aA rfl ?_ ?_<;>intro h<;>(try simp at h)<;>try omega|(refine aB ?_;refine ⟨_,_,_,rfl,zwr _,zsr _, ?_,rfl⟩;try rfl)|(apply aH;rfl;rfl;rfl;(intro _;apply hc<;>first|assumption|omega);rotate_left;rfl;rfl))
 rw [zn h]
 refine aG aD Tryz.func67 (by kernel_rfl) rfl rfl rfl rfl (λst=> ?_)
 (try apply wO pk;rfl);(repeat' first|show Cn _;constructor|apply wC pk;rfl;rfl|apply wE pk;rfl;rfl|refine aA rfl ?_ ?_<;>intro h<;>(try simp at h)<;>try omega|(refine aB ?_;refine ⟨_,_,_,rfl,zwr _,zsr _, ?_,rfl⟩;try first|rfl|(exfalso;omega);done)|(apply aH;rfl;rfl;rfl;(intro _;apply hc<;>first|assumption|omega);rotate_left;rfl;rfl))
theorem aeT (a b:Dt):PF Tryz.prog 270 [.agg a.cells, .agg b.cells] (.val (.int .i64 (byD a b))):=by
 have ho:=agP [gV a.dev b.dev,gV a.seq b.seq] (by simp)
 refine aG aD Tryz.func270 (by kernel_rfl) rfl rfl rfl rfl (λst=> ?_)
 (try apply wO pk;rfl);(repeat' first|show Cn _;constructor|apply wE pk;rfl;rfl|apply wD pk [] [];kernel_rfl;rfl;rfl|(refine aB ?_;refine ⟨_,_,_,rfl,zwr _,zsr _, ?_,rfl⟩;try rfl)|(apply aH;rfl;rfl;rfl;(intro _;(first|apply (iW a.dev b.dev)|apply (iW a.seq b.seq)|apply ho)<;>first|assumption|omega);rotate_left;rfl;rfl))
theorem asB (a b:Dt):decide (byD a b>=0)= !bI b a:=by
 unfold byD bI gV
 simp only [orI]
 rw [Bool.eq_iff_iff]
 simp only [zde,Bool.not_eq_true',Bool.or_eq_false_iff,Bool.and_eq_false_iff,decide_eq_false_iff_not]
 grind
def lJ (p:Pt):Prop:=p.at_=0/\p.time=0/\p.after=Dt.zero/\p.afterAt=0/\p.gone=false
instance (p :Pt):Decidable (lJ p):=by unfold lJ;infer_instance
def fG (d:Dt):Bool:=((decide (1<=d.dev)&&decide (d.dev<=64))&&decide (1<=d.seq))&&decide (d.seq<=1048576)
def iY (p:Pt):Bool:=(decide (lJ p)&&cP p.val)&&fG p.dot
def jA (p:Pt):Bool:=(decide (lJ p)&&(decide (p.val.kind=1)&&cP p.val))&&fG p.dot
def xQ (ok:Pt->Bool) (bh:Pt->Pt->Bool) (l:List Pt):Bool:=(List.range l.length).all λj=>ok l[j]! &&(decide (j=0)||bh l[j]! l[j-1]!)
theorem aAA {ok:Pt->Bool} {bh:Pt->Pt->Bool} {l:List Pt} {j:Nat} (h:j<l.length) (hf:(ok l[j]&&(decide (j=0)||bh l[j] (l[j-1]'(by omega))))=false):xQ ok bh l=false:=by
 unfold xQ
 rw [<-Bool.not_eq_true,zal]
 intro q
 have:=q j (List.mem_range.2 h)
 rw [getElem!_pos l j h,getElem!_pos l (j-1) (by omega),hf] at this
 cases this
theorem agZ {ok:Pt->Bool} {bh:Pt->Pt->Bool} {l:List Pt} (hf:∀j (h:j<l.length),(ok l[j]&&(decide (j=0)||bh l[j] (l[j-1]'(by omega))))=true):xQ ok bh l=true:=by
 unfold xQ
 rw [zal]
 intro j hj
 have h:=List.mem_range.1 hj
 rw [getElem!_pos l j h,getElem!_pos l (j-1) (by omega)]
 exact hf j h
def lQ (c:Cl):Bool:=decide (c.kind=1/\c.val=Vl.zero)&&xQ iY (λp q=>bI p.dot q.dot) c.parts
def arB (p:Pt):List PV:=[(PV.val (Value.int .i64 (p.val.n))),(PV.val (Value.int .i64 (p.dot.dev))),(PV.val (Value.int .i64 (p.dot.seq)))]
theorem uF (p:Pt):PF Tryz.prog 272 [.agg p.cells] (.agg (arB p)):=by
 refine aG aD Tryz.func272 (by kernel_rfl) rfl rfl rfl rfl (λst=> ?_)
 (try apply wO pk;rfl);(repeat' first|show Cn _;constructor|(refine aB ?_;refine ⟨_,_,_,rfl,zwr _,zsr _, ?_,rfl⟩;try rfl))
def ahI (p q:Pt):Int:=orI [gV p.val.n q.val.n,gV p.dot.dev q.dot.dev,gV p.dot.seq q.dot.seq]
theorem arQ (p q:Pt):PF Tryz.prog 273 [.agg (arB p), .agg (arB q)] (.val (.int .i64 (ahI p q))):=by
 have ho:=agP [gV p.val.n q.val.n,gV p.dot.dev q.dot.dev,gV p.dot.seq q.dot.seq] (by simp)
 refine aG aD Tryz.func273 (by kernel_rfl) rfl rfl rfl rfl (λst=> ?_)
 (try apply wO pk;rfl);(repeat' first|show Cn _;constructor|apply wE pk;rfl;rfl|apply wD pk [] [];kernel_rfl;rfl;rfl|(refine aB ?_;refine ⟨_,_,_,rfl,zwr _,zsr _, ?_,rfl⟩;try rfl)|(apply aH;rfl;rfl;rfl;(intro _;(first|apply (iW p.val.n q.val.n)|apply (iW p.dot.dev q.dot.dev)|apply (iW p.dot.seq q.dot.seq)|apply ho)<;>first|assumption|omega);rotate_left;rfl;rfl))
def eE (p q:Pt):Bool:=decide (p.val.n>q.val.n)||(decide (p.val.n=q.val.n)&&bI p.dot q.dot)
theorem aB8 (p q:Pt):decide (ahI p q>=0)= !eE q p:=by
 unfold ahI eE bI gV
 simp only [orI]
 rw [Bool.eq_iff_iff]
 simp only [zde,Bool.not_eq_true',Bool.or_eq_false_iff,Bool.and_eq_false_iff,decide_eq_false_iff_not]
 grind
def jD (c:Cl):Bool:=decide (c.kind=3/\c.val=Vl.zero)&&xQ jA eE c.parts
theorem tW {x:Bool} (h:gw x (decide (((0:Nat):Int)>0)) true=true):False:=by
 cases x<;>simp [gw] at h
theorem ajH (c:Cl) (hl:c.parts.length<4611686018427387904):PF Tryz.prog 176 [.agg c.cells] (.val (.bool (lQ c))):=by
 unfold lQ
 by_cases hk:¬(c.kind=1/\c.val=Vl.zero)
 ·rw [decide_eq_false hk,Bool.false_and]
  rw [Vl.ext_iff] at hk
  simp only [Vl.zero] at hk
  refine aG aD Tryz.func176 (by kernel_rfl) rfl rfl rfl rfl (λst=> ?_)
  (try apply wO pk;rfl);(repeat' first|(exfalso;grind)|show Cn _;constructor|apply wC pk;rfl;rfl|refine aA rfl ?_ ?_<;>intro h<;>(try simp at h)<;>try omega|(refine aB ?_;refine ⟨_,_,_,rfl,zwr _,zsr _, ?_,rfl⟩;try first|rfl|(exfalso;grind);done))
 replace hk:=zdn hk
 rw [decide_eq_true hk,Bool.true_and]
 obtain ⟨k1,k2⟩:=hk
 rw [Vl.ext_iff] at k2
 obtain ⟨k2,k3,k4⟩:=k2
 simp only [Vl.zero] at k2 k3 k4
 refine aG aD Tryz.func176 (by kernel_rfl) rfl rfl rfl rfl (λst=> ?_)
 (try apply wO pk;rfl);(repeat' first|show Cn _;constructor|apply wC pk;rfl;rfl|refine aA rfl ?_ ?_<;>intro h<;>(try simp at h)<;>try omega|(refine aB ?_;refine ⟨_,_,_,rfl,zwr _,zsr _, ?_,rfl⟩;try first|rfl|(exfalso;grind);done))
 refine aK (X:={x:Nat//x<=c.parts.length/\∀j (h:j<x) (h1:j<c.parts.length),(iY c.parts[j]&&(decide (j=0)||bI c.parts[j].dot (c.parts[j-1]'(by omega)).dot))=true}) (λi=>(((((St.nil 79 st).var 1 80 (c.cells)).pv 16 (.seq (c.parts.map Pt.cells))).pv 17 ((PV.val (Value.int .i64 (((c.parts.map Pt.cells).length:Nat)))))).pv 18 ((PV.val (Value.int .i64 ((i.1:Nat))))))) (λi=>c.parts.length-i.1) ⟨0,by omega,λ_ h=>absurd h (Nat.not_lt_zero _)⟩ ?_ (λi=> ?_)
 ·((repeat (first|refine Sub.pv ?_ rfl|refine Sub.var ?_ rfl rfl));exact Sub.nil _ _ _ (zsr _) rfl)
 obtain ⟨i,hi,hI⟩:=i
 dsimp only
 by_cases hend:c.parts.length<=i
 ·have e:=agZ (ok:=iY) (bh:=λp q=>bI p.dot q.dot) λj h=>hI j (by omega) h
  (try apply wO pk;rfl);(repeat' first|show Cn _;constructor|apply wC pk;rfl;rfl|refine aA rfl ?_ ?_<;>intro h<;>(try simp at h)<;>try omega|(refine aB ?_;refine ⟨_,_,_,rfl,zwr _,zsr _, ?_,rfl⟩;try first|rfl|(rw [e]);done))
 have h1:i<c.parts.length:=by omega
 have hF:=aAA (ok:=iY) (bh:=λp q=>bI p.dot q.dot) h1
 have hS:(iY c.parts[i]&&(decide (i=0)||bI c.parts[i].dot (c.parts[i-1]'(by omega)).dot))=true->∀j (h:j<i+1) (h1:j<c.parts.length),(iY c.parts[j]&&(decide (j=0)||bI c.parts[j].dot (c.parts[j-1]'(by omega)).dot))=true:=λh j hj h1=>by
  rcases zls.1 hj with q|q
  ·exact hI j q h1
  ·subst q;exact h
 have hv:=iP c.parts[i].val
 by_cases h0:i=0
 ·subst h0
  have hF':¬(iY c.parts[0]=true)->xQ iY (λp q=>bI p.dot q.dot) c.parts=false:=λh=>hF (by rw [<-Bool.not_eq_true];intro q;rw [zba] at q;exact h q.1)
  simp only [iY,lJ,fG,Dt.ext_iff,Dt.zero,zba,zde] at hF'
  (try apply wO pk;rfl);(repeat' first|show Cn _;constructor|apply wC pk;rfl;rfl|apply wE pk;rfl;rfl|apply wD pk [] [];kernel_rfl;rfl;rfl|refine aA rfl ?_ ?_<;>intro h<;>(try simp at h)<;>try omega|(refine aB ?_;refine ⟨_,_,_,rfl,zwr _,zsr _, ?_,rfl⟩;try first|rfl|(first|rw [hF' (by grind)];done|exact absurd (by assumption:c.parts=[]) (List.ne_nil_of_length_pos h1));done)|(apply aH;rfl;rfl;rfl;(intro _;(first|apply hv|apply (show PF Tryz.prog 270 [_, .agg c.parts[0].dot.cells] (PV.val (Value.int .i64 (0))) from by rename_i hh;exact (tW hh).elim))<;>first|assumption|omega);rotate_left;rfl;rfl)|apply aO pk;(iterate 6 rfl);rotate_left;rfl;(first|(intro hw;exact (show _=((0:Nat):Int) from by exact (tW hw).elim));(intro hw;apply aI<;>omega);(intro _;rfl)|(intro hw;rfl);(intro hw;apply aI<;>omega);(intro _;rfl));rfl|(refine ⟨⟨1,by omega,hS (by simp [iY,lJ,fG,Dt.ext_iff,Dt.zero];grind)⟩, ?_,by simp only;omega⟩;((repeat (first|refine Sub.pv ?_ rfl|refine Sub.var ?_ rfl rfl));exact Sub.nil _ _ _ (zsr _) rfl))|intros;(try simp only [zql]);omega)
 obtain ⟨k,rfl⟩:∃k,i=k+1:=⟨i-1,by omega⟩
 have hd:=aeT c.parts[k].dot c.parts[k+1].dot
 have hb:byD c.parts[k].dot c.parts[k+1].dot>=0↔bI c.parts[k+1].dot c.parts[k].dot=false:=by have:=asB c.parts[k].dot c.parts[k+1].dot;cases h:bI c.parts[k+1].dot c.parts[k].dot<;>simp [h] at this⊢ <;>omega
 have hF':¬(iY c.parts[k+1]=true/\byD c.parts[k].dot c.parts[k+1].dot<0)->xQ iY (λp q=>bI p.dot q.dot) c.parts=false:=λh=>hF (by rw [<-Bool.not_eq_true];intro q;rw [zba] at q;exact h ⟨q.1,by have q2:=q.2;simp at q2;grind⟩)
 simp only [iY,lJ,fG,Dt.ext_iff,Dt.zero,zba,zde] at hF'
 (try apply wO pk;rfl);(repeat' first|show Cn _;constructor|apply wC pk;rfl;rfl|apply wE pk;rfl;rfl|apply wD pk [] [];kernel_rfl;rfl;rfl|refine aA rfl ?_ ?_<;>intro h<;>(try simp at h)<;>try omega|(refine aB ?_;refine ⟨_,_,_,rfl,zwr _,zsr _, ?_,rfl⟩;try first|rfl|(rw [hF' (by grind)]);done)|(apply aH;rfl;rfl;rfl;(intro _;(first|apply hv|apply hd)<;>first|assumption|omega);rotate_left;rfl;rfl)|apply aO pk;(iterate 6 rfl);rotate_left;rfl;(first|(intro hw;exact (show ((((k+1:Nat):Int))-1=((k:Nat):Int)) from by omega));(intro hw;apply aI<;>omega);(intro _;rfl)|(intro hw;rfl);(intro hw;apply aI<;>omega);(intro _;rfl));rfl|(refine ⟨⟨k+2,by omega,hS (by simp [iY,lJ,fG,Dt.ext_iff,Dt.zero];grind)⟩, ?_,by simp only;omega⟩;((repeat (first|refine Sub.pv ?_ rfl|refine Sub.var ?_ rfl rfl));exact Sub.nil _ _ _ (zsr _) rfl))|intros;(try simp only [zql]);omega)
theorem aiN (c:Cl) (hl:c.parts.length<4611686018427387904):PF Tryz.prog 178 [.agg c.cells] (.val (.bool (jD c))):=by
 unfold jD
 by_cases hk:¬(c.kind=3/\c.val=Vl.zero)
 ·rw [decide_eq_false hk,Bool.false_and]
  rw [Vl.ext_iff] at hk
  simp only [Vl.zero] at hk
  refine aG aD Tryz.func178 (by kernel_rfl) rfl rfl rfl rfl (λst=> ?_)
  (try apply wO pk;rfl);(repeat' first|(exfalso;grind)|show Cn _;constructor|apply wC pk;rfl;rfl|refine aA rfl ?_ ?_<;>intro h<;>(try simp at h)<;>try omega|(refine aB ?_;refine ⟨_,_,_,rfl,zwr _,zsr _, ?_,rfl⟩;try first|rfl|(exfalso;grind);done))
 replace hk:=zdn hk
 rw [decide_eq_true hk,Bool.true_and]
 obtain ⟨k1,k2⟩:=hk
 rw [Vl.ext_iff] at k2
 obtain ⟨k2,k3,k4⟩:=k2
 simp only [Vl.zero] at k2 k3 k4
 refine aG aD Tryz.func178 (by kernel_rfl) rfl rfl rfl rfl (λst=> ?_)
 (try apply wO pk;rfl);(repeat' first|show Cn _;constructor|apply wC pk;rfl;rfl|refine aA rfl ?_ ?_<;>intro h<;>(try simp at h)<;>try omega|(refine aB ?_;refine ⟨_,_,_,rfl,zwr _,zsr _, ?_,rfl⟩;try first|rfl|(exfalso;grind);done))
 refine aK (X:={x:Nat//x<=c.parts.length/\∀j (h:j<x) (h1:j<c.parts.length),(jA c.parts[j]&&(decide (j=0)||eE c.parts[j] (c.parts[j-1]'(by omega))))=true}) (λi=>(((((St.nil 85 st).var 1 80 (c.cells)).pv 16 (.seq (c.parts.map Pt.cells))).pv 17 ((PV.val (Value.int .i64 (((c.parts.map Pt.cells).length:Nat)))))).pv 18 ((PV.val (Value.int .i64 ((i.1:Nat))))))) (λi=>c.parts.length-i.1) ⟨0,by omega,λ_ h=>absurd h (Nat.not_lt_zero _)⟩ ?_ (λi=> ?_)
 ·((repeat (first|refine Sub.pv ?_ rfl|refine Sub.var ?_ rfl rfl));exact Sub.nil _ _ _ (zsr _) rfl)
 obtain ⟨i,hi,hI⟩:=i
 dsimp only
 by_cases hend:c.parts.length<=i
 ·have e:=agZ (ok:=jA) (bh:=eE) λj h=>hI j (by omega) h
  (try apply wO pk;rfl);(repeat' first|show Cn _;constructor|apply wC pk;rfl;rfl|refine aA rfl ?_ ?_<;>intro h<;>(try simp at h)<;>try omega|(refine aB ?_;refine ⟨_,_,_,rfl,zwr _,zsr _, ?_,rfl⟩;try first|rfl|(rw [e]);done))
 have h1:i<c.parts.length:=by omega
 have hF:=aAA (ok:=jA) (bh:=eE) h1
 have hS:(jA c.parts[i]&&(decide (i=0)||eE c.parts[i] (c.parts[i-1]'(by omega))))=true->∀j (h:j<i+1) (h1:j<c.parts.length),(jA c.parts[j]&&(decide (j=0)||eE c.parts[j] (c.parts[j-1]'(by omega))))=true:=λh j hj h1=>by
  rcases zls.1 hj with q|q
  ·exact hI j q h1
  ·subst q;exact h
 have hv:=iP c.parts[i].val
 by_cases h0:i=0
 ·subst h0
  have hof:=uF c.parts[0]
  have hF':¬(jA c.parts[0]=true)->xQ jA (eE) c.parts=false:=λh=>hF (by rw [<-Bool.not_eq_true];intro q;rw [zba] at q;exact h q.1)
  simp only [jA,lJ,fG,Dt.ext_iff,Dt.zero,zba,zde] at hF'
  (try apply wO pk;rfl);(repeat' first|show Cn _;constructor|apply wC pk;rfl;rfl|apply wE pk;rfl;rfl|apply wD pk [] [];kernel_rfl;rfl;rfl|refine aA rfl ?_ ?_<;>intro h<;>(try simp at h)<;>try omega|(refine aB ?_;refine ⟨_,_,_,rfl,zwr _,zsr _, ?_,rfl⟩;try first|rfl|(first|rw [hF' (by grind)];done|exact absurd (by assumption:c.parts=[]) (List.ne_nil_of_length_pos h1));done)|(apply aH;rfl;rfl;rfl;(intro _;(first|apply hv|apply hof|apply (show PF Tryz.prog 273 [_,_] (PV.val (Value.int .i64 (0))) from by rename_i hh;exact (tW hh).elim))<;>first|assumption|omega);rotate_left;rfl;rfl)|apply aO pk;(iterate 6 rfl);rotate_left;rfl;(first|(intro hw;exact (show _=((0:Nat):Int) from by exact (tW hw).elim));(intro hw;apply aI<;>omega);(intro _;rfl)|(intro hw;rfl);(intro hw;apply aI<;>omega);(intro _;rfl));rfl|(refine ⟨⟨1,by omega,hS (by simp [jA,lJ,fG,Dt.ext_iff,Dt.zero];grind)⟩, ?_,by simp only;omega⟩;((repeat (first|refine Sub.pv ?_ rfl|refine Sub.var ?_ rfl rfl));exact Sub.nil _ _ _ (zsr _) rfl))|intros;(try simp only [zql]);omega)
 obtain ⟨k,rfl⟩:∃k,i=k+1:=⟨i-1,by omega⟩
 have hd1:=uF c.parts[k]
 have hd2:=uF c.parts[k+1]
 have hd:=arQ c.parts[k] c.parts[k+1]
 have hb:ahI c.parts[k] c.parts[k+1]>=0↔eE c.parts[k+1] c.parts[k]=false:=by have:=aB8 c.parts[k] c.parts[k+1];cases h:eE c.parts[k+1] c.parts[k]<;>simp [h] at this⊢ <;>omega
 have hF':¬(jA c.parts[k+1]=true/\ahI c.parts[k] c.parts[k+1]<0)->xQ jA (eE) c.parts=false:=λh=>hF (by rw [<-Bool.not_eq_true];intro q;rw [zba] at q;exact h ⟨q.1,by have q2:=q.2;simp at q2;grind⟩)
 simp only [jA,lJ,fG,Dt.ext_iff,Dt.zero,zba,zde] at hF'
 (try apply wO pk;rfl);(repeat' first|show Cn _;constructor|apply wC pk;rfl;rfl|apply wE pk;rfl;rfl|apply wD pk [] [];kernel_rfl;rfl;rfl|refine aA rfl ?_ ?_<;>intro h<;>(try simp at h)<;>try omega|(refine aB ?_;refine ⟨_,_,_,rfl,zwr _,zsr _, ?_,rfl⟩;try first|rfl|(rw [hF' (by grind)]);done)|(apply aH;rfl;rfl;rfl;(intro _;(first|apply hv|apply hd1|apply hd2|apply hd)<;>first|assumption|omega);rotate_left;rfl;rfl)|apply aO pk;(iterate 6 rfl);rotate_left;rfl;(first|(intro hw;exact (show ((((k+1:Nat):Int))-1=((k:Nat):Int)) from by omega));(intro hw;apply aI<;>omega);(intro _;rfl)|(intro hw;rfl);(intro hw;apply aI<;>omega);(intro _;rfl));rfl|(refine ⟨⟨k+2,by omega,hS (by simp [jA,lJ,fG,Dt.ext_iff,Dt.zero];grind)⟩, ?_,by simp only;omega⟩;((repeat (first|refine Sub.pv ?_ rfl|refine Sub.var ?_ rfl rfl));exact Sub.nil _ _ _ (zsr _) rfl))|intros;(try simp only [zql]);omega)
structure Tb where
 name:ByteArray
 cols:List Co
 unique:List Int
 checks:List (List PV)
 foreign:List Fr
 sums:List Su
 deriving Inhabited
def Tb.cells (a:Tb):List PV:=[.val (.string (a.name)), .seq (a.cols.map Co.cells), .seq (a.unique.map I1), .seq a.checks, .seq (a.foreign.map Fr.cells), .seq (a.sums.map Su.cells)]
abbrev Sc :=List Tb
def scC (s:Sc):List PV:=[.seq (s.map Tb.cells)]
theorem ayH (fid:FuncId) (caps:List PV) (f:Co->Bool) (l:List Co) (hl:l.length<4611686018427387904) (hf:∀p,PF Tryz.prog fid ([.agg p.cells]++caps) (.val (.bool (f p)))):PF Tryz.prog 333 [.seq (l.map Co.cells), .fn fid caps] (.val (.int .i64 (cX f l))):=by
 refine aG aD Tryz.func333 (by kernel_rfl) rfl rfl rfl rfl (λst=> ?_)
 (try apply wO pk;rfl);(repeat' ((show Cn _;constructor)))
 refine aK (X:={x:Nat//x<=l.length/\∀j (h:j<x) (h2:j<l.length),f l[j]=false}) (λi=>(((((St.nil 19 st).pv 0 (.seq (l.map Co.cells))).pv 1 (.fn fid caps)).pv 7 ((PV.val (Value.int .i64 ((((l.map Co.cells)).length:Nat)))))).pv 8 ((PV.val (Value.int .i64 ((i.1:Nat))))))) (λi=>l.length-i.1) ⟨0,by omega,by omega⟩ ?_ (λi=> ?_)
 ·((repeat refine Sub.pv ?_ rfl);exact Sub.nil _ _ _ (zsr _) rfl)
 obtain ⟨i,hi,hinv⟩:=i
 dsimp only
 (try apply wO pk;rfl);(repeat' first|show Cn _;constructor|apply wC pk;rfl;rfl|apply wE pk;rfl;rfl|refine aA rfl ?_ ?_<;>intro h<;>(try simp at h)<;>try omega|(refine aB ?_;refine ⟨_,_,_,rfl,zwr _,zsr _, ?_,rfl⟩;try first|rfl|(first|unfold cX;rw [nN ‹_› ‹_› hinv];done|unfold cX;rw [mZ ‹_› hinv]);done)|(apply aH;rfl;rfl;rfl;(intro _;apply hf<;>first|assumption|omega);rotate_left;rfl;rfl)|apply aO pk;(iterate 6 rfl);rotate_left;rfl;(intro hw;rfl);(intro hw;apply aI<;>omega);(intro _;rfl);rfl|refine ⟨⟨i+1,by omega,λj h1 h2=>by rcases zls.1 h1 with q|q;exact hinv j q h2;subst q;assumption⟩, ?_,by simp only;omega⟩;((repeat refine Sub.pv ?_ rfl);exact Sub.nil _ _ _ (zsr _) rfl)|intros;(try simp only [zql]);omega)
theorem auX (fid:FuncId) (caps:List PV) (f:Su->Bool) (l:List Su) (hl:l.length<4611686018427387904) (hf:∀p,PF Tryz.prog fid ([.agg p.cells]++caps) (.val (.bool (f p)))):PF Tryz.prog 334 [.seq (l.map Su.cells), .fn fid caps] (.val (.int .i64 (cX f l))):=by
 refine aG aD Tryz.func334 (by kernel_rfl) rfl rfl rfl rfl (λst=> ?_)
 (try apply wO pk;rfl);(repeat' ((show Cn _;constructor)))
 refine aK (X:={x:Nat//x<=l.length/\∀j (h:j<x) (h2:j<l.length),f l[j]=false}) (λi=>(((((St.nil 19 st).pv 0 (.seq (l.map Su.cells))).pv 1 (.fn fid caps)).pv 7 ((PV.val (Value.int .i64 ((((l.map Su.cells)).length:Nat)))))).pv 8 ((PV.val (Value.int .i64 ((i.1:Nat))))))) (λi=>l.length-i.1) ⟨0,by omega,by omega⟩ ?_ (λi=> ?_)
 ·((repeat refine Sub.pv ?_ rfl);exact Sub.nil _ _ _ (zsr _) rfl)
 obtain ⟨i,hi,hinv⟩:=i
 dsimp only
 (try apply wO pk;rfl);(repeat' first|show Cn _;constructor|apply wC pk;rfl;rfl|apply wE pk;rfl;rfl|refine aA rfl ?_ ?_<;>intro h<;>(try simp at h)<;>try omega|(refine aB ?_;refine ⟨_,_,_,rfl,zwr _,zsr _, ?_,rfl⟩;try first|rfl|(first|unfold cX;rw [nN ‹_› ‹_› hinv];done|unfold cX;rw [mZ ‹_› hinv]);done)|(apply aH;rfl;rfl;rfl;(intro _;apply hf<;>first|assumption|omega);rotate_left;rfl;rfl)|apply aO pk;(iterate 6 rfl);rotate_left;rfl;(intro hw;rfl);(intro hw;apply aI<;>omega);(intro _;rfl);rfl|refine ⟨⟨i+1,by omega,λj h1 h2=>by rcases zls.1 h1 with q|q;exact hinv j q h2;subst q;assumption⟩, ?_,by simp only;omega⟩;((repeat refine Sub.pv ?_ rfl);exact Sub.nil _ _ _ (zsr _) rfl)|intros;(try simp only [zql]);omega)
theorem awB (fid:FuncId) (caps:List PV) (f:Tb->Bool) (l:List Tb) (hl:l.length<4611686018427387904) (hf:∀p,PF Tryz.prog fid ([.agg p.cells]++caps) (.val (.bool (f p)))):PF Tryz.prog 258 [.seq (l.map Tb.cells), .fn fid caps] (.val (.int .i64 (cX f l))):=by
 refine aG aD Tryz.func258 (by kernel_rfl) rfl rfl rfl rfl (λst=> ?_)
 (try apply wO pk;rfl);(repeat' ((show Cn _;constructor)))
 refine aK (X:={x:Nat//x<=l.length/\∀j (h:j<x) (h2:j<l.length),f l[j]=false}) (λi=>(((((St.nil 19 st).pv 0 (.seq (l.map Tb.cells))).pv 1 (.fn fid caps)).pv 7 ((PV.val (Value.int .i64 ((((l.map Tb.cells)).length:Nat)))))).pv 8 ((PV.val (Value.int .i64 ((i.1:Nat))))))) (λi=>l.length-i.1) ⟨0,by omega,by omega⟩ ?_ (λi=> ?_)
 ·((repeat refine Sub.pv ?_ rfl);exact Sub.nil _ _ _ (zsr _) rfl)
 obtain ⟨i,hi,hinv⟩:=i
 dsimp only
 (try apply wO pk;rfl);(repeat' first|show Cn _;constructor|apply wC pk;rfl;rfl|apply wE pk;rfl;rfl|refine aA rfl ?_ ?_<;>intro h<;>(try simp at h)<;>try omega|(refine aB ?_;refine ⟨_,_,_,rfl,zwr _,zsr _, ?_,rfl⟩;try first|rfl|(first|unfold cX;rw [nN ‹_› ‹_› hinv];done|unfold cX;rw [mZ ‹_› hinv]);done)|(apply aH;rfl;rfl;rfl;(intro _;apply hf<;>first|assumption|omega);rotate_left;rfl;rfl)|apply aO pk;(iterate 6 rfl);rotate_left;rfl;(intro hw;rfl);(intro hw;apply aI<;>omega);(intro _;rfl);rfl|refine ⟨⟨i+1,by omega,λj h1 h2=>by rcases zls.1 h1 with q|q;exact hinv j q h2;subst q;assumption⟩, ?_,by simp only;omega⟩;((repeat refine Sub.pv ?_ rfl);exact Sub.nil _ _ _ (zsr _) rfl)|intros;(try simp only [zql]);omega)
theorem axE (fid:FuncId) (caps:List PV) (f:Co->Bool) (l:List Co) (hl:l.length<4611686018427387904) (hf:∀p,PF Tryz.prog fid ([.agg p.cells]++caps) (.val (.bool (f p)))):PF Tryz.prog 263 [.seq (l.map Co.cells), .fn fid caps] (.val (.bool (l.any f))):=by
 have h:=ayH fid caps f l hl hf
 refine aG aD Tryz.func263 (by kernel_rfl) rfl rfl rfl rfl (λst=> ?_)
 (try apply wO pk;rfl);(repeat' first|show Cn _;constructor|apply wE pk;rfl;rfl|(refine aB ?_;refine ⟨_,_,_,rfl,zwr _,zsr _, ?_,rfl⟩;try first|rfl|(rw [pL]);done)|(apply aH;rfl;rfl;rfl;(intro _;apply h<;>first|assumption|omega);rotate_left;rfl;rfl))
theorem avC (fid:FuncId) (caps:List PV) (f:Su->Bool) (l:List Su) (hl:l.length<4611686018427387904) (hf:∀p,PF Tryz.prog fid ([.agg p.cells]++caps) (.val (.bool (f p)))):PF Tryz.prog 269 [.seq (l.map Su.cells), .fn fid caps] (.val (.bool (l.any f))):=by
 have h:=auX fid caps f l hl hf
 refine aG aD Tryz.func269 (by kernel_rfl) rfl rfl rfl rfl (λst=> ?_)
 (try apply wO pk;rfl);(repeat' first|show Cn _;constructor|apply wE pk;rfl;rfl|(refine aB ?_;refine ⟨_,_,_,rfl,zwr _,zsr _, ?_,rfl⟩;try first|rfl|(rw [pL]);done)|(apply aH;rfl;rfl;rfl;(intro _;apply h<;>first|assumption|omega);rotate_left;rfl;rfl))
def eG (f:Nat->Int) (n:Nat):Int:=orI ((List.range n).map f)
theorem aAY {l:List Int} {i:Nat} (h:i<l.length) (hf:l[i]≠0) (hn:∀j (h:j<i) (h2:j<l.length),l[j]=0):orI l=l[i]:=by
 induction l generalizing i with
 |nil=>simp at h
 |cons a l ih=>
  cases i with
  |zero=>simp only [List.getElem_cons_zero] at hf⊢;rw [orI,zn hf]
  |succ i=>
   have h0:=hn 0 (by omega) (by simp)
   simp only [List.getElem_cons_zero] at h0
   rw [orI,zp h0]
   simp only [List.getElem_cons_succ] at hf⊢
   exact ih (by simpa using h) hf λj hj h2=>by have:=hn (j+1) (by omega) (by simpa using h2);simpa using this
theorem azF {l:List Int} (hn:∀x∈l,x=0):orI l=0:=by
 induction l with
 |nil=>rfl
 |cons a l ih=>rw [orI,zp (hn a (by simp))];exact ih λx hx=>hn x (by simp [hx])
theorem akQ {f:Nat->Int} {n i:Nat} (h:i<n) (hf:f i≠0) (hn:∀j<i,f j=0):eG f n=f i:=by
 unfold eG
 have:=aAY (l:=(List.range n).map f) (i:=i) (by simpa using h) (by simpa using hf) (λj hj h2=>by simpa using hn j hj)
 simpa using this
theorem akS {f:Nat->Int} {n:Nat} (hn:∀j<n,f j=0):eG f n=0:=
 azF λx hx=>by
  obtain ⟨j,hj,rfl⟩:=List.mem_map.1 hx
  exact hn j (List.mem_range.1 hj)
theorem gW (fid:FuncId) (caps:List PV) (f:Nat->Int) (n:Nat) (hn:n<4611686018427387904) (hf:∀k,k<n->(∀j<k,f j=0)->PF Tryz.prog fid ([(.val (.int .i64 ((k:Nat))))]++caps) (.val (.int .i64 (f k)))):PF Tryz.prog 260 [(.val (.int .i64 ((n:Nat)))), .fn fid caps] (.val (.int .i64 (eG f n))):=by
 refine aG aD Tryz.func260 (by kernel_rfl) rfl rfl rfl rfl (λst=> ?_)
 (try apply wO pk;rfl);(repeat' ((show Cn _;constructor)))
 refine aK (X:={x:Nat//x<=n/\∀j<x,f j=0}) (λi=>((((St.nil 18 st).pv 1 (.fn fid caps)).pv 7 ((PV.val (Value.int .i64 ((n:Nat)))))).pv 8 ((PV.val (Value.int .i64 ((i.1:Nat))))))) (λi=>n-i.1) ⟨0,by omega,by omega⟩ ?_ (λi=> ?_)
 ·((repeat refine Sub.pv ?_ rfl);exact Sub.nil _ _ _ (zsr _) rfl)
 obtain ⟨i,hi,hinv⟩:=i
 dsimp only
 by_cases hend:n<=i
 ·rw [akS (f:=f) (n:=n) λj hj=>hinv j (by omega)]
  (try apply wO pk;rfl);(repeat' first|show Cn _;constructor|apply wC pk;rfl;rfl|refine aA rfl ?_ ?_<;>intro h<;>(try simp at h)<;>try omega|(refine aB ?_;refine ⟨_,_,_,rfl,zwr _,zsr _, ?_,rfl⟩;try first|rfl|(exfalso;omega);done))
 have hfi:=hf i (by omega) hinv
 (try apply wO pk;rfl);(repeat' first|show Cn _;constructor|apply wC pk;rfl;rfl|apply wE pk;rfl;rfl|refine aA rfl ?_ ?_<;>intro h<;>(try simp at h)<;>try omega|(refine aB ?_;refine ⟨_,_,_,rfl,zwr _,zsr _, ?_,rfl⟩;try first|rfl|(rw [akQ (by omega) ‹_› hinv]);done)|(apply aH;rfl;rfl;rfl;(intro _;apply hfi<;>first|assumption|omega);rotate_left;rfl;rfl)|refine ⟨⟨i+1,by omega,λj hj=>by rcases zls.1 hj with q|q;exact hinv j q;subst q;assumption⟩, ?_,by simp only;omega⟩;((repeat refine Sub.pv ?_ rfl);exact Sub.nil _ _ _ (zsr _) rfl)|intros;(try simp only [zql]);omega)
end Go.Proofs.YtloecjjehapblaaGreatDoor
