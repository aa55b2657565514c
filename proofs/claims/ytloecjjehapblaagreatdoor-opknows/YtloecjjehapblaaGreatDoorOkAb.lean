import Derived.Test.YtloecjjehapblaaGreatDoorOkAa
import Derived.Test.YtloecjjehapblaaGreatDoorAcI
set_option linter.unusedSimpArgs false
set_option linter.unusedVariables false
namespace Go.Proofs.YtloecjjehapblaaGreatDoor
open Go Go.Abs
attribute [local irreducible] Ev PWp
set_option maxRecDepth 10000
set_option maxHeartbeats 4000000
def abc :ByteArray:=⟨#[97,98,99,100,101,102,103,104,105,106,107,108,109,110,111,112,113,114,115,116,117,118,119,120,121,122]⟩
def abc9 :ByteArray:=⟨#[97,98,99,100,101,102,103,104,105,106,107,108,109,110,111,112,113,114,115,116,117,118,119,120,121,122,48,49,50,51,52,53,54,55,56,57,95]⟩
def azO (b:UInt8):Bool:=decide (97<=b.toNat)&&decide (b.toNat<=122)
def alB (b:UInt8):Bool:=(azO b||(decide (48<=b.toNat)&&decide (b.toNat<=57)))||decide (b.toNat=95)
theorem aBg {p:UInt8->Bool} (h:((List.range 256).all λn=>p (UInt8.ofNat n))=true) (b:UInt8):p b=true:=by
 have:=zal.1 h b.toNat (List.mem_range.2 b.toNat_lt)
 simpa using this
theorem asC (b:UInt8):abc9.data.toList.contains b=alB b:=by
 have:=aBg (p:=λb=>abc9.data.toList.contains b==alB b) (by decide+kernel) b
 simpa using this
theorem aBZ (b:UInt8):decide (firstIdx abc b>=0)=azO b:=by
 have:=aBg (p:=λb=>decide (firstIdx abc b>=0)==azO b) (by decide+kernel) b
 simpa using this
theorem zC {α:Type} {p:α->Bool}:∀{l:List α},l.dropWhile p=[]↔∀x∈l,p x=true
 |[]=>by simp
 |a::l=>by
  rw [List.dropWhile_cons]
  cases h:p a with
  |true=>simp [h,zC (l:=l)]
  |false=>simp [h]
theorem aeG {l cs:List UInt8}:Lib.trimS l cs=[]↔∀x∈l,cs.contains x=true:=by
 have drop_mem:∀{m:List UInt8} {p:UInt8->Bool},(∀x∈m,p x=true)↔∀x∈m.dropWhile p,p x=true:=by
  intro m p
  constructor
  ·exact λh x hx=>h x (List.dropWhile_sublist p|>.subset hx)
  ·intro h
   cases e:m.dropWhile p with
   |nil=>exact zC.1 e
   |cons a rs=>
    have h1:=h a (by rw [e];simp)
    have h2:=List.head_dropWhile_not p (l:=m) (by rw [e];simp)
    simp only [e,List.head_cons] at h2
    rw [h1] at h2;cases h2
 unfold Lib.trimS Lib.trimLeftS Lib.trimRightS
 rw [zC]
 have:=drop_mem (m:=l.reverse) (p:=λx=>cs.contains x)
 simp only [List.mem_reverse] at this⊢
 exact this.symm
theorem ajG :(Tryz.prog.info? (renT.t 116)).map (λi=>(i.zero,i.size))=some (some (.agg (Array.replicate 256 (.bool false))),256):=by kernel_rfl
theorem axC (s:ByteArray) (h0:0<s.size) (hs:s.size<=9223372036854775807):PF Tryz.prog 256 [(.val (.string s)),(.val (.string abc9))] (.val (.string (⟨(Lib.trimS s.data.toList abc9.data.toList).toArray⟩))):=
 aEE (by kernel_rfl) λw=>(Any.strings_Trim_set aGT (zero_of_info ajG).1 (zero_of_info ajG).2 s abc9 w (by decide) h0 hs (by decide) (ascii_of_all (by decide))).mono λe w' ⟨h1,q,h2⟩=>⟨h1, .inr ⟨_,_,q,h2⟩⟩
theorem apH (s:ByteArray) (h:s.data.toList.all alB=true):(⟨(Lib.trimS s.data.toList abc9.data.toList).toArray⟩:ByteArray)=e0:=by
 rw [aeG.2 λx hx=>by rw [asC];exact zal.1 h x hx]
theorem aBs (s:ByteArray) (h:s.data.toList.all alB=false):(⟨(Lib.trimS s.data.toList abc9.data.toList).toArray⟩:ByteArray)≠e0:=λe=>by
 have:Lib.trimS s.data.toList abc9.data.toList=[]:=by
  have:=congrArg (λb:ByteArray=>b.data.toList) e
  simpa using this
 rw [aeG] at this
 rw [<-Bool.not_eq_true,zal] at h
 exact h λx hx=>by rw [<-asC];exact this x hx
theorem agC (b:ByteArray) (c:UInt8):PF Tryz.prog 404 [(.val (.string b)), .val (.int .u8 (c.toNat:Int))] (.val (.int .i64 (firstIdx b c))):=by
 have e:(((c.toNat:Nat):Int).toNat).toUInt8=c:=by simp
 refine aG aF Tryz.func404 (by kernel_rfl) rfl rfl rfl rfl (λst=> ?_)
 (try apply wO pk;rfl);(repeat' first|show Cn _;constructor|apply wE pk;rfl;rfl|(refine aC ?_;refine ⟨_,_,_,rfl,zwr _,zsr _, ?_,rfl⟩;try first|rfl|(rw [e]);done)|apply aFe pk;rfl;rfl;exact Tryz.func417;kernel_rfl;kernel_rfl;kernel_rfl;kernel_rfl;rfl;rfl;rotate_left;rfl;rfl)
def one (c:UInt8):ByteArray:=⟨#[c]⟩
theorem axB (c:UInt8):PF Tryz.prog 379 [(.val (.string abc)),(.val (.string (one c)))] (.val (.int .i64 (firstIdx abc c))):=by
 have hb:=agC abc c
 have hz:(one c).size=1:=rfl
 have hg:(one c)[0]?=some c:=rfl
 have hne:¬(one c=abc):=λe=>by have:=congrArg ByteArray.size e;rw [hz] at this;cases this
 have hno:¬(one c=ByteArray.empty\/one c=abc):=λq=>q.elim (λe=>by have:=congrArg ByteArray.size e;rw [hz] at this;cases this) hne
 refine aG aF Tryz.func379 (by kernel_rfl) rfl rfl rfl rfl (λst=> ?_)
 (try apply wO pk;rfl);(repeat' first|exact absurd ‹_› hno|show Cn _;constructor|apply wC pk;rfl;rfl|apply wE pk;rfl;rfl|refine aB rfl ?_ ?_<;>intro h<;>(try simp at h)<;>try omega|(refine aC ?_;refine ⟨_,_,_,rfl,zwr _,zsr _, ?_,rfl⟩;try rfl)|(apply aH;rfl;rfl;rfl;(intro _;apply hb<;>first|assumption|omega);rotate_left;rfl;rfl)|apply sxA pk.htt 0 c;(iterate 6 rfl);exact hg;rfl)
theorem aoO (c:UInt8):PF Tryz.prog 257 [(.val (.string abc)),(.val (.string (one c)))] (.val (.bool (azO c))):=by
 have h1:=axB c
 have h2:PF Tryz.prog 332 [(.val (.string abc)),(.val (.string (one c)))] (.val (.int .i64 (firstIdx abc c))):=by
  refine aG aF Tryz.func332 (by kernel_rfl) rfl rfl rfl rfl (λst=> ?_)
  (try apply wO pk;rfl);(repeat' first|show Cn _;constructor|apply wE pk;rfl;rfl|(refine aC ?_;refine ⟨_,_,_,rfl,zwr _,zsr _, ?_,rfl⟩;try rfl)|(apply aH;rfl;rfl;rfl;(intro _;apply h1<;>first|assumption|omega);rotate_left;rfl;rfl))
 refine aG aF Tryz.func257 (by kernel_rfl) rfl rfl rfl rfl (λst=> ?_)
 (try apply wO pk;rfl);(repeat' first|show Cn _;constructor|apply wE pk;rfl;rfl|(refine aC ?_;refine ⟨_,_,_,rfl,zwr _,zsr _, ?_,rfl⟩;try first|rfl|(rw [<-aBZ]);done)|(apply aH;rfl;rfl;rfl;(intro _;apply h2<;>first|assumption|omega);rotate_left;rfl;rfl))
def zR (s:ByteArray):Bool:=match s.data.toList with
 |[]=>false
 |c::l=>azO c&&(decide (s.size<=12)&&(c::l).all alB)
theorem axG (s:ByteArray):s.size=s.data.toList.length:=(Array.length_toList (xs:=s.data)).symm
theorem adR (s:ByteArray):PF Tryz.prog 162 [(.val (.string s))] (.val (.bool (zR s))):=by
 unfold zR
 cases hl:s.data.toList with
 |nil=>
  obtain rfl:s=e0:=by
   apply ByteArray.ext
   apply Array.toList_inj.1
   rw [hl]
  refine aG aF Tryz.func162 (by kernel_rfl) rfl rfl rfl rfl (λst=> ?_)
  (try apply wO pk;rfl);(repeat' first|show Cn _;constructor|apply wE pk;rfl;rfl|(refine aC ?_;refine ⟨_,_,_,rfl,zwr _,zsr _, ?_,rfl⟩;try rfl)|(apply aH;rfl;rfl;rfl;(intro _;(first|apply (show PF Tryz.prog 256 [_,_] (PV.val (Value.string (e0))) from by rename_i hh;exact absurd (show false=true from hh) (by simp))|apply (show PF Tryz.prog 257 [_,_] (PV.val (Value.bool (false))) from by rename_i hh;exact absurd (show false=true from hh) (by simp)))<;>first|assumption|omega);rotate_left;rfl;rfl)|apply slT pk 0 1;rfl;rfl;rfl;rotate_left;rfl;(intro _;exact bE);(intro _;exact aU rfl rfl);(intro _;omega);(intro hh;exact absurd (show false=true from hh) (by simp));rfl)
 |cons c l=>
  have hz:=axG s
  rw [hl] at hz
  have h0:0<s.size:=by rw [hz];simp
  have hne:¬(s=e0):=λe=>by rw [e] at h0;exact absurd h0 (by decide)
  have hne':¬(s=(⟨#[]⟩:ByteArray)):=hne
  have hone:s.extract 0 1=one c:=by
   apply ByteArray.ext
   apply Array.toList_inj.1
   show _=[c]
   rw [ByteArray.data_extract,Array.toList_extract,hl];rfl
  dsimp only
  by_cases h12:s.size<=12
  ·have ht:=axC s h0 (by omega)
   have hi12:(s.size:Int)<=12:=by omega
   have hc:=aoO c
   rw [<-hone] at hc
   cases ha:s.data.toList.all alB with
   |true=>
    rw [apH s ha] at ht
    rw [hl] at ha
    rw [ha]
    refine aG aF Tryz.func162 (by kernel_rfl) rfl rfl rfl rfl (λst=> ?_)
    (try apply wO pk;rfl);(repeat' first|show Cn _;constructor|apply wE pk;rfl;rfl|(refine aC ?_;refine ⟨_,_,_,rfl,zwr _,zsr _, ?_,rfl⟩;try first|rfl|(simp [hne,hne',h12,hi12,e0];done);done)|(apply aH;rfl;rfl;rfl;(intro _;(first|apply ht|apply hc)<;>first|assumption|omega);rotate_left;rfl;rfl)|apply slT pk 0 1;rfl;rfl;rfl;rotate_left;rfl;(intro _;exact bE);(intro _;exact aU rfl rfl);(intro _;omega);(intro _;omega);rfl)
   |false=>
    have htn:=aBs s ha
    rw [hl] at ha
    rw [ha]
    have htn':¬((⟨(Lib.trimS s.data.toList abc9.data.toList).toArray⟩:ByteArray)=(⟨#[]⟩:ByteArray)):=htn
    generalize (⟨(Lib.trimS s.data.toList abc9.data.toList).toArray⟩:ByteArray)=T at*
    refine aG aF Tryz.func162 (by kernel_rfl) rfl rfl rfl rfl (λst=> ?_)
    (try apply wO pk;rfl);(repeat' first|show Cn _;constructor|apply wE pk;rfl;rfl|(refine aC ?_;refine ⟨_,_,_,rfl,zwr _,zsr _, ?_,rfl⟩;try first|rfl|(simp [hne,hne',h12,hi12,htn,htn'];done);done)|(apply aH;rfl;rfl;rfl;(intro _;(first|apply ht|apply hc)<;>first|assumption|omega);rotate_left;rfl;rfl)|apply slT pk 0 1;rfl;rfl;rfl;rotate_left;rfl;(intro _;exact bE);(intro _;exact aU rfl rfl);(intro _;omega);(intro _;omega);rfl)
  ·have hi12:¬(s.size:Int)<=12:=by omega
   have e:decide (s.size<=12)=false:=decide_eq_false h12
   have e2:decide ((s.size:Int)<=12)=false:=decide_eq_false (by omega)
   have e3:decide (s=e0)=false:=decide_eq_false hne
   have hT:∀p,(gw true (!decide (s=e0)) true&&p)=true->True:=λ_ _=>trivial
   rw [e,Bool.false_and,Bool.and_false]
   refine aG aF Tryz.func162 (by kernel_rfl) rfl rfl rfl rfl (λst=> ?_)
   (try apply wO pk;rfl);(repeat' first|show Cn _;constructor|apply wE pk;rfl;rfl|(refine aC ?_;refine ⟨_,_,_,rfl,zwr _,zsr _, ?_,rfl⟩;try first|rfl|(simp [hne,hne',h12,hi12,e0];done);done)|(apply aH;rfl;rfl;rfl;(intro _;(first|apply (show PF Tryz.prog 256 [_,_] (PV.val (Value.string (e0))) from by rename_i hh;simp [gw,hne] at hh;omega)|apply (show PF Tryz.prog 257 [_,_] (PV.val (Value.bool (false))) from by rename_i hh;simp [gw,hne] at hh;omega))<;>first|assumption|omega);rotate_left;rfl;rfl)|apply slT pk 0 1;rfl;rfl;rfl;rotate_left;rfl;(intro _;exact bE);(intro _;exact aU rfl rfl);(intro _;omega);(intro hh;omega);rfl)
def bB (v:Vl):Bool:=if v.kind=0 then decide (v.n=0)&&decide (v.s=e0) else if v.kind=1 then (decide (v.s=e0)&&decide (v.n>= -1099511627776))&&decide (v.n<=1099511627776) else if v.kind=2 then decide (v.n=0)&&decide ((v.s.size:Int)<=200) else false
theorem iX (v:Vl):PF Tryz.prog 175 [.agg v.cells] (.val (.bool (bB v))):=by
 unfold bB
 by_cases h0:v.kind=0
 ·rw [zp h0]
  refine aG aF Tryz.func175 (by kernel_rfl) rfl rfl rfl rfl (λst=> ?_)
  (try apply wO pk;rfl);(repeat' first|show Cn _;constructor|apply wC pk;rfl;rfl|refine aB rfl ?_ ?_<;>intro h<;>(try simp at h)<;>try omega|(refine aC ?_;refine ⟨_,_,_,rfl,zwr _,zsr _, ?_,rfl⟩;try first|rfl|((simp [h0];done));done))
 by_cases h1:v.kind=1
 ·rw [zn h0,zp h1]
  refine aG aF Tryz.func175 (by kernel_rfl) rfl rfl rfl rfl (λst=> ?_)
  (try apply wO pk;rfl);(repeat' first|show Cn _;constructor|apply wC pk;rfl;rfl|refine aB rfl ?_ ?_<;>intro h<;>(try simp at h)<;>try omega|(refine aC ?_;refine ⟨_,_,_,rfl,zwr _,zsr _, ?_,rfl⟩;try first|rfl|(fail);done))
 rw [zn h0,zn h1]
 by_cases h2:v.kind=2
 ·rw [zp h2]
  refine aG aF Tryz.func175 (by kernel_rfl) rfl rfl rfl rfl (λst=> ?_)
  (try apply wO pk;rfl);(repeat' first|show Cn _;constructor|apply wC pk;rfl;rfl|refine aB rfl ?_ ?_<;>intro h<;>(try simp at h)<;>try omega|(refine aC ?_;refine ⟨_,_,_,rfl,zwr _,zsr _, ?_,rfl⟩;try first|rfl|(fail);done))
 rw [zn h2]
 refine aG aF Tryz.func175 (by kernel_rfl) rfl rfl rfl rfl (λst=> ?_)
 (try apply wO pk;rfl);(repeat' first|show Cn _;constructor|apply wC pk;rfl;rfl|refine aB rfl ?_ ?_<;>intro h<;>(try simp at h)<;>try omega|(refine aC ?_;refine ⟨_,_,_,rfl,zwr _,zsr _, ?_,rfl⟩;try first|rfl|(fail);done))
def cJ (c:Cl):Int:=if c.kind≠2\/c.val.kind≠1 then 6 else if c.val.s≠e0\/0<c.parts.length then 1 else if c.val.n< -1099511627776\/c.val.n>1099511627776 then 20 else 0
theorem asY (n:Int):PF Tryz.prog 271 [(.val (.int .i64 n))] (.val (.bool (decide (n>= -1099511627776)&&decide (n<=1099511627776)))):=by
 refine aG aF Tryz.func271 (by kernel_rfl) rfl rfl rfl rfl (λst=> ?_)
 (try apply wO pk;rfl);(repeat' first|show Cn _;constructor|(refine aC ?_;refine ⟨_,_,_,rfl,zwr _,zsr _, ?_,rfl⟩;try rfl))
theorem lP (c:Cl):PF Tryz.prog 177 [.agg c.cells] (.val (.int .i64 (cJ c))):=by
 have hf:=asY c.val.n
 unfold cJ
 by_cases h1:c.kind≠2\/c.val.kind≠1
 ·rw [zp h1]
  refine aG aF Tryz.func177 (by kernel_rfl) rfl rfl rfl rfl (λst=> ?_)
  (try apply wO pk;rfl);(repeat' first|show Cn _;constructor|apply wC pk;rfl;rfl|refine aB rfl ?_ ?_<;>intro h<;>(try simp at h)<;>try omega|(refine aC ?_;refine ⟨_,_,_,rfl,zwr _,zsr _, ?_,rfl⟩;try first|rfl|(fail);done))
 rw [zn h1]
 by_cases h2:c.val.s≠e0\/0<c.parts.length
 ·rw [zp h2]
  refine aG aF Tryz.func177 (by kernel_rfl) rfl rfl rfl rfl (λst=> ?_)
  (try apply wO pk;rfl);(repeat' first|show Cn _;constructor|apply wC pk;rfl;rfl|apply wE pk;rfl;rfl|refine aB rfl ?_ ?_<;>intro h<;>(try simp at h)<;>try omega|(refine aC ?_;refine ⟨_,_,_,rfl,zwr _,zsr _, ?_,rfl⟩;try first|rfl|((exfalso;simp at*;grind));done)|(apply aH;rfl;rfl;rfl;(intro _;apply hf<;>first|assumption|omega);rotate_left;rfl;rfl))
 rw [zn h2]
 by_cases h3:c.val.n< -1099511627776\/c.val.n>1099511627776
 ·rw [zp h3]
  refine aG aF Tryz.func177 (by kernel_rfl) rfl rfl rfl rfl (λst=> ?_)
  (try apply wO pk;rfl);(repeat' first|show Cn _;constructor|apply wC pk;rfl;rfl|apply wE pk;rfl;rfl|refine aB rfl ?_ ?_<;>intro h<;>(try simp at h)<;>try omega|(refine aC ?_;refine ⟨_,_,_,rfl,zwr _,zsr _, ?_,rfl⟩;try first|rfl|((exfalso;simp at*;grind));done)|(apply aH;rfl;rfl;rfl;(intro _;apply hf<;>first|assumption|omega);rotate_left;rfl;rfl))
 rw [zn h3]
 refine aG aF Tryz.func177 (by kernel_rfl) rfl rfl rfl rfl (λst=> ?_)
 (try apply wO pk;rfl);(repeat' first|show Cn _;constructor|apply wC pk;rfl;rfl|apply wE pk;rfl;rfl|refine aB rfl ?_ ?_<;>intro h<;>(try simp at h)<;>try omega|(refine aC ?_;refine ⟨_,_,_,rfl,zwr _,zsr _, ?_,rfl⟩;try first|rfl|((exfalso;simp at*;grind));done)|(apply aH;rfl;rfl;rfl;(intro _;apply hf<;>first|assumption|omega);rotate_left;rfl;rfl))
theorem tM (c:Cl):PF Tryz.prog 112 [.seq [c.cells]] (.val (.int .i64 (cJ c))):=by
 have hc:=lP c
 generalize cJ c=R at*
 refine aG aF Tryz.func112 (by kernel_rfl) rfl rfl rfl rfl (λst=> ?_)
 (try apply wO pk;rfl);(repeat' ((show Cn _;constructor)))
 refine aK (X:={x:Nat//x<=1/\(x=1->R=0)}) (λi=>((((St.nil 18 st).pv 6 (.seq [c.cells])).pv 7 ((PV.val (Value.int .i64 ((([c.cells]).length:Nat)))))).pv 8 ((PV.val (Value.int .i64 ((i.1:Nat))))))) (λi=>1-i.1) ⟨0,by omega,by omega⟩ ?_ (λi=> ?_)
 ·((repeat refine Sub.pv ?_ rfl);exact Sub.nil _ _ _ (zsr _) rfl)
 obtain ⟨i,h1,hinv⟩:=i
 dsimp only
 rcases (show i=0\/i=1 by omega) with rfl|rfl
 ·(try apply wO pk;rfl);(repeat' first|show Cn _;constructor|apply wC pk;rfl;rfl|apply wE pk;rfl;rfl|refine aB rfl ?_ ?_<;>intro h<;>(try simp at h)<;>try omega|(refine aC ?_;refine ⟨_,_,_,rfl,zwr _,zsr _, ?_,rfl⟩;try first|rfl|rfl;done)|(apply aH;rfl;rfl;rfl;(intro _;apply hc<;>first|assumption|omega);rotate_left;rfl;rfl)|apply aP pk;(iterate 6 rfl);rotate_left;rfl;(intro hw;rfl);(intro hw;apply (rfl:([c.cells]:List (List PV))[0]?=some c.cells)<;>omega);(intro _;rfl);rfl|refine ⟨⟨1,by omega,λ_=>by assumption⟩, ?_,by simp only;omega⟩;((repeat refine Sub.pv ?_ rfl);exact Sub.nil _ _ _ (zsr _) rfl)|intros;(try simp only [zql]);omega)
 ·have h0:=hinv rfl
  (try apply wO pk;rfl);(repeat' first|show Cn _;constructor|apply wC pk;rfl;rfl|refine aB rfl ?_ ?_<;>intro h<;>(try simp at h)<;>try omega|(refine aC ?_;refine ⟨_,_,_,rfl,zwr _,zsr _, ?_,rfl⟩;try first|rfl|(rw [h0]);done))
def arP (c:Cl):Vl:=if cJ c=0 then c.val else Vl.zero
theorem anZ (c:Cl):PF Tryz.prog 67 [.agg c.cells] (.agg (arP c).cells):=by
 have hc:=tM c
 unfold arP
 by_cases h:cJ c=0
 ·rw [zp h]
  rw [h] at hc
  refine aG aF Tryz.func67 (by kernel_rfl) rfl rfl rfl rfl (λst=> ?_)
  (try apply wO pk;rfl);(repeat' first|show Cn _;constructor|apply wC pk;rfl;rfl|apply wE pk;rfl;rfl|refine aB rfl ?_ ?_<;>intro h<;>(try simp at h)<;>try omega|(refine aC ?_;refine ⟨_,_,_,rfl,zwr _,zsr _, ?_,rfl⟩;try rfl)|(apply aH;rfl;rfl;rfl;(intro _;apply hc<;>first|assumption|omega);rotate_left;rfl;rfl))
 rw [zn h]
 refine aG aF Tryz.func67 (by kernel_rfl) rfl rfl rfl rfl (λst=> ?_)
 (try apply wO pk;rfl);(repeat' first|show Cn _;constructor|apply wC pk;rfl;rfl|apply wE pk;rfl;rfl|refine aB rfl ?_ ?_<;>intro h<;>(try simp at h)<;>try omega|(refine aC ?_;refine ⟨_,_,_,rfl,zwr _,zsr _, ?_,rfl⟩;try first|rfl|(exfalso;omega);done)|(apply aH;rfl;rfl;rfl;(intro _;apply hc<;>first|assumption|omega);rotate_left;rfl;rfl))
theorem adW (a b:Dt):PF Tryz.prog 270 [.agg a.cells, .agg b.cells] (.val (.int .i64 (byD a b))):=by
 have ho:=afL [iA a.dev b.dev,iA a.seq b.seq] (by simp)
 refine aG aF Tryz.func270 (by kernel_rfl) rfl rfl rfl rfl (λst=> ?_)
 (try apply wO pk;rfl);(repeat' first|show Cn _;constructor|apply wE pk;rfl;rfl|apply wD pk [] [];kernel_rfl;rfl;rfl|(refine aC ?_;refine ⟨_,_,_,rfl,zwr _,zsr _, ?_,rfl⟩;try rfl)|(apply aH;rfl;rfl;rfl;(intro _;(first|apply (jE a.dev b.dev)|apply (jE a.seq b.seq)|apply ho)<;>first|assumption|omega);rotate_left;rfl;rfl))
theorem aqT (a b:Dt):decide (byD a b>=0)= !bH b a:=by
 unfold byD bH iA
 simp only [orI]
 rw [Bool.eq_iff_iff]
 simp only [zde,Bool.not_eq_true',Bool.or_eq_false_iff,Bool.and_eq_false_iff,decide_eq_false_iff_not]
 grind
def lN (p:Pt):Prop:=p.at_=0/\p.time=0/\p.after=Dt.zero/\p.afterAt=0/\p.gone=false
instance (p :Pt):Decidable (lN p):=by unfold lN;infer_instance
def fK (d:Dt):Bool:=((decide (1<=d.dev)&&decide (d.dev<=64))&&decide (1<=d.seq))&&decide (d.seq<=1048576)
def gU (p:Pt):Bool:=(decide (lN p)&&bB p.val)&&fK p.dot
def jG (p:Pt):Bool:=(decide (lN p)&&(decide (p.val.kind=1)&&bB p.val))&&fK p.dot
def xU (ok:Pt->Bool) (bh:Pt->Pt->Bool) (l:List Pt):Bool:=(List.range l.length).all λj=>ok l[j]! &&(decide (j=0)||bh l[j]! l[j-1]!)
theorem azP {ok:Pt->Bool} {bh:Pt->Pt->Bool} {l:List Pt} {j:Nat} (h:j<l.length) (hf:(ok l[j]&&(decide (j=0)||bh l[j] (l[j-1]'(by omega))))=false):xU ok bh l=false:=by
 unfold xU
 rw [<-Bool.not_eq_true,zal]
 intro q
 have:=q j (List.mem_range.2 h)
 rw [getElem!_pos l j h,getElem!_pos l (j-1) (by omega),hf] at this
 cases this
theorem afY {ok:Pt->Bool} {bh:Pt->Pt->Bool} {l:List Pt} (hf:∀j (h:j<l.length),(ok l[j]&&(decide (j=0)||bh l[j] (l[j-1]'(by omega))))=true):xU ok bh l=true:=by
 unfold xU
 rw [zal]
 intro j hj
 have h:=List.mem_range.1 hj
 rw [getElem!_pos l j h,getElem!_pos l (j-1) (by omega)]
 exact hf j h
def lT (c:Cl):Bool:=decide (c.kind=1/\c.val=Vl.zero)&&xU gU (λp q=>bH p.dot q.dot) c.parts
def apU (p:Pt):List PV:=[(PV.val (Value.int .i64 (p.val.n))),(PV.val (Value.int .i64 (p.dot.dev))),(PV.val (Value.int .i64 (p.dot.seq)))]
theorem uN (p:Pt):PF Tryz.prog 272 [.agg p.cells] (.agg (apU p)):=by
 refine aG aF Tryz.func272 (by kernel_rfl) rfl rfl rfl rfl (λst=> ?_)
 (try apply wO pk;rfl);(repeat' first|show Cn _;constructor|(refine aC ?_;refine ⟨_,_,_,rfl,zwr _,zsr _, ?_,rfl⟩;try rfl))
def ahI (p q:Pt):Int:=orI [iA p.val.n q.val.n,iA p.dot.dev q.dot.dev,iA p.dot.seq q.dot.seq]
theorem aqI (p q:Pt):PF Tryz.prog 273 [.agg (apU p), .agg (apU q)] (.val (.int .i64 (ahI p q))):=by
 have ho:=afL [iA p.val.n q.val.n,iA p.dot.dev q.dot.dev,iA p.dot.seq q.dot.seq] (by simp)
 refine aG aF Tryz.func273 (by kernel_rfl) rfl rfl rfl rfl (λst=> ?_)
 (try apply wO pk;rfl);(repeat' first|show Cn _;constructor|apply wE pk;rfl;rfl|apply wD pk [] [];kernel_rfl;rfl;rfl|(refine aC ?_;refine ⟨_,_,_,rfl,zwr _,zsr _, ?_,rfl⟩;try rfl)|(apply aH;rfl;rfl;rfl;(intro _;(first|apply (jE p.val.n q.val.n)|apply (jE p.dot.dev q.dot.dev)|apply (jE p.dot.seq q.dot.seq)|apply ho)<;>first|assumption|omega);rotate_left;rfl;rfl))
def dK (p q:Pt):Bool:=decide (p.val.n>q.val.n)||(decide (p.val.n=q.val.n)&&bH p.dot q.dot)
theorem aBF (p q:Pt):decide (ahI p q>=0)= !dK q p:=by
 unfold ahI dK bH iA
 simp only [orI]
 rw [Bool.eq_iff_iff]
 simp only [zde,Bool.not_eq_true',Bool.or_eq_false_iff,Bool.and_eq_false_iff,decide_eq_false_iff_not]
 grind
def jI (c:Cl):Bool:=decide (c.kind=3/\c.val=Vl.zero)&&xU jG dK c.parts
theorem uE {x:Bool} (h:gw x (decide (((0:Nat):Int)>0)) true=true):False:=by
 cases x<;>simp [gw] at h
theorem aiK (c:Cl) (hl:c.parts.length<4611686018427387904):PF Tryz.prog 176 [.agg c.cells] (.val (.bool (lT c))):=by
 unfold lT
 by_cases hk:¬(c.kind=1/\c.val=Vl.zero)
 ·rw [decide_eq_false hk,Bool.false_and]
  rw [Vl.ext_iff] at hk
  simp only [Vl.zero] at hk
  refine aG aF Tryz.func176 (by kernel_rfl) rfl rfl rfl rfl (λst=> ?_)
  (try apply wO pk;rfl);(repeat' first|(exfalso;grind)|show Cn _;constructor|apply wC pk;rfl;rfl|refine aB rfl ?_ ?_<;>intro h<;>(try simp at h)<;>try omega|(refine aC ?_;refine ⟨_,_,_,rfl,zwr _,zsr _, ?_,rfl⟩;try first|rfl|(exfalso;grind);done))
 replace hk:=zdn hk
 rw [decide_eq_true hk,Bool.true_and]
 obtain ⟨k1,k2⟩:=hk
 rw [Vl.ext_iff] at k2
 obtain ⟨k2,k3,k4⟩:=k2
 simp only [Vl.zero] at k2 k3 k4
 refine aG aF Tryz.func176 (by kernel_rfl) rfl rfl rfl rfl (λst=> ?_)
 (try apply wO pk;rfl);(repeat' first|show Cn _;constructor|apply wC pk;rfl;rfl|refine aB rfl ?_ ?_<;>intro h<;>(try simp at h)<;>try omega|(refine aC ?_;refine ⟨_,_,_,rfl,zwr _,zsr _, ?_,rfl⟩;try first|rfl|(exfalso;grind);done))
 refine aK (X:={x:Nat//x<=c.parts.length/\∀j (h:j<x) (h1:j<c.parts.length),(gU c.parts[j]&&(decide (j=0)||bH c.parts[j].dot (c.parts[j-1]'(by omega)).dot))=true}) (λi=>(((((St.nil 79 st).var 1 80 (c.cells)).pv 16 (.seq (c.parts.map Pt.cells))).pv 17 ((PV.val (Value.int .i64 (((c.parts.map Pt.cells).length:Nat)))))).pv 18 ((PV.val (Value.int .i64 ((i.1:Nat))))))) (λi=>c.parts.length-i.1) ⟨0,by omega,λ_ h=>absurd h (Nat.not_lt_zero _)⟩ ?_ (λi=> ?_)
 ·((repeat (first|refine Sub.pv ?_ rfl|refine Sub.var ?_ rfl rfl));exact Sub.nil _ _ _ (zsr _) rfl)
 obtain ⟨i,hi,hI⟩:=i
 dsimp only
 by_cases hend:c.parts.length<=i
 ·have e:=afY (ok:=gU) (bh:=λp q=>bH p.dot q.dot) λj h=>hI j (by omega) h
  (try apply wO pk;rfl);(repeat' first|show Cn _;constructor|apply wC pk;rfl;rfl|refine aB rfl ?_ ?_<;>intro h<;>(try simp at h)<;>try omega|(refine aC ?_;refine ⟨_,_,_,rfl,zwr _,zsr _, ?_,rfl⟩;try first|rfl|(rw [e]);done))
 have h1:i<c.parts.length:=by omega
 have hF:=azP (ok:=gU) (bh:=λp q=>bH p.dot q.dot) h1
 have hS:(gU c.parts[i]&&(decide (i=0)||bH c.parts[i].dot (c.parts[i-1]'(by omega)).dot))=true->∀j (h:j<i+1) (h1:j<c.parts.length),(gU c.parts[j]&&(decide (j=0)||bH c.parts[j].dot (c.parts[j-1]'(by omega)).dot))=true:=λh j hj h1=>by
  rcases zls.1 hj with q|q
  ·exact hI j q h1
  ·subst q;exact h
 have hv:=iX c.parts[i].val
 by_cases h0:i=0
 ·subst h0
  have hF':¬(gU c.parts[0]=true)->xU gU (λp q=>bH p.dot q.dot) c.parts=false:=λh=>hF (by rw [<-Bool.not_eq_true];intro q;rw [zba] at q;exact h q.1)
  simp only [gU,lN,fK,Dt.ext_iff,Dt.zero,zba,zde] at hF'
  (try apply wO pk;rfl);(repeat' first|show Cn _;constructor|apply wC pk;rfl;rfl|apply wE pk;rfl;rfl|apply wD pk [] [];kernel_rfl;rfl;rfl|refine aB rfl ?_ ?_<;>intro h<;>(try simp at h)<;>try omega|(refine aC ?_;refine ⟨_,_,_,rfl,zwr _,zsr _, ?_,rfl⟩;try first|rfl|(first|rw [hF' (by grind)];done|exact absurd (by assumption:c.parts=[]) (List.ne_nil_of_length_pos h1));done)|(apply aH;rfl;rfl;rfl;(intro _;(first|apply hv|apply (show PF Tryz.prog 270 [_, .agg c.parts[0].dot.cells] (PV.val (Value.int .i64 (0))) from by rename_i hh;exact (uE hh).elim))<;>first|assumption|omega);rotate_left;rfl;rfl)|apply aP pk;(iterate 6 rfl);rotate_left;rfl;(first|(intro hw;exact (show _=((0:Nat):Int) from by exact (uE hw).elim));(intro hw;apply aJ<;>omega);(intro _;rfl)|(intro hw;rfl);(intro hw;apply aJ<;>omega);(intro _;rfl));rfl|(refine ⟨⟨1,by omega,hS (by simp [gU,lN,fK,Dt.ext_iff,Dt.zero];grind)⟩, ?_,by simp only;omega⟩;((repeat (first|refine Sub.pv ?_ rfl|refine Sub.var ?_ rfl rfl));exact Sub.nil _ _ _ (zsr _) rfl))|intros;(try simp only [zql]);omega)
 obtain ⟨k,rfl⟩:∃k,i=k+1:=⟨i-1,by omega⟩
 have hd:=adW c.parts[k].dot c.parts[k+1].dot
 have hb:byD c.parts[k].dot c.parts[k+1].dot>=0↔bH c.parts[k+1].dot c.parts[k].dot=false:=by have:=aqT c.parts[k].dot c.parts[k+1].dot;cases h:bH c.parts[k+1].dot c.parts[k].dot<;>simp [h] at this⊢ <;>omega
 have hF':¬(gU c.parts[k+1]=true/\byD c.parts[k].dot c.parts[k+1].dot<0)->xU gU (λp q=>bH p.dot q.dot) c.parts=false:=λh=>hF (by rw [<-Bool.not_eq_true];intro q;rw [zba] at q;exact h ⟨q.1,by have q2:=q.2;simp at q2;grind⟩)
 simp only [gU,lN,fK,Dt.ext_iff,Dt.zero,zba,zde] at hF'
 (try apply wO pk;rfl);(repeat' first|show Cn _;constructor|apply wC pk;rfl;rfl|apply wE pk;rfl;rfl|apply wD pk [] [];kernel_rfl;rfl;rfl|refine aB rfl ?_ ?_<;>intro h<;>(try simp at h)<;>try omega|(refine aC ?_;refine ⟨_,_,_,rfl,zwr _,zsr _, ?_,rfl⟩;try first|rfl|(rw [hF' (by grind)]);done)|(apply aH;rfl;rfl;rfl;(intro _;(first|apply hv|apply hd)<;>first|assumption|omega);rotate_left;rfl;rfl)|apply aP pk;(iterate 6 rfl);rotate_left;rfl;(first|(intro hw;exact (show ((((k+1:Nat):Int))-1=((k:Nat):Int)) from by omega));(intro hw;apply aJ<;>omega);(intro _;rfl)|(intro hw;rfl);(intro hw;apply aJ<;>omega);(intro _;rfl));rfl|(refine ⟨⟨k+2,by omega,hS (by simp [gU,lN,fK,Dt.ext_iff,Dt.zero];grind)⟩, ?_,by simp only;omega⟩;((repeat (first|refine Sub.pv ?_ rfl|refine Sub.var ?_ rfl rfl));exact Sub.nil _ _ _ (zsr _) rfl))|intros;(try simp only [zql]);omega)
theorem ahN (c:Cl) (hl:c.parts.length<4611686018427387904):PF Tryz.prog 178 [.agg c.cells] (.val (.bool (jI c))):=by
 unfold jI
 by_cases hk:¬(c.kind=3/\c.val=Vl.zero)
 ·rw [decide_eq_false hk,Bool.false_and]
  rw [Vl.ext_iff] at hk
  simp only [Vl.zero] at hk
  refine aG aF Tryz.func178 (by kernel_rfl) rfl rfl rfl rfl (λst=> ?_)
  (try apply wO pk;rfl);(repeat' first|(exfalso;grind)|show Cn _;constructor|apply wC pk;rfl;rfl|refine aB rfl ?_ ?_<;>intro h<;>(try simp at h)<;>try omega|(refine aC ?_;refine ⟨_,_,_,rfl,zwr _,zsr _, ?_,rfl⟩;try first|rfl|(exfalso;grind);done))
 replace hk:=zdn hk
 rw [decide_eq_true hk,Bool.true_and]
 obtain ⟨k1,k2⟩:=hk
 rw [Vl.ext_iff] at k2
 obtain ⟨k2,k3,k4⟩:=k2
 simp only [Vl.zero] at k2 k3 k4
 refine aG aF Tryz.func178 (by kernel_rfl) rfl rfl rfl rfl (λst=> ?_)
 (try apply wO pk;rfl);(repeat' first|show Cn _;constructor|apply wC pk;rfl;rfl|refine aB rfl ?_ ?_<;>intro h<;>(try simp at h)<;>try omega|(refine aC ?_;refine ⟨_,_,_,rfl,zwr _,zsr _, ?_,rfl⟩;try first|rfl|(exfalso;grind);done))
 refine aK (X:={x:Nat//x<=c.parts.length/\∀j (h:j<x) (h1:j<c.parts.length),(jG c.parts[j]&&(decide (j=0)||dK c.parts[j] (c.parts[j-1]'(by omega))))=true}) (λi=>(((((St.nil 85 st).var 1 80 (c.cells)).pv 16 (.seq (c.parts.map Pt.cells))).pv 17 ((PV.val (Value.int .i64 (((c.parts.map Pt.cells).length:Nat)))))).pv 18 ((PV.val (Value.int .i64 ((i.1:Nat))))))) (λi=>c.parts.length-i.1) ⟨0,by omega,λ_ h=>absurd h (Nat.not_lt_zero _)⟩ ?_ (λi=> ?_)
 ·((repeat (first|refine Sub.pv ?_ rfl|refine Sub.var ?_ rfl rfl));exact Sub.nil _ _ _ (zsr _) rfl)
 obtain ⟨i,hi,hI⟩:=i
 dsimp only
 by_cases hend:c.parts.length<=i
 ·have e:=afY (ok:=jG) (bh:=dK) λj h=>hI j (by omega) h
  (try apply wO pk;rfl);(repeat' first|show Cn _;constructor|apply wC pk;rfl;rfl|refine aB rfl ?_ ?_<;>intro h<;>(try simp at h)<;>try omega|(refine aC ?_;refine ⟨_,_,_,rfl,zwr _,zsr _, ?_,rfl⟩;try first|rfl|(rw [e]);done))
 have h1:i<c.parts.length:=by omega
 have hF:=azP (ok:=jG) (bh:=dK) h1
 have hS:(jG c.parts[i]&&(decide (i=0)||dK c.parts[i] (c.parts[i-1]'(by omega))))=true->∀j (h:j<i+1) (h1:j<c.parts.length),(jG c.parts[j]&&(decide (j=0)||dK c.parts[j] (c.parts[j-1]'(by omega))))=true:=λh j hj h1=>by
  rcases zls.1 hj with q|q
  ·exact hI j q h1
  ·subst q;exact h
 have hv:=iX c.parts[i].val
 by_cases h0:i=0
 ·subst h0
  have hof:=uN c.parts[0]
  have hF':¬(jG c.parts[0]=true)->xU jG (dK) c.parts=false:=λh=>hF (by rw [<-Bool.not_eq_true];intro q;rw [zba] at q;exact h q.1)
  simp only [jG,lN,fK,Dt.ext_iff,Dt.zero,zba,zde] at hF'
  (try apply wO pk;rfl);(repeat' first|show Cn _;constructor|apply wC pk;rfl;rfl|apply wE pk;rfl;rfl|apply wD pk [] [];kernel_rfl;rfl;rfl|refine aB rfl ?_ ?_<;>intro h<;>(try simp at h)<;>try omega|(refine aC ?_;refine ⟨_,_,_,rfl,zwr _,zsr _, ?_,rfl⟩;try first|rfl|(first|rw [hF' (by grind)];done|exact absurd (by assumption:c.parts=[]) (List.ne_nil_of_length_pos h1));done)|(apply aH;rfl;rfl;rfl;(intro _;(first|apply hv|apply hof|apply (show PF Tryz.prog 273 [_,_] (PV.val (Value.int .i64 (0))) from by rename_i hh;exact (uE hh).elim))<;>first|assumption|omega);rotate_left;rfl;rfl)|apply aP pk;(iterate 6 rfl);rotate_left;rfl;(first|(intro hw;exact (show _=((0:Nat):Int) from by exact (uE hw).elim));(intro hw;apply aJ<;>omega);(intro _;rfl)|(intro hw;rfl);(intro hw;apply aJ<;>omega);(intro _;rfl));rfl|(refine ⟨⟨1,by omega,hS (by simp [jG,lN,fK,Dt.ext_iff,Dt.zero];grind)⟩, ?_,by simp only;omega⟩;((repeat (first|refine Sub.pv ?_ rfl|refine Sub.var ?_ rfl rfl));exact Sub.nil _ _ _ (zsr _) rfl))|intros;(try simp only [zql]);omega)
 obtain ⟨k,rfl⟩:∃k,i=k+1:=⟨i-1,by omega⟩
 have hd1:=uN c.parts[k]
 have hd2:=uN c.parts[k+1]
 have hd:=aqI c.parts[k] c.parts[k+1]
 have hb:ahI c.parts[k] c.parts[k+1]>=0↔dK c.parts[k+1] c.parts[k]=false:=by have:=aBF c.parts[k] c.parts[k+1];cases h:dK c.parts[k+1] c.parts[k]<;>simp [h] at this⊢ <;>omega
 have hF':¬(jG c.parts[k+1]=true/\ahI c.parts[k] c.parts[k+1]<0)->xU jG (dK) c.parts=false:=λh=>hF (by rw [<-Bool.not_eq_true];intro q;rw [zba] at q;exact h ⟨q.1,by have q2:=q.2;simp at q2;grind⟩)
 simp only [jG,lN,fK,Dt.ext_iff,Dt.zero,zba,zde] at hF'
 (try apply wO pk;rfl);(repeat' first|show Cn _;constructor|apply wC pk;rfl;rfl|apply wE pk;rfl;rfl|apply wD pk [] [];kernel_rfl;rfl;rfl|refine aB rfl ?_ ?_<;>intro h<;>(try simp at h)<;>try omega|(refine aC ?_;refine ⟨_,_,_,rfl,zwr _,zsr _, ?_,rfl⟩;try first|rfl|(rw [hF' (by grind)]);done)|(apply aH;rfl;rfl;rfl;(intro _;(first|apply hv|apply hd1|apply hd2|apply hd)<;>first|assumption|omega);rotate_left;rfl;rfl)|apply aP pk;(iterate 6 rfl);rotate_left;rfl;(first|(intro hw;exact (show ((((k+1:Nat):Int))-1=((k:Nat):Int)) from by omega));(intro hw;apply aJ<;>omega);(intro _;rfl)|(intro hw;rfl);(intro hw;apply aJ<;>omega);(intro _;rfl));rfl|(refine ⟨⟨k+2,by omega,hS (by simp [jG,lN,fK,Dt.ext_iff,Dt.zero];grind)⟩, ?_,by simp only;omega⟩;((repeat (first|refine Sub.pv ?_ rfl|refine Sub.var ?_ rfl rfl));exact Sub.nil _ _ _ (zsr _) rfl))|intros;(try simp only [zql]);omega)
structure Tb where
 name:ByteArray
 cols:List Co
 unique:List Int
 checks:List (List PV)
 foreign:List Fr
 sums:List Su
 deriving Inhabited
def Tb.cells (a:Tb):List PV:=[.val (.string (a.name)), .seq (a.cols.map Co.cells), .seq (a.unique.map I1), .seq a.checks, .seq (a.foreign.map Fr.cells), .seq (a.sums.map Su.cells)]
abbrev Sc :=List Tb
def scC (s:Sc):List PV:=[.seq (s.map Tb.cells)]
theorem awX (fid:FuncId) (caps:List PV) (f:Co->Bool) (l:List Co) (hl:l.length<4611686018427387904) (hf:∀p,PF Tryz.prog fid ([.agg p.cells]++caps) (.val (.bool (f p)))):PF Tryz.prog 333 [.seq (l.map Co.cells), .fn fid caps] (.val (.int .i64 (cS f l))):=by
 refine aG aF Tryz.func333 (by kernel_rfl) rfl rfl rfl rfl (λst=> ?_)
 (try apply wO pk;rfl);(repeat' ((show Cn _;constructor)))
 refine aK (X:={x:Nat//x<=l.length/\∀j (h:j<x) (h2:j<l.length),f l[j]=false}) (λi=>(((((St.nil 19 st).pv 0 (.seq (l.map Co.cells))).pv 1 (.fn fid caps)).pv 7 ((PV.val (Value.int .i64 ((((l.map Co.cells)).length:Nat)))))).pv 8 ((PV.val (Value.int .i64 ((i.1:Nat))))))) (λi=>l.length-i.1) ⟨0,by omega,by omega⟩ ?_ (λi=> ?_)
 ·((repeat refine Sub.pv ?_ rfl);exact Sub.nil _ _ _ (zsr _) rfl)
 obtain ⟨i,hi,hinv⟩:=i
 dsimp only
 (try apply wO pk;rfl);(repeat' first|show Cn _;constructor|apply wC pk;rfl;rfl|apply wE pk;rfl;rfl|refine aB rfl ?_ ?_<;>intro h<;>(try simp at h)<;>try omega|(refine aC ?_;refine ⟨_,_,_,rfl,zwr _,zsr _, ?_,rfl⟩;try first|rfl|(first|unfold cS;rw [nO ‹_› ‹_› hinv];done|unfold cS;rw [nA ‹_› hinv]);done)|(apply aH;rfl;rfl;rfl;(intro _;apply hf<;>first|assumption|omega);rotate_left;rfl;rfl)|apply aP pk;(iterate 6 rfl);rotate_left;rfl;(intro hw;rfl);(intro hw;apply aJ<;>omega);(intro _;rfl);rfl|refine ⟨⟨i+1,by omega,λj h1 h2=>by rcases zls.1 h1 with q|q;exact hinv j q h2;subst q;assumption⟩, ?_,by simp only;omega⟩;((repeat refine Sub.pv ?_ rfl);exact Sub.nil _ _ _ (zsr _) rfl)|intros;(try simp only [zql]);omega)
theorem atK (fid:FuncId) (caps:List PV) (f:Su->Bool) (l:List Su) (hl:l.length<4611686018427387904) (hf:∀p,PF Tryz.prog fid ([.agg p.cells]++caps) (.val (.bool (f p)))):PF Tryz.prog 334 [.seq (l.map Su.cells), .fn fid caps] (.val (.int .i64 (cS f l))):=by
 refine aG aF Tryz.func334 (by kernel_rfl) rfl rfl rfl rfl (λst=> ?_)
 (try apply wO pk;rfl);(repeat' ((show Cn _;constructor)))
 refine aK (X:={x:Nat//x<=l.length/\∀j (h:j<x) (h2:j<l.length),f l[j]=false}) (λi=>(((((St.nil 19 st).pv 0 (.seq (l.map Su.cells))).pv 1 (.fn fid caps)).pv 7 ((PV.val (Value.int .i64 ((((l.map Su.cells)).length:Nat)))))).pv 8 ((PV.val (Value.int .i64 ((i.1:Nat))))))) (λi=>l.length-i.1) ⟨0,by omega,by omega⟩ ?_ (λi=> ?_)
 ·((repeat refine Sub.pv ?_ rfl);exact Sub.nil _ _ _ (zsr _) rfl)
 obtain ⟨i,hi,hinv⟩:=i
 dsimp only
 (try apply wO pk;rfl);(repeat' first|show Cn _;constructor|apply wC pk;rfl;rfl|apply wE pk;rfl;rfl|refine aB rfl ?_ ?_<;>intro h<;>(try simp at h)<;>try omega|(refine aC ?_;refine ⟨_,_,_,rfl,zwr _,zsr _, ?_,rfl⟩;try first|rfl|(first|unfold cS;rw [nO ‹_› ‹_› hinv];done|unfold cS;rw [nA ‹_› hinv]);done)|(apply aH;rfl;rfl;rfl;(intro _;apply hf<;>first|assumption|omega);rotate_left;rfl;rfl)|apply aP pk;(iterate 6 rfl);rotate_left;rfl;(intro hw;rfl);(intro hw;apply aJ<;>omega);(intro _;rfl);rfl|refine ⟨⟨i+1,by omega,λj h1 h2=>by rcases zls.1 h1 with q|q;exact hinv j q h2;subst q;assumption⟩, ?_,by simp only;omega⟩;((repeat refine Sub.pv ?_ rfl);exact Sub.nil _ _ _ (zsr _) rfl)|intros;(try simp only [zql]);omega)
theorem auQ (fid:FuncId) (caps:List PV) (f:Tb->Bool) (l:List Tb) (hl:l.length<4611686018427387904) (hf:∀p,PF Tryz.prog fid ([.agg p.cells]++caps) (.val (.bool (f p)))):PF Tryz.prog 258 [.seq (l.map Tb.cells), .fn fid caps] (.val (.int .i64 (cS f l))):=by
 refine aG aF Tryz.func258 (by kernel_rfl) rfl rfl rfl rfl (λst=> ?_)
 (try apply wO pk;rfl);(repeat' ((show Cn _;constructor)))
 refine aK (X:={x:Nat//x<=l.length/\∀j (h:j<x) (h2:j<l.length),f l[j]=false}) (λi=>(((((St.nil 19 st).pv 0 (.seq (l.map Tb.cells))).pv 1 (.fn fid caps)).pv 7 ((PV.val (Value.int .i64 ((((l.map Tb.cells)).length:Nat)))))).pv 8 ((PV.val (Value.int .i64 ((i.1:Nat))))))) (λi=>l.length-i.1) ⟨0,by omega,by omega⟩ ?_ (λi=> ?_)
 ·((repeat refine Sub.pv ?_ rfl);exact Sub.nil _ _ _ (zsr _) rfl)
 obtain ⟨i,hi,hinv⟩:=i
 dsimp only
 (try apply wO pk;rfl);(repeat' first|show Cn _;constructor|apply wC pk;rfl;rfl|apply wE pk;rfl;rfl|refine aB rfl ?_ ?_<;>intro h<;>(try simp at h)<;>try omega|(refine aC ?_;refine ⟨_,_,_,rfl,zwr _,zsr _, ?_,rfl⟩;try first|rfl|(first|unfold cS;rw [nO ‹_› ‹_› hinv];done|unfold cS;rw [nA ‹_› hinv]);done)|(apply aH;rfl;rfl;rfl;(intro _;apply hf<;>first|assumption|omega);rotate_left;rfl;rfl)|apply aP pk;(iterate 6 rfl);rotate_left;rfl;(intro hw;rfl);(intro hw;apply aJ<;>omega);(intro _;rfl);rfl|refine ⟨⟨i+1,by omega,λj h1 h2=>by rcases zls.1 h1 with q|q;exact hinv j q h2;subst q;assumption⟩, ?_,by simp only;omega⟩;((repeat refine Sub.pv ?_ rfl);exact Sub.nil _ _ _ (zsr _) rfl)|intros;(try simp only [zql]);omega)
theorem avU (fid:FuncId) (caps:List PV) (f:Co->Bool) (l:List Co) (hl:l.length<4611686018427387904) (hf:∀p,PF Tryz.prog fid ([.agg p.cells]++caps) (.val (.bool (f p)))):PF Tryz.prog 263 [.seq (l.map Co.cells), .fn fid caps] (.val (.bool (l.any f))):=by
 have h:=awX fid caps f l hl hf
 refine aG aF Tryz.func263 (by kernel_rfl) rfl rfl rfl rfl (λst=> ?_)
 (try apply wO pk;rfl);(repeat' first|show Cn _;constructor|apply wE pk;rfl;rfl|(refine aC ?_;refine ⟨_,_,_,rfl,zwr _,zsr _, ?_,rfl⟩;try first|rfl|(rw [pP]);done)|(apply aH;rfl;rfl;rfl;(intro _;apply h<;>first|assumption|omega);rotate_left;rfl;rfl))
theorem atS (fid:FuncId) (caps:List PV) (f:Su->Bool) (l:List Su) (hl:l.length<4611686018427387904) (hf:∀p,PF Tryz.prog fid ([.agg p.cells]++caps) (.val (.bool (f p)))):PF Tryz.prog 269 [.seq (l.map Su.cells), .fn fid caps] (.val (.bool (l.any f))):=by
 have h:=atK fid caps f l hl hf
 refine aG aF Tryz.func269 (by kernel_rfl) rfl rfl rfl rfl (λst=> ?_)
 (try apply wO pk;rfl);(repeat' first|show Cn _;constructor|apply wE pk;rfl;rfl|(refine aC ?_;refine ⟨_,_,_,rfl,zwr _,zsr _, ?_,rfl⟩;try first|rfl|(rw [pP]);done)|(apply aH;rfl;rfl;rfl;(intro _;apply h<;>first|assumption|omega);rotate_left;rfl;rfl))
def eI (f:Nat->Int) (n:Nat):Int:=orI ((List.range n).map f)
theorem aAl {l:List Int} {i:Nat} (h:i<l.length) (hf:l[i]≠0) (hn:∀j (h:j<i) (h2:j<l.length),l[j]=0):orI l=l[i]:=by
 induction l generalizing i with
 |nil=>simp at h
 |cons a l ih=>
  cases i with
  |zero=>simp only [List.getElem_cons_zero] at hf⊢;rw [orI,zn hf]
  |succ i=>
   have h0:=hn 0 (by omega) (by simp)
   simp only [List.getElem_cons_zero] at h0
   rw [orI,zp h0]
   simp only [List.getElem_cons_succ] at hf⊢
   exact ih (by simpa using h) hf λj hj h2=>by have:=hn (j+1) (by omega) (by simpa using h2);simpa using this
theorem axX {l:List Int} (hn:∀x∈l,x=0):orI l=0:=by
 induction l with
 |nil=>rfl
 |cons a l ih=>rw [orI,zp (hn a (by simp))];exact ih λx hx=>hn x (by simp [hx])
theorem ajP {f:Nat->Int} {n i:Nat} (h:i<n) (hf:f i≠0) (hn:∀j<i,f j=0):eI f n=f i:=by
 unfold eI
 have:=aAl (l:=(List.range n).map f) (i:=i) (by simpa using h) (by simpa using hf) (λj hj h2=>by simpa using hn j hj)
 simpa using this
theorem ajQ {f:Nat->Int} {n:Nat} (hn:∀j<n,f j=0):eI f n=0:=
 axX λx hx=>by
  obtain ⟨j,hj,rfl⟩:=List.mem_map.1 hx
  exact hn j (List.mem_range.1 hj)
theorem iB (fid:FuncId) (caps:List PV) (f:Nat->Int) (n:Nat) (hn:n<4611686018427387904) (hf:∀k,k<n->(∀j<k,f j=0)->PF Tryz.prog fid ([(.val (.int .i64 ((k:Nat))))]++caps) (.val (.int .i64 (f k)))):PF Tryz.prog 260 [(.val (.int .i64 ((n:Nat)))), .fn fid caps] (.val (.int .i64 (eI f n))):=by
 refine aG aF Tryz.func260 (by kernel_rfl) rfl rfl rfl rfl (λst=> ?_)
 (try apply wO pk;rfl);(repeat' ((show Cn _;constructor)))
 refine aK (X:={x:Nat//x<=n/\∀j<x,f j=0}) (λi=>((((St.nil 18 st).pv 1 (.fn fid caps)).pv 7 ((PV.val (Value.int .i64 ((n:Nat)))))).pv 8 ((PV.val (Value.int .i64 ((i.1:Nat))))))) (λi=>n-i.1) ⟨0,by omega,by omega⟩ ?_ (λi=> ?_)
 ·((repeat refine Sub.pv ?_ rfl);exact Sub.nil _ _ _ (zsr _) rfl)
 obtain ⟨i,hi,hinv⟩:=i
 dsimp only
 by_cases hend:n<=i
 ·rw [ajQ (f:=f) (n:=n) λj hj=>hinv j (by omega)]
  (try apply wO pk;rfl);(repeat' first|show Cn _;constructor|apply wC pk;rfl;rfl|refine aB rfl ?_ ?_<;>intro h<;>(try simp at h)<;>try omega|(refine aC ?_;refine ⟨_,_,_,rfl,zwr _,zsr _, ?_,rfl⟩;try first|rfl|(exfalso;omega);done))
 have hfi:=hf i (by omega) hinv
 (try apply wO pk;rfl);(repeat' first|show Cn _;constructor|apply wC pk;rfl;rfl|apply wE pk;rfl;rfl|refine aB rfl ?_ ?_<;>intro h<;>(try simp at h)<;>try omega|(refine aC ?_;refine ⟨_,_,_,rfl,zwr _,zsr _, ?_,rfl⟩;try first|rfl|(rw [ajP (by omega) ‹_› hinv]);done)|(apply aH;rfl;rfl;rfl;(intro _;apply hfi<;>first|assumption|omega);rotate_left;rfl;rfl)|refine ⟨⟨i+1,by omega,λj hj=>by rcases zls.1 hj with q|q;exact hinv j q;subst q;assumption⟩, ?_,by simp only;omega⟩;((repeat refine Sub.pv ?_ rfl);exact Sub.nil _ _ _ (zsr _) rfl)|intros;(try simp only [zql]);omega)
end Go.Proofs.YtloecjjehapblaaGreatDoor
