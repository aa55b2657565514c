import Derived.Test.YtcglimangneafaaGreatDoorBsVal
import Derived.Test.YtcglimangneafaaGreatDoorBsLay
import Derived.Test.YtcglimangneafaaGreatDoorAbsSort
import Derived.Test.YtcglimangneafaaGreatDoorAbsE
import Derived.Test.YtcglimangneafaaGreatDoorBsFn
import Derived.Test.YtcglimangneafaaGreatDoorAbsI
set_option linter.unusedSimpArgs false
set_option linter.unusedVariables false
namespace Go.Proofs.YtcglimangneafaaGreatDoor
open Go Go.Abs
attribute [local irreducible] Ev PWp
set_option maxRecDepth 10000
set_option maxHeartbeats 4000000
theorem anC (zs:List Int) {st:aL} {id n:Nat} (hst:st id=some (.arr 3 (zs.map I1))) (hn:zs.length=n) (h62:n<4611686018427387904):
    PC Tryz.prog 186 [.vec id 1 0 n] st fun _ S=>S=upd st id (some (.arr 3 ((zs.mergeSort fun x y=>decide (x≤y)).map I1))):=
  arD (P:=Tryz.prog) aAT (by kernel_rfl) (by kernel_rfl) hst hn h62
theorem gJ {st:aL} {id id':Nat} {o:AObj} (h:upd st id (some o) id'=none):st id'=none:=by
  by_cases e:id'=id
  · subst e;rw [aC] at h;cases h
  · rwa [aG e] at h
theorem mR :Tryz.prog.bytesOf 3=8:=by kernel_rfl
def abc :ByteArray:=⟨#[97,98,99,100,101,102,103,104,105,106,107,108,109,110,111,112,113,114,115,116,117,118,119,120,121,122]⟩
def abc9 :ByteArray:=⟨#[97,98,99,100,101,102,103,104,105,106,107,108,109,110,111,112,113,114,115,116,117,118,119,120,121,122,48,49,50,51,52,53,54,55,56,57,95]⟩
def xW (b:UInt8):Bool:=decide (97≤b.toNat)&&decide (b.toNat≤122)
def alB (b:UInt8):Bool:=(xW b||(decide (48≤b.toNat)&&decide (b.toNat≤57)))||decide (b.toNat=95)
theorem asY {p:UInt8→Bool} (h:((List.range 256).all fun n=>p (UInt8.ofNat n))=true) (b:UInt8):p b=true:=by
  have:=List.all_eq_true.1 h b.toNat (List.mem_range.2 b.toNat_lt)
  simpa using this
theorem akR (b:UInt8):abc9.data.toList.contains b=alB b:=by
  have:=asY (p:=fun b=>abc9.data.toList.contains b==alB b) (by decide+kernel) b
  simpa using this
theorem auL (b:UInt8):decide (firstIdx abc b≥0)=xW b:=by
  have:=asY (p:=fun b=>decide (firstIdx abc b≥0)==xW b) (by decide+kernel) b
  simpa using this
theorem uY {α:Type} {p:α→Bool}:∀{l:List α},l.dropWhile p=[]↔∀x∈l,p x=true
  |[]=>by simp
  |a::l=>by
    rw [List.dropWhile_cons]
    cases h:p a with
    |true=>simp [h,uY (l:=l)]
    |false=>simp [h]
theorem zN {l cs:List UInt8}:Lib.trimS l cs=[]↔∀x∈l,cs.contains x=true:=by
  have drop_mem:∀{m:List UInt8} {p:UInt8→Bool},(∀x∈m,p x=true)↔∀x∈m.dropWhile p,p x=true:=by
    intro m p
    constructor
    · exact fun h x hx=>h x (List.dropWhile_sublist p|>.subset hx)
    · intro h
      cases e:m.dropWhile p with
      |nil=>exact uY.1 e
      |cons a rs=>
        have h1:=h a (by rw [e];simp)
        have h2:=List.head_dropWhile_not p (l:=m) (by rw [e];simp)
        simp only [e,List.head_cons] at h2
        rw [h1] at h2;cases h2
  unfold Lib.trimS Lib.trimLeftS Lib.trimRightS
  rw [uY]
  have:=drop_mem (m:=l.reverse) (p:=fun x=>cs.contains x)
  simp only [List.mem_reverse] at this⊢
  exact this.symm
theorem adX :(Tryz.prog.info? (renT.t 116)).map (fun i=>(i.zero,i.size))=some (some (.agg (Array.replicate 256 (.bool false))),256):=by kernel_rfl
theorem aoH (s:ByteArray) (h0:0<s.size) (hs:s.size≤9223372036854775807):PF Tryz.prog 117 [(PV.val (Value.string (s))),(PV.val (Value.string (abc9)))] (PV.val (Value.string (⟨(Lib.trimS s.data.toList abc9.data.toList).toArray⟩))):=
  ayI (by kernel_rfl) fun w=>(Any.strings_Trim_set aAI (zero_of_info adX).1 (zero_of_info adX).2 s abc9 w (by decide) h0 hs (by decide) (ascii_of_all (by decide))).mono fun e w' ⟨h1,q,h2⟩=>⟨h1, .inr ⟨_,_,q,h2⟩⟩
theorem aiR (s:ByteArray) (h:s.data.toList.all alB=true):(⟨(Lib.trimS s.data.toList abc9.data.toList).toArray⟩:ByteArray)=e0:=by
  rw [zN.2 fun x hx=>by rw [akR];exact List.all_eq_true.1 h x hx]
theorem atH (s:ByteArray) (h:s.data.toList.all alB=false):(⟨(Lib.trimS s.data.toList abc9.data.toList).toArray⟩:ByteArray)≠e0:=fun e=>by
  have:Lib.trimS s.data.toList abc9.data.toList=[]:=by
    have:=congrArg (fun b:ByteArray=>b.data.toList) e
    simpa using this
  rw [zN] at this
  rw [←Bool.not_eq_true,List.all_eq_true] at h
  exact h fun x hx=>by rw [←akR];exact this x hx
theorem abF (b:ByteArray) (c:UInt8):PF Tryz.prog 243 [(PV.val (Value.string (b))), .val (.int .u8 (c.toNat:Int))] (PV.val (Value.int .i64 (firstIdx b c))):=by
  have e:(((c.toNat:Nat):Int).toNat).toUInt8=c:=by simp
  refine aH aD Tryz.func243 (by kernel_rfl) rfl rfl rfl rfl (fun st=> ?_)
  (try (apply wO pk;exact rfl));(repeat' (first|(show All _;constructor)|(show Imp _ _;constructor)|(apply wE pk;(iterate 2 exact rfl))|(refine aB ?_;refine ⟨_,_,_,rfl,Wk.refl _,StSub.refl _, ?_,rfl⟩;try first|rfl|((rw [e]);done))|((apply ayS pk;exact rfl;exact rfl;exact Tryz.func269;kernel_rfl;kernel_rfl;kernel_rfl;kernel_rfl;exact rfl;exact rfl;rotate_left;exact rfl;exact rfl))))
def one (c:UInt8):ByteArray:=⟨#[c]⟩
theorem aoG (c:UInt8):PF Tryz.prog 218 [(PV.val (Value.string (abc))),(PV.val (Value.string (one c)))] (PV.val (Value.int .i64 (firstIdx abc c))):=by
  have hb:=abF abc c
  have hz:(one c).size=1:=rfl
  have hg:(one c)[0]?=some c:=rfl
  have hne:¬(one c=abc):=fun e=>by have:=congrArg ByteArray.size e;rw [hz] at this;cases this
  have hno:¬(one c=ByteArray.empty∨one c=abc):=fun q=>q.elim (fun e=>by have:=congrArg ByteArray.size e;rw [hz] at this;cases this) hne
  refine aH aD Tryz.func218 (by kernel_rfl) rfl rfl rfl rfl (fun st=> ?_)
  (try (apply wO pk;exact rfl));(repeat' (first|(exact absurd (by assumption) hno)|(show All _;constructor)|(show Imp _ _;constructor)|(show ImpX _ _ _ _;constructor)|(apply wC pk;(iterate 2 exact rfl))|(apply wE pk;(iterate 2 exact rfl))|(refine aA rfl (fun h=> ?_) (fun h=> ?_)<;>(try simp at h)<;>try (exfalso;omega))|(refine aB ?_;refine ⟨_,_,_,rfl,Wk.refl _,StSub.refl _, ?_,rfl⟩;try rfl)|(apply aI;(iterate 3 exact rfl);(intro _;apply hb<;>first|assumption|omega);rotate_left;(iterate 2 exact rfl))|(apply sxA pk.htt 0 c;(iterate 6 exact rfl);exact hg;exact rfl)))
theorem ahZ (c:UInt8):PF Tryz.prog 118 [(PV.val (Value.string (abc))),(PV.val (Value.string (one c)))] (PV.val (Value.bool (xW c))):=by
  have h1:=aoG c
  have h2:PF Tryz.prog 171 [(PV.val (Value.string (abc))),(PV.val (Value.string (one c)))] (PV.val (Value.int .i64 (firstIdx abc c))):=by
    refine aH aD Tryz.func171 (by kernel_rfl) rfl rfl rfl rfl (fun st=> ?_)
    (try (apply wO pk;exact rfl));(repeat' (first|(show All _;constructor)|(show Imp _ _;constructor)|(apply wE pk;(iterate 2 exact rfl))|(refine aB ?_;refine ⟨_,_,_,rfl,Wk.refl _,StSub.refl _, ?_,rfl⟩;try rfl)|(apply aI;(iterate 3 exact rfl);(intro _;apply h1<;>first|assumption|omega);rotate_left;(iterate 2 exact rfl))))
  refine aH aD Tryz.func118 (by kernel_rfl) rfl rfl rfl rfl (fun st=> ?_)
  (try (apply wO pk;exact rfl));(repeat' (first|(show All _;constructor)|(show Imp _ _;constructor)|(apply wE pk;(iterate 2 exact rfl))|(refine aB ?_;refine ⟨_,_,_,rfl,Wk.refl _,StSub.refl _, ?_,rfl⟩;try first|rfl|((rw [←auL]);done))|(apply aI;(iterate 3 exact rfl);(intro _;apply h2<;>first|assumption|omega);rotate_left;(iterate 2 exact rfl))))
def lP (s:ByteArray):Bool:=match s.data.toList with
  |[]=>false
  |c::l=>xW c&&(decide (s.size≤12)&&(c::l).all alB)
theorem nV (s:ByteArray):s.size=s.data.toList.length:=(Array.length_toList (xs:=s.data)).symm
theorem zF (s:ByteArray):PF Tryz.prog 77 [(PV.val (Value.string (s)))] (PV.val (Value.bool (lP s))):=by
  unfold lP
  cases hl:s.data.toList with
  |nil=>
    obtain rfl:s=e0:=by
      apply ByteArray.ext
      apply Array.toList_inj.1
      rw [hl]
    refine aH aD Tryz.func77 (by kernel_rfl) rfl rfl rfl rfl (fun st=> ?_)
    (try (apply wO pk;exact rfl));(repeat' (first|(show All _;constructor)|(show Imp _ _;constructor)|(show ImpX _ _ _ _;constructor)|(apply wE pk;(iterate 2 exact rfl))|(refine aB ?_;refine ⟨_,_,_,rfl,Wk.refl _,StSub.refl _, ?_,rfl⟩;try rfl)|(apply aI;(iterate 3 exact rfl);(intro _;(first|apply (show PF Tryz.prog 117 [_,_] (PV.val (Value.string (e0))) from by rename_i hh;exact absurd (show false=true from hh) (by simp))|apply (show PF Tryz.prog 118 [_,_] (PV.val (Value.bool (false))) from by rename_i hh;exact absurd (show false=true from hh) (by simp)))<;>first|assumption|omega);rotate_left;(iterate 2 exact rfl))|(apply slT pk 0 1;(iterate 3 exact rfl);rotate_left;exact rfl;(intro _;exact dC);(intro _;exact cJ rfl rfl);(intro _;omega);(intro hh;exact absurd (show false=true from hh) (by simp));exact rfl)))
  |cons c l=>
    have hz:=nV s
    rw [hl] at hz
    have h0:0<s.size:=by rw [hz];simp
    have hne:¬(s=e0):=fun e=>by rw [e] at h0;exact absurd h0 (by decide)
    have hne':¬(s=(⟨#[]⟩:ByteArray)):=hne
    have hone:s.extract 0 1=one c:=by
      apply ByteArray.ext
      apply Array.toList_inj.1
      show _=[c]
      rw [ByteArray.data_extract,Array.toList_extract,hl];rfl
    dsimp only
    by_cases h12:s.size≤12
    · have ht:=aoH s h0 (by omega)
      have hi12:(s.size:Int)≤12:=by omega
      have hc:=ahZ c
      rw [←hone] at hc
      cases ha:s.data.toList.all alB with
      |true=>
        rw [aiR s ha] at ht
        rw [hl] at ha
        rw [ha]
        refine aH aD Tryz.func77 (by kernel_rfl) rfl rfl rfl rfl (fun st=> ?_)
        (try (apply wO pk;exact rfl));(repeat' (first|(show All _;constructor)|(show Imp _ _;constructor)|(show ImpX _ _ _ _;constructor)|(apply wE pk;(iterate 2 exact rfl))|(refine aB ?_;refine ⟨_,_,_,rfl,Wk.refl _,StSub.refl _, ?_,rfl⟩;try first|rfl|((simp [hne,hne',h12,hi12,e0];done);done))|(apply aI;(iterate 3 exact rfl);(intro _;(first|apply ht|apply hc)<;>first|assumption|omega);rotate_left;(iterate 2 exact rfl))|(apply slT pk 0 1;(iterate 3 exact rfl);rotate_left;exact rfl;(intro _;exact dC);(intro _;exact cJ rfl rfl);(intro _;omega);(intro _;omega);exact rfl)))
      |false=>
        have htn:=atH s ha
        rw [hl] at ha
        rw [ha]
        have htn':¬((⟨(Lib.trimS s.data.toList abc9.data.toList).toArray⟩:ByteArray)=(⟨#[]⟩:ByteArray)):=htn
        generalize (⟨(Lib.trimS s.data.toList abc9.data.toList).toArray⟩:ByteArray)=T at*
        refine aH aD Tryz.func77 (by kernel_rfl) rfl rfl rfl rfl (fun st=> ?_)
        (try (apply wO pk;exact rfl));(repeat' (first|(show All _;constructor)|(show Imp _ _;constructor)|(show ImpX _ _ _ _;constructor)|(apply wE pk;(iterate 2 exact rfl))|(refine aB ?_;refine ⟨_,_,_,rfl,Wk.refl _,StSub.refl _, ?_,rfl⟩;try first|rfl|((simp [hne,hne',h12,hi12,htn,htn'];done);done))|(apply aI;(iterate 3 exact rfl);(intro _;(first|apply ht|apply hc)<;>first|assumption|omega);rotate_left;(iterate 2 exact rfl))|(apply slT pk 0 1;(iterate 3 exact rfl);rotate_left;exact rfl;(intro _;exact dC);(intro _;exact cJ rfl rfl);(intro _;omega);(intro _;omega);exact rfl)))
    · have hi12:¬(s.size:Int)≤12:=by omega
      have e:decide (s.size≤12)=false:=decide_eq_false h12
      have e2:decide ((s.size:Int)≤12)=false:=decide_eq_false (by omega)
      have e3:decide (s=e0)=false:=decide_eq_false hne
      have hT:∀p,(gw true (!decide (s=e0)) true&&p)=true→True:=fun _ _=>trivial
      rw [e,Bool.false_and,Bool.and_false]
      refine aH aD Tryz.func77 (by kernel_rfl) rfl rfl rfl rfl (fun st=> ?_)
      (try (apply wO pk;exact rfl));(repeat' (first|(show All _;constructor)|(show Imp _ _;constructor)|(show ImpX _ _ _ _;constructor)|(apply wE pk;(iterate 2 exact rfl))|(refine aB ?_;refine ⟨_,_,_,rfl,Wk.refl _,StSub.refl _, ?_,rfl⟩;try first|rfl|((simp [hne,hne',h12,hi12,e0];done);done))|(apply aI;(iterate 3 exact rfl);(intro _;(first|apply (show PF Tryz.prog 117 [_,_] (PV.val (Value.string (e0))) from by rename_i hh;simp [gw,hne] at hh;omega)|apply (show PF Tryz.prog 118 [_,_] (PV.val (Value.bool (false))) from by rename_i hh;simp [gw,hne] at hh;omega))<;>first|assumption|omega);rotate_left;(iterate 2 exact rfl))|(apply slT pk 0 1;(iterate 3 exact rfl);rotate_left;exact rfl;(intro _;exact dC);(intro _;exact cJ rfl rfl);(intro _;omega);(intro hh;omega);exact rfl)))
theorem akK (s:ByteArray) {l:List UInt8} (hl:s.data.toList=l) {i:Nat} (h:i<l.length):s[i]?=some l[i]:=by
  subst hl
  have him:i<s.size:=by rw [nV];exact h
  rw [getElem?_pos s i him]
  rfl
theorem xA (s:ByteArray):PF Tryz.prog 104 [(PV.val (Value.string (s)))] (PV.val (Value.bool (lP s))):=by
  unfold lP
  cases hl:s.data.toList with
  |nil=>
    have hz:=nV s
    rw [hl] at hz
    have hz':(s.size:Int)<1:=by rw [hz];decide
    refine aH aD Tryz.func104 (by kernel_rfl) rfl rfl rfl rfl (fun st=> ?_)
    (try (apply wO pk;exact rfl));(repeat' (first|(show All _;constructor)|(show Imp _ _;constructor)|(show ImpX _ _ _ _;constructor)|(apply wC pk;(iterate 2 exact rfl))|(apply wE pk;(iterate 2 exact rfl))|(refine aA rfl (fun h=> ?_) (fun h=> ?_)<;>(try simp at h)<;>try (exfalso;omega))|(refine aB ?_;refine ⟨_,_,_,rfl,Wk.refl _,StSub.refl _, ?_,rfl⟩;try first|rfl|((exfalso;simp at*;omega);done))|(apply sxG pk 0 0;(iterate 4 exact rfl);rotate_left;exact rfl;(intro _;exact rfl);(intro hh;rw [decide_eq_true hz'] at hh;exact absurd (show false=true from hh) (by simp));exact rfl)))
  |cons c l=>
    have hz:=nV s
    rw [hl] at hz
    have h0:0<s.size:=by rw [hz];simp
    have hc0:s[0]?=some c:=akK s hl (i:=0) (by simp)
    have hcl:=c.toNat_lt
    dsimp only
    by_cases h12:¬(s.size≤12∧xW c=true)
    · have e:(xW c&&(decide (s.size≤12)&&(c::l).all alB))=false:=by
        cases h1:xW c
        · rfl
        · rw [h1] at h12;simp at h12;simp;intro h;omega
      rw [e]
      unfold xW at h12
      simp at h12
      refine aH aD Tryz.func104 (by kernel_rfl) rfl rfl rfl rfl (fun st=> ?_)
      (try (apply wO pk;exact rfl));(repeat' (first|(show All _;constructor)|(show Imp _ _;constructor)|(show ImpX _ _ _ _;constructor)|(apply wC pk;(iterate 2 exact rfl))|(apply wE pk;(iterate 2 exact rfl))|(refine aA rfl (fun h=> ?_) (fun h=> ?_)<;>(try simp at h)<;>try (exfalso;omega))|(refine aB ?_;refine ⟨_,_,_,rfl,Wk.refl _,StSub.refl _, ?_,rfl⟩;try first|rfl|((exfalso;simp at*;omega);done))|(apply sxG pk 0 c;(iterate 4 exact rfl);rotate_left;exact rfl;(intro _;exact rfl);(intro _;exact hc0);exact rfl)))
    replace h12:=Decidable.of_not_not h12
    obtain ⟨h1,h2⟩:=h12
    rw [h2,decide_eq_true h1,Bool.true_and,Bool.true_and]
    simp only [xW,Bool.and_eq_true,decide_eq_true_eq] at h2
    generalize hL:c::l=L at*
    refine aH aD Tryz.func104 (by kernel_rfl) rfl rfl rfl rfl (fun st=> ?_)
    (try (apply wO pk;exact rfl));(repeat' (first|(show All _;constructor)|(show Imp _ _;constructor)|(show ImpX _ _ _ _;constructor)|(apply wC pk;(iterate 2 exact rfl))|(apply wE pk;(iterate 2 exact rfl))|(refine aA rfl (fun h=> ?_) (fun h=> ?_)<;>(try simp at h)<;>try (exfalso;omega))|(apply sxG pk 0 c;(iterate 4 exact rfl);rotate_left;exact rfl;(intro _;exact rfl);(intro _;exact hc0);exact rfl)))
    refine aJ (X:={x:Nat//x≤L.length∧∀j (h:j<x) (h1:j<L.length),alB L[j]=true}) (fun i=>(((St.nil 62 st).pv 0 ((PV.val (Value.string (s))))).pv 3 ((PV.val (Value.int .i64 ((i.1:Nat))))))) (fun i=>L.length-i.1) ⟨0,by omega,fun _ h=>absurd h (Nat.not_lt_zero _)⟩ ?_ (fun i=> ?_)
    · ((repeat (refine Sub.pv ?_ rfl));exact Sub.nil _ _ _ (StSub.refl _) rfl)
    obtain ⟨i,hi,hI⟩:=i
    dsimp only
    by_cases hend:L.length≤i
    · have e:L.all alB=true:=List.all_eq_true.2 fun c hc=>by
        obtain ⟨j,hj,rfl⟩:=List.getElem_of_mem hc
        exact hI j (by omega) hj
      rw [e]
      (try (apply wO pk;exact rfl));(repeat' (first|(show All _;constructor)|(apply wC pk;(iterate 2 exact rfl))|(refine aA rfl (fun h=> ?_) (fun h=> ?_)<;>(try simp at h)<;>try (exfalso;omega))|(refine aB ?_;refine ⟨_,_,_,rfl,Wk.refl _,StSub.refl _, ?_,rfl⟩;try first|rfl|((exfalso;omega);done))))
    have hil:i<L.length:=by omega
    have hbi:=akK s hl hil
    have hF:alB L[i]=false→L.all alB=false:=fun h=>by
      rw [←Bool.not_eq_true,List.all_eq_true]
      intro q;rw [q _ (List.getElem_mem hil)] at h;cases h
    have hS:alB L[i]=true→∀j (h:j<i+1) (h1:j<L.length),alB L[j]=true:=fun h j hj h1=>by
      rcases Nat.lt_succ_iff_lt_or_eq.1 hj with q|q
      · exact hI j q h1
      · subst q;exact h
    generalize L[i]=b at*
    have hbl:=b.toNat_lt
    have hE:alB b=((decide (97≤b.toNat)&&decide (b.toNat≤122))||(decide (48≤b.toNat)&&decide (b.toNat≤57))||decide (b.toNat=95)):=rfl
    (try (apply wO pk;exact rfl));(repeat' (first|(show All _;constructor)|(show Imp _ _;constructor)|(show ImpX _ _ _ _;constructor)|(apply wC pk;(iterate 2 exact rfl))|(apply wE pk;(iterate 2 exact rfl))|(refine aA rfl (fun h=> ?_) (fun h=> ?_)<;>(try simp at h)<;>try (exfalso;omega))|(refine aB ?_;refine ⟨_,_,_,rfl,Wk.refl _,StSub.refl _, ?_,rfl⟩;try first|rfl|((rw [hF (by rw [hE];simp at*;omega)]);done))|(apply sxG pk i b;(iterate 4 exact rfl);rotate_left;exact rfl;(intro _;exact rfl);(intro _;exact hbi);exact rfl)|(refine ⟨⟨i+1,by omega,hS (by rw [hE];simp at*;omega)⟩, ?_,by simp only;omega⟩;((repeat (refine Sub.pv ?_ rfl));exact Sub.nil _ _ _ (StSub.refl _) rfl))|(intros;(try simp only [zql]);omega)))
end Go.Proofs.YtcglimangneafaaGreatDoor
