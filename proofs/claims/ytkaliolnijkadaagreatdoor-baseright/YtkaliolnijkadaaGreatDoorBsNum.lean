import Derived.Test.YtkaliolnijkadaaGreatDoorBsVal
import Derived.Test.YtkaliolnijkadaaGreatDoorBsLay
import Derived.Test.YtkaliolnijkadaaGreatDoorAbsSort
import Derived.Test.YtkaliolnijkadaaGreatDoorAbsE
import Derived.Test.YtkaliolnijkadaaGreatDoorBsFn
import Derived.Test.YtkaliolnijkadaaGreatDoorAbsI
set_option linter.unusedSimpArgs false
set_option linter.unusedVariables false
namespace Go.Proofs.YtkaliolnijkadaaGreatDoor
open Go Go.Abs
attribute [local irreducible] Ev PWp
set_option maxRecDepth 10000
set_option maxHeartbeats 4000000
theorem abL (zs:List Int) {st:aK} {id n:Nat} (hst:st id=some (.arr 3 (zs.map I1))) (hn:zs.length=n) (h62:n<4611686018427387904):
    PC Tryz.prog 109 [.vec id 1 0 n] st fun _ S=>S=upd st id (some (.arr 3 ((zs.mergeSort fun x y=>decide (x≤y)).map I1))):=
  afQ (P:=Tryz.prog) amX (by kernel_rfl) (by kernel_rfl) hst hn h62
theorem qN (id:Nat):PF Tryz.prog 110 [.vec id 1 0 1] (.vec id 1 0 1):=by
  refine aJ aG Tryz.func110 (by kernel_rfl) rfl rfl rfl rfl (fun st=> ?_)
  (try (apply wO pk;exact rfl));(repeat' (first|(show All _;constructor)|(show Imp _ _;constructor)|(show ImpX _ _ _ _;constructor)|(apply wC pk;(iterate 2 exact rfl))|(apply wE pk;(iterate 2 exact rfl))|(apply wX pk;exact rfl)|(apply wN pk;exact rfl)|(apply wD pk [] [];kernel_rfl;exact rfl;exact rfl)|(apply aB;simp only [cond_true,cond_false])|(refine aC rfl (fun h=> ?_) (fun h=> ?_)<;>(try simp at h)<;>try (exfalso;omega))|(refine aF ?_;refine ⟨_,_,_,rfl,Wk.refl _,StSub.refl _, ?_,rfl⟩;try rfl)|(intros;(try simp only [List.length_map]);omega)))
theorem hJ {st:aK} {id id':Nat} {o:AObj} (h:upd st id (some o) id'=none):st id'=none:=by
  by_cases e:id'=id
  · subst e;rw [aA] at h;cases h
  · rwa [aD e] at h
theorem afR :Tryz.prog.bytesOf 3=8:=by kernel_rfl
theorem vG (c:Cl) (p:Pt) (hc:c.parts=[p]) (st:aK):PC Tryz.prog 76 [.agg c.cells] st fun r S=>∃id,r= .vec id 1 0 1∧st id=none∧∃o,S=upd st id (some o):=by
  have hm:c.parts.map Pt.cells=[Pt.cells p]:=by rw [hc];rfl
  have hm0:(c.parts.map Pt.cells)[0]?=some (Pt.cells p):=by rw [hm];rfl
  have hml:(c.parts.map Pt.cells).length=1:=by rw [hm];rfl
  have hcs:=qN
  refine dG aG Tryz.func76 (by kernel_rfl) rfl rfl rfl rfl ?_
  (try (apply wO pk;exact rfl));(repeat' (first|(show All _;constructor)|(show Imp _ _;constructor)|(show ImpX _ _ _ _;constructor)|(apply wC pk;(iterate 2 exact rfl))|(apply wE pk;(iterate 2 exact rfl))|(apply wX pk;exact rfl)|(apply wN pk;exact rfl)|(apply wD pk [] [];kernel_rfl;exact rfl;exact rfl)|(apply aB;simp only [cond_true,cond_false])|(refine aC rfl (fun h=> ?_) (fun h=> ?_)<;>(try simp at h)<;>try (exfalso;omega))|(refine aF ?_;refine ⟨_,_,_,rfl,Wk.refl _,StSub.refl _, ?_,rfl⟩;try rfl)|(intros;(try simp only [List.length_map]);omega)))
  refine qJ 3 3 1 rfl rfl rfl (fun id hid=> ?_)
  refine aM (X:={x:Nat×Nat//x.1≤1∧st x.2=none}) (fun i=>(((((St.nil 24 (upd st i.1.2 (some (.arr 3 (([p.val.n].take i.1.1).map I1))))).pv 3 (.vec i.1.2 1 0 i.1.1)).pv 7 (.seq (c.parts.map Pt.cells))).pv 8 ((PV.val (Value.int .i64 ((1:Nat)))))).pv 9 ((PV.val (Value.int .i64 ((i.1.1:Nat))))))) (fun i=>1-i.1.1) ⟨(0,id),by simp,hid⟩ ?_ (fun i=> ?_)
  · dsimp only
    (first|exact Sub.nil _ _ _ (StSub.refl _) rfl|((repeat (first|refine Sub.pv ?_ rfl|refine Sub.var ?_ rfl rfl|refine Sub.pv' ?_ rfl (by first|rfl|(rw [hml]))|refine Sub.var' ?_ rfl rfl (by first|rfl|(rw [hml]))));(first|exact Sub.nil _ _ _ (StSub.refl _) rfl|exact Sub.nil _ _ _ (bE (by assumption)) rfl|exact Sub.nil _ _ _ (aS (by first|rfl|exact bX (by assumption)|((simp only [St.pv,St.put,St.sst,St.setv,St.nil,St.var,aV]);first|done|rfl))) rfl|(refine Sub.nil _ _ _ (aS ?_) rfl;(simp only [St.pv,St.put,St.sst,St.setv,St.nil,St.var,aV]);(rw [fW (by assumption)]);first|done|rfl))))
  obtain ⟨⟨i,id⟩,hi,hid⟩:=i
  simp only at hi hid
  dsimp only
  rcases (show i=0∨i=1 by omega) with rfl|rfl
  · (try (apply wO pk;exact rfl));(repeat' (first|(show All _;constructor)|(show Imp _ _;constructor)|(show ImpX _ _ _ _;constructor)|(apply wC pk;(iterate 2 exact rfl))|(apply wE pk;(iterate 2 exact rfl))|(apply wX pk;exact rfl)|(apply wN pk;exact rfl)|(apply wD pk [] [];kernel_rfl;exact rfl;exact rfl)|(apply aB;simp only [cond_true,cond_false])|(refine aC rfl (fun h=> ?_) (fun h=> ?_)<;>(try simp at h)<;>try (exfalso;omega))|(refine aF ?_;first|(refine ⟨_,_,_,rfl,Wk.refl _,StSub.refl _, ?_,rfl⟩;(first|rfl))|(refine ⟨_,_,_,rfl,Wk.refl _,bH (by assumption), ?_,rfl⟩;(first|rfl))|(refine ⟨_,_,_,rfl,Wk.soft _,StSub.refl _, ?_,rfl⟩;(first|rfl))|(refine ⟨_,_,_,rfl,Wk.soft _,bH (by assumption), ?_,rfl⟩;(first|rfl))|(refine ⟨_,_,_,rfl,Wk.refl _,StSub.refl _, ?_,rfl⟩)|(refine ⟨_,_,_,rfl,Wk.soft _,bH (by assumption), ?_,rfl⟩))|(apply bC pk;(iterate 6 exact rfl);rotate_left;exact rfl;(intro hw;exact rfl);(intro hw;apply (fun _:0<1=>hm0)<;>omega);(intro _;exact rfl);exact rfl)|(apply apV pk (f:=I1) [p.val.n] 8;(iterate 9 exact rfl);(first|exact aA _ _ _|assumption|(focus ((repeat (first|exact aA _ _ _|assumption|refine (aD (by assumption)).trans ?_));done)));(first|omega|assumption|(focus (simp;done))|(focus (simp;omega))|(focus (simp at*;omega)));exact fun _=>rfl;exact fun _=>rfl;exact afR;(first|omega|assumption|(focus (simp;done))|(focus (simp;omega))|(focus (simp at*;omega)));(first|omega|assumption|(focus (simp;done))|(focus (simp;omega))|(focus (simp at*;omega)));exact rfl;intro id' hid')|(apply ap0 pk (f:=I1) [p.val.n] 8;(iterate 10 exact rfl);exact fun _=>rfl;exact fun _=>rfl;exact afR;(first|omega|assumption|(focus (simp;done))|(focus (simp;omega))|(focus (simp at*;omega)));(first|omega|assumption|(focus (simp;done))|(focus (simp;omega))|(focus (simp at*;omega)));exact rfl;intro id' hid')|(refine ⟨⟨(1,id'),by simp only;omega,hJ hid'⟩, ?_,by simp only;omega⟩;((dsimp only));(first|exact Sub.nil _ _ _ (StSub.refl _) rfl|((repeat (first|refine Sub.pv ?_ rfl|refine Sub.var ?_ rfl rfl|refine Sub.pv' ?_ rfl (by (first|rfl|simp))|refine Sub.var' ?_ rfl rfl (by (first|rfl|simp))));(first|exact Sub.nil _ _ _ (StSub.refl _) rfl|exact Sub.nil _ _ _ (bE (by assumption)) rfl|exact Sub.nil _ _ _ (aS (by first|rfl|exact bX (by assumption)|((simp only [St.pv,St.put,St.sst,St.setv,St.nil,St.var,aV]);first|done|rfl))) rfl|(refine Sub.nil _ _ _ (aS ?_) rfl;(simp only [St.pv,St.put,St.sst,St.setv,St.nil,St.var,aV]);(rw [fW (by assumption)]);first|done|rfl)))))|(intros;(try simp only [List.length_map]);omega)))
  · have hso:=abL ([p.val.n].take 1) (st:=upd st id (some (.arr 3 (([p.val.n].take 1).map I1)))) (id:=id) (n:=1) (aA _ _ _) rfl (by decide)
    (try (apply wO pk;exact rfl));(repeat' (first|(show All _;constructor)|(show Imp _ _;constructor)|(show ImpX _ _ _ _;constructor)|(apply wC pk;(iterate 2 exact rfl))|(apply wE pk;(iterate 2 exact rfl))|(apply wX pk;exact rfl)|(apply wN pk;exact rfl)|(apply wDx pk;exact rfl;kernel_rfl;exact rfl;exact rfl)|(apply aB;simp only [cond_true,cond_false])|(refine aC rfl (fun h=> ?_) (fun h=> ?_)<;>(try simp at h)<;>try (exfalso;omega))|((try refine aF ?_);(first|(refine ⟨_,_,_,rfl,Wk.refl _,StSub.refl _, ?_⟩;(exact ⟨id,rfl,hid,_,aV _ _ _ _⟩);done)|(refine ⟨_,_, ?zs,rfl,Wk.refl _, ?zh, ?zr⟩;(case zh=>(refine aH ?_ (by assumption);(repeat refine aH ?_ (by assumption));exact StSub.refl _));(case zr=>(exact ⟨id,rfl,hid,_,aV _ _ _ _⟩)))|refine ⟨_,_,_,rfl,Wk.refl _,StSub.refl _, ?_⟩))|(apply aL;(iterate 3 exact rfl);(intro _;apply (hcs id)<;>first|assumption|omega);rotate_left;(iterate 2 exact rfl))|(apply fB;(iterate 3 exact rfl);(intro _;apply (hcs id)<;>first|assumption|omega);rotate_left;(iterate 2 exact rfl))|(apply ncA;(iterate 3 exact rfl);rotate_left;exact rfl;exact rfl)|(apply ldR pk;exact rfl;exact rfl;rotate_left;exact rfl;(first|exact aA _ _ _|assumption|(focus ((repeat (first|exact aA _ _ _|assumption|refine (aD (by assumption)).trans ?_));done)));exact rfl;exact rfl)|(apply stR pk;exact rfl;exact rfl;(first|exact aA _ _ _|assumption|(focus ((repeat (first|exact aA _ _ _|assumption|refine (aD (by assumption)).trans ?_));done)));exact rfl;exact rfl)|(apply cR;exact rfl;exact rfl;(apply hso<;>first|exact aA _ _ _|assumption|omega|(first|exact aA _ _ _|assumption|(focus ((repeat (first|exact aA _ _ _|assumption|refine (aD (by assumption)).trans ?_));done))));(iterate 3 exact rfl);intro _ st' hR;obtain rfl:=hR)|(apply cR;exact rfl;exact rfl;(first|(apply fail_no_spec<;>first|exact aA _ _ _|assumption|omega|(simp only [Array.size_setIfInBounds];omega)|(first|exact aA _ _ _|assumption|(focus ((repeat (first|exact aA _ _ _|assumption|refine (aD (by assumption)).trans ?_));done)))));(iterate 3 exact rfl);intro _ st' hR;(first|subst hR|obtain ⟨rfl,rfl⟩:=hR))|(intros;(try simp only [List.length_map]);omega)))
theorem uX (c:Cl) (p:Pt) (hc:c.parts=[p]):PF Tryz.prog 56 [.agg c.cells] (.agg (Vl.mk 1 1 e0).cells):=by
  intro st
  have hn:=vG c p hc st
  refine dG aG Tryz.func56 (by kernel_rfl) rfl rfl rfl rfl ?_
  (try (apply wO pk;exact rfl));(repeat' (first|((refine aF ?_;exact ⟨_,_,st,rfl,Wk.refl _,aH (StSub.refl _) hid,rfl,rfl⟩))|(show All _;constructor)|(show Imp _ _;constructor)|(show ImpX _ _ _ _;constructor)|(apply wC pk;(iterate 2 exact rfl))|(apply wE pk;(iterate 2 exact rfl))|(apply wX pk;exact rfl)|(apply wN pk;exact rfl)|(apply wDx pk;exact rfl;kernel_rfl;exact rfl;exact rfl)|(apply aB;simp only [cond_true,cond_false])|(refine aC rfl (fun h=> ?_) (fun h=> ?_)<;>(try simp at h)<;>try (exfalso;omega))|((try refine aF ?_);(first|(refine ⟨_,_,_,rfl,Wk.refl _,StSub.refl _, ?_⟩;((fail));done)|(refine ⟨_,_, ?zs,rfl,Wk.refl _, ?zh, ?zr⟩;(case zh=>(refine aH ?_ (by assumption);(repeat refine aH ?_ (by assumption));exact StSub.refl _));(case zr=>((fail))))|refine ⟨_,_,_,rfl,Wk.refl _,StSub.refl _, ?_⟩))|(apply ncA;(iterate 3 exact rfl);rotate_left;exact rfl;exact rfl)|(apply ldR pk;exact rfl;exact rfl;rotate_left;exact rfl;(first|exact aA _ _ _|assumption|(focus ((repeat (first|exact aA _ _ _|assumption|refine (aD (by assumption)).trans ?_));done)));exact rfl;exact rfl)|(apply stR pk;exact rfl;exact rfl;(first|exact aA _ _ _|assumption|(focus ((repeat (first|exact aA _ _ _|assumption|refine (aD (by assumption)).trans ?_));done)));exact rfl;exact rfl)|(apply cR;exact rfl;exact rfl;(apply hn<;>first|exact aA _ _ _|assumption|omega|(first|exact aA _ _ _|assumption|(focus ((repeat (first|exact aA _ _ _|assumption|refine (aD (by assumption)).trans ?_));done))));(iterate 3 exact rfl);intro _ st' hR;obtain ⟨id,rfl,hid,o,rfl⟩:=hR)|(apply cR;exact rfl;exact rfl;(first|(apply fail_no_spec<;>first|exact aA _ _ _|assumption|omega|(simp only [Array.size_setIfInBounds];omega)|(first|exact aA _ _ _|assumption|(focus ((repeat (first|exact aA _ _ _|assumption|refine (aD (by assumption)).trans ?_));done)))));(iterate 3 exact rfl);intro _ st' hR;(first|subst hR|obtain ⟨rfl,rfl⟩:=hR))|(intros;(try simp only [List.length_map]);omega)))
end Go.Proofs.YtkaliolnijkadaaGreatDoor
namespace Go.Proofs.YtkaliolnijkadaaGreatDoor
open Go Go.Abs
attribute [local irreducible] Ev PWp
set_option maxRecDepth 10000
set_option maxHeartbeats 4000000
def abc :ByteArray:=⟨#[97,98,99,100,101,102,103,104,105,106,107,108,109,110,111,112,113,114,115,116,117,118,119,120,121,122]⟩
def abc9 :ByteArray:=⟨#[97,98,99,100,101,102,103,104,105,106,107,108,109,110,111,112,113,114,115,116,117,118,119,120,121,122,48,49,50,51,52,53,54,55,56,57,95]⟩
def qS (b:UInt8):Bool:=decide (97≤b.toNat)&&decide (b.toNat≤122)
def alB (b:UInt8):Bool:=(qS b||(decide (48≤b.toNat)&&decide (b.toNat≤57)))||decide (b.toNat=95)
theorem ahB {p:UInt8→Bool} (h:((List.range 256).all fun n=>p (UInt8.ofNat n))=true) (b:UInt8):p b=true:=by
  have:=List.all_eq_true.1 h b.toNat (List.mem_range.2 b.toNat_lt)
  simpa using this
theorem aaO (b:UInt8):abc9.data.toList.contains b=alB b:=by
  have:=ahB (p:=fun b=>abc9.data.toList.contains b==alB b) (by decide+kernel) b
  simpa using this
theorem aiA (b:UInt8):decide (firstIdx abc b≥0)=qS b:=by
  have:=ahB (p:=fun b=>decide (firstIdx abc b≥0)==qS b) (by decide+kernel) b
  simpa using this
theorem oY {α:Type} {p:α→Bool}:∀{l:List α},l.dropWhile p=[]↔∀x∈l,p x=true
  |[]=>by simp
  |a::l=>by
    rw [List.dropWhile_cons]
    cases h:p a with
    |true=>simp [h,oY (l:=l)]
    |false=>simp [h]
theorem rB {l cs:List UInt8}:Lib.trimS l cs=[]↔∀x∈l,cs.contains x=true:=by
  have drop_mem:∀{m:List UInt8} {p:UInt8→Bool},(∀x∈m,p x=true)↔∀x∈m.dropWhile p,p x=true:=by
    intro m p
    constructor
    · exact fun h x hx=>h x (List.dropWhile_sublist p|>.subset hx)
    · intro h
      cases e:m.dropWhile p with
      |nil=>exact oY.1 e
      |cons a rs=>
        have h1:=h a (by rw [e];simp)
        have h2:=List.head_dropWhile_not p (l:=m) (by rw [e];simp)
        simp only [e,List.head_cons] at h2
        rw [h1] at h2;cases h2
  unfold Lib.trimS Lib.trimLeftS Lib.trimRightS
  rw [oY]
  have:=drop_mem (m:=l.reverse) (p:=fun x=>cs.contains x)
  simp only [List.mem_reverse] at this⊢
  exact this.symm
theorem vN :(Tryz.prog.info? (renT.t 116)).map (fun i=>(i.zero,i.size))=some (some (.agg (Array.replicate 256 (.bool false))),256):=by kernel_rfl
theorem adD (s:ByteArray) (h0:0<s.size) (hs:s.size≤9223372036854775807):PF Tryz.prog 114 [(PV.val (Value.string (s))),(PV.val (Value.string (abc9)))] (PV.val (Value.string (⟨(Lib.trimS s.data.toList abc9.data.toList).toArray⟩))):=
  akL (by kernel_rfl) fun w=>(Any.strings_Trim_set anE (zero_of_info vN).1 (zero_of_info vN).2 s abc9 w (by decide) h0 hs (by decide) (ascii_of_all (by decide))).mono fun e w' ⟨h1,q,h2⟩=>⟨h1, .inr ⟨_,_,q,h2⟩⟩
theorem yF (s:ByteArray) (h:s.data.toList.all alB=true):(⟨(Lib.trimS s.data.toList abc9.data.toList).toArray⟩:ByteArray)=e0:=by
  rw [rB.2 fun x hx=>by rw [aaO];exact List.all_eq_true.1 h x hx]
theorem agF (s:ByteArray) (h:s.data.toList.all alB=false):(⟨(Lib.trimS s.data.toList abc9.data.toList).toArray⟩:ByteArray)≠e0:=fun e=>by
  have:Lib.trimS s.data.toList abc9.data.toList=[]:=by
    have:=congrArg (fun b:ByteArray=>b.data.toList) e
    simpa using this
  rw [rB] at this
  rw [←Bool.not_eq_true,List.all_eq_true] at h
  exact h fun x hx=>by rw [←aaO];exact this x hx
theorem sT (b:ByteArray) (c:UInt8):PF Tryz.prog 212 [(PV.val (Value.string (b))), .val (.int .u8 (c.toNat:Int))] (PV.val (Value.int .i64 (firstIdx b c))):=by
  have e:(((c.toNat:Nat):Int).toNat).toUInt8=c:=by simp
  refine aJ aG Tryz.func212 (by kernel_rfl) rfl rfl rfl rfl (fun st=> ?_)
  (try (apply wO pk;exact rfl));(repeat' (first|(show All _;constructor)|(show Imp _ _;constructor)|(show ImpX _ _ _ _;constructor)|(apply wC pk;(iterate 2 exact rfl))|(apply wE pk;(iterate 2 exact rfl))|(apply wX pk;exact rfl)|(apply wN pk;exact rfl)|(apply wD pk [] [];kernel_rfl;exact rfl;exact rfl)|(apply aB;simp only [cond_true,cond_false])|(refine aC rfl (fun h=> ?_) (fun h=> ?_)<;>(try simp at h)<;>try (exfalso;omega))|(refine aF ?_;refine ⟨_,_,_,rfl,Wk.refl _,StSub.refl _, ?_,rfl⟩;try first|rfl|((rw [e]);done))|((apply alI pk;exact rfl;exact rfl;exact Tryz.func224;kernel_rfl;kernel_rfl;kernel_rfl;kernel_rfl;exact rfl;exact rfl;rotate_left;exact rfl;exact rfl))|(intros;(try simp only [List.length_map]);omega)))
def one (c:UInt8):ByteArray:=⟨#[c]⟩
theorem acZ (c:UInt8):PF Tryz.prog 190 [(PV.val (Value.string (abc))),(PV.val (Value.string (one c)))] (PV.val (Value.int .i64 (firstIdx abc c))):=by
  have hb:=sT abc c
  have hz:(one c).size=1:=rfl
  have hg:(one c)[0]?=some c:=rfl
  have hne:¬(one c=abc):=fun e=>by have:=congrArg ByteArray.size e;rw [hz] at this;cases this
  have hno:¬(one c=ByteArray.empty∨one c=abc):=fun q=>q.elim (fun e=>by have:=congrArg ByteArray.size e;rw [hz] at this;cases this) hne
  refine aJ aG Tryz.func190 (by kernel_rfl) rfl rfl rfl rfl (fun st=> ?_)
  (try (apply wO pk;exact rfl));(repeat' (first|(exact absurd (by assumption) hno)|(show All _;constructor)|(show Imp _ _;constructor)|(show ImpX _ _ _ _;constructor)|(apply wC pk;(iterate 2 exact rfl))|(apply wE pk;(iterate 2 exact rfl))|(apply wX pk;exact rfl)|(apply wN pk;exact rfl)|(apply wD pk [] [];kernel_rfl;exact rfl;exact rfl)|(apply aB;simp only [cond_true,cond_false])|(refine aC rfl (fun h=> ?_) (fun h=> ?_)<;>(try simp at h)<;>try (exfalso;omega))|(refine aF ?_;refine ⟨_,_,_,rfl,Wk.refl _,StSub.refl _, ?_,rfl⟩;try rfl)|(apply aL;(iterate 3 exact rfl);(intro _;apply hb<;>first|assumption|omega);rotate_left;(iterate 2 exact rfl))|(apply alG;(iterate 4 exact rfl);(first|omega|decide);(first|omega|decide);exact rfl)|(apply alE;(iterate 4 exact rfl);(first|omega|decide);(first|omega|decide);exact rfl)|(apply gF 7;(iterate 5 exact rfl);(first|omega|decide);exact rfl)|(apply gF 8;(iterate 5 exact rfl);(first|omega|decide);exact rfl)|(apply gF 13;(iterate 5 exact rfl);(first|omega|decide);exact rfl)|(apply gF 16;(iterate 5 exact rfl);(first|omega|decide);exact rfl)|(apply gF 17;(iterate 5 exact rfl);(first|omega|decide);exact rfl)|(apply gF 32;(iterate 5 exact rfl);(first|omega|decide);exact rfl)|(apply gF;(iterate 5 exact rfl);(first|omega|decide);exact rfl)|(apply gG 7;(iterate 5 exact rfl);(first|omega|decide);exact rfl)|(apply gG 8;(iterate 5 exact rfl);(first|omega|decide);exact rfl)|(apply gG 13;(iterate 5 exact rfl);(first|omega|decide);exact rfl)|(apply gG 16;(iterate 5 exact rfl);(first|omega|decide);exact rfl)|(apply gG 17;(iterate 5 exact rfl);(first|omega|decide);exact rfl)|(apply gG 32;(iterate 5 exact rfl);(first|omega|decide);exact rfl)|(apply gG;(iterate 5 exact rfl);(first|omega|decide);exact rfl)|(apply alK (b:=1);(iterate 5 exact rfl);(first|omega|decide);(first|omega|decide);exact rfl)|(apply cvA pk.htt;(iterate 5 exact rfl);(refine ⟨?_, ?_⟩<;>(first|omega|decide));exact rfl)|(apply sxA pk.htt 0 c;(iterate 6 exact rfl);exact hg;exact rfl)|(intros;(try simp only [List.length_map]);omega)))
theorem zJ (c:UInt8):PF Tryz.prog 115 [(PV.val (Value.string (abc))),(PV.val (Value.string (one c)))] (PV.val (Value.bool (qS c))):=by
  have h1:=acZ c
  have h2:PF Tryz.prog 160 [(PV.val (Value.string (abc))),(PV.val (Value.string (one c)))] (PV.val (Value.int .i64 (firstIdx abc c))):=by
    refine aJ aG Tryz.func160 (by kernel_rfl) rfl rfl rfl rfl (fun st=> ?_)
    (try (apply wO pk;exact rfl));(repeat' (first|(show All _;constructor)|(show Imp _ _;constructor)|(show ImpX _ _ _ _;constructor)|(apply wC pk;(iterate 2 exact rfl))|(apply wE pk;(iterate 2 exact rfl))|(apply wX pk;exact rfl)|(apply wN pk;exact rfl)|(apply wD pk [] [];kernel_rfl;exact rfl;exact rfl)|(apply aB;simp only [cond_true,cond_false])|(refine aC rfl (fun h=> ?_) (fun h=> ?_)<;>(try simp at h)<;>try (exfalso;omega))|(refine aF ?_;refine ⟨_,_,_,rfl,Wk.refl _,StSub.refl _, ?_,rfl⟩;try rfl)|(apply aL;(iterate 3 exact rfl);(intro _;apply h1<;>first|assumption|omega);rotate_left;(iterate 2 exact rfl))|(intros;(try simp only [List.length_map]);omega)))
  refine aJ aG Tryz.func115 (by kernel_rfl) rfl rfl rfl rfl (fun st=> ?_)
  (try (apply wO pk;exact rfl));(repeat' (first|(show All _;constructor)|(show Imp _ _;constructor)|(show ImpX _ _ _ _;constructor)|(apply wC pk;(iterate 2 exact rfl))|(apply wE pk;(iterate 2 exact rfl))|(apply wX pk;exact rfl)|(apply wN pk;exact rfl)|(apply wD pk [] [];kernel_rfl;exact rfl;exact rfl)|(apply aB;simp only [cond_true,cond_false])|(refine aC rfl (fun h=> ?_) (fun h=> ?_)<;>(try simp at h)<;>try (exfalso;omega))|(refine aF ?_;refine ⟨_,_,_,rfl,Wk.refl _,StSub.refl _, ?_,rfl⟩;try first|rfl|((rw [←aiA]);done))|(apply aL;(iterate 3 exact rfl);(intro _;apply h2<;>first|assumption|omega);rotate_left;(iterate 2 exact rfl))|(intros;(try simp only [List.length_map]);omega)))
def iO (s:ByteArray):Bool:=match s.data.toList with
  |[]=>false
  |c::l=>qS c&&(decide (s.size≤12)&&(c::l).all alB)
theorem kD (s:ByteArray):s.size=s.data.toList.length:=(Array.length_toList (xs:=s.data)).symm
theorem rU (s:ByteArray):PF Tryz.prog 79 [(PV.val (Value.string (s)))] (PV.val (Value.bool (iO s))):=by
  unfold iO
  cases hl:s.data.toList with
  |nil=>
    obtain rfl:s=e0:=by
      apply ByteArray.ext
      apply Array.toList_inj.1
      rw [hl]
    refine aJ aG Tryz.func79 (by kernel_rfl) rfl rfl rfl rfl (fun st=> ?_)
    (try (apply wO pk;exact rfl));(repeat' (first|(show All _;constructor)|(show Imp _ _;constructor)|(show ImpX _ _ _ _;constructor)|(apply wC pk;(iterate 2 exact rfl))|(apply wE pk;(iterate 2 exact rfl))|(apply wX pk;exact rfl)|(apply wN pk;exact rfl)|(apply wD pk [] [];kernel_rfl;exact rfl;exact rfl)|(apply aB;simp only [cond_true,cond_false])|(refine aC rfl (fun h=> ?_) (fun h=> ?_)<;>(try simp at h)<;>try (exfalso;omega))|(refine aF ?_;refine ⟨_,_,_,rfl,Wk.refl _,StSub.refl _, ?_,rfl⟩;try rfl)|(apply aL;(iterate 3 exact rfl);(intro _;(first|apply (show PF Tryz.prog 114 [_,_] (PV.val (Value.string (e0))) from by rename_i hh;exact absurd (show false=true from hh) (by simp))|apply (show PF Tryz.prog 115 [_,_] (PV.val (Value.bool (false))) from by rename_i hh;exact absurd (show false=true from hh) (by simp)))<;>first|assumption|omega);rotate_left;(iterate 2 exact rfl))|(apply slT pk 0 1;(iterate 3 exact rfl);rotate_left;exact rfl;(intro _;exact bM);(intro _;exact bA rfl rfl);(intro _;omega);(intro hh;exact absurd (show false=true from hh) (by simp));exact rfl)|(intros;(try simp only [List.length_map]);omega)))
  |cons c l=>
    have hz:=kD s
    rw [hl] at hz
    have h0:0<s.size:=by rw [hz];simp
    have hne:¬(s=e0):=fun e=>by rw [e] at h0;exact absurd h0 (by decide)
    have hne':¬(s=(⟨#[]⟩:ByteArray)):=hne
    have hone:s.extract 0 1=one c:=by
      apply ByteArray.ext
      apply Array.toList_inj.1
      show _=[c]
      rw [ByteArray.data_extract,Array.toList_extract,hl];rfl
    dsimp only
    by_cases h12:s.size≤12
    · have ht:=adD s h0 (by omega)
      have hi12:(s.size:Int)≤12:=by omega
      have hc:=zJ c
      rw [←hone] at hc
      cases ha:s.data.toList.all alB with
      |true=>
        rw [yF s ha] at ht
        rw [hl] at ha
        rw [ha]
        refine aJ aG Tryz.func79 (by kernel_rfl) rfl rfl rfl rfl (fun st=> ?_)
        (try (apply wO pk;exact rfl));(repeat' (first|(show All _;constructor)|(show Imp _ _;constructor)|(show ImpX _ _ _ _;constructor)|(apply wC pk;(iterate 2 exact rfl))|(apply wE pk;(iterate 2 exact rfl))|(apply wX pk;exact rfl)|(apply wN pk;exact rfl)|(apply wD pk [] [];kernel_rfl;exact rfl;exact rfl)|(apply aB;simp only [cond_true,cond_false])|(refine aC rfl (fun h=> ?_) (fun h=> ?_)<;>(try simp at h)<;>try (exfalso;omega))|(refine aF ?_;refine ⟨_,_,_,rfl,Wk.refl _,StSub.refl _, ?_,rfl⟩;try first|rfl|((simp [hne,hne',h12,hi12,e0];done);done))|(apply aL;(iterate 3 exact rfl);(intro _;(first|apply ht|apply hc)<;>first|assumption|omega);rotate_left;(iterate 2 exact rfl))|(apply slT pk 0 1;(iterate 3 exact rfl);rotate_left;exact rfl;(intro _;exact bM);(intro _;exact bA rfl rfl);(intro _;omega);(intro _;omega);exact rfl)|(intros;(try simp only [List.length_map]);omega)))
      |false=>
        have htn:=agF s ha
        rw [hl] at ha
        rw [ha]
        have htn':¬((⟨(Lib.trimS s.data.toList abc9.data.toList).toArray⟩:ByteArray)=(⟨#[]⟩:ByteArray)):=htn
        generalize (⟨(Lib.trimS s.data.toList abc9.data.toList).toArray⟩:ByteArray)=T at*
        refine aJ aG Tryz.func79 (by kernel_rfl) rfl rfl rfl rfl (fun st=> ?_)
        (try (apply wO pk;exact rfl));(repeat' (first|(show All _;constructor)|(show Imp _ _;constructor)|(show ImpX _ _ _ _;constructor)|(apply wC pk;(iterate 2 exact rfl))|(apply wE pk;(iterate 2 exact rfl))|(apply wX pk;exact rfl)|(apply wN pk;exact rfl)|(apply wD pk [] [];kernel_rfl;exact rfl;exact rfl)|(apply aB;simp only [cond_true,cond_false])|(refine aC rfl (fun h=> ?_) (fun h=> ?_)<;>(try simp at h)<;>try (exfalso;omega))|(refine aF ?_;refine ⟨_,_,_,rfl,Wk.refl _,StSub.refl _, ?_,rfl⟩;try first|rfl|((simp [hne,hne',h12,hi12,htn,htn'];done);done))|(apply aL;(iterate 3 exact rfl);(intro _;(first|apply ht|apply hc)<;>first|assumption|omega);rotate_left;(iterate 2 exact rfl))|(apply slT pk 0 1;(iterate 3 exact rfl);rotate_left;exact rfl;(intro _;exact bM);(intro _;exact bA rfl rfl);(intro _;omega);(intro _;omega);exact rfl)|(intros;(try simp only [List.length_map]);omega)))
    · have hi12:¬(s.size:Int)≤12:=by omega
      have e:decide (s.size≤12)=false:=decide_eq_false h12
      have e2:decide ((s.size:Int)≤12)=false:=decide_eq_false (by omega)
      have e3:decide (s=e0)=false:=decide_eq_false hne
      have hT:∀p,(gw true (!decide (s=e0)) true&&p)=true→True:=fun _ _=>trivial
      rw [e,Bool.false_and,Bool.and_false]
      refine aJ aG Tryz.func79 (by kernel_rfl) rfl rfl rfl rfl (fun st=> ?_)
      (try (apply wO pk;exact rfl));(repeat' (first|(show All _;constructor)|(show Imp _ _;constructor)|(show ImpX _ _ _ _;constructor)|(apply wC pk;(iterate 2 exact rfl))|(apply wE pk;(iterate 2 exact rfl))|(apply wX pk;exact rfl)|(apply wN pk;exact rfl)|(apply wD pk [] [];kernel_rfl;exact rfl;exact rfl)|(apply aB;simp only [cond_true,cond_false])|(refine aC rfl (fun h=> ?_) (fun h=> ?_)<;>(try simp at h)<;>try (exfalso;omega))|(refine aF ?_;refine ⟨_,_,_,rfl,Wk.refl _,StSub.refl _, ?_,rfl⟩;try first|rfl|((simp [hne,hne',h12,hi12,e0];done);done))|(apply aL;(iterate 3 exact rfl);(intro _;(first|apply (show PF Tryz.prog 114 [_,_] (PV.val (Value.string (e0))) from by rename_i hh;simp [gw,hne] at hh;omega)|apply (show PF Tryz.prog 115 [_,_] (PV.val (Value.bool (false))) from by rename_i hh;simp [gw,hne] at hh;omega))<;>first|assumption|omega);rotate_left;(iterate 2 exact rfl))|(apply slT pk 0 1;(iterate 3 exact rfl);rotate_left;exact rfl;(intro _;exact bM);(intro _;exact bA rfl rfl);(intro _;omega);(intro hh;omega);exact rfl)|(intros;(try simp only [List.length_map]);omega)))
end Go.Proofs.YtkaliolnijkadaaGreatDoor
namespace Go.Proofs.YtkaliolnijkadaaGreatDoor
open Go Go.Abs
attribute [local irreducible] Ev PWp
set_option maxRecDepth 10000
set_option maxHeartbeats 4000000
theorem abA (s:ByteArray) {l:List UInt8} (hl:s.data.toList=l) {i:Nat} (h:i<l.length):s[i]?=some l[i]:=by
  subst hl
  have him:i<s.size:=by rw [kD];exact h
  rw [getElem?_pos s i him]
  rfl
theorem pX (s:ByteArray):PF Tryz.prog 96 [(PV.val (Value.string (s)))] (PV.val (Value.bool (iO s))):=by
  unfold iO
  cases hl:s.data.toList with
  |nil=>
    have hz:=kD s
    rw [hl] at hz
    have hz':(s.size:Int)<1:=by rw [hz];decide
    refine aJ aG Tryz.func96 (by kernel_rfl) rfl rfl rfl rfl (fun st=> ?_)
    (try (apply wO pk;exact rfl));(repeat' (first|(show All _;constructor)|(show Imp _ _;constructor)|(show ImpX _ _ _ _;constructor)|(apply wC pk;(iterate 2 exact rfl))|(apply wE pk;(iterate 2 exact rfl))|(apply wX pk;exact rfl)|(apply wN pk;exact rfl)|(apply wD pk [] [];kernel_rfl;exact rfl;exact rfl)|(apply aB;simp only [cond_true,cond_false])|(refine aC rfl (fun h=> ?_) (fun h=> ?_)<;>(try simp at h)<;>try (exfalso;omega))|(refine aF ?_;refine ⟨_,_,_,rfl,Wk.refl _,StSub.refl _, ?_,rfl⟩;try first|rfl|((exfalso;simp at*;omega);done))|(apply sxG pk 0 0;(iterate 4 exact rfl);rotate_left;exact rfl;(intro _;exact rfl);(intro hh;rw [decide_eq_true hz'] at hh;exact absurd (show false=true from hh) (by simp));exact rfl)|(intros;(try simp only [List.length_map]);omega)))
  |cons c l=>
    have hz:=kD s
    rw [hl] at hz
    have h0:0<s.size:=by rw [hz];simp
    have hc0:s[0]?=some c:=abA s hl (i:=0) (by simp)
    have hcl:=c.toNat_lt
    dsimp only
    by_cases h12:¬(s.size≤12∧qS c=true)
    · have e:(qS c&&(decide (s.size≤12)&&(c::l).all alB))=false:=by
        cases h1:qS c
        · rfl
        · rw [h1] at h12;simp at h12;simp;intro h;omega
      rw [e]
      unfold qS at h12
      simp at h12
      refine aJ aG Tryz.func96 (by kernel_rfl) rfl rfl rfl rfl (fun st=> ?_)
      (try (apply wO pk;exact rfl));(repeat' (first|((exfalso;simp at*;omega))|(show All _;constructor)|(show Imp _ _;constructor)|(show ImpX _ _ _ _;constructor)|(apply wC pk;(iterate 2 exact rfl))|(apply wE pk;(iterate 2 exact rfl))|(apply wX pk;exact rfl)|(apply wN pk;exact rfl)|(apply wD pk [] [];kernel_rfl;exact rfl;exact rfl)|(apply aB;simp only [cond_true,cond_false])|(refine aC rfl (fun h=> ?_) (fun h=> ?_)<;>(try simp at h)<;>try (exfalso;omega))|(refine aF ?_;refine ⟨_,_,_,rfl,Wk.refl _,StSub.refl _, ?_,rfl⟩;try first|rfl|((exfalso;simp at*;omega);done))|(apply sxG pk 0 c;(iterate 4 exact rfl);rotate_left;exact rfl;(intro _;exact rfl);(intro _;exact hc0);exact rfl)|(intros;(try simp only [List.length_map]);omega)))
    replace h12:=Decidable.of_not_not h12
    obtain ⟨h1,h2⟩:=h12
    rw [h2,decide_eq_true h1,Bool.true_and,Bool.true_and]
    simp only [qS,Bool.and_eq_true,decide_eq_true_eq] at h2
    generalize hL:c::l=L at*
    refine aJ aG Tryz.func96 (by kernel_rfl) rfl rfl rfl rfl (fun st=> ?_)
    (try (apply wO pk;exact rfl));(repeat' (first|(show All _;constructor)|(show Imp _ _;constructor)|(show ImpX _ _ _ _;constructor)|(apply wC pk;(iterate 2 exact rfl))|(apply wE pk;(iterate 2 exact rfl))|(apply wX pk;exact rfl)|(apply wN pk;exact rfl)|(apply wD pk [] [];kernel_rfl;exact rfl;exact rfl)|(apply aB;simp only [cond_true,cond_false])|(refine aC rfl (fun h=> ?_) (fun h=> ?_)<;>(try simp at h)<;>try (exfalso;omega))|(refine aF ?_;refine ⟨_,_,_,rfl,Wk.refl _,StSub.refl _, ?_,rfl⟩;try first|rfl|((exfalso;simp at*;omega);done))|(apply sxG pk 0 c;(iterate 4 exact rfl);rotate_left;exact rfl;(intro _;exact rfl);(intro _;exact hc0);exact rfl)|(intros;(try simp only [List.length_map]);omega)))
    refine aM (X:={x:Nat//x≤L.length∧∀j (h:j<x) (h1:j<L.length),alB L[j]=true}) (fun i=>(((St.nil 62 st).pv 0 ((PV.val (Value.string (s))))).pv 3 ((PV.val (Value.int .i64 ((i.1:Nat))))))) (fun i=>L.length-i.1) ⟨0,by omega,fun _ h=>absurd h (Nat.not_lt_zero _)⟩ ?_ (fun i=> ?_)
    · ((repeat (first|refine Sub.pv ?_ rfl|refine Sub.var ?_ rfl rfl));exact Sub.nil _ _ _ (StSub.refl _) rfl)
    obtain ⟨i,hi,hI⟩:=i
    dsimp only
    by_cases hend:L.length≤i
    · have e:L.all alB=true:=List.all_eq_true.2 fun c hc=>by
        obtain ⟨j,hj,rfl⟩:=List.getElem_of_mem hc
        exact hI j (by omega) hj
      rw [e]
      (try (apply wO pk;exact rfl));(repeat' (first|(show All _;constructor)|(show Imp _ _;constructor)|(show ImpX _ _ _ _;constructor)|(apply wC pk;(iterate 2 exact rfl))|(apply wE pk;(iterate 2 exact rfl))|(apply wX pk;exact rfl)|(apply wN pk;exact rfl)|(apply wD pk [] [];kernel_rfl;exact rfl;exact rfl)|(apply aB;simp only [cond_true,cond_false])|(refine aC rfl (fun h=> ?_) (fun h=> ?_)<;>(try simp at h)<;>try (exfalso;omega))|(refine aF ?_;refine ⟨_,_,_,rfl,Wk.refl _,StSub.refl _, ?_,rfl⟩;try first|rfl|((exfalso;omega);done))|(intros;(try simp only [List.length_map]);omega)))
    have hil:i<L.length:=by omega
    have hbi:=abA s hl hil
    have hF:alB L[i]=false→L.all alB=false:=fun h=>by
      rw [←Bool.not_eq_true,List.all_eq_true]
      intro q;rw [q _ (List.getElem_mem hil)] at h;cases h
    have hS:alB L[i]=true→∀j (h:j<i+1) (h1:j<L.length),alB L[j]=true:=fun h j hj h1=>by
      rcases Nat.lt_succ_iff_lt_or_eq.1 hj with q|q
      · exact hI j q h1
      · subst q;exact h
    generalize L[i]=b at*
    have hbl:=b.toNat_lt
    have hE:alB b=((decide (97≤b.toNat)&&decide (b.toNat≤122))||(decide (48≤b.toNat)&&decide (b.toNat≤57))||decide (b.toNat=95)):=rfl
    (try (apply wO pk;exact rfl));(repeat' (first|(show All _;constructor)|(show Imp _ _;constructor)|(show ImpX _ _ _ _;constructor)|(apply wC pk;(iterate 2 exact rfl))|(apply wE pk;(iterate 2 exact rfl))|(apply wX pk;exact rfl)|(apply wN pk;exact rfl)|(apply wD pk [] [];kernel_rfl;exact rfl;exact rfl)|(apply aB;simp only [cond_true,cond_false])|(refine aC rfl (fun h=> ?_) (fun h=> ?_)<;>(try simp at h)<;>try (exfalso;omega))|(refine aF ?_;refine ⟨_,_,_,rfl,Wk.refl _,StSub.refl _, ?_,rfl⟩;try first|rfl|((rw [hF (by rw [hE];simp at*;omega)]);done))|(apply sxG pk i b;(iterate 4 exact rfl);rotate_left;exact rfl;(intro _;exact rfl);(intro _;exact hbi);exact rfl)|(refine ⟨⟨i+1,by omega,hS (by rw [hE];simp at*;omega)⟩, ?_,by simp only;omega⟩;((repeat (first|refine Sub.pv ?_ rfl|refine Sub.var ?_ rfl rfl));exact Sub.nil _ _ _ (StSub.refl _) rfl))|(intros;(try simp only [List.length_map]);omega)))
end Go.Proofs.YtkaliolnijkadaaGreatDoor
