import Derived.Test.YtddmbnddgiebgaaGreatDoorCaRDel
set_option linter.unusedSimpArgs false
set_option linter.unusedVariables false
namespace Go.Proofs.YtddmbnddgiebgaaGreatDoor
open Go Go.Abs
attribute [local irreducible] Ev PWp
set_option maxRecDepth 10000
set_option maxHeartbeats 4000000
def dQ (rb:Bool) (s:Sc) (b:Bs) (z:R2) (who:Dt) (M:List R2):Bs×Int:=if rb=true then (if eQ b z=true then (if oA s b (inR M)=true then (eS s b (inR M) who,0) else ([],10)) else ([],4)) else ([],1)
def abR (o:Bs×Int):PV:= .tup [.agg (bsC o.1),(PV.val (Value.int .i64 (o.2)))]
theorem acI (e:Int):Wk (.tup [.agg [.val (.slice none 0 0)],(PV.val (Value.int .i64 (e)))]) (abR ([],e)):=Wk.tup (.cons (.agg (.cons Wk.nil .nil)) (.cons (Wk.refl _) .nil))
theorem aoV {f:FuncId} {args:List PV} {s:Sc} {b:Bs} {z:R2} {who:Dt} {M:List R2} {st:aI} (hz:eQ b z=true) (h:PC Tryz.prog f args st (atF s b who M st)):PC Tryz.prog f args st fun r S=>r=abR (dQ true s b z who M)∧S=st:=
  iP (sz:=1) h fun p st' h=>by
    unfold dQ
    rw [if_pos rfl,if_pos hz]
    rcases h with ⟨h1,rfl,h2⟩|⟨h1,id,rfl,h2,h3⟩
    · rw [if_neg (by rw [h1];simp)]
      exact .inr ⟨_,_,acI 10,h2,rfl,rfl⟩
    · rw [if_pos h1]
      exact .inl ⟨id,55,(eS s b (inR M) who).map Da.cells,_,st,h2,wS, .tup (.cons (.agg (.cons (iI (by simp [eS])) .nil)) (.cons .refl .nil)),h3,rfl,rfl⟩
theorem asG {b:Bs} (h:∀k (h:k<b.length),b[k].lines.length≤100000):∀d∈b,d.lines.length<100000000000:=fun d hd=>by obtain ⟨k,hk,rfl⟩:=List.getElem_of_mem hd;have:=h k hk;omega
theorem oF {s:Sc} {b:Bs} {rb:Bool} (hr:PF Tryz.prog 14 [.agg (scC s), .agg (bsC b)] (PV.val (Value.bool (rb)))) (hF:rb=true→FolD s b) (z:R2) (who:Dt):PF Tryz.prog 11 [.agg (scC s), .agg (bsC b),(PV.val (Value.int .i64 (z.1))),(PV.val (Value.int .i64 (z.2))), .agg who.cells] (abR (dQ rb s b z who (bS s b z))):=by
  cases rb with
  |false=>
    refine aL aH Tryz.func11 (by kernel_rfl) rfl rfl rfl rfl (fun st=> ?_)
    (try (apply wO pk;exact rfl));(repeat' (first|((refine aF ?_;exact ⟨_,_,_,rfl,acI 1,StSub.refl _,rfl,rfl⟩))|(show All _;constructor)|(show Imp _ _;constructor)|(show ImpX _ _ _ _;constructor)|(apply wC pk;(iterate 2 exact rfl))|(apply wE pk;(iterate 2 exact rfl))|(apply wX pk;exact rfl)|(apply wN pk;exact rfl)|(apply wD pk [] [];kernel_rfl;exact rfl;exact rfl)|(apply aC;simp only [zqt,zqf])|(refine aD rfl (fun h=> ?_) (fun h=> ?_)<;>(try simp at h)<;>try (exfalso;omega))|(refine aF ?_;refine ⟨_,_,_,rfl,Wk.refl _,StSub.refl _, ?_,rfl⟩;try rfl)|(apply aK;(iterate 3 exact rfl);(intro _;apply hr<;>first|assumption|omega);rotate_left;(iterate 2 exact rfl))|(intros;(try simp only [zql]);omega)))
  |true=>
    have hFo:=hF rfl
    by_cases hz:eQ b z=true
    · exact fun st=>aoV hz (arO hFo hr z who hz st)
    · have hk:=rU hFo.toFol (asG hFo.ln) z
      unfold amW at hk
      have hM:bS s b z=[]:=by unfold bS;rw [if_neg hz]
      unfold dQ
      rw [if_pos rfl,if_neg hz]
      rw [hM] at hk
      refine aL aH Tryz.func11 (by kernel_rfl) rfl rfl rfl rfl (fun st=> ?_)
      (try (apply wO pk;exact rfl));(repeat' (first|((apply lnF pk;(iterate 3 exact rfl);rotate_left;exact rfl;exact rfl))|((refine aF ?_;exact ⟨_,_,_,rfl,acI 4,StSub.refl _,rfl,rfl⟩))|(show All _;constructor)|(show Imp _ _;constructor)|(show ImpX _ _ _ _;constructor)|(apply wC pk;(iterate 2 exact rfl))|(apply wE pk;(iterate 2 exact rfl))|(apply wX pk;exact rfl)|(apply wN pk;exact rfl)|(apply wD pk [] [];kernel_rfl;exact rfl;exact rfl)|(apply aC;simp only [zqt,zqf])|(refine aD rfl (fun h=> ?_) (fun h=> ?_)<;>(try simp at h)<;>try (exfalso;omega))|(refine aF ?_;refine ⟨_,_,_,rfl,Wk.refl _,StSub.refl _, ?_,rfl⟩;try rfl)|(apply aK;(iterate 3 exact rfl);(intro _;(first|apply hr|apply hk)<;>first|assumption|omega);rotate_left;(iterate 2 exact rfl))|(intros;(try simp only [zql]);omega)|((exfalso;simp [aV,mE] at*;done))))
theorem rF {s:Sc} {b:Bs} (hb:b.length=s.length) (z:R2):inR (jN s b z)=inR (bS s b z):=by
  funext y
  unfold inR jN bS
  by_cases hz:eQ b z=true
  · rw [if_pos hz,if_pos hz,decide_eq_decide]
    exact tI hb (gC.1 hz) y
  · rw [if_neg hz,if_neg hz]
end Go.Proofs.YtddmbnddgiebgaaGreatDoor
namespace Go.Proofs.YtddmbnddgiebgaaGreatDoor
open Go Go.Abs
structure FrOK (s:Sc) (t:Tb) (f:Fr):Prop where
  c1:1≤f.col
  c2:f.col<t.cols.length
  t1:0≤f.table
  t2:f.table<s.length
  act:f.act=0∨f.act=1∨f.act=2
  kind:t.cols[f.col.toNat]!.kind=0
  typ:t.cols[f.col.toNat]!.type_=1
theorem sR {h b p a n z:Bool} (e:abC h b p a n z=0):h=true∧b=false∧p=false∧a=false∧n=true∧z=false:=by
  unfold abC at e
  cases h<;>cases b<;>cases p<;>cases a<;>cases n<;>cases z<;>simp at e⊢
theorem afG {s:Sc} (h:dP s=0) {k:Nat} (hk:k<s.length) {i:Nat} (hi:i<s[k].foreign.length):acJ s.length s[k] i=0:=by
  have:=nQ h hk (lk5 s.length s[k]!) (by simp [lks])
  rw [getElem!_pos s k hk] at this
  exact sB this hi
theorem alZ {s:Sc} (h:dP s=0) {k:Nat} (hk:k<s.length) {f:Fr} (hf:f∈s[k].foreign):FrOK s s[k] f:=by
  obtain ⟨i,hi,rfl⟩:=List.getElem_of_mem hf
  have e:=sR (afG h hk hi)
  rw [getElem!_pos s[k].foreign i hi] at e
  obtain ⟨e1,e2,_,e4,e5,_⟩:=e
  unfold mR at e1
  unfold mQ jA at e5
  simp only [Bool.and_eq_true,decide_eq_true_eq,Bool.or_eq_false_iff,decide_eq_false_iff_not] at e1 e2 e4 e5
  exact ⟨by omega,e1.2,by omega,by omega,by omega,e5.1,e5.2⟩
theorem aeJ {s:Sc} (h:dP s=0) {k:Nat} (hk:k<s.length):∀(j i:Nat) (hj:j<s[k].foreign.length) (hij:i<j),s[k].foreign[i].col<s[k].foreign[j].col:=by
  intro j
  induction j with
  |zero=>intro i _ h;omega
  |succ j ih=>
    intro i hj hij
    have e:=sR (afG h hk hj)
    have e3:=e.2.2.1
    rw [show j+1-1=j from rfl,getElem!_pos s[k].foreign (j+1) hj,getElem!_pos s[k].foreign j (by omega)] at e3
    simp only [Nat.zero_lt_succ,decide_true,Bool.true_and,decide_eq_false_iff_not] at e3
    rcases Nat.lt_succ_iff_lt_or_eq.1 hij with q|q
    · have:=ih i (by omega) q;omega
    · subst q;omega
theorem alS {s:Sc} (h:dP s=0) {k:Nat} (hk:k<s.length) (i j:Nat) (hi:i<s[k].foreign.length) (hj:j<s[k].foreign.length) (e:s[k].foreign[i].col=s[k].foreign[j].col):i=j:=by
  rcases Nat.lt_trichotomy i j with q|q|q
  · have:=aeJ h hk j i hj q;omega
  · exact q
  · have:=aeJ h hk i j hi q;omega
theorem aiW {s:Sc} (h:dP s=0):s.length≤16:=by
  unfold dP at h
  split at h
  · cases h
  · omega
theorem acY {s:Sc} (h:dP s=0) {k:Nat} (hk:k<s.length):s[k].foreign.length≤16:=by
  have:=nQ h hk (lk1 s[k]!) (by simp [lks])
  rw [getElem!_pos s k hk] at this
  unfold lk1 at this
  split at this
  · cases this
  · omega
variable {tx:Cl→Int}
structure LineOK (tx:Cl→Int) (t:Tb) (l:Ln):Prop where
  k1:0≤l.key
  k2:l.key<1073741824
  len:l.cells_.length=t.cols.length
  kind:∀j (h:j<l.cells_.length),l.cells_[j].kind=t.cols[j]!.kind
  cell:∀c∈l.cells_,qA tx c=true
  zero:l.cells_[0]!.val=⟨1,l.key,e0⟩
  dots:qD l.by_=true
theorem wR {t:Tb} {l:Ln}:iD tx t l=true↔LineOK tx t l:=by
  unfold iD nB
  simp only [Bool.and_eq_true,decide_eq_true_eq,lK]
  constructor
  · rintro ⟨⟨⟨h1,h2,h3⟩,h4⟩,h5,h6⟩
    have hc:∀j (h:j<l.cells_.length),l.cells_[j].kind=t.cols[j]!.kind∧qA tx l.cells_[j]=true:=fun j hj=>by
      have:=h5 j hj
      unfold qU at this
      rw [getElem!_pos l.cells_ j hj,Bool.and_eq_true,decide_eq_true_eq] at this
      exact this
    exact ⟨h1,h2,h3,fun j hj=>(hc j hj).1,fun c hc'=>by obtain ⟨j,hj,rfl⟩:=List.getElem_of_mem hc';exact (hc j hj).2,h4,h6⟩
  · rintro ⟨h1,h2,h3,h4,h5,h6,h7⟩
    refine ⟨⟨⟨h1,h2,h3⟩,h6⟩,fun j hj=> ?_,h7⟩
    unfold qU
    rw [getElem!_pos l.cells_ j hj,h4 j hj,decide_eq_true rfl,h5 _ (List.getElem_mem hj)];rfl
theorem aiH {s:Sc} {b:Bs} (h:bK tx s b=true) {k:Nat} (hk:k<b.length) {l:Ln} (hl:l∈b[k].lines):LineOK tx s[k]! l:=by
  have:=(cO.1 h).2 k hk
  rw [getElem!_pos b k hk] at this
  exact wR.1 ((mA.1 this).2.1 l hl)
theorem mB {s:Sc} {b:Bs} (h:bK tx s b=true):∀k<b.length,KSort b[k]!.lines:=fun k hk=>(mA.1 ((cO.1 h).2 k hk)).2.2
theorem amC {s:Sc} {b:Bs} (h:bK tx s b=true) {k:Nat} (hk:k<s.length) {f:Fr} (hf:f∈s[k].foreign) {l:Ln} (hl:l∈b[k]!.lines):iJ l f.col:=fun j hj e=>by
  obtain ⟨⟨h1,h2⟩,_⟩:=cO.1 h
  have hkb:k<b.length:=by omega
  rw [getElem!_pos b k hkb] at hl
  have hL:=aiH h hkb hl
  have hfo:=alZ h1 hk hf
  rw [hL.kind j hj,getElem!_pos s k hk]
  have:=hfo.kind
  rwa [show f.col.toNat=j by omega] at this
theorem nP {s:Sc} {b:Bs} (h:bK tx s b=true) (hB:BsS 100 b):Fol s b:=by
  obtain ⟨⟨h1,h2⟩,_⟩:=cO.1 h
  exact ⟨h2,aiW h1,fun k hk=>acY h1 hk,fun k hk f hf l hl=>amC h hk hf hl,fun k hk=>by have:=(hB.2 _ (List.getElem_mem hk)).1;omega⟩
theorem rJ {s:Sc} {b:Bs} (h:bK tx s b=true) (hB:BsS 100 b):FolD s b:=
  ⟨nP h hB,fun k hk=>by have:=(hB.2 _ (List.getElem_mem hk)).1;omega,fun k hk l hl=>by have:=(hB.2 _ (List.getElem_mem hk)).2 l hl;exact ⟨by have:=this.2.1;omega,by have:=this.1;omega⟩,fun k hk i j hi hj e=>alS (cO.1 h).1.1 hk i j hi hj e⟩
theorem tP {b:Bs} (hB:BsS 100 b):(bR b).length<1000000000:=by
  have key:∀n,n≤b.length→((List.range n).flatMap (qE b)).length≤100*n:=by
    intro n
    induction n with
    |zero=>intro _;simp
    |succ n ih=>
      intro hn
      rw [List.range_succ,List.flatMap_append,List.length_append]
      have:=ih (by omega)
      have h2:(qE b n).length≤100:=by
        unfold qE
        rw [zql,getElem!_pos b n (by omega)]
        exact (hB.2 _ (List.getElem_mem (by omega))).1
      simp only [List.flatMap_cons,List.flatMap_nil,List.append_nil]
      omega
  have:=key b.length (Nat.le_refl _)
  have h1:=hB.1
  unfold bR;omega
theorem fX {s:Sc} {b:Bs} (hb:b.length=s.length) {z y:R2}:inR (bS s b z) y=true↔eQ b z=true∧Reach s b z y:=by
  unfold inR bS
  rw [decide_eq_true_eq]
  by_cases hz:eQ b z=true
  · rw [if_pos hz,afD hb (gC.1 hz)]
    exact ⟨fun h=>⟨hz,h⟩,fun h=>h.2⟩
  · rw [if_neg hz]
    exact ⟨fun h=>(by cases h),fun h=>absurd h.1 hz⟩
theorem akK {s:Sc} {b:Bs} (hb:b.length=s.length) {z:R2} {k:Nat} (hk:k<s.length) {l:Ln} (hl:l∈b[k]!.lines) {f:Fr} (hf:f∈s[k].foreign) (ha:f.act=1) (hh:bI (inR (bS s b z)) l f=true):inR (bS s b z) ((k:Int),l.key)=true:=by
  obtain ⟨key,h1,h2⟩:=gT.1 hh
  obtain ⟨q1,q2⟩:=(fX hb).1 h2
  exact (fX hb).2 ⟨q1, .step q2 ⟨k,by omega,f,by rw [getElem!_pos s k hk];exact hf,l,hl,rfl,ha,h1,rfl⟩⟩
theorem auB {s:Sc} {b:Bs} (h:bK tx s b=true) (z:R2):∀k (h:k<s.length),∀l∈b[k]!.lines,inR (bS s b z) ((k:Int),l.key)=false→∀f∈s[k].foreign,bI (inR (bS s b z)) l f=true→f.act=0∨f.act=2:=fun k hk l hl hn f hf hh=>by
  obtain ⟨⟨h1,h2⟩,_⟩:=cO.1 h
  rcases (alZ h1 hk hf).act with q|q|q
  · exact .inl q
  · rw [akK h2 hk hl hf q hh] at hn;cases hn
  · exact .inr q
end Go.Proofs.YtddmbnddgiebgaaGreatDoor
