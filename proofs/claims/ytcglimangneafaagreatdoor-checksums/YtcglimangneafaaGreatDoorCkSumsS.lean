import Derived.Test.YtcglimangneafaaGreatDoorCkKeysS
set_option linter.unusedSimpArgs false
set_option linter.unusedVariables false
namespace Go.Proofs.YtcglimangneafaaGreatDoor
open Go Go.Abs
attribute [local irreducible] Ev PWp
set_option maxRecDepth 10000
set_option maxHeartbeats 4000000
theorem axL {b:Bs} {k:Nat} (hk:k<b.length) (hS:KSort b[k].lines) (a:Ln):∃d∈iR b k a,a∈d.lines:=by
  have hok:okT b k=true:=by simp [okT];omega
  have e:(iR b k a).length=b.length:=by rw [jB,fC]
  refine ⟨(iR b k a)[k]'(by omega),List.getElem_mem _, ?_⟩
  have h1:aR (iR b k a) k=(iR b k a)[k].lines:=iL (by omega)
  rw [←h1,jB,nS hok,iL hk]
  exact (pW hS a a).2 (.inl rfl)
theorem axI {n:Nat} {b:Bs} (h:BsS n b) (hn:n≤1000) (k:Int) {a:Ln} (ha:a.cells_.length<4611686018427387904):BsB (iR b k a):=by
  rw [jB]
  refine ⟨by rw [fC];have:=h.1;omega,fun d hd=> ?_⟩
  unfold gZ at hd
  split at hd
  · rcases List.mem_or_eq_of_mem_set hd with q|q
    · obtain ⟨q1,q2⟩:=h.2 d q
      exact ⟨by omega,fun l hl=>by have:=(q2 l hl).2.1;omega⟩
    · subst q
      refine ⟨?_,fun l hl=> ?_⟩
      · have:=aaR (aR b k) a
        have:=(h.lines k).1
        show (pR (aR b k) a).length<_
        omega
      · rcases adA hl with rfl|q
        · exact ha
        · have:=((h.lines k).2 l q).2.1;omega
  · obtain ⟨q1,q2⟩:=h.2 d hd
    exact ⟨by omega,fun l hl=>by have:=(q2 l hl).2.1;omega⟩
theorem acT (s:Sc) (b:Bs) (table sum group:Int) (l:Ln) (hs:ScG s) (hb:BsB b) (hlc:l.cells_.length<4611686018427387904):PF Tryz.prog 7 [.agg (scC s), .agg (bsC b),(PV.val (Value.int .i64 (table))),(PV.val (Value.int .i64 (sum))),(PV.val (Value.int .i64 (group))), .agg l.cells] (PV.val (Value.bool (true))):=by
  have hA:=eR
  have hf:=iW s b hs.l hs.b hs.k hb
  by_cases g1:¬(fewC s b=true∧0≤table∧table<s.length∧0≤sum)
  · generalize fewC s b=F at*
    refine aK aG Tryz.func7 (by kernel_rfl) rfl rfl rfl rfl (fun st=> ?_)
    (try (apply wO pk;exact rfl));(repeat' (first|(show All _;constructor)|(show Imp _ _;constructor)|(show ImpX _ _ _ _;constructor)|(apply wC pk;(iterate 2 exact rfl))|(apply wE pk;(iterate 2 exact rfl))|(apply wX pk;exact rfl)|(apply wN pk;exact rfl)|(apply wD pk [] [];kernel_rfl;exact rfl;exact rfl)|(apply aB;simp only [zqt,zqf])|(refine aC rfl (fun h=> ?_) (fun h=> ?_)<;>(try simp at h)<;>try (exfalso;omega))|(refine aD ?_;refine ⟨_,_,_,rfl,Wk.refl _,StSub.refl _, ?_,rfl⟩;try rfl)|(apply aL;(iterate 3 exact rfl);(intro _;(first|apply hA|apply hf)<;>first|assumption|omega);rotate_left;(iterate 2 exact rfl))|(intros;(try simp only [zql]);omega)|((exfalso;simp [gw] at*;grind))))
  obtain ⟨g1,t1,t2,s1⟩:=Decidable.of_not_not g1
  rw [g1] at hf
  have hB:=CkB.of g1 hs.b hs.k
  have hsl:=hB.len
  obtain ⟨k,rfl⟩:∃k:Nat,table=(k:Int):=⟨table.toNat,by omega⟩
  have hk:k<s.length:=by omega
  have hml:(s.map Tb.cells).length=s.length:=zql _
  have hsm:(s[k].sums.map Su.cells).length=s[k].sums.length:=zql _
  have hlm:(l.cells_.map Cl.cells).length=l.cells_.length:=zql _
  by_cases g2:¬(sum<s[k].sums.length∧l.cells_.length≤20)
  · refine aK aG Tryz.func7 (by kernel_rfl) rfl rfl rfl rfl (fun st=> ?_)
    (try (apply wO pk;exact rfl));(repeat' (first|(show All _;constructor)|(show Imp _ _;constructor)|(show ImpX _ _ _ _;constructor)|(apply wC pk;(iterate 2 exact rfl))|(apply wE pk;(iterate 2 exact rfl))|(apply wX pk;exact rfl)|(apply wN pk;exact rfl)|(apply wD pk [] [];kernel_rfl;exact rfl;exact rfl)|(apply aB;simp only [zqt,zqf])|(refine aC rfl (fun h=> ?_) (fun h=> ?_)<;>(try simp at h)<;>try (exfalso;omega))|(refine aD ?_;refine ⟨_,_,_,rfl,Wk.refl _,StSub.refl _, ?_,rfl⟩;try rfl)|(apply aL;(iterate 3 exact rfl);(intro _;(first|apply hA|apply hf)<;>first|assumption|omega);rotate_left;(iterate 2 exact rfl))|(apply bC pk;(iterate 6 exact rfl);rotate_left;exact rfl;(intro hw;exact rfl);(intro hw;apply aM<;>omega);(intro _;exact rfl);exact rfl)|(intros;(try simp only [zql]);omega)|((exfalso;simp [gw] at*;grind))))
  obtain ⟨s2,l20⟩:=Decidable.of_not_not g2
  obtain ⟨y,rfl⟩:∃y:Nat,sum=(y:Int):=⟨sum.toNat,by omega⟩
  have hy:y<s[k].sums.length:=by omega
  have hto:=pG hB (k:Int) (y:Int) group
  have hw:=gQ hB
  obtain ⟨b1,b2⟩:=hB.bs.l (by omega)
  have hpu:=amZ b (k:Int) l b1 b2
  have hge:=rT hB.bs hB.hn (k:Int) l.key
  have hri:=nH hB.bs hB.hn hB.sb hB.len
  have hfm:=iW s (iR b k l) hs.l hs.b hs.k (axI hB.bs hB.hn k hlc)
  have hrc:=hB.right
  have htot:mayC s b=true→totC s b k y group=eP s[k].sums[y] group (bJ bB b k):=fun h=>by
    unfold totC
    rw [dif_pos ⟨h,⟨by omega,by omega⟩,by omega,by rw [Int.toNat_natCast,getElem!_pos s k hk];omega⟩]
    rw [Int.toNat_natCast,Int.toNat_natCast,getElem!_pos s k hk,getElem!_pos s[k].sums y hy]
  have hbnd:whyC s b=0→0≤totC s b k y group∧totC s b k y group≤s[k].sums[y].max:=fun h=>by
    obtain ⟨q1,q2,q3⟩:=rJ h
    rw [htot (by unfold mayC;rw [q2,decide_eq_true q1];rfl)]
    have:=mU.1 q3 k hk
    rw [getElem!_pos s k hk] at this
    exact this.tot (List.getElem_mem hy) (anU (iS q1) hk (List.getElem_mem hy)).m0 group
  by_cases g3:¬((dQ (aR b k) l.key).isSome=false∧cY T.rightP s b=true∧fewC s (iR b k l)=true)
  · generalize whyC s b=W at*
    generalize totC s b k y group=N at*
    generalize (dQ (aR b k) l.key).isSome=I at*
    generalize cY T.rightP s b=R at*
    generalize fewC s (iR b k l)=M at*
    generalize rightC s=C at*
    refine aK aG Tryz.func7 (by kernel_rfl) rfl rfl rfl rfl (fun st=> ?_)
    (try (apply wO pk;exact rfl));(repeat' (first|(show All _;constructor)|(show Imp _ _;constructor)|(show ImpX _ _ _ _;constructor)|(apply wC pk;(iterate 2 exact rfl))|(apply wE pk;(iterate 2 exact rfl))|(apply wX pk;exact rfl)|(apply wN pk;exact rfl)|(apply wD pk [] [];kernel_rfl;exact rfl;exact rfl)|(apply aB;simp only [zqt,zqf])|(refine aC rfl (fun h=> ?_) (fun h=> ?_)<;>(try simp at h)<;>try (exfalso;omega))|(refine aD ?_;refine ⟨_,_,_,rfl,Wk.refl _,StSub.refl _, ?_,rfl⟩;try rfl)|(apply aL;(iterate 3 exact rfl);(intro _;(first|apply hA|apply hf|apply hto|apply hw|apply hpu|apply hge|apply hri|apply hfm|apply hrc|apply (show PF Tryz.prog 24 [_,_] (PV.val (Value.bool (false))) from by rename_i hh;simp [gw] at hh;grind))<;>first|assumption|omega);rotate_left;(iterate 2 exact rfl))|(apply bC pk;(iterate 6 exact rfl);rotate_left;exact rfl;(intro hw;exact rfl);(intro hw;apply aM<;>omega);(intro _;exact rfl);exact rfl)|(intros;(try simp only [zql]);omega)|((exfalso;simp [gw] at*;grind))))
  obtain ⟨g4,g5,g6⟩:=Decidable.of_not_not g3
  rw [g4] at hge
  rw [g5] at hri
  rw [g6] at hfm
  have hBm:=CkB.of g6 hs.b hs.k
  have hrm:=nH hBm.bs hBm.hn hBm.sb hBm.len
  have htm:=pG hBm (k:Int) (y:Int) group
  have hbl:b.length=s.length:=(cA.1 g5).1.2
  have hrs:cC s=0:=(cA.1 g5).1.1
  by_cases g7:¬(cY T.rightP s (iR b k l)=true∧rightC s=0)
  · generalize whyC s b=W at*
    generalize totC s b k y group=N at*
    generalize cY T.rightP s (iR b k l)=R at*
    generalize rightC s=C at*
    refine aK aG Tryz.func7 (by kernel_rfl) rfl rfl rfl rfl (fun st=> ?_)
    (try (apply wO pk;exact rfl));(repeat' (first|(show All _;constructor)|(show Imp _ _;constructor)|(show ImpX _ _ _ _;constructor)|(apply wC pk;(iterate 2 exact rfl))|(apply wE pk;(iterate 2 exact rfl))|(apply wX pk;exact rfl)|(apply wN pk;exact rfl)|(apply wD pk [] [];kernel_rfl;exact rfl;exact rfl)|(apply aB;simp only [zqt,zqf])|(refine aC rfl (fun h=> ?_) (fun h=> ?_)<;>(try simp at h)<;>try (exfalso;omega))|(refine aD ?_;refine ⟨_,_,_,rfl,Wk.refl _,StSub.refl _, ?_,rfl⟩;try rfl)|(apply aL;(iterate 3 exact rfl);(intro _;(first|apply hA|apply hf|apply hto|apply hw|apply hpu|apply hge|apply hri|apply hfm|apply hrc|apply hrm)<;>first|assumption|omega);rotate_left;(iterate 2 exact rfl))|(apply bC pk;(iterate 6 exact rfl);rotate_left;exact rfl;(intro hw;exact rfl);(intro hw;apply aM<;>omega);(intro _;exact rfl);exact rfl)|(intros;(try simp only [zql]);omega)|((exfalso;simp [gw] at*;grind))))
  obtain ⟨g8,g9⟩:=Decidable.of_not_not g7
  rw [g8] at hrm
  rw [g9] at hrc
  have hbk:k<b.length:=by omega
  have hok:okT b k=true:=by simp [okT];omega
  have hSk:KSort b[k].lines:=by have:=ajX g5 k hbk;rwa [getElem!_pos b k hbk] at this
  obtain ⟨d,hd,hld⟩:=axL hbk hSk l
  have hLS:=(hBm.bs.2 d hd).2 l hld
  have hrow:=adB bB l (by have:=hLS.2.1;omega) fun c hc=>aiL c (hLS.2.2 c hc)
  have hmay:mayC s b=true:=by unfold mayC;rw [g5,decide_eq_true g9];rfl
  have hmaym:mayC s (iR b k l)=true:=by unfold mayC;rw [g8,decide_eq_true g9];rfl
  have hrow2:fT bB l∈bJ bB (iR b k l) k:=by
    unfold bJ
    have e:(iR b k l).length=b.length:=by rw [jB,fC]
    rw [jB,nS hok,iL hbk]
    exact List.mem_map_of_mem ((pW hSk l l).2 (.inl rfl))
  have hrok:=rO afJ g8 hk hrow2
  have hso:=anU hrs hk (List.getElem_mem hy)
  have htotm:totC s (iR b k l) k y group=totC s b k y group+oM s[k].sums[y] group (fT bB l):=by
    have e:totC s (iR b k l) k y group=eP s[k].sums[y] group (bJ bB (iR b k l) k):=by
      unfold totC
      rw [dif_pos ⟨hmaym,⟨by omega,by omega⟩,by omega,by rw [Int.toNat_natCast,getElem!_pos s k hk];omega⟩]
      rw [Int.toNat_natCast,Int.toNat_natCast,getElem!_pos s k hk,getElem!_pos s[k].sums y hy]
    rw [e,htot hmay]
    exact atM hok (by rw [iL hbk];exact hSk) (by simpa using g4) _ _
  have hNB:=uO g5 hk (List.getElem_mem hy)
  have hN:=rI (m:=s[k].sums[y]) (g:=group) (rows:=bJ bB b k) fun r hr=>(hNB.num r hr).1
  have hNl:=hNB.len
  have hrowE:l.cells_.map bB=fT bB l:=rfl
  rw [hrowE] at hrow
  have hrl:=hrok.len
  have q1:=hso.c1
  have q2:=hso.c2
  have q3:=hso.b1
  have q4:=hso.b2
  have hnum:=ahC (hrok.num s[k].sums[y].col.toNat (by omega) hso.kc)
  rw [htotm] at htm
  rw [←htot hmay] at hN
  have hci:s[k].sums[y].col=((s[k].sums[y].col.toNat:Nat):Int):=by omega
  have hbi:s[k].sums[y].by_=((s[k].sums[y].by_.toNat:Nat):Int):=by omega
  have l1:s[k].sums[y].col.toNat<(fT bB l).length:=by omega
  have l2:s[k].sums[y].by_.toNat<(fT bB l).length:=by omega
  have hadd:oM s[k].sums[y] group (fT bB l)=if (fT bB l)[s[k].sums[y].by_.toNat].kind=1∧(fT bB l)[s[k].sums[y].by_.toNat].n=group∧(fT bB l)[s[k].sums[y].col.toNat].kind=1 then (fT bB l)[s[k].sums[y].col.toNat].n else 0:=by
    unfold oM
    rw [getElem!_pos (fT bB l) s[k].sums[y].col.toNat l1,getElem!_pos (fT bB l) s[k].sums[y].by_.toNat l2]
  rw [getElem!_pos (fT bB l) _ l1] at hnum
  rw [hadd] at htm
  have hcl16:=(zH hrs hk).1
  have hcm:(s[k].cols.map Co.cells).length=s[k].cols.length:=zql _
  have hrm2:((fT bB l).map Vl.cells).length=(fT bB l).length:=zql _
  clear hadd htotm hrow2 hrok hrowE hNB htot
  generalize whyC s b=W at*
  generalize totC s b k y group=N at*
  generalize fT bB l=r at*
  have hN1: -2199023255552000≤N:=by omega
  have hN2:N≤2199023255552000:=by omega
  clear hN
  by_cases hc:r[s[k].sums[y].by_.toNat].kind=1∧r[s[k].sums[y].by_.toNat].n=group∧r[s[k].sums[y].col.toNat].kind=1
  · rw [if_pos hc] at htm
    obtain ⟨c1,c2,c3⟩:=hc
    refine aK aG Tryz.func7 (by kernel_rfl) rfl rfl rfl rfl (fun st=> ?_)
    (try (apply wO pk;exact rfl));(repeat' (first|(show All _;constructor)|(show Imp _ _;constructor)|(show ImpX _ _ _ _;constructor)|(apply wC pk;(iterate 2 exact rfl))|(apply wE pk;(iterate 2 exact rfl))|(apply wX pk;exact rfl)|(apply wN pk;exact rfl)|(apply wD pk [] [];kernel_rfl;exact rfl;exact rfl)|(apply aB;simp only [zqt,zqf])|(refine aC rfl (fun h=> ?_) (fun h=> ?_)<;>(try simp at h)<;>try (exfalso;omega))|(refine aD ?_;refine ⟨_,_,_,rfl,Wk.refl _,StSub.refl _, ?_,rfl⟩;try first|rfl|((first|(simp;done)|(simp [*];done));done))|(apply aL;(iterate 3 exact rfl);(intro _;(first|apply hA|apply hf|apply hto|apply hw|apply hpu|apply hge|apply hri|apply hfm|apply hrc|apply hrm|apply hrow|apply htm)<;>first|assumption|omega);rotate_left;(iterate 2 exact rfl))|(apply bC pk;(iterate 6 exact rfl);rotate_left;exact rfl;(first|((intro hw;exact rfl);(intro hw;apply aM<;>omega);(intro _;exact rfl))|((intro hw;exact hci);(intro hw;apply aM<;>omega);(intro _;exact rfl))|((intro hw;exact hbi);(intro hw;apply aM<;>omega);(intro _;exact rfl)));exact rfl)|(intros;(try simp only [zql]);omega)|((exfalso;simp [gw] at*;grind))))
  · rw [if_neg hc,Int.add_zero] at htm
    refine aK aG Tryz.func7 (by kernel_rfl) rfl rfl rfl rfl (fun st=> ?_)
    (try (apply wO pk;exact rfl));(repeat' (first|(show All _;constructor)|(show Imp _ _;constructor)|(show ImpX _ _ _ _;constructor)|(apply wC pk;(iterate 2 exact rfl))|(apply wE pk;(iterate 2 exact rfl))|(apply wX pk;exact rfl)|(apply wN pk;exact rfl)|(apply wD pk [] [];kernel_rfl;exact rfl;exact rfl)|(apply aB;simp only [zqt,zqf])|(refine aC rfl (fun h=> ?_) (fun h=> ?_)<;>(try simp at h)<;>try (exfalso;omega))|(refine aD ?_;refine ⟨_,_,_,rfl,Wk.refl _,StSub.refl _, ?_,rfl⟩;try first|rfl|((first|(simp;done)|(simp [*];done));done))|(apply aL;(iterate 3 exact rfl);(intro _;(first|apply hA|apply hf|apply hto|apply hw|apply hpu|apply hge|apply hri|apply hfm|apply hrc|apply hrm|apply hrow|apply htm)<;>first|assumption|omega);rotate_left;(iterate 2 exact rfl))|(apply bC pk;(iterate 6 exact rfl);rotate_left;exact rfl;(first|((intro hw;exact rfl);(intro hw;apply aM<;>omega);(intro _;exact rfl))|((intro hw;exact hci);(intro hw;apply aM<;>omega);(intro _;exact rfl))|((intro hw;exact hbi);(intro hw;apply aM<;>omega);(intro _;exact rfl)));exact rfl)|(intros;(try simp only [zql]);omega)|((exfalso;simp [gw] at*;grind))))
end Go.Proofs.YtcglimangneafaaGreatDoor
