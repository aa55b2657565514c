import Derived.Test.YtddmbnddgiebgaaGreatDoorCaLawC
import Derived.Test.YtddmbnddgiebgaaGreatDoorBsWroteL
set_option linter.unusedSimpArgs false
set_option linter.unusedVariables false
namespace Go.Proofs.YtddmbnddgiebgaaGreatDoor
open Go Go.Abs
attribute [local irreducible] Ev PWp
set_option maxRecDepth 10000
set_option maxHeartbeats 4000000
theorem aaP {l:List Dt}:qD l=true↔(∀x∈l,eY x=true)∧afQ l:=by
  unfold qD
  rw [lK]
  constructor
  · intro h
    refine ⟨fun x hx=> ?_,aqX fun k hk=> ?_⟩
    · obtain ⟨k,hk,rfl⟩:=List.getElem_of_mem hx
      have:=h k hk
      unfold uL at this
      rw [getElem!_pos l k hk,Bool.and_eq_true] at this
      exact this.1
    · have:=h k hk
      unfold uL at this
      rw [Bool.and_eq_true] at this
      exact this.2
  · rintro ⟨h1,h2⟩ k hk
    unfold uL
    rw [getElem!_pos l k hk,h1 _ (List.getElem_mem hk),Bool.true_and]
    rcases Nat.eq_zero_or_pos k with rfl|h0
    · rfl
    · rw [getElem!_pos l (k-1) (by omega),List.pairwise_iff_getElem.1 h2 (k-1) k (by omega) hk (by omega)]
      simp
theorem adV {a:Ln} {d:Dt} (h:qD a.by_=true) (hd:eY d=true):qD (bP a d).by_=true:=by
  obtain ⟨h1,h2⟩:=aaP.1 h
  rw [alO]
  refine aaP.2 ⟨fun x hx=> ?_,agN h2 d⟩
  rcases (ajK _ _ _).1 hx with rfl|q
  · exact hd
  · exact h1 x q
theorem afV {tx:Cl→Int}:qA tx Cl.zero=true:=by
  unfold qA
  rw [if_pos (show Cl.zero.kind=0 from rfl)]
  decide
theorem anS {tx:Cl→Int} {s:Sc} {t:Tb} (hfr:∀f∈t.foreign,FrOK s t f) {G:R2→Bool} {who:Dt} {l:Ln} (h:LineOK tx t l) (hd:eY who=true):LineOK tx t (bH t G who l):=by
  unfold bH
  split
  · obtain ⟨k1,k2,ln,kd,ce,ze,ds⟩:=h
    have hat:∀j (hj:j<l.cells_.length),∃p:Prop,∃_:Decidable p,(cR (bI G l) t.foreign l.cells_)[j]'(by rw [bW];exact hj)=(if p then Cl.zero else l.cells_[j])∧(p→1≤j∧t.cols[j]!.kind=0):=fun j hj=>⟨_,_,fE hj,fun hp=>by
      obtain ⟨f,hf,hc,_⟩:=dX.1 (show fP t G l j=true from hp)
      have q:=hfr f hf
      have q1:=q.c1
      have q2:=q.kind
      refine ⟨by omega, ?_⟩
      rwa [show f.col.toNat=j by omega] at q2⟩
    refine ⟨k1,k2,by rw [←ln];exact bW ..,fun j hj=> ?_,fun c hc=> ?_, ?_,adV ds hd⟩
    · have hj:j<(cR (bI G l) t.foreign l.cells_).length:=hj
      rw [bW] at hj
      obtain ⟨p,_,e,hp⟩:=hat j hj
      show (cR (bI G l) t.foreign l.cells_)[j].kind=_
      rw [e]
      split
      · rename_i hpp;rw [(hp hpp).2];rfl
      · exact kd j hj
    · obtain ⟨j,hj,rfl⟩:=List.getElem_of_mem hc
      have hj:j<(cR (bI G l) t.foreign l.cells_).length:=hj
      rw [bW] at hj
      obtain ⟨p,_,e,hp⟩:=hat j hj
      show qA tx (cR (bI G l) t.foreign l.cells_)[j]=true
      rw [e]
      split
      · exact afV
      · exact ce _ (List.getElem_mem hj)
    · show (cR (bI G l) t.foreign l.cells_)[0]!.val=_
      rw [←ze]
      by_cases hj:0<l.cells_.length
      · obtain ⟨p,_,e,hp⟩:=hat 0 hj
        rw [getElem!_pos _ 0 (by rw [bW];exact hj),getElem!_pos l.cells_ 0 hj,e,if_neg fun q=>absurd (hp q).1 (by omega)]
      · have:l.cells_=[]:=List.eq_nil_of_length_eq_zero (by omega)
        rw [this];rfl
  · exact h
theorem vI {s:Sc} {b:Bs} {G:R2→Bool} {who:Dt} {k:Nat} (h:KSort b[k]!.lines):KSort (iT s b G who k):=by
  unfold KSort iT
  rw [List.map_map,show ((fun l:Ln=>l.key)∘bH s[k]! G who)=fun l=>l.key from funext fun l=>gB _ _ _ _]
  unfold KSort at h
  exact h.sublist (List.Sublist.map _ List.filter_sublist)
theorem amP {tx:Cl→Int} {s:Sc} {b:Bs} (h:bK tx s b=true) {G:R2→Bool} {who:Dt} (hd:eY who=true):bK tx s (eS s b G who)=true:=by
  obtain ⟨⟨h1,h2⟩,h3⟩:=cO.1 h
  refine cO.2 ⟨⟨h1,by rw [eC];exact h2⟩,fun k hk=> ?_⟩
  rw [eC] at hk
  rw [fU hk]
  have hd3:=h3 k hk
  rw [getElem!_pos b k hk] at hd3
  obtain ⟨q1,q2,q3⟩:=mA.1 hd3
  have hks:k<s.length:=by omega
  refine mA.2 ⟨?_,fun x hx=> ?_,vI (by rw [getElem!_pos b k hk];exact q3)⟩
  · unfold iT
    rw [zql,getElem!_pos b k hk]
    exact Nat.le_trans (List.length_filter_le ..) q1
  · obtain ⟨l,hl,_,rfl⟩:=gS.1 hx
    rw [getElem!_pos b k hk] at hl
    refine wR.2 (anS (s:=s) (fun f hf=> ?_) (wR.1 (q2 l hl)) hd)
    rw [getElem!_pos s k hks] at hf⊢
    exact alZ h1 hks hf
theorem akT {t:Tb} {G:R2→Bool} {who:Dt} {l:Ln}:fZ t G (bH t G who l)=false:=by
  cases e:fZ t G (bH t G who l) with
  |false=>rfl
  |true=>
    obtain ⟨f,hf,hh⟩:=gR.1 e
    obtain ⟨k,h1,h2⟩:=gT.1 hh
    rw [lY] at h1
    split at h1
    · cases h1
    · rename_i hn
      exact absurd (dX.2 ⟨f,hf,rfl,gT.2 ⟨k,h1,h2⟩⟩) hn
theorem alU {t:Tb} {G:R2→Bool} {who:Dt} {l:Ln} {c:Int} (h:iJ l c):iJ (bH t G who l) c:=by
  unfold bH
  split
  · exact aeN h
  · exact h
theorem acG (s:Sc) (b:Bs) (z0 z1:Int) (who:Dt) (hs:ScB s) (hb:BsB b):PF Tryz.prog 5 [.agg (scC s), .agg (bsC b), .agg [(PV.val (Value.int .i64 (z0))),(PV.val (Value.int .i64 (z1)))], .agg who.cells] (PV.val (Value.bool (true))):=by
  have hA:=fC
  have hf:=iZ s b hb
  by_cases g:((kK b&&decide ((s.length:Int)≤20))&&eY who)=true
  rotate_left
  · generalize (kK b&&decide ((s.length:Int)≤20))=F at*
    have g2:F=true→¬(1≤who.dev∧who.dev≤64∧1≤who.seq∧who.seq≤1048576):=fun h1 h2=>g (by
      rw [h1];unfold eY;simp [h2])
    clear g
    refine aL aH Tryz.func5 (by kernel_rfl) rfl rfl rfl rfl (fun st=> ?_)
    (try (apply wO pk;exact rfl));(repeat' (first|(show All _;constructor)|(show Imp _ _;constructor)|(show ImpX _ _ _ _;constructor)|(apply wC pk;(iterate 2 exact rfl))|(apply wE pk;(iterate 2 exact rfl))|(apply wX pk;exact rfl)|(apply wN pk;exact rfl)|(apply wD pk [] [];kernel_rfl;exact rfl;exact rfl)|(apply aC;simp only [zqt,zqf])|(refine aD rfl (fun h=> ?_) (fun h=> ?_)<;>(try simp at h)<;>try (exfalso;omega))|(refine aF ?_;refine ⟨_,_,_,rfl,Wk.refl _,StSub.refl _, ?_,rfl⟩;try rfl)|(apply aK;(iterate 3 exact rfl);(intro _;(first|apply hA|apply hf)<;>first|assumption|omega);rotate_left;(iterate 2 exact rfl))|(intros;(try simp only [zql]);omega)|((exfalso;first|exact g2 h.1.1.1.1 ⟨h.1.1.1.2,h.1.1.2,h.1.2,h.2⟩|fail))))
  rw [Bool.and_eq_true] at g
  obtain ⟨g,hd⟩:=g
  rw [g] at hf
  obtain ⟨hB,hl⟩:=yR g
  have hdd:=hd
  unfold eY at hdd
  simp only [Bool.and_eq_true,decide_eq_true_eq] at hdd
  obtain ⟨⟨⟨d1,d2⟩,d3⟩,d4⟩:=hdd
  have hk:=mJ hB hs hl (z0,z1)
  have hde:=fR hB hs hl (z0,z1) who
  have hoW:=tK (rb:=bK T.rightP s b) (s:=s) (z:=(z0,z1)) (who:=who) (M:=bS s b (z0,z1)) hB (by omega)
  have hok:= @mG (bK T.rightP s b) s b (z0,z1) who (bS s b (z0,z1))
  generalize dQ (bK T.rightP s b) s b (z0,z1) who (bS s b (z0,z1))=o at*
  by_cases he:o.2=0
  rotate_left
  · refine aL aH Tryz.func5 (by kernel_rfl) rfl rfl rfl rfl (fun st=> ?_)
    (try (apply wO pk;exact rfl));(repeat' (first|(show All _;constructor)|(show Imp _ _;constructor)|(show ImpX _ _ _ _;constructor)|(apply wC pk;(iterate 2 exact rfl))|(apply wE pk;(iterate 2 exact rfl))|(apply wX pk;exact rfl)|(apply wN pk;exact rfl)|(apply wD pk [] [];kernel_rfl;exact rfl;exact rfl)|(apply aC;simp only [zqt,zqf])|(refine aD rfl (fun h=> ?_) (fun h=> ?_)<;>(try simp at h)<;>try (exfalso;omega))|(refine aF ?_;refine ⟨_,_,_,rfl,Wk.refl _,StSub.refl _, ?_,rfl⟩;try first|rfl|((rw [decide_eq_false he];rfl);done))|(apply aK;(iterate 3 exact rfl);(intro _;(first|apply hA|apply hf|apply hk|apply hde)<;>first|assumption|omega);rotate_left;(iterate 2 exact rfl))|((apply eP pk 0;(iterate 5 exact rfl);(focus repeat' constructor);exact rfl;(intro _;rfl);(intro _;omega);exact rfl))|((apply eP pk 1;(iterate 5 exact rfl);(focus repeat' constructor);exact rfl;(intro _;rfl);(intro _;omega);exact rfl))|(intros;(try simp only [zql]);omega)|((exfalso;first|omega|(simp_all;done)))))
  obtain ⟨g2,hz,_,ho⟩:=hok he
  rw [g2,if_pos rfl] at hk
  obtain ⟨⟨hr0,hlen⟩,_⟩:=cO.1 g2
  have hfo:=nP g2 hB.1
  have hn:=sQ (s:=s) hlen (z:=(z0,z1))
  have hKl:=oG (s:=s) hB (z0,z1)
  have hG:=rF (s:=s) hlen (z0,z1)
  have hrx:=gD hoW.1 (by omega) hs hl
  rw [ho,amP g2 hd,←ho] at hrx
  rw [←hG] at ho
  clear hG
  generalize jN s b (z0,z1)=K at*
  have hKn:¬K.length=0:=fun e=>by rw [hn.1 e] at hz;cases hz
  clear hn hz
  obtain ⟨x,e⟩:=o
  simp only at he ho hoW hrx hde
  subst he
  have hxl:x.length=s.length:=by rw [ho,eC];exact hlen
  have hline:∀i (hi:i<x.length) (his:i<s.length),∀l∈x[i].lines,inR K ((i:Int),l.key)=false∧rB s[i] l (inR K) (-1)=false∧∀f∈s[i].foreign,iJ l f.col:=fun i hi his l hl=>by
    have hib:i<b.length:=by omega
    have e1:=fU (s:=s) (G:=inR K) (who:=who) hib
    rw [←ho,getElem!_pos x i hi] at e1
    rw [e1] at hl
    obtain ⟨l',hl',hg,rfl⟩:=gS.1 hl
    rw [gB,aeL,getElem!_pos s i his]
    exact ⟨hg,akT,fun f hf=>alU (hfo.reg i his f hf l' hl')⟩
  clear hok
  have hln:=(hoW.1.l (by omega)).2
  have h16:=hfo.f16
  clear ho
  refine aL aH Tryz.func5 (by kernel_rfl) rfl rfl rfl rfl (fun st=> ?_)
  focus ((try (apply wO pk;exact rfl));(repeat' (first|(show All _;constructor)|(show Imp _ _;constructor)|(show ImpX _ _ _ _;constructor)|(apply wC pk;(iterate 2 exact rfl))|(apply wE pk;(iterate 2 exact rfl))|(apply wX pk;exact rfl)|(apply wN pk;exact rfl)|(apply wD pk [] [];kernel_rfl;exact rfl;exact rfl)|(apply aC;simp only [zqt,zqf])|(refine aD rfl (fun h=> ?_) (fun h=> ?_)<;>(try simp at h)<;>try (exfalso;omega))|(refine aF ?_;refine ⟨_,_,_,rfl,Wk.refl _,StSub.refl _, ?_,rfl⟩;try rfl)|(apply aK;(iterate 3 exact rfl);(intro _;(first|apply hA|apply hf|apply hk|apply hde)<;>first|assumption|omega);rotate_left;(iterate 2 exact rfl))|((apply eP pk 0;(iterate 5 exact rfl);(focus repeat' constructor);exact rfl;(intro _;rfl);(intro _;omega);exact rfl))|((apply eP pk 1;(iterate 5 exact rfl);(focus repeat' constructor);exact rfl;(intro _;rfl);(intro _;omega);exact rfl))|(intros;(try simp only [zql]);omega)|((exfalso;first|omega|(simp_all;done))))))
  refine aP (X:={i:Nat//i≤s.length}) (fun i=>(((((((St.nil 119 st).var 4 24 ((scC s))).pv 9 (.seq (K.map r2C))).var 10 27 (bsC x)).pv 76 (.seq (s.map Tb.cells))).pv 77 ((PV.val (Value.int .i64 (((s.map Tb.cells).length:Nat)))))).pv 78 ((PV.val (Value.int .i64 ((i.1:Nat))))))) (fun i=>s.length-i.1) ⟨0,by omega⟩ ?_ (fun i=> ?_)
  · ((repeat (first|refine Sub.pv ?_ rfl|refine Sub.var ?_ rfl rfl));exact Sub.nil _ _ _ (StSub.refl _) rfl)
  obtain ⟨i,hi⟩:=i
  dsimp only
  by_cases hend:s.length≤i
  · (try (apply wO pk;exact rfl));(repeat' (first|(show All _;constructor)|(show Imp _ _;constructor)|(show ImpX _ _ _ _;constructor)|(apply wC pk;(iterate 2 exact rfl))|(apply wE pk;(iterate 2 exact rfl))|(apply wX pk;exact rfl)|(apply wN pk;exact rfl)|(apply wD pk [] [];kernel_rfl;exact rfl;exact rfl)|(apply aC;simp only [zqt,zqf])|(refine aD rfl (fun h=> ?_) (fun h=> ?_)<;>(try simp at h)<;>try (exfalso;omega))|(refine aF ?_;refine ⟨_,_,_,rfl,Wk.refl _,StSub.refl _, ?_,rfl⟩;try first|rfl|((exact congrArg (fun x=>PV.val (Value.bool x)) (by simp only [Bool.true_and,decide_eq_true_eq];first|omega|(simp;omega)));done))|(apply aK;(iterate 3 exact rfl);(intro _;(first|apply hA|apply hrx)<;>first|assumption|omega);rotate_left;(iterate 2 exact rfl))|(intros;(try simp only [zql]);omega)))
  have his:i<s.length:=by omega
  have hix:i<x.length:=by omega
  have h16:=h16 i his
  have hline:=hline i hix his
  have hln:=hln _ (List.getElem_mem hix)
  focus ((try (apply wO pk;exact rfl));(repeat' (first|(show All _;constructor)|(show Imp _ _;constructor)|(show ImpX _ _ _ _;constructor)|(apply wC pk;(iterate 2 exact rfl))|(apply wE pk;(iterate 2 exact rfl))|(apply wX pk;exact rfl)|(apply wN pk;exact rfl)|(apply wD pk [] [];kernel_rfl;exact rfl;exact rfl)|(apply aC;simp only [zqt,zqf])|(refine aD rfl (fun h=> ?_) (fun h=> ?_)<;>(try simp at h)<;>try (exfalso;omega))|(refine aF ?_;refine ⟨_,_,_,rfl,Wk.refl _,StSub.refl _, ?_,rfl⟩;try rfl)|(apply bC pk;(iterate 6 exact rfl);rotate_left;exact rfl;(intro hw;exact rfl);(intro hw;apply aJ<;>omega);(intro _;exact rfl);exact rfl)|(intros;(try simp only [zql]);omega))))
  refine aP (X:={y:Nat//y≤x[i].lines.length}) (fun y=>((((((((((((St.nil 119 st).var 4 24 ((scC s))).pv 9 (.seq (K.map r2C))).var 10 27 (bsC x)).pv 12 ((PV.val (Value.int .i64 ((i:Nat)))))).var 13 52 (s[i].cells)).pv 76 (.seq (s.map Tb.cells))).pv 77 ((PV.val (Value.int .i64 (((s.map Tb.cells).length:Nat)))))).pv 78 ((PV.val (Value.int .i64 ((i:Nat)))))).pv 88 (.seq (x[i].lines.map Ln.cells))).pv 89 ((PV.val (Value.int .i64 (((x[i].lines.map Ln.cells).length:Nat)))))).pv 90 ((PV.val (Value.int .i64 ((y.1:Nat))))))) (fun y=>x[i].lines.length-y.1) ⟨0,by omega⟩ ?_ (fun y=> ?_)
  · ((repeat (first|refine Sub.pv ?_ rfl|refine Sub.var ?_ rfl rfl));exact Sub.nil _ _ _ (StSub.refl _) rfl)
  obtain ⟨y,hy⟩:=y
  dsimp only
  by_cases hend2:x[i].lines.length≤y
  · (try (apply wO pk;exact rfl));(repeat' (first|(show All _;constructor)|(show Imp _ _;constructor)|(show ImpX _ _ _ _;constructor)|(apply wC pk;(iterate 2 exact rfl))|(apply wE pk;(iterate 2 exact rfl))|(apply wX pk;exact rfl)|(apply wN pk;exact rfl)|(apply wD pk [] [];kernel_rfl;exact rfl;exact rfl)|(apply aC;simp only [zqt,zqf])|(refine aD rfl (fun h=> ?_) (fun h=> ?_)<;>(try simp at h)<;>try (exfalso;omega))|(refine aF ?_;refine ⟨_,_,_,rfl,Wk.refl _,StSub.refl _, ?_,rfl⟩;try rfl)|(apply bC pk;(iterate 6 exact rfl);rotate_left;exact rfl;(intro hw;exact rfl);(intro hw;apply aJ<;>omega);(intro _;exact rfl);exact rfl)|(refine ⟨⟨i+1,by omega⟩, ?_,by simp only;omega⟩;((repeat (first|refine Sub.pv ?_ rfl|refine Sub.var ?_ rfl rfl));exact Sub.nil _ _ _ (StSub.refl _) rfl))|(intros;(try simp only [zql]);omega)))
  have hyl:y<x[i].lines.length:=by omega
  obtain ⟨l,hle⟩:∃l,x[i].lines[y]=l:=⟨_,rfl⟩
  have hgl:(x[i].lines.map Ln.cells)[y]?=some l.cells:=by rw [List.getElem?_map,List.getElem?_eq_getElem hyl,hle];rfl
  have hlm:l∈x[i].lines:=hle▸List.getElem_mem hyl
  obtain ⟨w1,w2,w3⟩:=hline l hlm
  have hin:=jT K ((i:Int),l.key) hKl
  have hpt:=oH s[i] l K (-1) hKl (by omega) w3
  rw [w1] at hin
  rw [w2] at hpt
  (try (apply wO pk;exact rfl));(repeat' (first|(show All _;constructor)|(show Imp _ _;constructor)|(show ImpX _ _ _ _;constructor)|(apply wC pk;(iterate 2 exact rfl))|(apply wE pk;(iterate 2 exact rfl))|(apply wX pk;exact rfl)|(apply wN pk;exact rfl)|(apply wD pk [] [];kernel_rfl;exact rfl;exact rfl)|(apply aC;simp only [zqt,zqf])|(refine aD rfl (fun h=> ?_) (fun h=> ?_)<;>(try simp at h)<;>try (exfalso;omega))|(refine aF ?_;refine ⟨_,_,_,rfl,Wk.refl _,StSub.refl _, ?_,rfl⟩;try rfl)|(apply aK;(iterate 3 exact rfl);(intro _;(first|apply hin|apply hpt)<;>first|assumption|omega);rotate_left;(iterate 2 exact rfl))|(apply bC pk;(iterate 6 exact rfl);rotate_left;exact rfl;(first|((intro hw;exact rfl);(intro hw;apply hgl<;>omega);(intro _;exact rfl))|((intro hw;exact rfl);(intro hw;apply aJ<;>omega);(intro _;exact rfl)));exact rfl)|(refine ⟨⟨y+1,by omega⟩, ?_,by simp only;omega⟩;((repeat (first|refine Sub.pv ?_ rfl|refine Sub.var ?_ rfl rfl));exact Sub.nil _ _ _ (StSub.refl _) rfl))|(intros;(try simp only [zql]);omega)))
end Go.Proofs.YtddmbnddgiebgaaGreatDoor
