import Derived.Test.YtddmbnddgiebgaaGreatDoorCaLawC
import Derived.Test.YtddmbnddgiebgaaGreatDoorBsWroteL
set_option linter.unusedSimpArgs false
set_option linter.unusedVariables false
namespace Go.Proofs.YtddmbnddgiebgaaGreatDoor
open Go Go.Abs
attribute [local irreducible] Ev PWp
set_option maxRecDepth 10000
set_option maxHeartbeats 4000000
theorem aaH {l:List Dt}:pX l=true↔(∀x∈l,eP x=true)∧afG l:=by
  unfold pX
  rw [kV]
  constructor
  · intro h
    refine ⟨fun x hx=> ?_,aqI fun k hk=> ?_⟩
    · obtain ⟨k,hk,rfl⟩:=List.getElem_of_mem hx
      have:=h k hk
      unfold uF at this
      rw [getElem!_pos l k hk,Bool.and_eq_true] at this
      exact this.1
    · have:=h k hk
      unfold uF at this
      rw [Bool.and_eq_true] at this
      exact this.2
  · rintro ⟨h1,h2⟩ k hk
    unfold uF
    rw [getElem!_pos l k hk,h1 _ (List.getElem_mem hk),Bool.true_and]
    rcases Nat.eq_zero_or_pos k with rfl|h0
    · rfl
    · rw [getElem!_pos l (k-1) (by omega),List.pairwise_iff_getElem.1 h2 (k-1) k (by omega) hk (by omega)]
      simp
theorem adI {a:Ln} {d:Dt} (h:pX a.by_=true) (hd:eP d=true):pX (cH a d).by_=true:=by
  obtain ⟨h1,h2⟩:=aaH.1 h
  rw [akX]
  refine aaH.2 ⟨fun x hx=> ?_,agA h2 d⟩
  rcases (aiV _ _ _).1 hx with rfl|q
  · exact hd
  · exact h1 x q
theorem afK {tx:Cl→Int}:pV tx Cl.zero=true:=by
  unfold pV
  rw [if_pos (show Cl.zero.kind=0 from rfl)]
  decide
theorem anC {tx:Cl→Int} {s:Sc} {t:Tb} (hfr:∀f∈t.foreign,FrOK s t f) {G:R2→Bool} {who:Dt} {l:Ln} (h:LineOK tx t l) (hd:eP who=true):LineOK tx t (cV t G who l):=by
  unfold cV
  split
  · obtain ⟨k1,k2,ln,kd,ce,ze,ds⟩:=h
    have hat:∀j (hj:j<l.cells_.length),∃p:Prop,∃_:Decidable p,(dA (bU G l) t.foreign l.cells_)[j]'(by rw [bY];exact hj)=(if p then Cl.zero else l.cells_[j])∧(p→1≤j∧t.cols[j]!.kind=0):=fun j hj=>⟨_,_,gY hj,fun hp=>by
      obtain ⟨f,hf,hc,_⟩:=jQ.1 (show oT t G l j=true from hp)
      have q:=hfr f hf
      have q1:=q.c1
      have q2:=q.kind
      refine ⟨by omega, ?_⟩
      rwa [show f.col.toNat=j by omega] at q2⟩
    refine ⟨k1,k2,by rw [←ln];exact bY ..,fun j hj=> ?_,fun c hc=> ?_, ?_,adI ds hd⟩
    · have hj:j<(dA (bU G l) t.foreign l.cells_).length:=hj
      rw [bY] at hj
      obtain ⟨p,_,e,hp⟩:=hat j hj
      show (dA (bU G l) t.foreign l.cells_)[j].kind=_
      rw [e]
      split
      · rename_i hpp;rw [(hp hpp).2];rfl
      · exact kd j hj
    · obtain ⟨j,hj,rfl⟩:=List.getElem_of_mem hc
      have hj:j<(dA (bU G l) t.foreign l.cells_).length:=hj
      rw [bY] at hj
      obtain ⟨p,_,e,hp⟩:=hat j hj
      show pV tx (dA (bU G l) t.foreign l.cells_)[j]=true
      rw [e]
      split
      · exact afK
      · exact ce _ (List.getElem_mem hj)
    · show (dA (bU G l) t.foreign l.cells_)[0]!.val=_
      rw [←ze]
      by_cases hj:0<l.cells_.length
      · obtain ⟨p,_,e,hp⟩:=hat 0 hj
        rw [getElem!_pos _ 0 (by rw [bY];exact hj),getElem!_pos l.cells_ 0 hj,e,if_neg fun q=>absurd (hp q).1 (by omega)]
      · have:l.cells_=[]:=List.eq_nil_of_length_eq_zero (by omega)
        rw [this];rfl
  · exact h
theorem uZ {s:Sc} {b:Bs} {G:R2→Bool} {who:Dt} {k:Nat} (h:KSort b[k]!.lines):KSort (kC s b G who k):=by
  unfold KSort kC
  rw [List.map_map,show ((fun l:Ln=>l.key)∘cV s[k]! G who)=fun l=>l.key from funext fun l=>sG _ _ _ _]
  unfold KSort at h
  exact h.sublist (List.Sublist.map _ List.filter_sublist)
theorem alZ {tx:Cl→Int} {s:Sc} {b:Bs} (h:cU tx s b=true) {G:R2→Bool} {who:Dt} (hd:eP who=true):cU tx s (kD s b G who)=true:=by
  obtain ⟨⟨h1,h2⟩,h3⟩:=cQ.1 h
  refine cQ.2 ⟨⟨h1,by rw [nJ];exact h2⟩,fun k hk=> ?_⟩
  rw [nJ] at hk
  rw [pT hk]
  have hd3:=h3 k hk
  rw [getElem!_pos b k hk] at hd3
  obtain ⟨q1,q2,q3⟩:=lJ.1 hd3
  have hks:k<s.length:=by omega
  refine lJ.2 ⟨?_,fun x hx=> ?_,uZ (by rw [getElem!_pos b k hk];exact q3)⟩
  · unfold kC
    rw [zql,getElem!_pos b k hk]
    exact Nat.le_trans (List.length_filter_le ..) q1
  · obtain ⟨l,hl,_,rfl⟩:=nP.1 hx
    rw [getElem!_pos b k hk] at hl
    refine wF.2 (anC (s:=s) (fun f hf=> ?_) (wF.1 (q2 l hl)) hd)
    rw [getElem!_pos s k hks] at hf⊢
    exact alI h1 hks hf
theorem akD {t:Tb} {G:R2→Bool} {who:Dt} {l:Ln}:mP t G (cV t G who l)=false:=by
  cases e:mP t G (cV t G who l) with
  |false=>rfl
  |true=>
    obtain ⟨f,hf,hh⟩:=rV.1 e
    obtain ⟨k,h1,h2⟩:=gE.1 hh
    rw [aaY] at h1
    split at h1
    · cases h1
    · rename_i hn
      exact absurd (jQ.2 ⟨f,hf,rfl,gE.2 ⟨k,h1,h2⟩⟩) hn
theorem alD {t:Tb} {G:R2→Bool} {who:Dt} {l:Ln} {c:Int} (h:gZ l c):gZ (cV t G who l) c:=by
  unfold cV
  split
  · exact aeC h
  · exact h
theorem abV (s:Sc) (b:Bs) (z0 z1:Int) (who:Dt) (hs:ScB s) (hb:BsB b):PF Tryz.prog 5 [.agg (scC s), .agg (bsC b), .agg [(PV.val (Value.int .i64 (z0))),(PV.val (Value.int .i64 (z1)))], .agg who.cells] (PV.val (Value.bool (true))):=by
  have hA:=fW
  have hf:=lO s b hb
  by_cases g:((jZ b&&decide ((s.length:Int)≤20))&&eP who)=true
  rotate_left
  · generalize (jZ b&&decide ((s.length:Int)≤20))=F at*
    have g2:F=true→¬(1≤who.dev∧who.dev≤64∧1≤who.seq∧who.seq≤1048576):=fun h1 h2=>g (by
      rw [h1];unfold eP;simp [h2])
    clear g
    refine aM aH Tryz.func5 (by kernel_rfl) rfl rfl rfl rfl (fun st=> ?_)
    (try (apply wO pk;exact rfl));(repeat' (first|(show All _;constructor)|(show Imp _ _;constructor)|(show ImpX _ _ _ _;constructor)|(apply wC pk;(iterate 2 exact rfl))|(apply wE pk;(iterate 2 exact rfl))|(apply wX pk;exact rfl)|(apply wN pk;exact rfl)|(apply wD pk [] [];kernel_rfl;exact rfl;exact rfl)|(apply aC;simp only [zqt,zqf])|(refine aD rfl (fun h=> ?_) (fun h=> ?_)<;>(try simp at h)<;>try (exfalso;omega))|(refine aF ?_;refine ⟨_,_,_,rfl,Wk.refl _,StSub.refl _, ?_,rfl⟩;try rfl)|(apply aK;(iterate 3 exact rfl);(intro _;(first|apply hA|apply hf)<;>first|assumption|omega);rotate_left;(iterate 2 exact rfl))|(intros;(try simp only [zql]);omega)|((exfalso;first|exact g2 h.1.1.1.1 ⟨h.1.1.1.2,h.1.1.2,h.1.2,h.2⟩|fail))))
  rw [Bool.and_eq_true] at g
  obtain ⟨g,hd⟩:=g
  rw [g] at hf
  obtain ⟨hB,hl⟩:=adS g
  have hdd:=hd
  unfold eP at hdd
  simp only [Bool.and_eq_true,decide_eq_true_eq] at hdd
  obtain ⟨⟨⟨d1,d2⟩,d3⟩,d4⟩:=hdd
  have hk:=lT hB hs hl (z0,z1)
  have hde:=pJ hB hs hl (z0,z1) who
  have hoW:=alU (rb:=cU T.rightP s b) (s:=s) (z:=(z0,z1)) (who:=who) (M:=dJ s b (z0,z1)) hB (by omega)
  have hok:= @adX (cU T.rightP s b) s b (z0,z1) who (dJ s b (z0,z1))
  generalize kK (cU T.rightP s b) s b (z0,z1) who (dJ s b (z0,z1))=o at*
  by_cases he:o.2=0
  rotate_left
  · refine aM aH Tryz.func5 (by kernel_rfl) rfl rfl rfl rfl (fun st=> ?_)
    (try (apply wO pk;exact rfl));(repeat' (first|(show All _;constructor)|(show Imp _ _;constructor)|(show ImpX _ _ _ _;constructor)|(apply wC pk;(iterate 2 exact rfl))|(apply wE pk;(iterate 2 exact rfl))|(apply wX pk;exact rfl)|(apply wN pk;exact rfl)|(apply wD pk [] [];kernel_rfl;exact rfl;exact rfl)|(apply aC;simp only [zqt,zqf])|(refine aD rfl (fun h=> ?_) (fun h=> ?_)<;>(try simp at h)<;>try (exfalso;omega))|(refine aF ?_;refine ⟨_,_,_,rfl,Wk.refl _,StSub.refl _, ?_,rfl⟩;try first|rfl|((rw [decide_eq_false he];rfl);done))|(apply aK;(iterate 3 exact rfl);(intro _;(first|apply hA|apply hf|apply hk|apply hde)<;>first|assumption|omega);rotate_left;(iterate 2 exact rfl))|((apply eT pk 0;(iterate 5 exact rfl);(focus repeat' constructor);exact rfl;(intro _;rfl);(intro _;omega);exact rfl))|((apply eT pk 1;(iterate 5 exact rfl);(focus repeat' constructor);exact rfl;(intro _;rfl);(intro _;omega);exact rfl))|(intros;(try simp only [zql]);omega)|((exfalso;first|omega|(simp_all;done)))))
  obtain ⟨g2,hz,_,ho⟩:=hok he
  rw [g2,if_pos rfl] at hk
  obtain ⟨⟨hr0,hlen⟩,_⟩:=cQ.1 g2
  have hfo:=nC g2 hB.1
  have hn:=sM (s:=s) hlen (z:=(z0,z1))
  have hKl:=nX (s:=s) hB (z0,z1)
  have hG:=qZ (s:=s) hlen (z0,z1)
  have hrx:=fP hoW.1 (by omega) hs hl
  rw [ho,alZ g2 hd,←ho] at hrx
  rw [←hG] at ho
  clear hG
  generalize iV s b (z0,z1)=K at*
  have hKn:¬K.length=0:=fun e=>by rw [hn.1 e] at hz;cases hz
  clear hn hz
  obtain ⟨x,e⟩:=o
  simp only at he ho hoW hrx hde
  subst he
  have hxl:x.length=s.length:=by rw [ho,nJ];exact hlen
  have hline:∀i (hi:i<x.length) (his:i<s.length),∀l∈x[i].lines,inR K ((i:Int),l.key)=false∧qV s[i] l (inR K) (-1)=false∧∀f∈s[i].foreign,gZ l f.col:=fun i hi his l hl=>by
    have hib:i<b.length:=by omega
    have e1:=pT (s:=s) (G:=inR K) (who:=who) hib
    rw [←ho,getElem!_pos x i hi] at e1
    rw [e1] at hl
    obtain ⟨l',hl',hg,rfl⟩:=nP.1 hl
    rw [sG,adZ,getElem!_pos s i his]
    exact ⟨hg,akD,fun f hf=>alD (hfo.reg i his f hf l' hl')⟩
  clear hok
  have hln:=(hoW.1.l (by omega)).2
  have h16:=hfo.f16
  clear ho
  refine aM aH Tryz.func5 (by kernel_rfl) rfl rfl rfl rfl (fun st=> ?_)
  focus ((try (apply wO pk;exact rfl));(repeat' (first|(show All _;constructor)|(show Imp _ _;constructor)|(show ImpX _ _ _ _;constructor)|(apply wC pk;(iterate 2 exact rfl))|(apply wE pk;(iterate 2 exact rfl))|(apply wX pk;exact rfl)|(apply wN pk;exact rfl)|(apply wD pk [] [];kernel_rfl;exact rfl;exact rfl)|(apply aC;simp only [zqt,zqf])|(refine aD rfl (fun h=> ?_) (fun h=> ?_)<;>(try simp at h)<;>try (exfalso;omega))|(refine aF ?_;refine ⟨_,_,_,rfl,Wk.refl _,StSub.refl _, ?_,rfl⟩;try rfl)|(apply aK;(iterate 3 exact rfl);(intro _;(first|apply hA|apply hf|apply hk|apply hde)<;>first|assumption|omega);rotate_left;(iterate 2 exact rfl))|((apply eT pk 0;(iterate 5 exact rfl);(focus repeat' constructor);exact rfl;(intro _;rfl);(intro _;omega);exact rfl))|((apply eT pk 1;(iterate 5 exact rfl);(focus repeat' constructor);exact rfl;(intro _;rfl);(intro _;omega);exact rfl))|(intros;(try simp only [zql]);omega)|((exfalso;first|omega|(simp_all;done))))))
  refine aP (X:={i:Nat//i≤s.length}) (fun i=>(((((((St.nil 119 st).var 4 24 ((scC s))).pv 9 (.seq (K.map r2C))).var 10 27 (bsC x)).pv 76 (.seq (s.map Tb.cells))).pv 77 ((PV.val (Value.int .i64 (((s.map Tb.cells).length:Nat)))))).pv 78 ((PV.val (Value.int .i64 ((i.1:Nat))))))) (fun i=>s.length-i.1) ⟨0,by omega⟩ ?_ (fun i=> ?_)
  · ((repeat (first|refine Sub.pv ?_ rfl|refine Sub.var ?_ rfl rfl));exact Sub.nil _ _ _ (StSub.refl _) rfl)
  obtain ⟨i,hi⟩:=i
  dsimp only
  by_cases hend:s.length≤i
  · (try (apply wO pk;exact rfl));(repeat' (first|(show All _;constructor)|(show Imp _ _;constructor)|(show ImpX _ _ _ _;constructor)|(apply wC pk;(iterate 2 exact rfl))|(apply wE pk;(iterate 2 exact rfl))|(apply wX pk;exact rfl)|(apply wN pk;exact rfl)|(apply wD pk [] [];kernel_rfl;exact rfl;exact rfl)|(apply aC;simp only [zqt,zqf])|(refine aD rfl (fun h=> ?_) (fun h=> ?_)<;>(try simp at h)<;>try (exfalso;omega))|(refine aF ?_;refine ⟨_,_,_,rfl,Wk.refl _,StSub.refl _, ?_,rfl⟩;try first|rfl|((exact congrArg (fun x=>PV.val (Value.bool x)) (by simp only [Bool.true_and,decide_eq_true_eq];first|omega|(simp;omega)));done))|(apply aK;(iterate 3 exact rfl);(intro _;(first|apply hA|apply hrx)<;>first|assumption|omega);rotate_left;(iterate 2 exact rfl))|(intros;(try simp only [zql]);omega)))
  have his:i<s.length:=by omega
  have hix:i<x.length:=by omega
  have h16:=h16 i his
  have hline:=hline i hix his
  have hln:=hln _ (List.getElem_mem hix)
  focus ((try (apply wO pk;exact rfl));(repeat' (first|(show All _;constructor)|(show Imp _ _;constructor)|(show ImpX _ _ _ _;constructor)|(apply wC pk;(iterate 2 exact rfl))|(apply wE pk;(iterate 2 exact rfl))|(apply wX pk;exact rfl)|(apply wN pk;exact rfl)|(apply wD pk [] [];kernel_rfl;exact rfl;exact rfl)|(apply aC;simp only [zqt,zqf])|(refine aD rfl (fun h=> ?_) (fun h=> ?_)<;>(try simp at h)<;>try (exfalso;omega))|(refine aF ?_;refine ⟨_,_,_,rfl,Wk.refl _,StSub.refl _, ?_,rfl⟩;try rfl)|(apply bD pk;(iterate 6 exact rfl);rotate_left;exact rfl;(intro hw;exact rfl);(intro hw;apply aJ<;>omega);(intro _;exact rfl);exact rfl)|(intros;(try simp only [zql]);omega))))
  refine aP (X:={y:Nat//y≤x[i].lines.length}) (fun y=>((((((((((((St.nil 119 st).var 4 24 ((scC s))).pv 9 (.seq (K.map r2C))).var 10 27 (bsC x)).pv 12 ((PV.val (Value.int .i64 ((i:Nat)))))).var 13 52 (s[i].cells)).pv 76 (.seq (s.map Tb.cells))).pv 77 ((PV.val (Value.int .i64 (((s.map Tb.cells).length:Nat)))))).pv 78 ((PV.val (Value.int .i64 ((i:Nat)))))).pv 88 (.seq (x[i].lines.map Ln.cells))).pv 89 ((PV.val (Value.int .i64 (((x[i].lines.map Ln.cells).length:Nat)))))).pv 90 ((PV.val (Value.int .i64 ((y.1:Nat))))))) (fun y=>x[i].lines.length-y.1) ⟨0,by omega⟩ ?_ (fun y=> ?_)
  · ((repeat (first|refine Sub.pv ?_ rfl|refine Sub.var ?_ rfl rfl));exact Sub.nil _ _ _ (StSub.refl _) rfl)
  obtain ⟨y,hy⟩:=y
  dsimp only
  by_cases hend2:x[i].lines.length≤y
  · (try (apply wO pk;exact rfl));(repeat' (first|(show All _;constructor)|(show Imp _ _;constructor)|(show ImpX _ _ _ _;constructor)|(apply wC pk;(iterate 2 exact rfl))|(apply wE pk;(iterate 2 exact rfl))|(apply wX pk;exact rfl)|(apply wN pk;exact rfl)|(apply wD pk [] [];kernel_rfl;exact rfl;exact rfl)|(apply aC;simp only [zqt,zqf])|(refine aD rfl (fun h=> ?_) (fun h=> ?_)<;>(try simp at h)<;>try (exfalso;omega))|(refine aF ?_;refine ⟨_,_,_,rfl,Wk.refl _,StSub.refl _, ?_,rfl⟩;try rfl)|(apply bD pk;(iterate 6 exact rfl);rotate_left;exact rfl;(intro hw;exact rfl);(intro hw;apply aJ<;>omega);(intro _;exact rfl);exact rfl)|(refine ⟨⟨i+1,by omega⟩, ?_,by simp only;omega⟩;((repeat (first|refine Sub.pv ?_ rfl|refine Sub.var ?_ rfl rfl));exact Sub.nil _ _ _ (StSub.refl _) rfl))|(intros;(try simp only [zql]);omega)))
  have hyl:y<x[i].lines.length:=by omega
  obtain ⟨l,hle⟩:∃l,x[i].lines[y]=l:=⟨_,rfl⟩
  have hgl:(x[i].lines.map Ln.cells)[y]?=some l.cells:=by rw [List.getElem?_map,List.getElem?_eq_getElem hyl,hle];rfl
  have hlm:l∈x[i].lines:=hle▸List.getElem_mem hyl
  obtain ⟨w1,w2,w3⟩:=hline l hlm
  have hin:=jB K ((i:Int),l.key) hKl
  have hpt:=nY s[i] l K (-1) hKl (by omega) w3
  rw [w1] at hin
  rw [w2] at hpt
  (try (apply wO pk;exact rfl));(repeat' (first|(show All _;constructor)|(show Imp _ _;constructor)|(show ImpX _ _ _ _;constructor)|(apply wC pk;(iterate 2 exact rfl))|(apply wE pk;(iterate 2 exact rfl))|(apply wX pk;exact rfl)|(apply wN pk;exact rfl)|(apply wD pk [] [];kernel_rfl;exact rfl;exact rfl)|(apply aC;simp only [zqt,zqf])|(refine aD rfl (fun h=> ?_) (fun h=> ?_)<;>(try simp at h)<;>try (exfalso;omega))|(refine aF ?_;refine ⟨_,_,_,rfl,Wk.refl _,StSub.refl _, ?_,rfl⟩;try rfl)|(apply aK;(iterate 3 exact rfl);(intro _;(first|apply hin|apply hpt)<;>first|assumption|omega);rotate_left;(iterate 2 exact rfl))|(apply bD pk;(iterate 6 exact rfl);rotate_left;exact rfl;(first|((intro hw;exact rfl);(intro hw;apply hgl<;>omega);(intro _;exact rfl))|((intro hw;exact rfl);(intro hw;apply aJ<;>omega);(intro _;exact rfl)));exact rfl)|(refine ⟨⟨y+1,by omega⟩, ?_,by simp only;omega⟩;((repeat (first|refine Sub.pv ?_ rfl|refine Sub.var ?_ rfl rfl));exact Sub.nil _ _ _ (StSub.refl _) rfl))|(intros;(try simp only [zql]);omega)))
end Go.Proofs.YtddmbnddgiebgaaGreatDoor
