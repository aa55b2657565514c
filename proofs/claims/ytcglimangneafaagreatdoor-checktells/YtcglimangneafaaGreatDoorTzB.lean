import Derived.Test.YtcglimangneafaaGreatDoorTzA
import Derived.Test.YtcglimangneafaaGreatDoorTyC
set_option linter.unusedSimpArgs false
set_option linter.unusedVariables false
namespace Go.Proofs.YtcglimangneafaaGreatDoor.T
open Go Go.Abs
attribute [local irreducible] Ev PWp
set_option maxRecDepth 10000
set_option maxHeartbeats 4000000
theorem ajH {l:List Pt} (hW:Whole l) (hl:l.length<1000000000000) {i:Nat} (hi:i<l.length) {s:List Pt} (hs:Anc l (l[i]'hi) s) (m:Nat) (hm:m<s.length) (j:Nat) (hj:j<l.length) (e:s[s.length-1-m]'(by omega)=l[j]) {x:Int} (hx:x=m):PF Tryz.prog 266 [.seq (l.map Pt.cells),(PV.val (Value.int .i64 ((i:Nat)))),(PV.val (Value.int .i64 (x)))] (PV.val (Value.int .i64 ((j:Nat)))):=by
  subst hx;exact atO hW hl hi hs m hm j hj e
theorem Anc.eqTake {l:List Pt} (hn:named l) {p q:Pt} {s t:List Pt} (hs:Anc l p s) (ht:Anc l q t) {c:Nat} (h1:c<s.length) (h2:c<t.length) (e:s[c]=t[c]):s.take (c+1)=t.take (c+1):=
  (hs.pre c h1).fn hn (e▸ht.pre c h2)
theorem amW {l:List Pt} (hW:Whole l) {p q:Pt} {s t:List Pt} (hs:Anc l p s) (ht:Anc l q t) {c:Nat} (h1:c<s.length) (h2:c<t.length) (hne:s[c]≠t[c]) (hp:aN s[c]=aN t[c]):fM s t↔dQ s[c] t[c]:=by
  refine aqI c h1 h2 ?_ hne
  cases c with
  |zero=>simp
  |succ c=>
    obtain ⟨a1,a2⟩:=(hs.par (c+1) h1).2 (by omega)
    obtain ⟨b1,b2⟩:=(ht.par (c+1) h2).2 (by omega)
    have:s[c]=t[c]:=hW.named _ (hs.all _ (List.getElem_mem _)) _ (ht.all _ (List.getElem_mem _)) (by
      have h1:aN s[c+1]=aO s[c]:=a1
      have h2:aN t[c+1]=aO t[c]:=b1
      rw [←h1,←h2,hp])
    exact hs.eqTake hW.named ht (by omega) (by omega) this
theorem anH {l:List Pt} {p q:Pt} {s t:List Pt} (hs:Anc l p s) (ht:Anc l q t) {c:Nat} (h1:c<s.length) (h2:c<t.length) (hp:aN s[c]≠aN t[c]):0<c∧∀h:0<c,s[c-1]'(by omega)≠t[c-1]'(by omega):=by
  have h0:0<c:=by
    cases c with
    |zero=>exact absurd ((hs.par 0 h1).1 rfl|>.trans ((ht.par 0 h2).1 rfl).symm) hp
    |succ c=>omega
  refine ⟨h0,fun _ e=>hp ?_⟩
  rw [((hs.par c h1).2 h0).1,((ht.par c h2).2 h0).1,e]
theorem awW (a b:Pt):decide (dQ a b)=if bC a=bC b then decide (a.at_<b.at_) else iT (bC b) (bC a):=by
  split
  · rename_i h;rw [decide_eq_decide];unfold dQ;rw [h,yO];simp
  · rename_i h;rw [Bool.eq_iff_iff,decide_eq_true_eq];unfold dQ;simp [h]
theorem abK {l:List Pt} (hW:Whole l) (hl:l.length<1000000000000) {i k:Nat} (hi:i<l.length) (hk:k<l.length) {s t:List Pt} (hs:Anc l (l[i]'hi) s) (ht:Anc l (l[k]'hk) t) (b:Bool) (hb:b=true↔fM s t):PF Tryz.prog 239 [.seq (l.map Pt.cells),(PV.val (Value.int .i64 ((i:Nat)))),(PV.val (Value.int .i64 ((k:Nat))))] (PV.val (Value.bool (b))):=by
  have hsl:=hs.le hW
  have htl:=ht.le hW
  have hs0:0<s.length:=by obtain ⟨r,hr⟩:=hs.last;rw [hr];simp
  have ht0:0<t.length:=by obtain ⟨r,hr⟩:=ht.last;rw [hr];simp
  obtain ⟨c,hc⟩:∃c,c=min (s.length-1) (t.length-1):=⟨_,rfl⟩
  have hcs:c<s.length:=by omega
  have hct:c<t.length:=by omega
  obtain ⟨x,hx,hxe⟩:=List.getElem_of_mem (hs.all _ (List.getElem_mem hcs))
  obtain ⟨y,hy,hye⟩:=List.getElem_of_mem (ht.all _ (List.getElem_mem hct))
  have hu1:=fun {z:Int} (hz:z=((s.length-1-c:Nat):Int))=>ajH hW hl hi hs (s.length-1-c) (by omega) x hx (by rw [hxe];congr 1;omega) hz
  have hu2:=fun {z:Int} (hz:z=((t.length-1-c:Nat):Int))=>ajH hW hl hk ht (t.length-1-c) (by omega) y hy (by rw [hye];congr 1;omega) hz
  have hpre:x=y→(b=decide (((s.length:Int)-1)<((t.length:Int)-1))):=fun e=>by
    subst e
    have he:s[c]=t[c]:=by rw [←hxe,←hye]
    have:=ajI (s:=s) (t:=t) ⟨c+1,hs.eqTake hW.named ht hcs hct he,by omega⟩
    rw [Bool.eq_iff_iff,hb,this,decide_eq_true_eq];omega
  refine aH aD Tryz.func239 (by kernel_rfl) rfl rfl rfl rfl (fun st=> ?_)
  (try (apply wO pk;exact rfl));(repeat' (first|(show All _;constructor)|(show Imp _ _;constructor)|(apply wC pk;(iterate 2 exact rfl))|(apply wE pk;(iterate 2 exact rfl))|(refine aA rfl (fun h=> ?_) (fun h=> ?_)<;>(try simp at h)<;>try (exfalso;omega))|(refine aB ?_;refine ⟨_,_,_,rfl,Wk.refl _,StSub.refl _, ?_,rfl⟩;try first|rfl|((rw [hpre (by omega)]);done))|(apply aI;(iterate 3 exact rfl);(intro _;(first|apply (tJ hW hl hi hs)|apply (tJ hW hl hk ht)|apply hu1|apply hu2)<;>first|assumption|omega);rotate_left;(iterate 2 exact rfl))|(intros;(try simp only [zql]);omega)))
  refine aJ (X:={v:Nat×Nat×Nat//∃(h1:v.1<s.length) (h2:v.1<t.length) (hx:v.2.1<l.length) (hy:v.2.2<l.length),l[v.2.1]=s[v.1]∧l[v.2.2]=t[v.1]∧s[v.1]≠t[v.1]}) (fun v=>((((St.nil 98 st).pv 0 (.seq (l.map Pt.cells))).pv 10 ((PV.val (Value.int .i64 ((v.1.2.1:Nat)))))).pv 11 ((PV.val (Value.int .i64 ((v.1.2.2:Nat))))))) (fun v=>v.1.1) ⟨(c,x,y),hcs,hct,hx,hy,hxe,hye,fun e=>(by exact h (by have:=adI hW.nodup hx hy (by rw [hxe,hye,e]);omega))⟩ ?_ (fun v=> ?_)
  · ((repeat (refine Sub.pv ?_ rfl));exact Sub.nil _ _ _ (StSub.refl _) rfl)
  clear hu1 hu2 hpre hxe hye hx hy
  obtain ⟨⟨c,x,y⟩,hcs,hct,hx,hy,hxe,hye,hne⟩:=v
  simp only at hcs hct hx hy hxe hye hne
  dsimp only
  have hpe:aN (l[x]'hx)=aN (l[y]'hy)↔((l[x]'hx).after.dev=(l[y]'hy).after.dev∧(l[x]'hx).after.seq=(l[y]'hy).after.seq)∧(l[x]'hx).afterAt=(l[y]'hy).afterAt:=by
    rw [Nm.ext_iff,Dt.ext_iff];rfl
  by_cases hp:aN (l[x]'hx)=aN (l[y]'hy)
  · obtain ⟨⟨p1,p2⟩,p3⟩:=hpe.1 hp
    have hS:=Sp.ext_iff (bC (l[x]'hx)) (bC (l[y]'hy))
    have hb2:b=if bC (l[x]'hx)=bC (l[y]'hy) then decide ((l[x]'hx).at_<(l[y]'hy).at_) else iT (bC (l[y]'hy)) (bC (l[x]'hx)):=by
      rw [←awW,Bool.eq_iff_iff,hb,decide_eq_true_eq,amW hW hs ht hcs hct hne (by rw [←hxe,←hye];exact hp),hxe,hye]
    (try (apply wO pk;exact rfl));(repeat' (first|(show All _;constructor)|(show Imp _ _;constructor)|(show ImpX _ _ _ _;constructor)|(apply wC pk;(iterate 2 exact rfl))|(apply wE pk;(iterate 2 exact rfl))|(apply wD pk [] [];kernel_rfl;exact rfl;exact rfl)|(refine aA rfl (fun h=> ?_) (fun h=> ?_)<;>(try simp at h)<;>try (exfalso;omega))|(refine aB ?_;refine ⟨_,_,_,rfl,Wk.refl _,StSub.refl _, ?_,rfl⟩;try first|rfl|((first|(rw [hb2,if_pos (by grind)];done)|(rw [hb2,if_neg (by grind)]));done))|(apply aI;(iterate 3 exact rfl);(intro _;(first|apply (jO (l[x]'hx))|apply (jO (l[y]'hy))|apply (kX (bC (l[y]'hy)) (bC (l[x]'hx))))<;>first|assumption|omega);rotate_left;(iterate 2 exact rfl))|(apply aM pk;(iterate 6 exact rfl);rotate_left;exact rfl;(intro hw;exact rfl);(intro hw;apply aF<;>omega);(intro _;exact rfl);exact rfl)))
  · have hn:¬(((l[x]'hx).after.dev=(l[y]'hy).after.dev∧(l[x]'hx).after.seq=(l[y]'hy).after.seq)∧(l[x]'hx).afterAt=(l[y]'hy).afterAt):=fun h=>hp (hpe.2 h)
    obtain ⟨hc0,hne2⟩:=anH hs ht hcs hct (by rw [←hxe,←hye];exact hp)
    have hne2:=hne2 hc0
    obtain ⟨x2,hx2,hxe2⟩:=List.getElem_of_mem (hs.all _ (List.getElem_mem (show c-1<s.length by omega)))
    obtain ⟨y2,hy2,hye2⟩:=List.getElem_of_mem (ht.all _ (List.getElem_mem (show c-1<t.length by omega)))
    have ls:(s.take (c+1)).length=c+1:=by rw [List.length_take];omega
    have lt:(t.take (c+1)).length=c+1:=by rw [List.length_take];omega
    have hu1:=ajH hW hl hx (s:=s.take (c+1)) (by rw [hxe];exact hs.pre c hcs) 1 (by omega) x2 hx2 (by rw [hxe2,List.getElem_take];congr 1;omega) (x:=1) rfl
    have hu2:=ajH hW hl hy (s:=t.take (c+1)) (by rw [hye];exact ht.pre c hct) 1 (by omega) y2 hy2 (by rw [hye2,List.getElem_take];congr 1;omega) (x:=1) rfl
    (try (apply wO pk;exact rfl));(repeat' (first|(show All _;constructor)|(show Imp _ _;constructor)|(show ImpX _ _ _ _;constructor)|(apply wC pk;(iterate 2 exact rfl))|(apply wE pk;(iterate 2 exact rfl))|(apply wD pk [] [];kernel_rfl;exact rfl;exact rfl)|(refine aA rfl (fun h=> ?_) (fun h=> ?_)<;>(try simp at h)<;>try (exfalso;omega))|(apply aI;(iterate 3 exact rfl);(intro _;(first|apply hu1|apply hu2)<;>first|assumption|omega);rotate_left;(iterate 2 exact rfl))|(apply aM pk;(iterate 6 exact rfl);rotate_left;exact rfl;(intro hw;exact rfl);(intro hw;apply aF<;>omega);(intro _;exact rfl);exact rfl)|(refine ⟨⟨(c-1,x2,y2),by simp only;omega,by simp only;omega,hx2,hy2,hxe2,hye2,hne2⟩, ?_,by simp only;omega⟩;((repeat (refine Sub.pv ?_ rfl));exact Sub.nil _ _ _ (StSub.refl _) rfl))))
end Go.Proofs.YtcglimangneafaaGreatDoor.T
namespace Go.Proofs.YtcglimangneafaaGreatDoor.T
open Go Go.Abs
attribute [local irreducible] Ev PWp
set_option maxRecDepth 10000
set_option maxHeartbeats 4000000
section
variable {P:Program} {tt:TT} {l:List Oper} {d:Md} {r:List Oper} {s:St} {K:St→Prop} {t:Nat} {ty:TypeId} {pos:String} {after:Array Edge}
theorem aAk {α:Type} {f:α→List PV} (pk:Pk P tt) (z0:α) {T e:TypeId} {x y:Operand} {kx ky:IntKind} {n B sz:Nat} {z:List Value} {a b:Int} (hx:opd s x=some (.val (.int kx a))) (hy:opd s y=some (.val (.int ky b))) (hk:tiK tt T=some (.slice e)) (hs:aS tt e=some sz) (hz:tiZ tt e=some z) (hzl:z.length=sz) (hpos:Nat.blt 0 sz=true) (hf0:z.map .val=f z0) (hf:bM s [x,y]=true) (hd:Nat.blt t s.n=true) (ht:jY d l r=true)
    (ha:a=n) (hb':b=n) (hB:P.bytesOf e=B) (hb:n*B≤140737488355328) (h62:n<4611686018427387904) (k:∀id,s.st id=none→Ev P l d r ((s.sst (upd s.st id (some (.arr e ((List.replicate n z0).map f))))).pv t (.vec id sz 0 n)) K):Ev P l d (⟨some t, .makeSlice T x y,ty,pos,after,none⟩::r) s K:=by
  subst ha hb'
  refine eE (oH pk.htt hx hy hk hs hz hzl (by simpa [Nat.blt_eq] using hpos) hB hb h62) (fun z hz=>aW (fun _ _ _ e=>by cases e) hz) hf hd ht fun zz hzz=> ?_
  obtain ⟨id,h1,rfl⟩:=hzz
  have:=k id h1
  rw [List.map_replicate,←hf0] at this
  exact this
end
def nW (D:List Pt) (p:Pt):Int:=atP D (aO p)
theorem anG {D:List Pt} (hn:(D.map aO).Nodup):∀(m:Nat),m≤D.length→D.countP (fun p=>decide (nW D p<m))=m:=by
  intro m hm
  have h1:(D.take m).countP (fun p=>decide (nW D p<m))=m:=by
    rw [List.countP_eq_length.2 fun p hp=> ?_,List.length_take];omega
    obtain ⟨j,hj,rfl⟩:=List.getElem_of_mem hp
    simp only [List.length_take] at hj
    rw [List.getElem_take,decide_eq_true_eq,nW,fA hn (by omega)];omega
  have h2:(D.drop m).countP (fun p=>decide (nW D p<m))=0:=by
    rw [List.countP_eq_zero]
    intro p hp
    obtain ⟨j,hj,rfl⟩:=List.getElem_of_mem hp
    simp only [List.length_drop] at hj
    rw [List.getElem_drop,decide_eq_true_eq,nW,fA hn (by omega)];omega
  calc D.countP (fun p=>decide (nW D p<m))=(D.take m++D.drop m).countP (fun p=>decide (nW D p<m)):=by rw [List.take_append_drop]
    _=m:=by rw [List.countP_append,h1,h2];rfl
theorem afN (l:List Pt) (hl:l.length<1000000000000):PF Tryz.prog 209 [.seq (l.map Pt.cells)] (.seq ((dP l).map Pt.cells)):=by
  refine akW aqG fun st=> ?_
  by_cases hok:Whole l∧l.length≤2000
  · obtain ⟨hW,h2000⟩:=hok
    obtain ⟨hp,hs⟩:=qK hW h2000
    obtain ⟨D,hD⟩:∃D,dP l=D:=⟨_,rfl⟩
    rw [hD] at hp hs⊢
    have hDn:(D.map aO).Nodup:=(hp.map aO).nodup_iff.2 hW.nodup
    have hDl:D.length=l.length:=hp.length_eq
    have hpos:∀p∈l,∃(j:Nat) (hj:j<D.length),D[j]=p∧nW D p=j:=fun p hpm=>by
      obtain ⟨j,hj,e⟩:=List.getElem_of_mem (hp.symm.subset hpm)
      exact ⟨j,hj,e,by rw [←e,nW,fA hDn hj]⟩
    have hlt:∀p∈l,∀q∈l,(nW D p<nW D q↔ltP l p q):=fun p hpm q hqm=>by
      obtain ⟨i,hi,e1,p1⟩:=hpos p hpm
      obtain ⟨j,hj,e2,p2⟩:=hpos q hqm
      have hPw:=List.pairwise_iff_getElem.1 hs
      rw [p1,p2]
      constructor
      · intro h;rw [←e1,←e2];exact hPw i j hi hj (by omega)
      · intro h
        rcases Nat.lt_trichotomy i j with k|k|k
        · omega
        · subst k;rw [←e1,←e2] at h;exact absurd h (ajQ hW.named _)
        · have:=hPw j i hj hi k;rw [e1,e2] at this;exact (asJ hW.named h this).elim
    have hwl:dU l=true:=(dK l).2 hW
    have hsp:=mZ l hl
    rw [hwl] at hsp
    refine eH aD Tryz.func209 (by kernel_rfl) rfl rfl rfl rfl ?_
    (try (apply wO pk;exact rfl));(repeat' (first|(show All _;constructor)|(show Imp _ _;constructor)|(show ImpX _ _ _ _;constructor)|(apply wC pk;(iterate 2 exact rfl))|(apply wE pk;(iterate 2 exact rfl))|(refine aA rfl (fun h=> ?_) (fun h=> ?_)<;>(try simp at h)<;>try (exfalso;omega))|(apply aI;(iterate 3 exact rfl);(intro _;apply hsp<;>first|assumption|omega);rotate_left;(iterate 2 exact rfl))|(apply aAk pk Pt.zero (f:=Pt.cells) (n:=l.length) (B:=96);(iterate 11 exact rfl);(focus (simp;done));(focus (simp;done));exact vC;omega;omega;intro id hid)))
    have hid:st id=none:=hid
    refine aJ (X:={x:Nat×List Pt//x.1≤l.length∧x.2.length=l.length∧∀j (h:j<x.1) (h2:j<l.length) (m:Nat),nW D (l[j]'h2)=(m:Int)→x.2[m]?=some (l[j]'h2)}) (fun i=>((((St.nil 51 (upd st id (some (.arr 166 (i.1.2.map Pt.cells))))).pv 0 (.seq (l.map Pt.cells))).pv 4 (.vec id 11 0 l.length)).pv 5 ((PV.val (Value.int .i64 ((i.1.1:Nat))))))) (fun i=>l.length-i.1.1) ⟨(0,List.replicate l.length Pt.zero),by simp,by simp,by simp⟩ ?_ (fun i=> ?_)
    · (((repeat (refine Sub.pv ?_ rfl));(exact Sub.nil _ _ _ (StSub.refl _) rfl)))
    obtain ⟨⟨i,O⟩,hi,hO,hinv⟩:=i
    simp only at hi hO hinv
    dsimp only
    by_cases him:i<l.length
    · obtain ⟨f,hf⟩:∃f:Pt→Bool,f=fun p=>decide (nW D p<nW D (l[i]'him)):=⟨_,rfl⟩
      (try (apply wO pk;exact rfl));(repeat' (first|(show All _;constructor)|(apply wC pk;(iterate 2 exact rfl))|(refine aA rfl (fun h=> ?_) (fun h=> ?_)<;>(try simp at h)<;>try (exfalso;omega))))
      refine aJ (X:={k:Nat//k≤l.length}) (fun y=>((((((St.nil 51 (upd st id (some (.arr 166 (O.map Pt.cells))))).pv 0 (.seq (l.map Pt.cells))).pv 4 (.vec id 11 0 l.length)).pv 5 ((PV.val (Value.int .i64 ((i:Nat)))))).pv 6 ((PV.val (Value.int .i64 ((((l.take y.1).countP f:Nat):Int)))))).pv 7 ((PV.val (Value.int .i64 ((y.1:Nat))))))) (fun y=>l.length-y.1) ⟨0,by omega⟩ ?_ (fun y=> ?_)
      · (((repeat (refine Sub.pv ?_ rfl));(exact Sub.nil _ _ _ (StSub.refl _) rfl)))
      obtain ⟨k,hk⟩:=y
      dsimp only
      have hcl:(l.take k).countP f≤k:=Nat.le_trans (List.countP_le_length) (by rw [List.length_take];omega)
      by_cases hkl:k<l.length
      · have hstep:(l.take (k+1)).countP f=(l.take k).countP f+if f (l[k]'hkl)=true then 1 else 0:=by
          rw [List.take_succ_eq_append_getElem hkl,List.countP_append];simp [List.countP_singleton]
        obtain ⟨s,hs1⟩:=Anc.ex hW _ (l[k]'hkl) (List.getElem_mem hkl) (Nat.le_refl _)
        obtain ⟨t,ht1⟩:=Anc.ex hW _ (l[i]'him) (List.getElem_mem him) (Nat.le_refl _)
        have hb:f (l[k]'hkl)=true↔fM s t:=by
          rw [hf,decide_eq_true_eq,hlt _ (List.getElem_mem hkl) _ (List.getElem_mem him)]
          constructor
          · rintro ⟨s',t',h1,h2,h3⟩;rw [hs1.fn hW.named h1,ht1.fn hW.named h2];exact h3
          · exact fun h=>⟨s,t,hs1,ht1,h⟩
        have hself:k=i→f (l[k]'hkl)=false:=fun e=>by subst e;rw [hf];simp
        (try (apply wO pk;exact rfl));(repeat' (first|(show All _;constructor)|(show Imp _ _;constructor)|(apply wC pk;(iterate 2 exact rfl))|(apply wE pk;(iterate 2 exact rfl))|(refine aA rfl (fun h=> ?_) (fun h=> ?_)<;>(try simp at h)<;>try (exfalso;omega))|(apply aI;(iterate 3 exact rfl);(intro _;apply (abK hW hl hkl him hs1 ht1 (f (l[k]'hkl)) hb)<;>first|assumption|omega);rotate_left;(iterate 2 exact rfl))|(refine ⟨⟨k+1,by omega⟩, ?_,by simp only;omega⟩;((repeat (first|refine Sub.pv ?_ rfl|refine Sub.pv' ?_ rfl (by (first|(rw [hstep,if_pos (by assumption)];simp;done)|(rw [hstep,if_neg (by rw [h];simp)];rfl)|(rw [hstep,if_neg (by rw [hself (by omega)];simp)];rfl)))));exact Sub.nil _ _ _ (StSub.refl _) rfl))|(intros;(try simp only [zql]);omega)))
      · obtain ⟨m,hm,hme,hpm⟩:=hpos _ (List.getElem_mem him)
        have htk:l.take k=l:=List.take_of_length_le (by omega)
        have hc:(l.take k).countP f=m:=by
          rw [htk,←(hp.countP_eq f),hf,hpm]
          exact anG hDn m (by omega)
        rw [hc]
        have hmO:m<O.length:=by omega
        have hnext:∀j (h:j<i+1) (h2:j<l.length) (n:Nat),nW D (l[j]'h2)=(n:Int)→(O.set m (l[i]'him))[n]?=some (l[j]'h2):=fun j h1 h2 n hn=>by
          by_cases hmn:m=n
          · subst hmn
            rw [List.getElem?_set_self hmO]
            obtain ⟨j',hj',e1,e2⟩:=hpos _ (List.getElem_mem h2)
            have:j'=m:=by omega
            subst this
            rw [←e1,hme]
          · rw [List.getElem?_set_ne hmn]
            rcases Nat.lt_succ_iff_lt_or_eq.1 h1 with q|q
            · exact hinv j q h2 n hn
            · subst q;omega
        (try (apply wO pk;exact rfl));(repeat' (first|(apply stF pk (f:=Pt.cells) (O[m]'hmO) (l[i]'him);exact rfl;exact rfl;exact aC _ _ _;exact rfl;exact List.getElem?_eq_getElem hmO;exact rfl;exact rfl)|(show All _;constructor)|(show Imp _ _;constructor)|(apply wC pk;(iterate 2 exact rfl))|(apply wE pk;(iterate 2 exact rfl))|(refine aA rfl (fun h=> ?_) (fun h=> ?_)<;>(try simp at h)<;>try (exfalso;omega))|(apply aM pk;(iterate 6 exact rfl);rotate_left;exact rfl;(intro hw;exact rfl);(intro hw;apply aF<;>omega);(intro _;exact rfl);exact rfl)|(apply ixA pk;(iterate 5 exact rfl);rotate_left;exact rfl;(intro hw;(exact (show _=((m:Nat):Int) from by omega)));(intro hw;(omega));exact rfl;(exact Nat.zero_add _))|(refine ⟨⟨(i+1,O.set m (l[i]'him)),by simp only;omega,by simp only [List.length_set];exact hO,hnext⟩, ?_,by simp only;omega⟩;(((repeat (refine Sub.pv ?_ rfl));(exact Sub.nil _ _ _ (iO (by first|rfl|exact gQ (by assumption)|((simp only [St.pv,St.put,St.sst,St.setv,St.nil,St.var,gP]);first|done|rfl))) rfl))))|(intros;(try simp only [zql]);omega)))
    · have hOD:O=D:=by
        apply List.ext_getElem?
        intro m
        by_cases hm:m<D.length
        · obtain ⟨j,hj,e⟩:=List.getElem_of_mem (hp.subset (List.getElem_mem hm))
          have:=hinv j (by omega) hj m (by rw [e,nW,fA hDn hm])
          rw [this,e,List.getElem?_eq_getElem hm]
        · rw [List.getElem?_eq_none (by omega),List.getElem?_eq_none (by omega)]
      subst hOD
      (try (apply wO pk;exact rfl));(repeat' (first|(show All _;constructor)|(apply wC pk;(iterate 2 exact rfl))|(refine aA rfl (fun h=> ?_) (fun h=> ?_)<;>(try simp at h)<;>try (exfalso;omega))|((try refine aB ?_);((refine ⟨_,_,_,rfl,Wk.refl _,StSub.refl _, ?_⟩;((exact .inl ⟨id,by rw [zql,hO],hid,aC _ _ _,kE hid⟩));done)))))
  · have hno:dP l=[]:=vJ hok
    rw [hno]
    have hw:dU l=true→¬l.length≤2000:=fun h h2=>hok ⟨(dK l).1 h,h2⟩
    have hsp:=mZ l hl
    cases hwv:dU l with
    |false=>
      rw [hwv] at hsp
      refine eH aD Tryz.func209 (by kernel_rfl) rfl rfl rfl rfl ?_
      (try (apply wO pk;exact rfl));(repeat' (first|(show All _;constructor)|(show Imp _ _;constructor)|(show ImpX _ _ _ _;constructor)|(apply wC pk;(iterate 2 exact rfl))|(apply wE pk;(iterate 2 exact rfl))|(refine aA rfl (fun h=> ?_) (fun h=> ?_)<;>(try simp at h)<;>try (exfalso;omega))|((try refine aB ?_);((refine ⟨_,_,_,rfl,Wk.refl _,StSub.refl _, ?_⟩;((exact .inr ⟨rfl,rfl,StSub.refl _⟩));done)))|(apply aI;(iterate 3 exact rfl);(intro _;apply hsp<;>first|assumption|omega);rotate_left;(iterate 2 exact rfl))))
    |true=>
      rw [hwv] at hsp
      have hl2:=hw hwv
      refine eH aD Tryz.func209 (by kernel_rfl) rfl rfl rfl rfl ?_
      (try (apply wO pk;exact rfl));(repeat' (first|(show All _;constructor)|(show Imp _ _;constructor)|(show ImpX _ _ _ _;constructor)|(apply wC pk;(iterate 2 exact rfl))|(apply wE pk;(iterate 2 exact rfl))|(refine aA rfl (fun h=> ?_) (fun h=> ?_)<;>(try simp at h)<;>try (exfalso;omega))|((try refine aB ?_);((refine ⟨_,_,_,rfl,Wk.refl _,StSub.refl _, ?_⟩;((exact .inr ⟨rfl,rfl,StSub.refl _⟩));done)))|(apply aI;(iterate 3 exact rfl);(intro _;apply hsp<;>first|assumption|omega);rotate_left;(iterate 2 exact rfl))))
end Go.Proofs.YtcglimangneafaaGreatDoor.T
namespace Go.Proofs.YtcglimangneafaaGreatDoor.T
open Go Go.Abs
attribute [local irreducible] Ev PWp
set_option maxRecDepth 10000
set_option maxHeartbeats 4000000
theorem wY (l m:List Pt) (hl:l.length<4611686018427387904):PF Tryz.prog 208 [.seq (l.map Pt.cells), .seq (m.map Pt.cells)] (PV.val (Value.bool (decide (l=m)))):=by
  refine aH aD Tryz.func208 (by kernel_rfl) rfl rfl rfl rfl (fun st=> ?_)
  (try (apply wO pk;exact rfl));(repeat' (first|(show All _;constructor)|(apply wC pk;(iterate 2 exact rfl))|(refine aA rfl (fun h=> ?_) (fun h=> ?_)<;>(try simp at h)<;>try (exfalso;omega))|(refine aB ?_;refine ⟨_,_,_,rfl,Wk.refl _,StSub.refl _, ?_,rfl⟩;try first|rfl|((rw [decide_eq_false (fun e:l=m=>by subst e;simp at*)]);done))))
  refine aJ (X:={x:Nat//x≤l.length∧l.take x=m.take x}) (fun i=>((((St.nil 26 st).pv 0 (.seq (l.map Pt.cells))).pv 1 (.seq (m.map Pt.cells))).pv 5 ((PV.val (Value.int .i64 ((i.1:Nat))))))) (fun i=>l.length-i.1) ⟨0,by omega,rfl⟩ ?_ (fun i=> ?_)
  · ((repeat (refine Sub.pv ?_ rfl));exact Sub.nil _ _ _ (StSub.refl _) rfl)
  obtain ⟨i,hi,hinv⟩:=i
  dsimp only
  have hlm:l.length=m.length:=by omega
  (try (apply wO pk;exact rfl));(repeat' (first|(show All _;constructor)|(show Imp _ _;constructor)|(apply wC pk;(iterate 2 exact rfl))|(apply wE pk;(iterate 2 exact rfl))|(apply wD pk [] [];kernel_rfl;exact rfl;exact rfl)|(refine aA rfl (fun h=> ?_) (fun h=> ?_)<;>(try simp at h)<;>try (exfalso;omega))|(refine aB ?_;refine ⟨_,_,_,rfl,Wk.refl _,StSub.refl _, ?_,rfl⟩;try first|rfl|((first|(rw [zJ (i:=i) (by omega) (by omega) (fun e=>by simp [e] at h)];done)|(rw [vH hinv (by omega) (by omega)]));done))|(apply aM pk;(iterate 6 exact rfl);rotate_left;exact rfl;(intro hw;exact rfl);(intro hw;apply aF<;>omega);(intro _;exact rfl);exact rfl)|(refine ⟨⟨i+1,by omega,qQ hinv (by omega) (by omega) (by rw [Pt.ext_iff,Vl.ext_iff,Dt.ext_iff,Dt.ext_iff];simpa [and_assoc] using h)⟩, ?_,by simp only;omega⟩;((repeat (refine Sub.pv ?_ rfl));exact Sub.nil _ _ _ (StSub.refl _) rfl))|(intros;(try simp only [zql]);omega)))
theorem rright_spec (c:Cl) (hl:c.parts.length<1000000000000):PF Tryz.prog 157 [.agg c.cells] (PV.val (Value.int .i64 (rightP c))):=by
  have:=zI c.parts
  have hc:(2000<((c.parts.length:Nat):Int))↔2000<c.parts.length:=by omega
  have hc2:(((c.parts.length:Nat):Int)≤2000)↔¬2000<c.parts.length:=by omega
  refine aH aD Tryz.func157 (by kernel_rfl) rfl rfl rfl rfl (fun st=> ?_)
  (try (apply wO pk;exact rfl));(repeat' (first|(show All _;constructor)|(show Imp _ _;constructor)|(show ImpX _ _ _ _;constructor)|(apply wC pk;(iterate 2 exact rfl))|(apply wE pk;(iterate 2 exact rfl))|(apply wD pk [] [];kernel_rfl;exact rfl;exact rfl)|(refine aA rfl (fun h=> ?_) (fun h=> ?_)<;>(try simp at h)<;>try (exfalso;omega))|(refine aB ?_;refine ⟨_,_,_,rfl,Wk.refl _,StSub.refl _, ?_,rfl⟩;try first|rfl|((first|(simp only [rightP,Vl.ext_iff,Vl.zero,e0];grind)|(obtain ⟨⟨q1,q2,q3⟩,q4⟩:=‹(_∧_∧_)∧_›;have e1:c.val=Vl.zero:=(Vl.ext_iff _ _).2 ⟨q1,q2,q3⟩;simp only [rightP,e1,q4];grind));done))|(apply aI;(iterate 3 exact rfl);(intro _;(first|apply (mZ c.parts hl)|apply (afN c.parts hl)|apply (wY (dP c.parts) c.parts))<;>first|assumption|omega);rotate_left;(iterate 2 exact rfl))))
theorem uX (l:List Int) (n:Int):fX (l++[n])=(fX l).push (UInt8.ofNat n.toNat):=by unfold fX;rw [List.foldl_append];rfl
theorem vG (l:List Int):(fX l).size=l.length:=by
  induction l using ajT with
  |h0=>rfl
  |h1 l n ih=>rw [uX,ByteArray.size_push,ih];simp
theorem alK (l:List Int) (n:Int):fX l++fX [n]=fX (l++[n]):=by
  rw [uX]
  have:fX [n]=ByteArray.empty.push (UInt8.ofNat n.toNat):=rfl
  rw [this]
  ext1
  simp
theorem rshow_spec (c:Cl) (hl:c.parts.length<1000000000000):PF Tryz.prog 162 [.agg c.cells] (.agg (showP c).cells):=by
  refine aH aD Tryz.func162 (by kernel_rfl) rfl rfl rfl rfl (fun st=> ?_)
  (try (apply wO pk;exact rfl));(repeat' (first|(show All _;constructor)|(show Imp _ _;constructor)|(apply wC pk;(iterate 2 exact rfl))|(apply wE pk;(iterate 2 exact rfl))|(refine aA rfl (fun h=> ?_) (fun h=> ?_)<;>(try simp at h)<;>try (exfalso;omega))|(refine aB ?_;refine ⟨_,_,_,rfl,Wk.refl _,StSub.refl _, ?_,rfl⟩;try first|rfl|((rw [showP,if_neg (by assumption)];rfl);done))|(apply aI;(iterate 3 exact rfl);(intro _;apply (rright_spec c hl)<;>first|assumption|omega);rotate_left;(iterate 2 exact rfl))))
  have h0:rightP c=0:=h
  have hb:=fun p (hp:p∈c.parts)=>aeX ((pL h0).2.2.1.formed p hp)
  refine aJ (X:={x:Nat×List Int//x.1≤c.parts.length∧x.2.length≤200∧mJ (c.parts.drop x.1) x.2=mJ c.parts []}) (fun i=>(((((St.nil 44 st).var 1 112 (c.cells)).var 2 47 ([(PV.val (Value.int .i64 (0))),(PV.val (Value.int .i64 (0))),(PV.val (Value.string (e0)))])).pv 4 ((PV.val (Value.string (fX i.1.2))))).pv 5 ((PV.val (Value.int .i64 ((i.1.1:Nat))))))) (fun i=>c.parts.length-i.1.1) ⟨(0,[]),by simp,by simp,rfl⟩ ?_ (fun i=> ?_)
  · ((repeat (first|refine Sub.pv ?_ rfl|refine Sub.var ?_ rfl rfl));exact Sub.nil _ _ _ (StSub.refl _) rfl)
  obtain ⟨⟨i,acc⟩,hi,ha,hinv⟩:=i
  simp only at hi ha hinv
  dsimp only
  have hz:=vG acc
  have hs:=fun h:i<c.parts.length=>tK h acc
  have hb2:=fun h:i<c.parts.length=>hb _ (List.getElem_mem h)
  by_cases him:i<c.parts.length
  · have hs:=hs him
    obtain ⟨hb3,hb4⟩:=hb2 him
    have hz1:(fX [(c.parts[i]'him).val.n]).size=1:=vG _
    (try (apply wO pk;exact rfl));(repeat' (first|(show All _;constructor)|(show Imp _ _;constructor)|(show ImpX _ _ _ _;constructor)|(apply wC pk;(iterate 2 exact rfl))|(apply wE pk;(iterate 2 exact rfl))|(refine aA rfl (fun h=> ?_) (fun h=> ?_)<;>(try simp at h)<;>try (exfalso;omega))|(apply aM pk;(iterate 6 exact rfl);rotate_left;exact rfl;(intro hw;exact rfl);(intro hw;apply aF<;>omega);(intro _;exact rfl);exact rfl)|(apply cvA pk.htt;(iterate 5 exact rfl);(refine ⟨?_, ?_⟩<;>(omega));exact rfl)|(apply azZ pk [(c.parts[i]'him).val.n];(iterate 6 exact rfl);rotate_left;exact rfl;exact rfl)|(apply aAS;(iterate 3 exact rfl);rotate_left;exact rfl;(intro _;omega);exact rfl)|(refine ⟨⟨(i+1,acc++[(c.parts[i]'him).val.n]),by simp only;omega,by simp only [List.length_append,List.length_singleton];omega,by rw [←hinv,hs,if_pos ⟨h.1,by omega⟩]⟩, ?_,by simp only;omega⟩;((repeat (first|refine Sub.pv ?_ rfl|refine Sub.var ?_ rfl rfl|refine Sub.pv' ?_ rfl (by (rw [alK]))));exact Sub.nil _ _ _ (StSub.refl _) rfl))|(refine ⟨⟨(i+1,acc),by simp only;omega,ha,by rw [←hinv,hs,if_neg (fun q=>by have:=h q.1;omega)]⟩, ?_,by simp only;omega⟩;((repeat (first|refine Sub.pv ?_ rfl|refine Sub.var ?_ rfl rfl));exact Sub.nil _ _ _ (StSub.refl _) rfl))|(intros;(try simp only [zql]);omega)))
  · (try (apply wO pk;exact rfl));(repeat' (first|(show All _;constructor)|(apply wC pk;(iterate 2 exact rfl))|(refine aA rfl (fun h=> ?_) (fun h=> ?_)<;>(try simp at h)<;>try (exfalso;omega))|(refine aB ?_;refine ⟨_,_,_,rfl,Wk.refl _,StSub.refl _, ?_,rfl⟩;try first|rfl|((rw [showP,if_pos h0,←hinv,List.drop_eq_nil_of_le (by omega)];rfl);done))))
end Go.Proofs.YtcglimangneafaaGreatDoor.T
