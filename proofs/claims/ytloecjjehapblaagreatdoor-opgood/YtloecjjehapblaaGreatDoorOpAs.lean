import Derived.Test.YtloecjjehapblaaGreatDoorOpAp
import Derived.Test.YtloecjjehapblaaGreatDoorOpAq
import Derived.Test.YtloecjjehapblaaGreatDoorOpAl
import Derived.Test.YtloecjjehapblaaGreatDoorOpAr
import Derived.Test.YtloecjjehapblaaGreatDoorOpAh
set_option linter.unusedSimpArgs false
set_option linter.unusedVariables false
namespace Go.Proofs.YtloecjjehapblaaGreatDoor
open Go Go.Abs
attribute [local irreducible] Ev PWp
set_option maxRecDepth 10000
set_option maxHeartbeats 4000000
section
variable {tx:Cl->Int}
theorem aEN :∀c:Cl,c.kind=0->cM c=c.val:=λc h=>by unfold cM;rw [if_pos h]
theorem rows_len {s:Sc} {b:Bs} (hg:cP tx s b=true) {k:Nat} (hk:k<s.length):(fA cM b k).length<=2000:=by
 obtain ⟨⟨h1,h2⟩,h3⟩:=bV.1 hg
 have hkb:k<b.length:=by omega
 have:=(fY.1 (h3 k hkb)).1
 unfold fA
 rw [yL hkb,zql]
 rw [getElem!_pos b k hkb] at this
 exact this
theorem azT {s:Sc} {b:Bs} (hg:cP tx s b=true) {k:Nat} (hk:k<s.length) {m:Su} (hm:m∈s[k].sums):TotOK m (fA cM b k):=by
 obtain ⟨⟨h1,h2⟩,_⟩:=bV.1 hg
 have hs:=aFU h1 hk hm
 refine ⟨rows_len hg hk,by have:=hs.c1;omega,by have:=hs.b1;omega,λr hr=> ?_,λr hr=> ?_⟩
 ·have:=(aoF aEN hg hk hr).len
  have:=hs.c2
  have:=hs.b2
  omega
 ·have hc:=hs.c1
  have hc2:=hs.c2
  exact aBG ((aoF aEN hg hk hr).num m.col.toNat (by omega) hs.kc)
theorem aEt {s:Sc} (h:cL s=0) {k:Nat} (hk:k<s.length):s[k].cols.length<=16/\s[k].checks.length<=16/\s[k].unique.length<=16/\s[k].foreign.length<=16/\s[k].sums.length<=16:=by
 have h1:=fL h hk (lk1 s[k]!) (by simp [lks])
 rw [getElem!_pos s k hk] at h1
 unfold lk1 at h1
 split at h1
 ·cases h1
 ·omega
theorem aDR {t:Tb} {r:List Vl} (h:eM t r=0) (hl:r.length<=1000):X.rowOK r:=by
 refine ⟨by omega,λv hv=> ?_⟩
 obtain ⟨j,hj,rfl⟩:=List.getElem_of_mem hv
 unfold eM at h
 split at h
 ·have:=gD.1 h j (List.mem_range.2 hj)
  rw [getElem!_pos r j hj] at this
  unfold sC at this
  split at this
  ·cases this
  ·rename_i q
   have q:cJ r[j]=true:=by simpa using q
   have:=(aBG q).1
   unfold X.lim
   omega
 ·cases h
end
section
variable (ex:Tb->List Vl->Int) (b:Bs) (t:Tb) (rows:List (List Vl))
def stT :Nat->Int
 |0=>dR (eM t) rows
 |1=>if lK t rows=false then 8 else 0
 |2=>dR (ex t) rows
 |3=>if xT b t rows=false then 10 else 0
 |_=>if zJ t rows=false then 11 else 0
variable {ex b t rows}
theorem aAZ (h:∀j<5,stT ex b t rows j=0):ckT ex b t rows=0:=by
 have h0:dR (eM t) rows=0:=h 0 (by omega)
 have h1:(if lK t rows=false then (8:Int) else 0)=0:=h 1 (by omega)
 have h2:dR (ex t) rows=0:=h 2 (by omega)
 have h3:(if xT b t rows=false then (10:Int) else 0)=0:=h 3 (by omega)
 have h4:(if zJ t rows=false then (11:Int) else 0)=0:=h 4 (by omega)
 unfold ckT
 rw [if_neg (λq=>q h0),if_neg (λq=>by rw [if_pos q] at h1;cases h1),if_neg (λq=>q h2),if_neg (λq=>by rw [if_pos q] at h3;cases h3),if_neg (λq=>by rw [if_pos q] at h4;cases h4)]
theorem aEp {y:Nat} (hy:y<5) (hI:∀j<y,stT ex b t rows j=0) (h:stT ex b t rows y≠0):ckT ex b t rows=stT ex b t rows y:=by
 unfold ckT
 match y,hy with
 |0,_=>rw [if_pos (show dR (eM t) rows≠0 from h)];rfl
 |1,_=>
  have h0:dR (eM t) rows=0:=hI 0 (by omega)
  have q:lK t rows=false:=by
   cases e:lK t rows with
   |false=>rfl
   |true=>exact absurd (show stT ex b t rows 1=0 from by unfold stT;rw [e];rfl) h
  rw [if_neg (λq=>q h0),if_pos q]
  exact (show stT ex b t rows 1=8 from if_pos q).symm
 |2,_=>
  have h0:dR (eM t) rows=0:=hI 0 (by omega)
  have h1:(if lK t rows=false then (8:Int) else 0)=0:=hI 1 (by omega)
  rw [if_neg (λq=>q h0),if_neg (λq=>by rw [if_pos q] at h1;cases h1),if_pos (show dR (ex t) rows≠0 from h)];rfl
 |3,_=>
  have h0:dR (eM t) rows=0:=hI 0 (by omega)
  have h1:(if lK t rows=false then (8:Int) else 0)=0:=hI 1 (by omega)
  have h2:dR (ex t) rows=0:=hI 2 (by omega)
  have q:xT b t rows=false:=by
   cases e:xT b t rows with
   |false=>rfl
   |true=>exact absurd (show stT ex b t rows 3=0 from by unfold stT;rw [e];rfl) h
  rw [if_neg (λq=>q h0),if_neg (λq=>by rw [if_pos q] at h1;cases h1),if_neg (λq=>q h2),if_pos q]
  exact (show stT ex b t rows 3=10 from if_pos q).symm
 |4,_=>
  have h0:dR (eM t) rows=0:=hI 0 (by omega)
  have h1:(if lK t rows=false then (8:Int) else 0)=0:=hI 1 (by omega)
  have h2:dR (ex t) rows=0:=hI 2 (by omega)
  have h3:(if xT b t rows=false then (10:Int) else 0)=0:=hI 3 (by omega)
  have q:zJ t rows=false:=by
   cases e:zJ t rows with
   |false=>rfl
   |true=>exact absurd (show stT ex b t rows 4=0 from by unfold stT;rw [e];rfl) h
  rw [if_neg (λq=>q h0),if_neg (λq=>by rw [if_pos q] at h1;cases h1),if_neg (λq=>q h2),if_neg (λq=>by rw [if_pos q] at h3;cases h3),if_pos q]
  exact (show stT ex b t rows 4=11 from if_pos q).symm
end
structure CkB (n:Nat) (s:Sc) (b:Bs):Prop where
 sb:ScB s
 len:s.length<=20
 col:∀t∈s,t.cols.length<10000000000
 chk:∀t∈s,oT t
 bs:BsS n b
 hn:n<=1000
noncomputable def mayC (s:Sc) (b:Bs):Bool:=decide (rightC s=0)&&cP T.rightP s b
noncomputable def whyC (s:Sc) (b:Bs):Int:=if mayC s b=true then ckW cM exR s b else 1
theorem azE {s:Sc} (h:rightC s=0):cL s=0:=by
 unfold rightC at h
 split at h
 ·assumption
 ·rename_i q;exact absurd h q
section
variable {n:Nat} {s:Sc} {b:Bs} (hB:CkB n s b)
include hB
theorem CkB.right :PF Tryz.prog 98 [.agg (scC s)] (PV.val (Value.int .i64 (rightC s))):=ajM s (by have:=hB.len;omega) hB.sb hB.chk hB.col
theorem iR :PF Tryz.prog 56 [.agg (scC s), .agg (bsC b)] (PV.val (Value.bool (mayC s b))):=by
 have h1:=hB.right
 have h2:=iZ hB.bs hB.hn hB.sb hB.len
 unfold mayC
 generalize rightC s=R at*
 generalize cP T.rightP s b=B at*
 refine aG aF Tryz.func56 (by kernel_rfl) rfl rfl rfl rfl (λst=> ?_)
 (try apply wO pk;rfl);(repeat' first|show All _;constructor|show Imp _ _;constructor|show ImpX _ _ _ _;constructor|apply wE pk;rfl;rfl|(refine aC ?_;refine ⟨_,_,_,rfl,zwr _,zsr _, ?_,rfl⟩;try rfl)|(apply aH;rfl;rfl;rfl;(intro _;(first|apply h1|apply h2)<;>first|assumption|omega);rotate_left;rfl;rfl))
theorem pA {k:Nat} (hk:k<b.length):PF Tryz.prog 38 [.agg (bsC b),(PV.val (Value.int .i64 ((k:Nat))))] (.seq ((fA cM b k).map roC)):=by
 obtain ⟨hL1,hL2⟩:=hB.bs.2 _ (zgm hk)
 have hn:=hB.hn
 have e:fA cM b k=b[k].lines.map (abU cM):=by unfold fA;rw [yL hk];rfl
 rw [e]
 exact anD cM b k hk (by omega) λl hl=>by
  obtain ⟨u1,u2,u3⟩:=hL2 l hl
  exact ⟨by omega,λc hc=>aCY c (u3 c hc)⟩
theorem aaB :PF Tryz.prog 20 [.agg (scC s), .agg (bsC b)] (PV.val (Value.int .i64 (whyC s b))):=by
 have hm:=iR hB
 have hsl:=hB.len
 cases hmay:mayC s b with
 |false=>
  rw [hmay] at hm
  have e:whyC s b=1:=by unfold whyC;rw [hmay];rfl
  rw [e]
  refine aG aF Tryz.func20 (by kernel_rfl) rfl rfl rfl rfl (λst=> ?_)
  (try apply wO pk;rfl);(repeat' first|show All _;constructor|show Imp _ _;constructor|apply wC pk;rfl;rfl|apply wE pk;rfl;rfl|refine aA rfl ?_ ?_<;>intro h<;>(try simp at h)<;>try omega|(refine aC ?_;refine ⟨_,_,_,rfl,zwr _,zsr _, ?_,rfl⟩;try rfl)|(apply aH;rfl;rfl;rfl;(intro _;apply hm<;>first|assumption|omega);rotate_left;rfl;rfl))
 |true=>
 rw [hmay] at hm
 have e:whyC s b=ckW cM exR s b:=by unfold whyC;rw [hmay];rfl
 rw [e]
 clear e
 unfold mayC at hmay
 rw [zba,zde] at hmay
 obtain ⟨hrc,hg⟩:=hmay
 have hrs:=azE hrc
 obtain ⟨⟨_,hbl⟩,_⟩:=bV.1 hg
 have hfin0:(∀j<s.length,ckT exR b s[j]! (fA cM b j)=0)->ckW cM exR s b=0:=λh=>acU h
 have hfin1:∀i<s.length,(∀j<i,ckT exR b s[j]! (fA cM b j)=0)->ckT exR b s[i]! (fA cM b i)≠0->ckW cM exR s b=ckT exR b s[i]! (fA cM b i):=λi hi h1 h2=>asQ (f:=λk:Nat=>ckT exR b s[k]! (fA cM b k)) hi h1 h2
 generalize ckW cM exR s b=W at*
 refine aG aF Tryz.func20 (by kernel_rfl) rfl rfl rfl rfl (λst=> ?_)
 focus ((try apply wO pk;rfl);(repeat' first|show All _;constructor|show Imp _ _;constructor|apply wC pk;rfl;rfl|apply wE pk;rfl;rfl|refine aA rfl ?_ ?_<;>intro h<;>(try simp at h)<;>try omega|(apply aH;rfl;rfl;rfl;(intro _;apply hm<;>first|assumption|omega);rotate_left;rfl;rfl)))
 refine aK (X:={x:Nat//x<=s.length/\∀j<x,ckT exR b s[j]! (fA cM b j)=0}) (λi=>(((((St.nil 41 st).var 3 27 ((bsC b))).pv 16 (.seq (s.map Tb.cells))).pv 17 ((PV.val (Value.int .i64 (((s.map Tb.cells).length:Nat)))))).pv 18 ((PV.val (Value.int .i64 ((i.1:Nat))))))) (λi=>s.length-i.1) ⟨0,by omega,by omega⟩ ?_ (λi=> ?_)
 ·((repeat (first|refine Sub.pv ?_ rfl|refine Sub.var ?_ rfl rfl));exact Sub.nil _ _ _ (zsr _) rfl)
 obtain ⟨i,hi,hI⟩:=i
 dsimp only
 by_cases hend:s.length<=i
 ·have e:W=0:=hfin0 λj hj=>hI j (by omega)
  (try apply wO pk;rfl);(repeat' first|show All _;constructor|apply wC pk;rfl;rfl|refine aA rfl ?_ ?_<;>intro h<;>(try simp at h)<;>try omega|(refine aC ?_;refine ⟨_,_,_,rfl,zwr _,zsr _, ?_,rfl⟩;try first|rfl|(rw [e]);done))
 have hil:i<s.length:=by omega
 have hib:i<b.length:=by omega
 have hsh:=pA hB hib
 have hfin1:=hfin1 i hil hI
 have hup:ckT exR b s[i]! (fA cM b i)=0->∀j<i+1,ckT exR b s[j]! (fA cM b j)=0:=λh j hj=>by
  rcases Nat.lt_succ_iff_lt_or_eq.1 hj with q|q
  ·exact hI j q
  ·subst q;exact h
 rw [getElem!_pos s i hil] at hfin1 hup
 obtain ⟨n1,n2,n3,n4,n5⟩:=aEt hrs hil
 have hrl:=rows_len hg hil
 have hro:=λr (hr:r∈fA cM b i)=>aoF aEN hg hil hr
 have hto:=λm (hm:m∈s[i].sums)=>azT hg hil hm
 have hun:=λu (hu:u∈s[i].unique)=>aFP hrs hil hu
 have hfr:=λf (hf:f∈s[i].foreign)=>aAQ hrs hil hf
 have hchk:=hB.chk _ (zgm hil)
 generalize fA cM b i=rows at*
 have hrn:∀r∈rows,r.length<=1000:=λr hr=>by have:=(hro r hr).len;omega
 have f0:PF Tryz.prog 57 [.agg (mS s[i] rows b)] (PV.val (Value.int .i64 (stT exR b s[i] rows 0))):=aoL s[i] rows b (by omega) (by omega) λr hr=>by have:=hrn r hr;omega
 have f1:PF Tryz.prog 58 [.agg (mS s[i] rows b)] (PV.val (Value.int .i64 (stT exR b s[i] rows 1))):=alF s[i] rows b (by omega) (by omega) λu hu=>⟨by have:=(hun u hu).c1;omega,λr hr=>by have:=(hun u hu).c2;have:=(hro r hr).len;omega⟩
 have f2:stT exR b s[i] rows 0=0->PF Tryz.prog 59 [.agg (mS s[i] rows b)] (PV.val (Value.int .i64 (stT exR b s[i] rows 2))):=λh=>akL s[i] rows b (by omega) (by omega) hchk λr hr=>aDR (gD.1 h r hr) (hrn r hr)
 have f3:PF Tryz.prog 60 [.agg (mS s[i] rows b)] (PV.val (Value.int .i64 (stT exR b s[i] rows 3))):=afR s[i] rows b (by omega) (by omega) (λf hf=>⟨by have:=(hfr f hf).c1;omega,λr hr=>by have:=(hfr f hf).c2;have:=(hro r hr).len;omega⟩) hB.bs hB.hn
 have f4:PF Tryz.prog 61 [.agg (mS s[i] rows b)] (PV.val (Value.int .i64 (stT exR b s[i] rows 4))):=amB s[i] rows b (by omega) hto
 have hnone:=aAZ (ex:=exR) (b:=b) (t:=s[i]) (rows:=rows)
 have hat:=λy (hy:y<5)=>aEp (ex:=exR) (b:=b) (t:=s[i]) (rows:=rows) hy
 generalize ckT exR b s[i] rows=C at*
 generalize stT exR b s[i] rows=S at*
 focus ((try apply wO pk;rfl);(repeat' first|show All _;constructor|show Imp _ _;constructor|apply wC pk;rfl;rfl|apply wE pk;rfl;rfl|apply wD pk [] [];kernel_rfl;rfl;rfl|refine aA rfl ?_ ?_<;>intro h<;>(try simp at h)<;>try omega|(apply aH;rfl;rfl;rfl;(intro _;apply hsh<;>first|assumption|omega);rotate_left;rfl;rfl)|apply aN pk;(iterate 6 rfl);rotate_left;rfl;(intro hw;rfl);(intro hw;apply aI<;>omega);(intro _;rfl);rfl|intros;(try simp only [zql]);omega))
 refine aK (X:={x:Nat//x<=5/\∀j<x,S j=0}) (λy=>((((((((St.nil 41 st).var 3 27 ((bsC b))).var 7 123 (mS s[i] rows b)).pv 16 (.seq (s.map Tb.cells))).pv 17 ((PV.val (Value.int .i64 (((s.map Tb.cells).length:Nat)))))).pv 18 ((PV.val (Value.int .i64 ((i:Nat)))))).pv 29 (.agg [.fn 57 [], .fn 58 [], .fn 59 [], .fn 60 [], .fn 61 []])).pv 30 ((PV.val (Value.int .i64 ((y.1:Nat))))))) (λy=>5-y.1) ⟨0,by omega,by omega⟩ ?_ (λy=> ?_)
 ·((repeat (first|refine Sub.pv ?_ rfl|refine Sub.var ?_ rfl rfl));exact Sub.nil _ _ _ (zsr _) rfl)
 obtain ⟨y,hy,hyI⟩:=y
 dsimp only
 by_cases hend2:5<=y
 ·have hw:=hup (hnone λj hj=>hyI j (by omega))
  (try apply wO pk;rfl);(repeat' first|show All _;constructor|apply wC pk;rfl;rfl|refine aA rfl ?_ ?_<;>intro h<;>(try simp at h)<;>try omega|(refine ⟨⟨i+1,by omega,hw⟩, ?_,by simp only;omega⟩;((repeat (first|refine Sub.pv ?_ rfl|refine Sub.var ?_ rfl rfl));exact Sub.nil _ _ _ (zsr _) rfl))|intros;(try simp only [zql]);omega)
 have hfin:S y≠0->W=S y:=λh=>by
  have e:=hat y (by omega) hyI h
  rw [hfin1 (by rw [e];exact h),e]
 have hyu:S y=0->∀j<y+1,S j=0:=λh j hj=>by
  rcases Nat.lt_succ_iff_lt_or_eq.1 hj with q|q
  ·exact hyI j q
  ·subst q;exact h
 have h5:y=0\/y=1\/y=2\/y=3\/y=4:=by omega
 rcases h5 with rfl|rfl|rfl|rfl|rfl
 ·generalize S 0=Z at*
  (try apply wO pk;rfl);(repeat' first|show All _;constructor|show Imp _ _;constructor|apply wC pk;rfl;rfl|apply wE pk;rfl;rfl|refine aA rfl ?_ ?_<;>intro h<;>(try simp at h)<;>try omega|(refine aC ?_;refine ⟨_,_,_,rfl,zwr _,zsr _, ?_,rfl⟩;try first|rfl|(rw [hfin ‹_›]);done)|(apply aH;rfl;rfl;rfl;(intro _;apply f0<;>first|assumption|omega);rotate_left;rfl;rfl)|apply ixV pk 0;(iterate 6 rfl);(focus repeat' constructor);rfl;(intro _;rfl);(intro _;decide);(intro _;rfl);rfl|(refine ⟨⟨1,by omega,hyu ‹_›⟩, ?_,by simp only;omega⟩;((repeat (first|refine Sub.pv ?_ rfl|refine Sub.var ?_ rfl rfl));exact Sub.nil _ _ _ (zsr _) rfl))|intros;(try simp only [zql]);omega)
 ·generalize S 1=Z at*
  (try apply wO pk;rfl);(repeat' first|show All _;constructor|show Imp _ _;constructor|apply wC pk;rfl;rfl|apply wE pk;rfl;rfl|refine aA rfl ?_ ?_<;>intro h<;>(try simp at h)<;>try omega|(refine aC ?_;refine ⟨_,_,_,rfl,zwr _,zsr _, ?_,rfl⟩;try first|rfl|(rw [hfin ‹_›]);done)|(apply aH;rfl;rfl;rfl;(intro _;apply f1<;>first|assumption|omega);rotate_left;rfl;rfl)|apply ixV pk 1;(iterate 6 rfl);(focus repeat' constructor);rfl;(intro _;rfl);(intro _;decide);(intro _;rfl);rfl|(refine ⟨⟨2,by omega,hyu ‹_›⟩, ?_,by simp only;omega⟩;((repeat (first|refine Sub.pv ?_ rfl|refine Sub.var ?_ rfl rfl));exact Sub.nil _ _ _ (zsr _) rfl))|intros;(try simp only [zql]);omega)
 ·have f2:=f2 (hyI 0 (by omega))
  generalize S 2=Z at*
  (try apply wO pk;rfl);(repeat' first|show All _;constructor|show Imp _ _;constructor|apply wC pk;rfl;rfl|apply wE pk;rfl;rfl|refine aA rfl ?_ ?_<;>intro h<;>(try simp at h)<;>try omega|(refine aC ?_;refine ⟨_,_,_,rfl,zwr _,zsr _, ?_,rfl⟩;try first|rfl|(rw [hfin ‹_›]);done)|(apply aH;rfl;rfl;rfl;(intro _;apply f2<;>first|assumption|omega);rotate_left;rfl;rfl)|apply ixV pk 2;(iterate 6 rfl);(focus repeat' constructor);rfl;(intro _;rfl);(intro _;decide);(intro _;rfl);rfl|(refine ⟨⟨3,by omega,hyu ‹_›⟩, ?_,by simp only;omega⟩;((repeat (first|refine Sub.pv ?_ rfl|refine Sub.var ?_ rfl rfl));exact Sub.nil _ _ _ (zsr _) rfl))|intros;(try simp only [zql]);omega)
 ·generalize S 3=Z at*
  (try apply wO pk;rfl);(repeat' first|show All _;constructor|show Imp _ _;constructor|apply wC pk;rfl;rfl|apply wE pk;rfl;rfl|refine aA rfl ?_ ?_<;>intro h<;>(try simp at h)<;>try omega|(refine aC ?_;refine ⟨_,_,_,rfl,zwr _,zsr _, ?_,rfl⟩;try first|rfl|(rw [hfin ‹_›]);done)|(apply aH;rfl;rfl;rfl;(intro _;apply f3<;>first|assumption|omega);rotate_left;rfl;rfl)|apply ixV pk 3;(iterate 6 rfl);(focus repeat' constructor);rfl;(intro _;rfl);(intro _;decide);(intro _;rfl);rfl|(refine ⟨⟨4,by omega,hyu ‹_›⟩, ?_,by simp only;omega⟩;((repeat (first|refine Sub.pv ?_ rfl|refine Sub.var ?_ rfl rfl));exact Sub.nil _ _ _ (zsr _) rfl))|intros;(try simp only [zql]);omega)
 ·generalize S 4=Z at*
  (try apply wO pk;rfl);(repeat' first|show All _;constructor|show Imp _ _;constructor|apply wC pk;rfl;rfl|apply wE pk;rfl;rfl|refine aA rfl ?_ ?_<;>intro h<;>(try simp at h)<;>try omega|(refine aC ?_;refine ⟨_,_,_,rfl,zwr _,zsr _, ?_,rfl⟩;try first|rfl|(rw [hfin ‹_›]);done)|(apply aH;rfl;rfl;rfl;(intro _;apply f4<;>first|assumption|omega);rotate_left;rfl;rfl)|apply ixV pk 4;(iterate 6 rfl);(focus repeat' constructor);rfl;(intro _;rfl);(intro _;decide);(intro _;rfl);rfl|(refine ⟨⟨5,by omega,hyu ‹_›⟩, ?_,by simp only;omega⟩;((repeat (first|refine Sub.pv ?_ rfl|refine Sub.var ?_ rfl rfl));exact Sub.nil _ _ _ (zsr _) rfl))|intros;(try simp only [zql]);omega)
end
end Go.Proofs.YtloecjjehapblaaGreatDoor
namespace Go.Proofs.YtloecjjehapblaaGreatDoor
open Go Go.Abs
attribute [local irreducible] Ev PWp
set_option maxRecDepth 10000
set_option maxHeartbeats 4000000
def aBI (t:Tb):Nat:=t.cols.length+t.unique.length+t.checks.length+t.foreign.length+t.sums.length
def afO (s:Sc):Nat:=(s.map aBI).sum
def aaN (s:Sc):Bool:=decide (s.length<=20)&&decide (afO s<=400)
theorem aEI {s:Sc} {i:Nat} (h:i<s.length):afO (s.take (i+1))=afO (s.take i)+aBI s[i]:=by
 unfold afO
 rw [List.take_succ_eq_append_getElem h,List.map_append,List.sum_append];simp
theorem aCE {s:Sc} {t:Tb} (h:t∈s):aBI t<=afO s:=by
 unfold afO
 induction s with
 |nil=>cases h
 |cons a s ih=>
  rw [List.map_cons,List.sum_cons]
  rcases zmc.1 h with rfl|h
  ·omega
  ·have:=ih h;omega
theorem azA (s:Sc) (hl:s.length<200000000000000) (h20:¬s.length<=20):PF Tryz.prog 96 [.agg (scC s)] (PV.val (Value.bool (false))):=by
 refine aG aF Tryz.func96 (by kernel_rfl) rfl rfl rfl rfl (λst=> ?_)
 focus ((try apply wO pk;rfl);(repeat' (show All _;constructor)))
 refine aK (X:={x:Nat×Int//x.1<=s.length}) (λi=>((((St.nil 47 st).var 1 24 ((scC s))).pv 3 ((PV.val (Value.int .i64 (i.1.2))))).pv 4 ((PV.val (Value.int .i64 ((i.1.1:Nat))))))) (λi=>s.length-i.1.1) ⟨(0,0),by simp⟩ ?_ (λi=> ?_)
 ·((repeat (first|refine Sub.pv ?_ rfl|refine Sub.var ?_ rfl rfl));exact Sub.nil _ _ _ (zsr _) rfl)
 obtain ⟨⟨i,n⟩,hi⟩:=i
 simp only at hi
 dsimp only
 by_cases hend:s.length<=i
 ·(try apply wO pk;rfl);(repeat' first|show All _;constructor|show Imp _ _;constructor|show ImpX _ _ _ _;constructor|apply wC pk;rfl;rfl|refine aA rfl ?_ ?_<;>intro h<;>(try simp at h)<;>try omega|(refine aC ?_;refine ⟨_,_,_,rfl,zwr _,zsr _, ?_,rfl⟩;try first|rfl|(rw [zql,decide_eq_false (by omega)];rfl);done))
 have hil:i<s.length:=by omega
 focus ((try apply wO pk;rfl);(repeat' first|show All _;constructor|apply wC pk;rfl;rfl|refine aA rfl ?_ ?_<;>intro h<;>(try simp at h)<;>try omega))
 (apply aN pk;(iterate 6 rfl);rotate_left;rfl;(intro hw;rfl);(intro hw;apply aI<;>omega);(intro _;rfl);rfl)
 ·(repeat (first|apply lT aF;iterate 4 rfl|apply akW aF;iterate 4 rfl|apply aiY aF;iterate 5 rfl))
  refine sD ?_
  refine kC ?_
  (repeat (first|(apply aGo;(iterate 5 rfl);intro n')|apply lT aF;iterate 4 rfl|apply aAG aF;rfl;rfl;exact λ_=>rfl;rfl;rfl|apply asS aF;rfl;rfl;rfl;rfl;exact λ_=>rfl;rfl;rfl))
  (try apply wO pk;rfl);(repeat' first|show All _;constructor|apply wE pk;rfl;rfl|(refine ⟨⟨(i+1,n'),by simp only;omega⟩, ?_,by simp only;omega⟩;((repeat (first|refine Sub.pv ?_ rfl|refine Sub.var ?_ rfl rfl));exact Sub.nil _ _ _ (zsr _) rfl))|intros;(try simp only [zql]);omega)
 ·(try apply wO pk;rfl);(repeat' first|show All _;constructor|show Imp _ _;constructor)
theorem anS (s:Sc) (hl:s.length<200000000000000) (hB:ScB s):PF Tryz.prog 96 [.agg (scC s)] (PV.val (Value.bool (aaN s))):=by
 by_cases h20:¬s.length<=20
 ·have hF:aaN s=false:=by unfold aaN;rw [decide_eq_false h20];rfl
  rw [hF]
  exact azA s hl h20
 replace h20:=Decidable.of_not_not h20
 refine aG aF Tryz.func96 (by kernel_rfl) rfl rfl rfl rfl (λst=> ?_)
 focus ((try apply wO pk;rfl);(repeat' (show All _;constructor)))
 refine aK (X:={x:Nat×Int//x.1<=s.length/\x.2=((afO (s.take x.1):Nat):Int)/\x.2<=x.1*1000000000000000}) (λi=>((((St.nil 47 st).var 1 24 ((scC s))).pv 3 ((PV.val (Value.int .i64 (i.1.2))))).pv 4 ((PV.val (Value.int .i64 ((i.1.1:Nat))))))) (λi=>s.length-i.1.1) ⟨(0,0),by simp,rfl,by simp⟩ ?_ (λi=> ?_)
 ·((repeat (first|refine Sub.pv ?_ rfl|refine Sub.var ?_ rfl rfl));exact Sub.nil _ _ _ (zsr _) rfl)
 obtain ⟨⟨i,n⟩,hi,hn,hb2⟩:=i
 simp only at hi hn hb2
 dsimp only
 by_cases hend:s.length<=i
 ·rw [List.take_of_length_le hend] at hn
  subst hn
  have e:aaN s=(decide ((s.length:Int)<=20)&&decide ((afO s:Int)<=400)):=by unfold aaN;rw [Bool.eq_iff_iff];simp;omega
  rw [e]
  (try apply wO pk;rfl);(repeat' first|show All _;constructor|show Imp _ _;constructor|show ImpX _ _ _ _;constructor|apply wC pk;rfl;rfl|refine aA rfl ?_ ?_<;>intro h<;>(try simp at h)<;>try omega|(refine aC ?_;refine ⟨_,_,_,rfl,zwr _,zsr _, ?_,rfl⟩;try first|rfl|(rw [zql]);done))
 have hil:i<s.length:=by omega
 have hu:=aEI hil
 have hT:=hB _ (zgm hil)
 obtain ⟨c1,c2,c3,c4,c5⟩:=hT
 have hs:aBI s[i]=s[i].cols.length+s[i].unique.length+s[i].checks.length+s[i].foreign.length+s[i].sums.length:=rfl
 have l1:(s[i].cols.map Co.cells).length=s[i].cols.length:=zql _
 have l2:(s[i].unique.map I1).length=s[i].unique.length:=zql _
 have l3:(s[i].foreign.map Fr.cells).length=s[i].foreign.length:=zql _
 have l4:(s[i].sums.map Su.cells).length=s[i].sums.length:=zql _
 have w1:n+((s[i].cols.map Co.cells).length:Int)+((s[i].unique.map I1).length:Int)+(s[i].checks.length:Int)+((s[i].foreign.map Fr.cells).length:Int)+((s[i].sums.map Su.cells).length:Int)=((afO (s.take (i+1)):Nat):Int):=by omega
 have w2:n+((s[i].cols.map Co.cells).length:Int)+((s[i].unique.map I1).length:Int)+(s[i].checks.length:Int)+((s[i].foreign.map Fr.cells).length:Int)+((s[i].sums.map Su.cells).length:Int)<=((i+1:Nat):Int)*1000000000000000:=by omega
 have n0:0<=n:=by omega
 (try apply wO pk;rfl);(repeat' first|show All _;constructor|show Imp _ _;constructor|apply wC pk;rfl;rfl|apply wE pk;rfl;rfl|refine aA rfl ?_ ?_<;>intro h<;>(try simp at h)<;>try omega|apply aN pk;(iterate 6 rfl);rotate_left;rfl;(intro hw;rfl);(intro hw;apply aI<;>omega);(intro _;rfl);rfl|(refine ⟨⟨(i+1,n+((s[i].cols.map Co.cells).length:Int)+((s[i].unique.map I1).length:Int)+(s[i].checks.length:Int)+((s[i].foreign.map Fr.cells).length:Int)+((s[i].sums.map Su.cells).length:Int)),by simp only;omega,w1,w2⟩, ?_,by simp only;omega⟩;((repeat (first|refine Sub.pv ?_ rfl|refine Sub.var ?_ rfl rfl));exact Sub.nil _ _ _ (zsr _) rfl))|intros;(try simp only [zql]);omega)
noncomputable def fewX (s:Sc):Bool:=s.all λt=>t.checks.all λc=>decide (X.nodesR 25 (exOf c) 60<=60)
noncomputable def fewC (s:Sc) (b:Bs):Bool:=(aaN s&&uB b)&&fewX s
theorem avQ (s:Sc) (b:Bs) (hl:s.length<200000000000000) (hB:ScB s) (hK:∀t∈s,oT t) (hb:BsB b):PF Tryz.prog 51 [.agg (scC s), .agg (bsC b)] (PV.val (Value.bool (fewC s b))):=by
 have h1:=anS s hl hB
 have h2:=ayN b hb.1 hb.2
 unfold fewC
 by_cases hg:¬(aaN s&&uB b)=true
 ·have hg:(aaN s&&uB b)=false:=by simpa using hg
  rw [hg]
  generalize aaN s=A at*
  generalize uB b=B at*
  refine aG aF Tryz.func51 (by kernel_rfl) rfl rfl rfl rfl (λst=> ?_)
  (try apply wO pk;rfl);(repeat' first|show All _;constructor|show Imp _ _;constructor|show ImpX _ _ _ _;constructor|apply wC pk;rfl;rfl|apply wE pk;rfl;rfl|refine aA rfl ?_ ?_<;>intro h<;>(try simp at h)<;>try omega|(refine aC ?_;refine ⟨_,_,_,rfl,zwr _,zsr _, ?_,rfl⟩;try first|rfl|(fail);done)|(apply aH;rfl;rfl;rfl;(intro _;(first|apply h1|apply h2)<;>first|assumption|omega);rotate_left;rfl;rfl)|exfalso;simp_all;done)
 replace hg:=Decidable.of_not_not hg
 rw [hg]
 rw [zba] at hg
 rw [hg.1] at h1
 rw [hg.2] at h2
 have hl20:s.length<=20:=by have:=hg.1;unfold aaN at this;simp at this;exact this.1
 have hyes:(∀j (h:j<s.length),(s[j].checks.all λc=>decide (X.nodesR 25 (exOf c) 60<=60))=true)->fewX s=true:=λh=>by
  unfold fewX
  rw [zal]
  intro t ht
  obtain ⟨j,hj,rfl⟩:=List.getElem_of_mem ht
  exact h j hj
 have hno:∀j (h:j<s.length),∀y (hy:y<s[j].checks.length),decide (X.nodesR 25 (exOf s[j].checks[y]) 60<=60)=false->fewX s=false:=λj hj y hy h=>by
  unfold fewX
  rw [<-Bool.not_eq_true,zal]
  intro q
  have:=zal.1 (q _ (zgm hj)) _ (zgm hy)
  rw [h] at this;cases this
 generalize fewX s=W at*
 refine aG aF Tryz.func51 (by kernel_rfl) rfl rfl rfl rfl (λst=> ?_)
 focus ((try apply wO pk;rfl);(repeat' first|show All _;constructor|show Imp _ _;constructor|show ImpX _ _ _ _;constructor|apply wC pk;rfl;rfl|apply wE pk;rfl;rfl|refine aA rfl ?_ ?_<;>intro h<;>(try simp at h)<;>try omega|(apply aH;rfl;rfl;rfl;(intro _;(first|apply h1|apply h2)<;>first|assumption|omega);rotate_left;rfl;rfl)))
 refine aK (X:={x:Nat//x<=s.length/\∀j (h:j<s.length),j<x->(s[j].checks.all λc=>decide (X.nodesR 25 (exOf c) 60<=60))=true}) (λi=>(((St.nil 50 st).var 2 24 ((scC s))).pv 7 ((PV.val (Value.int .i64 ((i.1:Nat))))))) (λi=>s.length-i.1) ⟨0,by omega,by omega⟩ ?_ (λi=> ?_)
 ·((repeat (first|refine Sub.pv ?_ rfl|refine Sub.var ?_ rfl rfl));exact Sub.nil _ _ _ (zsr _) rfl)
 obtain ⟨i,hi,hI⟩:=i
 dsimp only
 by_cases hend:s.length<=i
 ·have e:W=true:=hyes λj hj=>hI j hj (by omega)
  (try apply wO pk;rfl);(repeat' first|show All _;constructor|apply wC pk;rfl;rfl|refine aA rfl ?_ ?_<;>intro h<;>(try simp at h)<;>try omega|(refine aC ?_;refine ⟨_,_,_,rfl,zwr _,zsr _, ?_,rfl⟩;try first|rfl|(rw [e];rfl);done))
 have hil:i<s.length:=by omega
 have hup:(s[i].checks.all λc=>decide (X.nodesR 25 (exOf c) 60<=60))=true->∀j (h:j<s.length),j<i+1->(s[j].checks.all λc=>decide (X.nodesR 25 (exOf c) 60<=60))=true:=λh j hj hji=>by
  rcases Nat.lt_succ_iff_lt_or_eq.1 hji with q|q
  ·exact hI j hj q
  ·subst q;exact h
 have hchk:=hK _ (zgm hil)
 have hckl:=(hB _ (zgm hil)).k
 have hno:=hno i hil
 focus ((try apply wO pk;rfl);(repeat' first|show All _;constructor|apply wC pk;rfl;rfl|refine aA rfl ?_ ?_<;>intro h<;>(try simp at h)<;>try omega))
 refine aK (X:={x:Nat//x<=s[i].checks.length/\∀j (h:j<s[i].checks.length),j<x->decide (X.nodesR 25 (exOf s[i].checks[j]) 60<=60)=true}) (λy=>((((St.nil 50 st).var 2 24 ((scC s))).pv 7 ((PV.val (Value.int .i64 ((i:Nat)))))).pv 8 ((PV.val (Value.int .i64 ((y.1:Nat))))))) (λy=>s[i].checks.length-y.1) ⟨0,by omega,by omega⟩ ?_ (λy=> ?_)
 ·((repeat (first|refine Sub.pv ?_ rfl|refine Sub.var ?_ rfl rfl));exact Sub.nil _ _ _ (zsr _) rfl)
 obtain ⟨y,hy,hyI⟩:=y
 dsimp only
 by_cases hend2:s[i].checks.length<=y
 ·have hw:=hup (by
   rw [zal]
   intro c hc
   obtain ⟨j,hj,rfl⟩:=List.getElem_of_mem hc
   exact hyI j hj (by omega))
  (try apply wO pk;rfl);(repeat' first|show All _;constructor|show Imp _ _;constructor|apply wC pk;rfl;rfl|apply wE pk;rfl;rfl|refine aA rfl ?_ ?_<;>intro h<;>(try simp at h)<;>try omega|apply aN pk;(iterate 6 rfl);rotate_left;rfl;(intro hw;rfl);(intro hw;apply aI<;>omega);(intro _;rfl);rfl|(refine ⟨⟨i+1,by omega,hw⟩, ?_,by simp only;omega⟩;((repeat (first|refine Sub.pv ?_ rfl|refine Sub.var ?_ rfl rfl));exact Sub.nil _ _ _ (zsr _) rfl))|intros;(try simp only [zql]);omega)
 have hyl:y<s[i].checks.length:=by omega
 obtain ⟨hok,hcc⟩:=yH (hchk _ (zgm hyl))
 have hF:=X.Few_spec hok
 have hno:=hno y hyl
 have hyu:decide (X.nodesR 25 (exOf s[i].checks[y]) 60<=60)=true->∀j (h:j<s[i].checks.length),j<y+1->decide (X.nodesR 25 (exOf s[i].checks[j]) 60<=60)=true:=λh j hj hji=>by
  rcases Nat.lt_succ_iff_lt_or_eq.1 hji with q|q
  ·exact hyI j hj q
  ·subst q;exact h
 have hget:s[i].checks[y]?=some (exOf s[i].checks[y]).cells:=by rw [hcc,List.getElem?_eq_getElem hyl]
 generalize decide (X.nodesR 25 (exOf s[i].checks[y]) 60<=60)=D at*
 generalize exOf s[i].checks[y]=x at*
 obtain ⟨xk,xn,xv,xo⟩:=x
 cases D with
 |true=>
  (try apply wO pk;rfl);(repeat' first|show All _;constructor|show Imp _ _;constructor|apply wC pk;rfl;rfl|apply wE pk;rfl;rfl|refine aA rfl ?_ ?_<;>intro h<;>(try simp at h)<;>try omega|(apply aH;rfl;rfl;rfl;(intro _;apply hF<;>first|assumption|omega);rotate_left;rfl;rfl)|apply aN pk;(iterate 6 rfl);rotate_left;rfl;(first|(intro hw;rfl);(intro hw;apply aI<;>omega);(intro _;rfl)|(intro hw;rfl);(intro hw;apply hget<;>omega);(intro _;rfl));rfl|(refine ⟨⟨y+1,by omega,hyu rfl⟩, ?_,by simp only;omega⟩;((repeat (first|refine Sub.pv ?_ rfl|refine Sub.var ?_ rfl rfl));exact Sub.nil _ _ _ (zsr _) rfl))|intros;(try simp only [zql]);omega)
 |false=>
  have e:=hno rfl
  (try apply wO pk;rfl);(repeat' first|show All _;constructor|show Imp _ _;constructor|apply wC pk;rfl;rfl|apply wE pk;rfl;rfl|refine aA rfl ?_ ?_<;>intro h<;>(try simp at h)<;>try omega|(refine aC ?_;refine ⟨_,_,_,rfl,zwr _,zsr _, ?_,rfl⟩;try first|rfl|(rw [e];rfl);done)|(apply aH;rfl;rfl;rfl;(intro _;apply hF<;>first|assumption|omega);rotate_left;rfl;rfl)|apply aN pk;(iterate 6 rfl);rotate_left;rfl;(first|(intro hw;rfl);(intro hw;apply aI<;>omega);(intro _;rfl)|(intro hw;rfl);(intro hw;apply hget<;>omega);(intro _;rfl));rfl)
theorem CkB.of {s:Sc} {b:Bs} (h:fewC s b=true) (hB:ScB s) (hK:∀t∈s,oT t):CkB 100 s b:=by
 unfold fewC aaN at h
 simp only [zba,zde] at h
 obtain ⟨⟨⟨h1,h2⟩,h3⟩,h4⟩:=h
 exact ⟨hB,h1,λt ht=>by have:=aCE ht;unfold aBI at this;omega,hK,aDZ h3,by omega⟩
theorem aHm {A B:List (List PV)} (hl:A.length=B.length) (h:∀x∈A.zip B,WkL x.1 x.2):Wk (.seq A) (.seq B):=by
 have:=Wk.rows (f:=Prod.fst) (k:=Prod.snd) (l:=A.zip B) h
 rwa [List.map_fst_zip (by omega),List.map_snd_zip (by omega)] at this
def alG :PV:= .val (.slice none 0 0)
def aGS (n:Int):X.Ex:= .mk 1 0 ⟨1,n,e0⟩ []
def noE :X.Ex:= .mk 9 0 X.v0 [.mk 5 0 X.v0 [.mk 0 2 X.v0 [],aGS 4]]
def plC :List Co:=[⟨⟨#[105,100]⟩,0,1,false⟩,⟨⟨#[117]⟩,0,1,true⟩,⟨⟨#[110]⟩,0,1,false⟩,⟨⟨#[103]⟩,0,1,true⟩,⟨⟨#[117,112]⟩,0,1,true⟩]
def plT (name:ByteArray):Tb:=⟨name,plC,[1],[noE.cells],[⟨4,0,0⟩],[⟨2,3,10⟩]⟩
def plS :Sc:=[plT ⟨#[97]⟩]
def aG9 (n:Int):Vl:=if n<0 then Vl.zero else ⟨1,n,e0⟩
def cV (n:Int):Cl:=⟨0,aG9 n,[]⟩
def lnC (k u n g up:Int):Ln:=⟨k,[cV k,cV u,cV n,cV g,cV up],[]⟩
theorem aoW :noE.ok:=by simp [noE,aGS,X.Ex.ok,X.Ex.oks]
theorem aDc (name:ByteArray):oT (plT name):=λc hc=>by
 rw [List.mem_singleton.1 hc]
 exact ⟨noE,aoW,rfl⟩
def exP (r:List Vl):Int:=chE (X.EvalR noE r)
theorem yF {α:Type} (f:α->Int) (x:α):dR f [x]=f x:=by
 rw [wF]
 split
 ·rename_i h;rw [h];rfl
 ·rfl
theorem aE7 (name:ByteArray):exR (plT name)=exP:=by
 funext r
 unfold exR exP
 show dR _ [noE.cells]=_
 rw [yF,asF aoW]
theorem auO (name:ByteArray):rightX (plT name)=0:=by
 unfold rightX
 show dR _ [noE.cells]=_
 rw [yF,asF aoW]
 kernel_rfl
theorem atQ :rightC plS=0:=by
 unfold rightC
 rw [if_pos (show cL plS=0 from by kernel_rfl)]
 show dR rightX [plT ⟨#[97]⟩]=0
 rw [yF,auO]
theorem aEh {ex ex':Tb->List Vl->Int} {b:Bs} {t:Tb} {rows:List (List Vl)} (h:ex t=ex' t):ckT ex b t rows=ckT ex' b t rows:=by unfold ckT;rw [h]
theorem aDG {sh:Cl->Vl} {ex:Tb->List Vl->Int} {t:Tb} {b:Bs}:ckW sh ex [t] b=ckT ex b t (fA sh b 0):=by
 unfold ckW
 show dR _ [0]=_
 rw [yF];rfl
theorem aGz :ScB plS:=λt ht=>by
 rw [List.mem_singleton.1 ht]
 exact ⟨by decide,by decide,by decide,by decide,by decide⟩
theorem plB {b:Bs} (h:BsS 100 b):CkB 100 plS b:=⟨aGz,by decide,λt ht=>by rw [List.mem_singleton.1 ht];decide,λt ht=>by rw [List.mem_singleton.1 ht];exact aDc _,h,by decide⟩
theorem apP {b:Bs} {c:Int} (h:BsS 100 b) (hg:cP T.rightP plS b=true) (hc:ckT (λ_=>exP) b (plT ⟨#[97]⟩) (fA cM b 0)=c):PF Tryz.prog 20 [.agg (scC plS), .agg (bsC b)] (PV.val (Value.int .i64 (c))):=by
 have e:whyC plS b=c:=by
  unfold whyC mayC
  rw [atQ,hg,if_pos (by decide)]
  show ckW cM exR [plT ⟨#[97]⟩] b=c
  rw [aDG,aEh (ex':=λ_=>exP) (aE7 _),hc]
 exact e▸aaB (plB h)
def bW1 :Bs:=[⟨[lnC 1 1 6 0 2,lnC 2 (-1) 5 1 (-1)]⟩]
def bW2 :Bs:=[⟨[lnC 1 1 6 0 2,lnC 2 (-1) 5 0 (-1)]⟩]
def bW3 :Bs:=[⟨[lnC 1 1 1 0 (-1),lnC 2 1 1 0 (-1)]⟩]
theorem w1 :PF Tryz.prog 20 [.agg (scC plS), .agg (bsC bW1)] (PV.val (Value.int .i64 (0))):=apP (by unfold BsS LnS;decide) (by kernel_rfl) (by kernel_rfl)
theorem w2 :PF Tryz.prog 20 [.agg (scC plS), .agg (bsC bW2)] (PV.val (Value.int .i64 (11))):=apP (by unfold BsS LnS;decide) (by kernel_rfl) (by kernel_rfl)
theorem w3 :PF Tryz.prog 20 [.agg (scC plS), .agg (bsC bW3)] (PV.val (Value.int .i64 (8))):=apP (by unfold BsS LnS;decide) (by kernel_rfl) (by kernel_rfl)
end Go.Proofs.YtloecjjehapblaaGreatDoor
