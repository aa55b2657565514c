import Derived.Test.YtppdefkgmegipaaGreatDoorClAq
set_option linter.unusedSimpArgs false
set_option linter.unusedVariables false
namespace Go.Proofs.YtppdefkgmegipaaGreatDoor
open Go Go.Abs
attribute [local irreducible] Ev PWp
set_option maxRecDepth 10000
set_option maxHeartbeats 4000000
theorem arZ :∀(l:List Int) {a b:It},ltQ l a b=false->ltQ l b a=false->a.row=b.row
 |[],a,b,h1,h2=>lessR_ord.eq h1 h2
 |n::l,a,b,h1,h2=>by
  unfold ltQ at h1 h2
  split at h1
  ·cases h1
  ·rename_i q1
   split at h2
   ·cases h2
   ·rename_i q2
    rw [zn q2] at h1
    exact arZ l h1 h2
theorem tE {lt:It->It->Bool} (he:∀{a b},lt a b=false->lt b a=false->a.row=b.row) {l:List It} (hn:(bW l).Nodup) (hp:l.Pairwise λa b=>lt b a=false):l.Pairwise λa b=>lt a b=true:=by
 unfold bW List.Nodup at hn
 rw [List.pairwise_map] at hn
 refine (hn.and hp).imp fun {a b} q=> ?_
 cases e:lt a b with
 |true=>rfl
 |false=>exact absurd (he e q.2) q.1
theorem avQ {lt:It->It->Bool} (hw:WeakO lt) (he:∀{a b},lt a b=false->lt b a=false->a.row=b.row) {l r:List It} (hn:(bW l).Nodup) (hp:r.Perm l) (hs:r.Pairwise λa b=>lt b a=false):r=yG lt l:=
 uI (r:=λa b=>lt a b=true) (fun {a b c} h1 h2=>hw.swo.trans _ _ _ h1 h2) (fun {a} q=>by have:=hw.asy q;rw [q] at this;cases this)
  (tE he ((List.Perm.nodup_iff (hp.map It.row)).2 hn) hs) (tE he ((List.Perm.nodup_iff ((dW lt l).map It.row)).2 hn) (abK hw l)) λx=>hp.mem_iff.trans (dW lt l).mem_iff.symm
theorem aAg {l:List It} {r:List Vl} {d:List Dt} (h:(bW l).Nodup):(bW (jM l r d)).Nodup:=by
 obtain ⟨rv,m,d0,b,hP⟩:=aBT l r d
 rw [hP.rows]
 unfold atL
 cases hf:(bW l).findIdx? (λx=>decide (x=r)) with
 |some k=>exact h
 |none=>
  refine List.nodup_append.2 ⟨h,by simp,λa ha b hb=> ?_⟩
  rw [zms] at hb
  subst hb
  intro e
  subst e
  have:=List.findIdx?_eq_none_iff.1 hf a ha
  simp at this
theorem afJ (q:Qu) (ws:List Wd):(bW (gR q ws)).Nodup:=by
 have key:∀(ws:List Wd) (l:List It),(bW l).Nodup->(bW (ws.foldl (λl w=>jM l (fJ q w.row) w.by_) l)).Nodup:=λws=>by
  induction ws with
  |nil=>exact λl h=>h
  |cons w ws ih=>exact λl h=>ih _ (aAg h)
 exact key ws [] (by simp [bW])
theorem amP (q:Qu) (hol:q.order.length<4611686018427387904) (a b:It) (hp:∀n∈q.order, -9223372036854775808<=n/\n<=9223372036854775807/\max n (-1-n)<a.row.length/\max n (-1-n)<b.row.length) (ha:a.row.length<4611686018427387904) (hb:b.row.length<4611686018427387904):PF Tryz.prog 50 ([.agg a.cells, .agg b.cells]++[.rp q.cells]) (vi (fR q.order a b)):=by
 have h:=pN q hol a b hp ha hb
 generalize fR q.order a b=O at*
 show PF Tryz.prog 50 [.agg a.cells, .agg b.cells, .rp q.cells] (vi (O))
 refine pF Tryz.func50 rfl (λst=> ?_)
 (repeat' first|(show Cn (.r _ _ _);refine .any ⟨_,_,_,rfl,zwr _,zsr _, ?_,rfl⟩;try rfl)|apply wZ;rfl|show Cn _;constructor|exact rfl|apply KR.mk;kernel_rfl|(apply h<;>(first|assumption|omega))|apply wY;rfl|omega|intros;omega|simp only [zql];omega|intros;simp only [zql];omega|intros;simp only;omega|intro h;omega|intro h;simp at h;done|intro h;simp at h;omega|(intro h;simp at h)|intro h)
theorem aaE (q:Qu) (hol:q.order.length<4611686018427387904) {l:List It} (hp:∀n∈q.order, -9223372036854775808<=n/\n<=9223372036854775807/\∀x∈l,max n (-1-n)<x.row.length) (hr:∀x∈l,x.row.length<4611686018427387904) (hn:(bW l).Nodup) {st:aD} {id:Nat} (hst:st id=some (.arr 77 (l.map It.cells))) (h62:l.length<4611686018427387904):
  PC Tryz.prog 49 [.vec id 3 0 l.length, .fn 50 [.rp q.cells]] st λ_ S=>S=upd st id (some (.arr 77 ((yG (ltQ q.order) l).map It.cells))):=by
 have:=avT (P:=Tryz.prog) aDk (by kernel_rfl) (k:=3) Tryz.isAgg77 Tryz.sizeOf77 (f:=It.cells) (λ_=>rfl) (λ_=>rfl) (cmp:=fR q.order) (by
  have hw:=(xK q.order).swo
  have e:ltOf (fR q.order)=ltQ q.order:=by
   funext a b
   rw [Bool.eq_iff_iff]
   unfold ltOf
   rw [zde]
   exact oO q.order a b
  rw [e];exact hw) (gf:=50) (by kernel_rfl) (caps:=[.rp q.cells]) (d:=l) (λx hx y hy=>amP q hol x y (λn h=>⟨(hp n h).1,(hp n h).2.1,(hp n h).2.2 x hx,(hp n h).2.2 y hy⟩) (hr x hx) (hr y hy)) (st:=st) (id:=id) (n:=l.length) (e:=77) (by kernel_rfl) hst rfl h62
 refine ⟨this.1,λw g vs h1 h2=>(this.2 w g vs h1 h2).mono ?_⟩
 rintro e w' ⟨v,p,S,g',h3,⟨r,hS,hpm,hw⟩,h4⟩
 have e1:=avQ (xK q.order) (fun {a b}=>arZ q.order) hn hpm (hw.imp fun {a b} h=>by rw [oO] at h;simpa using h)
 exact ⟨v,p,S,g',h3,by rw [hS,e1],h4⟩
def tQ (b:Bs) (q:Qu):List Wd:=(mP b q).filter λw=>lG q.where_ w.row
def bR (s:Sc) (b:Bs) (q:Qu):List It×Int:=if dE T.rightP s b=false then ([],1) else if fB s q≠0 then ([],fB s q) else (yG (ltQ q.order) (gR q (tQ b q)),0)
structure AnsH (s:Sc) (b:Bs) (q:Qu):Prop where
 hr:PF Tryz.prog 44 [.agg (scC s), .agg (bsC b)] (vb (dE T.rightP s b))
 hc:dE T.rightP s b=true->∀t∈s,t.cols.length<=1000
 hS:QuS q
 hg:nD q=false
 hl:q.limit<0
 hW:dE T.rightP s b=true->fB s q=0->WdOK b q/\∀w∈mP b q,X.rowOK w.row/\w.by_.length<=100000
def aC2 (st:aD) (K:List It×Int) (r:PV) (S:aD):Prop:=(r= .tup [.val (.slice none 0 0),(vi (K.2))]/\K.1=[]/\StSub st S)\/∃j,r= .tup [.vec j 3 0 K.1.length,(vi (K.2))]/\st j=none/\S j=some (.arr 77 (K.1.map It.cells))/\∀z,st z≠none->S z=st z
theorem arF {l:List Wd} {f:Wd->Bool} {i:Nat} (h:i<l.length):(l.take (i+1)).filter f=(l.take i).filter f++if f l[i]=true then [l[i]] else []:=by
 rw [List.take_succ_eq_append_getElem h,List.filter_append]
 by_cases hf:f l[i]=true
 ·rw [zp hf];simp [hf]
 ·rw [zn hf];simp [hf]
theorem vR {s:Sc} {q:Qu} (h:fB s q=0):¬abP q/\(∀n∈q.order,max n (-1-n)<q.outs.length)/\(dC s q).2=0:=by
 unfold fB at h
 split at h
 ·rename_i h1;exact absurd h h1
 ·rename_i h1
  split at h
  ·cases h
  ·rename_i h2
   split at h
   ·rename_i h3;exact absurd h h3
   ·split at h
    ·rename_i h4;exact absurd h h4
    ·refine ⟨h2,λn hn=> ?_,zdn h1⟩
     have:=aaJ.1 h n hn
     unfold auW at this
     split at this
     ·cases this
     ·omega
theorem agD {st S0 S:aD} {j:Nat} {o:Option AObj} (hs0:∀z,st z≠none->S0 z=st z) (hs1:∀z,S0 z=none->st z=none) (hj:S0 j=none) (hk:∀z,S0 z≠none->S z=S0 z):∀z,st z≠none->upd S j o z=st z:=λz hz=>by
 rw [aC (d:=j) (t:=z) (λe=>hz (hs1 z (e▸hj))),hk z (by rw [hs0 z hz];exact hz),hs0 z hz]
theorem akK {st S0 S:aD} {i:Nat} {a o:Option AObj} (hs0:∀z,st z≠none->S0 z=st z) (hk:∀z,S0 z≠none->S z=S0 z) (hi:S i=none):StSub st (upd (upd S i a) i o):=λz=>by
 by_cases hz:st z=none
 ·exact .inl hz
 ·right
  have e:S z=st z:=(hk z (by rw [hs0 z hz];exact hz)).trans (hs0 z hz)
  have n:z≠i:=λq=>hz (by rw [<-e,q];exact hi)
  rw [aC n,aC n,e]
theorem anH {s:Sc} {b:Bs} {q:Qu} (hA:AnsH s b q) (st:aD):PC Tryz.prog 20 [.agg (scC s), .agg (bsC b), .agg q.cells] st (aC2 st (bR s b q)):=by
 have hr:=hA.hr
 unfold bR
 cases hb:dE T.rightP s b with
 |false=>
  rw [hb] at hr
  rw [zp rfl]
  refine pC Tryz.func20 rfl ?_
  (repeat' first|apply wDx pk;rfl;kernel_rfl;rfl;rfl|(apply Cn.cf;focus ((apply hr<;>(first|assumption|omega));done))|(apply cV;focus ((apply hr<;>(first|assumption|omega));done))|(show Cn (.e _ _ _ _);refine .any ?_;(first|(refine ⟨_,_,_,rfl,zwr _,zsr _, ?_,rfl⟩;(first|rfl))|(refine ⟨_,_,_,rfl,zwr _,aB ‹_›, ?_,rfl⟩;(first|rfl))|(refine ⟨_,_,_,rfl,zwf _,zsr _, ?_,rfl⟩;(first|rfl))|(refine ⟨_,_,_,rfl,zwf _,aB ‹_›, ?_,rfl⟩;(first|rfl))|(refine ⟨_,_,_,rfl,zwr _,zsr _, ?_,rfl⟩)|(refine ⟨_,_,_,rfl,zwf _,aB ‹_›, ?_,rfl⟩)))|show Cn (.r _ _ _);refine .rr ?_;(exact .inl ⟨rfl,rfl,zsr _⟩);done|show Cn (.r _ _ _);refine .any ⟨_,_, ?zs,rfl,zwr _, ?zh, ?zr⟩;(case zh=>(refine aF ?_ ‹_›;(repeat refine aF ?_ ‹_›);exact zsr _));(case zr=>(exact .inl ⟨rfl,rfl,zsr _⟩))|apply wZ;rfl|show Cn _;constructor|exact rfl|apply KR.mk;kernel_rfl|apply ncA;rfl;rfl;rfl;rotate_left;rfl;rfl|apply ldR pk;rfl;rfl;rotate_left;rfl;(focus ((repeat (first|exact aA _ _ _|assumption|refine (aC ‹_›).trans ?_));done));rfl;rfl|apply stR pk;rfl;rfl;(focus ((repeat (first|exact aA _ _ _|assumption|refine (aC ‹_›).trans ?_));done));rfl;rfl|apply wY;rfl|omega|intros;omega|simp only [zql];omega|intros;simp only [zql];omega|intros;simp only;omega|intro h;omega|intro h;simp at h;done|intro h;simp at h;omega|(intro h;simp at h)|intro h)
 |true=>
 rw [hb] at hr
 rw [zn (by simp)]
 have hq:=right_spec s q (hA.hc hb) hA.hS hA.hg
 by_cases h0:fB s q≠0
 ·rw [zp h0]
  generalize fB s q=Q at*
  refine pC Tryz.func20 rfl ?_
  (repeat' first|apply wDx pk;rfl;kernel_rfl;rfl;rfl|(apply Cn.cf;focus (((first|apply hr|apply hq)<;>(first|assumption|omega));done))|(apply cV;focus (((first|apply hr|apply hq)<;>(first|assumption|omega));done))|(show Cn (.e _ _ _ _);refine .any ?_;(first|(refine ⟨_,_,_,rfl,zwr _,zsr _, ?_,rfl⟩;(first|rfl))|(refine ⟨_,_,_,rfl,zwr _,aB ‹_›, ?_,rfl⟩;(first|rfl))|(refine ⟨_,_,_,rfl,zwf _,zsr _, ?_,rfl⟩;(first|rfl))|(refine ⟨_,_,_,rfl,zwf _,aB ‹_›, ?_,rfl⟩;(first|rfl))|(refine ⟨_,_,_,rfl,zwr _,zsr _, ?_,rfl⟩)|(refine ⟨_,_,_,rfl,zwf _,aB ‹_›, ?_,rfl⟩)))|show Cn (.r _ _ _);refine .rr ?_;(exact .inl ⟨rfl,rfl,zsr _⟩);done|show Cn (.r _ _ _);refine .any ⟨_,_, ?zs,rfl,zwr _, ?zh, ?zr⟩;(case zh=>(refine aF ?_ ‹_›;(repeat refine aF ?_ ‹_›);exact zsr _));(case zr=>(exact .inl ⟨rfl,rfl,zsr _⟩))|apply wZ;rfl|show Cn _;constructor|exact rfl|apply KR.mk;kernel_rfl|apply ncA;rfl;rfl;rfl;rotate_left;rfl;rfl|apply ldR pk;rfl;rfl;rotate_left;rfl;(focus ((repeat (first|exact aA _ _ _|assumption|refine (aC ‹_›).trans ?_));done));rfl;rfl|apply stR pk;rfl;rfl;(focus ((repeat (first|exact aA _ _ _|assumption|refine (aC ‹_›).trans ?_));done));rfl;rfl|apply wY;rfl|omega|intros;omega|simp only [zql];omega|intros;simp only [zql];omega|intros;simp only;omega|intro h;omega|intro h;simp at h;done|intro h;simp at h;omega|(intro h;simp at h)|intro h)
 rw [zn h0]
 replace h0:=zdn h0
 rw [h0] at hq
 obtain ⟨hW,hrow⟩:=hA.hW hb h0
 obtain ⟨hbig,hord,hk0⟩:=vR h0
 have hwd:=agU hW
 have hlen:=hW.len _ (Nat.le_refl _)
 have hlen:(mP b q).length<=20000:=hlen
 have hol:q.outs.length<=16:=by unfold abP at hbig;omega
 unfold tQ
 generalize hf:(λw:Wd=>lG q.where_ w.row)=f
 have hlim:=hA.hl
 generalize mP b q=ws at*
 have hinv:=qL (q:=q) (ws:=ws.filter f) (λw hw=>(hrow w (List.mem_filter.1 hw).1).2) (ws.filter f).length (Nat.le_refl _)
 rw [List.take_length] at hinv
 obtain ⟨v1,v2⟩:=hinv
 have hfl:=List.length_filter_le f ws
 have htell:=azF (q:=q) (ws:=ws.filter f) hA.hS.ook hol hA.hg (λw hw=>hrow w (List.mem_filter.1 hw).1) (by omega)
 have hnd:=afJ q (ws.filter f)
 generalize hTT:gR q (ws.filter f)=TT at*
 have hpo:∀n∈q.order, -9223372036854775808<=n/\n<=9223372036854775807/\∀x∈TT,max n (-1-n)<x.row.length:=λn hn=>⟨(hA.hS.rng n hn).1,(hA.hS.rng n hn).2,λx hx=>by have:=(v2 x hx).1;have:=hord n hn;omega⟩
 have hrl:∀x∈TT,x.row.length<4611686018427387904:=λx hx=>by have:=(v2 x hx).1;omega
 have hsl:(yG (ltQ q.order) TT).length=TT.length:=(dW _ _).length_eq
 refine pC Tryz.func20 rfl ?_
 focus ((repeat' first|apply wDx pk;rfl;kernel_rfl;rfl;rfl|(apply Cn.cf;focus (((first|apply hr|apply hq|apply hwd)<;>(first|assumption|omega));done))|(apply cV;focus (((first|apply hr|apply hq|apply hwd)<;>(first|assumption|omega));done))|(show Cn (.e _ _ _ _);refine .any ?_;(first|(refine ⟨_,_,_,rfl,zwr _,zsr _, ?_,rfl⟩;(first|rfl))|(refine ⟨_,_,_,rfl,zwr _,aB ‹_›, ?_,rfl⟩;(first|rfl))|(refine ⟨_,_,_,rfl,zwf _,zsr _, ?_,rfl⟩;(first|rfl))|(refine ⟨_,_,_,rfl,zwf _,aB ‹_›, ?_,rfl⟩;(first|rfl))|(refine ⟨_,_,_,rfl,zwr _,zsr _, ?_,rfl⟩)|(refine ⟨_,_,_,rfl,zwf _,aB ‹_›, ?_,rfl⟩)))|apply wZ;rfl|show Cn _;constructor|exact rfl|apply KR.mk;kernel_rfl|apply ncA;rfl;rfl;rfl;rotate_left;rfl;rfl|apply ldR pk;rfl;rfl;rotate_left;rfl;(focus ((repeat (first|exact aA _ _ _|assumption|refine (aC ‹_›).trans ?_));done));rfl;rfl|apply stR pk;rfl;rfl;(focus ((repeat (first|exact aA _ _ _|assumption|refine (aC ‹_›).trans ?_));done));rfl;rfl|apply wY;rfl|omega|intros;omega|simp only [zql];omega|intros;simp only [zql];omega|intros;simp only;omega|intro h;omega|intro h;simp at h;done|intro h;simp at h;omega|(intro h;simp at h)|intro h))
 refine dU 11 121 2 rfl rfl rfl (λid hid=> ?_)
 refine aG (X:={x:Nat×Nat//x.1<=ws.length/\st x.2=none}) (λi=>((((((St.nil 71 (upd st i.1.2 (some (.arr 121 (((ws.take i.1.1).filter f).map Wd.cells))))).var 5 33 (q.cells)).pv 11 (.vec i.1.2 2 0 ((ws.take i.1.1).filter f).length)).pv 34 (.seq (ws.map Wd.cells))).pv 35 ((vi (((ws.map Wd.cells).length:Nat))))).pv 36 ((vi ((i.1.1:Nat)))))) (λi=>ws.length-i.1.1) ⟨(0,id),by simp,hid⟩ ?_ (λi=> ?_)
 ·dsimp only
  (repeat' first|show Cn (.t _ _);exact Cn.t0|show Cn (.t _ _);exact .any (aJ ‹_›)|(show Cn (.t _ _);exact .any (aI (by (first|rfl|exact aL ‹_›|((simp only [St.pv,St.put,St.sst,St.setv,St.nil,St.var,aH]);(first|done|rfl))))))|(show Cn (.t _ _);refine .any (aI ?_);(simp only [St.pv,St.put,St.sst,St.setv,St.nil,St.var,aH]);(rw [dA ‹_›]);(first|done|rfl))|show Cn _;constructor|exact rfl)
 clear hid
 obtain ⟨⟨i,id⟩,hi,hid⟩:=i
 simp only at hi hid
 dsimp only
 by_cases hend:ws.length<=i
 ·obtain rfl:i=ws.length:=by omega
  rw [List.take_length]
  refine tK 11 rfl (aA _ _ _) uG (zql _) ?_
  have htl:=htell (upd (upd st id (some (.arr 121 ((ws.filter f).map Wd.cells)))) id none)
  have hs0:∀z,st z≠none->upd (upd st id (some (.arr 121 ((ws.filter f).map Wd.cells)))) id none z=st z:=λz hz=>by
   have n:z≠id:=λe=>hz (e▸hid)
   rw [aC n,aC n]
  have hs1:∀z,upd (upd st id (some (.arr 121 ((ws.filter f).map Wd.cells)))) id none z=none->st z=none:=λz hz=>Decidable.byContradiction λq=>q ((hs0 z q).symm.trans hz)
  (repeat' first|apply wDx pk;rfl;kernel_rfl;rfl;rfl|(show Cn (.e _ _ _ _);refine .any ?_;(first|(refine ⟨_,_,_,rfl,zwr _,zsr _, ?_,rfl⟩;(first|rfl))|(refine ⟨_,_,_,rfl,zwr _,aB ‹_›, ?_,rfl⟩;(first|rfl))|(refine ⟨_,_,_,rfl,zwf _,zsr _, ?_,rfl⟩;(first|rfl))|(refine ⟨_,_,_,rfl,zwf _,aB ‹_›, ?_,rfl⟩;(first|rfl))|(refine ⟨_,_,_,rfl,zwr _,zsr _, ?_,rfl⟩)|(refine ⟨_,_,_,rfl,zwf _,aB ‹_›, ?_,rfl⟩)))|show Cn (.r _ _ _);refine .rr ?_;((first|exact .inr ⟨j,by rw [hsl],hs1 j hj,aA _ _ _,agD hs0 hs1 hj hk⟩|exact .inl ⟨rfl,by rw [he];rfl,akK hs0 hk hidz⟩));done|(show Cn (.r _ _ _);refine .any ⟨_,_, ?zs,rfl,zwr _, ?zh, ?zr⟩;(case zh=>(refine aF ?_ ‹_›;(repeat refine aF ?_ ‹_›);exact zsr _));(case zr=>((first|exact .inr ⟨j,by rw [hsl],hs1 j hj,aA _ _ _,agD hs0 hs1 hj hk⟩|exact .inl ⟨rfl,by rw [he];rfl,akK hs0 hk hidz⟩))))|apply wZ;rfl|show Cn _;constructor|exact rfl|apply KR.mk;kernel_rfl|apply ncA;rfl;rfl;rfl;rotate_left;rfl;rfl|apply ldR pk;rfl;rfl;rotate_left;rfl;(focus ((repeat (first|exact aA _ _ _|assumption|refine (aC ‹_›).trans ?_));done));rfl;rfl|apply stR pk;rfl;rfl;(focus ((repeat (first|exact aA _ _ _|assumption|refine (aC ‹_›).trans ?_));done));rfl;rfl|((apply eE;rfl;rfl;exact htl;rfl;rfl;rfl;intro _ S hR;obtain ⟨⟨rfl,he⟩|⟨j,rfl,hj,hSj⟩,hk⟩:=hR))|apply aQ 5;rfl;rfl|(apply wV 53 3 77;rfl;intro idz hidz)|((apply eE;rfl;rfl;exact aaE q hA.hS.rl hpo hrl hnd hSj (by omega);rfl;rfl;rfl;rintro _ S' rfl))|((apply eE;rfl;rfl;exact aaE q hA.hS.rl (l:=[]) (λn hn=>⟨(hA.hS.rng n hn).1,(hA.hS.rng n hn).2,λx hx=>(by cases hx)⟩) (λx hx=>(by cases hx)) (by simp [bW]) (aA _ _ _) (by simp);rfl;rfl;rfl;rintro _ S' rfl))|omega|intros;omega|simp only [zql];omega|intros;simp only [zql];omega|intros;simp only;omega|intro h;omega|intro h;simp at h;done|intro h;simp at h;omega|(intro h;simp at h)|intro h)
 have hil:i<ws.length:=by omega
 have hup:=arF (f:=f) hil
 have hw:=hrow _ (zgm hil)
 have hh:=agV hA.hS.wl hA.hS.wok hw.1
 have hff:lG q.where_ ws[i].row=f ws[i]:=by rw [<-hf]
 rw [hff] at hh
 have hll:=List.length_filter_le f (ws.take i)
 rw [zlt] at hll
 cases hx:f ws[i] with
 |true=>
  rw [hx] at hh
  rw [zp hx] at hup
  generalize (ws.take i).filter f=G at*
  (repeat' first|(show Cn (.e _ _ _ _);refine .any ?_;(first|(refine ⟨_,_,_,rfl,zwr _,zsr _, ?_,rfl⟩;(first|rfl))|(refine ⟨_,_,_,rfl,zwr _,aB ‹_›, ?_,rfl⟩;(first|rfl))|(refine ⟨_,_,_,rfl,zwf _,zsr _, ?_,rfl⟩;(first|rfl))|(refine ⟨_,_,_,rfl,zwf _,aB ‹_›, ?_,rfl⟩;(first|rfl))|(refine ⟨_,_,_,rfl,zwr _,zsr _, ?_,rfl⟩)|(refine ⟨_,_,_,rfl,zwf _,aB ‹_›, ?_,rfl⟩)))|(show Cn (.r _ _ _);refine .any ?_;(first|(refine ⟨_,_,_,rfl,zwr _,zsr _, ?_,rfl⟩;(first|rfl))|(refine ⟨_,_,_,rfl,zwr _,aB ‹_›, ?_,rfl⟩;(first|rfl))|(refine ⟨_,_,_,rfl,zwf _,zsr _, ?_,rfl⟩;(first|rfl))|(refine ⟨_,_,_,rfl,zwf _,aB ‹_›, ?_,rfl⟩;(first|rfl))|(refine ⟨_,_,_,rfl,zwr _,zsr _, ?_,rfl⟩)|(refine ⟨_,_,_,rfl,zwf _,aB ‹_›, ?_,rfl⟩)))|refine ⟨⟨(i+1,id'),by simp only;omega,bA hid'⟩, ?_, ?_⟩;((dsimp only;rw [hup]))|show Cn (.t _ _);exact Cn.t0|show Cn (.t _ _);exact .any (aJ ‹_›)|(show Cn (.t _ _);exact .any (aI (by (first|rfl|exact aL ‹_›|((simp only [St.pv,St.put,St.sst,St.setv,St.nil,St.var,aH]);(first|done|rfl))))))|(show Cn (.t _ _);refine .any (aI ?_);(simp only [St.pv,St.put,St.sst,St.setv,St.nil,St.var,aH]);(rw [dA ‹_›]);(first|done|rfl))|apply wZ;rfl|show Cn _;constructor|exact rfl|apply KR.mk;kernel_rfl|(apply hh<;>(first|assumption|omega))|(show _=_;(first|rfl|simp))|(apply apV pk (f:=Wd.cells) [ws[i]] 48;(iterate 9 rfl);(focus ((repeat (first|exact aA _ _ _|assumption|refine (aC ‹_›).trans ?_));done));(first|omega|assumption|(focus (simp;done))|(focus (simp;omega))|(focus (simp at*;omega)));exact λ_=>rfl;exact λ_=>rfl;exact jJ;(first|omega|assumption|(focus (simp;done))|(focus (simp;omega))|(focus (simp at*;omega)));(first|omega|assumption|(focus (simp;done))|(focus (simp;omega))|(focus (simp at*;omega)));rfl;intro id' hid')|(apply ap0 pk (f:=Wd.cells) [ws[i]] 48;(iterate 10 rfl);exact λ_=>rfl;exact λ_=>rfl;exact jJ;(first|omega|assumption|(focus (simp;done))|(focus (simp;omega))|(focus (simp at*;omega)));(first|omega|assumption|(focus (simp;done))|(focus (simp;omega))|(focus (simp at*;omega)));rfl;intro id' hid')|apply wY;rfl|apply wI;rfl|apply gE;omega|apply gE;show 0<_;omega|apply gE;show 1<_;omega|omega|intros;omega|simp only [zql];omega|intros;simp only [zql];omega|intros;simp only;omega|intro h;omega|intro h;simp at h;done|intro h;simp at h;omega|(intro h;simp at h)|intro h)
 |false=>
  rw [hx] at hh
  rw [zn (by rw [hx];simp),List.append_nil] at hup
  (repeat' first|(show Cn (.e _ _ _ _);refine .any ?_;(first|(refine ⟨_,_,_,rfl,zwr _,zsr _, ?_,rfl⟩;(first|rfl))|(refine ⟨_,_,_,rfl,zwr _,aB ‹_›, ?_,rfl⟩;(first|rfl))|(refine ⟨_,_,_,rfl,zwf _,zsr _, ?_,rfl⟩;(first|rfl))|(refine ⟨_,_,_,rfl,zwf _,aB ‹_›, ?_,rfl⟩;(first|rfl))|(refine ⟨_,_,_,rfl,zwr _,zsr _, ?_,rfl⟩)|(refine ⟨_,_,_,rfl,zwf _,aB ‹_›, ?_,rfl⟩)))|(show Cn (.r _ _ _);refine .any ?_;(first|(refine ⟨_,_,_,rfl,zwr _,zsr _, ?_,rfl⟩;(first|rfl))|(refine ⟨_,_,_,rfl,zwr _,aB ‹_›, ?_,rfl⟩;(first|rfl))|(refine ⟨_,_,_,rfl,zwf _,zsr _, ?_,rfl⟩;(first|rfl))|(refine ⟨_,_,_,rfl,zwf _,aB ‹_›, ?_,rfl⟩;(first|rfl))|(refine ⟨_,_,_,rfl,zwr _,zsr _, ?_,rfl⟩)|(refine ⟨_,_,_,rfl,zwf _,aB ‹_›, ?_,rfl⟩)))|refine ⟨⟨(i+1,id),by simp only;omega,hid⟩, ?_, ?_⟩;((dsimp only;rw [hup]))|apply wZ;rfl|show Cn _;constructor|exact rfl|apply KR.mk;kernel_rfl|(apply hh<;>(first|assumption|omega))|(show _=_;(first|rfl|simp))|apply wY;rfl|apply wI;rfl|apply gE;omega|apply gE;show 0<_;omega|apply gE;show 1<_;omega|omega|intros;omega|simp only [zql];omega|intros;simp only [zql];omega|intros;simp only;omega|intro h;omega|intro h;simp at h;done|intro h;simp at h;omega|(intro h;simp at h)|intro h)
theorem sY {s:Sc} {b:Bs} {q:Qu} (hA:AnsH s b q):PF Tryz.prog 20 [.agg (scC s), .agg (bsC b), .agg q.cells] (.tup [.seq ((bR s b q).1.map It.cells),(vi ((bR s b q).2))]):=λst=>
 eZ (sz:=3) (anH hA st) λp st' h=>by
  rcases h with ⟨rfl,h2,h3⟩|⟨j,rfl,h2,h3,h4⟩
  ·rw [h2]
   exact .inr ⟨_,st,Wk.tup (.cons Wk.nil (.cons (zwr _) .nil)),h3,rfl,rfl⟩
  ·refine .inl ⟨j,77,(bR s b q).1.map It.cells,_,st,h3,axS, .tup (.cons (eH (by simp)) (.cons .refl .nil)),λz=> ?_,rfl,rfl⟩
   by_cases hz:st z=none
   ·exact .inl hz
   ·right
    rw [aC (λe=>hz (by rw [e];exact h2))]
    exact (h4 z hz).symm
def Qu.all (q:Qu):Qu:={q with limit:= -1}
def fS (s:Sc) (b:Bs) (q:Qu) (r:List Vl):Int:=if (bR s b q.all).2≠0 then-1 else (((bR s b q.all).1.find? λx=>decide (x.row=r)).map (·.many)).getD 0
theorem vS {s:Sc} {b:Bs} {q:Qu} (hA:AnsH s b q):(bR s b q).1.length<=20000/\∀x∈(bR s b q).1,x.row.length<=16/\0<=x.many/\x.many<=20000:=by
 unfold bR
 cases hb:dE T.rightP s b with
 |false=>simp
 |true=>
  rw [zn (by simp)]
  by_cases h0:fB s q≠0
  ·rw [zp h0];simp
  ·rw [zn h0]
   have h0:=zdn h0
   obtain ⟨hW,hrow⟩:=hA.hW hb h0
   obtain ⟨hbig,_,_⟩:=vR h0
   have hlen:(mP b q).length<=20000:=hW.len _ (Nat.le_refl _)
   have hfl:=List.length_filter_le (λw:Wd=>lG q.where_ w.row) (mP b q)
   obtain ⟨v1,v2⟩:=qL (q:=q) (ws:=tQ b q) (λw hw=>(hrow w (List.mem_filter.1 hw).1).2) (tQ b q).length (Nat.le_refl _)
   rw [List.take_length] at v1 v2
   have hal:(tQ b q).length<=20000:=by unfold tQ;omega
   refine ⟨by dsimp only;rw [(dW _ _).length_eq];omega,λx hx=> ?_⟩
   have:=v2 x ((dW _ _).mem_iff.1 hx)
   unfold abP at hbig
   omega
theorem pM {s:Sc} {b:Bs} {q:Qu} (hA:AnsH s b q.all) (r:List Vl) (hr:r.length<4611686018427387904):PF Tryz.prog 7 [.agg (scC s), .agg (bsC b), .agg q.cells, .seq (r.map Vl.cells)] (vi (fS s b q r)):=by
 have ha:=sY hA
 obtain ⟨hl,hx⟩:=vS hA
 have hsm:=λa ha=>lV a r ha hr
 unfold fS
 generalize bR s b q.all=K at*
 have eq:q.all.cells=[(vi (q.table)), .seq (q.joins.map Jn.cells), .seq (q.where_.map X.Ex.cells), .seq (q.group.map X.Ex.cells), .seq (q.outs.map Ou.cells), .seq (q.order.map I1),(vi (-1))]:=rfl
 rw [eq] at ha
 by_cases h0:K.2≠0
 ·rw [zp h0]
  refine pF Tryz.func7 rfl (λst=> ?_)
  (repeat' first|(show Cn (.r _ _ _);refine .any ⟨_,_,_,rfl,zwr _,zsr _, ?_,rfl⟩;try rfl)|apply wZ;rfl|show Cn _;constructor|exact rfl|apply KR.mk;kernel_rfl|(apply ha<;>(first|assumption|omega))|apply wY;rfl|omega|intros;omega|simp only [zql];omega|intros;simp only [zql];omega|intros;simp only;omega|intro h;omega|intro h;simp at h;done|intro h;simp at h;omega|(intro h;simp at h)|intro h)
 rw [zn h0]
 have h0:=zdn h0
 generalize hM:(((K.1.find? λx=>decide (x.row=r)).map (·.many)).getD 0)=M
 refine pF Tryz.func7 rfl (λst=> ?_)
 focus ((repeat' first|(show Cn (.r _ _ _);refine .any ⟨_,_,_,rfl,zwr _,zsr _, ?_,rfl⟩;try rfl)|apply wZ;rfl|show Cn _;constructor|exact rfl|apply KR.mk;kernel_rfl|(apply ha<;>(first|assumption|omega))|apply wY;rfl|omega|intros;omega|simp only [zql];omega|intros;simp only [zql];omega|intros;simp only;omega|intro h;omega|intro h;simp at h;done|intro h;simp at h;omega|(intro h;simp at h)|intro h))
 refine aG (X:={x:Nat//x<=K.1.length/\∀j (h:j<K.1.length),j<x->¬K.1[j].row=r}) (λi=>((((St.nil 40 st).pv 3 (.seq (r.map Vl.cells))).pv 9 (.seq (K.1.map It.cells))).pv 11 ((vi ((i.1:Nat)))))) (λi=>K.1.length-i.1) ⟨0,by omega,by omega⟩ ?_ (λi=> ?_)
 ·(repeat' first|show Cn _;constructor|exact rfl)
 obtain ⟨i,hi,hI⟩:=i
 dsimp only
 by_cases hend:K.1.length<=i
 ·have e:M=0:=by
   rw [<-hM,List.find?_eq_none.2]
   ·rfl
   ·intro x hx
    obtain ⟨j,hj,rfl⟩:=zgo hx
    simpa using hI j hj (by omega)
  (repeat' first|(show Cn (.r _ _ _);refine .any ⟨_,_,_,rfl,zwr _,zsr _, ?_,rfl⟩;try first|rfl|(rw [e]);done)|apply wZ;rfl|show Cn _;constructor|exact rfl|apply KR.mk;kernel_rfl|show (_:PV)=_;(rw [e]);done|omega|intros;omega|simp only [zql];omega|intros;simp only [zql];omega|intros;simp only;omega|intro h;omega|intro h;simp at h;done|intro h;simp at h;omega|(intro h;simp at h)|intro h)
 have hil:i<K.1.length:=by omega
 have hs:=hsm K.1[i].row (by have:=(hx _ (zgm hil)).1;omega)
 by_cases he:K.1[i].row=r
 ·rw [decide_eq_true he] at hs
  have e:M=K.1[i].many:=by
   rw [<-hM]
   have:K.1.find? (λx=>decide (x.row=r))=some K.1[i]:=by
    rw [List.find?_eq_some_iff_getElem]
    refine ⟨by simpa using he,i,hil,rfl,λj hj=> ?_⟩
    simpa using hI j (by omega) hj
   rw [this];rfl
  (repeat' first|(show Cn (.r _ _ _);refine .any ⟨_,_,_,rfl,zwr _,zsr _, ?_,rfl⟩;try first|rfl|(rw [e]);done)|apply wZ;rfl|show Cn _;constructor|exact rfl|apply KR.mk;kernel_rfl|(apply hs<;>(first|assumption|omega))|show (_:PV)=_;(rw [e]);done|apply wY;rfl|apply wI;rfl|apply gE;omega|apply gE;show 0<_;omega|apply gE;show 1<_;omega|omega|intros;omega|simp only [zql];omega|intros;simp only [zql];omega|intros;simp only;omega|intro h;omega|intro h;simp at h;done|intro h;simp at h;omega|(intro h;simp at h)|intro h)
 ·rw [decide_eq_false he] at hs
  (repeat' first|(show Cn (.r _ _ _);refine .any ⟨_,_,_,rfl,zwr _,zsr _, ?_,rfl⟩;try rfl)|(refine ⟨⟨i+1,hil,λj hj hji=>(by rcases zls.1 hji with q|q;exact hI j hj q;subst q;exact he)⟩, ?_, ?_⟩)|apply wZ;rfl|show Cn _;constructor|exact rfl|apply KR.mk;kernel_rfl|(apply hs<;>(first|assumption|omega))|apply wY;rfl|apply wI;rfl|apply gE;omega|apply gE;show 0<_;omega|apply gE;show 1<_;omega|omega|intros;omega|simp only [zql];omega|intros;simp only [zql];omega|intros;simp only;omega|intro h;omega|intro h;simp at h;done|intro h;simp at h;omega|(intro h;simp at h)|intro h)
end Go.Proofs.YtppdefkgmegipaaGreatDoor
