import Derived.Test.YtcglimangneafaaGreatDoorTyB
import Derived.Test.YtcglimangneafaaGreatDoorAbsE
import Derived.Test.YtcglimangneafaaGreatDoorBsShow
set_option linter.unusedSimpArgs false
set_option linter.unusedVariables false
namespace Go.Proofs.YtcglimangneafaaGreatDoor.T
open Go Go.Abs
structure Inv (l:List Pt):Prop where
  formed:∀p∈l,bR p=true
  nodup:(l.map aO).Nodup
  times:∀p∈l,∀q∈l,p.dot=q.dot→p.time=q.time
theorem pS {α β:Type} {g:α→β}:∀{l:List α},(l.map g).Nodup→∀{a b},a∈l→b∈l→g a=g b→a=b
  |[],_,_,_,h,_,_=>by cases h
  |x::l,hn,a,b,ha,hb,e=>by
    simp only [List.map_cons,List.nodup_cons] at hn
    rcases List.mem_cons.1 ha with ha|ha<;>rcases List.mem_cons.1 hb with hb|hb
    · rw [ha,hb]
    · exact (hn.1 (List.mem_map.2 ⟨b,hb,by rw [←e,ha]⟩)).elim
    · exact (hn.1 (List.mem_map.2 ⟨a,ha,by rw [e,hb]⟩)).elim
    · exact pS hn.2 ha hb e
theorem Inv.named {l:List Pt} (h:Inv l):named l:=fun _ ha _ hb e=>pS h.nodup ha hb e
theorem ajT {α:Type} {C:List α→Prop} (h0:C []) (h1:∀l p,C l→C (l++[p])) (l:List α):C l:=by
  have:∀r,C (List.reverse r):=fun r=>by
    induction r with
    |nil=>exact h0
    |cons p r ih=>rw [List.reverse_cons];exact h1 _ p ih
  have:=this l.reverse
  rwa [List.reverse_reverse] at this
theorem rU {K V:Type} [DecidableEq K] (f:Pt→K) (g:Pt→V) (l:List Pt) (p:Pt):(l++[p]).foldl (fun m p=>cK (f p) (g p) m) []=cK (f p) (g p) (l.foldl (fun m p=>cK (f p) (g p) m) []):=by
  rw [List.foldl_append];rfl
theorem acF {K V:Type} [DecidableEq K] (f:Pt→K) (g:Pt→V) (k:K) (l:List Pt):
    (∀v,bT k (l.foldl (fun m p=>cK (f p) (g p) m) [])=some v→∃q∈l,f q=k∧g q=v)∧(bT k (l.foldl (fun m p=>cK (f p) (g p) m) [])=none→∀q∈l,f q≠k):=by
  induction l using ajT with
  |h0=>exact ⟨fun v h=>(by cases h),fun _ q h=>(by cases h)⟩
  |h1 l p ih=>
    rw [rU]
    refine ⟨fun v h=> ?_,fun h q hq=> ?_⟩
    · rw [nQ] at h
      split at h
      · rename_i e;injection h with h;exact ⟨p,by simp,e.symm,h⟩
      · obtain ⟨q,hq,h2⟩:=ih.1 v h;exact ⟨q,by simp [hq],h2⟩
    · rw [nQ] at h
      split at h
      · cases h
      · rename_i e
        rcases List.mem_append.1 hq with hq|hq
        · exact ih.2 h q hq
        · rw [List.mem_singleton.1 hq];exact fun e'=>e e'.symm
theorem yN (l:List Pt) (k:Nm):(∀v,bT k (cY l)=some v→v∈l∧aO v=k)∧(bT k (cY l)=none→∀q∈l,aO q≠k):=by
  obtain ⟨h1,h2⟩:=acF aO id k l
  exact ⟨fun v hv=>by obtain ⟨q,a,b,c⟩:=h1 v hv;exact ⟨c▸a,c▸b⟩,h2⟩
theorem alM (l:List Pt) (k:Dt):(∀v,bT k (dO l)=some v→∃q∈l,q.dot=k∧q.time=v)∧(bT k (dO l)=none→∀q∈l,q.dot≠k):=acF (·.dot) (·.time) k l
theorem ahV {d:List Pt} (h:Inv d) (p:Pt):pA (cY d) (dO d) p=true↔(∀q∈d,aO q≠aO p)∧bR p=true∧∀q∈d,q.dot=p.dot→q.time=p.time:=by
  obtain ⟨a1,a2⟩:=yN d (aO p)
  obtain ⟨b1,b2⟩:=alM d p.dot
  unfold pA
  simp only [Bool.not_eq_true',Bool.or_eq_false_iff]
  constructor
  · rintro ⟨⟨h1,h2⟩,h3⟩
    refine ⟨a2 (by simpa using h1),by simpa using h2,fun q hq e=> ?_⟩
    cases ht:bT p.dot (dO d) with
    |none=>exact absurd e (b2 ht q hq)
    |some t=>
      rw [ht] at h3
      obtain ⟨r,hr,r1,r2⟩:=b1 t ht
      have:t=p.time:=by simpa using h3
      rw [←this,←r2]
      exact h.times q hq r hr (by rw [e,r1])
  · rintro ⟨h1,h2,h3⟩
    refine ⟨⟨?_,by simpa using h2⟩, ?_⟩
    · cases hm:bT (aO p) (cY d) with
      |none=>rfl
      |some v=>obtain ⟨c1,c2⟩:=a1 v hm;exact absurd c2 (h1 v c1)
    · cases ht:bT p.dot (dO d) with
      |none=>rfl
      |some t=>obtain ⟨r,hr,r1,r2⟩:=b1 t ht;simp [←r2,h3 r hr r1]
theorem Inv.snoc_iff {d:List Pt} (h:Inv d) (p:Pt):Inv (d++[p])↔(∀q∈d,aO q≠aO p)∧bR p=true∧∀q∈d,q.dot=p.dot→q.time=p.time:=by
  constructor
  · intro k
    have hn:=k.nodup
    rw [List.map_append,List.nodup_append] at hn
    exact ⟨fun q hq e=>hn.2.2 _ (List.mem_map.2 ⟨q,hq,rfl⟩) _ (by simp) e,k.formed p (by simp),fun q hq e=>k.times q (by simp [hq]) p (by simp) e⟩
  · rintro ⟨h1,h2,h3⟩
    refine ⟨fun q hq=> ?_, ?_,fun a ha b hb e=> ?_⟩
    · rcases List.mem_append.1 hq with hq|hq
      · exact h.formed q hq
      · rw [List.mem_singleton.1 hq];exact h2
    · rw [List.map_append,List.nodup_append]
      refine ⟨h.nodup,by simp,fun a ha b hb e=> ?_⟩
      obtain ⟨q,hq,rfl⟩:=List.mem_map.1 ha
      simp only [List.map_cons,List.map_nil,List.mem_singleton] at hb
      exact h1 q hq (e.trans hb)
    · rcases List.mem_append.1 ha with ha|ha<;>rcases List.mem_append.1 hb with hb|hb
      · exact h.times a ha b hb e
      · rw [List.mem_singleton.1 hb] at e⊢;exact h3 a ha e
      · rw [List.mem_singleton.1 ha] at e⊢;exact (h3 b hb e.symm).symm
      · rw [List.mem_singleton.1 ha,List.mem_singleton.1 hb]
theorem Inv.pre {d r:List Pt} (h:Inv (d++r)):Inv d:=by
  refine ⟨fun p hp=>h.formed p (by simp [hp]), ?_,fun p hp q hq=>h.times p (by simp [hp]) q (by simp [hq])⟩
  have:=h.nodup
  rw [List.map_append,List.nodup_append] at this
  exact this.1
theorem oT :∀(r d:List Pt),Inv d→(iA r (cY d) (dO d)=true↔Inv (d++r))
  |[],d,h=>by simp [iA,h]
  |p::r,d,h=>by
    have e1:cK (aO p) p (cY d)=cY (d++[p]):=(rU aO id d p).symm
    have e2:cK p.dot p.time (dO d)=dO (d++[p]):=(rU (·.dot) (·.time) d p).symm
    rw [iA,Bool.and_eq_true,ahV h,←h.snoc_iff,e1,e2]
    have e3:d++p::r=(d++[p])++r:=by simp
    constructor
    · rintro ⟨h1,h2⟩
      rw [e3];exact (oT r _ h1).1 h2
    · intro h1
      rw [e3] at h1
      exact ⟨h1.pre,(oT r _ h1.pre).2 h1⟩
structure Whole (l:List Pt):Prop extends Inv l where
  up:∀p∈l,aN p=Nm.zero∨∃u∈l,aO u=aN p∧dG u p=true
theorem dK (l:List Pt):dU l=true↔Whole l:=by
  have h0:Inv []:=⟨fun _ h=>(by cases h),List.nodup_nil,fun _ h=>(by cases h)⟩
  unfold dU
  rw [Bool.and_eq_true,show iA l [] []=iA l (cY []) (dO []) from rfl,oT l [] h0,List.nil_append,List.all_eq_true]
  have hup:∀p,Inv l→(amV (cY l) p=true↔(aN p=Nm.zero∨∃u∈l,aO u=aN p∧dG u p=true)):=fun p hI=>by
    obtain ⟨a1,a2⟩:=yN l (aN p)
    unfold amV
    rw [Bool.or_eq_true,decide_eq_true_eq]
    refine or_congr Iff.rfl ?_
    cases hm:bT (aN p) (cY l) with
    |none=>simp only [Bool.false_eq_true,false_iff];rintro ⟨u,hu,e,_⟩;exact a2 hm u hu e
    |some v=>
      obtain ⟨c1,c2⟩:=a1 v hm
      constructor
      · intro h;exact ⟨v,c1,c2,h⟩
      · rintro ⟨u,hu,e,h⟩
        rw [hI.named v c1 u hu (by rw [c2,e])];exact h
  constructor
  · rintro ⟨h1,h2⟩;exact ⟨h1,fun p hp=>(hup p h1).1 (h2 p hp)⟩
  · intro h;exact ⟨h.toInv,fun p hp=>(hup p h.toInv).2 (h.up p hp)⟩
instance (l :List Pt):Decidable (Whole l):=decidable_of_iff _ (dK l)
theorem gD (p q:Pt):dG p q=true↔p.time<q.time∨p.time=q.time∧(p.dot.dev<q.dot.dev∨p.dot.dev=q.dot.dev∧(p.dot.seq<q.dot.seq∨p.dot.seq=q.dot.seq∧p.at_<q.at_)):=by
  unfold dG
  rw [Bool.or_eq_true,yH,Bool.and_eq_true,decide_eq_true_eq,decide_eq_true_eq,Sp.ext_iff]
  simp only [bC]
  omega
theorem tO {p:Pt} (h:bR p=true):aO p≠Nm.zero:=by
  intro e
  simp only [bR,vP,eR,Bool.and_eq_true,decide_eq_true_eq] at h
  have h1:=h.1.2.1.1.1
  rw [e] at h1
  have h2:(1:Int)≤0:=h1
  omega
theorem asI {l:List Pt} (h:Whole l) {u p:Pt} (hu:u∈l) (hp:p∈eV l (aO u)):p∈l∧dG u p=true:=by
  obtain ⟨h1,h2⟩:=List.mem_filter.1 hp
  have h2:aN p=aO u:=by simpa using h2
  refine ⟨h1, ?_⟩
  rcases h.up p h1 with e|⟨v,hv,e,ha⟩
  · exact absurd (h2.symm.trans e) (tO (h.formed u hu))
  · rw [h.named u hu v hv (by rw [e,h2])];exact ha
theorem nH {l:List Pt} {f g:Pt→Bool} {a:Pt} (ha:a∈l) (hg:g a=true) (hf:f a=false) (hfg:∀q∈l,f q=true→g q=true):(l.filter f).length<(l.filter g).length:=by
  induction l with
  |nil=>cases ha
  |cons x l ih=>
    have hle:(l.filter f).length≤(l.filter g).length:=by
      clear ih ha
      induction l with
      |nil=>simp
      |cons y l ih=>
        have:=ih fun q hq=>hfg q (by rcases List.mem_cons.1 hq with h|h<;>simp [h])
        rw [List.filter_cons,List.filter_cons]
        by_cases h1:f y=true
        · rw [if_pos h1,if_pos (hfg y (by simp) h1)];simp;omega
        · rw [if_neg h1];split<;>simp<;>omega
    rw [List.filter_cons,List.filter_cons]
    rcases List.mem_cons.1 ha with e|ha
    · subst e;rw [if_pos hg,if_neg (by simp [hf])];simp;omega
    · have:=ih ha fun q hq=>hfg q (by simp [hq])
      by_cases h1:f x=true
      · rw [if_pos h1,if_pos (hfg x (by simp) h1)];simp;omega
      · rw [if_neg h1];split<;>simp<;>omega
theorem akH {l:List Pt} (h:Whole l):∀(n:Nat) (u:Pt),u∈l→(l.filter (dG u)).length≤n→aiC l n (aO u)
  |0,u,hu,hn=>by
    show eV l (aO u)=[]
    cases hk:eV l (aO u) with
    |nil=>rfl
    |cons p r=>
      obtain ⟨h1,h2⟩:=asI h hu (p:=p) (by rw [hk];simp)
      have:p∈l.filter (dG u):=List.mem_filter.2 ⟨h1,h2⟩
      rw [List.length_eq_zero_iff.1 (Nat.le_zero.1 hn)] at this
      cases this
  |n+1,u,hu,hn=>fun p hp=>by
    obtain ⟨h1,h2⟩:=asI h hu hp
    refine akH h n p h1 ?_
    have:(l.filter (dG p)).length<(l.filter (dG u)).length:=nH (a:=p) h1 h2 (by rw [←Bool.not_eq_true,gD];omega) fun q _ hq=>by
      rw [gD] at h2 hq⊢;omega
    omega
theorem adW {l:List Pt} (h:Whole l):aiC l l.length Nm.zero:=by
  cases hl:l.length with
  |zero=>rw [List.length_eq_zero_iff.1 hl];rfl
  |succ n=>
      intro p hp
      have hp:=(List.mem_filter.1 hp).1
      refine akH h n p hp ?_
      have:(l.filter (dG p)).length<(l.filter fun _=>true).length:=nH hp rfl (by rw [←Bool.not_eq_true,gD];omega) fun _ _ _=>rfl
      have e:(l.filter fun _=>true)=l:=List.filter_eq_self.2 fun _ _=>rfl
      rw [e] at this
      omega
end Go.Proofs.YtcglimangneafaaGreatDoor.T
namespace Go.Proofs.YtcglimangneafaaGreatDoor.T
open Go Go.Abs
attribute [local irreducible] Ev PWp
set_option maxRecDepth 10000
set_option maxHeartbeats 1000000
theorem FamB.toHS {st S:aL} {l:List Pt} {idm id5 id8 id9:Nat} {K:List (Nm×(Nat×Nat))} (h:FamB st l idm K S) {c5 c8 c9 c9':AObj} (h5:S id5=none) (h8:upd S id5 (some c5) id8=none) (h9:upd (upd S id5 (some c5)) id8 (some c8) id9=none)
    (e5:c5= .cells 226 [.mref idm]) (e8:c8= .cells 110 [.val (.slice none 0 0)]) (e9:c9'= .cells 227 [.fn 223 [.ref id5 0, .ref id8 0, .ref id9 0]]):
    HS st l id5 id8 id9 idm K (upd (upd (upd (upd S id5 (some c5)) id8 (some c8)) id9 (some c9)) id9 (some c9')) (eV l) []:=by
  subst e5 e8 e9
  have n85:id8≠id5:=fun e=>by rw [e,aC] at h8;cases h8
  rw [aG n85] at h8
  have n98:id9≠id8:=fun e=>by rw [e,aC] at h9;cases h9
  rw [aG n98] at h9
  have n95:id9≠id5:=fun e=>by rw [e,aC] at h9;cases h9
  rw [aG n95] at h9
  have g:∀j,S j≠none→j≠id5∧j≠id8∧j≠id9:=fun j hj=>⟨fun e=>hj (e▸h5),fun e=>hj (e▸h8),fun e=>hj (e▸h9)⟩
  have gg:∀j,S j≠none→(upd (upd (upd (upd S id5 (some (.cells 226 [.mref idm]))) id8 (some (.cells 110 [.val (.slice none 0 0)]))) id9 (some c9)) id9 (some (.cells 227 [.fn 223 [.ref id5 0, .ref id8 0, .ref id9 0]]))) j=S j:=fun j hj=>by
    obtain ⟨a,b,c⟩:=g j hj
    rw [aG c,aG c,aG b,aG a]
  refine ⟨fun j hj=> ?_,(h.fresh h5).1,(h.fresh h8).1,(h.fresh h9).1,h.mf, ?_,aC _ _ _,(gg idm (by rw [h.hm];simp)).trans h.hm,fun k id n hk=> ?_,h.ids,h.keys,h.non,fun k=> .refl _, .inl ⟨?_,rfl⟩⟩
  · have:=h.old j hj
    rw [gg j (by rw [this];exact hj)];exact this
  · rw [aG (Ne.symm n95),aG (Ne.symm n95),aG (Ne.symm n85),aC]
  · obtain ⟨a1,a2,a3⟩:=h.arr k id n hk
    exact ⟨(gg id (by rw [a1];simp)).trans a1,a2,a3⟩
  · rw [aG (Ne.symm n98),aG (Ne.symm n98),aC]
def dP (l:List Pt):List Pt:=if dU l=true∧l.length≤2000 then dM l l.length Nm.zero else []
theorem apN (l:List Pt) (st:aL) (hl:l.length<4611686018427387904) (hlen:dU l=true→(dM l l.length Nm.zero).length=l.length):PC Tryz.prog 181 [.seq (l.map Pt.cells)] st (LR 166 11 st ((dP l).map Pt.cells)):=by
  refine eH aD Tryz.func181 (by kernel_rfl) rfl rfl rfl rfl ?_
  (try (apply wO pk;exact rfl));(repeat' (first|(show All _;constructor)|(show Imp _ _;constructor)|(show ImpX _ _ _ _;constructor)|(apply wC pk;(iterate 2 exact rfl))|(apply wE pk;(iterate 2 exact rfl))|(refine aA rfl (fun h=> ?_) (fun h=> ?_)<;>(try simp at h)<;>try (exfalso;omega))|((try refine aB ?_);((refine ⟨_,_,_,rfl,Wk.refl _,StSub.refl _, ?_⟩;((have e:dP l=[]:=(by unfold dP;rw [if_neg];rintro ⟨q1,q2⟩;rcases ‹_∨_›with q|q;(rw [q1] at q;cases q);omega);exact .inr ⟨rfl,by rw [e];rfl,StSub.refl _⟩));done)))|(apply aI;(iterate 3 exact rfl);(intro _;apply (uL l hl)<;>first|assumption|omega);rotate_left;(iterate 2 exact rfl))))
  have hW:dU l=true∧l.length≤2000:=⟨h.1,by omega⟩
  have hWh:=(dK l).1 hW.1
  have hlen:=hlen hW.1
  have hord:dP l=dM l l.length Nm.zero:=by unfold dP;rw [if_pos hW]
  refine mkM (enc:=Nm.enc) (f:=vI) rfl (fun idm hidm=> ?_)
  have hidm:st idm=none:=hidm
  (try (apply wO pk;exact rfl));(repeat' (first|(show All _;constructor)|(apply wE pk;(iterate 2 exact rfl))))
  refine aJ (X:={x:Nat×aL×List (Nm×(Nat×Nat))//x.1≤l.length∧FamB st (l.take x.1) idm x.2.2 x.2.1}) (fun i=>(((((St.nil 45 (i.1.2.1)).var 5 226 ([.mref idm])).pv 23 (.seq (l.map Pt.cells))).pv 24 ((PV.val (Value.int .i64 ((((l.map Pt.cells)).length:Nat)))))).pv 25 ((PV.val (Value.int .i64 ((i.1.1:Nat))))))) (fun i=>l.length-i.1.1) ⟨(0,upd st idm (some (.map (bA Nm.enc vI []))),[]),by simp,FamB.nil hidm⟩ ?_ (fun i=> ?_)
  · (((repeat (first|refine Sub.pv ?_ rfl|refine Sub.var ?_ rfl rfl));(exact Sub.nil _ _ _ (StSub.refl _) rfl)))
  obtain ⟨⟨i,S,K⟩,hi,hF⟩:=i
  simp only at hi hF
  dsimp only
  have hm:=hF.hm
  have hkl:=fun h:i<l.length=>aeV (l.take i) (aN (l[i]'h))
  have hkt:(l.take i).length≤l.length:=by rw [List.length_take];omega
  (try (apply wO pk;exact rfl));(repeat' (first|(show All _;constructor)|(show Imp _ _;constructor)|(apply wC pk;(iterate 2 exact rfl))|(apply wE pk;(iterate 2 exact rfl))|(apply wDm pk;exact rfl;kernel_rfl;exact rfl;exact rfl)|(refine aA rfl (fun h=> ?_) (fun h=> ?_)<;>(try simp at h)<;>try (exfalso;omega))|(apply aI;(iterate 3 exact rfl);(intro _;apply mM<;>first|assumption|omega);rotate_left;(iterate 2 exact rfl))|(apply aM pk;(iterate 6 exact rfl);rotate_left;exact rfl;(intro hw;exact rfl);(intro hw;apply aF<;>omega);(intro _;exact rfl);exact rfl)|(apply arR pk Nm.key (f:=vI);(iterate 5 exact rfl);rotate_left;exact rfl;(assumption);exact rfl;intro v hv;rotate_left;intro hv;rotate_left)|(intros;(try simp only [zql]);omega)))
  · skip
    obtain ⟨a1,a2,a3⟩:=hF.arr _ _ _ (mT hv)
    have hkl:=hkl h
    (try (apply wO pk;exact rfl));(repeat' ((apply apV pk (f:=Pt.cells) [l[i]'(by assumption)] 96;(iterate 9 exact rfl);(assumption);(omega);exact fun _=>rfl;exact fun _=>rfl;exact vC;((focus (simp;omega)));((focus (simp;omega)));exact rfl;intro id' hid')))
    have hid':S id'=none:=hid'
    obtain ⟨f1,f2,f3⟩:=hF.fresh hid'
    have f2':=Ne.symm f2
    have f4:=Ne.symm (hF.notm (mT hv))
    apply muA pk Nm.key (f:=vI) (k:=aN (l[i]'h)) (v:=(id',v.2+1));exact .inr rfl;exact rfl;exact rfl;exact rfl;exact rfl;exact rfl;exact (aG f2').trans ((aG f4).trans hm);exact rfl
    (try (apply wO pk;exact rfl));(repeat' (first|(show All _;constructor)|(apply wE pk;(iterate 2 exact rfl))|(refine ⟨⟨(i+1,_,_),by simp only;omega,hF.step (S1:=upd S v.1 none) (m:=v.2+1) h hid' (by omega) (fun j hj=>aG fun e=>hj v.2 (by subst e;exact mT hv))⟩, ?_,by simp only;omega⟩;(((repeat (first|refine Sub.pv ?_ rfl|refine Sub.var ?_ rfl rfl));(exact Sub.nil _ _ _ (StSub.refl _) rfl))))|(intros;(try simp only [zql]);omega)))
  · skip
    have hk0:=hF.non _ hv
    (try (apply wO pk;exact rfl));(repeat' ((apply ap0 pk (f:=Pt.cells) [l[i]'(by assumption)] 96;(iterate 10 exact rfl);exact fun _=>rfl;exact fun _=>rfl;exact vC;((focus (simp;done)));((focus (simp;done)));exact rfl;intro id' hid')))
    have hid':S id'=none:=hid'
    obtain ⟨f1,f2,f3⟩:=hF.fresh hid'
    have f2':=Ne.symm f2
    apply muA pk Nm.key (f:=vI) (k:=aN (l[i]'h)) (v:=(id',1));exact .inr rfl;exact rfl;exact rfl;exact rfl;exact rfl;exact rfl;exact (aG f2').trans hm;exact rfl
    (try (apply wO pk;exact rfl));(repeat' (first|(show All _;constructor)|(apply wE pk;(iterate 2 exact rfl))|(refine ⟨⟨(i+1,upd (upd S id' (some (.arr 166 ([l[i]'h].map Pt.cells)))) idm (some (.map (bA Nm.enc vI (cK (aN (l[i]'h)) (id',1) K)))),cK (aN (l[i]'h)) (id',1) K),by simp only;omega,by have q:=hF.step (S1:=S) (m:=1) h hid' (by rw [hk0];rfl) (fun j hj=>rfl);rw [hk0] at q;exact q⟩, ?_,by simp only;omega⟩;(((repeat (first|refine Sub.pv ?_ rfl|refine Sub.var ?_ rfl rfl));(exact Sub.nil _ _ _ (StSub.refl _) rfl))))|(intros;(try simp only [zql]);omega)))
  have e1:l.take i=l:=List.take_of_length_le (by omega)
  rw [e1] at hF
  clear hkl hkt
  (try (apply wO pk;exact rfl));(repeat' (first|(show All _;constructor)|(show Imp _ _;constructor)|(apply wE pk;(iterate 2 exact rfl))|(apply ldR pk;exact rfl;exact rfl;rotate_left;exact rfl;(exact aC _ _ _);exact rfl;exact rfl)|(apply stR pk;exact rfl;exact rfl;(exact aC _ _ _);exact rfl;exact rfl)|(apply vV 5;exact rfl;exact rfl;intro id5 hid5)|(apply vV 8;exact rfl;exact rfl;intro id8 hid8)|(apply vV 9;exact rfl;exact rfl;intro id9 hid9)))
  have q:=hF.toHS (c8:= .cells 110 [.val (.slice none 0 0)]) (c5:= .cells 226 [.mref idm]) (c9:= .cells 227 [.val .nilFunc]) hid5 hid8 hid9 rfl rfl rfl
  (try (apply wO pk;exact rfl));(repeat' (first|(show All _;constructor)|(apply wE pk;(iterate 2 exact rfl))|(apply iS;exact rfl;exact rfl;(apply (alN hWh.named hWh.formed hl l.length Nm.zero _ _ _ (adW hWh) (by rw [hlen];simp;omega) q)<;>first|exact aC _ _ _|assumption|omega|(fail));(iterate 3 exact rfl);intro _ st' hR;obtain ⟨A2,hA3,hA4⟩:=hR)))
  rw [List.nil_append] at hA3
  have hold:=hA3.old
  have hsub:∀ido,st ido=none→StSub st (upd st' ido none):=fun ido hn j=>by
    by_cases hj:st j=none
    · exact .inl hj
    · right;rw [aG (fun e=>by subst e;exact hj hn)];exact (hold j hj).symm
  have hsub0:StSub st st':=fun j=>by
    by_cases hj:st j=none
    · exact .inl hj
    · right;exact (hold j hj).symm
  rcases hA3.h8 with ⟨h8,e8⟩|⟨ido,h8,c1,c2,c3⟩
  · (try (apply wO pk;exact rfl));(repeat' (first|(show All _;constructor)|(show Imp _ _;constructor)|(apply wE pk;(iterate 2 exact rfl))|((try refine aB ?_);((refine ⟨_,_,_,rfl,Wk.refl _,StSub.refl _, ?_⟩;((exact .inr ⟨rfl,by rw [hord,e8];rfl,hsub0⟩));done)))|(apply ldR pk;exact rfl;exact rfl;rotate_left;exact rfl;(assumption);exact rfl;exact rfl)))
  · (try (apply wO pk;exact rfl));(repeat' (first|(show All _;constructor)|(show Imp _ _;constructor)|(apply wE pk;(iterate 2 exact rfl))|((try refine aB ?_);((refine ⟨_,_,_,rfl,Wk.refl _,StSub.refl _, ?_⟩;((exact .inl ⟨ido,by rw [hord,zql],c2,by rw [hord];exact c1,hsub ido c2⟩));done)))|(apply ldR pk;exact rfl;exact rfl;rotate_left;exact rfl;(assumption);exact rfl;exact rfl)))
theorem aqG :Tryz.prog.cellsOf 166=11:=(aR aD (t:=166) (n:=11) rfl).2
theorem abW (l:List Pt) (hl:l.length<4611686018427387904) (hlen:dU l=true→(dM l l.length Nm.zero).length=l.length):PF Tryz.prog 181 [.seq (l.map Pt.cells)] (.seq ((dP l).map Pt.cells)):=
  akW aqG fun st=>apN l st hl hlen
end Go.Proofs.YtcglimangneafaaGreatDoor.T
namespace Go.Proofs.YtcglimangneafaaGreatDoor.T
open Go Go.Abs
inductive Anc (l:List Pt):Pt→List Pt→Prop
  |root {p:Pt} (hp:p∈l) (h0:aN p=Nm.zero):Anc l p [p]
  |step {p u:Pt} {s:List Pt} (hp:p∈l) (hu:u∈l) (e:aO u=aN p) (h0:aN p≠Nm.zero) (h:Anc l u s):Anc l p (s++[p])
theorem Anc.mem {l:List Pt} {p:Pt} {s:List Pt} (h:Anc l p s):p∈l:=by cases h<;>assumption
theorem Anc.all {l:List Pt} {p:Pt} {s:List Pt} (h:Anc l p s):∀q∈s,q∈l:=by
  induction h with
  |root hp _=>intro q hq;rw [List.mem_singleton.1 hq];exact hp
  |step hp _ _ _ _ ih=>
    intro q hq
    rcases List.mem_append.1 hq with hq|hq
    · exact ih q hq
    · rw [List.mem_singleton.1 hq];exact hp
theorem Anc.fn {l:List Pt} (hn:named l) {p:Pt} {s:List Pt} (h:Anc l p s):∀{t:List Pt},Anc l p t→s=t:=by
  induction h with
  |root hp h0=>intro t ht;cases ht with
    |root=>rfl
    |step _ _ _ h0' _=>exact absurd h0 h0'
  |step hp hu e h0 _ ih=>intro t ht;cases ht with
    |root _ h0'=>exact absurd h0' h0
    |step _ hu' e' _ h'=>
      have:=hn _ hu _ hu' (by rw [e,e'])
      subst this
      rw [ih h']
theorem Anc.last {l:List Pt} {p:Pt} {s:List Pt} (h:Anc l p s):∃r,s=r++[p]:=by
  cases h with
  |root=>exact ⟨[],rfl⟩
  |step=>exact ⟨_,rfl⟩
theorem Anc.ex {l:List Pt} (hW:Whole l):∀(n:Nat) (p:Pt),p∈l→(l.filter fun q=>dG q p).length≤n→∃s,Anc l p s
  |n,p,hp,hn=>by
    by_cases h0:aN p=Nm.zero
    · exact ⟨_, .root hp h0⟩
    · obtain ⟨u,hu,e,ha⟩:=(hW.up p hp).resolve_left h0
      have hlt:(l.filter fun q=>dG q u).length<(l.filter fun q=>dG q p).length:=nH (a:=u) hu ha (by rw [←Bool.not_eq_true,gD];omega) fun q _ hq=>by
        rw [gD] at ha hq⊢;omega
      cases n with
      |zero=>omega
      |succ n=>
        obtain ⟨s,hs⟩:=Anc.ex hW n u hu (by omega)
        exact ⟨_, .step hp hu e h0 hs⟩
def fM :List Pt→List Pt→Prop
  |_,[]=>False
  |[],_::_=>True
  |a::s,b::t=>a=b∧fM s t∨dQ a b
theorem rJ (a:Pt):¬dQ a a:=by rw [fI];omega
theorem apQ {a b c:Pt} (h1:dQ a b) (h2:dQ b c):dQ a c:=by rw [fI] at h1 h2⊢;omega
theorem rF :∀(s:List Pt),¬fM s s
  |[],h=>h
  |a::s,h=>by rcases h with ⟨_,h⟩|h;exact rF s h;exact rJ a h
theorem acC :∀{s t u:List Pt},fM s t→fM t u→fM s u
  |_,_,[],_,h=>(by cases ‹List Pt› <;>exact h.elim)
  |s,[],_::_,h,_=>(by cases s<;>simp [fM] at h)
  |[],_::_,_::_,_,_=>trivial
  |a::s,b::t,c::u,h1,h2=>by
    rcases h1 with ⟨rfl,h1⟩|h1<;>rcases h2 with ⟨rfl,h2⟩|h2
    · exact .inl ⟨rfl,acC h1 h2⟩
    · exact .inr h2
    · exact .inr h1
    · exact .inr (apQ h1 h2)
theorem rC :∀(P:List Pt) {s t:List Pt},fM s t→fM (P++s) (P++t)
  |[],_,_,h=>h
  |a::P,_,_,h=> .inl ⟨rfl,rC P h⟩
def ltP (l:List Pt) (p q:Pt):Prop:=∃s t,Anc l p s∧Anc l q t∧fM s t
theorem ajQ {l:List Pt} (hn:named l) (p:Pt):¬ltP l p p:=fun ⟨s,t,h1,h2,h⟩=>by rw [h1.fn hn h2] at h;exact rF _ h
theorem asJ {l:List Pt} (hn:named l) {p q:Pt} (h:ltP l p q) (h':ltP l q p):False:=by
  obtain ⟨s,t,h1,h2,h3⟩:=h
  obtain ⟨t',s',h4,h5,h6⟩:=h'
  rw [←h1.fn hn h5,←h2.fn hn h4] at h6
  exact rF _ (acC h3 h6)
theorem pZ {l:List Pt} (h:(l.map aO).Nodup):l.Nodup:=by
  induction l with
  |nil=>exact List.nodup_nil
  |cons a l ih=>
    simp only [List.map_cons,List.nodup_cons] at h
    exact List.nodup_cons.2 ⟨fun hm=>h.1 (List.mem_map.2 ⟨a,hm,rfl⟩),ih h.2⟩
theorem mV {l:List Pt} (hW:Whole l):∀(n:Nat) (k:Nm) (P:List Pt),(∀p∈eV l k,Anc l p (P++[p]))→
    (∀x∈dM l n k,∃q s,q∈cB l k∧Anc l x (P++q::s))∧(dM l n k).Pairwise (ltP l)
  |0,_,_,_=>⟨fun x h=>(by cases h),List.Pairwise.nil⟩
  |n+1,k,P,hP=>by
    have hq:∀q∈cB l k,Anc l q (P++[q]):=fun q hq=>hP q (gB hq).2
    have hc:∀q∈cB l k,∀p∈eV l (aO q),Anc l p ((P++[q])++[p]):=fun q hq' p hp=>by
      obtain ⟨h1,h2⟩:=List.mem_filter.1 hp
      have h2:aN p=aO q:=by simpa using h2
      have hql:=(gB hq').1
      exact .step h1 hql h2.symm (by rw [h2];exact tO (hW.formed q hql)) (hq q hq')
    have key:∀q∈cB l k,∀x∈q::dM l n (aO q),∃s,Anc l x (P++q::s):=fun q hq' x hx=>by
      rcases List.mem_cons.1 hx with rfl|hx
      · exact ⟨[],hq x hq'⟩
      · obtain ⟨r,s,_,h⟩:=(mV hW n (aO q) (P++[q]) (hc q hq')).1 x hx
        exact ⟨r::s,by simpa using h⟩
    constructor
    · intro x hx
      obtain ⟨q,hq',hx⟩:=List.mem_flatMap.1 hx
      obtain ⟨s,h⟩:=key q hq' x hx
      exact ⟨q,s,hq',h⟩
    · rw [dM,List.pairwise_flatMap]
      refine ⟨fun q hq'=> ?_, ?_⟩
      · have ih:=mV hW n (aO q) (P++[q]) (hc q hq')
        rw [List.pairwise_cons]
        refine ⟨fun x hx=> ?_,ih.2⟩
        obtain ⟨r,s,_,h⟩:=ih.1 x hx
        refine ⟨_,_,hq q hq',h, ?_⟩
        have:=rC (P++[q]) (s:=[]) (t:=r::s) trivial
        simpa using this
      · have hs:=pW l k
        have hnd:(cB l k).Nodup:=by
          have:=hW.nodup
          have h1:(eV l k).Nodup:=(List.Pairwise.filter _ (pZ this))
          exact (gH l k).nodup_iff.2 h1
        refine (hs.and hnd).imp_of_mem fun {a b} ha hb hab x hx y hy=> ?_
        obtain ⟨s,h1⟩:=key a ha x hx
        obtain ⟨t,h2⟩:=key b hb y hy
        refine ⟨_,_,h1,h2,rC P (.inr ?_)⟩
        by_cases hk:dQ a b
        · exact hk
        · exact absurd (akC hW.named (gB ha).1 (gB hb).1 hk hab.1) hab.2
theorem alC {l:List Pt} {n:Nat} {k:Nm} {p:Pt} (hd:aiC l n k) (hp:p∈eV l k):p∈dM l n k:=by
  cases n with
  |zero=>rw [show eV l k=[] from hd] at hp;cases hp
  |succ n=>exact List.mem_flatMap.2 ⟨p,(gH l k).symm.subset hp,by simp⟩
theorem afD {l:List Pt} {p u:Pt} (hp:p∈eV l (aO u)):∀{n:Nat} {k:Nm},aiC l n k→u∈dM l n k→p∈dM l n k
  |0,_,_,hu=>(by cases hu)
  |n+1,k,hd,hu=>by
    obtain ⟨q,hq,hu⟩:=List.mem_flatMap.1 hu
    have hdq:=hd q (gB hq).2
    refine List.mem_flatMap.2 ⟨q,hq, ?_⟩
    rcases List.mem_cons.1 hu with rfl|hu
    · exact List.mem_cons_of_mem _ (alC hdq hp)
    · exact List.mem_cons_of_mem _ (afD hp hdq hu)
theorem acO {l:List Pt}:∀{n:Nat} {k:Nm} {p:Pt},p∈dM l n k→p∈l
  |0,_,_,h=>(by cases h)
  |n+1,k,p,h=>by
    obtain ⟨q,hq,h⟩:=List.mem_flatMap.1 h
    rcases List.mem_cons.1 h with rfl|h
    · exact (gB hq).1
    · exact acO h
theorem ayY {l:List Pt} (hW:Whole l) {p:Pt} {s:List Pt} (h:Anc l p s):p∈dM l l.length Nm.zero:=by
  have hd:=adW hW
  induction h with
  |root hp h0=>exact alC hd (List.mem_filter.2 ⟨hp,by simpa using h0⟩)
  |step hp hu e h0 _ ih=>exact afD (List.mem_filter.2 ⟨hp,by simpa using e.symm⟩) hd ih
theorem xZ {l m:List Pt} (h1:l.Nodup) (h2:m.Nodup) (h:∀a,a∈l↔a∈m):l.Perm m:=by
  rw [List.perm_iff_count]
  intro a
  rw [h1.count,h2.count]
  simp [h a]
theorem adH {l:List Pt} (hW:Whole l):(dM l l.length Nm.zero).Perm l∧(dM l l.length Nm.zero).Pairwise (ltP l):=by
  have hs:=(mV hW l.length Nm.zero [] fun p hp=>by
    obtain ⟨h1,h2⟩:=List.mem_filter.1 hp
    exact .root h1 (by simpa using h2)).2
  refine ⟨xZ ?_ (pZ hW.nodup) fun a=>⟨acO,fun ha=> ?_⟩,hs⟩
  · exact hs.imp fun {a b} h e=>by subst e;exact ajQ hW.named _ h
  · obtain ⟨s,hs⟩:=Anc.ex hW _ a ha (Nat.le_refl _)
    exact ayY hW hs
theorem aiL (l:List Pt) (hl:l.length<4611686018427387904):PF Tryz.prog 181 [.seq (l.map Pt.cells)] (.seq ((dP l).map Pt.cells)):=
  abW l hl fun h=>(adH ((dK l).1 h)).1.length_eq
theorem qK {l:List Pt} (hW:Whole l) (hl:l.length≤2000):(dP l).Perm l∧(dP l).Pairwise (ltP l):=by
  unfold dP
  rw [if_pos ⟨(dK l).2 hW,hl⟩]
  exact adH hW
theorem vJ {l:List Pt} (h:¬(Whole l∧l.length≤2000)):dP l=[]:=by
  unfold dP
  rw [if_neg fun ⟨a,b⟩=>h ⟨(dK l).1 a,b⟩]
theorem Inv.perm {l m:List Pt} (hp:l.Perm m) (h:Inv l):Inv m:=
  ⟨fun p hm=>h.formed p (hp.symm.subset hm),(hp.map aO).nodup_iff.1 h.nodup,fun a ha b hb=>h.times a (hp.symm.subset ha) b (hp.symm.subset hb)⟩
theorem Whole.perm {l m:List Pt} (hp:l.Perm m) (h:Whole l):Whole m where
  toInv:=h.toInv.perm hp
  up p hm:=by
    rcases h.up p (hp.symm.subset hm) with e|⟨u,hu,e⟩
    · exact .inl e
    · exact .inr ⟨u,hp.subset hu,e⟩
theorem Anc.perm {l m:List Pt} (hp:∀a,a∈l→a∈m) {p:Pt} {s:List Pt} (h:Anc l p s):Anc m p s:=by
  induction h with
  |root h h0=>exact .root (hp _ h) h0
  |step h hu e h0 _ ih=>exact .step (hp _ h) (hp _ hu) e h0 ih
theorem ltP.perm {l m:List Pt} (hp:∀a,a∈l→a∈m) {p q:Pt} (h:ltP l p q):ltP m p q:=by
  obtain ⟨s,t,h1,h2,h3⟩:=h
  exact ⟨s,t,h1.perm hp,h2.perm hp,h3⟩
end Go.Proofs.YtcglimangneafaaGreatDoor.T
namespace Go.Proofs.YtcglimangneafaaGreatDoor.T
open Go Go.Abs
attribute [local irreducible] Ev PWp
set_option maxRecDepth 10000
set_option maxHeartbeats 1000000
theorem qQ {l m:List Pt} {i:Nat} (h:l.take i=m.take i) (h1:i<l.length) (h2:i<m.length) (e:l[i]=m[i]):l.take (i+1)=m.take (i+1):=by
  rw [List.take_succ_eq_append_getElem h1,List.take_succ_eq_append_getElem h2,h,e]
theorem zJ {l m:List Pt} {i:Nat} (h1:i<l.length) (h2:i<m.length) (e:l[i]≠m[i]):decide (l=m)=false:=decide_eq_false fun h=>by subst h;exact e rfl
theorem vH {l m:List Pt} {i:Nat} (h:l.take i=m.take i) (h1:l.length≤i) (h2:m.length≤i):decide (l=m)=true:=by
  rw [List.take_of_length_le h1,List.take_of_length_le h2] at h;exact decide_eq_true h
theorem ahA (l m:List Pt) (hl:l.length<4611686018427387904):PF Tryz.prog 180 [.seq (l.map Pt.cells), .seq (m.map Pt.cells)] (PV.val (Value.bool (decide (l=m)))):=by
  refine aH aD Tryz.func180 (by kernel_rfl) rfl rfl rfl rfl (fun st=> ?_)
  (try (apply wO pk;exact rfl));(repeat' (first|(show All _;constructor)|(apply wC pk;(iterate 2 exact rfl))|(refine aA rfl (fun h=> ?_) (fun h=> ?_)<;>(try simp at h)<;>try (exfalso;omega))|(refine aB ?_;refine ⟨_,_,_,rfl,Wk.refl _,StSub.refl _, ?_,rfl⟩;try first|rfl|((rw [decide_eq_false (fun e:l=m=>by subst e;simp at*)]);done))))
  refine aJ (X:={x:Nat//x≤l.length∧l.take x=m.take x}) (fun i=>(((((St.nil 26 st).pv 0 (.seq (l.map Pt.cells))).pv 1 (.seq (m.map Pt.cells))).pv 12 ((PV.val (Value.int .i64 ((((l.map Pt.cells)).length:Nat)))))).pv 13 ((PV.val (Value.int .i64 ((i.1:Nat))))))) (fun i=>l.length-i.1) ⟨0,by omega,rfl⟩ ?_ (fun i=> ?_)
  · ((repeat (refine Sub.pv ?_ rfl));exact Sub.nil _ _ _ (StSub.refl _) rfl)
  obtain ⟨i,hi,hinv⟩:=i
  dsimp only
  have hlm:l.length=m.length:=by omega
  (try (apply wO pk;exact rfl));(repeat' (first|(show All _;constructor)|(show Imp _ _;constructor)|(apply wC pk;(iterate 2 exact rfl))|(apply wE pk;(iterate 2 exact rfl))|(apply wD pk [] [];kernel_rfl;exact rfl;exact rfl)|(refine aA rfl (fun h=> ?_) (fun h=> ?_)<;>(try simp at h)<;>try (exfalso;omega))|(refine aB ?_;refine ⟨_,_,_,rfl,Wk.refl _,StSub.refl _, ?_,rfl⟩;try first|rfl|((first|(rw [zJ (i:=i) (by omega) (by omega) (fun e=>by simp [e] at h)];done)|(rw [vH hinv (by omega) (by omega)]));done))|(apply aM pk;(iterate 6 exact rfl);rotate_left;exact rfl;(intro hw;exact rfl);(intro hw;apply aF<;>omega);(intro _;exact rfl);exact rfl)|(refine ⟨⟨i+1,by omega,qQ hinv (by omega) (by omega) (by rw [Pt.ext_iff,Vl.ext_iff,Dt.ext_iff,Dt.ext_iff];simpa [and_assoc] using h)⟩, ?_,by simp only;omega⟩;((repeat (refine Sub.pv ?_ rfl));exact Sub.nil _ _ _ (StSub.refl _) rfl))|(intros;(try simp only [zql]);omega)))
def rightP (c:Cl):Int:=if c.kind≠4 then 6 else if c.val≠Vl.zero∨dU c.parts=false then 1 else if 2000<c.parts.length then 2 else if dP c.parts≠c.parts then 3 else 0
theorem zI (l:List Pt):(dP l).length≤l.length:=by
  by_cases h:Whole l∧l.length≤2000
  · exact Nat.le_of_eq (qK h.1 h.2).1.length_eq
  · rw [vJ h];simp
theorem right_spec (c:Cl) (hl:c.parts.length<4611686018427387904):PF Tryz.prog 136 [.agg c.cells] (PV.val (Value.int .i64 (rightP c))):=by
  have:=zI c.parts
  have hc:(2000<((c.parts.length:Nat):Int))↔2000<c.parts.length:=by omega
  have hc2:(((c.parts.length:Nat):Int)≤2000)↔¬2000<c.parts.length:=by omega
  refine aH aD Tryz.func136 (by kernel_rfl) rfl rfl rfl rfl (fun st=> ?_)
  (try (apply wO pk;exact rfl));(repeat' (first|(show All _;constructor)|(show Imp _ _;constructor)|(show ImpX _ _ _ _;constructor)|(apply wC pk;(iterate 2 exact rfl))|(apply wE pk;(iterate 2 exact rfl))|(apply wD pk [] [];kernel_rfl;exact rfl;exact rfl)|(refine aA rfl (fun h=> ?_) (fun h=> ?_)<;>(try simp at h)<;>try (exfalso;omega))|(refine aB ?_;refine ⟨_,_,_,rfl,Wk.refl _,StSub.refl _, ?_,rfl⟩;try first|rfl|((first|(simp only [rightP,Vl.ext_iff,Vl.zero,e0];grind)|(obtain ⟨⟨q1,q2,q3⟩,q4⟩:=‹(_∧_∧_)∧_›;have e1:c.val=Vl.zero:=(Vl.ext_iff _ _).2 ⟨q1,q2,q3⟩;simp only [rightP,e1,q4];grind));done))|(apply aI;(iterate 3 exact rfl);(intro _;(first|apply (uL c.parts hl)|apply (aiL c.parts hl)|apply (ahA (dP c.parts) c.parts))<;>first|assumption|omega);rotate_left;(iterate 2 exact rfl))))
def mJ :List Pt→List Int→List Int
  |[],acc=>acc
  |p::r,acc=>mJ r (if p.gone=false∧acc.length<200 then acc++[p.val.n] else acc)
def showP (c:Cl):Vl:=if rightP c=0 then ⟨2,0,fX (mJ c.parts [])⟩ else Vl.zero
theorem tK {l:List Pt} {i:Nat} (h:i<l.length) (acc:List Int):mJ (l.drop i) acc=mJ (l.drop (i+1)) (if l[i].gone=false∧acc.length<200 then acc++[l[i].val.n] else acc):=by
  rw [List.drop_eq_getElem_cons h];rfl
theorem ayQ :Tryz.prog.bytesOf 5=1:=by kernel_rfl
theorem pL {c:Cl} (h:rightP c=0):c.kind=4∧c.val=Vl.zero∧Whole c.parts∧c.parts.length≤2000∧dP c.parts=c.parts:=by
  unfold rightP at h
  split at h
  · cases h
  · split at h
    · cases h
    · split at h
      · cases h
      · split at h
        · cases h
        · rename_i h1 h2 h3 h4
          simp only [ne_eq,not_or,Decidable.not_not,Bool.not_eq_false] at h1 h2 h4
          exact ⟨h1,h2.1,(dK _).1 h2.2,by omega,h4⟩
theorem aeX {p:Pt} (h:bR p=true):0≤p.val.n∧p.val.n≤255:=by
  simp only [bR,eR,Bool.and_eq_true,decide_eq_true_eq] at h
  exact ⟨h.1.1.1.2.1,h.1.1.1.2.2⟩
theorem gL {st:aL} {id id':Nat} {o:AObj} (h:upd st id (some o) id'=none):st id'=none:=by
  by_cases e:id'=id
  · rw [e,aC] at h;cases h
  · rwa [aG e] at h
theorem show_spec (c:Cl) (hl:c.parts.length<4611686018427387904):PF Tryz.prog 98 [.agg c.cells] (.agg (showP c).cells):=by
  refine aH aD Tryz.func98 (by kernel_rfl) rfl rfl rfl rfl (fun st=> ?_)
  (try (apply wO pk;exact rfl));(repeat' (first|(show All _;constructor)|(show Imp _ _;constructor)|(apply wC pk;(iterate 2 exact rfl))|(apply wE pk;(iterate 2 exact rfl))|(refine aA rfl (fun h=> ?_) (fun h=> ?_)<;>(try simp at h)<;>try (exfalso;omega))|(refine aB ?_;refine ⟨_,_,_,rfl,Wk.refl _,StSub.refl _, ?_,rfl⟩;try first|rfl|((rw [showP,if_neg (by assumption)];rfl);done))|(apply aI;(iterate 3 exact rfl);(intro _;apply (right_spec c hl)<;>first|assumption|omega);rotate_left;(iterate 2 exact rfl))))
  have h0:rightP c=0:=h
  have hb:=fun p (hp:p∈c.parts)=>aeX ((pL h0).2.2.1.formed p hp)
  refine pT 3 5 rfl rfl (fun id hid=> ?_)
  have hid:st id=none:=hid
  refine aJ (X:={x:Nat×List Int×Nat//x.1≤c.parts.length∧st x.2.2=none∧x.2.1.length≤200∧mJ (c.parts.drop x.1) x.2.1=mJ c.parts []}) (fun i=>((((((St.nil 36 (upd st i.1.2.2 (some (.tok 5)))).var 2 47 ([(PV.val (Value.int .i64 (0))),(PV.val (Value.int .i64 (0))),(PV.val (Value.string (e0)))])).pv 3 (.own i.1.2.2 (i.1.2.1.map U8))).pv 11 (.seq (c.parts.map Pt.cells))).pv 12 ((PV.val (Value.int .i64 ((c.parts.length:Nat)))))).pv 13 ((PV.val (Value.int .i64 ((i.1.1:Nat))))))) (fun i=>c.parts.length-i.1.1) ⟨(0,[],id),by simp,hid,by simp,rfl⟩ ?_ (fun i=> ?_)
  · (((repeat (first|refine Sub.pv ?_ rfl|refine Sub.var ?_ rfl rfl|refine Sub.pv' ?_ rfl (by first|rfl|simp)));(exact Sub.nil _ _ _ (StSub.refl _) rfl)))
  obtain ⟨⟨i,acc,id⟩,hi,hid,ha,hinv⟩:=i
  simp only at hi hid ha hinv
  dsimp only
  have hs:=fun h:i<c.parts.length=>tK h acc
  have hb2:=fun h:i<c.parts.length=>hb _ (List.getElem_mem h)
  (try (apply wO pk;exact rfl));(repeat' (first|(show All _;constructor)|(show Imp _ _;constructor)|(show ImpX _ _ _ _;constructor)|(apply wC pk;(iterate 2 exact rfl))|(apply wE pk;(iterate 2 exact rfl))|(refine aA rfl (fun h=> ?_) (fun h=> ?_)<;>(try simp at h)<;>try (exfalso;omega))|(refine aB ?_;first|(refine ⟨_,_,_,rfl,Wk.refl _,StSub.refl _, ?_,rfl⟩;(fail))|(refine ⟨_,_,_,rfl,Wk.refl _,aK (by assumption), ?_,rfl⟩;(((rw [showP,if_pos h0,←hinv,List.drop_eq_nil_of_le (by omega)];rfl);done)))|(refine ⟨_,_,_,rfl,Wk.soft _,StSub.refl _, ?_,rfl⟩;(fail))|(refine ⟨_,_,_,rfl,Wk.soft _,aK (by assumption), ?_,rfl⟩;(fail))|(refine ⟨_,_,_,rfl,Wk.refl _,StSub.refl _, ?_,rfl⟩)|(refine ⟨_,_,_,rfl,Wk.soft _,aK (by assumption), ?_,rfl⟩))|(apply aM pk;(iterate 6 exact rfl);rotate_left;exact rfl;(intro hw;exact rfl);(intro hw;apply aF<;>omega);(intro _;exact rfl);exact rfl)|(apply cvA pk.htt;(iterate 5 exact rfl);(refine ⟨?_, ?_⟩<;>(first|(exact (hb2 (by assumption)).1)|(have:=(hb2 (by assumption)).2;omega)));exact rfl)|(apply azZ pk acc;(iterate 6 exact rfl);rotate_left;exact rfl;exact rfl)|((first|refine ⟨⟨(i+1,acc++[(c.parts[i]'(by assumption)).val.n],id'),by simp only;omega,gL hid',by simp only [List.length_append,List.length_singleton];omega,by rw [←hinv,hs (by assumption),if_pos ⟨h.1,by omega⟩]⟩, ?_,by simp only;omega⟩|refine ⟨⟨(i+1,acc,id),by simp only;omega,hid,ha,by rw [←hinv,hs (by assumption),if_neg (fun q=>by have:=h q.1;omega)]⟩, ?_,by simp only;omega⟩);(((repeat (first|refine Sub.pv ?_ rfl|refine Sub.var ?_ rfl rfl));(first|exact Sub.nil _ _ _ (StSub.refl _) rfl|exact Sub.nil _ _ _ (cE (by assumption)) rfl))))|(apply apS pk ((c.parts[i]'(by assumption)).val.n) 1;(iterate 8 exact rfl);exact aC _ _ _;exact fun _=>rfl;exact fun _=>rfl;exact ayQ;(omega);(omega);exact rfl;intro id' hid')|(intros;(try simp only [zql]);omega)))
end Go.Proofs.YtcglimangneafaaGreatDoor.T
