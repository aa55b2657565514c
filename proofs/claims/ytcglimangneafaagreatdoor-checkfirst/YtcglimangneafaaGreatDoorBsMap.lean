import Derived.Test.YtcglimangneafaaGreatDoorBsRefS
import Derived.Test.YtcglimangneafaaGreatDoorTyC
set_option linter.unusedSimpArgs false
set_option linter.unusedVariables false
namespace Go.Proofs.YtcglimangneafaaGreatDoor
open Go Go.Abs
theorem ajE {α:Type} {r:α→α→Prop} (tr:∀{a b c},r a b→r b c→r a c) (irr:∀{a},¬r a a):∀{l m:List α},l.Pairwise r→m.Pairwise r→(∀x,x∈l↔x∈m)→l=m
  |[],[],_,_,_=>rfl
  |[],b::m,_,_,h=>absurd ((h b).2 (by simp)) (by simp)
  |a::l,[],_,_,h=>absurd ((h a).1 (by simp)) (by simp)
  |a::l,b::m,h1,h2,h=>by
    have h1':=List.pairwise_cons.1 h1
    have h2':=List.pairwise_cons.1 h2
    have e:a=b:=by
      rcases List.mem_cons.1 ((h a).1 (by simp)) with q|q
      · exact q
      rcases List.mem_cons.1 ((h b).2 (by simp)) with w|w
      · exact w.symm
      exact absurd (tr (h2'.1 a q) (h1'.1 b w)) irr
    subst e
    refine congrArg (a:: ·) (ajE (r:=r) tr irr h1'.2 h2'.2 fun x=> ?_)
    constructor
    · intro q
      rcases List.mem_cons.1 ((h x).1 (List.mem_cons_of_mem _ q)) with w|w
      · subst w;exact absurd (h1'.1 x q) irr
      · exact w
    · intro q
      rcases List.mem_cons.1 ((h x).2 (List.mem_cons_of_mem _ q)) with w|w
      · subst w;exact absurd (h2'.1 x q) irr
      · exact w
def KSort (L:List Ln):Prop:=(L.map (·.key)).Pairwise (· < ·)
theorem KSort.at {L:List Ln} (h:KSort L) {i j:Nat} (hij:i<j) (hj:j<L.length):(L[i]'(by omega)).key<L[j].key:=by
  have:=List.pairwise_iff_getElem.1 h i j (by simp;omega) (by simpa using hj) hij
  simpa using this
theorem KSort.inj {L:List Ln} (h:KSort L) {i j:Nat} (hi:i<L.length) (hj:j<L.length) (e:L[i].key=L[j].key):i=j:=by
  rcases Nat.lt_trichotomy i j with q|q|q
  · have:=h.at q hj;omega
  · exact q
  · have:=h.at q hi;omega
theorem KSort.eq {L:List Ln} (h:KSort L) {x y:Ln} (hx:x∈L) (hy:y∈L) (e:x.key=y.key):x=y:=by
  obtain ⟨i,hi,rfl⟩:=List.getElem_of_mem hx
  obtain ⟨j,hj,rfl⟩:=List.getElem_of_mem hy
  have:=h.inj hi hj e
  subst this;rfl
theorem nO {L:List Ln} (h:KSort L) {k:Int} {x:Ln}:dQ L k=some x↔x∈L∧x.key=k:=by
  unfold dQ
  constructor
  · intro q
    exact ⟨List.mem_of_find?_eq_some q,by simpa using List.find?_some q⟩
  · rintro ⟨hx,rfl⟩
    cases q:L.find? fun y=>decide (y.key=x.key) with
    |none=>exact absurd (List.find?_eq_none.1 q x hx) (by simp)
    |some y=>rw [h.eq (List.mem_of_find?_eq_some q) hx (by simpa using List.find?_some q)]
theorem awK {L M:List Ln} (hL:KSort L) (hM:KSort M) {k:Int} (h:∀x:Ln,x.key=k→(x∈L↔x∈M)):dQ L k=dQ M k:=by
  cases q:dQ L k with
  |some x=>obtain ⟨q1,q2⟩:=(nO hL).1 q;exact ((nO hM).2 ⟨(h x q2).1 q1,q2⟩).symm
  |none=>
    cases w:dQ M k with
    |none=>rfl
    |some x=>
      obtain ⟨w1,w2⟩:=(nO hM).1 w
      rw [(nO hL).2 ⟨(h x w2).2 w1,w2⟩] at q;cases q
theorem ayZ {L M:List Ln} (hL:KSort L) (hM:KSort M) (h:∀x,x∈L↔x∈M):L=M:=by
  refine ajE (r:=fun a b:Ln=>a.key<b.key) (fun h1 h2=>Int.lt_trans h1 h2) (fun h=>Int.lt_irrefl _ h) ?_ ?_ h
  · exact List.pairwise_map.1 hL
  · exact List.pairwise_map.1 hM
def gR (L:List Ln) (key:Int):List Ln:=if (atP L key).2 then L.eraseIdx (atP L key).1.toNat else L
theorem pW {L:List Ln} (h:KSort L) (a x:Ln):x∈pR L a↔x=a∨(x∈L∧x.key≠a.key):=by
  unfold pR
  rcases pO L a.key with ⟨j,hj,e,_,hk,_⟩|⟨j,hj,e,_,hk,_,_⟩
  · rw [e,if_pos rfl,Int.toNat_natCast]
    constructor
    · intro hx
      obtain ⟨q,hq,rfl⟩:=List.getElem_of_mem hx
      rw [List.length_set] at hq
      rw [List.getElem_set]
      split
      · exact .inl rfl
      · rename_i hne
        exact .inr ⟨List.getElem_mem hq,fun e2=>hne (h.inj hj hq (hk.trans e2.symm))⟩
    · rintro (rfl|⟨hx,hne⟩)
      · exact List.mem_iff_getElem.2 ⟨j,by simpa using hj,by simp⟩
      · obtain ⟨q,hq,rfl⟩:=List.getElem_of_mem hx
        have hqj:q≠j:=fun e2=>hne (by subst e2;exact hk)
        exact List.mem_iff_getElem.2 ⟨q,by simpa using hq,by rw [List.getElem_set_ne (Ne.symm hqj)]⟩
  · rw [e,if_neg (by simp),Int.toNat_natCast]
    unfold dA
    have e2:=List.take_append_drop j L
    have:x∈L↔x∈L.take j∨x∈L.drop j:=by rw [←List.mem_append,e2]
    simp only [List.mem_append,List.mem_singleton]
    constructor
    · rintro ((q|q)|q)
      · exact .inr ⟨this.2 (.inl q),hk x (this.2 (.inl q))⟩
      · exact .inl q
      · exact .inr ⟨this.2 (.inr q),hk x (this.2 (.inr q))⟩
    · rintro (q|⟨q,_⟩)
      · exact .inl (.inr q)
      · rcases this.1 q with q|q
        · exact .inl (.inl q)
        · exact .inr q
theorem KSort.put {L:List Ln} (h:KSort L) (a:Ln):KSort (pR L a):=by
  unfold pR
  rcases pO L a.key with ⟨j,hj,e,_,hk,_⟩|⟨j,hj,e,_,hk,hlo,hhi⟩
  · rw [e,if_pos rfl,Int.toNat_natCast]
    unfold KSort
    rw [List.map_set,←hk]
    have:(L.map (·.key)).set j L[j].key=L.map (·.key):=by
      have hj2:j<(L.map (·.key)).length:=by simpa using hj
      have:=List.set_getElem_self hj2
      simpa using this
    rw [this];exact h
  · rw [e,if_neg (by simp),Int.toNat_natCast]
    unfold KSort dA
    have hp:=h
    unfold KSort at hp
    rw [←List.take_append_drop j L,List.map_append,List.pairwise_append] at hp
    rw [List.map_append,List.map_append,List.pairwise_append,List.pairwise_append]
    refine ⟨⟨hp.1,List.pairwise_singleton ..,fun x hx y hy=> ?_⟩,hp.2.1,fun x hx y hy=> ?_⟩
    · simp only [List.map_cons,List.map_nil,List.mem_singleton] at hy
      subst hy
      obtain ⟨z,hz,rfl⟩:=List.mem_map.1 hx
      obtain ⟨q,hq,rfl⟩:=List.getElem_of_mem hz
      rw [List.length_take] at hq
      rw [List.getElem_take]
      have h1:=hlo q (by omega) (by omega)
      have h2:=hk _ (List.getElem_mem (show q<L.length by omega))
      omega
    · have hyk:a.key<y:=by
        obtain ⟨z,hz,rfl⟩:=List.mem_map.1 hy
        obtain ⟨q,hq,rfl⟩:=List.getElem_of_mem hz
        rw [List.length_drop] at hq
        rw [List.getElem_drop]
        have h1:=hhi (by omega)
        rcases Nat.eq_zero_or_pos q with rfl|hq0
        · exact h1
        · have:=h.at (show j<j+q by omega) (by omega);omega
      rw [List.mem_append] at hx
      rcases hx with hx|hx
      · exact hp.2.2 x hx y hy
      · simp only [List.map_cons,List.map_nil,List.mem_singleton] at hx
        subst hx;exact hyk
theorem fB {L:List Ln} (h:KSort L) (k:Int) (x:Ln):x∈gR L k↔x∈L∧x.key≠k:=by
  unfold gR
  rcases pO L k with ⟨j,hj,e,_,hk,_⟩|⟨j,hj,e,_,hk,_,_⟩
  · rw [e,if_pos rfl,Int.toNat_natCast,List.mem_eraseIdx_iff_getElem]
    constructor
    · rintro ⟨q,hq,hne,rfl⟩
      exact ⟨List.getElem_mem hq,fun e2=>hne (h.inj hq hj (e2.trans hk.symm))⟩
    · rintro ⟨hx,hne⟩
      obtain ⟨q,hq,rfl⟩:=List.getElem_of_mem hx
      exact ⟨q,hq,fun e2=>hne (by subst e2;exact hk),rfl⟩
  · rw [e,if_neg (by simp)]
    exact ⟨fun q=>⟨q,hk x q⟩,fun q=>q.1⟩
theorem KSort.drop {L:List Ln} (h:KSort L) (k:Int):KSort (gR L k):=by
  unfold gR
  split
  · exact h.sublist ((List.eraseIdx_sublist ..).map _)
  · exact h
end Go.Proofs.YtcglimangneafaaGreatDoor
namespace Go.Proofs.YtcglimangneafaaGreatDoor
open Go Go.Abs
section
variable {L:List Ln}
theorem pN (h:KSort L) (k:Int):dQ (gR L k) k=none:=by
  cases q:dQ (gR L k) k with
  |none=>rfl
  |some x=>obtain ⟨q1,q2⟩:=(nO (h.drop k)).1 q;exact absurd q2 ((fB h k x).1 q1).2
theorem afZ (h:KSort L) {k k':Int} (hk:k'≠k):dQ (gR L k) k'=dQ L k':=
  awK (h.drop k) h fun x hx=>by
    rw [fB h]
    exact ⟨fun q=>q.1,fun q=>⟨q,hx▸hk⟩⟩
theorem drop_drop (h:KSort L) (k:Int):gR (gR L k) k=gR L k:=
  ayZ ((h.drop k).drop k) (h.drop k) fun x=>by rw [fB (h.drop k),fB h];grind
end
theorem ahV (b:Bs) (k k':Int) (ls:List Ln):okT (gZ b k ls) k'=okT b k':=by unfold okT;rw [fC]
theorem nS {b:Bs} {k:Int} (h:okT b k=true) (ls:List Ln):aR (gZ b k ls) k=ls:=by
  unfold aR
  rw [ahV,if_pos h]
  unfold gZ
  rw [if_pos h]
  simp only [okT,Bool.and_eq_true,decide_eq_true_eq] at h
  rw [getElem!_pos _ k.toNat (by rw [List.length_set];omega),List.getElem_set_self]
theorem uX {b:Bs} {k:Int} (h:okT b k=false):aR b k=[]:=by unfold aR;rw [h];rfl
theorem aiC (b:Bs) (k key:Int):kG b k key=gZ b k (gR (aR b k) key):=xU b k key
variable {tx:Cl→Int}
theorem fG {t:Tb} {L:List Ln}:mD tx t L=true↔L.length≤2000∧(∀x∈L,iN tx t x=true)∧KSort L:=by
  unfold mD
  rw [Bool.and_eq_true,decide_eq_true_eq,qE]
  refine and_congr Iff.rfl ?_
  constructor
  · intro h
    have h1:∀i (hi:i<L.length),iN tx t L[i]=true∧(i=0∨L[i-1]!.key<L[i].key):=fun i hi=>by
      have:=h i hi
      unfold lnR at this
      rw [getElem!_pos L i hi] at this
      simpa using this
    refine ⟨fun x hx=>by obtain ⟨i,hi,rfl⟩:=List.getElem_of_mem hx;exact (h1 i hi).1, ?_⟩
    have key:∀j (hj:j<L.length) i (hi:i<j),(L[i]'(by omega)).key<L[j].key:=by
      intro j
      induction j with
      |zero=>intro _ i hi;exact absurd hi (Nat.not_lt_zero _)
      |succ j ih=>
        intro hj i hi
        have:=(h1 (j+1) hj).2.resolve_left (Nat.succ_ne_zero j)
        rw [show j+1-1=j from rfl,getElem!_pos L j (by omega)] at this
        rcases Nat.lt_succ_iff_lt_or_eq.1 hi with q|q
        · exact Int.lt_trans (ih (by omega) i q) this
        · subst q;exact this
    unfold KSort
    exact List.pairwise_iff_getElem.2 fun i j hi hj hij=>by simpa using key j (by simpa using hj) i hij
  · rintro ⟨h1,h2⟩ i hi
    unfold lnR
    rw [getElem!_pos L i hi,h1 _ (List.getElem_mem hi),Bool.true_and]
    rcases Nat.eq_zero_or_pos i with rfl|h0
    · simp
    · rw [getElem!_pos L (i-1) (by omega)]
      have:=h2.at (show i-1<i by omega) hi
      simp [this]
theorem ajZ (t:Tb):mD tx t []=true:=fG.2 ⟨by simp,fun _ h=>by simp at h,by simp [KSort]⟩
theorem aeB {t:Tb} {L:List Ln} (h:mD tx t L=true) (k:Int):mD tx t (gR L k)=true:=by
  obtain ⟨h1,h2,h3⟩:=fG.1 h
  refine fG.2 ⟨?_,fun x hx=>h2 x ((fB h3 k x).1 hx).1,h3.drop k⟩
  unfold gR
  split
  · exact Nat.le_trans (List.length_eraseIdx_le ..) h1
  · exact h1
theorem cA {s:Sc} {b:Bs}:cY tx s b=true↔(cC s=0∧b.length=s.length)∧∀k<b.length,mD tx s[k]! b[k]!.lines=true:=by
  unfold cY
  rw [Bool.and_eq_true,decide_eq_true_eq,qE]
  exact Iff.rfl
theorem tC {s:Sc} {b:Bs} (h:cY tx s b=true) (k:Int):KSort (aR b k):=by
  cases hk:okT b k with
  |false=>rw [uX hk];simp [KSort]
  |true=>
    have e:aR b k=b[k.toNat]!.lines:=by unfold aR;rw [if_pos hk]
    simp only [okT,Bool.and_eq_true,decide_eq_true_eq] at hk
    rw [e]
    exact (fG.1 ((cA.1 h).2 k.toNat (by omega))).2.2
theorem ahF {s:Sc} {b:Bs} (h:cY tx s b=true) {k:Int} (hk:okT b k=true):mD tx s[k.toNat]! (aR b k)=true:=by
  have e:aR b k=b[k.toNat]!.lines:=by unfold aR;rw [if_pos hk]
  simp only [okT,Bool.and_eq_true,decide_eq_true_eq] at hk
  rw [e]
  exact (cA.1 h).2 k.toNat (by omega)
theorem alE {s:Sc} {b:Bs} (h:cY tx s b=true) {k:Int} (hk:okT b k=true) (ls:List Ln):cY tx s (gZ b k ls)=mD tx s[k.toNat]! ls:=by
  obtain ⟨h1,h2⟩:=cA.1 h
  have hk2:=hk
  simp only [okT,Bool.and_eq_true,decide_eq_true_eq] at hk2
  obtain ⟨q,rfl⟩:∃q:Nat,k=q:=⟨k.toNat,by omega⟩
  have hq:q<b.length:=by omega
  rw [Bool.eq_iff_iff,cA,fC,Int.toNat_natCast]
  constructor
  · intro w
    have:=w.2 q hq
    rwa [getElem!_pos (gZ b q ls) q (by rw [fC];exact hq),aiZ hq rfl] at this
  · intro w
    refine ⟨h1,fun i hi=> ?_⟩
    rw [getElem!_pos (gZ b q ls) i (by rw [fC];exact hi)]
    by_cases e:(i:Int)=q
    · rw [aiZ hi e,show i=q by omega];exact w
    · rw [auN hi e,←getElem!_pos b i hi];exact h2 i hi
theorem aAc {s:Sc} (h:cC s=0):cY tx s (lH s)=true:=cA.2 ⟨⟨h,by simp [lH]⟩,fun k hk=>by
  rw [getElem!_pos (lH s) k hk,show (lH s)[k]=⟨[]⟩ from by simp [lH]]
  exact ajZ _⟩
theorem akW (s:Sc) (k:Int):aR (lH s) k=[]:=by
  cases h:okT (lH s) k with
  |false=>exact uX h
  |true=>
    unfold aR
    rw [if_pos h]
    simp only [okT,Bool.and_eq_true,decide_eq_true_eq] at h
    rw [getElem!_pos _ k.toNat (by omega)]
    simp [lH]
end Go.Proofs.YtcglimangneafaaGreatDoor
