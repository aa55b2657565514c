import Derived.Test.YtcglimangneafaaGreatDoorBsRefS
import Derived.Test.YtcglimangneafaaGreatDoorTyC
set_option linter.unusedSimpArgs false
set_option linter.unusedVariables false
namespace Go.Proofs.YtcglimangneafaaGreatDoor
open Go Go.Abs
theorem akV {α:Type} {r:α→α→Prop} (tr:∀{a b c},r a b→r b c→r a c) (irr:∀{a},¬r a a):∀{l m:List α},l.Pairwise r→m.Pairwise r→(∀x,x∈l↔x∈m)→l=m
  |[],[],_,_,_=>rfl
  |[],b::m,_,_,h=>absurd ((h b).2 (by simp)) (by simp)
  |a::l,[],_,_,h=>absurd ((h a).1 (by simp)) (by simp)
  |a::l,b::m,h1,h2,h=>by
    have h1':=List.pairwise_cons.1 h1
    have h2':=List.pairwise_cons.1 h2
    have e:a=b:=by
      rcases List.mem_cons.1 ((h a).1 (by simp)) with q|q
      · exact q
      rcases List.mem_cons.1 ((h b).2 (by simp)) with w|w
      · exact w.symm
      exact absurd (tr (h2'.1 a q) (h1'.1 b w)) irr
    subst e
    refine congrArg (a:: ·) (akV (r:=r) tr irr h1'.2 h2'.2 fun x=> ?_)
    constructor
    · intro q
      rcases List.mem_cons.1 ((h x).1 (List.mem_cons_of_mem _ q)) with w|w
      · subst w;exact absurd (h1'.1 x q) irr
      · exact w
    · intro q
      rcases List.mem_cons.1 ((h x).2 (List.mem_cons_of_mem _ q)) with w|w
      · subst w;exact absurd (h2'.1 x q) irr
      · exact w
def KSort (L:List Ln):Prop:=(L.map (·.key)).Pairwise (· < ·)
theorem KSort.at {L:List Ln} (h:KSort L) {i j:Nat} (hij:i<j) (hj:j<L.length):(L[i]'(by omega)).key<L[j].key:=by
  have:=List.pairwise_iff_getElem.1 h i j (by simp;omega) (by simpa using hj) hij
  simpa using this
theorem KSort.inj {L:List Ln} (h:KSort L) {i j:Nat} (hi:i<L.length) (hj:j<L.length) (e:L[i].key=L[j].key):i=j:=by
  rcases Nat.lt_trichotomy i j with q|q|q
  · have:=h.at q hj;omega
  · exact q
  · have:=h.at q hi;omega
theorem KSort.eq {L:List Ln} (h:KSort L) {x y:Ln} (hx:x∈L) (hy:y∈L) (e:x.key=y.key):x=y:=by
  obtain ⟨i,hi,rfl⟩:=List.getElem_of_mem hx
  obtain ⟨j,hj,rfl⟩:=List.getElem_of_mem hy
  have:=h.inj hi hj e
  subst this;rfl
theorem auR {L:List Ln} (h:KSort L) {k:Int} {x:Ln}:dH L k=some x↔x∈L∧x.key=k:=by
  unfold dH
  constructor
  · intro q
    exact ⟨List.mem_of_find?_eq_some q,by simpa using List.find?_some q⟩
  · rintro ⟨hx,rfl⟩
    cases q:L.find? fun y=>decide (y.key=x.key) with
    |none=>exact absurd (List.find?_eq_none.1 q x hx) (by simp)
    |some y=>rw [h.eq (List.mem_of_find?_eq_some q) hx (by simpa using List.find?_some q)]
theorem aAp {L M:List Ln} (hL:KSort L) (hM:KSort M) (h:∀x,x∈L↔x∈M):L=M:=by
  refine akV (r:=fun a b:Ln=>a.key<b.key) (fun h1 h2=>Int.lt_trans h1 h2) (fun h=>Int.lt_irrefl _ h) ?_ ?_ h
  · exact List.pairwise_map.1 hL
  · exact List.pairwise_map.1 hM
def qI (L:List Ln) (key:Int):List Ln:=if (atP L key).2 then L.eraseIdx (atP L key).1.toNat else L
theorem KSort.put {L:List Ln} (h:KSort L) (a:Ln):KSort (acS L a):=by
  unfold acS
  rcases acI L a.key with ⟨j,hj,e,_,hk,_⟩|⟨j,hj,e,_,hk,hlo,hhi⟩
  · rw [e,if_pos rfl,Int.toNat_natCast]
    unfold KSort
    rw [List.map_set,←hk]
    have:(L.map (·.key)).set j L[j].key=L.map (·.key):=by
      have hj2:j<(L.map (·.key)).length:=by simpa using hj
      have:=List.set_getElem_self hj2
      simpa using this
    rw [this];exact h
  · rw [e,if_neg (by simp),Int.toNat_natCast]
    unfold KSort nJ
    have hp:=h
    unfold KSort at hp
    rw [←List.take_append_drop j L,List.map_append,List.pairwise_append] at hp
    rw [List.map_append,List.map_append,List.pairwise_append,List.pairwise_append]
    refine ⟨⟨hp.1,List.pairwise_singleton ..,fun x hx y hy=> ?_⟩,hp.2.1,fun x hx y hy=> ?_⟩
    · simp only [List.map_cons,List.map_nil,List.mem_singleton] at hy
      subst hy
      obtain ⟨z,hz,rfl⟩:=List.mem_map.1 hx
      obtain ⟨q,hq,rfl⟩:=List.getElem_of_mem hz
      rw [List.length_take] at hq
      rw [List.getElem_take]
      have h1:=hlo q (by omega) (by omega)
      have h2:=hk _ (List.getElem_mem (show q<L.length by omega))
      omega
    · have hyk:a.key<y:=by
        obtain ⟨z,hz,rfl⟩:=List.mem_map.1 hy
        obtain ⟨q,hq,rfl⟩:=List.getElem_of_mem hz
        rw [List.length_drop] at hq
        rw [List.getElem_drop]
        have h1:=hhi (by omega)
        rcases Nat.eq_zero_or_pos q with rfl|hq0
        · exact h1
        · have:=h.at (show j<j+q by omega) (by omega);omega
      rw [List.mem_append] at hx
      rcases hx with hx|hx
      · exact hp.2.2 x hx y hy
      · simp only [List.map_cons,List.map_nil,List.mem_singleton] at hx
        subst hx;exact hyk
theorem jU {L:List Ln} (h:KSort L) (k:Int) (x:Ln):x∈qI L k↔x∈L∧x.key≠k:=by
  unfold qI
  rcases acI L k with ⟨j,hj,e,_,hk,_⟩|⟨j,hj,e,_,hk,_,_⟩
  · rw [e,if_pos rfl,Int.toNat_natCast,List.mem_eraseIdx_iff_getElem]
    constructor
    · rintro ⟨q,hq,hne,rfl⟩
      exact ⟨List.getElem_mem hq,fun e2=>hne (h.inj hq hj (e2.trans hk.symm))⟩
    · rintro ⟨hx,hne⟩
      obtain ⟨q,hq,rfl⟩:=List.getElem_of_mem hx
      exact ⟨q,hq,fun e2=>hne (by subst e2;exact hk),rfl⟩
  · rw [e,if_neg (by simp)]
    exact ⟨fun q=>⟨q,hk x q⟩,fun q=>q.1⟩
theorem KSort.drop {L:List Ln} (h:KSort L) (k:Int):KSort (qI L k):=by
  unfold qI
  split
  · exact h.sublist ((List.eraseIdx_sublist ..).map _)
  · exact h
end Go.Proofs.YtcglimangneafaaGreatDoor
namespace Go.Proofs.YtcglimangneafaaGreatDoor
open Go Go.Abs
section
variable {L:List Ln}
theorem pQ (h:KSort L) (k:Int):dH (qI L k) k=none:=by
  cases q:dH (qI L k) k with
  |none=>rfl
  |some x=>obtain ⟨q1,q2⟩:=(auR (h.drop k)).1 q;exact absurd q2 ((jU h k x).1 q1).2
theorem drop_drop (h:KSort L) (k:Int):qI (qI L k) k=qI L k:=
  aAp ((h.drop k).drop k) (h.drop k) fun x=>by rw [jU (h.drop k),jU h];grind
end
variable {tx:Cl→Int}
theorem yE {t:Tb} {L:List Ln}:yI tx t L=true↔L.length≤2000∧(∀x∈L,gT tx t x=true)∧KSort L:=by
  unfold yI
  rw [Bool.and_eq_true,decide_eq_true_eq,mQ]
  refine and_congr Iff.rfl ?_
  constructor
  · intro h
    have h1:∀i (hi:i<L.length),gT tx t L[i]=true∧(i=0∨L[i-1]!.key<L[i].key):=fun i hi=>by
      have:=h i hi
      unfold lnR at this
      rw [getElem!_pos L i hi] at this
      simpa using this
    refine ⟨fun x hx=>by obtain ⟨i,hi,rfl⟩:=List.getElem_of_mem hx;exact (h1 i hi).1, ?_⟩
    have key:∀j (hj:j<L.length) i (hi:i<j),(L[i]'(by omega)).key<L[j].key:=by
      intro j
      induction j with
      |zero=>intro _ i hi;exact absurd hi (Nat.not_lt_zero _)
      |succ j ih=>
        intro hj i hi
        have:=(h1 (j+1) hj).2.resolve_left (Nat.succ_ne_zero j)
        rw [show j+1-1=j from rfl,getElem!_pos L j (by omega)] at this
        rcases Nat.lt_succ_iff_lt_or_eq.1 hi with q|q
        · exact Int.lt_trans (ih (by omega) i q) this
        · subst q;exact this
    unfold KSort
    exact List.pairwise_iff_getElem.2 fun i j hi hj hij=>by simpa using key j (by simpa using hj) i hij
  · rintro ⟨h1,h2⟩ i hi
    unfold lnR
    rw [getElem!_pos L i hi,h1 _ (List.getElem_mem hi),Bool.true_and]
    rcases Nat.eq_zero_or_pos i with rfl|h0
    · simp
    · rw [getElem!_pos L (i-1) (by omega)]
      have:=h2.at (show i-1<i by omega) hi
      simp [this]
theorem gA {s:Sc} {b:Bs}:eG tx s b=true↔(cD s=0∧b.length=s.length)∧∀k<b.length,yI tx s[k]! b[k]!.lines=true:=by
  unfold eG
  rw [Bool.and_eq_true,decide_eq_true_eq,mQ]
  exact Iff.rfl
end Go.Proofs.YtcglimangneafaaGreatDoor
