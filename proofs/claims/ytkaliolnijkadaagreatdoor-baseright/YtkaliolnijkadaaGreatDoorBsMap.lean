import Derived.Test.YtkaliolnijkadaaGreatDoorBsWroteL
import Derived.Test.YtkaliolnijkadaaGreatDoorTyC
set_option linter.unusedSimpArgs false
set_option linter.unusedVariables false
namespace Go.Proofs.YtkaliolnijkadaaGreatDoor
open Go Go.Abs
theorem aaZ {α:Type} {r:α→α→Prop} (tr:∀{a b c},r a b→r b c→r a c) (irr:∀{a},¬r a a):∀{l m:List α},l.Pairwise r→m.Pairwise r→(∀x,x∈l↔x∈m)→l=m
  |[],[],_,_,_=>rfl
  |[],b::m,_,_,h=>absurd ((h b).2 (by simp)) (by simp)
  |a::l,[],_,_,h=>absurd ((h a).1 (by simp)) (by simp)
  |a::l,b::m,h1,h2,h=>by
    have h1':=List.pairwise_cons.1 h1
    have h2':=List.pairwise_cons.1 h2
    have e:a=b:=by
      rcases List.mem_cons.1 ((h a).1 (by simp)) with q|q
      · exact q
      rcases List.mem_cons.1 ((h b).2 (by simp)) with w|w
      · exact w.symm
      exact absurd (tr (h2'.1 a q) (h1'.1 b w)) irr
    subst e
    refine congrArg (a:: ·) (aaZ (r:=r) tr irr h1'.2 h2'.2 fun x=> ?_)
    constructor
    · intro q
      rcases List.mem_cons.1 ((h x).1 (List.mem_cons_of_mem _ q)) with w|w
      · subst w;exact absurd (h1'.1 x q) irr
      · exact w
    · intro q
      rcases List.mem_cons.1 ((h x).2 (List.mem_cons_of_mem _ q)) with w|w
      · subst w;exact absurd (h2'.1 x q) irr
      · exact w
def KSort (L:List Ln):Prop:=(L.map (·.key)).Pairwise (· < ·)
theorem KSort.at {L:List Ln} (h:KSort L) {i j:Nat} (hij:i<j) (hj:j<L.length):(L[i]'(by omega)).key<L[j].key:=by
  have:=List.pairwise_iff_getElem.1 h i j (by simp;omega) (by simpa using hj) hij
  simpa using this
theorem KSort.inj {L:List Ln} (h:KSort L) {i j:Nat} (hi:i<L.length) (hj:j<L.length) (e:L[i].key=L[j].key):i=j:=by
  rcases Nat.lt_trichotomy i j with q|q|q
  · have:=h.at q hj;omega
  · exact q
  · have:=h.at q hi;omega
theorem KSort.eq {L:List Ln} (h:KSort L) {x y:Ln} (hx:x∈L) (hy:y∈L) (e:x.key=y.key):x=y:=by
  obtain ⟨i,hi,rfl⟩:=List.getElem_of_mem hx
  obtain ⟨j,hj,rfl⟩:=List.getElem_of_mem hy
  have:=h.inj hi hj e
  subst this;rfl
theorem alP {L M:List Ln} (hL:KSort L) (hM:KSort M) (h:∀x,x∈L↔x∈M):L=M:=by
  refine aaZ (r:=fun a b:Ln=>a.key<b.key) (fun h1 h2=>Int.lt_trans h1 h2) (fun h=>Int.lt_irrefl _ h) ?_ ?_ h
  · exact List.pairwise_map.1 hL
  · exact List.pairwise_map.1 hM
def pE (L:List Ln) (key:Int):List Ln:=if (atP L key).2 then L.eraseIdx (atP L key).1.toNat else L
theorem KSort.put {L:List Ln} (h:KSort L) (a:Ln):KSort (tU L a):=by
  unfold tU
  rcases vE L a.key with ⟨j,hj,e,_,hk,_⟩|⟨j,hj,e,_,hk,hlo,hhi⟩
  · rw [e,if_pos rfl,Int.toNat_natCast]
    unfold KSort
    rw [List.map_set,←hk]
    have:(L.map (·.key)).set j L[j].key=L.map (·.key):=by
      have hj2:j<(L.map (·.key)).length:=by simpa using hj
      have:=List.set_getElem_self hj2
      simpa using this
    rw [this];exact h
  · rw [e,if_neg (by simp),Int.toNat_natCast]
    unfold KSort cS
    have hp:=h
    unfold KSort at hp
    rw [←List.take_append_drop j L,List.map_append,List.pairwise_append] at hp
    rw [List.map_append,List.map_append,List.pairwise_append,List.pairwise_append]
    refine ⟨⟨hp.1,List.pairwise_singleton ..,fun x hx y hy=> ?_⟩,hp.2.1,fun x hx y hy=> ?_⟩
    · simp only [List.map_cons,List.map_nil,List.mem_singleton] at hy
      subst hy
      obtain ⟨z,hz,rfl⟩:=List.mem_map.1 hx
      obtain ⟨q,hq,rfl⟩:=List.getElem_of_mem hz
      rw [List.length_take] at hq
      rw [List.getElem_take]
      have h1:=hlo q (by omega) (by omega)
      have h2:=hk _ (List.getElem_mem (show q<L.length by omega))
      omega
    · have hyk:a.key<y:=by
        obtain ⟨z,hz,rfl⟩:=List.mem_map.1 hy
        obtain ⟨q,hq,rfl⟩:=List.getElem_of_mem hz
        rw [List.length_drop] at hq
        rw [List.getElem_drop]
        have h1:=hhi (by omega)
        rcases Nat.eq_zero_or_pos q with rfl|hq0
        · exact h1
        · have:=h.at (show j<j+q by omega) (by omega);omega
      rw [List.mem_append] at hx
      rcases hx with hx|hx
      · exact hp.2.2 x hx y hy
      · simp only [List.map_cons,List.map_nil,List.mem_singleton] at hx
        subst hx;exact hyk
theorem kP {L:List Ln} (h:KSort L) (k:Int) (x:Ln):x∈pE L k↔x∈L∧x.key≠k:=by
  unfold pE
  rcases vE L k with ⟨j,hj,e,_,hk,_⟩|⟨j,hj,e,_,hk,_,_⟩
  · rw [e,if_pos rfl,Int.toNat_natCast,List.mem_eraseIdx_iff_getElem]
    constructor
    · rintro ⟨q,hq,hne,rfl⟩
      exact ⟨List.getElem_mem hq,fun e2=>hne (h.inj hq hj (e2.trans hk.symm))⟩
    · rintro ⟨hx,hne⟩
      obtain ⟨q,hq,rfl⟩:=List.getElem_of_mem hx
      exact ⟨q,hq,fun e2=>hne (by subst e2;exact hk),rfl⟩
  · rw [e,if_neg (by simp)]
    exact ⟨fun q=>⟨q,hk x q⟩,fun q=>q.1⟩
theorem KSort.drop {L:List Ln} (h:KSort L) (k:Int):KSort (pE L k):=by
  unfold pE
  split
  · exact h.sublist ((List.eraseIdx_sublist ..).map _)
  · exact h
end Go.Proofs.YtkaliolnijkadaaGreatDoor
namespace Go.Proofs.YtkaliolnijkadaaGreatDoor
open Go Go.Abs
section
variable {L:List Ln}
theorem drop_drop (h:KSort L) (k:Int):pE (pE L k) k=pE L k:=
  alP ((h.drop k).drop k) (h.drop k) fun x=>by rw [kP (h.drop k),kP h];grind
end
variable {tx:Cl→Int}
end Go.Proofs.YtkaliolnijkadaaGreatDoor
