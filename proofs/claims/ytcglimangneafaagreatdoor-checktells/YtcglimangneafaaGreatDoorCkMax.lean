import Derived.Test.YtcglimangneafaaGreatDoorBsMulti
import Derived.Test.YtcglimangneafaaGreatDoorCkRow
set_option linter.unusedSimpArgs false
set_option linter.unusedVariables false
namespace Go.Proofs.YtcglimangneafaaGreatDoor
open Go Go.Abs
theorem acN :∀{a b c:List UInt8},Op.bytesLess a b=true→Op.bytesLess b c=true→Op.bytesLess a c=true
  |_,_,[],_,h2=>by simp [Op.bytesLess] at h2
  |_,[],_::_,h1,_=>by simp [Op.bytesLess] at h1
  |[],_::_,_::_,_,_=>rfl
  |a::x,b::y,c::z,h1,h2=>by
    simp only [Op.bytesLess,Bool.or_eq_true,Bool.and_eq_true,decide_eq_true_eq,beq_iff_eq] at*
    rcases h1 with h1|⟨rfl,h1⟩<;>rcases h2 with h2|⟨rfl,h2⟩
    · exact .inl (UInt8.lt_trans h1 h2)
    · exact .inl h1
    · exact .inl h2
    · exact .inr ⟨rfl,acN h1 h2⟩
theorem yR {a b:Vl}:cA a b=true↔a.kind<b.kind∨(a.kind=b.kind∧(a.n<b.n∨(a.n=b.n∧Op.bytesLess a.s.toList b.s.toList=true))):=by
  unfold cA
  by_cases h1:a.kind=b.kind
  · by_cases h2:a.n=b.n
    · simp [h1,h2]
    · simp [h1,h2]
  · simp [h1]
theorem sN {a b c:Vl} (h1:cA a b=true) (h2:cA b c=true):cA a c=true:=by
  rw [yR] at*
  rcases h1 with h1|⟨e1,h1|⟨f1,h1⟩⟩<;>rcases h2 with h2|⟨e2,h2|⟨f2,h2⟩⟩
  · exact .inl (by omega)
  · exact .inl (by omega)
  · exact .inl (by omega)
  · exact .inl (by omega)
  · exact .inr ⟨by omega, .inl (by omega)⟩
  · exact .inr ⟨by omega, .inl (by omega)⟩
  · exact .inl (by omega)
  · exact .inr ⟨by omega, .inl (by omega)⟩
  · exact .inr ⟨by omega, .inr ⟨by omega,acN h1 h2⟩⟩
theorem ahN {o:List Vl} {v:Vl} {j:Nat} (hj:j<atV o v) (h:j<o.length):cA o[j] v=true:=by
  unfold atV at hj
  cases e:o.findIdx? fun x=> !cA x v with
  |none=>
    have:=List.findIdx?_eq_none_iff.1 e _ (List.getElem_mem h)
    simpa using this
  |some k=>
    rw [e] at hj
    have:=(List.findIdx?_eq_some_iff_getElem.1 e).2.2 j hj
    simpa using this
theorem azF {o:List Vl} {v:Vl} (h:atV o v<o.length):cA o[atV o v] v=false:=by
  have key:∀k (hk:k<o.length),atV o v=k→cA o[k] v=false:=fun k hk e0=>by
    unfold atV at e0
    cases e:o.findIdx? fun x=> !cA x v with
    |none=>rw [e] at e0;simp at e0;omega
    |some j=>
      rw [e] at e0;simp at e0;subst e0
      have:=(List.findIdx?_eq_some_iff_getElem.1 e).2.1
      simpa using this
  exact key _ h rfl
def vR (o:List Vl):Prop:=o.Pairwise fun a b=>cA a b=true
theorem aaN {o:List Vl} (h:vR o) {i j:Nat} (hij:i<j) (hj:j<o.length):cA (o[i]'(by omega)) o[j]=true:=List.pairwise_iff_getElem.1 h i j (by omega) hj hij
def mI (o:List Vl):Vl:=o.getLast?.getD Vl.zero
theorem acV {o:List Vl} (h:0<o.length):mI o=o[o.length-1]:=by
  unfold mI
  rw [List.getLast?_eq_getElem?,List.getElem?_eq_getElem (by omega)];rfl
theorem amM (o:List Vl) (v:Vl) (hs:vR o):vR (tU o v)∧0<(tU o v).length∧mI (tU o v)=if o.length=0∨cA (mI o) v=true then v else mI o:=by
  have hle:=asN o v
  rcases Nat.lt_or_ge (atV o v) o.length with ha|ha
  · have hge:=azF ha
    have hl0:0<o.length:=by omega
    have hlast:cA (mI o) v=false:=by
      rw [acV hl0,←Bool.not_eq_true]
      intro q
      rcases Nat.lt_or_ge (atV o v) (o.length-1) with h|h
      · have:=sN (aaN hs h (by omega)) q
        rw [hge] at this;cases this
      · have e:o.length-1=atV o v:=by omega
        simp only [e] at q
        rw [hge] at q;cases q
    rw [if_neg (by rw [hlast];rintro (q|q);omega;cases q)]
    unfold tU
    rw [getElem!_pos o (atV o v) ha]
    by_cases hsame:pX o[atV o v] v=true
    · rw [if_pos ⟨ha,hsame⟩]
      exact ⟨hs,hl0,rfl⟩
    · rw [if_neg (fun q=>hsame q.2)]
      have hlt:cA v o[atV o v]=true:=by
        unfold pX at hsame
        rw [hge] at hsame
        simpa using hsame
      unfold cM
      refine ⟨?_,by simp;omega, ?_⟩
      · unfold vR
        rw [List.append_assoc,List.pairwise_append,List.pairwise_append]
        refine ⟨List.Pairwise.sublist (List.take_sublist _ _) hs,⟨List.pairwise_singleton _ _,List.Pairwise.sublist (List.drop_sublist _ _) hs, ?_⟩, ?_⟩
        · intro a h1 b h2
          rw [List.mem_singleton] at h1
          subst h1
          obtain ⟨j,hj,rfl⟩:=List.getElem_of_mem h2
          rw [List.getElem_drop]
          rw [List.length_drop] at hj
          rcases Nat.eq_zero_or_pos j with rfl|hp
          · simpa using hlt
          · exact sN hlt (aaN hs (by omega) (by omega))
        · intro a h1 b h2
          obtain ⟨i,hi,rfl⟩:=List.getElem_of_mem h1
          rw [List.length_take] at hi
          rw [List.getElem_take]
          have hiv:=ahN (o:=o) (v:=v) (j:=i) (by omega) (by omega)
          rcases List.mem_append.1 h2 with h2|h2
          · rw [List.mem_singleton] at h2;subst h2;exact hiv
          · obtain ⟨j,hj,rfl⟩:=List.getElem_of_mem h2
            rw [List.getElem_drop]
            rw [List.length_drop] at hj
            exact aaN hs (by omega) (by omega)
      · unfold mI
        rw [List.getLast?_append,List.getLast?_drop,if_neg (by omega)]
        cases hz:o.getLast? with
        |none=>rw [List.getLast?_eq_none_iff.1 hz] at hl0;simp at hl0
        |some z=>rfl
  · have ha:atV o v=o.length:=by omega
    have hlast:o.length=0∨cA (mI o) v=true:=by
      rcases Nat.eq_zero_or_pos o.length with h|h
      · exact .inl h
      · right
        rw [acV h]
        exact ahN (by omega) (by omega)
    rw [if_pos hlast]
    unfold tU
    rw [if_neg (fun q=>by omega)]
    unfold cM
    rw [ha,List.take_length,List.drop_length,List.append_nil]
    refine ⟨?_,by simp, ?_⟩
    · unfold vR
      rw [List.pairwise_append]
      refine ⟨hs,List.pairwise_singleton _ _, ?_⟩
      intro a h1 b h2
      rw [List.mem_singleton] at h2
      subst h2
      obtain ⟨i,hi,rfl⟩:=List.getElem_of_mem h1
      exact ahN (by omega) hi
    · unfold mI;simp
def tQ (l:List Pt):Nat→Vl
  |0=>Vl.zero
  |i+1=>if i=0∨cA (tQ l i) l[i]!.val=true then l[i]!.val else tQ l i
theorem yX (l:List Pt):∀i,i≤l.length→vR (eP (l.take i))∧(0<i→0<(eP (l.take i)).length)∧mI (eP (l.take i))=tQ l i
  |0,_=>by simp [eP,vR,mI,tQ]
  |i+1,h=>by
    obtain ⟨h1,h2,h3⟩:=yX l i (by omega)
    have h4:=amM (eP (l.take i)) l[i].val h1
    rw [abC (by omega)]
    refine ⟨h4.1,fun _=>h4.2.1, ?_⟩
    rw [h4.2.2,h3]
    unfold tQ
    rw [getElem!_pos l i (by omega)]
    have hz:(eP (l.take i)).length=0↔i=0:=by
      constructor
      · intro q
        rcases Nat.eq_zero_or_pos i with e|e
        · exact e
        · have:=h2 e;omega
      · rintro rfl;simp [eP]
    simp only [hz]
    cases i<;>rfl
theorem amG (c:Cl):vA c=tQ c.parts c.parts.length:=by
  have:=(yX c.parts c.parts.length (Nat.le_refl _)).2.2
  rw [List.take_length] at this
  exact this
def qG (xs:Array Int) (p:Nat):Nat:=if p=0 then 0 else 1+dN xs p
theorem auO (xs:Array Int) (p:Nat):qG xs p≤p:=by
  unfold qG
  split
  · omega
  · have:=asQ xs 1 (p-1) (Nat.le_refl _)
    rw [show 1+(p-1)=p by omega] at this
    have h0:dN xs 1=0:=rfl
    omega
theorem atQ (xs:Array Int):qG xs xs.size=tV xs:=by
  unfold qG tV
  by_cases h0:xs.size=0
  · rw [if_pos h0,if_pos (by omega)];exact h0.symm
  · rw [if_neg h0]
    by_cases h1:xs.size<2
    · rw [if_pos h1,show xs.size=1 by omega];rfl
    · rw [if_neg h1]
theorem alL {xs:Array Int} {p:Nat} (h:p=0∨xs[p]!≠xs[p-1]!):qG xs (p+1)=qG xs p+1:=by
  unfold qG
  rcases Nat.eq_zero_or_pos p with rfl|hp
  · rfl
  · rw [if_neg (by omega),if_neg (by omega),aeO xs hp,if_neg (h.resolve_left (by omega))];omega
theorem anB {xs:Array Int} {p:Nat} (hp:1≤p) (h:xs[p]! =xs[p-1]!):qG xs (p+1)=qG xs p:=by
  unfold qG
  rw [if_neg (by omega),if_neg (by omega),aeO xs hp,if_pos h];rfl
theorem adO {xs:Array Int} {n:Nat} (hs:∀i j,i≤j→j<n→xs[i]!≤xs[j]!):∀(d p:Nat),d=n-p→1≤p→p≤n→∃q,p≤q∧q≤n∧xs[q-1]! =xs[p-1]!∧qG xs q=qG xs p∧(q<n→xs[q-1]!<xs[q]!)
  |0,p,hd,h1,h2=>⟨p,by omega,h2,rfl,rfl,fun h=>by omega⟩
  |d+1,p,hd,h1,h2=>by
    by_cases he:xs[p]! =xs[p-1]!
    · obtain ⟨q,q1,q2,q3,q4,q5⟩:=adO hs d (p+1) (by omega) (by omega) (by omega)
      refine ⟨q,by omega,q2, ?_, ?_,q5⟩
      · rw [q3,show p+1-1=p by omega,he]
      · rw [q4,anB h1 he]
    · refine ⟨p,by omega,h2,rfl,rfl,fun h=> ?_⟩
      have:=hs (p-1) p (by omega) (by omega)
      omega
structure Found (xs:Array Int) (n p:Nat) (out:List Int):Prop where
  le:p≤n
  len:out.length=qG xs p
  last:∀h:0<out.length,0<p∧out[out.length-1]=xs[p-1]!∧(p<n→xs[p-1]!<xs[p]!)
theorem Found.zero {xs:Array Int} {n:Nat}:Found xs n 0 []:=⟨by omega,rfl,fun h=>absurd h (by simp)⟩
theorem Found.pos {xs:Array Int} {n p:Nat} {out:List Int} (_h:Found xs n p out) (hp:0<p):0<out.length:=by
  rw [_h.len];unfold qG;rw [if_neg (by omega)];omega
def wV (out:List Int) (x:Int):Prop:=out.length=0∨x>out[out.length-1]!
theorem Found.over {xs:Array Int} {n p:Nat} {out:List Int} (h:Found xs n p out) (hs:∀i j,i≤j→j<n→xs[i]!≤xs[j]!) {i:Nat} (hi:i<n):wV out xs[i]!↔p≤i:=by
  unfold wV
  rcases Nat.eq_zero_or_pos out.length with h0|h0
  · have:p=0:=by
      rcases Nat.eq_zero_or_pos p with e|e
      · exact e
      · have:=h.pos e;omega
    exact ⟨fun _=>by omega,fun _=> .inl h0⟩
  · obtain ⟨h1,h2,h3⟩:=h.last h0
    rw [getElem!_pos out (out.length-1) (by omega),h2]
    constructor
    · rintro (q|q)
      · omega
      · rcases Nat.lt_or_ge i p with r|r
        · have:=hs i (p-1) (by omega) (by have:=h.le;omega);omega
        · exact r
    · intro q
      right
      have h4:=h3 (by omega)
      have:=hs p i q hi
      omega
theorem Found.step {xs:Array Int} {n p:Nat} {out:List Int} (h:Found xs n p out) (hs:∀i j,i≤j→j<n→xs[i]!≤xs[j]!) {l:Int} (hl1:wV out l) (hl2:∃i,i<n∧l=xs[i]!) (hl3:∀i,i<n→wV out xs[i]!→l≤xs[i]!):∃q,p<q∧Found xs n q (out++[l]):=by
  obtain ⟨i,hi,rfl⟩:=hl2
  have hpi:=(h.over hs hi).1 hl1
  have hp:p<n:=by omega
  have he:xs[i]! =xs[p]!:=by
    have h1:=hl3 p hp ((h.over hs hp).2 (Nat.le_refl _))
    have h2:=hs p i hpi hi
    omega
  have hne:p=0∨xs[p]!≠xs[p-1]!:=by
    rcases Nat.eq_zero_or_pos p with e|e
    · exact .inl e
    · have:=(h.last (h.pos e)).2.2 hp
      exact .inr (by omega)
  have hc:=alL hne
  obtain ⟨q,q1,q2,q3,q4,q5⟩:=adO hs (n-(p+1)) (p+1) rfl (by omega) (by omega)
  refine ⟨q,by omega,q2, ?_,fun _=>⟨by omega, ?_,q5⟩⟩
  · rw [List.length_append,h.len,q4,hc];rfl
  · rw [q3,show p+1-1=p by omega,←he]
    simp
theorem Found.done {xs:Array Int} {n p:Nat} {out:List Int} (h:Found xs n p out) (hs:∀i j,i≤j→j<n→xs[i]!≤xs[j]!) (hn:xs.size=n) (hno:∀i,i<n→¬wV out xs[i]!):out.length=tV xs:=by
  have hp:p=n:=by
    rcases Nat.lt_or_ge p n with q|q
    · exact absurd ((h.over hs q).2 (Nat.le_refl _)) (hno p q)
    · have:=h.le;omega
  rw [h.len,hp,←hn,atQ]
theorem Found.short {xs:Array Int} {n p:Nat} {out:List Int} (h:Found xs n p out):out.length≤n:=by
  have:=h.len
  have:=auO xs p
  have:=h.le
  omega
theorem acQ (c:Cl):∀i j,i≤j→j<c.parts.length→(eO c).toArray[i]!≤(eO c).toArray[j]!:=by
  intro i j hij hj
  have hlen:(eO c).length=c.parts.length:=by unfold eO;rw [List.length_mergeSort,zql]
  rw [getElem!_pos _ i (by simp;omega),getElem!_pos _ j (by simp;omega)]
  rcases Nat.lt_or_eq_of_le hij with h|h
  · have hp:(eO c).Pairwise fun x y=>decide (x≤y)=true:=List.pairwise_mergeSort (by intro a b c;simp;omega) (by intro a b;simp;omega) _
    have:=List.pairwise_iff_getElem.1 hp i j (by omega) (by omega) h
    simpa using this
  · subst h;exact Int.le_refl _
theorem wA (c:Cl) (x:Int):(∃i,i<c.parts.length∧x=(eO c).toArray[i]!)↔∃k,∃h:k<c.parts.length,x=c.parts[k].val.n:=by
  have hlen:(eO c).length=c.parts.length:=by unfold eO;rw [List.length_mergeSort,zql]
  have hm:x∈eO c↔x∈c.parts.map (·.val.n):=by unfold eO;exact List.mem_mergeSort
  constructor
  · rintro ⟨i,hi,rfl⟩
    rw [getElem!_pos _ i (by simp;omega)] at hm⊢
    have:=hm.1 (by simp)
    obtain ⟨k,hk,e⟩:=List.getElem_of_mem this
    rw [zql] at hk
    exact ⟨k,hk,by rw [←e];simp⟩
  · rintro ⟨k,hk,rfl⟩
    have:=hm.2 (List.mem_map.2 ⟨_,List.getElem_mem hk,rfl⟩)
    obtain ⟨i,hi,e⟩:=List.getElem_of_mem this
    exact ⟨i,by omega,by rw [getElem!_pos _ i (by simp;omega)];simpa using e.symm⟩
def oL (out:List Int) (x:Int):Bool:=decide (out.length=0)||decide (x>out[out.length-1]!)
theorem rK {out:List Int} {x:Int}:oL out x=true↔wV out x:=by unfold oL wV;simp
def mnI (out:List Int) (l:List Pt):Nat→Bool×Int
  |0=>(false,0)
  |k+1=>if (oL out l[k]!.val.n&&(!(mnI out l k).1||decide (l[k]!.val.n<(mnI out l k).2)))=true then (true,l[k]!.val.n) else mnI out l k
theorem aaR (out:List Int) (l:List Pt):∀k,(mnI out l k).1=false→∀j<k,oL out l[j]!.val.n=false
  |0,_,j,hj=>by omega
  |k+1,h,j,hj=>by
    unfold mnI at h
    split at h
    · cases h
    · rename_i q
      rcases Nat.lt_succ_iff_lt_or_eq.1 hj with r|r
      · exact aaR out l k h j r
      · subst r
        rw [h] at q
        simpa using q
theorem aaT (out:List Int) (l:List Pt):∀k,(mnI out l k).1=true→oL out (mnI out l k).2=true∧(∃j,j<k∧(mnI out l k).2=l[j]!.val.n)∧∀j<k,oL out l[j]!.val.n=true→(mnI out l k).2≤l[j]!.val.n
  |0,h=>by cases h
  |k+1,h=>by
    have e:mnI out l (k+1)=if (oL out l[k]!.val.n&&(!(mnI out l k).1||decide (l[k]!.val.n<(mnI out l k).2)))=true then (true,l[k]!.val.n) else mnI out l k:=rfl
    by_cases q:(oL out l[k]!.val.n&&(!(mnI out l k).1||decide (l[k]!.val.n<(mnI out l k).2)))=true
    · rw [if_pos q] at e
      rw [e]
      rw [Bool.and_eq_true,Bool.or_eq_true,Bool.not_eq_true',decide_eq_true_eq] at q
      refine ⟨q.1,⟨k,by omega,rfl⟩,fun j hj ho=> ?_⟩
      rcases Nat.lt_succ_iff_lt_or_eq.1 hj with r|r
      · rcases q.2 with q2|q2
        · rw [aaR out l k q2 j r] at ho;cases ho
        · cases hm:(mnI out l k).1 with
          |false=>rw [aaR out l k hm j r] at ho;cases ho
          |true=>
            have:=(aaT out l k hm).2.2 j r ho
            show l[k]!.val.n≤_
            omega
      · subst r;exact Int.le_refl _
    · rw [if_neg q] at e
      rw [e] at h⊢
      obtain ⟨h1,⟨i,hi,h2⟩,h3⟩:=aaT out l k h
      refine ⟨h1,⟨i,by omega,h2⟩,fun j hj ho=> ?_⟩
      rcases Nat.lt_succ_iff_lt_or_eq.1 hj with r|r
      · exact h3 j r ho
      · subst r
        rw [ho,h] at q
        simp only [Bool.true_and,Bool.not_true,Bool.false_or,decide_eq_true_eq] at q
        omega
theorem alS (c:Cl):(eO c).toArray.size=c.parts.length:=by simp [eO]
theorem Found.go {c:Cl} {p:Nat} {out:List Int} (h:Found (eO c).toArray c.parts.length p out):
    ((mnI out c.parts c.parts.length).1=false→out.length=tV (eO c).toArray)∧((mnI out c.parts c.parts.length).1=true→∃q,p<q∧Found (eO c).toArray c.parts.length q (out++[(mnI out c.parts c.parts.length).2])):=by
  have hs:=acQ c
  constructor
  · intro hm
    refine h.done hs (alS c) fun i hi q=> ?_
    obtain ⟨k,hk,e⟩:=(wA c _).1 ⟨i,hi,rfl⟩
    have:=aaR out c.parts _ hm k hk
    rw [getElem!_pos c.parts k hk,←e,←Bool.not_eq_true,rK] at this
    exact this q
  · intro hm
    obtain ⟨h1,⟨j,hj,h2⟩,h3⟩:=aaT out c.parts _ hm
    refine h.step hs (rK.1 h1) ?_ fun i hi q=> ?_
    · rw [h2,getElem!_pos c.parts j hj]
      exact (wA c _).2 ⟨j,hj,rfl⟩
    · obtain ⟨k,hk,e⟩:=(wA c _).1 ⟨i,hi,rfl⟩
      rw [e] at q⊢
      have:=h3 k hk (by rw [getElem!_pos c.parts k hk,rK];exact q)
      rw [getElem!_pos c.parts k hk] at this
      exact this
end Go.Proofs.YtcglimangneafaaGreatDoor
namespace Go.Proofs.YtcglimangneafaaGreatDoor
open Go Go.Abs
attribute [local irreducible] Ev PWp
set_option maxRecDepth 10000
set_option maxHeartbeats 4000000
theorem auN (a b:Vl):cA a b=((decide (a.kind<b.kind)||(decide (a.kind=b.kind)&&decide (a.n<b.n)))||((decide (a.kind=b.kind)&&decide (a.n=b.n))&&Op.bytesLess a.s.toList b.s.toList)):=by
  rw [Bool.eq_iff_iff,yR]
  simp only [Bool.or_eq_true,Bool.and_eq_true,decide_eq_true_eq]
  constructor
  · rintro (h|⟨h,h1|⟨h1,h2⟩⟩)
    · exact .inl (.inl h)
    · exact .inl (.inr ⟨h,h1⟩)
    · exact .inr ⟨⟨h,h1⟩,h2⟩
  · rintro ((h|⟨h,h1⟩)|⟨⟨h,h1⟩,h2⟩)
    · exact .inl h
    · exact .inr ⟨h, .inl h1⟩
    · exact .inr ⟨h, .inr ⟨h1,h2⟩⟩
theorem kX (a b:Vl):PF Tryz.prog 210 [.agg a.cells, .agg b.cells] (PV.val (Value.bool (cA a b))):=by
  rw [auN]
  refine aH aD Tryz.func210 (by kernel_rfl) rfl rfl rfl rfl (fun st=> ?_)
  (try (apply wO pk;exact rfl));(repeat' (first|(show All _;constructor)|(show Imp _ _;constructor)|(show ImpX _ _ _ _;constructor)|(apply wC pk;(iterate 2 exact rfl))|(refine aA rfl (fun h=> ?_) (fun h=> ?_)<;>(try simp at h)<;>try (exfalso;omega))|(refine aB ?_;refine ⟨_,_,_,rfl,Wk.refl _,StSub.refl _, ?_,rfl⟩;try first|rfl|((first|(simp [*];done)|grind);done))))
theorem acM (c:Co):PF Tryz.prog 115 [.agg c.cells] (PV.val (Value.int .i64 (bK c))):=by
  unfold bK
  refine aH aD Tryz.func115 (by kernel_rfl) rfl rfl rfl rfl (fun st=> ?_)
  (try (apply wO pk;exact rfl));(repeat' (first|(show All _;constructor)|(apply wC pk;(iterate 2 exact rfl))|(refine aA rfl (fun h=> ?_) (fun h=> ?_)<;>(try simp at h)<;>try (exfalso;omega))|(refine aB ?_;refine ⟨_,_,_,rfl,Wk.refl _,StSub.refl _, ?_,rfl⟩;try first|rfl|(((simp [*];done));done))))
theorem adG {c:Cl} (h:fE c=0):c.val=⟨1,c.val.n,e0⟩:=by
  unfold fE at h
  split at h
  · cases h
  · rename_i h1
    split at h
    · cases h
    · rename_i h2
      simp only [ne_eq,not_or,Decidable.not_not] at h1 h2
      rw [Vl.ext_iff]
      exact ⟨h1.2,rfl,h2.1⟩
theorem aeU (c:Cl):PF Tryz.prog 160 [.agg c.cells] (.agg (vX c).cells):=by
  have hc:=qF c
  have hz:= @adG c
  unfold vX
  by_cases h:fE c=0
  · rw [if_pos h,hz h]
    rw [h] at hc
    clear hz
    refine aH aD Tryz.func160 (by kernel_rfl) rfl rfl rfl rfl (fun st=> ?_)
    (try (apply wO pk;exact rfl));(repeat' (first|(show All _;constructor)|(show Imp _ _;constructor)|(apply wC pk;(iterate 2 exact rfl))|(apply wE pk;(iterate 2 exact rfl))|(refine aA rfl (fun h=> ?_) (fun h=> ?_)<;>(try simp at h)<;>try (exfalso;omega))|(refine aB ?_;refine ⟨_,_,_,rfl,Wk.refl _,StSub.refl _, ?_,rfl⟩;try rfl)|(apply aI;(iterate 3 exact rfl);(intro _;apply hc<;>first|assumption|omega);rotate_left;(iterate 2 exact rfl))))
  · rw [if_neg h]
    clear hz
    generalize fE c=R at*
    refine aH aD Tryz.func160 (by kernel_rfl) rfl rfl rfl rfl (fun st=> ?_)
    (try (apply wO pk;exact rfl));(repeat' (first|(show All _;constructor)|(show Imp _ _;constructor)|(apply wC pk;(iterate 2 exact rfl))|(apply wE pk;(iterate 2 exact rfl))|(refine aA rfl (fun h=> ?_) (fun h=> ?_)<;>(try simp at h)<;>try (exfalso;omega))|(refine aB ?_;refine ⟨_,_,_,rfl,Wk.refl _,StSub.refl _, ?_,rfl⟩;try rfl)|(apply aI;(iterate 3 exact rfl);(intro _;apply hc<;>first|assumption|omega);rotate_left;(iterate 2 exact rfl))))
end Go.Proofs.YtcglimangneafaaGreatDoor
