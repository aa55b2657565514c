import Derived.Test.YtcglimangneafaaGreatDoorAbsI
set_option linter.unusedSimpArgs false
set_option linter.unusedVariables false
namespace Go.Abs
open Go
def jE :Nat→PV→PV→Bool
  |0,_,_=>false
  |n+1,p,q=>match p,q with
    | .val (.int _ _), .seq _| .seq _, .val (.int _ _)| .val (.string _), .seq _| .seq _, .val (.string _)| .val (.bool _), .seq _| .seq _, .val (.bool _)=>true
    | .val (.int _ _), .val (.string _)| .val (.string _), .val (.int _ _)| .val (.bool _), .val (.string _)| .val (.string _), .val (.bool _)=>true
    | .val (.int _ _), .val (.slice _ _ _)| .val (.string _), .val (.slice _ _ _)| .val (.bool _), .val (.slice _ _ _)=>true
    | .seq a, .val (.slice _ n _)=> !Nat.beq a.length n
    | .seq a, .seq b=> !Nat.beq a.length b.length||((a.headD []).zip (b.headD [])).any fun x=>jE n x.1 x.2
    |_,_=>false
theorem pT {g:G} {b:Nat}:∀{ps:List PV} {off:Nat},RepA g b off ps→∀{j:Nat} {p:PV},ps[j]?=some p→∃v,bA g.heap b (off+j)=some v∧off+j<g.fr b∧Rep g p v
  |[],_,_,_,_,h=>by simp at h
  |q::ps,off,h,0,p,hp=>by
    simp only [RepA] at h
    simp only [List.getElem?_cons_zero,Option.some.injEq] at hp
    subst hp;exact h.1
  |q::ps,off,h,j+1,p,hp=>by
    simp only [RepA] at h
    have:=pT h.2 (j:=j) (p:=p) (by simpa using hp)
    rwa [show off+1+j=off+(j+1) by omega] at this
theorem acK {g:G} {b sz:Nat}:∀{rows:List (List PV)} {off:Nat},RepR g b off sz rows→RepA g b off rows.flatten
  |[],_,_=>by simp [RepA]
  |r::rs,off,h=>by
    simp only [RepR] at h
    obtain ⟨h1,h2,h3⟩:=h
    rw [List.flatten_cons]
    have key:∀(r:List PV) (o:Nat),RepA g b o r→RepA g b (o+r.length) rs.flatten→RepA g b o (r++rs.flatten):=by
      intro r
      induction r with
      |nil=>intro o _ h;simpa using h
      |cons p r ih=>
        intro o h1 h2
        simp only [List.cons_append,RepA] at h1⊢
        refine ⟨h1.1,ih (o+1) h1.2 ?_⟩
        rwa [show o+1+r.length=o+(p::r).length by simp;omega]
    exact key r off h2 (by rw [h1];exact acK h3)
theorem abH {g:G}:∀(n:Nat) {p q:PV} {v:Value},jE n p q=true→Rep g p v→Rep g q v→False
  |0,_,_,_,h,_,_=>by simp [jE] at h
  |n+1,p,q,v,h,hp,hq=>by
    unfold jE at h
    split at h
    all_goals first
      |(cases h;done)
      |(simp only [Rep] at hp hq;obtain ⟨_,_,e,_⟩:=hq;rw [e] at hp;cases hp;done)
      |(simp only [Rep] at hp hq;obtain ⟨_,_,e,_⟩:=hp;rw [e] at hq;cases hq;done)
      |(simp only [Rep] at hp hq;rw [hp] at hq;cases hq;done)
      |skip
    · rename_i a _ m _
      simp only [Rep] at hp hq
      obtain ⟨x,cap,e1,_⟩:=hp
      rw [e1] at hq
      injection hq with _ h2 _
      rw [h2,Nat.beq_refl] at h;cases h
    rename_i a b
    simp only [Rep] at hp hq
    obtain ⟨x,cap,e1,_,_,p4⟩:=hp
    obtain ⟨y,cap',e2,_,_,q4⟩:=hq
    rw [e1] at e2
    injection e2 with e2 e3 e4
    rw [Bool.or_eq_true] at h
    rcases h with h|h
    · rw [e3,Nat.beq_refl] at h;cases h
    · obtain ⟨z,hz,hc⟩:=List.any_eq_true.1 h
      cases a with
      |nil=>simp at hz
      |cons r1 t1=>
        cases b with
        |nil=>simp at hz
        |cons r2 t2=>
          rcases p4 with p4|⟨bb,off,sz,f1,f2⟩
          · cases p4
          rcases q4 with q4|⟨bb',off',sz',g1,g2⟩
          · cases q4
          rw [f1] at e2
          rw [g1] at e2
          injection e2 with e2
          injection e2 with e2 e5
          subst e2;subst e5
          simp only [List.headD_cons] at hz
          obtain ⟨j,hj,hjz⟩:=List.getElem_of_mem hz
          rw [List.getElem_zip] at hjz
          rw [List.length_zip] at hj
          simp only [RepR] at f2 g2
          obtain ⟨v1,k1,_,k2⟩:=pT f2.2.1 (List.getElem?_eq_getElem (show j<r1.length by omega))
          obtain ⟨v2,k3,_,k4⟩:=pT g2.2.1 (List.getElem?_eq_getElem (show j<r2.length by omega))
          rw [k1] at k3
          injection k3 with k3
          subst k3
          rw [←hjz] at hc
          exact abH n hc k2 k4
def anQ (n:Nat) (C R:List PV) (off:Nat):Bool:=(List.range R.length).all fun j=>Nat.blt (off+j) C.length&& !jE n (R[j]!) (C[off+j]!)
def apQ (n:Nat) (C R:List PV):Bool:=R.isEmpty||(List.range C.length).all fun off=> !anQ n C R off
mutual
def apart (n:Nat) (C:List PV):PV→Bool
  | .und| .val _| .emp=>true
  | .agg cs=>mJ n C cs
  | .tup cs=>mJ n C cs
  | .seq rows=>apQ n C rows.flatten&&aaG n C rows
  |_=>false
def mJ (n:Nat) (C:List PV):List PV→Bool
  |[]=>true
  |p::ps=>apart n C p&&mJ n C ps
def aaG (n:Nat) (C:List PV):List (List PV)→Bool
  |[]=>true
  |r::rs=>mJ n C r&&aaG n C rs
end
section
variable {g:G} {b n:Nat} {C:List PV}
theorem abL {g:G} {b:Nat}:∀{rows:List (List PV)} {off sz:Nat},rows.flatten=[]→RepR g b off sz rows→∀{g':G},RepR g' b off sz rows
  |[],_,_,_,_,_=>by simp [RepR]
  |r::rs,off,sz,h,hr,g'=>by
    rw [List.flatten_cons,List.append_eq_nil_iff] at h
    simp only [RepR] at hr⊢
    refine ⟨hr.1, ?_,abL h.2 hr.2.2⟩
    rw [h.1];simp [RepA]
theorem azA (hC:RepA g b 0 C) (hf:g.fr b=C.length) {R:List PV} (h:apQ n C R=true) (hne:R≠[]) {off:Nat} (hr:RepA g b off R):False:=by
  unfold apQ at h
  rw [Bool.or_eq_true] at h
  rcases h with h|h
  · exact hne (by simpa using h)
  have hR0:0<R.length:=List.length_pos_iff.2 hne
  have hat:∀j,j<R.length→off+j<C.length∧jE n R[j]! C[off+j]! =false:=fun j hj=>by
    obtain ⟨v,k1,k2,k3⟩:=pT hr (List.getElem?_eq_getElem hj)
    rw [hf] at k2
    refine ⟨k2, ?_⟩
    obtain ⟨v',m1,_,m3⟩:=pT hC (List.getElem?_eq_getElem k2)
    rw [Nat.zero_add,k1] at m1
    injection m1 with m1
    subst m1
    rw [getElem!_pos R j hj,getElem!_pos C (off+j) k2,←Bool.not_eq_true]
    exact fun hc=>abH n hc k3 m3
  have h1:=List.all_eq_true.1 h off (List.mem_range.2 (by have:=(hat 0 hR0).1;omega))
  have h2:anQ n C R off=true:=by
    unfold anQ
    rw [List.all_eq_true]
    intro j hj
    obtain ⟨k1,k2⟩:=hat j (List.mem_range.1 hj)
    rw [k2,show Nat.blt (off+j) C.length=true from by rw [Nat.blt_eq];exact k1];rfl
  rw [h2] at h1;cases h1
def aiT (g:G) (b:Nat):G:={g with fr:=upd g.fr b 0}
mutual
theorem Rep.thaw (hC:RepA g b 0 C) (hf:g.fr b=C.length):∀(p:PV) (v:Value),apart n C p=true→Rep g p v→Rep (aiT g b) p v
  | .und,_,_,_=>by simp [Rep]
  | .val _,_,_,e=>by simpa only [Rep] using e
  | .emp,_,_,e=>by simpa only [Rep] using e
  | .agg cs,x,h,e=>by
    simp only [apart] at h
    simp only [Rep] at e⊢
    obtain ⟨vs,e1,e2⟩:=e
    exact ⟨vs,e1,RepL.thaw hC hf cs vs h e2⟩
  | .tup cs,x,h,e=>by
    simp only [apart] at h
    simp only [Rep] at e⊢
    obtain ⟨vs,e1,e2⟩:=e
    exact ⟨vs,e1,RepL.thaw hC hf cs vs h e2⟩
  | .seq rows,x,h,e=>by
    simp only [apart,Bool.and_eq_true] at h
    simp only [Rep] at e⊢
    obtain ⟨a,cap,e1,e2,e3,e4⟩:=e
    refine ⟨a,cap,e1,e2,e3, ?_⟩
    rcases e4 with e4|⟨b',off,sz,e4,e5⟩
    · exact .inl e4
    · refine .inr ⟨b',off,sz,e4, ?_⟩
      by_cases hn:rows.flatten=[]
      · exact abL hn e5
      · have hb:b'≠b:=fun hb=>by
          subst hb
          exact azA hC hf h.1 hn (acK e5)
        exact RepR.thaw hC hf b' off sz hb rows h.2 e5
  | .own ..,_,h,_=>by simp [apart] at h
  | .rp ..,_,h,_=>by simp [apart] at h
  | .fn ..,_,h,_=>by simp [apart] at h
  | .fmap ..,_,h,_=>by simp [apart] at h
  | .ref ..,_,h,_=>by simp [apart] at h
  | .vec ..,_,h,_=>by simp [apart] at h
  | .el ..,_,h,_=>by simp [apart] at h
  | .mref ..,_,h,_=>by simp [apart] at h
  | .yld ..,_,h,_=>by simp [apart] at h
theorem RepL.thaw (hC:RepA g b 0 C) (hf:g.fr b=C.length):∀(ps:List PV) (vs:List Value),mJ n C ps=true→RepL g ps vs→RepL (aiT g b) ps vs
  |[],_,_,e=>by simpa [RepL] using e
  |p::ps,vs,h,e=>by
    simp only [mJ,Bool.and_eq_true] at h
    simp only [RepL] at e⊢
    obtain ⟨v,vs',e1,e2,e3⟩:=e
    exact ⟨v,vs',e1,Rep.thaw hC hf p v h.1 e2,RepL.thaw hC hf ps vs' h.2 e3⟩
theorem RepA.thaw (hC:RepA g b 0 C) (hf:g.fr b=C.length) (b' off:Nat) (hb:b'≠b):∀(ps:List PV),mJ n C ps=true→RepA g b' off ps→RepA (aiT g b) b' off ps
  |[],_,_=>by simp [RepA]
  |p::ps,h,e=>by
    simp only [mJ,Bool.and_eq_true] at h
    simp only [RepA] at e⊢
    obtain ⟨⟨v,e1,e2,e3⟩,e4⟩:=e
    exact ⟨⟨v,e1,by show off<upd g.fr b 0 b';rw [aF hb];exact e2,Rep.thaw hC hf p v h.1 e3⟩,RepA.thaw hC hf b' (off+1) hb ps h.2 e4⟩
theorem RepR.thaw (hC:RepA g b 0 C) (hf:g.fr b=C.length) (b' off sz:Nat) (hb:b'≠b):∀(rs:List (List PV)),aaG n C rs=true→RepR g b' off sz rs→RepR (aiT g b) b' off sz rs
  |[],_,_=>by simp [RepR]
  |r::rs,h,e=>by
    simp only [aaG,Bool.and_eq_true] at h
    simp only [RepR] at e⊢
    exact ⟨e.1,RepA.thaw hC hf b' off hb r h.1 e.2.1,RepR.thaw hC hf b' (off+sz) sz hb rs h.2 e.2.2⟩
end
end
theorem PC.freezeZ {P:Program} {f:FuncId} {id sz:Nat} {T:TypeId} {rows:List (List PV)} {st:aO} {ps qs:List PV} {R:PV→aO→Prop} (hst:st id=some (.arr T rows)) (hT:P.cellsOf T=sz) (hz:FzL id sz rows ps qs) (h:PC P f qs (upd st id none) R):PC P f ps st R:=by
  refine ⟨h.1,fun w g vs hm hr=> ?_⟩
  obtain ⟨g1,m1,m2,m3,m4,m5,m6⟩:=oT hm hst hT
  have hsub:∀b,Blocks (upd st id none) g1 b→Blocks st g b:=fun b ⟨j,j1,j2⟩=>⟨j,(dK j1).2,by rw [←m6];exact j2⟩
  refine (h.2 w g1 vs m1 (FzL.rep m3 hz vs (RepL.mono m2 _ _ hr))).mono ?_
  rintro e w' ⟨v2,r,st',g',he,hR,hrep,hmem,hle,hfr,hb⟩
  refine ⟨v2,r,st',g',he,hR,hrep,hmem,m2.trans hle,⟨hfr.os,hfr.tape,hfr.output,hfr.size,fun b hb' hn'=> ?_⟩,fun b hb'=>(hb b hb').imp (hsub b) fun h=>h⟩
  obtain ⟨f1,f2,f3⟩:=hfr.old b hb' fun q=>hn' (hsub b q)
  obtain ⟨k1,k2⟩:=m5 b hn'
  exact ⟨f1,f2.trans k1,f3.trans k2⟩
end Go.Abs
