import Derived.Test.YtppdefkgmegipaaGreatDoorAbsI
import Derived.Test.YtppdefkgmegipaaGreatDoorAbsG
import Derived.Test.YtppdefkgmegipaaGreatDoorAbsSort
set_option linter.unusedSimpArgs false
set_option linter.unusedVariables false
namespace Go.Abs
open Go
section
variable {P:Program}
theorem aeR {g g':G} {q q':PV} (hl:∀(ps:List PV) vs,RepL g ps vs->RepL g' ps vs) (hq:∀v,Rep g' q v->Rep g' q' v):∀{rows:List (List PV)} {k:Nat} {vs:List Value},rows[k]?=some [q]->RepL g rows.flatten vs->RepL g' (rows.set k [q']).flatten vs
 |[],_,_,h,_=>by simp at h
 |r::rs,0,vs,h,e=>by
  simp only [List.getElem?_cons_zero,Option.some.injEq] at h
  subst h
  simp only [List.set_cons_zero,List.flatten_cons,List.singleton_append] at e⊢
  have e:=hl _ _ e
  simp only [RepL] at e⊢
  obtain ⟨v,vs',e1,e2,e3⟩:=e
  exact ⟨v,vs',e1,hq v e2,e3⟩
 |r::rs,k+1,vs,h,e=>by
  simp only [List.getElem?_cons_succ] at h
  simp only [List.set_cons_succ,List.flatten_cons] at e⊢
  have key:∀(r:List PV) (vs:List Value),RepL g (r++rs.flatten) vs->RepL g' (r++(rs.set k [q']).flatten) vs:=by
   intro r
   induction r with
   |nil=>intro vs e;exact aeR hl hq h e
   |cons p r ih=>
    intro vs e
    have e1:=hl [p]
    simp only [List.cons_append,RepL] at e e1⊢
    obtain ⟨v,vs',rfl,e2,e3⟩:=e
    obtain ⟨v2,vs2,q1,q2,q3⟩:=e1 [v] ⟨v,[],rfl,e2,rfl⟩
    injection q1 with q1
    exact ⟨v,vs',rfl,q1▸q2,ih vs' e3⟩
  exact key r vs e
theorem MemOK.setRow {st:aD} {w:World} {g:G} (hm:MemOK P st w g) {id:Nat} {T:TypeId} {rows:List (List PV)} {k:Nat} {q q':PV} (hst:st id=some (.arr T rows)) (hk:rows[k]?=some [q]) (hq:∀v,Rep g q v->Rep g q' v):MemOK P (upd st id (some (.arr T (rows.set k [q'])))) w g where
 heap:=hm.heap
 obj j o e:=by
  by_cases h:j=id
  ·subst h
   rw [aA] at e
   injection e with e
   subst e
   have:=hm.obj j _ hst
   simp only [ObjOK] at this⊢
   obtain ⟨b,cap,h1,⟨h0,h2⟩|⟨h2,vs,sp,h3,h4,h5,h6,h7,h8⟩⟩:=this
   ·rw [h2] at hk;simp at hk
   ·refine ⟨b,cap,by rw [List.length_set];exact h1, .inr ⟨h2,vs,sp,by rw [List.length_set];exact h3,h4,h5,λr hr=> ?_,aeR (λ_ _ h=>h) hq hk h7,h8⟩⟩
    rcases List.mem_or_eq_of_mem_set hr with hr|rfl
    ·exact h6 r hr
    ·exact h6 [q] (List.mem_of_getElem? hk)
  ·rw [aC h] at e;exact hm.obj j o e
 inj j j' b e e':=hm.inj j j' b (by by_cases h:j=id;(rw [h,hst];simp);(rwa [aC h] at e)) (by by_cases h:j'=id;(rw [h,hst];simp);(rwa [aC h] at e'))
 lt:=hm.lt
 fmm:=hm.fmm
 fin:=hm.fin
theorem Blocks.set {st:aD} {g:G} {id:Nat} {o o':AObj} (hst:st id=some o) {b:Nat} (h:Blocks (upd st id (some o')) g b):Blocks st g b:=by
 obtain ⟨j,h1,h2⟩:=h
 refine ⟨j, ?_,h2⟩
 by_cases e:j=id
 ·rw [e,hst];simp
 ·rwa [aC e] at h1
section
variable {cd:Code} {Q:Exit->St->Prop} {s:St}
end
section
variable {tt:TT} {l:List Oper} {d:Md} {r:List Oper} {s:St} {K:St->Prop} {t:Nat} {ty:TypeId} {pos:String} {after:Array Edge} {gd:Option (Nat×Bool)}
theorem ldX (pk:Pk P tt) {T T':TypeId} {x:Operand} {id sz j off:Nat} {w:Bool} {rows:List (List PV)} {row:List PV} {p:PV} (hw:bF l ⟨some t, .load T x,ty,pos,after,gd⟩ s=some w) (hx:opd s x=some (.el id sz j off)) (hf:All (flagsI s w [x] [])) (hd:Nat.blt t s.n=true) (hst:s.st id=some (.arr T' rows)) (hs:aO tt T'=some sz) (hr:rows[j]?=some row) (hp:gT tt T row off=some p) (ht:tT d l r=true) (k:Ev P l d r (s.put (some t) w (.pv p)) K):Ev P l d (⟨some t, .load T x,ty,pos,after,gd⟩::r) s K:=
 oT hw (λ_=>oQ pk.htt rfl hx hst hs hr hp) (λz hz=>aR (λ_ _ _ e=>by cases e) hz) (flagsI.g hf).1 hd ht k
theorem stX (pk:Pk P tt) {T T':TypeId} {x y:Operand} {id sz j off:Nat} {rows:List (List PV)} {row row':List PV} (hx:opd s x=some (.el id sz j off)) (hf:bK s [x,y]=true) (hst:s.st id=some (.arr T' rows)) (hs:aO tt T'=some sz) (hr:rows[j]?=some row) (hp:iP tt s T y row off=some row') (ht:hY d l r=true) (k:Ev P l d r (s.sst (upd s.st id (some (.arr T' (rows.set j row'))))) K):Ev P l d (⟨none, .store T x y,ty,pos,after,none⟩::r) s K:=
 dD (tD pk.htt hx hst hs hr hp) (λz hz=>aR (λ_ _ _ e=>by cases e) hz) hf rfl ht λz hz=>by subst hz;exact k
end
end
section
def qN :Nat->PV->PV->Bool
 |0,_,_=>false
 |n+1,p,q=>match p,q with
  | .val (.int _ _), .seq _| .seq _, .val (.int _ _)| .val (.string _), .seq _| .seq _, .val (.string _)| .val (.bool _), .seq _| .seq _, .val (.bool _)=>true
  | .val (.int _ _), .val (.string _)| .val (.string _), .val (.int _ _)| .val (.bool _), .val (.string _)| .val (.string _), .val (.bool _)=>true
  | .val (.int _ _), .val (.slice _ _ _)| .val (.string _), .val (.slice _ _ _)| .val (.bool _), .val (.slice _ _ _)=>true
  | .seq a, .val (.slice _ n _)=> !Nat.beq a.length n
  | .seq a, .seq b=> !Nat.beq a.length b.length||((a.headD []).zip (b.headD [])).any λx=>qN n x.1 x.2
  |_,_=>false
theorem pX {g:G} {b:Nat}:∀{ps:List PV} {off:Nat},RepA g b off ps->∀{j:Nat} {p:PV},ps[j]?=some p->∃v,aS g.heap b (off+j)=some v/\off+j<g.fr b/\Rep g p v
 |[],_,_,_,_,h=>by simp at h
 |q::ps,off,h,0,p,hp=>by
  simp only [RepA] at h
  simp only [List.getElem?_cons_zero,Option.some.injEq] at hp
  subst hp;exact h.1
 |q::ps,off,h,j+1,p,hp=>by
  simp only [RepA] at h
  have:=pX h.2 (j:=j) (p:=p) (by simpa using hp)
  rwa [show off+1+j=off+(j+1) by omega] at this
theorem wK {g:G} {b sz:Nat}:∀{rows:List (List PV)} {off:Nat},RepR g b off sz rows->RepA g b off rows.flatten
 |[],_,_=>by simp [RepA]
 |r::rs,off,h=>by
  simp only [RepR] at h
  obtain ⟨h1,h2,h3⟩:=h
  rw [List.flatten_cons]
  have key:∀(r:List PV) (o:Nat),RepA g b o r->RepA g b (o+r.length) rs.flatten->RepA g b o (r++rs.flatten):=by
   intro r
   induction r with
   |nil=>intro o _ h;simpa using h
   |cons p r ih=>
    intro o h1 h2
    simp only [List.cons_append,RepA] at h1⊢
    refine ⟨h1.1,ih (o+1) h1.2 ?_⟩
    rwa [show o+1+r.length=o+(p::r).length by simp;omega]
  exact key r off h2 (by rw [h1];exact wK h3)
theorem adX {g:G}:∀(n:Nat) {p q:PV} {v:Value},qN n p q=true->Rep g p v->Rep g q v->False
 |0,_,_,_,h,_,_=>by simp [qN] at h
 |n+1,p,q,v,h,hp,hq=>by
  unfold qN at h
  split at h
  all_goals first
   |(cases h;done)
   |(simp only [Rep] at hp hq;obtain ⟨_,_,e,_⟩:=hq;rw [e] at hp;cases hp;done)
   |(simp only [Rep] at hp hq;obtain ⟨_,_,e,_⟩:=hp;rw [e] at hq;cases hq;done)
   |(simp only [Rep] at hp hq;rw [hp] at hq;cases hq;done)
   |skip
  ·rename_i a _ m _
   simp only [Rep] at hp hq
   obtain ⟨x,cap,e1,_⟩:=hp
   rw [e1] at hq
   injection hq with _ h2 _
   rw [h2,Nat.beq_refl] at h;cases h
  rename_i a b
  simp only [Rep] at hp hq
  obtain ⟨x,cap,e1,_,_,p4⟩:=hp
  obtain ⟨y,cap',e2,_,_,q4⟩:=hq
  rw [e1] at e2
  injection e2 with e2 e3 e4
  rw [Bool.or_eq_true] at h
  rcases h with h|h
  ·rw [e3,Nat.beq_refl] at h;cases h
  ·obtain ⟨z,hz,hc⟩:=List.any_eq_true.1 h
   cases a with
   |nil=>simp at hz
   |cons r1 t1=>
    cases b with
    |nil=>simp at hz
    |cons r2 t2=>
     rcases p4 with p4|⟨bb,off,sz,f1,f2⟩
     ·cases p4
     rcases q4 with q4|⟨bb',off',sz',g1,g2⟩
     ·cases q4
     rw [f1] at e2
     rw [g1] at e2
     injection e2 with e2
     injection e2 with e2 e5
     subst e2;subst e5
     simp only [List.headD_cons] at hz
     obtain ⟨j,hj,hjz⟩:=zgo hz
     rw [List.getElem_zip] at hjz
     rw [List.length_zip] at hj
     simp only [RepR] at f2 g2
     obtain ⟨v1,k1,_,k2⟩:=pX f2.2.1 (zgg (show j<r1.length by omega))
     obtain ⟨v2,k3,_,k4⟩:=pX g2.2.1 (zgg (show j<r2.length by omega))
     rw [k1] at k3
     injection k3 with k3
     subst k3
     rw [<-hjz] at hc
     exact adX n hc k2 k4
def arT (n:Nat) (C R:List PV) (off:Nat):Bool:=(List.range R.length).all λj=>Nat.blt (off+j) C.length&& !qN n (R[j]!) (C[off+j]!)
def apQ (n:Nat) (C R:List PV):Bool:=R.isEmpty||(List.range C.length).all λoff=> !arT n C R off
mutual
def apart (n:Nat) (C:List PV):PV->Bool
 | .und| .val _| .emp=>true
 | .agg cs=>mA n C cs
 | .tup cs=>mA n C cs
 | .seq rows=>apQ n C rows.flatten&&acE n C rows
 |_=>false
def mA (n:Nat) (C:List PV):List PV->Bool
 |[]=>true
 |p::ps=>apart n C p&&mA n C ps
def acE (n:Nat) (C:List PV):List (List PV)->Bool
 |[]=>true
 |r::rs=>mA n C r&&acE n C rs
end
section
variable {g:G} {b n:Nat} {C:List PV}
theorem aeD {g:G} {b:Nat}:∀{rows:List (List PV)} {off sz:Nat},rows.flatten=[]->RepR g b off sz rows->∀{g':G},RepR g' b off sz rows
 |[],_,_,_,_,_=>by simp [RepR]
 |r::rs,off,sz,h,hr,g'=>by
  rw [List.flatten_cons,List.append_eq_nil_iff] at h
  simp only [RepR] at hr⊢
  refine ⟨hr.1, ?_,aeD h.2 hr.2.2⟩
  rw [h.1];simp [RepA]
theorem aCx (hC:RepA g b 0 C) (hf:g.fr b=C.length) {R:List PV} (h:apQ n C R=true) (hne:R≠[]) {off:Nat} (hr:RepA g b off R):False:=by
 unfold apQ at h
 rw [Bool.or_eq_true] at h
 rcases h with h|h
 ·exact hne (by simpa using h)
 have hR0:0<R.length:=List.length_pos_iff.2 hne
 have hat:∀j,j<R.length->off+j<C.length/\qN n R[j]! C[off+j]! =false:=λj hj=>by
  obtain ⟨v,k1,k2,k3⟩:=pX hr (zgg hj)
  rw [hf] at k2
  refine ⟨k2, ?_⟩
  obtain ⟨v',m1,_,m3⟩:=pX hC (zgg k2)
  rw [Nat.zero_add,k1] at m1
  injection m1 with m1
  subst m1
  rw [getElem!_pos R j hj,getElem!_pos C (off+j) k2,<-Bool.not_eq_true]
  exact λhc=>adX n hc k3 m3
 have h1:=zal.1 h off (List.mem_range.2 (by have:=(hat 0 hR0).1;omega))
 have h2:arT n C R off=true:=by
  unfold arT
  rw [zal]
  intro j hj
  obtain ⟨k1,k2⟩:=hat j (List.mem_range.1 hj)
  rw [k2,show Nat.blt (off+j) C.length=true from by rw [Nat.blt_eq];exact k1];rfl
 rw [h2] at h1;cases h1
def oI (g:G) (b:Nat):G:={g with fr:=upd g.fr b 0}
mutual
theorem Rep.thaw (hC:RepA g b 0 C) (hf:g.fr b=C.length):∀(p:PV) (v:Value),apart n C p=true->Rep g p v->Rep (oI g b) p v
 | .und,_,_,_=>by simp [Rep]
 | .val _,_,_,e=>by simpa only [Rep] using e
 | .emp,_,_,e=>by simpa only [Rep] using e
 | .agg cs,x,h,e=>by
  simp only [apart] at h
  simp only [Rep] at e⊢
  obtain ⟨vs,e1,e2⟩:=e
  exact ⟨vs,e1,RepL.thaw hC hf cs vs h e2⟩
 | .tup cs,x,h,e=>by
  simp only [apart] at h
  simp only [Rep] at e⊢
  obtain ⟨vs,e1,e2⟩:=e
  exact ⟨vs,e1,RepL.thaw hC hf cs vs h e2⟩
 | .seq rows,x,h,e=>by
  simp only [apart,zba] at h
  simp only [Rep] at e⊢
  obtain ⟨a,cap,e1,e2,e3,e4⟩:=e
  refine ⟨a,cap,e1,e2,e3, ?_⟩
  rcases e4 with e4|⟨b',off,sz,e4,e5⟩
  ·exact .inl e4
  ·refine .inr ⟨b',off,sz,e4, ?_⟩
   by_cases hn:rows.flatten=[]
   ·exact aeD hn e5
   ·have hb:b'≠b:=λhb=>by
     subst hb
     exact aCx hC hf h.1 hn (wK e5)
    exact RepR.thaw hC hf b' off sz hb rows h.2 e5
 | .own ..,_,h,_=>by simp [apart] at h
 | .rp ..,_,h,_=>by simp [apart] at h
 | .fn ..,_,h,_=>by simp [apart] at h
 | .fmap ..,_,h,_=>by simp [apart] at h
 | .ref ..,_,h,_=>by simp [apart] at h
 | .vec ..,_,h,_=>by simp [apart] at h
 | .el ..,_,h,_=>by simp [apart] at h
 | .mref ..,_,h,_=>by simp [apart] at h
 | .yld ..,_,h,_=>by simp [apart] at h
theorem RepL.thaw (hC:RepA g b 0 C) (hf:g.fr b=C.length):∀(ps:List PV) (vs:List Value),mA n C ps=true->RepL g ps vs->RepL (oI g b) ps vs
 |[],_,_,e=>by simpa [RepL] using e
 |p::ps,vs,h,e=>by
  simp only [mA,zba] at h
  simp only [RepL] at e⊢
  obtain ⟨v,vs',e1,e2,e3⟩:=e
  exact ⟨v,vs',e1,Rep.thaw hC hf p v h.1 e2,RepL.thaw hC hf ps vs' h.2 e3⟩
theorem RepA.thaw (hC:RepA g b 0 C) (hf:g.fr b=C.length) (b' off:Nat) (hb:b'≠b):∀(ps:List PV),mA n C ps=true->RepA g b' off ps->RepA (oI g b) b' off ps
 |[],_,_=>by simp [RepA]
 |p::ps,h,e=>by
  simp only [mA,zba] at h
  simp only [RepA] at e⊢
  obtain ⟨⟨v,e1,e2,e3⟩,e4⟩:=e
  exact ⟨⟨v,e1,by show off<upd g.fr b 0 b';rw [aC hb];exact e2,Rep.thaw hC hf p v h.1 e3⟩,RepA.thaw hC hf b' (off+1) hb ps h.2 e4⟩
theorem RepR.thaw (hC:RepA g b 0 C) (hf:g.fr b=C.length) (b' off sz:Nat) (hb:b'≠b):∀(rs:List (List PV)),acE n C rs=true->RepR g b' off sz rs->RepR (oI g b) b' off sz rs
 |[],_,_=>by simp [RepR]
 |r::rs,h,e=>by
  simp only [acE,zba] at h
  simp only [RepR] at e⊢
  exact ⟨e.1,RepA.thaw hC hf b' off hb r h.1 e.2.1,RepR.thaw hC hf b' (off+sz) sz hb rs h.2 e.2.2⟩
end
end
theorem PC.borrow {P:Program} {f:FuncId} {id sz:Nat} {T:TypeId} {rows:List (List PV)} {st:aD} {ps qs qs':List PV} {r:PV} (n:Nat) (hst:st id=some (.arr T rows)) (hT:P.cellsOf T=sz) (h0:0<rows.length) (hz:FzL id sz rows ps qs) (hw:WkL qs qs') (h:PF P f qs' r) (ha:apart n rows.flatten r=true):PC P f ps st λr' S=>r'=r/\S=st:=by
 have h:=h λ_=>none
 refine ⟨h.1,λw g vs hm hr=> ?_⟩
 have hob:=hm.obj id _ hst
 simp only [ObjOK] at hob
 obtain ⟨b,cap,h1,⟨_,h2⟩|⟨h2,us,sp,h3,h4,h5,h6,h7,h8⟩⟩:=hob
 ·rw [h2] at h0;simp at h0
 have hbl:Go.Abs.blk g id=some b:=by simp [Go.Abs.blk,h1,h2]
 have hblt:b<w.heap.size:=by have:=aZ h4;rwa [hm.heap] at this
 have hlen:=h7.length
 obtain ⟨l1,l2,l3⟩:=aeQ hm hst hT h1 h2 h3 h4 h6 h7 h8
 generalize hgf:({g with fr:=upd g.fr b us.length}:G)=gf at l1 l2 l3
 have hfb:gf.fr b=us.length:=by subst hgf;exact aA _ _ _
 have hfo:∀b',b'≠b->gf.fr b'=g.fr b':=λb' hb=>by subst hgf;exact aC hb
 have hhp:gf.heap=g.heap:=by subst hgf;rfl
 have hfm:∀b',gf.fm b'↔g.fm b':=λb'=>by subst hgf;exact Iff.rfl
 have hC:RepA gf b 0 rows.flatten:=wK (RepR.mk (vs:=us) h6 (RepL.mono l2 _ _ h7) λj v hj=>by
  have hjv:=(zge.1 hj).1
  rw [Nat.zero_add,hfb,hhp]
  refine ⟨?_,hjv⟩
  simp only [aS,h4,List.getElem?_toArray]
  rw [List.getElem?_append_left hjv];exact hj)
 have hE:∀x y,¬Blocks (λ_=>none) x y:=λx y ⟨j,hj,_⟩=>hj rfl
 refine (h.2 w gf vs (l1.sub λ_=> .inl rfl) (hw.rep (FzL.rep l3 hz vs (RepL.mono l2 _ _ hr)))).mono ?_
 rintro e w' ⟨v2,r',st',g',he,⟨rfl,rfl⟩,hrep,hmem,hle,hfr,hb⟩
 have hold:∀b',b'<w.heap.size->w'.heap[b']?=w.heap[b']?/\g'.fr b'=gf.fr b'/\(g'.fm b'↔gf.fm b'):=λb' hb'=>hfr.old b' hb' (hE _ _)
 have hfb':g'.fr b=rows.flatten.length:=by rw [(hold b hblt).2.1,hfb,hlen]
 have hLe:Le g (oI g' b):=by
  have h':=l2.trans hle
  refine ⟨h'.io,λb'=> ?_,h'.cell,h'.fm⟩
  show g.fr b'<=upd g'.fr b 0 b'
  by_cases e:b'=b
  ·rw [e,h8];exact Nat.zero_le _
  ·rw [aC e];exact h'.fr b'
 have hio:∀j,st j≠none->Go.Abs.blk (oI g' b) j=Go.Abs.blk g j:=λj hj=>by
  cases hs:st j with
  |none=>exact absurd hs hj
  |some o=>
   obtain ⟨x,hx⟩:=rH (hm.obj j o hs)
   unfold Go.Abs.blk
   rw [hx,hLe.io j x hx]
 have hkeep:∀b',b'<w.heap.size->(oI g' b).heap[b']?=g.heap[b']?/\(oI g' b).fr b'=g.fr b'/\((oI g' b).fm b'↔g.fm b'):=λb' hb'=>by
  obtain ⟨k1,k2,k3⟩:=hold b' hb'
  refine ⟨?_, ?_,k3.trans (hfm b')⟩
  ·show g'.heap[b']?=_
   rw [hmem.heap,k1,hm.heap]
  ·show upd g'.fr b 0 b'=_
   by_cases e:b'=b
   ·rw [e,aA,h8]
   ·rw [aC e,k2,hfo b' e]
 refine ⟨v2,r',st,oI g' b,he,⟨rfl,rfl⟩,Rep.thaw (RepA.mono hle b 0 _ hC) hfb' r' v2 ha hrep,⟨hmem.heap,λj o hj=> ?_,λj j' b' e e' k k'=>hm.inj j j' b' e e' (by rw [<-hio j e];exact k) (by rw [<-hio j' e'];exact k'),λb' hb'=> ?_,hmem.fmm,hmem.fin⟩,hLe,⟨hfr.os,hfr.tape,hfr.output,hfr.size,λb' hb' _=> ?_⟩,λb' ⟨j,j1,j2⟩=> .inl ⟨j,j1,by rw [<-hio j j1];exact j2⟩⟩
 ·refine (hm.obj j o hj).keep hLe λb' hb'=>hkeep b' (aAE hm (by rw [hj];simp) hb')
 ·have hb2:upd g'.fr b 0 b'≠0:=hb'
  by_cases e:b'=b
  ·rw [e,aA] at hb2;exact absurd rfl hb2
  ·rw [aC e] at hb2;exact hmem.lt b' hb2
 ·obtain ⟨k1,k2,k3⟩:=hkeep b' hb'
  exact ⟨(hold b' hb').1,k2,k3⟩
theorem PC.wkArgs {P:Program} {f:FuncId} {st:aD} {ps qs:List PV} {R:PV->aD->Prop} (hw:WkL ps qs) (h:PC P f qs st R):PC P f ps st R:=⟨h.1,λw g vs hm hr=>h.2 w g vs hm (hw.rep hr)⟩
end
section
section
variable {P:Program} {tt:TT} {l:List Oper} {d:Md} {r:List Oper} {s:St} {K:St->Prop} {t:Nat} {ty:TypeId} {pos:String} {after:Array Edge}
end
end
end Go.Abs
