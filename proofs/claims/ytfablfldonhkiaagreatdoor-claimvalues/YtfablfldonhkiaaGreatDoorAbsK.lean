import Derived.Test.YtfablfldonhkiaaGreatDoorAbsI
import Derived.Test.YtfablfldonhkiaaGreatDoorAbsG
import Derived.Test.YtfablfldonhkiaaGreatDoorAbsSort
set_option linter.unusedSimpArgs false
set_option linter.unusedVariables false
namespace Go.Abs
open Go
section
variable {P:Program}
theorem akZ {g g':G} {q q':PV} (hl:∀(ps:List PV) vs,RepL g ps vs->RepL g' ps vs) (hq:∀v,Rep g' q v->Rep g' q' v):∀{rows:List (List PV)} {k:Nat} {vs:List Value},rows[k]?=some [q]->RepL g rows.flatten vs->RepL g' (rows.set k [q']).flatten vs
 |[],_,_,h,_=>by simp at h
 |r::rs,0,vs,h,e=>by
  simp only [List.getElem?_cons_zero,Option.some.injEq] at h
  subst h
  simp only [List.set_cons_zero,List.flatten_cons,List.singleton_append] at e⊢
  have e:=hl _ _ e
  simp only [RepL] at e⊢
  obtain ⟨v,vs',e1,e2,e3⟩:=e
  exact ⟨v,vs',e1,hq v e2,e3⟩
 |r::rs,k+1,vs,h,e=>by
  simp only [List.getElem?_cons_succ] at h
  simp only [List.set_cons_succ,List.flatten_cons] at e⊢
  have key:∀(r:List PV) (vs:List Value),RepL g (r++rs.flatten) vs->RepL g' (r++(rs.set k [q']).flatten) vs:=by
   intro r
   induction r with
   |nil=>intro vs e;exact akZ hl hq h e
   |cons p r ih=>
    intro vs e
    have e1:=hl [p]
    simp only [List.cons_append,RepL] at e e1⊢
    obtain ⟨v,vs',rfl,e2,e3⟩:=e
    obtain ⟨v2,vs2,q1,q2,q3⟩:=e1 [v] ⟨v,[],rfl,e2,rfl⟩
    injection q1 with q1
    exact ⟨v,vs',rfl,q1▸q2,ih vs' e3⟩
  exact key r vs e
theorem MemOK.setRow {st:aD} {w:World} {g:G} (hm:MemOK P st w g) {id:Nat} {T:TypeId} {rows:List (List PV)} {k:Nat} {q q':PV} (hst:st id=some (.arr T rows)) (hk:rows[k]?=some [q]) (hq:∀v,Rep g q v->Rep g q' v):MemOK P (upd st id (some (.arr T (rows.set k [q'])))) w g where
 heap:=hm.heap
 obj j o e:=by
  by_cases h:j=id
  ·subst h
   rw [aA] at e
   injection e with e
   subst e
   have:=hm.obj j _ hst
   simp only [ObjOK] at this⊢
   obtain ⟨b,cap,h1,⟨h0,h2⟩|⟨h2,vs,sp,h3,h4,h5,h6,h7,h8⟩⟩:=this
   ·rw [h2] at hk;simp at hk
   ·refine ⟨b,cap,by rw [List.length_set];exact h1, .inr ⟨h2,vs,sp,by rw [List.length_set];exact h3,h4,h5,λr hr=> ?_,akZ (λ_ _ h=>h) hq hk h7,h8⟩⟩
    rcases List.mem_or_eq_of_mem_set hr with hr|rfl
    ·exact h6 r hr
    ·exact h6 [q] (List.mem_of_getElem? hk)
  ·rw [aB h] at e;exact hm.obj j o e
 inj j j' b e e':=hm.inj j j' b (by by_cases h:j=id;(rw [h,hst];simp);(rwa [aB h] at e)) (by by_cases h:j'=id;(rw [h,hst];simp);(rwa [aB h] at e'))
 lt:=hm.lt
 fmm:=hm.fmm
 fin:=hm.fin
theorem Blocks.set {st:aD} {g:G} {id:Nat} {o o':AObj} (hst:st id=some o) {b:Nat} (h:Blocks (upd st id (some o')) g b):Blocks st g b:=by
 obtain ⟨j,h1,h2⟩:=h
 refine ⟨j, ?_,h2⟩
 by_cases e:j=id
 ·rw [e,hst];simp
 ·rwa [aB e] at h1
section
variable {cd:Code} {Q:Exit->St->Prop} {s:St}
theorem amQ {id k:Nat} {T':TypeId} {rows:List (List PV)} {q:PV} (T sz:Nat) (hst:s.st id=some (.arr T' rows)) (hk:rows[k]?=some [q]) (hq:isEmp q=true) (kk:∀id',s.st id'=none->PWp P cd Q (s.sst (upd (upd s.st id' (some (.arr T []))) id (some (.arr T' (rows.set k [.vec id' sz 0 0])))))):PWp P cd Q s:=by
 intro c a w g lam hs
 obtain ⟨id',g',f1,f2,f3,m1,m2,m3,m4⟩:=mT hs.mem T
 have hne:id≠id':=λe=>by rw [<-e,hst] at f2;cases f2
 have hst':upd s.st id' (some (.arr T [])) id=some (.arr T' rows):=(aB hne).trans hst
 have m1':=m1.setRow (q':= .vec id' sz 0 0) hst' hk λv hv=>by
  obtain ⟨b,rfl⟩:=nC hq hv
  exact f3 sz b
 exact kk id' f2 c a w g' lam (hs.step m1' m2 m3 λb hb=>m4 b (hb.set hst'))
theorem aqV {id idL k sz n:Nat} {T T':TypeId} {rows rl:List (List PV)} (hst:s.st id=some (.arr T' rows)) (hk:rows[k]?=some [.vec idL sz 0 n]) (hL:s.st idL=some (.arr T rl)) (hT:P.cellsOf T=sz) (hn:rl.length=n) (hne:id≠idL) (kk:PWp P cd Q (s.sst (upd (upd s.st idL none) id (some (.arr T' (rows.set k [.seq rl])))))):PWp P cd Q s:=by
 intro c a w g lam hs
 obtain ⟨g',m1,m2,m3,m4,m5,m6⟩:=kI hs.mem hL hT
 have hst':upd s.st idL none id=some (.arr T' rows):=(aB hne).trans hst
 have m1':=m1.setRow (q':= .seq rl) hst' hk λv hv=>by
  have:=m3 0 n v hv
  rwa [List.drop_zero,<-hn,List.take_length] at this
 refine kk c a w g' lam (hs.step m1' m2 ⟨rfl,⟨rfl,Nat.le_refl _⟩,rfl,Nat.le_refl _,λb _ hb=> ?_⟩ λb hb=> ?_)
 ·exact ⟨rfl,m5 b hb⟩
 ·obtain ⟨j,j1,j2⟩:=hb.set hst'
  exact .inl ⟨j,(dG j1).2,by rw [<-m6];exact j2⟩
end
section
variable {tt:TT} {l:List Oper} {d:Md} {r:List Oper} {s:St} {K:St->Prop} {t:Nat} {ty:TypeId} {pos:String} {after:Array Edge} {gd:Option (Nat×Bool)}
theorem ldX (pk:Pk P tt) {T T':TypeId} {x:Operand} {id sz j off:Nat} {w:Bool} {rows:List (List PV)} {row:List PV} {p:PV} (hw:bG l ⟨some t, .load T x,ty,pos,after,gd⟩ s=some w) (hx:opd s x=some (.el id sz j off)) (hf:All (flagsI s w [x] [])) (hd:Nat.blt t s.n=true) (hst:s.st id=some (.arr T' rows)) (hs:aN tt T'=some sz) (hr:rows[j]?=some row) (hp:kO tt T row off=some p) (ht:tZ d l r=true) (k:Ev P l d r (s.put (some t) w (.pv p)) K):Ev P l d (⟨some t, .load T x,ty,pos,after,gd⟩::r) s K:=
 pH hw (λ_=>sC pk.htt rfl hx hst hs hr hp) (λz hz=>aO (λ_ _ _ e=>by cases e) hz) (flagsI.g hf).1 hd ht k
theorem stX (pk:Pk P tt) {T T':TypeId} {x y:Operand} {id sz j off:Nat} {rows:List (List PV)} {row row':List PV} (hx:opd s x=some (.el id sz j off)) (hf:bM s [x,y]=true) (hst:s.st id=some (.arr T' rows)) (hs:aN tt T'=some sz) (hr:rows[j]?=some row) (hp:jM tt s T y row off=some row') (ht:iJ d l r=true) (k:Ev P l d r (s.sst (upd s.st id (some (.arr T' (rows.set j row'))))) K):Ev P l d (⟨none, .store T x y,ty,pos,after,none⟩::r) s K:=
 dU (qG pk.htt hx hst hs hr hp) (λz hz=>aO (λ_ _ _ e=>by cases e) hz) hf rfl ht λz hz=>by subst hz;exact k
end
end
section
def mW :Nat->PV->PV->Bool
 |0,_,_=>false
 |n+1,p,q=>match p,q with
  | .val (.int _ _), .seq _| .seq _, .val (.int _ _)| .val (.string _), .seq _| .seq _, .val (.string _)| .val (.bool _), .seq _| .seq _, .val (.bool _)=>true
  | .val (.int _ _), .val (.string _)| .val (.string _), .val (.int _ _)| .val (.bool _), .val (.string _)| .val (.string _), .val (.bool _)=>true
  | .val (.int _ _), .val (.slice _ _ _)| .val (.string _), .val (.slice _ _ _)| .val (.bool _), .val (.slice _ _ _)=>true
  | .seq a, .val (.slice _ n _)=> !Nat.beq a.length n
  | .seq a, .seq b=> !Nat.beq a.length b.length||((a.headD []).zip (b.headD [])).any λx=>mW n x.1 x.2
  |_,_=>false
theorem tO {g:G} {b:Nat}:∀{ps:List PV} {off:Nat},RepA g b off ps->∀{j:Nat} {p:PV},ps[j]?=some p->∃v,aT g.heap b (off+j)=some v/\off+j<g.fr b/\Rep g p v
 |[],_,_,_,_,h=>by simp at h
 |q::ps,off,h,0,p,hp=>by
  simp only [RepA] at h
  simp only [List.getElem?_cons_zero,Option.some.injEq] at hp
  subst hp;exact h.1
 |q::ps,off,h,j+1,p,hp=>by
  simp only [RepA] at h
  have:=tO h.2 (j:=j) (p:=p) (by simpa using hp)
  rwa [show off+1+j=off+(j+1) by omega] at this
theorem abN {g:G} {b sz:Nat}:∀{rows:List (List PV)} {off:Nat},RepR g b off sz rows->RepA g b off rows.flatten
 |[],_,_=>by simp [RepA]
 |r::rs,off,h=>by
  simp only [RepR] at h
  obtain ⟨h1,h2,h3⟩:=h
  rw [List.flatten_cons]
  have key:∀(r:List PV) (o:Nat),RepA g b o r->RepA g b (o+r.length) rs.flatten->RepA g b o (r++rs.flatten):=by
   intro r
   induction r with
   |nil=>intro o _ h;simpa using h
   |cons p r ih=>
    intro o h1 h2
    simp only [List.cons_append,RepA] at h1⊢
    refine ⟨h1.1,ih (o+1) h1.2 ?_⟩
    rwa [show o+1+r.length=o+(p::r).length by simp;omega]
  exact key r off h2 (by rw [h1];exact abN h3)
theorem akD {g:G}:∀(n:Nat) {p q:PV} {v:Value},mW n p q=true->Rep g p v->Rep g q v->False
 |0,_,_,_,h,_,_=>by simp [mW] at h
 |n+1,p,q,v,h,hp,hq=>by
  unfold mW at h
  split at h
  all_goals first
   |(cases h;done)
   |(simp only [Rep] at hp hq;obtain ⟨_,_,e,_⟩:=hq;rw [e] at hp;cases hp;done)
   |(simp only [Rep] at hp hq;obtain ⟨_,_,e,_⟩:=hp;rw [e] at hq;cases hq;done)
   |(simp only [Rep] at hp hq;rw [hp] at hq;cases hq;done)
   |skip
  ·rename_i a _ m _
   simp only [Rep] at hp hq
   obtain ⟨x,cap,e1,_⟩:=hp
   rw [e1] at hq
   injection hq with _ h2 _
   rw [h2,Nat.beq_refl] at h;cases h
  rename_i a b
  simp only [Rep] at hp hq
  obtain ⟨x,cap,e1,_,_,p4⟩:=hp
  obtain ⟨y,cap',e2,_,_,q4⟩:=hq
  rw [e1] at e2
  injection e2 with e2 e3 e4
  rw [Bool.or_eq_true] at h
  rcases h with h|h
  ·rw [e3,Nat.beq_refl] at h;cases h
  ·obtain ⟨z,hz,hc⟩:=List.any_eq_true.1 h
   cases a with
   |nil=>simp at hz
   |cons r1 t1=>
    cases b with
    |nil=>simp at hz
    |cons r2 t2=>
     rcases p4 with p4|⟨bb,off,sz,f1,f2⟩
     ·cases p4
     rcases q4 with q4|⟨bb',off',sz',g1,g2⟩
     ·cases q4
     rw [f1] at e2
     rw [g1] at e2
     injection e2 with e2
     injection e2 with e2 e5
     subst e2;subst e5
     simp only [List.headD_cons] at hz
     obtain ⟨j,hj,hjz⟩:=zgo hz
     rw [List.getElem_zip] at hjz
     rw [List.length_zip] at hj
     simp only [RepR] at f2 g2
     obtain ⟨v1,k1,_,k2⟩:=tO f2.2.1 (zgg (show j<r1.length by omega))
     obtain ⟨v2,k3,_,k4⟩:=tO g2.2.1 (zgg (show j<r2.length by omega))
     rw [k1] at k3
     injection k3 with k3
     subst k3
     rw [<-hjz] at hc
     exact akD n hc k2 k4
def aBm (n:Nat) (C R:List PV) (off:Nat):Bool:=(List.range R.length).all λj=>Nat.blt (off+j) C.length&& !mW n (R[j]!) (C[off+j]!)
def apQ (n:Nat) (C R:List PV):Bool:=R.isEmpty||(List.range C.length).all λoff=> !aBm n C R off
mutual
def apart (n:Nat) (C:List PV):PV->Bool
 | .und| .val _| .emp=>true
 | .agg cs=>pE n C cs
 | .tup cs=>pE n C cs
 | .seq rows=>apQ n C rows.flatten&&aiO n C rows
 |_=>false
def pE (n:Nat) (C:List PV):List PV->Bool
 |[]=>true
 |p::ps=>apart n C p&&pE n C ps
def aiO (n:Nat) (C:List PV):List (List PV)->Bool
 |[]=>true
 |r::rs=>pE n C r&&aiO n C rs
end
section
variable {g:G} {b n:Nat} {C:List PV}
theorem akI {g:G} {b:Nat}:∀{rows:List (List PV)} {off sz:Nat},rows.flatten=[]->RepR g b off sz rows->∀{g':G},RepR g' b off sz rows
 |[],_,_,_,_,_=>by simp [RepR]
 |r::rs,off,sz,h,hr,g'=>by
  rw [List.flatten_cons,List.append_eq_nil_iff] at h
  simp only [RepR] at hr⊢
  refine ⟨hr.1, ?_,akI h.2 hr.2.2⟩
  rw [h.1];simp [RepA]
theorem aIx (hC:RepA g b 0 C) (hf:g.fr b=C.length) {R:List PV} (h:apQ n C R=true) (hne:R≠[]) {off:Nat} (hr:RepA g b off R):False:=by
 unfold apQ at h
 rw [Bool.or_eq_true] at h
 rcases h with h|h
 ·exact hne (by simpa using h)
 have hR0:0<R.length:=List.length_pos_iff.2 hne
 have hat:∀j,j<R.length->off+j<C.length/\mW n R[j]! C[off+j]! =false:=λj hj=>by
  obtain ⟨v,k1,k2,k3⟩:=tO hr (zgg hj)
  rw [hf] at k2
  refine ⟨k2, ?_⟩
  obtain ⟨v',m1,_,m3⟩:=tO hC (zgg k2)
  rw [Nat.zero_add,k1] at m1
  injection m1 with m1
  subst m1
  rw [getElem!_pos R j hj,getElem!_pos C (off+j) k2,<-Bool.not_eq_true]
  exact λhc=>akD n hc k3 m3
 have h1:=zal.1 h off (List.mem_range.2 (by have:=(hat 0 hR0).1;omega))
 have h2:aBm n C R off=true:=by
  unfold aBm
  rw [zal]
  intro j hj
  obtain ⟨k1,k2⟩:=hat j (List.mem_range.1 hj)
  rw [k2,show Nat.blt (off+j) C.length=true from by rw [Nat.blt_eq];exact k1];rfl
 rw [h2] at h1;cases h1
def rX (g:G) (b:Nat):G:={g with fr:=upd g.fr b 0}
mutual
theorem Rep.thaw (hC:RepA g b 0 C) (hf:g.fr b=C.length):∀(p:PV) (v:Value),apart n C p=true->Rep g p v->Rep (rX g b) p v
 | .und,_,_,_=>by simp [Rep]
 | .val _,_,_,e=>by simpa only [Rep] using e
 | .emp,_,_,e=>by simpa only [Rep] using e
 | .agg cs,x,h,e=>by
  simp only [apart] at h
  simp only [Rep] at e⊢
  obtain ⟨vs,e1,e2⟩:=e
  exact ⟨vs,e1,RepL.thaw hC hf cs vs h e2⟩
 | .tup cs,x,h,e=>by
  simp only [apart] at h
  simp only [Rep] at e⊢
  obtain ⟨vs,e1,e2⟩:=e
  exact ⟨vs,e1,RepL.thaw hC hf cs vs h e2⟩
 | .seq rows,x,h,e=>by
  simp only [apart,zba] at h
  simp only [Rep] at e⊢
  obtain ⟨a,cap,e1,e2,e3,e4⟩:=e
  refine ⟨a,cap,e1,e2,e3, ?_⟩
  rcases e4 with e4|⟨b',off,sz,e4,e5⟩
  ·exact .inl e4
  ·refine .inr ⟨b',off,sz,e4, ?_⟩
   by_cases hn:rows.flatten=[]
   ·exact akI hn e5
   ·have hb:b'≠b:=λhb=>by
     subst hb
     exact aIx hC hf h.1 hn (abN e5)
    exact RepR.thaw hC hf b' off sz hb rows h.2 e5
 | .own ..,_,h,_=>by simp [apart] at h
 | .rp ..,_,h,_=>by simp [apart] at h
 | .fn ..,_,h,_=>by simp [apart] at h
 | .fmap ..,_,h,_=>by simp [apart] at h
 | .ref ..,_,h,_=>by simp [apart] at h
 | .vec ..,_,h,_=>by simp [apart] at h
 | .el ..,_,h,_=>by simp [apart] at h
 | .mref ..,_,h,_=>by simp [apart] at h
 | .yld ..,_,h,_=>by simp [apart] at h
theorem RepL.thaw (hC:RepA g b 0 C) (hf:g.fr b=C.length):∀(ps:List PV) (vs:List Value),pE n C ps=true->RepL g ps vs->RepL (rX g b) ps vs
 |[],_,_,e=>by simpa [RepL] using e
 |p::ps,vs,h,e=>by
  simp only [pE,zba] at h
  simp only [RepL] at e⊢
  obtain ⟨v,vs',e1,e2,e3⟩:=e
  exact ⟨v,vs',e1,Rep.thaw hC hf p v h.1 e2,RepL.thaw hC hf ps vs' h.2 e3⟩
theorem RepA.thaw (hC:RepA g b 0 C) (hf:g.fr b=C.length) (b' off:Nat) (hb:b'≠b):∀(ps:List PV),pE n C ps=true->RepA g b' off ps->RepA (rX g b) b' off ps
 |[],_,_=>by simp [RepA]
 |p::ps,h,e=>by
  simp only [pE,zba] at h
  simp only [RepA] at e⊢
  obtain ⟨⟨v,e1,e2,e3⟩,e4⟩:=e
  exact ⟨⟨v,e1,by show off<upd g.fr b 0 b';rw [aB hb];exact e2,Rep.thaw hC hf p v h.1 e3⟩,RepA.thaw hC hf b' (off+1) hb ps h.2 e4⟩
theorem RepR.thaw (hC:RepA g b 0 C) (hf:g.fr b=C.length) (b' off sz:Nat) (hb:b'≠b):∀(rs:List (List PV)),aiO n C rs=true->RepR g b' off sz rs->RepR (rX g b) b' off sz rs
 |[],_,_=>by simp [RepR]
 |r::rs,h,e=>by
  simp only [aiO,zba] at h
  simp only [RepR] at e⊢
  exact ⟨e.1,RepA.thaw hC hf b' off hb r h.1 e.2.1,RepR.thaw hC hf b' (off+sz) sz hb rs h.2 e.2.2⟩
end
end
theorem PC.borrow {P:Program} {f:FuncId} {id sz:Nat} {T:TypeId} {rows:List (List PV)} {st:aD} {ps qs qs':List PV} {r:PV} (n:Nat) (hst:st id=some (.arr T rows)) (hT:P.cellsOf T=sz) (h0:0<rows.length) (hz:FzL id sz rows ps qs) (hw:WkL qs qs') (h:PF P f qs' r) (ha:apart n rows.flatten r=true):PC P f ps st λr' S=>r'=r/\S=st:=by
 have h:=h λ_=>none
 refine ⟨h.1,λw g vs hm hr=> ?_⟩
 have hob:=hm.obj id _ hst
 simp only [ObjOK] at hob
 obtain ⟨b,cap,h1,⟨_,h2⟩|⟨h2,us,sp,h3,h4,h5,h6,h7,h8⟩⟩:=hob
 ·rw [h2] at h0;simp at h0
 have hbl:Go.Abs.blk g id=some b:=by simp [Go.Abs.blk,h1,h2]
 have hblt:b<w.heap.size:=by have:=bB h4;rwa [hm.heap] at this
 have hlen:=h7.length
 obtain ⟨l1,l2,l3⟩:=akY hm hst hT h1 h2 h3 h4 h6 h7 h8
 generalize hgf:({g with fr:=upd g.fr b us.length}:G)=gf at l1 l2 l3
 have hfb:gf.fr b=us.length:=by subst hgf;exact aA _ _ _
 have hfo:∀b',b'≠b->gf.fr b'=g.fr b':=λb' hb=>by subst hgf;exact aB hb
 have hhp:gf.heap=g.heap:=by subst hgf;rfl
 have hfm:∀b',gf.fm b'↔g.fm b':=λb'=>by subst hgf;exact Iff.rfl
 have hC:RepA gf b 0 rows.flatten:=abN (RepR.mk (vs:=us) h6 (RepL.mono l2 _ _ h7) λj v hj=>by
  have hjv:=(zge.1 hj).1
  rw [Nat.zero_add,hfb,hhp]
  refine ⟨?_,hjv⟩
  simp only [aT,h4,List.getElem?_toArray]
  rw [List.getElem?_append_left hjv];exact hj)
 have hE:∀x y,¬Blocks (λ_=>none) x y:=λx y ⟨j,hj,_⟩=>hj rfl
 refine (h.2 w gf vs (l1.sub λ_=> .inl rfl) (hw.rep (FzL.rep l3 hz vs (RepL.mono l2 _ _ hr)))).mono ?_
 rintro e w' ⟨v2,r',st',g',he,⟨rfl,rfl⟩,hrep,hmem,hle,hfr,hb⟩
 have hold:∀b',b'<w.heap.size->w'.heap[b']?=w.heap[b']?/\g'.fr b'=gf.fr b'/\(g'.fm b'↔gf.fm b'):=λb' hb'=>hfr.old b' hb' (hE _ _)
 have hfb':g'.fr b=rows.flatten.length:=by rw [(hold b hblt).2.1,hfb,hlen]
 have hLe:Le g (rX g' b):=by
  have h':=l2.trans hle
  refine ⟨h'.io,λb'=> ?_,h'.cell,h'.fm⟩
  show g.fr b'<=upd g'.fr b 0 b'
  by_cases e:b'=b
  ·rw [e,h8];exact Nat.zero_le _
  ·rw [aB e];exact h'.fr b'
 have hio:∀j,st j≠none->Go.Abs.blk (rX g' b) j=Go.Abs.blk g j:=λj hj=>by
  cases hs:st j with
  |none=>exact absurd hs hj
  |some o=>
   obtain ⟨x,hx⟩:=vI (hm.obj j o hs)
   unfold Go.Abs.blk
   rw [hx,hLe.io j x hx]
 have hkeep:∀b',b'<w.heap.size->(rX g' b).heap[b']?=g.heap[b']?/\(rX g' b).fr b'=g.fr b'/\((rX g' b).fm b'↔g.fm b'):=λb' hb'=>by
  obtain ⟨k1,k2,k3⟩:=hold b' hb'
  refine ⟨?_, ?_,k3.trans (hfm b')⟩
  ·show g'.heap[b']?=_
   rw [hmem.heap,k1,hm.heap]
  ·show upd g'.fr b 0 b'=_
   by_cases e:b'=b
   ·rw [e,aA,h8]
   ·rw [aB e,k2,hfo b' e]
 refine ⟨v2,r',st,rX g' b,he,⟨rfl,rfl⟩,Rep.thaw (RepA.mono hle b 0 _ hC) hfb' r' v2 ha hrep,⟨hmem.heap,λj o hj=> ?_,λj j' b' e e' k k'=>hm.inj j j' b' e e' (by rw [<-hio j e];exact k) (by rw [<-hio j' e'];exact k'),λb' hb'=> ?_,hmem.fmm,hmem.fin⟩,hLe,⟨hfr.os,hfr.tape,hfr.output,hfr.size,λb' hb' _=> ?_⟩,λb' ⟨j,j1,j2⟩=> .inl ⟨j,j1,by rw [<-hio j j1];exact j2⟩⟩
 ·refine (hm.obj j o hj).keep hLe λb' hb'=>hkeep b' (aAY hm (by rw [hj];simp) hb')
 ·have hb2:upd g'.fr b 0 b'≠0:=hb'
  by_cases e:b'=b
  ·rw [e,aA] at hb2;exact absurd rfl hb2
  ·rw [aB e] at hb2;exact hmem.lt b' hb2
 ·obtain ⟨k1,k2,k3⟩:=hkeep b' hb'
  exact ⟨(hold b' hb').1,k2,k3⟩
theorem PC.freezeZ {P:Program} {f:FuncId} {id sz:Nat} {T:TypeId} {rows:List (List PV)} {st:aD} {ps qs:List PV} {R:PV->aD->Prop} (hst:st id=some (.arr T rows)) (hT:P.cellsOf T=sz) (hz:FzL id sz rows ps qs) (h:PC P f qs (upd st id none) R):PC P f ps st R:=by
 refine ⟨h.1,λw g vs hm hr=> ?_⟩
 obtain ⟨g1,m1,m2,m3,m4,m5,m6⟩:=kI hm hst hT
 have hsub:∀b,Blocks (upd st id none) g1 b->Blocks st g b:=λb ⟨j,j1,j2⟩=>⟨j,(dG j1).2,by rw [<-m6];exact j2⟩
 refine (h.2 w g1 vs m1 (FzL.rep m3 hz vs (RepL.mono m2 _ _ hr))).mono ?_
 rintro e w' ⟨v2,r,st',g',he,hR,hrep,hmem,hle,hfr,hb⟩
 refine ⟨v2,r,st',g',he,hR,hrep,hmem,m2.trans hle,⟨hfr.os,hfr.tape,hfr.output,hfr.size,λb hb' hn'=> ?_⟩,λb hb'=>(hb b hb').imp (hsub b) λh=>h⟩
 obtain ⟨f1,f2,f3⟩:=hfr.old b hb' λq=>hn' (hsub b q)
 obtain ⟨k1,k2⟩:=m5 b hn'
 exact ⟨f1,f2.trans k1,f3.trans k2⟩
theorem PC.wkArgs {P:Program} {f:FuncId} {st:aD} {ps qs:List PV} {R:PV->aD->Prop} (hw:WkL ps qs) (h:PC P f qs st R):PC P f ps st R:=⟨h.1,λw g vs hm hr=>h.2 w g vs hm (hw.rep hr)⟩
end
section
section
variable {P:Program} {tt:TT} {l:List Oper} {d:Md} {r:List Oper} {s:St} {K:St->Prop} {t:Nat} {ty:TypeId} {pos:String} {after:Array Edge}
def ajQ (f:FuncId) (xs:List Value):Value:= .func (.func f) #[.agg xs.toArray] #[]
theorem mkB {x:Operand} {f:FuncId} {xs:List Value} (hx:opd s x=some (.agg (xs.map .val))) (hf:gU s x=true) (hd:Nat.blt t s.n=true) (ht:cO d l r=true) (k:Ev P l d r (s.pv t (.val (ajQ f xs))) K):Ev P l d (⟨some t, .makeFunc (.func f) #[x] #[],ty,pos,after,none⟩::r) s K:=
 eP (.val false true _ rfl hd (λ_ y hy=>by
  have:y=x:=by simpa [Op.operands] using hy
  subst this;exact fB.2 hf) (λ_ st'=>aI λw g ρ hm hρ=>by
  obtain ⟨vs,e,hr⟩:=(show Rep g (.agg (xs.map .val)) (ρ x) from hρ x (by simp [Op.operands]) _ (by rw [cC];exact hx))
  obtain rfl:=xA hr
  exact ⟨ajQ f vs,by simp [execOp,Instr.makeFunc,ajQ,e],rfl⟩)) ht k
theorem azX {w:World} {ρ:Operand->Value} {o:Oper} {f:Operand} {args:Array Operand} {ts:Array TypeId} {fid:FuncId} {xs:List Value} (ho:o.op= .call ⟨.value f,args,ts⟩) (hf:ρ f=ajQ fid xs) (hc:gI P fid=true):
    (execOp ρ o).run P w= .ok (.enter fid (#[.agg xs.toArray]++args.map ρ)) w:=by
  unfold gI at hc
  split at hc
  · rename_i fn hfn
    rw [zba] at hc
    have h1 : (fn.name == "runtime.NumGoroutine") = false := by simpa using hc.1
    have h2:fn.body.isNone=false:=by cases hb:fn.body<;>simp_all
    simp only [execOp,ho,resolve,hf,ajQ,Deferred.ofValue,Sem.run_bind,Sem.run_pure,Result.andThen_ok,invoke,callFunc,run_program,hfn,h1,h2,Bool.false_eq_true,if_false]
    simp
  · cases hc
theorem adW {g:G}:∀(xs:List Value),RepL g (xs.map PV.val) xs
 |[]=>rfl
 |x::xs=>⟨x,xs,rfl,rfl,adW xs⟩
theorem azJ {o:Oper} {f:Operand} {args:Array Operand} {ts:Array TypeId} {fid:FuncId} {xs:List Value} {ps:List PV} {p:PV} (ho:o.op= .call ⟨.value f,args,ts⟩) (hf:opd s f=some (.val (ajQ fid xs))) (hps:mB s args.toList=some ps) (h:PF P fid (.agg (xs.map .val)::ps) p):OpV P o s p:=by
 intro w g ρ hm hρ
 have rf:=hρ f (by rw [ho];simp [Op.operands,Call.operands]) _ hf
 have ra:=jD hps (g:=g) (ρ:=ρ) (λx hx=>hρ x (by rw [ho];simp [Op.operands,Call.operands];exact .inr (by simpa using hx)))
 have e:=aG rf
 obtain ⟨hc,hcall⟩:=h s.st
 rw [azX ho e hc]
 simp only [OpRes]
 have:=hcall w g (.agg xs.toArray::args.toList.map ρ) hm ⟨_,_,rfl,⟨xs,rfl,adW xs⟩,ra⟩
 rw [show (#[Value.agg xs.toArray]++args.map ρ)=(Value.agg xs.toArray::args.toList.map ρ).toArray from by apply Array.toList_inj.1;simp]
 refine this.mono ?_
 rintro e' w' ⟨v,r,st',g',rfl,⟨rfl,rfl⟩,h3,h4,h5,h6,h7⟩
 exact ⟨v,rfl,g',h3,h4,h5,h6⟩
theorem auE {f:Operand} {args:Array Operand} {ts:Array TypeId} {fid:FuncId} {xs:List Value} {ps:List PV} {p:PV} (hf:opd s f=some (.val (ajQ fid xs))) (hps:mB s args.toList=some ps) (h:PF P fid (.agg (xs.map .val)::ps) p) (hfl:bM s (f::args.toList)=true) (hd:Nat.blt t s.n=true)
  (ht:cO d l r=true) (k:Ev P l d r (s.pv t p) K):Ev P l d (⟨some t, .call ⟨.value f,args,ts⟩,ty,pos,after,none⟩::r) s K:=
 vO (λ_=>azJ rfl hf ((sZ _).trans hps) h) (λx hx=>aO (λ_ _ _ e=>by cases e) hx) hfl hd ht k
theorem aFv {o:Oper} {R:aD×PV->Prop} (hg:bG l o s=some true) (hd:fU o s=true) (hf:∀x∈o.op.operands,dS s x) (h:OpZ P o s R):ZOp P l o s R:=by
 intro s' he hst hn c a w g lam hs K' Q hK
 have hop:∀x∈o.op.operands,opd s' x=opd s x/\(dS s' x↔dS s x):=λx hx=>atJ λt ht=>he t (mU (ht▸hx))
 unfold tQ
 rw [iB hs ((kT he).trans hg)]
 simp only [if_true]
 have h1:=h w g a.eval (hst▸hs.mem) (λx hx p hp=>kS hs ((hop x hx).2.2 (hf x hx)) p (by rw [(hop x hx).1];exact hp))
 refine cY h1 ?_
 rintro v w' ⟨g',x,hR,h3,h4,h5,h6,h7⟩
 refine hK (s'.turn o x) _ w' g' lam ⟨x,hR,rfl⟩ ?_
 exact (hs.step h4 h5 (hst▸h6) (hst▸h7)).put (d:=o.dst) (b:=true) (e:= .pv x.2) (λt ht=>by
  have:=oL hd t ht
  show t<s'.n
  rw [hn];exact this) h3 (λ_ _ e=>by cases e)
theorem aG5 {f:Operand} {args:Array Operand} {ts:Array TypeId} {idl:Nat} {ps:List PV} {dst:Option Nat} {gd:Option (Nat×Bool)} {R:PV->aD->Prop} (hw:bG l ⟨dst, .call ⟨.value f,args,ts⟩,ty,pos,after,gd⟩ s=some true) (hf:opd s f=some (.yld idl)) (hps:mB s args.toList=some ps) (h:PY P idl (ps.map soft) s.st R) (hfl:bM s (f::args.toList)=true) (hd:fU ⟨dst, .call ⟨.value f,args,ts⟩,ty,pos,after,gd⟩ s=true) (ht:iJ d l r=true)
  (k:∀p st',R p st'->Ev P l d r ((s.sst st').put dst true (.pv p)) K):Ev P l d (⟨dst, .call ⟨.value f,args,ts⟩,ty,pos,after,gd⟩::r) s K:=
 aIh (R:=λx=>R x.2 x.1) (aFv hw hd (λx hx=>iK hfl x (aO (λ_ _ _ e=>by cases e) hx)) (λw g ρ hm hρ=>azS (ty:=ty) (pos:=pos) (after:=after) (dst:=dst) (ps.map soft) hf hps (WkL.soft ps) h w g ρ hm hρ)) ht λz hz=>k _ _ hz
theorem aIl {op:Op} {gd:Option (Nat×Bool)} (p:PV) (hw:bG l ⟨some t,op,ty,pos,after,gd⟩ s=some false) (hd:fU ⟨some t,op,ty,pos,after,gd⟩ s=true) (ht:cO d l r=true) (k:Ev P l d r (s.put (some t) false (.pv p)) K):Ev P l d (⟨some t,op,ty,pos,after,gd⟩::r) s K:=
 eP (.val false false p hw hd (λe=>by cases e) (λe=>by cases e)) ht k
end
end
end Go.Abs
