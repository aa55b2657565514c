import Derived.Test.YtppdefkgmegipaaGreatDoorAbsF
import Derived.Test.YtppdefkgmegipaaGreatDoorAbsG
import Derived.Shelf.Sort.Plain
import Derived.Shelf.SlSortCmp.NoneTotal
import Derived.Shelf.Slices.In.SortNone
set_option linter.unusedSimpArgs false
set_option linter.unusedVariables false
namespace Go.Abs
open Go Go.Sort Go.Shelf Go.Proofs
section
variable {P:Program}
theorem aqR {st:aD} {w:World} {g:G} (hm:MemOK P st w g) (os:Array Obj):MemOK P st (grow w os) {g with heap:=(grow w os).heap}/\Le g {g with heap:=(grow w os).heap}/\Frame (λ_=>False) w g (grow w os) {g with heap:=(grow w os).heap}:=by
 have old:∀b,b<w.heap.size->(grow w os).heap[b]?=w.heap[b]?:=λb hb=>by
  show (w.heap++os)[b]?=_
  rw [Array.getElem?_append_left hb]
 have hsz:w.heap.size<=(grow w os).heap.size:=by show _<=(w.heap++os).size;simp
 have hle:Le g {g with heap:=(grow w os).heap}:=by
  refine ⟨λ_ _ h=>h,λ_=>Nat.le_refl _,λb i hi=> ?_,λb hb=>⟨hb, ?_⟩⟩
  ·show aS (grow w os).heap b i=aS g.heap b i
   have hb:=hm.lt b (by omega)
   rw [hm.heap]
   simp only [aS,old b hb]
  ·show (grow w os).heap[b]?=g.heap[b]?
   obtain ⟨ents,clock,e,_⟩:=hm.fmm b hb
   rw [hm.heap,old b (aZ e)]
 refine ⟨⟨rfl,λid o' e=> ?_,hm.inj,λb h=>Nat.lt_of_lt_of_le (hm.lt b h) hsz,λb h=> ?_,hm.fin⟩,hle,⟨rfl,⟨rfl,Nat.le_refl _⟩,rfl,hsz,λb hb _=>⟨old b hb,rfl,Iff.rfl⟩⟩⟩
 ·refine (hm.obj id o' e).keep hle λb hb=>⟨?_,rfl,Iff.rfl⟩
  obtain ⟨x,hx,_⟩:=oW (hm.obj id o' e) hb
  have hlt:=aZ hx
  rw [hm.heap] at hlt
  show (grow w os).heap[b]?=g.heap[b]?
  rw [hm.heap];exact old b hlt
 ·obtain ⟨ents,clock,e,hs⟩:=hm.fmm b h
  exact ⟨ents,clock,by rw [old b (aZ e)];exact e,hs⟩
theorem agO {α:Type} [Inhabited α] (enc:α->Value) (D:Array α) (vs sp:List Value) (h:D.size=vs.length):putCells enc 0 D (vs++sp).toArray=(D.toList.map enc++sp).toArray:=by
 apply Array.ext_getElem?
 intro i
 unfold putCells
 simp only [Array.getElem?_mapIdx,List.getElem?_toArray,Nat.zero_le,true_and,Nat.zero_add,Nat.sub_zero]
 by_cases hi:i<D.size
 ·rw [List.getElem?_append_left (by omega),List.getElem?_append_left (by simp;omega),List.getElem?_map]
  simp [hi,h▸hi]
 ·rw [List.getElem?_append_right (by omega),List.getElem?_append_right (by simp;omega)]
  simp only [zql,Array.length_toList,h]
  cases sp[i-vs.length]? with
  |none=>rfl
  |some x=>simp [h,show ¬i<vs.length from by omega]
theorem yH {w:World} {b:Nat} {cur:Array Value} {T:TypeId} {fr:Nat×Nat} (f:Array Value->Array Value) (hb:w.heap[b]?=some (.cells cur T fr)):mapBlock w b f={w with heap:=w.heap.setIfInBounds b (.cells (f cur) T fr)}:=by
 unfold mapBlock
 congr 1
 apply Array.ext_getElem?
 intro i
 rw [Array.getElem?_modify,Array.getElem?_setIfInBounds]
 by_cases hi:b=i
 ·subst hi
  obtain ⟨hl,e⟩:=Array.getElem?_eq_some_iff.1 hb
  rw [zp rfl,zp rfl,zp hl,hb]
  rfl
 ·simp [hi]
theorem acA {st:aD} {w:World} {g:G} (hm:MemOK P st w g) {id b cap n:Nat} {T:TypeId} {rows rows':List (List PV)} {vs sp:List Value} {α:Type} [Inhabited α] (enc:α->Value) (D:Array α) (q:Nat) (os:Array Obj) (hst:st id=some (.arr T rows)) (hio:g.io id=some (b,n,cap)) (hc:cap≠0) (hn:n=rows.length) (hn':rows'.length=rows.length) (hcap:rows.length<=cap)
  (hb:w.heap[b]?=some (.cells (vs++sp).toArray T (0,0))) (hlen:(vs++sp).length=cap*P.cellsOf T) (hl:∀r∈rows',r.length=P.cellsOf T) (hD:D.size=vs.length) (hr:RepL g rows'.flatten (D.toList.map enc)) (hfr:g.fr b=0):
  ∃g',MemOK P (upd st id (some (.arr T rows'))) (grow (putRow enc (Sort.ahead w q) b 0 D) os) g'/\Le g g'/\Frame (Blocks st g) w g (grow (putRow enc (Sort.ahead w q) b 0 D) os) g'/\∀b',Blocks (upd st id (some (.arr T rows'))) g' b'->Blocks st g b'\/w.heap.size<=b':=by
 obtain ⟨d1,d2⟩:=mQ hm (w.drawn+q) (Nat.le_add_right _ _)
 have hb1:(Sort.ahead w q).heap[b]?=some (.cells (vs++sp).toArray T (0,0)):=hb
 have hlt:=aZ hb
 have e1:putRow enc (Sort.ahead w q) b 0 D={Sort.ahead w q with heap:=(Sort.ahead w q).heap.setIfInBounds b (.cells (D.toList.map enc++sp).toArray T (0,0))}:=by
  unfold putRow
  rw [yH _ hb1,agO enc D vs sp hD]
 obtain ⟨q1,q2,q3,q4⟩:=gM (o':= .arr T rows') (y:= .cells (D.toList.map enc++sp).toArray T (0,0)) d1 (by rw [hst];simp) (by simp [Go.Abs.blk,hio,hc]) hb1 e1 (λi hi=>by omega) (λh=>by obtain ⟨a1,a2,a3,_⟩:=hm.fmm b h;rw [hb] at a3;cases a3) λhle=>by
  simp only [ObjOK]
  refine ⟨b,cap,by show g.io id=_;rw [hio,hn,hn'], .inr ⟨hc,D.toList.map enc,sp,by omega, ?_,by rw [<-hlen];simp [hD],hl,RepL.mono hle _ _ hr,hfr⟩⟩
  show (putRow enc (Sort.ahead w q) b 0 D).heap[b]?=_
  rw [e1]
  show (w.heap.setIfInBounds b _)[b]?=_
  simp [hlt]
 obtain ⟨p1,p2,p3⟩:=aqR q1 os
 have hsz:(putRow enc (Sort.ahead w q) b 0 D).heap.size=w.heap.size:=by
  rw [e1];show (w.heap.setIfInBounds b _).size=_;simp
 refine ⟨_,p1,q2.trans p2,((d2.mono λ_ h=>h.elim).trans q3 λ_ _ h=>h).trans p3 λ_ _ h=>h.elim,λb' hb'=> ?_⟩
 rcases q4 b' ((iB q1 p2 b').1 hb') with h|h
 ·exact .inl h
 ·exact .inr h
theorem nF {w:World} {b:Nat} {cur:Array Value} {T:TypeId} (hb:w.heap[b]?=some (.cells cur T (0,0))) (i:Nat):w.frozen? ⟨b,i,none⟩=false:=by
 simp [World.frozen?,hb]
theorem adF {g:G}:∀{zs:List Int} {vs:List Value},RepL g (zs.map λz=>PV.val (.int .i64 z)) vs->vs=zs.map (Value.int .i64)
 |[],vs,h=>by simpa [RepL] using h
 |z::zs,vs,h=>by
  simp only [zmp,RepL] at h
  obtain ⟨v,vs',rfl,h1,h2⟩:=h
  rw [adF h2,aK h1];rfl
theorem sI :∀(zs:List Int),(zs.map λz=>[PV.val (.int .i64 z)]).flatten=zs.map λz=>PV.val (.int .i64 z)
 |[]=>rfl
 |z::zs=>by simp only [zmp,List.flatten_cons,sI zs];rfl
theorem atO {ρ:Ren} (Ly:Lays.n189 P ρ) (hc:eD P (ρ.f 189)=true) {st:aD} {id n:Nat} {zs:List Int} {e:TypeId} (hce:P.cellsOf e=1) (hst:st id=some (.arr e (zs.map λz=>[.val (.int .i64 z)]))) (hn:zs.length=n) (h62:n<4611686018427387904):
  PC P (ρ.f 189) [.vec id 1 0 n] st λ_ S=>S=upd st id (some (.arr e ((zs.mergeSort λx y=>decide (x<=y)).map λz=>[.val (.int .i64 z)]))):=by
 refine ⟨hc,λw g vs hm hr=> ?_⟩
 simp only [RepL] at hr
 obtain ⟨v,vs',rfl,hv,rfl⟩:=hr
 simp only [Rep] at hv
 obtain ⟨b,n',cap,hio,h1,h2,h3,hv⟩:=hv
 have hob:=hm.obj id _ hst
 simp only [ObjOK] at hob
 obtain ⟨b',cap',k1,hob⟩:=hob
 rw [hio] at k1;injection k1 with k1;injection k1 with k1 k2;injection k2 with k2 k3;subst k1;subst k3
 rcases hob with ⟨k4,k5⟩|⟨k4,us,sp,k5,k6,k7,k8,k9,k10⟩
 ·rcases hv with ⟨_,a,rfl⟩|⟨h,_⟩
  ·have hz:zs=[]:=by simpa using k5
   subst hz
   simp only [List.length_nil] at hn
   subst hn
   refine (Any.slices_Sort_int_none Ly a 0 w).mono ?_
   rintro e' w' ⟨rfl,rfl⟩
   refine ⟨_, .und,st,g,rfl, ?_,trivial,hm,Le.refl g,Frame.refl _ _ _,λb hb=> .inl hb⟩
   simp only [List.mergeSort_nil]
   exact (aL hst).symm
  ·exact absurd k4 h
 ·rcases hv with ⟨h,_⟩|⟨_,hv⟩
  ·exact absurd h k4
  rw [hm.heap] at k6
  rw [sI] at k9
  have hus:=adF k9
  have hul:us.length=zs.length:=by rw [hus];simp
  have hlt:=aZ k6
  rw [Nat.zero_mul,Nat.sub_zero] at hv
  subst hv
  have hH:Holds (Value.int .i64) w b 0 zs.toArray:=λj hj=>by
   refine ⟨?_,nF k6 _⟩
   have hj':j<zs.length:=by simpa using hj
   rw [Nat.zero_add,cD k6,List.getElem?_toArray,List.getElem?_append_left (by omega),hus]
   simp [hj']
  have hlm:(zs.mergeSort λx y=>decide (x<=y)).length=zs.length:=List.length_mergeSort _
  have:=Any.slices_Sort_int Ly b 0 cap zs w hH hlt (by omega)
  rw [hn] at this
  refine this.mono ?_
  rintro e' w' ⟨rfl,q,os,rfl⟩
  obtain ⟨g',m1,m2,m3,m4⟩:=acA (rows':=(zs.mergeSort λx y=>decide (x<=y)).map λz=>[.val (.int .i64 z)]) hm (Value.int .i64) (zs.mergeSort λx y=>decide (x<=y)).toArray q os hst hio k4 k2 (by simp [hlm]) (by simpa using k5) k6 k7 (λr hr=>by obtain ⟨z,_,rfl⟩:=List.mem_map.1 hr;rw [hce];rfl) (by simp [hlm,hul]) (by
   rw [sI]
   have:∀(l:List Int),RepL g (l.map λz=>PV.val (.int .i64 z)) (l.map (Value.int .i64)):=λl=>by
    induction l with
    |nil=>simp [RepL]
    |cons z l ih=>simp only [zmp,RepL];exact ⟨_,_,rfl,by simp [Rep],ih⟩
   exact this _) k10
  exact ⟨_, .und,_,g',rfl,rfl,trivial,m1,m2,m3,m4⟩
theorem qS {α:Type} [Inhabited α] {enc:α->List Value} {k:Nat} (hk:∀x,(enc x).length=k):∀(d:List α) (t:Nat),t<d.length*k->(d.flatMap enc)[t]?=some (enc d[t/k]!)[t%k]!
 |[],t,h=>by simp at h
 |x::d,t,h=>by
  have k0:0<k:=by rcases Nat.eq_zero_or_pos k with e|e;(subst e;simp at h);exact e
  rw [List.flatMap_cons]
  by_cases ht:t<k
  ·rw [List.getElem?_append_left (by rw [hk];exact ht),Nat.div_eq_of_lt ht,Nat.mod_eq_of_lt ht]
   have:t<(enc x).length:=by rw [hk];exact ht
   simp [this]
  ·rw [List.getElem?_append_right (by rw [hk];omega),hk,qS hk d (t-k) (by simp only [zlc,Nat.add_mul,Nat.one_mul] at h;omega)]
   have e1:t/k=(t-k)/k+1:=by
    conv=>lhs;rw [show t=t-k+k from by omega]
    rw [Nat.add_div_right _ k0]
   have e2:t%k=(t-k)%k:=by
    conv=>lhs;rw [show t=t-k+k from by omega]
    rw [Nat.add_mod_right]
   rw [e1,e2]
   rfl
theorem acR {α:Type} [Inhabited α] {enc:α->List Value} {k:Nat} (hk:∀x,(enc x).length=k) (d:List α):(flatK enc k d.toArray).toList=d.flatMap enc:=by
 apply List.ext_getElem?
 intro t
 by_cases ht:t<d.length*k
 ·rw [qS hk d t ht]
  have h1:t<(flatK enc k d.toArray).size:=by simpa using ht
  have h2:=get_flatK enc k d.toArray t (by simpa using ht)
  rw [getElem!_pos _ t h1] at h2
  rw [Array.getElem?_toList,Array.getElem?_eq_getElem h1,h2]
  simp
 ·have hl:(d.flatMap enc).length=d.length*k:=by
   clear ht
   induction d with
   |nil=>simp
   |cons x d ih=>rw [List.flatMap_cons,zla,hk,ih,zlc,Nat.add_mul];omega
  rw [List.getElem?_eq_none (by simp;omega),List.getElem?_eq_none (by omega)]
theorem aaC {g:G}:∀{xs:List Value} {vs:List Value},RepL g (xs.map PV.val) vs->vs=xs
 |[],vs,h=>by simpa [RepL] using h
 |z::zs,vs,h=>by
  simp only [zmp,RepL] at h
  obtain ⟨v,vs',rfl,h1,h2⟩:=h
  rw [aaC h2,aK h1]
theorem rZ {α:Type} (enc:α->List Value):∀(d:List α),(d.map λx=>(enc x).map PV.val).flatten=(d.flatMap enc).map PV.val
 |[]=>rfl
 |x::d=>by simp only [zmp,List.flatten_cons,rZ enc d,List.flatMap_cons,List.map_append]
theorem aiT {α:Type} [Inhabited α] {enc:α->List Value} {k:Nat} {gf:FuncId} {cmp:α->α->Int} (h:∀x y,PF P gf [.agg ((enc x).map .val), .agg ((enc y).map .val)] (.val (.int .i64 (cmp x y)))) (b off size:Nat) (w:World):CmpLays P gf #[] enc k cmp b off size w:=by
 intro m os dk _ x y
 generalize sortWorldK enc k w b off m dk os=W
 have:=(h x y st0).2 W (G0 W) [.agg (enc x).toArray, .agg (enc y).toArray] (aCL P W) (by simp only [RepL,Rep];exact ⟨_,_,rfl,⟨_,rfl,RepL.vals _⟩,_,_,rfl,⟨_,rfl,RepL.vals _⟩,rfl⟩)
 refine this.mono ?_
 rintro e w' ⟨v,r,st',g',rfl,⟨rfl,rfl⟩,h3,h4,h5,h6,h7⟩
 refine ⟨by rw [aK h3],w'.drawn-W.drawn,w'.heap.extract W.heap.size w'.heap.size, ?_⟩
 have hh:w'.heap=W.heap++w'.heap.extract W.heap.size w'.heap.size:=by
  apply Array.ext_getElem?
  intro i
  by_cases hi:i<W.heap.size
  ·rw [Array.getElem?_append_left hi,(h6.old i hi (λ⟨id,h1,_⟩=>h1 rfl)).1]
  ·rw [Array.getElem?_append_right (by omega),Array.getElem?_extract]
   have:=h6.size
   by_cases hj:i<w'.heap.size
   ·rw [zp (by omega),show W.heap.size+(i-W.heap.size)=i from by omega]
   ·rw [zn (by omega),Array.getElem?_eq_none (by omega)]
 show w'={(W.drewN (w'.drawn-W.drawn)) with heap:=W.heap++w'.heap.extract W.heap.size w'.heap.size}
 rw [<-hh]
 have hd:W.drawn+(w'.drawn-W.drawn)=w'.drawn:=by have:=h6.tape.2;omega
 have e1:=h6.os;have e2:=h6.tape.1;have e3:=h6.output
 cases w'
 simp only [World.drewN] at*
 subst e1;subst e2;subst e3
 rw [hd]
theorem afS {α:Type} [Inhabited α] {ρ:Ren} (Ly:SlLaysF0.n6 P ρ) (hc:eD P (ρ.f 6)=true) {k:Nat} (aE:∀w,(isAgg (ρ.t 24)).run P w= .ok true w) (zE:∀w,(Go.sizeOf (ρ.t 24)).run P w= .ok k w) {enc:α->List Value} (hk:∀x,(enc x).length=k) (h1:∀x,∀v∈enc x,v.oneCell'=true) {cmp:α->α->Int} (hO:SWO (ltOf cmp)) {gf:FuncId} (hg:eD P gf=true)
    (hcm:∀x y,PF P gf [.agg ((enc x).map .val), .agg ((enc y).map .val)] (.val (.int .i64 (cmp x y)))) {st:aD} {id n:Nat} {d:List α} {e:TypeId} (he:P.cellsOf e=k) (hst:st id=some (.arr e (d.map λx=>(enc x).map .val))) (hn:d.length=n) (h62:n<4611686018427387904):
    PC P (ρ.f 6) [.vec id k 0 n, .fn gf []] st λ_ S=>∃r:List α,S=upd st id (some (.arr e (r.map λx=>(enc x).map .val)))/\r.Perm d/\r.Pairwise λx y=>¬cmp y x<0:=by
  have eg:∀args w,(callFunc gf args).run P w= .ok (.enter gf args) w:=λargs w=>by
    unfold eD at hg
    split at hg
    · rename_i fnn hfn
      rw [zba] at hg
      have h1 : (fnn.name == "runtime.NumGoroutine") = false := by simpa using hg.1
      have h2:fnn.body.isNone=false:=by cases hb:fnn.body<;>simp_all
      simp only [callFunc,Sem.run_bind,run_program,hfn,Result.andThen_ok,h1,h2,Bool.false_eq_true,if_false,Sem.run_pure]
    · cases hg
  refine ⟨hc,λw g vs hm hr=> ?_⟩
  simp only [RepL] at hr
  obtain ⟨v,vs',rfl,hv,v2,vs2,rfl,hv2,rfl⟩:=hr
  simp only [Rep] at hv hv2
  obtain ⟨fvs,rfl,hfv⟩:=hv2
  simp only [RepL] at hfv
  subst hfv
  obtain ⟨b,n',cap,hio,a1,a2,a3,hv⟩:=hv
  have hob:=hm.obj id _ hst
  simp only [ObjOK] at hob
  obtain ⟨b',cap',k1,hob⟩:=hob
  rw [hio] at k1;injection k1 with k1;injection k1 with k1 k2;injection k2 with k2 k3;subst k1;subst k3
  rcases hob with ⟨k4,k5⟩|⟨k4,us,sp,k5,k6,k7,k8,k9,k10⟩
  · rcases hv with ⟨_,a,rfl⟩|⟨h,_⟩
    · have hz:d=[]:=by simpa using k5
      subst hz
      simp only [List.length_nil] at hn
      subst hn
      refine (AnyF.slices_SortFunc_none Ly a 0 (.func (.func gf) #[] #[]) w).mono ?_
      rintro e' w' ⟨rfl,rfl⟩
      exact ⟨_, .und,st,g,rfl,⟨[],(aL hst).symm, .refl _,List.Pairwise.nil⟩,trivial,hm,Le.refl g,Frame.refl _ _ _,λb hb=> .inl hb⟩
    · exact absurd k4 h
  · rcases hv with ⟨h,_⟩|⟨_,hv⟩
    · exact absurd h k4
    rw [hm.heap] at k6
    rw [rZ] at k9
    have hus:=aaC k9
    have hul:us.length=d.length*k:=by
      rw [hus]
      clear k9 k8 k2 k5 hst hn hus
      induction d with
      |nil=>simp
      |cons x d ih=>rw [List.flatMap_cons,zla,hk,ih,zlc,Nat.add_mul];omega
    have hlt:=aZ k6
    rw [Nat.zero_mul,Nat.sub_zero] at hv
    subst hv
    have hH:HoldsK enc k w b 0 d.toArray:=λj hj=>by
      refine ⟨?_,nF k6 _⟩
      have hj':j<d.length*k:=by simpa using hj
      have e2:=qS hk d j hj'
      have e3:=get_flatK enc k d.toArray j (by simpa using hj')
      rw [Nat.zero_add,cD k6,List.getElem?_toArray,List.getElem?_append_left (by omega),hus,e2,e3]
      simp
    have:=AnyQ.slices_SortFunc Ly k aE zE enc hk h1 cmp hO gf #[] b 0 cap d.toArray w eg (aiT hcm b 0 _ w) hH hlt (by simp;omega)
    simp only [List.size_toArray,hn] at this
    refine this.mono ?_
    rintro e' w' ⟨rfl,d',q,os,hp,hs,rfl⟩
    have hsz:d'.size=d.length:=by have:=hp.1;simpa using this
    have hperm:d'.toList.Perm d:=by
      have:=hp.2.2
      have e1:(d'.extract 0 n).toList=d'.toList:=by rw [<-hn,<-hsz];simp
      have e2:(d.toArray.extract 0 n).toList=d:=by rw [<-hn];simp
      rwa [e1,e2] at this
    have hl':(d'.toList.flatMap enc).length=us.length:=by
      rw [hul,<-hsz]
      have:∀(l:List α),(l.flatMap enc).length=l.length*k:=λl=>by
        induction l with
        |nil=>simp
        |cons x d ih=>rw [List.flatMap_cons,zla,hk,ih,zlc,Nat.add_mul];omega
      rw [this];simp
    have hfl:(flatK enc k d').toList=d'.toList.flatMap enc:=by have:=acR hk d'.toList;simpa using this
    obtain ⟨g',m1,m2,m3,m4⟩:=acA (rows':=d'.toList.map λx=>(enc x).map .val) hm (λv:Value=>v) (flatK enc k d') q os hst hio k4 k2 (by simp [hsz]) (by simpa using k5) k6 k7 (λr hr=>by obtain ⟨z,_,rfl⟩:=List.mem_map.1 hr;rw [he];simp [hk]) (by simp [hul,hsz]) (by
      rw [rZ,hfl,List.map_id'];exact RepL.vals _) k10
    refine ⟨_, .und,_,g',rfl,⟨d'.toList,rfl,hperm, ?_⟩,trivial,m1,m2,m3,m4⟩
    rw [List.pairwise_iff_getElem]
    intro i j hi hj hij
    have hj':j<d'.size:=by simpa using hj
    have hi':i<d'.size:=by simpa using hi
    have:=hs i j (Nat.zero_le _) hij (by rw [<-hn,<-hsz];exact hj')
    unfold ltOf at this
    rw [getElem!_pos d' j hj',getElem!_pos d' i hi'] at this
    simpa using this
end
end Go.Abs
