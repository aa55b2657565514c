import Derived.Test.YtppdefkgmegipaaGreatDoorAbsG
import Derived.Test.YtppdefkgmegipaaGreatDoorAbsE
import Derived.Test.YtppdefkgmegipaaGreatDoorAbsSort
set_option linter.unusedSimpArgs false
set_option linter.unusedVariables false
namespace Go.Abs
open Go
section
section
variable {P:Program}
theorem xC {w:World} {l₀:Nat} {r₀:Loop} (h:w.heap[l₀]?=some (.loop r₀)) (fn:FuncId) (tmps:Array Value) (ps:Array Tmp) (assign body:Code):
  (Instr.enterLoop fn tmps ps assign body (some l₀)).run P w=
   .ok (w.heap.size,[]) (w.alloc (.loop {state:= .ready,pending:=none,fn,tmps,params:=ps,assign,body,defers:=r₀.defers})):=by
 unfold Instr.enterLoop
 simp only [Sem.run_bind,run_getLoop h,run_newObj_alloc,Result.andThen,Sem.run_pure]
theorem aiP {x t0:Nat} {assign body:Code} {s:St} {Q:Exit->St->Prop} (l:List (Nat×PV)) {fid:FuncId} {caps:List PV} (hx:s.env x=(true, .pv (.fn fid caps))) {i0 n0:Nat} {q0:LoopState} {env0:Nat->PV} {ps0:Array Nat} {as0 bd0:Code} (htop:s.top=some i0) (h0:s.st i0=some (.loop q0 n0 env0 ps0 as0 bd0)) (henv:alN s l) (R:Nat->aD->Prop)
    (h:∀idl,s.st idl=none->PC P fid (.yld idl::caps) (upd s.st idl (some (.loop .ready s.n (qC l) #[t0] assign body))) λ_ S=>S idl=some (.loop .ready s.n (qC l) #[t0] assign body)/\R idl S)
    (k:∀idl S,s.st idl=none->R idl S->Q .normal (s.sst (upd S idl none))):PWp P (.rangeFunc (.tmp x) #[t0] assign body) Q s:=by
  intro c a w g lam hs
  have htp:=hs.top
  rw [htop] at htp
  obtain ⟨b0,m0,cap0,hro,hio0⟩:=htp
  have hob:=hs.mem.obj i0 _ h0
  simp only [ObjOK] at hob
  obtain ⟨b1,m1,cap1,fn0,tm0,df0,e1,_,e3,_⟩:=hob
  rw [hs.le.io _ _ hio0] at e1;injection e1 with e1;injection e1 with e1 _;subst e1
  rw [hs.mem.heap] at e3
  have hro:(FR c.ro).round=some b0:=hro
  have hax:=hs.env x
  rw [hx] at hax
  simp only [EntOK,Rep] at hax
  obtain ⟨cvs,hax,hcv⟩:=hax
  refine wpIn_rangeFunc λfn _=> ?_
  rw [hro]
  obtain ⟨idl,g2,f1,f2,f3,q1,q2,q3,q4⟩:=amE hs.mem (.loop {state:= .ready,pending:=none,fn,tmps:=a.tmps,params:= #[t0],assign,body,defers:=df0}) (.loop .ready s.n (qC l) #[t0] assign body) λg' id hle hh hio hb hold hfr hfm=>by
    simp only [ObjOK]
    refine ⟨_,0,1,fn,a.tmps,df0,hio,by omega,hb,hs.n,λt=>acK (s:=s) l (λ_=> .und) (λ_=>trivial) (λy hy=> ?_) t⟩
    have:=hs.env y.1
    rw [rC henv y hy] at this
    exact Rep.mono hle _ _ this
  have hs3:=hs.step q1 q2 q3 q4
  obtain ⟨hc,hcall⟩:=h idl f2
  let W1:World:=w.alloc (.loop {state:= .ready,pending:=none,fn,tmps:=a.tmps,params:= #[t0],assign,body,defers:=df0})
  refine ⟨w.heap.size,[],W1,{target:= .fn (.func fid) cvs.toArray,args:= #[.func (.yield w.heap.size) #[] #[]]},W1,fid, #[.func (.yield w.heap.size) #[] #[]]++cvs.toArray,W1,xC e3 _ _ _ _ _, ?_,λ_ _=>trivial, ?_,λh=>by simp [FR,Fence.wide] at h,oZ ?_⟩
  · have:a.eval (.tmp x)= .func (.func fid) #[] cvs.toArray:=hax
    simp only [resolve,rangeCall,this,Deferred.ofValue,Sem.run_pure]
    simp [Act.eval]
  · unfold eD at hc
    split at hc
    · rename_i fnn hfn
      rw [zba] at hc
      have h1 : (fnn.name == "runtime.NumGoroutine") = false := by simpa using hc.1
      have h2:fnn.body.isNone=false:=by cases hb:fnn.body<;>simp_all
      simp only [invoke,callFunc,Sem.run_bind,run_program,hfn,Result.andThen_ok,h1,h2,Bool.false_eq_true,if_false,Sem.run_pure]
    · cases hc
  · have:=hcall W1 g2 (.func (.yield w.heap.size) #[] #[]::cvs) q1 (by simp only [RepL];exact ⟨_,cvs,rfl,by simp only [Rep];exact ⟨_,_,_,f3,rfl⟩,RepL.mono q2 _ _ hcv⟩)
    rw [show (#[.func (.yield w.heap.size) #[] #[]]++cvs.toArray:Array Value)=(.func (.yield w.heap.size) #[] #[]::cvs).toArray from by apply Array.toList_inj.1;simp]
    refine this.mono ?_
    rintro e w₃ ⟨v,r,S,g₃,rfl,⟨hl,hR⟩,h3,h4,h5,h6,h7⟩
    have hs4:=hs3.step h4 h5 h6 h7
    have hio4:g₃.io idl=some (w.heap.size,0,1):=h5.io _ _ f3
    obtain ⟨r4,x1,x2,x3,x4,x5,x6,x7,x8,y1,y2,y3,y4⟩:=mD (q':= .exhausted) h4 hl hio4
    refine ⟨r4.pending,_,run_endLoop (P:=P) x1 (by rw [x2];simp), ?_⟩
    have hs5:=hs4.step (st':=upd S idl (some (.loop .exhausted s.n (qC l) #[t0] assign body))) y1 y2 y3 y4
    split
    case h_2 hh=>rw [x3] at hh;cases hh
    refine ⟨s.sst (upd S idl none),_,lam,k idl S f2 hR,hs5.sub (s2:=s.sst (upd S idl none)) ⟨λ_=> .inr rfl,λ_ _ e=>e,λj=>by
      show upd S idl none j=none\/upd S idl none j=upd S idl _ j
      by_cases hj:j=idl
      · left;rw [hj,aA]
      · right;rw [aC hj,aC hj],rfl,rfl,hs5.ad,hs5.adL⟩⟩
end
end
section
section
variable {P:Program} {tt:TT} {l:List Oper}
theorem AAny.fkey {md:Md} {K:St->Prop} {p:Nat} {listed:Array Bool} {s:St} (hA:AdOK s) (hLK:LOK l s) {j:Nat} {ord:List Nat} {r:List Oper} {md':Md} (hp:dO l (j::ord)=some r) (hn:l.length=p+r.length) (ht:jX md md' p (j::ord)=true)
  (hB:Go.Abs.lexO l md ord (listed.setIfInBounds j true)=true) (h:EvD P l md' r s K):∃n,r.length=n+1/\AOp P l md j (AAny P l md K n (listed.setIfInBounds j true)) s:=by
 simp only [dO] at hp
 cases h0:l[j]? with
 |none=>rw [h0] at hp;cases hp
 |some o=>
  cases h1:dO l ord with
  |none=>rw [h0,h1] at hp;cases hp
  |some r'=>
   rw [h0,h1] at hp
   injection hp with hp
   subst hp
   have hk:l.length-(r'.length+1)=p:=by rw [hn];simp
   simp only [jX,zba,beq_iff_eq] at ht
   obtain ⟨⟨tz,tr⟩,ht'⟩:=ht
   unfold EvD at h
   rw [hk,tz,tr] at h
   have ho:o∈l:=List.mem_of_getElem? h0
   refine ⟨r'.length,rfl, ?_⟩
   unfold AOp
   rw [h0]
   have rest:∀s',AdOK s'->LOK l s'->EvD P l md' r' s' K->AAny P l md K r'.length (listed.setIfInBounds j true) s':=λs' hA' hL' h'=>
    AAny.lexO ord r' (p+1) _ _ h1 (by rw [hn];simp;omega) ht' hA' hL' hB h'
   cases hz:eB j md.z with
   |true=>
    rw [hz] at h
    obtain ⟨R,hR,hK⟩:=h
    exact ⟨R,hR,λx hx=>rest _ hA.turn (hLK.turn ho) (hK x hx)⟩
   |false=>
    rw [hz] at h
    obtain ⟨T,hT,hK⟩:=h
    exact ⟨T,hT,rest _ (hT.adOK hA) (hLK.step ho hT hA) hK⟩
def akR (l:List Oper) (md mdA md1 md2:Md) (ord0:List Nat) (jA:Nat) (ordA:List Nat) (j0 j1:Nat) (ord1:List Nat) (j2:Nat) (ord2:List Nat):Bool:=
 let L0:=aBk ord0 (Array.replicate l.length false)
 let L1:=L0.setIfInBounds j0 true
 axX l md ord0 (Array.replicate l.length false)&&Nat.beq l.length (ord0.length+(ordA.length+1))&&Nat.beq l.length (ord0.length+1+(ord1.length+1))&&Nat.beq l.length (ord0.length+1+(ord2.length+1))&&jX md mdA ord0.length (jA::ordA)&&jX md md1 (ord0.length+1) (j1::ord1)&&jX md md2 (ord0.length+1) (j2::ord2)&&
 (Region.ready .any l.toArray L0).all (λj=>Nat.beq j jA||Nat.beq j j0)&&(Region.ready .any l.toArray L0).contains jA&&lexO l md ordA (L0.setIfInBounds jA true)&&eB j0 md.z&&
 (Region.ready .any l.toArray L1).all (λj=>Nat.beq j j1||Nat.beq j j2)&&(Region.ready .any l.toArray L1).contains j1&&lexO l md ord1 (L1.setIfInBounds j1 true)&&lexO l md ord2 (L1.setIfInBounds j2 true)
theorem arI (pk:Pk P tt) (ord0:List Nat) (jA:Nat) (ordA:List Nat) (j0 j1:Nat) (ord1:List Nat) (j2:Nat) (ord2 z0 rd0 zA rdA zS z1 rd1 z2 rd2:List Nat) {s:St} {id:Nat} {ops:Array Oper} {o0:Oper} {r0 rA r1 r2:List Oper} {k:List Fr} {Q:Exit->St->Prop} (_hsz:Nat.beq ops.size (ord0.length+(ordA.length+1))=true) (hp0:dO ops.toList ord0=some r0) (hpA:dO ops.toList (jA::ordA)=some rA) (ho:ops.toList[j0]?=some o0) (hp1:dO ops.toList (j1::ord1)=some r1) (hp2:dO ops.toList (j2::ord2)=some r2) (hS:eB (ops.toList.length-1) zS=true)
  (hl:akR ops.toList (.draw z0 rd0) (.draw zA rdA) (.draw z1 rd1) (.draw z2 rd2) ord0 jA ordA j0 j1 ord1 j2 ord2=true) (hF:wO ops.toList s=true)
  (h:Ev P ops.toList (.draw [] []) r0 s (iV P [] λ_ s'=>Both (Ev P ops.toList (.draw zA rdA) rA s' (iV P k Q)) (Ev P ops.toList (.draw zS []) [o0] s' (iV P [] λ_ s'=>Both (Ev P ops.toList (.draw z1 rd1) r1 s' (iV P k Q)) (Ev P ops.toList (.draw z2 rd2) r2 s' (iV P k Q)))))):PWp P (.region id ops true) (dR P k Q) s:=by
 intro c a w g lam hs
 refine wpIn_region_any pk.hm ?_
 obtain ⟨h1,h2⟩:=mQ hs.mem (w.drawn+1) (Nat.le_succ _)
 have hs':=hs.world h1 (Le.refl g) (h2.mono λ_ h=>h.elim)
 simp only [akR,zba] at hl
 obtain ⟨⟨⟨⟨⟨⟨⟨⟨⟨⟨⟨⟨⟨⟨b1,b2⟩,b3⟩,b4⟩,b5⟩,b6⟩,b7⟩,b8⟩,b9⟩,b10⟩,b11⟩,b12⟩,b13⟩,b14⟩,b15⟩:=hl
 have b2:=Nat.eq_of_beq_eq_true b2
 have b3:=Nat.eq_of_beq_eq_true b3
 have b4:=Nat.eq_of_beq_eq_true b4
 have n0:=kK hp0
 have nA:=kK hpA
 have n1:=kK hp1
 have n2:=kK hp2
 simp only [zlc] at nA n1 n2
 have:=AAny.pre (md:= .draw z0 rd0) (K:=iV P k Q) rA.length ord0 r0 (Array.replicate ops.toList.length false) s hp0 hs.adOK (LOK.init hs.adOK hF) b1 h λs' hA hLK ⟨eA,e0⟩=>by
  obtain ⟨m,q1,oA⟩:=AAny.fkey (md:= .draw z0 rd0) hA hLK hpA (p:=ord0.length) (by omega) b5 b10 eA
  rw [q1]
  refine ⟨λh=>(by simp only [List.contains_iff_mem] at b9;rw [h] at b9;cases b9),λj hj=> ?_⟩
  have hjj:=zal.1 b8 j hj
  simp only [Bool.or_eq_true] at hjj
  rcases hjj with q|q
  ·rw [Nat.eq_of_beq_eq_true q];exact oA
  ·rw [Nat.eq_of_beq_eq_true q]
   unfold AOp
   rw [ho]
   simp only [b11]
   have e0:EvD P ops.toList (.draw zS []) [o0] s' _:=e0
   unfold EvD at e0
   have e1:eB (ops.toList.length-(([]:List Oper).length+1)) (Md.draw zS []).z=true:=hS
   rw [e1] at e0
   obtain ⟨R,hR,hK⟩:=e0
   refine ⟨R,hR,λx hx=> ?_⟩
   have hm:m=r1.length:=by omega
   rw [hm]
   have hKx:=hK x hx
   unfold EvD at hKx
   obtain ⟨e1,e2⟩:=hKx
   have hom:o0∈ops.toList:=List.mem_of_getElem? ho
   exact AAny.fork hp1 hp2 (p:=ord0.length+1) (by omega) (by omega) b6 b7 b12 b13 hA.turn (hLK.turn hom) b14 b15 e1 e2
 rw [show rA.length+r0.length=ops.toList.length by omega] at this
 have:=AAny.sound (Q:=λe a' w'=>∃s' g' lam',dR P k Q e s'/\SI P c s' a' w' g' lam') (λs a w g lam hk hs=>⟨s,g,lam,hk,hs⟩) _ _ _ _ _ _ _ hs' this
 simpa using this
theorem aCT (pk:Pk P tt) {d:Md} {r:List Oper} {s:St} {K:St->Prop} {t:Nat} {ty:TypeId} {pos:String} {after:Array Edge} {T T':TypeId} {x:Operand} {id off:Nat} {cs:List PV} {p:PV} (hx:opd s x=some (.ref id off)) (hf:bK s [x]=true) (hd:Nat.blt t s.n=true) (hst:s.st id=some (.cells T' cs)) (hp:gT tt T cs off=some p) (ht:hY d l r=true) (k:Ev P l d r ((s.sst s.st).pv t p) K):Ev P l d (⟨some t, .load T x,ty,pos,after,none⟩::r) s K:=
 dD (R:=λz=>z=(s.st,p)) (λw g ρ hm hρ=>(tJ (o:=⟨some t, .load T x,ty,pos,after,none⟩) pk.htt rfl hx hst hp w g ρ hm hρ).mono λv w' ⟨g',h1,h2,h3,h4⟩=>⟨g',(s.st,p),rfl,h1,h2,h3,h4,λb hb=> .inl ((iB hm h3 b).1 hb)⟩) (λz hz=>aR (λ_ _ _ e=>by cases e) hz) hf hd ht λz hz=>by subst hz;exact k
end
end
end Go.Abs
namespace Go.Abs
open Go Go.Sort Go.Shelf Go.Proofs
section
variable {P:Program}
theorem RepL.parts {g:G}:∀{ps qs:List PV} {vs:List Value},RepL g (ps++qs) vs->∃us ws,vs=us++ws/\us.length=ps.length/\RepL g ps us/\RepL g qs ws
 |[],qs,vs,h=>⟨[],vs,rfl,rfl,by simp [RepL],h⟩
 |p::ps,qs,vs,h=>by
  simp only [List.cons_append,RepL] at h
  obtain ⟨v,vs',rfl,h1,h2⟩:=h
  obtain ⟨us,ws,rfl,e,h3,h4⟩:=RepL.parts h2
  exact ⟨v::us,ws,rfl,by simp [e],by simp only [RepL];exact ⟨v,us,rfl,h1,h3⟩,h4⟩
theorem aAh {α:Type} {a b:List α} (h:a=b):a.Perm b:=h▸ .refl _
abbrev oN {α:Type} (g:G) (f:α->List PV) (d:List α) (k:Nat):Type:={p:α×List Value//p.1∈d/\p.2.length=k/\(∀v∈p.2,v.oneCell'=true)/\RepL g (f p.1) p.2}
theorem akT {α:Type} {g:G} {f:α->List PV} {D:List α} {k:Nat} (hk:∀x,(f x).length=k) (h1:∀x,(f x).all PV.one=true):∀(d:List α) (us:List Value),(∀x∈d,x∈D)->RepL g (d.map f).flatten us->∃d':List (oN g f D k),d'.map (·.1.1)=d/\d'.flatMap (·.1.2)=us
 |[],us,_,h=>by
  simp only [List.map_nil,List.flatten_nil,RepL] at h
  exact ⟨[],rfl,h.symm⟩
 |x::d,us,hd,h=>by
  rw [zmp,List.flatten_cons] at h
  obtain ⟨vs,ws,rfl,e,h2,h3⟩:=RepL.parts h
  obtain ⟨d',q1,q2⟩:=akT hk h1 d ws (λy hy=>hd y (List.mem_cons_of_mem _ hy)) h3
  exact ⟨⟨(x,vs),hd x List.mem_cons_self,e.trans (hk x),h2.ones (h1 x),h2⟩::d',by rw [zmp,q1],by rw [List.flatMap_cons,q2]⟩
theorem adU {α:Type} {g:G} {f:α->List PV} {D:List α} {k:Nat}:∀(d:List (oN g f D k)),RepL g (d.map λp=>f p.1.1).flatten (d.flatMap (·.1.2))
 |[]=>by simp [RepL]
 |p::d=>by
  rw [zmp,List.flatten_cons,List.flatMap_cons]
  exact p.2.2.2.2.append (adU d)
theorem avT {α:Type} {ρ:Ren} (Ly:SlLaysF0.n6 P ρ) (hc:eD P (ρ.f 6)=true) {k:Nat} (aE:∀w,(isAgg (ρ.t 24)).run P w= .ok true w) (zE:∀w,(Go.sizeOf (ρ.t 24)).run P w= .ok k w) {f:α->List PV} (hk:∀x,(f x).length=k) (h1:∀x,(f x).all PV.one=true) {cmp:α->α->Int} (hO:SWO (ltOf cmp)) {gf:FuncId} (hg:eD P gf=true)
    {caps:List PV} {d:List α} (hcm:∀x∈d,∀y∈d,PF P gf ([.agg (f x), .agg (f y)]++caps) (.val (.int .i64 (cmp x y)))) {st:aD} {id n:Nat} {e:TypeId} (he:P.cellsOf e=k) (hst:st id=some (.arr e (d.map f))) (hn:d.length=n) (h62:n<4611686018427387904):
    PC P (ρ.f 6) [.vec id k 0 n, .fn gf caps] st λ_ S=>∃r:List α,S=upd st id (some (.arr e (r.map f)))/\r.Perm d/\r.Pairwise λx y=>¬cmp y x<0:=by
  have eg:∀args w,(callFunc gf args).run P w= .ok (.enter gf args) w:=λargs w=>by
    unfold eD at hg
    split at hg
    · rename_i fnn hfn
      rw [zba] at hg
      have h1 : (fnn.name == "runtime.NumGoroutine") = false := by simpa using hg.1
      have h2:fnn.body.isNone=false:=by cases hb:fnn.body<;>simp_all
      simp only [callFunc,Sem.run_bind,run_program,hfn,Result.andThen_ok,h1,h2,Bool.false_eq_true,if_false,Sem.run_pure]
    · cases hg
  refine ⟨hc,λw g vs hm hr=> ?_⟩
  simp only [RepL] at hr
  obtain ⟨v,vs',rfl,hv,v2,vs2,rfl,hv2,rfl⟩:=hr
  simp only [Rep] at hv hv2
  obtain ⟨fvs,rfl,hfv⟩:=hv2
  obtain ⟨b,n',cap,hio,a1,a2,a3,hv⟩:=hv
  have hob:=hm.obj id _ hst
  simp only [ObjOK] at hob
  obtain ⟨b',cap',k1,hob⟩:=hob
  rw [hio] at k1;injection k1 with k1;injection k1 with k1 k2;injection k2 with k2 k3;subst k1;subst k3
  have hnone:d=[]->(w':World)->w'=w->∃(v:Value) (r:PV) (st':aD) (g':G),(Ending.returned (.tuple #[]):Ending)= .returned v/\(∃r:List α,st'=upd st id (some (.arr e (r.map f)))/\r.Perm d/\r.Pairwise λx y=>¬cmp y x<0)/\Rep g' r v/\MemOK P st' w' g'/\Le g g'/\Frame (Blocks st g) w g w' g'/\∀b,Blocks st' g' b->Blocks st g b\/w.heap.size<=b:=λhd w' hw=>by
    subst hw;subst hd
    exact ⟨_, .und,st,g,rfl,⟨[],(aL hst).symm, .refl _,List.Pairwise.nil⟩,trivial,hm,Le.refl g,Frame.refl _ _ _,λb hb=> .inl hb⟩
  rcases hob with ⟨k4,k5⟩|⟨k4,us,sp,k5,k6,k7,k8,k9,k10⟩
  · rcases hv with ⟨_,a,rfl⟩|⟨h,_⟩
    · have hz:d=[]:=by simpa using k5
      have hn0:n=0:=by rw [<-hn,hz];rfl
      subst hn0
      refine (AnyF.slices_SortFunc_none Ly a 0 (.func (.func gf) #[] fvs.toArray) w).mono ?_
      rintro e' w' ⟨rfl,hw⟩
      exact hnone hz w' hw
    · exact absurd k4 h
  · rcases hv with ⟨h,_⟩|⟨_,hv⟩
    · exact absurd h k4
    by_cases hd0:d=[]
    · have hn0:n=0:=by rw [<-hn,hd0];rfl
      subst hn0
      rw [Nat.zero_mul,Nat.sub_zero] at hv
      subst hv
      refine (AnyF.slices_SortFunc_none Ly (some ⟨b,0,none⟩) cap (.func (.func gf) #[] fvs.toArray) w).mono ?_
      rintro e' w' ⟨rfl,hw⟩
      exact hnone hd0 w' hw
    rw [hm.heap] at k6
    obtain ⟨d',q1,q2⟩:=akT (D:=d) hk h1 d us (λ_ h=>h) k9
    have hd'l:d'.length=d.length:=by have:=congrArg List.length q1;simpa using this
    have hne:d'≠[]:=λq=>by rw [q] at hd'l;exact hd0 (List.eq_nil_of_length_eq_zero hd'l.symm)
    obtain ⟨z,hz⟩:=List.exists_mem_of_ne_nil d' hne
    letI:Inhabited (oN g f d k):=⟨z⟩
    have hek:∀x:oN g f d k,(x.1.2).length=k:=λx=>x.2.2.1
    have hflen:∀(l:List (oN g f d k)),(l.flatMap (·.1.2)).length=l.length*k:=λl=>by
      induction l with
      |nil=>simp
      |cons x l ih=>rw [List.flatMap_cons,zla,hek,ih,zlc,Nat.add_mul];omega
    have hul:us.length=d.length*k:=by rw [<-q2,hflen,hd'l]
    have hlt:=aZ k6
    rw [Nat.zero_mul,Nat.sub_zero] at hv
    subst hv
    have hH:HoldsK (λx:oN g f d k=>x.1.2) k w b 0 d'.toArray:=λj hj=>by
      refine ⟨?_,nF k6 _⟩
      have hj':j<d'.length*k:=by simpa using hj
      have e2:=qS hek d' j hj'
      have e3:=get_flatK (λx:oN g f d k=>x.1.2) k d'.toArray j (by simpa using hj')
      rw [Nat.zero_add,cD k6,List.getElem?_toArray,List.getElem?_append_left (by rw [hul,<-hd'l];exact hj'),<-q2,e2,e3]
      simp
    have hrow:∀(dk:Array (oN g f d k)),dk.size=d'.length->∀(m:Nat) (os:Array Obj),∃g',MemOK P (upd st id (some (.arr e ((dk.toList.map (·.1.1)).map f)))) (sortWorldK (λx:oN g f d k=>x.1.2) k w b 0 m dk os) g'/\Le g g'/\Frame (Blocks st g) w g (sortWorldK (λx:oN g f d k=>x.1.2) k w b 0 m dk os) g'/\∀b',Blocks (upd st id (some (.arr e ((dk.toList.map (·.1.1)).map f)))) g' b'->Blocks st g b'\/w.heap.size<=b':=λdk hdk m os=>by
      have hfl:(flatK (λx:oN g f d k=>x.1.2) k dk).toList=dk.toList.flatMap (·.1.2):=by have:=acR hek dk.toList;simpa using this
      exact acA (rows':=(dk.toList.map (·.1.1)).map f) hm (λv:Value=>v) (flatK (λx:oN g f d k=>x.1.2) k dk) m os hst hio k4 k2 (by simp [hdk,hd'l]) (by simpa using k5) k6 k7 (λr hr=>by obtain ⟨z,_,rfl⟩:=List.mem_map.1 hr;rw [he];exact hk z) (by simp [hul,hdk,hd'l]) (by
        rw [hfl,List.map_id',List.map_map];exact adU dk.toList) k10
    have hL:CmpLays P gf fvs.toArray (λx:oN g f d k=>x.1.2) k (λx y=>cmp x.1.1 y.1.1) b 0 d'.toArray.size w:=λm os dk hdk x y=>by
      obtain ⟨g',m1,m2,_,_⟩:=hrow dk (by simpa using hdk) m os
      generalize sortWorldK (λx:oN g f d k=>x.1.2) k w b 0 m dk os=W at*
      have hm0:MemOK P st0 W g':=m1.sub λ_=> .inl rfl
      have:=(hcm x.1.1 x.2.1 y.1.1 y.2.1 st0).2 W g' ([.agg x.1.2.toArray, .agg y.1.2.toArray]++fvs) hm0 (RepL.append (by simp only [RepL,Rep];exact ⟨_,_,rfl,⟨_,rfl,RepL.mono m2 _ _ x.2.2.2.2⟩,_,_,rfl,⟨_,rfl,RepL.mono m2 _ _ y.2.2.2.2⟩,rfl⟩) (RepL.mono m2 _ _ hfv))
      rw [show (([.agg x.1.2.toArray, .agg y.1.2.toArray]++fvs:List Value)).toArray= #[.agg x.1.2.toArray, .agg y.1.2.toArray]++fvs.toArray from by apply Array.toList_inj.1;simp] at this
      refine this.mono ?_
      rintro e w' ⟨v,r,st',g',rfl,⟨rfl,rfl⟩,h3,h4,h5,h6,h7⟩
      refine ⟨by rw [aK h3],w'.drawn-W.drawn,w'.heap.extract W.heap.size w'.heap.size, ?_⟩
      have hh:w'.heap=W.heap++w'.heap.extract W.heap.size w'.heap.size:=by
        apply Array.ext_getElem?
        intro i
        by_cases hi:i<W.heap.size
        · rw [Array.getElem?_append_left hi,(h6.old i hi (λ⟨id,h1,_⟩=>h1 rfl)).1]
        · rw [Array.getElem?_append_right (by omega),Array.getElem?_extract]
          have:=h6.size
          by_cases hj:i<w'.heap.size
          · rw [zp (by omega),show W.heap.size+(i-W.heap.size)=i from by omega]
          · rw [zn (by omega),Array.getElem?_eq_none (by omega)]
      show w'={(W.drewN (w'.drawn-W.drawn)) with heap:=W.heap++w'.heap.extract W.heap.size w'.heap.size}
      rw [<-hh]
      have hd:W.drawn+(w'.drawn-W.drawn)=w'.drawn:=by have:=h6.tape.2;omega
      have e1:=h6.os;have e2:=h6.tape.1;have e3:=h6.output
      cases w'
      simp only [World.drewN] at*
      subst e1;subst e2;subst e3
      rw [hd]
    have:=AnyQ.slices_SortFunc Ly k aE zE (λx:oN g f d k=>x.1.2) hek (λx=>x.2.2.2.1) (λx y=>cmp x.1.1 y.1.1) ⟨λx=>hO.irrefl _,λx y z=>hO.trans _ _ _,λx y z=>hO.ntrans _ _ _⟩ gf fvs.toArray b 0 cap d'.toArray w eg hL hH hlt (by simp;omega)
    simp only [List.size_toArray,hd'l,hn] at this
    refine this.mono ?_
    rintro e' w' ⟨rfl,r',q,os,hp,hs,rfl⟩
    have hsz:r'.size=d'.length:=by have:=hp.1;simpa using this
    have hperm:r'.toList.Perm d':=by
      have:=hp.2.2
      have e1:(r'.extract 0 n).toList=r'.toList:=by rw [<-hn,<-hd'l,<-hsz];simp
      have e2:(d'.toArray.extract 0 n).toList=d':=by rw [<-hn,<-hd'l];simp
      rwa [e1,e2] at this
    obtain ⟨g',m1,m2,m3,m4⟩:=hrow r' hsz q os
    refine ⟨_, .und,_,g',rfl,⟨r'.toList.map (·.1.1),rfl, ?_, ?_⟩,trivial,m1,m2,m3,m4⟩
    · exact (hperm.map (·.1.1)).trans (aAh q1)
    · rw [List.pairwise_map,List.pairwise_iff_getElem]
      intro i j hi hj hij
      have hj':j<r'.size:=by simpa using hj
      have hi':i<r'.size:=by simpa using hi
      have:=hs i j (Nat.zero_le _) hij (by rw [<-hn,<-hd'l,<-hsz];exact hj')
      unfold ltOf at this
      rw [getElem!_pos r' j hj',getElem!_pos r' i hi'] at this
      simpa using this
end
end Go.Abs
