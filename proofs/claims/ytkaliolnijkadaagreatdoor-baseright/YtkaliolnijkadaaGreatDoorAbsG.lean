import Derived.Test.YtkaliolnijkadaaGreatDoorAbsE
set_option linter.unusedSimpArgs false
set_option linter.unusedVariables false
namespace Go.Abs
open Go
section
variable {P:Program} {tt:TT}
theorem RepE.get {g:G}:∀{es:List (Value×PV)} {ms:List MapEntry} {j:Nat} {m:MapEntry},RepE g es ms→ms[j]?=some m→∃k p,es[j]?=some (k,p)∧m.key=k∧Rep g p m.val
  |[],ms,j,m,h,hj=>by simp only [RepE] at h;subst h;simp at hj
  |(k,p)::es,ms,j,m,h,hj=>by
    simp only [RepE] at h
    obtain ⟨m0,ms',rfl,h1,h2,h3⟩:=h
    cases j with
    |zero=>simp at hj;subst hj;exact ⟨k,p,rfl,h1,h2⟩
    |succ j=>simp at hj;simpa using RepE.get h3 hj
theorem RepE.len {g:G}:∀{es:List (Value×PV)} {ms:List MapEntry},RepE g es ms→ms.length=es.length
  |[],ms,h=>by simp only [RepE] at h;subst h;rfl
  |(k,p)::es,ms,h=>by
    simp only [RepE] at h
    obtain ⟨m0,ms',rfl,h1,h2,h3⟩:=h
    simp [RepE.len h3]
end
end Go.Abs
namespace Go.Abs
open Go
section
variable {P:Program} {tt:TT}
def PY (P:Program) (idl:Nat) (args:List PV) (st:aK) (R:PV→aK→Prop):Prop:=
  ∀w g b vs,MemOK P st w g→(∃n cap,g.io idl=some (b,n,cap))→RepL g args vs→
    OpRes P (fun v w'=>∃r st' g',R r st'∧Rep g' r v∧MemOK P st' w' g'∧Le g g'∧Frame (Blocks st g) w g w' g'∧∀b,Blocks st' g' b→Blocks st g b∨w.heap.size≤b) ((Instr.yield b vs.toArray).run P w)
theorem PY.mono {idl:Nat} {args:List PV} {st:aK} {R R':PV→aK→Prop} (h:PY P idl args st R) (hr:∀r S,R r S→R' r S):PY P idl args st R':=fun w g b vs hm hb hv=>
  (h w g b vs hm hb hv).mono fun _ _ ⟨r,st',g',h1,h2⟩=>⟨r,st',g',hr _ _ h1,h2⟩
theorem SI.act {c:Ctx} {s:St} {a a':Act} {w:World} {g:G} {lam:Nat→Nat} (hs:SI P c s a w g lam) (ht:a'.tmps=a.tmps) (hd:DfOK c a' g):SI P c s a' w g lam:=
  ⟨hs.mem,hs.le,hs.frame,hs.blk,fun t=>by rw [ht];exact hs.env t,hs.box,hs.inj,hs.ad,hs.adL,hd,by rw [ht];exact hs.n,hs.top⟩
end
end Go.Abs
namespace Go.Abs
open Go
section
variable {P:Program} {tt:TT}
variable {K V:Type} [DecidableEq K] {kt:TypeId} {enc:K→Value} {rep:K→PV} {f:V→PV}
end
section
variable {P:Program} {tt:TT} {l:List Oper} {d:Md} {r:List Oper} {s:St} {K:St→Prop} {t:Nat} {ty:TypeId} {pos:String} {after:Array Edge}
theorem fB {f:Operand} {args:Array Operand} {ts:Array TypeId} {gd:Option (Nat×Bool)} {fid:FuncId} {caps ps:List PV} {w:Bool} {p:PV} (hw:bK l ⟨some t, .call ⟨.value f,args,ts⟩,ty,pos,after,gd⟩ s=some w) (hf:opd s f=some (.fn fid caps)) (hps:iL s args.toList=some ps) (h:w=true→PF P fid (ps.map soft++caps) p) (hfl:All (flagsI s w (f::args.toList) [])) (hd:Nat.blt t s.n=true)
    (ht:cK d l r=true) (k:Ev P l d r (s.put (some t) w (.pv p)) K):Ev P l d (⟨some t, .call ⟨.value f,args,ts⟩,ty,pos,after,gd⟩::r) s K:=
  alT (ps.map soft) hw hf hps (WkL.soft ps) h hfl hd ht k
end
end Go.Abs
namespace Go.Abs
open Go
section
variable {P:Program} {tt:TT}
end
end Go.Abs
namespace Go.Abs
open Go
section
variable {P:Program} {tt:TT} {l:List Oper}
def lexO (l:List Oper) (md:Md):List Nat→Array Bool→Bool
  |[],listed=>(Region.ready .any l.toArray listed).isEmpty
  |k::ord,listed=>(Region.ready .any l.toArray listed).contains k&&(bif eI k md.z then (Region.ready .any l.toArray listed).all (fun j=>Nat.beq j k) else vR l md listed k)&&lexO l md ord (listed.setIfInBounds k true)
def jE (l:List Oper):List Nat→Option (List Oper)
  |[]=>some []
  |k::ord=>match l[k]?,jE l ord with
    |some o,some r=>some (o::r)
    |_,_=>none
def zW (md md':Md):Nat→List Nat→Bool
  |_,[]=>true
  |p,k::ord=>eI p md'.z==eI k md.z&&eI p md'.r==eI k md.r&&zW md md' (p+1) ord
theorem AAny.only {md:Md} {K:St→Prop} {i:Nat} {oi:Oper} {R:aK×PV→Prop} (hi:l[i]?=some oi) (hz:eI i md.z=true) (fuel:Nat) (listed:Array Bool) (s:St)
    (hall:(Region.ready .any l.toArray listed).all (fun j=>Nat.beq j i)=true) (hr:i∈Region.ready .any l.toArray listed) (hy:ZOp P l oi s R) (H:∀x,R x→AAny P l md K fuel (listed.setIfInBounds i true) (s.turn oi x)):AAny P l md K (fuel+1) listed s:=by
  refine ⟨fun h=>(by rw [h] at hr;cases hr),fun j hj=> ?_⟩
  obtain rfl:j=i:=by
    have:=List.all_eq_true.1 hall j hj
    exact Nat.eq_of_beq_eq_true this
  unfold AOp;rw [hi];simp only [hz];exact ⟨R,hy,H⟩
theorem AAny.lexO {md md':Md} {K:St→Prop}:∀(ord:List Nat) (r:List Oper) (p:Nat) (listed:Array Bool) (s:St),jE l ord=some r→l.length=p+r.length→zW md md' p ord=true→AdOK s→LOK l s→lexO l md ord listed=true→EvD P l md' r s K→AAny P l md K r.length listed s
  |[],r,_,_,_,hp,_,_,_,_,hB,h=>by
    simp only [jE,Option.some.injEq] at hp
    subst hp
    exact ⟨by simpa [Go.Abs.lexO] using hB,h⟩
  |k::ord,r,p,listed,s,hp,hlen,ht,hA,hLK,hB,h=>by
    simp only [jE] at hp
    cases h0:l[k]? with
    |none=>rw [h0] at hp;cases hp
    |some o=>
      cases h1:jE l ord with
      |none=>rw [h0,h1] at hp;cases hp
      |some r'=>
        rw [h0,h1] at hp
        injection hp with hp
        subst hp
        have hk:l.length-(r'.length+1)=p:=by rw [hlen];simp
        simp only [Go.Abs.lexO,Bool.and_eq_true] at hB
        obtain ⟨⟨hr,hf⟩,hB'⟩:=hB
        simp only [zW,Bool.and_eq_true,beq_iff_eq] at ht
        obtain ⟨⟨tz,tr⟩,ht'⟩:=ht
        unfold EvD at h
        rw [hk,tz,tr] at h
        have ho:o∈l:=List.mem_of_getElem? h0
        have rest:∀s',AdOK s'→LOK l s'→EvD P l md' r' s' K→AAny P l md K r'.length (listed.setIfInBounds k true) s':=fun s' hA' hL' h'=>
          AAny.lexO ord r' (p+1) _ _ h1 (by rw [hlen];simp;omega) ht' hA' hL' hB' h'
        cases hz:eI k md.z with
        |true=>
          rw [hz] at h hf
          obtain ⟨R,hR,hK⟩:=h
          exact AAny.only h0 hz r'.length listed s hf (by simpa using hr) hR fun x hx=>rest _ hA.turn (hLK.turn ho) (hK x hx)
        |false=>
          rw [hz] at h hf
          obtain ⟨T,hT,hK⟩:=h
          exact AAny.first h0 hz r'.length listed s (iH h0 hf) hA hLK (by simpa using hr) hT (rest _ (hT.adOK hA) (hLK.step ho hT hA) hK)
def aeZ (l r:List Oper) (md md':Md) (ord:List Nat):Bool:=Nat.beq l.length r.length&&zW md md' 0 ord&&lexO l md ord (Array.replicate l.length false)
theorem acC {md md':Md} {r:List Oper} {id:Nat} {Q:Exit→St→Prop} {s:St} (ord:List Nat) (hm:P.follows .mixedOrders=true) (hp:jE l ord=some r) (hB:aeZ l r md md' ord=true) (hF:tC l s=true) (h:EvD P l md' r s (Q .normal)):PWp P (.region id l.toArray true) Q s:=by
  intro c a w g lam hs
  refine wpIn_region_any hm ?_
  obtain ⟨h1,h2⟩:=mC hs.mem (w.drawn+1) (Nat.le_succ _)
  have hs':=hs.world h1 (Le.refl g) (h2.mono fun _ h=>h.elim)
  simp only [aeZ,Bool.and_eq_true] at hB
  obtain ⟨⟨b1,b2⟩,b3⟩:=hB
  have b1:l.length=r.length:=Nat.eq_of_beq_eq_true b1
  have:=AAny.lexO ord r 0 (Array.replicate l.length false) s hp (by rw [b1];simp) b2 hs.adOK (LOK.init hs.adOK hF) b3 h
  rw [←b1] at this
  have:=AAny.sound (Q:=fun e a' w'=>∃s' g' lam',Q e s'∧SI P c s' a' w' g' lam') (fun s a w g lam hk hs=>⟨s,g,lam,hk,hs⟩) _ _ _ _ _ _ _ hs' this
  simpa using this
theorem wDO (pk:Pk P tt) (ord z0 rd0 z rd:List Nat) {s:St} {id:Nat} {ops:Array Oper} {r:List Oper} {k:List Fr} {Q:Exit→St→Prop} {a b g:Prop} (_hsz:Nat.beq ops.size ord.length=true) (hp:jE ops.toList ord=some r) (hl:aeZ ops.toList r (.draw z0 rd0) (.draw z rd) ord=true) (hF:tC ops.toList s=true) (h:wU P tt ops.toList (.draw z rd) r s k Q= .mk a b g) (ha:a) (hb:b) (hg:g):PWp P (.region id ops true) (fG P k Q) s:=by
  have:=goE pk h ha hb hg
  have:=acC (l:=ops.toList) (id:=id) (Q:=fG P k Q) ord pk.hm hp hl hF (by
    have e:=this
    exact e)
  simpa using this
def alL (l:List Oper) (md:Md):List Nat→Array Bool→Bool
  |[],_=>true
  |k::ord,listed=>(Region.ready .any l.toArray listed).contains k&& !eI k md.z&& !eI k md.r&&vR l md listed k&&alL l md ord (listed.setIfInBounds k true)
def amQ :List Nat→Array Bool→Array Bool
  |[],listed=>listed
  |k::ord,listed=>amQ ord (listed.setIfInBounds k true)
theorem AAny.pre {md:Md} {K K':St→Prop} (n:Nat):∀(ord:List Nat) (r:List Oper) (listed:Array Bool) (s:St),jE l ord=some r→AdOK s→LOK l s→alL l md ord listed=true→EvD P l (.draw [] []) r s K'→(∀s',AdOK s'→LOK l s'→K' s'→AAny P l md K n (amQ ord listed) s')→AAny P l md K (n+r.length) listed s
  |[],r,listed,s,hp,hA,hLK,_,h,hk=>by
    simp only [jE,Option.some.injEq] at hp
    subst hp
    exact hk s hA hLK h
  |k::ord,r,listed,s,hp,hA,hLK,hB,h,hk=>by
    simp only [jE] at hp
    cases h0:l[k]? with
    |none=>rw [h0] at hp;cases hp
    |some o=>
      cases h1:jE l ord with
      |none=>rw [h0,h1] at hp;cases hp
      |some r'=>
        rw [h0,h1] at hp
        injection hp with hp
        subst hp
        simp only [alL,Bool.and_eq_true,Bool.not_eq_true'] at hB
        obtain ⟨⟨⟨⟨hr,hz⟩,hrd⟩,hf⟩,hB'⟩:=hB
        have ho:o∈l:=List.mem_of_getElem? h0
        unfold EvD at h
        have e0:∀x,eI x (Md.draw [] []).z=false:=fun _=>rfl
        have e1:∀x,eI x (Md.draw [] []).r=false:=fun _=>rfl
        rw [e0,e1] at h
        obtain ⟨T,hT,hK⟩:=h
        have hT':AStep P l o s (eI k md.r) T:=by rw [hrd];exact hT
        exact AAny.first h0 hz (n+r'.length) listed s (iH h0 hf) hA hLK (by simpa using hr) hT' (AAny.pre n ord r' _ _ h1 (hT.adOK hA) (hLK.step ho hT hA) hB' hK fun s'=>hk s')
end
end Go.Abs
namespace Go.Abs
open Go
section
variable {P:Program} {tt:TT} {l:List Oper} {d:Md} {r:List Oper} {s:St} {K:St→Prop} {t:Nat} {ty:TypeId} {pos:String} {after:Array Edge} {gd:Option (Nat×Bool)}
theorem Rep.int {g:G} {k:IntKind} (n:Int):Rep g (.val (.int k n)) (.int k n):=by simp [Rep]
end
end Go.Abs
