import Derived.Test.YtkaliolnijkadaaGreatDoorTyA
import Derived.Test.YtkaliolnijkadaaGreatDoorAbsE
import Derived.Test.YtkaliolnijkadaaGreatDoorAbsSort
import Derived.Sort.LotD5
set_option linter.unusedSimpArgs false
set_option linter.unusedVariables false
namespace Go.Proofs.YtkaliolnijkadaaGreatDoor.T
open Go Go.Abs
attribute [local irreducible] Ev PWp
set_option maxRecDepth 10000
set_option maxHeartbeats 1000000
def cP (a b:Pt):Int:=if aZ a=aZ b then a.at_-b.at_ else if fV (aZ b) (aZ a) then-1 else 1
theorem rL {p:Pt} (h:bT p=true):0≤p.at_∧p.at_≤1999:=by
  simp only [bT,pD,eA,Bool.and_eq_true,decide_eq_true_eq] at h
  exact h.1.2.2
theorem eQ (a b:Pt) (ha:bT a=true) (hb:bT b=true):PF Tryz.prog 152 [.agg a.cells, .agg b.cells] (PV.val (Value.int .i64 (cP a b))):=by
  have h1:=rL ha
  have h2:=rL hb
  refine aJ aG Tryz.func152 (by kernel_rfl) rfl rfl rfl rfl (fun st=> ?_)
  (try (apply wO pk;exact rfl));(repeat' (first|(show All _;constructor)|(show Imp _ _;constructor)|(show ImpX _ _ _ _;constructor)|(apply wC pk;(iterate 2 exact rfl))|(apply wE pk;(iterate 2 exact rfl))|(apply wX pk;exact rfl)|(apply wN pk;exact rfl)|(apply wD pk [] [];kernel_rfl;exact rfl;exact rfl)|(apply aB;simp only [cond_true,cond_false])|(refine aC rfl (fun h=> ?_) (fun h=> ?_)<;>(try simp at h)<;>try (exfalso;omega))|(refine aF ?_;refine ⟨_,_,_,rfl,Wk.refl _,StSub.refl _, ?_,rfl⟩;try first|rfl|((simp only [cP,Sp.ext_iff];simp_all);done))|(apply aL;(iterate 3 exact rfl);(intro _;(first|apply (iF a)|apply (iF b)|apply (rM (aZ b) (aZ a)))<;>first|assumption|omega);rotate_left;(iterate 2 exact rfl))|(intros;(try simp only [List.length_map]);omega)))
theorem rZ (a:Sp):fV a a=false:=by simp [fV]
theorem rQ (a b:Sp):fV a b=true↔a.time<b.time∨a.time=b.time∧(a.dev<b.dev∨a.dev=b.dev∧a.seq<b.seq):=by
  unfold fV
  split
  · rw [decide_eq_true_eq];omega
  · split
    · rw [decide_eq_true_eq];omega
    · rw [decide_eq_true_eq];omega
def dE (a b:Pt):Prop:=fV (aZ b) (aZ a)=true∨aZ a=aZ b∧a.at_<b.at_
theorem rY (a b:Pt):cP a b<0↔dE a b:=by
  unfold cP dE
  by_cases h:aZ a=aZ b
  · rw [if_pos h,h,rZ];simp;omega
  · rw [if_neg h]
    split
    · rename_i h2;simp [h2]
    · rename_i h2;simp [h2,h]
abbrev Fp :={p:Pt//bT p=true}
instance : Inhabited Fp:=⟨⟨⟨⟨1,0,e0⟩,⟨1,1⟩,0,1,Dt.zero,0,false⟩,by decide⟩⟩
def aeM (a b:Fp):Int:=cP a.1 b.1
theorem eG (a b:Pt):dE a b↔b.time<a.time∨b.time=a.time∧(b.dot.dev<a.dot.dev∨b.dot.dev=a.dot.dev∧(b.dot.seq<a.dot.seq∨b.dot.seq=a.dot.seq∧a.at_<b.at_)):=by
  unfold dE
  rw [rQ,Sp.ext_iff]
  simp only [aZ]
  omega
theorem abK :Go.Sort.SWO (ltOf aeM):=by
  have h:∀x y:Fp,ltOf aeM x y=true↔dE x.1 y.1:=fun x y=>by rw [ltOf,decide_eq_true_eq];exact rY _ _
  have hf:∀x y:Fp,ltOf aeM x y=false↔¬dE x.1 y.1:=fun x y=>by rw [←h,Bool.not_eq_true]
  refine ⟨fun x=>(hf x x).2 ?_,fun x y z h1 h2=> ?_,fun x y z h1 h2=> ?_⟩
  · rw [eG];omega
  · rw [h,eG] at h1 h2⊢;omega
  · rw [hf,eG] at h1 h2⊢;omega
def dV (l:List Pt) (k:Nm):List Pt:=l.filter fun p=>decide (aN p=k)
theorem mV {l:List Pt} {i:Nat} (h:i<l.length) (k:Nm):dV (l.take (i+1)) k=if aN l[i]=k then dV (l.take i) k++[l[i]] else dV (l.take i) k:=by
  unfold dV
  rw [List.take_succ_eq_append_getElem h,List.filter_append]
  by_cases hk:aN l[i]=k<;>simp [hk]
def gJ (x:Nat×Nat):PV:= .vec x.1 11 0 x.2
structure FamB (st:aK) (l:List Pt) (idm:Nat) (K:List (Nm×(Nat×Nat))) (S:aK):Prop where
  old:∀j,st j≠none→S j=st j
  hm:S idm=some (.map (bI Nm.enc gJ K))
  mf:st idm=none
  arr:∀k id n,(k,(id,n))∈K→S id=some (.arr 107 ((dV l k).map Pt.cells))∧n=(dV l k).length∧st id=none
  keys:(K.map (·.1)).Nodup
  ids:(K.map (·.2.1)).Nodup
  non:∀k,dN k K=none→dV l k=[]
theorem jB {K V:Type} [DecidableEq K] {k:K} {v:V}:∀{l:List (K×V)},dN k l=some v→(k,v)∈l
  |(k',v')::l,h=>by
    simp only [dN] at h
    split at h
    · rename_i e;injection h with h;subst h;subst e;simp
    · exact List.mem_cons_of_mem _ (jB h)
theorem kU (l:List Pt) (hl:l.length<4611686018427387904):PF Tryz.prog 111 [.seq (l.map Pt.cells)] (.tup [.und,(PV.val (Value.bool (cG l)))]):=fun st=>
  alY (ahC l st hl) fun p st' ⟨⟨m,e⟩,h⟩=>⟨_,e▸Wk.tup (.cons (Wk.und m) (.cons (Wk.refl _) .nil)),rfl,h⟩
theorem iE :Tryz.prog.bytesOf 107=96:=by kernel_rfl
theorem FamB.fresh {st S:aK} {l:List Pt} {idm:Nat} {K:List (Nm×(Nat×Nat))} (h:FamB st l idm K S) {id:Nat} (hid:S id=none):st id=none∧id≠idm∧∀k i n,(k,(i,n))∈K→id≠i:=by
  refine ⟨?_, ?_, ?_⟩
  · cases hs:st id with
    |none=>rfl
    |some o=>have:=h.old id (by rw [hs];simp);rw [hid,hs] at this;cases this
  · intro e;subst e;rw [h.hm] at hid;cases hid
  · intro k i n hk e;subst e;rw [(h.arr k _ n hk).1] at hid;cases hid
theorem FamB.notm {st S:aK} {l:List Pt} {idm:Nat} {K:List (Nm×(Nat×Nat))} (h:FamB st l idm K S) {k:Nm} {i n:Nat} (hk:(k,(i,n))∈K):i≠idm:=by
  intro e;subst e;have:=(h.arr k _ n hk).1;rw [h.hm] at this;cases this
theorem kC {K V:Type} [DecidableEq K] (k k':K) (v:V):∀(l:List (K×V)),dN k' (cX k v l)=if k'=k then some v else dN k' l
  |[]=>by simp only [cX,dN]
  |e::l=>by
    have ih:=kC k k' v l
    simp only [cX]
    split
    · rename_i h;simp only [dN];split<;>simp_all
    · rename_i h;simp only [dN,ih];split
      · rename_i h2;rw [if_neg (fun e=>h (by rw [←e,h2]))]
      · rfl
theorem lO {K V:Type} [DecidableEq K] {k:K} {v:V} {x:K×V}:∀{l:List (K×V)},(l.map (·.1)).Nodup→x∈cX k v l→x=(k,v)∨x∈l∧x.1≠k
  |[],_,h=>by simp only [cX,List.mem_singleton] at h;exact .inl h
  |e::l,hn,h=>by
    simp only [List.map_cons,List.nodup_cons] at hn
    simp only [cX] at h
    split at h
    · rename_i he
      rcases List.mem_cons.1 h with h|h
      · exact .inl h
      · refine .inr ⟨List.mem_cons_of_mem _ h,fun hh=>hn.1 ?_⟩
        rw [←he,←hh];exact List.mem_map.2 ⟨x,h,rfl⟩
    · rename_i he
      rcases List.mem_cons.1 h with h|h
      · subst h;exact .inr ⟨List.mem_cons_self,fun hh=>he hh.symm⟩
      · rcases lO hn.2 h with h|⟨h,h2⟩
        · exact .inl h
        · exact .inr ⟨List.mem_cons_of_mem _ h,h2⟩
theorem pF {K V:Type} [DecidableEq K] {k:K} {v:V}:∀{l:List (K×V)},(l.map (·.1)).Nodup→((cX k v l).map (·.1)).Nodup
  |[],_=>by simp [cX]
  |e::l,hn=>by
    simp only [List.map_cons,List.nodup_cons] at hn
    simp only [cX]
    split
    · rename_i he;simp only [List.map_cons,List.nodup_cons,he];exact hn
    · rename_i he
      simp only [List.map_cons,List.nodup_cons]
      refine ⟨fun hm=> ?_,pF hn.2⟩
      obtain ⟨x,hx,hxe⟩:=List.mem_map.1 hm
      rcases lO hn.2 hx with rfl|⟨h,_⟩
      · exact he hxe
      · exact hn.1 (List.mem_map.2 ⟨x,h,hxe⟩)
theorem rC {K V:Type} [DecidableEq K] {k:K} {v:V} {g:V→Nat}:∀{l:List (K×V)},(l.map fun e=>g e.2).Nodup→(l.map (·.1)).Nodup→(∀e∈l,g e.2≠g v)→((cX k v l).map fun e=>g e.2).Nodup
  |[],_,_,_=>by simp [cX]
  |e::l,hn,hk,hv=>by
    simp only [List.map_cons,List.nodup_cons] at hn hk
    simp only [cX]
    split
    · simp only [List.map_cons,List.nodup_cons]
      refine ⟨fun hm=> ?_,hn.2⟩
      obtain ⟨x,hx,hxe⟩:=List.mem_map.1 hm
      exact hv x (List.mem_cons_of_mem _ hx) hxe
    · simp only [List.map_cons,List.nodup_cons]
      refine ⟨fun hm=> ?_,rC hn.2 hk.2 fun x hx=>hv x (List.mem_cons_of_mem _ hx)⟩
      obtain ⟨x,hx,hxe⟩:=List.mem_map.1 hm
      rcases lO hk.2 hx with rfl|⟨h,_⟩
      · exact hv e List.mem_cons_self hxe.symm
      · exact hn.1 (List.mem_map.2 ⟨x,h,hxe⟩)
theorem mS {α:Type} {g:α→Nat}:∀{l:List α},(l.map g).Nodup→∀{a b},a∈l→b∈l→g a=g b→a=b
  |[],_,_,_,h,_,_=>by cases h
  |x::l,hn,a,b,ha,hb,e=>by
    simp only [List.map_cons,List.nodup_cons] at hn
    rcases List.mem_cons.1 ha with ha|ha<;>rcases List.mem_cons.1 hb with hb|hb
    · rw [ha,hb]
    · exact (hn.1 (List.mem_map.2 ⟨b,hb,by rw [←e,ha]⟩)).elim
    · exact (hn.1 (List.mem_map.2 ⟨a,ha,by rw [e,hb]⟩)).elim
    · exact mS hn.2 ha hb e
theorem FamB.step {st S S1:aK} {l:List Pt} {i:Nat} (hi:i<l.length) {idm id m:Nat} {K:List (Nm×(Nat×Nat))} (h:FamB st (l.take i) idm K S) (hid:S id=none) (hm:m=(dV (l.take i) (aN l[i])).length+1) (hS:∀j,(∀n,(aN l[i],(j,n))∉K)→S1 j=S j):
    FamB st (l.take (i+1)) idm (cX (aN l[i]) (id,m) K) (upd (upd S1 id (some (.arr 107 ((dV (l.take i) (aN l[i])++[l[i]]).map Pt.cells)))) idm (some (.map (bI Nm.enc gJ (cX (aN l[i]) (id,m) K))))):=by
  obtain ⟨f1,f2,f3⟩:=h.fresh hid
  refine ⟨fun j hj=> ?_,aA _ _ _,h.mf,fun k j n hx=> ?_,pF h.keys,rC (g:=(·.1)) h.ids h.keys fun e he=> ?_,fun k hk'=> ?_⟩
  · rw [aD (fun e=>by subst e;exact hj h.mf),aD (fun e=>by subst e;exact hj f1),hS j fun n hn=>hj (h.arr _ j n hn).2.2];exact h.old j hj
  · rcases lO h.keys hx with e|⟨hx,hne⟩
    · simp only [Prod.mk.injEq] at e
      obtain ⟨rfl,rfl,rfl⟩:=e
      rw [mV hi,if_pos rfl,aD f2,aA]
      exact ⟨rfl,by rw [hm];simp,f1⟩
    · obtain ⟨a1,a2,a3⟩:=h.arr k j n hx
      rw [mV hi,if_neg (Ne.symm hne),aD (h.notm hx),aD (fun e=>f3 k j n hx e.symm),hS j fun n' hn'=>hne ?_]
      · exact ⟨a1,a2,a3⟩
      · exact congrArg Prod.fst (mS h.ids hx hn' rfl)
  · exact fun e'=>f3 e.1 e.2.1 e.2.2 he e'.symm
  · rw [kC] at hk'
    split at hk'
    · cases hk'
    · rename_i hne
      rw [mV hi,if_neg (Ne.symm hne)]
      exact h.non k hk'
theorem FamB.nil {st:aK} {idm:Nat} (h:st idm=none):FamB st [] idm [] (upd st idm (some (.map (bI Nm.enc gJ [])))):=
  ⟨fun j hj=>aD fun e=>by subst e;exact hj h,aA _ _ _,h,fun _ _ _ h=>(by cases h),by simp,by simp,fun _ _=>rfl⟩
theorem uS (l:List Pt) (k:Nm):(dV l k).length≤l.length:=List.length_filter_le _ _
end Go.Proofs.YtkaliolnijkadaaGreatDoor.T
namespace Go.Proofs.YtkaliolnijkadaaGreatDoor.T
open Go Go.Abs
attribute [local irreducible] Ev PWp
set_option maxRecDepth 10000
set_option maxHeartbeats 2000000
theorem aiE :PF Tryz.prog 180 [(PV.val (Value.int .u64 ((0:Nat))))] (PV.val (Value.int .i64 ((0:Nat)))):=by
  refine aJ aG Tryz.func180 (by kernel_rfl) rfl rfl rfl rfl (fun st=> ?_)
  (try (apply wO pk;exact rfl));(repeat' (first|(show All _;constructor)|(show Imp _ _;constructor)|(show ImpX _ _ _ _;constructor)|(apply wC pk;(iterate 2 exact rfl))|(apply wE pk;(iterate 2 exact rfl))|(apply wX pk;exact rfl)|(apply wN pk;exact rfl)|(apply wD pk [] [];kernel_rfl;exact rfl;exact rfl)|(apply aB;simp only [cond_true,cond_false])|(refine aC rfl (fun h=> ?_) (fun h=> ?_)<;>(try simp at h)<;>try (exfalso;omega))|(refine aF ?_;first|(refine ⟨_,_,_,rfl,Wk.refl _,StSub.refl _, ?_,rfl⟩;(first|rfl))|(refine ⟨_,_,_,rfl,Wk.refl _,bH (by assumption), ?_,rfl⟩;(first|rfl))|(refine ⟨_,_,_,rfl,Wk.soft _,StSub.refl _, ?_,rfl⟩;(first|rfl))|(refine ⟨_,_,_,rfl,Wk.soft _,bH (by assumption), ?_,rfl⟩;(first|rfl))|(refine ⟨_,_,_,rfl,Wk.refl _,StSub.refl _, ?_,rfl⟩)|(refine ⟨_,_,_,rfl,Wk.soft _,bH (by assumption), ?_,rfl⟩))|(apply alG;(iterate 4 exact rfl);(first|omega|decide);(first|omega|decide);exact rfl)|(apply alE;(iterate 4 exact rfl);(first|omega|decide);(first|omega|decide);exact rfl)|(apply gF 7;(iterate 5 exact rfl);(first|omega|decide);exact rfl)|(apply gF 8;(iterate 5 exact rfl);(first|omega|decide);exact rfl)|(apply gF 13;(iterate 5 exact rfl);(first|omega|decide);exact rfl)|(apply gF 16;(iterate 5 exact rfl);(first|omega|decide);exact rfl)|(apply gF 17;(iterate 5 exact rfl);(first|omega|decide);exact rfl)|(apply gF 32;(iterate 5 exact rfl);(first|omega|decide);exact rfl)|(apply gF;(iterate 5 exact rfl);(first|omega|decide);exact rfl)|(apply gG 7;(iterate 5 exact rfl);(first|omega|decide);exact rfl)|(apply gG 8;(iterate 5 exact rfl);(first|omega|decide);exact rfl)|(apply gG 13;(iterate 5 exact rfl);(first|omega|decide);exact rfl)|(apply gG 16;(iterate 5 exact rfl);(first|omega|decide);exact rfl)|(apply gG 17;(iterate 5 exact rfl);(first|omega|decide);exact rfl)|(apply gG 32;(iterate 5 exact rfl);(first|omega|decide);exact rfl)|(apply gG;(iterate 5 exact rfl);(first|omega|decide);exact rfl)|(apply alK (b:=1);(iterate 5 exact rfl);(first|omega|decide);(first|omega|decide);exact rfl)|(apply cvA pk.htt;(iterate 5 exact rfl);(refine ⟨?_, ?_⟩<;>(first|omega|decide));exact rfl)|(apply sxA pk.htt 0 0;(iterate 6 exact rfl);kernel_rfl;exact rfl)|(intros;(try simp only [List.length_map]);omega)|((exact ⟨by decide,by decide⟩))))
theorem akC {y:Int} (hy:y=0):PF Tryz.prog 145 [(PV.val (Value.int .u64 (y)))] (PV.val (Value.int .i64 ((0:Nat)))):=by
  subst hy
  refine aJ aG Tryz.func145 (by kernel_rfl) rfl rfl rfl rfl (fun st=> ?_)
  (try (apply wO pk;exact rfl));(repeat' (first|(show All _;constructor)|(show Imp _ _;constructor)|(show ImpX _ _ _ _;constructor)|(apply wC pk;(iterate 2 exact rfl))|(apply wE pk;(iterate 2 exact rfl))|(apply wX pk;exact rfl)|(apply wN pk;exact rfl)|(apply wD pk [] [];kernel_rfl;exact rfl;exact rfl)|(apply aB;simp only [cond_true,cond_false])|(refine aC rfl (fun h=> ?_) (fun h=> ?_)<;>(try simp at h)<;>try (exfalso;omega))|(refine aF ?_;refine ⟨_,_,_,rfl,Wk.refl _,StSub.refl _, ?_,rfl⟩;try rfl)|(apply aL;(iterate 3 exact rfl);(intro _;apply aiE<;>first|assumption|omega);rotate_left;(iterate 2 exact rfl))|(intros;(try simp only [List.length_map]);omega)))
section
variable {fid:FuncId} {caps:List PV} {st:aK}
theorem aiW :PC Tryz.prog 201 [.seq [],(PV.val (Value.int .i64 (0))),(PV.val (Value.int .i64 (0))), .fn fid caps] st fun _ st'=>st'=st:=by
  refine dG aG Tryz.func201 (by kernel_rfl) rfl rfl rfl rfl ?_
  (try (apply wO pk;exact rfl));(repeat' (first|(show All _;constructor)|(show Imp _ _;constructor)|(show ImpX _ _ _ _;constructor)|(apply wC pk;(iterate 2 exact rfl))|(apply wE pk;(iterate 2 exact rfl))|(apply wX pk;exact rfl)|(apply wN pk;exact rfl)|(apply wD pk [] [];kernel_rfl;exact rfl;exact rfl)|(apply aB;simp only [cond_true,cond_false])|(refine aC rfl (fun h=> ?_) (fun h=> ?_)<;>(try simp at h)<;>try (exfalso;omega))|(refine aF ?_;refine ⟨_,_,_,rfl,Wk.refl _,StSub.refl _, ?_,rfl⟩;try rfl)|(intros;(try simp only [List.length_map]);omega)))
  refine aM (X:=Unit) (fun i=>((((((St.nil 53 st).pv 0 (.seq [])).pv 1 ((PV.val (Value.int .i64 (0))))).pv 2 ((PV.val (Value.int .i64 (0))))).pv 3 (.fn fid caps)).pv 8 ((PV.val (Value.int .i64 (1)))))) (fun i=>0) () ?_ (fun i=> ?_)
  · ((repeat (first|refine Sub.pv ?_ rfl|refine Sub.var ?_ rfl rfl));exact Sub.nil _ _ _ (StSub.refl _) rfl)
  (try (apply wO pk;exact rfl));(repeat' (first|(show All _;constructor)|(show Imp _ _;constructor)|(show ImpX _ _ _ _;constructor)|(apply wC pk;(iterate 2 exact rfl))|(apply wE pk;(iterate 2 exact rfl))|(apply wX pk;exact rfl)|(apply wN pk;exact rfl)|(apply wDx pk;exact rfl;kernel_rfl;exact rfl;exact rfl)|(apply aB;simp only [cond_true,cond_false])|(refine aC rfl (fun h=> ?_) (fun h=> ?_)<;>(try simp at h)<;>try (exfalso;omega))|((try refine aF ?_);(first|(refine ⟨_,_,_,rfl,Wk.refl _,StSub.refl _, ?_⟩;((exact rfl));done)|(refine ⟨_,_, ?zs,rfl,Wk.refl _, ?zh, ?zr⟩;(case zh=>(refine aH ?_ (by assumption);(repeat refine aH ?_ (by assumption));exact StSub.refl _));(case zr=>((exact rfl))))|refine ⟨_,_,_,rfl,Wk.refl _,StSub.refl _, ?_⟩))|(apply ncA;(iterate 3 exact rfl);rotate_left;exact rfl;exact rfl)|(apply ldR pk;exact rfl;exact rfl;rotate_left;exact rfl;(first|exact aA _ _ _|assumption|(focus ((repeat (first|exact aA _ _ _|assumption|refine (aD (by assumption)).trans ?_));done)));exact rfl;exact rfl)|(apply stR pk;exact rfl;exact rfl;(first|exact aA _ _ _|assumption|(focus ((repeat (first|exact aA _ _ _|assumption|refine (aD (by assumption)).trans ?_));done)));exact rfl;exact rfl)|(intros;(try simp only [List.length_map]);omega)))
theorem aiL {lim:Int}:PC Tryz.prog 185 [.seq [],(PV.val (Value.int .i64 (0))),(PV.val (Value.int .i64 (0))),(PV.val (Value.int .i64 (lim))), .fn fid caps] st fun _ st'=>st'=st:=by
  refine dG aG Tryz.func185 (by kernel_rfl) rfl rfl rfl rfl ?_
  (try (apply wO pk;exact rfl));(repeat' (first|(show All _;constructor)|(show Imp _ _;constructor)|(show ImpX _ _ _ _;constructor)|(apply wC pk;(iterate 2 exact rfl))|(apply wE pk;(iterate 2 exact rfl))|(apply wX pk;exact rfl)|(apply wN pk;exact rfl)|(apply wD pk [] [];kernel_rfl;exact rfl;exact rfl)|(apply aB;simp only [cond_true,cond_false])|(refine aC rfl (fun h=> ?_) (fun h=> ?_)<;>(try simp at h)<;>try (exfalso;omega))|(refine aF ?_;refine ⟨_,_,_,rfl,Wk.refl _,StSub.refl _, ?_,rfl⟩;try rfl)|(intros;(try simp only [List.length_map]);omega)))
  refine aM (X:=Unit) (fun i=>((((((((St.nil 148 st).pv 0 (.seq [])).pv 1 ((PV.val (Value.int .i64 (0))))).pv 2 ((PV.val (Value.int .i64 (0))))).pv 3 ((PV.val (Value.int .i64 (lim))))).pv 4 (.fn fid caps)).pv 10 ((PV.val (Value.bool (true))))).pv 11 ((PV.val (Value.bool (true)))))) (fun i=>0) () ?_ (fun i=> ?_)
  · ((repeat (first|refine Sub.pv ?_ rfl|refine Sub.var ?_ rfl rfl));exact Sub.nil _ _ _ (StSub.refl _) rfl)
  (try (apply wO pk;exact rfl));(repeat' (first|(show All _;constructor)|(show Imp _ _;constructor)|(show ImpX _ _ _ _;constructor)|(apply wC pk;(iterate 2 exact rfl))|(apply wE pk;(iterate 2 exact rfl))|(apply wX pk;exact rfl)|(apply wN pk;exact rfl)|(apply wDx pk;exact rfl;kernel_rfl;exact rfl;exact rfl)|(apply aB;simp only [cond_true,cond_false])|(refine aC rfl (fun h=> ?_) (fun h=> ?_)<;>(try simp at h)<;>try (exfalso;omega))|((try refine aF ?_);(first|(refine ⟨_,_,_,rfl,Wk.refl _,StSub.refl _, ?_⟩;((exact rfl));done)|(refine ⟨_,_, ?zs,rfl,Wk.refl _, ?zh, ?zr⟩;(case zh=>(refine aH ?_ (by assumption);(repeat refine aH ?_ (by assumption));exact StSub.refl _));(case zr=>((exact rfl))))|refine ⟨_,_,_,rfl,Wk.refl _,StSub.refl _, ?_⟩))|(apply ncA;(iterate 3 exact rfl);rotate_left;exact rfl;exact rfl)|(apply ldR pk;exact rfl;exact rfl;rotate_left;exact rfl;(first|exact aA _ _ _|assumption|(focus ((repeat (first|exact aA _ _ _|assumption|refine (aD (by assumption)).trans ?_));done)));exact rfl;exact rfl)|(apply stR pk;exact rfl;exact rfl;(first|exact aA _ _ _|assumption|(focus ((repeat (first|exact aA _ _ _|assumption|refine (aD (by assumption)).trans ?_));done)));exact rfl;exact rfl)|(apply cR;exact rfl;exact rfl;(first|(apply aiW<;>first|exact aA _ _ _|assumption|omega|(simp only [Array.size_setIfInBounds];omega)|(first|exact aA _ _ _|assumption|(focus ((repeat (first|exact aA _ _ _|assumption|refine (aD (by assumption)).trans ?_));done)))));(iterate 3 exact rfl);intro _ st' hR;(first|subst hR|obtain ⟨rfl,rfl⟩:=hR))|(intros;(try simp only [List.length_map]);omega)))
theorem agT :PC Tryz.prog 151 [.seq [], .fn fid caps] st fun _ st'=>st'=st:=by
  refine dG aG Tryz.func151 (by kernel_rfl) rfl rfl rfl rfl ?_
  (try (apply wO pk;exact rfl));(repeat' (first|(show All _;constructor)|(show Imp _ _;constructor)|(show ImpX _ _ _ _;constructor)|(apply wC pk;(iterate 2 exact rfl))|(apply wE pk;(iterate 2 exact rfl))|(apply wX pk;exact rfl)|(apply wN pk;exact rfl)|(apply wDx pk;exact rfl;kernel_rfl;exact rfl;exact rfl)|(apply aB;simp only [cond_true,cond_false])|(refine aC rfl (fun h=> ?_) (fun h=> ?_)<;>(try simp at h)<;>try (exfalso;omega))|((try refine aF ?_);(first|(refine ⟨_,_,_,rfl,Wk.refl _,StSub.refl _, ?_⟩;((exact rfl));done)|(refine ⟨_,_, ?zs,rfl,Wk.refl _, ?zh, ?zr⟩;(case zh=>(refine aH ?_ (by assumption);(repeat refine aH ?_ (by assumption));exact StSub.refl _));(case zr=>((exact rfl))))|refine ⟨_,_,_,rfl,Wk.refl _,StSub.refl _, ?_⟩))|(apply aL;(iterate 3 exact rfl);(intro _;apply (akC rfl)<;>first|assumption|omega);rotate_left;(iterate 2 exact rfl))|(apply fB;(iterate 3 exact rfl);(intro _;apply (akC rfl)<;>first|assumption|omega);rotate_left;(iterate 2 exact rfl))|(apply ncA;(iterate 3 exact rfl);rotate_left;exact rfl;exact rfl)|(apply ldR pk;exact rfl;exact rfl;rotate_left;exact rfl;(first|exact aA _ _ _|assumption|(focus ((repeat (first|exact aA _ _ _|assumption|refine (aD (by assumption)).trans ?_));done)));exact rfl;exact rfl)|(apply stR pk;exact rfl;exact rfl;(first|exact aA _ _ _|assumption|(focus ((repeat (first|exact aA _ _ _|assumption|refine (aD (by assumption)).trans ?_));done)));exact rfl;exact rfl)|(apply cR;exact rfl;exact rfl;(first|(apply aiL<;>first|exact aA _ _ _|assumption|omega|(simp only [Array.size_setIfInBounds];omega)|(first|exact aA _ _ _|assumption|(focus ((repeat (first|exact aA _ _ _|assumption|refine (aD (by assumption)).trans ?_));done)))));(iterate 3 exact rfl);intro _ st' hR;(first|subst hR|obtain ⟨rfl,rfl⟩:=hR))|(apply alG;(iterate 4 exact rfl);(first|omega|decide);(first|omega|decide);exact rfl)|(apply alE;(iterate 4 exact rfl);(first|omega|decide);(first|omega|decide);exact rfl)|(apply gF 7;(iterate 5 exact rfl);(first|omega|decide);exact rfl)|(apply gF 8;(iterate 5 exact rfl);(first|omega|decide);exact rfl)|(apply gF 13;(iterate 5 exact rfl);(first|omega|decide);exact rfl)|(apply gF 16;(iterate 5 exact rfl);(first|omega|decide);exact rfl)|(apply gF 17;(iterate 5 exact rfl);(first|omega|decide);exact rfl)|(apply gF 32;(iterate 5 exact rfl);(first|omega|decide);exact rfl)|(apply gF;(iterate 5 exact rfl);(first|omega|decide);exact rfl)|(apply gG 7;(iterate 5 exact rfl);(first|omega|decide);exact rfl)|(apply gG 8;(iterate 5 exact rfl);(first|omega|decide);exact rfl)|(apply gG 13;(iterate 5 exact rfl);(first|omega|decide);exact rfl)|(apply gG 16;(iterate 5 exact rfl);(first|omega|decide);exact rfl)|(apply gG 17;(iterate 5 exact rfl);(first|omega|decide);exact rfl)|(apply gG 32;(iterate 5 exact rfl);(first|omega|decide);exact rfl)|(apply gG;(iterate 5 exact rfl);(first|omega|decide);exact rfl)|(apply alK (b:=1);(iterate 5 exact rfl);(first|omega|decide);(first|omega|decide);exact rfl)|(apply cvA pk.htt;(iterate 5 exact rfl);(refine ⟨?_, ?_⟩<;>(first|omega|decide));exact rfl)|(intros;(try simp only [List.length_map]);omega)))
end
theorem xT {S:aK} {l:List Pt} {id n:Nat} (hf:∀p∈l,bT p=true) (hst:S id=some (.arr 107 (l.map Pt.cells))) (hn:l.length=n) (h62:n<4611686018427387904):
    PC Tryz.prog 151 [.vec id 11 0 n, .fn 152 []] S fun _ S'=>∃R:List Pt,S'=upd S id (some (.arr 107 (R.map Pt.cells)))∧R.Perm l∧R.Pairwise fun x y=>¬dE y x:=by
  have e:(l.attach.map fun x=>(⟨x.1,hf x.1 x.2⟩:Fp)).map (fun x=>([.int .i64 x.1.val.kind, .int .i64 x.1.val.n, .string x.1.val.s, .int .i64 x.1.dot.dev, .int .i64 x.1.dot.seq, .int .i64 x.1.at_, .int .i64 x.1.time, .int .i64 x.1.after.dev, .int .i64 x.1.after.seq, .int .i64 x.1.afterAt, .bool x.1.gone]:List Value).map PV.val)=l.map Pt.cells:=by
    rw [List.map_map]
    show l.attach.map (fun x=>Pt.cells x.1)=_
    rw [List.attach_map_val]
  have:=afB (P:=Tryz.prog) amV (by kernel_rfl) (k:=11) Tryz.isAgg107 Tryz.sizeOf107 (enc:=fun x:Fp=>[.int .i64 x.1.val.kind, .int .i64 x.1.val.n, .string x.1.val.s, .int .i64 x.1.dot.dev, .int .i64 x.1.dot.seq, .int .i64 x.1.at_, .int .i64 x.1.time, .int .i64 x.1.after.dev, .int .i64 x.1.after.seq, .int .i64 x.1.afterAt, .bool x.1.gone]) (fun _=>rfl) (fun x v hv=>by simp only [List.mem_cons,List.not_mem_nil,or_false] at hv;rcases hv with rfl|rfl|rfl|rfl|rfl|rfl|rfl|rfl|rfl|rfl|rfl<;>rfl) (cmp:=aeM) abK
    (gf:=152) (by kernel_rfl) (fun x y=>eQ x.1 y.1 x.2 y.2) (st:=S) (id:=id) (n:=n) (d:=l.attach.map fun x=>⟨x.1,hf x.1 x.2⟩) (e:=107) (by kernel_rfl) (by rw [e];exact hst) (by simpa using hn) h62
  refine ⟨this.1,fun w g vs h1 h2=>(this.2 w g vs h1 h2).mono ?_⟩
  rintro e w' ⟨v,q,S',g',h3,⟨r,hS,hp,hw⟩,h4⟩
  refine ⟨v,q,S',g',h3,⟨r.map (·.1), ?_, ?_, ?_⟩,h4⟩
  · rw [hS,List.map_map];rfl
  · have:=hp.map (·.1)
    rwa [List.map_map,show ((fun x:Fp=>x.1)∘fun x:{x//x∈l}=>(⟨x.1,hf x.1 x.2⟩:Fp))=Subtype.val from rfl,List.attach_map_subtype_val] at this
  · rw [List.pairwise_map]
    exact hw.imp fun {a b} h=>by rwa [aeM,rY] at h
end Go.Proofs.YtkaliolnijkadaaGreatDoor.T
namespace Go.Proofs.YtkaliolnijkadaaGreatDoor.T
open Go Go.Abs
attribute [local irreducible] Ev PWp
set_option maxRecDepth 10000
set_option maxHeartbeats 1000000
instance (a b:Pt):Decidable (dE a b):=by unfold dE;infer_instance
def xU (p:Pt):List Pt→List Pt
  |[]=>[p]
  |q::r=>if dE q p then q::xU p r else p::q::r
def bW (l:List Pt) (k:Nm):List Pt:=(dV l k).foldr xU []
def cZ (l:List Pt):Nat→Nm→List Pt
  |0,_=>[]
  |n+1,k=>(bW l k).flatMap fun p=>p::cZ l n (aO p)
def zR (l:List Pt):Nat→Nm→Prop
  |0,k=>dV l k=[]
  |n+1,k=>∀p∈dV l k,zR l n (aO p)
theorem amD {α:Type} {r:α→α→Prop}:∀{l m:List α},l.Perm m→l.Pairwise r→m.Pairwise r→(∀a∈l,∀b∈l,r a b→r b a→a=b)→l=m
  |[],m,h,_,_,_=>(List.Perm.nil_eq h)
  |a::l,[],h,_,_,_=>(by cases List.Perm.eq_nil h)
  |a::l,b::m,h,h1,h2,ha=>by
    have hab:a=b:=by
      rcases List.mem_cons.1 (h.symm.subset (List.mem_cons_self:b∈b::m)) with e|e
      · exact e.symm
      · rcases List.mem_cons.1 (h.subset (List.mem_cons_self:a∈a::l)) with e'|e'
        · exact e'
        · exact ha a List.mem_cons_self b (List.mem_cons_of_mem _ e) ((List.pairwise_cons.1 h1).1 b e) ((List.pairwise_cons.1 h2).1 a e')
    subst hab
    rw [amD ((List.perm_cons a).1 h) (List.pairwise_cons.1 h1).2 (List.pairwise_cons.1 h2).2 fun x hx y hy=>ha x (List.mem_cons_of_mem _ hx) y (List.mem_cons_of_mem _ hy)]
theorem mT (p:Pt):∀(l:List Pt),(xU p l).Perm (p::l)
  |[]=> .refl _
  |q::r=>by
    unfold xU
    split
    · exact ((mT p r).cons q).trans (.swap p q r)
    · exact .refl _
theorem nZ (p:Pt):∀(l:List Pt),(l.Pairwise fun x y=>¬dE y x)→(xU p l).Pairwise fun x y=>¬dE y x
  |[],_=>by simp [xU]
  |q::r,h=>by
    obtain ⟨h1,h2⟩:=List.pairwise_cons.1 h
    unfold xU
    split
    · rename_i hk
      refine List.pairwise_cons.2 ⟨fun x hx=> ?_,nZ p r h2⟩
      rcases List.mem_cons.1 ((mT p r).subset hx) with rfl|hx
      · rw [eG] at hk⊢;omega
      · exact h1 x hx
    · rename_i hk
      refine List.pairwise_cons.2 ⟨fun x hx=> ?_,h⟩
      rcases List.mem_cons.1 hx with rfl|hx
      · exact hk
      · have:=h1 x hx
        rw [eG] at hk this⊢;omega
theorem eS (l:List Pt) (k:Nm):(bW l k).Perm (dV l k):=by
  unfold bW
  generalize dV l k=m
  induction m with
  |nil=>exact .refl _
  |cons p r ih=>exact (mT p _).trans (ih.cons p)
theorem mB (l:List Pt) (k:Nm):(bW l k).Pairwise fun x y=>¬dE y x:=by
  unfold bW
  generalize dV l k=m
  induction m with
  |nil=>exact List.Pairwise.nil
  |cons p r ih=>exact nZ p _ ih
def named (l:List Pt):Prop:=∀a∈l,∀b∈l,aO a=aO b→a=b
theorem aaY {l:List Pt} (hn:named l) {a b:Pt} (ha:a∈l) (hb:b∈l) (h1:¬dE a b) (h2:¬dE b a):a=b:=by
  refine hn a ha b hb ?_
  rw [eG] at h1 h2
  rw [aO,aO,Nm.mk.injEq,Dt.ext_iff]
  omega
theorem ahF {l R:List Pt} {k:Nm} (hn:named l) (hp:R.Perm (dV l k)) (hs:R.Pairwise fun x y=>¬dE y x):R=bW l k:=by
  refine amD (hp.trans (eS l k).symm) hs (mB l k) fun a ha b hb h1 h2=> ?_
  have hm:∀x∈R,x∈l:=fun x hx=>(List.mem_filter.1 (hp.subset hx)).1
  exact aaY hn (hm a ha) (hm b hb) h2 h1
structure HS (st:aK) (l:List Pt) (id5 id8 id9 idm:Nat) (K:List (Nm×(Nat×Nat))) (S:aK) (A:Nm→List Pt) (out:List Pt):Prop where
  old:∀j,st j≠none→S j=st j
  f5:st id5=none
  f8:st id8=none
  f9:st id9=none
  fm:st idm=none
  h5:S id5=some (.cells 179 [.mref idm])
  h9:S id9=some (.cells 180 [.fn 150 [.ref id5 0, .ref id8 0, .ref id9 0]])
  hm:S idm=some (.map (bI Nm.enc gJ K))
  arr:∀k id n,(k,(id,n))∈K→S id=some (.arr 107 ((A k).map Pt.cells))∧n=(dV l k).length∧st id=none
  ids:(K.map (·.2.1)).Nodup
  keys:(K.map (·.1)).Nodup
  non:∀k,dN k K=none→dV l k=[]
  perm:∀k,(A k).Perm (dV l k)
  h8:(S id8=some (.cells 70 [.val (.slice none 0 0)])∧out=[])∨∃ido,S id8=some (.cells 70 [.vec ido 11 0 out.length])∧S ido=some (.arr 107 (out.map Pt.cells))∧st ido=none∧∀k n,(k,(ido,n))∉K
section
variable {st S:aK} {l:List Pt} {id5 id8 id9 idm:Nat} {K:List (Nm×(Nat×Nat))} {A:Nm→List Pt} {out:List Pt}
theorem HS.sorted (h:HS st l id5 id8 id9 idm K S A out) {k:Nm} {id n:Nat} (hk:(k,(id,n))∈K) {R:List Pt} (hR:R.Perm (A k)):
    HS st l id5 id8 id9 idm K (upd S id (some (.arr 107 (R.map Pt.cells)))) (fun k'=>if k'=k then R else A k') out:=by
  obtain ⟨a1,a2,a3⟩:=h.arr k id n hk
  have n5:id5≠id:=fun e=>by rw [←e,h.h5] at a1;cases a1
  have n9:id9≠id:=fun e=>by rw [←e,h.h9] at a1;cases a1
  have nm:idm≠id:=fun e=>by rw [←e,h.hm] at a1;cases a1
  have n8:id8≠id:=fun e=>by rcases h.h8 with ⟨h8,_⟩|⟨ido,h8,_⟩<;>rw [←e,h8] at a1<;>cases a1
  refine ⟨fun j hj=> ?_,h.f5,h.f8,h.f9,h.fm,(aD n5).trans h.h5,(aD n9).trans h.h9,(aD nm).trans h.hm,fun k' j m hk'=> ?_,h.ids,h.keys,h.non,fun k'=> ?_, ?_⟩
  · rw [aD (fun e=>by subst e;exact hj a3)];exact h.old j hj
  · obtain ⟨b1,b2,b3⟩:=h.arr k' j m hk'
    by_cases hj:j=id
    · subst hj
      have:=mS h.ids hk hk' rfl
      simp only [Prod.mk.injEq] at this
      obtain ⟨rfl,_⟩:=this
      exact ⟨by rw [aA,if_pos rfl],b2,b3⟩
    · refine ⟨?_,b2,b3⟩
      rw [aD hj,b1,if_neg]
      intro e
      subst e
      have hkk:∀{K:List (Nm×(Nat×Nat))},(K.map (·.1)).Nodup→(k',(id,n))∈K→(k',(j,m))∈K→id=j:=by
        intro K hn
        induction K with
        |nil=>intro h;cases h
        |cons x K ih=>
          intro h1 h2
          simp only [List.map_cons,List.nodup_cons] at hn
          rcases List.mem_cons.1 h1 with e1|e1<;>rcases List.mem_cons.1 h2 with e2|e2
          · rw [←e1] at e2;exact (Prod.mk.inj (Prod.mk.inj e2).2).1.symm
          · exact (hn.1 (List.mem_map.2 ⟨_,e2,by rw [←e1]⟩)).elim
          · exact (hn.1 (List.mem_map.2 ⟨_,e1,by rw [←e2]⟩)).elim
          · exact ih hn.2 e1 e2
      exact hj (hkk h.keys hk hk').symm
  · by_cases hk':k'=k
    · subst hk';simp only [if_true];exact hR.trans (h.perm k')
    · simp only [if_neg hk'];exact h.perm k'
  · rcases h.h8 with ⟨h8,e⟩|⟨ido,h8,b1,b2,b3⟩
    · exact .inl ⟨(aD n8).trans h8,e⟩
    · exact .inr ⟨ido,(aD n8).trans h8,(aD fun e=>b3 k n (by rw [e];exact hk)).trans b1,b2,b3⟩
theorem HS.push (h:HS st l id5 id8 id9 idm K S A out) {S1:aK} {id':Nat} (p:Pt) (hid:S id'=none) (hS:∀j,S1 j=S j∨st j=none∧j≠id5∧j≠id9∧j≠idm∧∀k n,(k,(j,n))∉K):
    HS st l id5 id8 id9 idm K (upd (upd S1 id' (some (.arr 107 ((out++[p]).map Pt.cells)))) id8 (some (.cells 70 [.vec id' 11 0 (out.length+1)]))) A (out++[p]):=by
  have n5:id5≠id':=fun e=>by rw [←e,h.h5] at hid;cases hid
  have n9:id9≠id':=fun e=>by rw [←e,h.h9] at hid;cases hid
  have nm:idm≠id':=fun e=>by rw [←e,h.hm] at hid;cases hid
  have n8:id8≠id':=fun e=>by rcases h.h8 with ⟨h8,_⟩|⟨ido,h8,_⟩<;>rw [←e,h8] at hid<;>cases hid
  have m5:id5≠id8:=fun e=>by have:=h.h5;rcases h.h8 with ⟨h8,_⟩|⟨ido,h8,_⟩<;>rw [e,h8] at this<;>cases this
  have m9:id9≠id8:=fun e=>by have:=h.h9;rcases h.h8 with ⟨h8,_⟩|⟨ido,h8,_⟩<;>rw [e,h8] at this<;>cases this
  have mm:idm≠id8:=fun e=>by have:=h.hm;rcases h.h8 with ⟨h8,_⟩|⟨ido,h8,_⟩<;>rw [e,h8] at this<;>cases this
  have hi:st id'=none:=by
    cases hs:st id' with
    |none=>rfl
    |some o=>have:=h.old id' (by rw [hs];simp);rw [hid,hs] at this;cases this
  have g:∀j,j≠id8→j≠id'→(∀h:st j=none∧j≠id5∧j≠id9∧j≠idm∧∀k n,(k,(j,n))∉K,False)→upd (upd S1 id' (some (.arr 107 ((out++[p]).map Pt.cells)))) id8 (some (.cells 70 [.vec id' 11 0 (out.length+1)])) j=S j:=fun j h1 h2 h3=>by
    rw [aD h1,aD h2]
    rcases hS j with e|e
    · exact e
    · exact (h3 e).elim
  refine ⟨fun j hj=> ?_,h.f5,h.f8,h.f9,h.fm,(g id5 m5 n5 fun e=>e.2.1 rfl).trans h.h5,(g id9 m9 n9 fun e=>e.2.2.1 rfl).trans h.h9,(g idm mm nm fun e=>e.2.2.2.1 rfl).trans h.hm,fun k j n hk=> ?_,h.ids,h.keys,h.non,h.perm, ?_⟩
  · rw [g j (fun e=>by subst e;exact hj h.f8) (fun e=>by subst e;exact hj hi) fun e=>hj e.1];exact h.old j hj
  · obtain ⟨b1,b2,b3⟩:=h.arr k j n hk
    have e8:j≠id8:=fun e=>by rcases h.h8 with ⟨h8,_⟩|⟨ido,h8,_⟩<;>rw [e,h8] at b1<;>cases b1
    have e':j≠id':=fun e=>by rw [e,hid] at b1;cases b1
    rw [g j e8 e' fun e=>e.2.2.2.2 k n hk]
    exact ⟨b1,b2,b3⟩
  · refine .inr ⟨id',by rw [aA];simp,by rw [aD (Ne.symm n8),aA],hi,fun k n hk=> ?_⟩
    have:=(h.arr k id' n hk).1
    rw [hid] at this;cases this
theorem eP {k:Nm} {p:Pt} (h:p∈bW l k):p∈l∧p∈dV l k:=by
  have:=(eS l k).subset h
  exact ⟨(List.mem_filter.1 this).1,this⟩
theorem acK (hn:named l) (hf:∀p∈l,bT p=true) (h62:l.length<4611686018427387904):∀(n:Nat) (up:Nm) (S:aK) (A:Nm→List Pt) (out:List Pt),zR l n up→out.length+(cZ l n up).length≤1000000→HS st l id5 id8 id9 idm K S A out→
    PC Tryz.prog 150 [.agg up.cells, .ref id5 0, .ref id8 0, .ref id9 0] S fun _ S'=>∃A',HS st l id5 id8 id9 idm K S' A' (out++cZ l n up)∧∀k,A k=bW l k→A' k=bW l k:=by
  intro n
  induction n using Nat.strongRecOn with
  |ind n ih=> ?_
  intro up S A out hd hB h
  have hk:∀p∈dV l up,n≠0∧zR l (n-1) (aO p):=fun p hp=>by
    cases n with
    |zero=>rw [show dV l up=[] from hd] at hp;cases hp
    |succ n=>exact ⟨by omega,hd p hp⟩
  have hh:cZ l n up=(bW l up).flatMap fun p=>p::cZ l (n-1) (aO p):=by
    cases n with
    |zero=>rw [show bW l up=[] from List.Perm.eq_nil ((eS l up).trans (by rw [show dV l up=[] from hd]))];rfl
    |succ n=>rfl
  rw [hh] at hB
  rw [hh]
  clear hh hd
  have hh5:=h.h5
  have hhm:=h.hm
  refine dG aG Tryz.func150 (by kernel_rfl) rfl rfl rfl rfl ?_
  (try (apply wO pk;exact rfl));(repeat' (first|(show All _;constructor)|(show Imp _ _;constructor)|(show ImpX _ _ _ _;constructor)|(apply wC pk;(iterate 2 exact rfl))|(apply wE pk;(iterate 2 exact rfl))|(apply wX pk;exact rfl)|(apply wN pk;exact rfl)|(apply wDm pk;exact rfl;kernel_rfl;exact rfl;exact rfl)|(apply aB;simp only [cond_true,cond_false])|(refine aC rfl (fun h=> ?_) (fun h=> ?_)<;>(try simp at h)<;>try (exfalso;omega))|(refine aF ?_;refine ⟨_,_,_,rfl,Wk.refl _,StSub.refl _, ?_,rfl⟩;try rfl)|(apply ncA;(iterate 3 exact rfl);rotate_left;exact rfl;exact rfl)|(apply ldR pk;exact rfl;exact rfl;rotate_left;exact rfl;(first|exact aA _ _ _|assumption|(focus ((repeat (first|exact aA _ _ _|assumption|refine (aD (by assumption)).trans ?_));done)));exact rfl;exact rfl)|(apply stR pk;exact rfl;exact rfl;(first|exact aA _ _ _|assumption|(focus ((repeat (first|exact aA _ _ _|assumption|refine (aD (by assumption)).trans ?_));done)));exact rfl;exact rfl)|(apply yE pk Nm.key (f:=gJ);(iterate 5 exact rfl);rotate_left;exact rfl;(first|exact aA _ _ _|assumption|(focus ((repeat (first|exact aA _ _ _|assumption|refine (aD (by assumption)).trans ?_));done)));exact rfl;intro v hv;rotate_left;intro hv;rotate_left)|(apply muA pk Nm.key (f:=gJ);(first|exact .inl rfl|exact .inr rfl);(iterate 5 exact rfl);(first|exact aA _ _ _|assumption|(focus ((repeat (first|exact aA _ _ _|assumption|refine (aD (by assumption)).trans ?_));done)));exact rfl)|(apply meA pk Nm.key (f:=gJ) (z:=(0,0));(iterate 6 exact rfl);(first|exact aA _ _ _|assumption|(focus ((repeat (first|exact aA _ _ _|assumption|refine (aD (by assumption)).trans ?_));done)));exact rfl)|(apply yE pk Nm.key (f:=gJ) (k:=up);(iterate 5 exact rfl);rotate_left;exact rfl;(first|exact aA _ _ _|assumption|(focus ((repeat (first|exact aA _ _ _|assumption|refine (aD (by assumption)).trans ?_));done)));exact rfl;intro v hv;rotate_left;intro hv;rotate_left)|(apply muA pk Nm.key (f:=gJ) (k:=up);(first|exact .inl rfl|exact .inr rfl);(iterate 5 exact rfl);(first|exact aA _ _ _|assumption|(focus ((repeat (first|exact aA _ _ _|assumption|refine (aD (by assumption)).trans ?_));done)));exact rfl)|(apply meA pk Nm.key (f:=gJ) (z:=(0,0)) (k:=up);(iterate 6 exact rfl);(first|exact aA _ _ _|assumption|(focus ((repeat (first|exact aA _ _ _|assumption|refine (aD (by assumption)).trans ?_));done)));exact rfl)|(apply esA pk Nm.key (f:=gJ);(iterate 4 exact rfl);(first|exact aA _ _ _|assumption|(focus ((repeat (first|exact aA _ _ _|assumption|refine (aD (by assumption)).trans ?_));done)));exact rfl)|(apply ixA pk;(iterate 5 exact rfl);rotate_left;exact rfl;(intro hw;(first|exact rfl|(simp [gw] at hw;first|fail|(refine (show _=((0:Nat):Int) from ?_);omega))|exact rfl));(intro hw;(first|omega|(focus (simp [gw] at hw;done))|(simp [gw] at hw;omega)|(simp only [Array.size_setIfInBounds];omega)));exact rfl;(first|exact Nat.zero_add _|exact rfl))|(apply ldA pk Pt.elem;exact rfl;exact rfl;rotate_left;exact rfl;(first|exact aA _ _ _|assumption|(focus ((repeat (first|exact aA _ _ _|assumption|refine (aD (by assumption)).trans ?_));done)));(intro hw;(first|omega|(focus (simp [gw] at hw;done))|(simp [gw] at hw;omega)|(simp only [Array.size_setIfInBounds];omega)));exact rfl)|(apply stA pk Pt.elem;(iterate 3 exact rfl);(first|exact aA _ _ _|assumption|(focus ((repeat (first|exact aA _ _ _|assumption|refine (aD (by assumption)).trans ?_));done)));(first|omega|(simp only [Array.size_setIfInBounds];omega));exact rfl)|(intros;(try simp only [List.length_map]);omega)))
  · obtain ⟨id,m⟩:=v
    have hmem:=jB hv
    obtain ⟨a1,a2,a3⟩:=h.arr _ _ _ hmem
    have hlen:(A up).length=m:=by rw [(h.perm up).length_eq,a2]
    have hAf:∀p∈A up,bT p=true:=fun p hp=>hf p (List.mem_filter.1 ((h.perm up).subset hp)).1
    have h62':m<4611686018427387904:=by have:=uS l up;omega
    (try (apply wO pk;exact rfl));(repeat' (first|(show All _;constructor)|(show Imp _ _;constructor)|(show ImpX _ _ _ _;constructor)|(apply wC pk;(iterate 2 exact rfl))|(apply wE pk;(iterate 2 exact rfl))|(apply wX pk;exact rfl)|(apply wN pk;exact rfl)|(apply wDx pk;exact rfl;kernel_rfl;exact rfl;exact rfl)|(apply aB;simp only [cond_true,cond_false])|(refine aC rfl (fun h=> ?_) (fun h=> ?_)<;>(try simp at h)<;>try (exfalso;omega))|(refine aF ?_;refine ⟨_,_,_,rfl,Wk.refl _,StSub.refl _, ?_,rfl⟩;try rfl)|(apply ncA;(iterate 3 exact rfl);rotate_left;exact rfl;exact rfl)|(apply ldR pk;exact rfl;exact rfl;rotate_left;exact rfl;(first|exact aA _ _ _|assumption|(focus ((repeat (first|exact aA _ _ _|assumption|refine (aD (by assumption)).trans ?_));done)));exact rfl;exact rfl)|(apply stR pk;exact rfl;exact rfl;(first|exact aA _ _ _|assumption|(focus ((repeat (first|exact aA _ _ _|assumption|refine (aD (by assumption)).trans ?_));done)));exact rfl;exact rfl)|(apply ixA pk;(iterate 5 exact rfl);rotate_left;exact rfl;(intro hw;(first|exact rfl|(simp [gw] at hw;first|fail|(refine (show _=((0:Nat):Int) from ?_);omega))|exact rfl));(intro hw;(first|omega|(focus (simp [gw] at hw;done))|(simp [gw] at hw;omega)|(simp only [Array.size_setIfInBounds];omega)));exact rfl;(first|exact Nat.zero_add _|exact rfl))|(apply ldA pk Pt.elem;exact rfl;exact rfl;rotate_left;exact rfl;(first|exact aA _ _ _|assumption|(focus ((repeat (first|exact aA _ _ _|assumption|refine (aD (by assumption)).trans ?_));done)));(intro hw;(first|omega|(focus (simp [gw] at hw;done))|(simp [gw] at hw;omega)|(simp only [Array.size_setIfInBounds];omega)));exact rfl)|(apply stA pk Pt.elem;(iterate 3 exact rfl);(first|exact aA _ _ _|assumption|(focus ((repeat (first|exact aA _ _ _|assumption|refine (aD (by assumption)).trans ?_));done)));(first|omega|(simp only [Array.size_setIfInBounds];omega));exact rfl)|(apply cR;exact rfl;exact rfl;(apply (xT (l:=A up) hAf)<;>first|exact aA _ _ _|assumption|omega|(first|exact aA _ _ _|assumption|(focus ((repeat (first|exact aA _ _ _|assumption|refine (aD (by assumption)).trans ?_));done))));(iterate 3 exact rfl);intro _ st' hR;obtain ⟨R,rfl,hR1,hR2⟩:=hR)|(apply cR;exact rfl;exact rfl;(first|(apply fail_no_spec<;>first|exact aA _ _ _|assumption|omega|(simp only [Array.size_setIfInBounds];omega)|(first|exact aA _ _ _|assumption|(focus ((repeat (first|exact aA _ _ _|assumption|refine (aD (by assumption)).trans ?_));done)))));(iterate 3 exact rfl);intro _ st' hR;(first|subst hR|obtain ⟨rfl,rfl⟩:=hR))|(intros;(try simp only [List.length_map]);omega)))
    obtain rfl:R=bW l up:=ahF hn (hR1.trans (h.perm up)) hR2
    have h:=h.sorted hmem hR1
    have hm':(bW l up).length=m:=by rw [hR1.length_eq,hlen]
    have hA0:∀k,A k=bW l k→(if k=up then bW l up else A k)=bW l k:=fun k hk=>by
      by_cases e:k=up
      · rw [if_pos e,e]
      · rw [if_neg e,hk]
    obtain ⟨A1,h,hA1,hA2⟩:∃A1,HS st l id5 id8 id9 idm K (upd S id (some (.arr 107 ((bW l up).map Pt.cells)))) A1 out∧A1 up=bW l up∧∀k,A k=bW l k→A1 k=bW l k:=⟨_,h,by simp,hA0⟩
    clear hA0 hAf hR1 hR2 hlen a1 a3 hh5 hhm
    refine aM (X:={x:Nat×aK×(Nm→List Pt)//x.1≤m∧HS st l id5 id8 id9 idm K x.2.1 x.2.2 (out++((bW l up).take x.1).flatMap fun p=>p::cZ l (n-1) (aO p))∧x.2.2 up=bW l up∧∀k,A k=bW l k→x.2.2 k=bW l k}) (fun i=>((((((St.nil 28 (i.1.2.1)).pv 2 (.ref id8 0)).pv 3 (.ref id9 0)).pv 13 (.vec id 11 0 m)).pv 14 ((PV.val (Value.int .i64 ((m:Nat)))))).pv 15 ((PV.val (Value.int .i64 ((i.1.1:Nat))))))) (fun i=>m-i.1.1) ⟨(0,_,A1),by simp,by simpa using h,hA1,hA2⟩ ?_ (fun i=> ?_)
    · (first|exact Sub.nil _ _ _ (StSub.refl _) rfl|((repeat (first|refine Sub.pv ?_ rfl|refine Sub.var ?_ rfl rfl));(first|exact Sub.nil _ _ _ (StSub.refl _) rfl|exact Sub.nil _ _ _ (bE (by assumption)) rfl|exact Sub.nil _ _ _ (aS (by first|rfl|exact bX (by assumption)|((simp only [St.pv,St.put,St.sst,St.setv,St.nil,St.var,aV]);first|done|rfl))) rfl|(refine Sub.nil _ _ _ (aS ?_) rfl;(simp only [St.pv,St.put,St.sst,St.setv,St.nil,St.var,aV]);(rw [fW (by assumption)]);first|done|rfl))))
    clear h hA1 hA2
    obtain ⟨⟨i,S1,A1⟩,hi,h,hA1,hA2⟩:=i
    simp only at hi h hA1 hA2
    dsimp only
    have b1:=(h.arr _ _ _ hmem).1
    rw [hA1] at b1
    generalize ho:(out++((bW l up).take i).flatMap fun p=>p::cZ l (n-1) (aO p))=o1 at h
    have hg:i<m→∃p,(bW l up)[i]?=some p:=fun hi=>⟨_,List.getElem?_eq_getElem (by omega)⟩
    have hh8:=h.h8
    have hH:=h
    by_cases him:i<m
    · obtain ⟨p,hp⟩:=hg him
      have hp1:=eP (List.mem_of_getElem? hp)
      obtain ⟨hn0,hdp⟩:=hk p hp1.2
      have hsplit:(bW l up).take (i+1)=(bW l up).take i++[p]:=by rw [List.take_add_one,hp];rfl
      have ho2:(o1++[p])++cZ l (n-1) (aO p)=out++((bW l up).take (i+1)).flatMap fun p=>p::cZ l (n-1) (aO p):=by
        rw [hsplit,←ho];simp
      have hlen:o1.length+1+(cZ l (n-1) (aO p)).length≤1000000:=by
        have e1:=congrArg List.length ho2
        have e2:bW l up=(bW l up).take (i+1)++(bW l up).drop (i+1):=(List.take_append_drop _ _).symm
        rw [e2,List.flatMap_append,List.length_append] at hB
        simp only [List.length_append,List.length_singleton] at e1
        omega
      rcases hh8 with ⟨h8,e8⟩|⟨ido,h8,c1,c2,c3⟩
      · subst e8
        (try (apply wO pk;exact rfl));(repeat' (first|(show All _;constructor)|(show Imp _ _;constructor)|(show ImpX _ _ _ _;constructor)|(apply wC pk;(iterate 2 exact rfl))|(apply wE pk;(iterate 2 exact rfl))|(apply wX pk;exact rfl)|(apply wN pk;exact rfl)|(apply wDx pk;exact rfl;kernel_rfl;exact rfl;exact rfl)|(apply aB;simp only [cond_true,cond_false])|(refine aC rfl (fun h=> ?_) (fun h=> ?_)<;>(try simp at h)<;>try (exfalso;omega))|(refine aF ?_;refine ⟨_,_,_,rfl,Wk.refl _,StSub.refl _, ?_,rfl⟩;try rfl)|(apply ncA;(iterate 3 exact rfl);rotate_left;exact rfl;exact rfl)|(apply ldR pk;exact rfl;exact rfl;rotate_left;exact rfl;(first|exact aA _ _ _|assumption|(focus ((repeat (first|exact aA _ _ _|assumption|refine (aD (by assumption)).trans ?_));done)));exact rfl;exact rfl)|(apply stR pk;exact rfl;exact rfl;(first|exact aA _ _ _|assumption|(focus ((repeat (first|exact aA _ _ _|assumption|refine (aD (by assumption)).trans ?_));done)));exact rfl;exact rfl)|(apply ldL pk Pt.elem (a:=p);exact rfl;exact rfl;rotate_left;exact rfl;(first|exact aA _ _ _|assumption|(focus ((repeat (first|exact aA _ _ _|assumption|refine (aD (by assumption)).trans ?_));done)));(intro _;exact hp);exact rfl)|(apply apV pk (f:=Pt.cells) [p] 96;(iterate 9 exact rfl);(first|exact aA _ _ _|assumption|(focus ((repeat (first|exact aA _ _ _|assumption|refine (aD (by assumption)).trans ?_));done)));(first|omega|assumption|(focus (simp;done))|(focus (simp;omega))|(focus (simp at*;omega)));exact fun _=>rfl;exact fun _=>rfl;exact iE;(first|omega|assumption|(focus (simp;done))|(focus (simp;omega))|(focus (simp at*;omega)));(first|omega|assumption|(focus (simp;done))|(focus (simp;omega))|(focus (simp at*;omega)));exact rfl;intro id' hid')|(apply ap0 pk (f:=Pt.cells) [p] 96;(iterate 10 exact rfl);exact fun _=>rfl;exact fun _=>rfl;exact iE;(first|omega|assumption|(focus (simp;done))|(focus (simp;omega))|(focus (simp at*;omega)));(first|omega|assumption|(focus (simp;done))|(focus (simp;omega))|(focus (simp at*;omega)));exact rfl;intro id' hid')|(apply ixA pk;(iterate 5 exact rfl);rotate_left;exact rfl;(intro hw;(first|exact (show _=((i:Nat):Int) from by omega)|(simp [gw] at hw;first|exact (show _=((i:Nat):Int) from by omega)|(refine (show _=((0:Nat):Int) from ?_);omega))|exact rfl));(intro hw;(first|omega|(focus (simp [gw] at hw;done))|(simp [gw] at hw;omega)|(simp only [Array.size_setIfInBounds];omega)));exact rfl;(first|exact Nat.zero_add _|exact rfl))|(apply ldA pk Pt.elem;exact rfl;exact rfl;rotate_left;exact rfl;(first|exact aA _ _ _|assumption|(focus ((repeat (first|exact aA _ _ _|assumption|refine (aD (by assumption)).trans ?_));done)));(intro hw;(first|omega|(focus (simp [gw] at hw;done))|(simp [gw] at hw;omega)|(simp only [Array.size_setIfInBounds];omega)));exact rfl)|(apply stA pk Pt.elem;(iterate 3 exact rfl);(first|exact aA _ _ _|assumption|(focus ((repeat (first|exact aA _ _ _|assumption|refine (aD (by assumption)).trans ?_));done)));(first|omega|(simp only [Array.size_setIfInBounds];omega));exact rfl)|(intros;(try simp only [List.length_map]);omega)))
        have hid'':S1 id'=none:=hid'
        have n8:id8≠id':=fun e=>by rw [←e,h8] at hid'';cases hid''
        have q:=hH.push p hid'' (S1:=S1) fun j=> .inl rfl
        have q9:=q.h9
        apply stR pk;exact rfl;exact rfl;exact (aD n8).trans h8;exact rfl;exact rfl
        (try (apply wO pk;exact rfl));(repeat' (first|(apply wD pk [3] [0];kernel_rfl;exact rfl;exact rfl)|(show All _;constructor)|(show Imp _ _;constructor)|(show ImpX _ _ _ _;constructor)|(apply wC pk;(iterate 2 exact rfl))|(apply wE pk;(iterate 2 exact rfl))|(apply wX pk;exact rfl)|(apply wN pk;exact rfl)|(apply wDx pk;exact rfl;kernel_rfl;exact rfl;exact rfl)|(apply aB;simp only [cond_true,cond_false])|(refine aC rfl (fun h=> ?_) (fun h=> ?_)<;>(try simp at h)<;>try (exfalso;omega))|(refine aF ?_;refine ⟨_,_,_,rfl,Wk.refl _,StSub.refl _, ?_,rfl⟩;try rfl)|(apply aL;(iterate 3 exact rfl);(intro _;apply iJ<;>first|assumption|omega);rotate_left;(iterate 2 exact rfl))|(apply fB;(iterate 3 exact rfl);(intro _;apply iJ<;>first|assumption|omega);rotate_left;(iterate 2 exact rfl))|(apply ncA;(iterate 3 exact rfl);rotate_left;exact rfl;exact rfl)|(apply ldR pk;exact rfl;exact rfl;rotate_left;exact rfl;(first|exact aA _ _ _|assumption|(focus ((repeat (first|exact aA _ _ _|assumption|refine (aD (by assumption)).trans ?_));done)));exact rfl;exact rfl)|(apply stR pk;exact rfl;exact rfl;(first|exact aA _ _ _|assumption|(focus ((repeat (first|exact aA _ _ _|assumption|refine (aD (by assumption)).trans ?_));done)));exact rfl;exact rfl)|(apply ixA pk;(iterate 5 exact rfl);rotate_left;exact rfl;(intro hw;(first|exact rfl|(simp [gw] at hw;first|fail|(refine (show _=((0:Nat):Int) from ?_);omega))|exact rfl));(intro hw;(first|omega|(focus (simp [gw] at hw;done))|(simp [gw] at hw;omega)|(simp only [Array.size_setIfInBounds];omega)));exact rfl;(first|exact Nat.zero_add _|exact rfl))|(apply ldA pk Pt.elem;exact rfl;exact rfl;rotate_left;exact rfl;(first|exact aA _ _ _|assumption|(focus ((repeat (first|exact aA _ _ _|assumption|refine (aD (by assumption)).trans ?_));done)));(intro hw;(first|omega|(focus (simp [gw] at hw;done))|(simp [gw] at hw;omega)|(simp only [Array.size_setIfInBounds];omega)));exact rfl)|(apply stA pk Pt.elem;(iterate 3 exact rfl);(first|exact aA _ _ _|assumption|(focus ((repeat (first|exact aA _ _ _|assumption|refine (aD (by assumption)).trans ?_));done)));(first|omega|(simp only [Array.size_setIfInBounds];omega));exact rfl)|(apply cR;exact rfl;exact rfl;(apply (ih (n-1) (by omega) (aO p) _ _ _ hdp (by simp only [List.length_append,List.length_singleton] at hlen⊢;omega) q)<;>first|exact aA _ _ _|assumption|omega|(first|exact aA _ _ _|assumption|(focus ((repeat (first|exact aA _ _ _|assumption|refine (aD (by assumption)).trans ?_));done))));(iterate 3 exact rfl);intro _ st' hR;obtain ⟨A2,hA3,hA4⟩:=hR)|(apply cR;exact rfl;exact rfl;(first|(apply fail_no_spec<;>first|exact aA _ _ _|assumption|omega|(simp only [Array.size_setIfInBounds];omega)|(first|exact aA _ _ _|assumption|(focus ((repeat (first|exact aA _ _ _|assumption|refine (aD (by assumption)).trans ?_));done)))));(iterate 3 exact rfl);intro _ st' hR;(first|subst hR|obtain ⟨rfl,rfl⟩:=hR))|(refine ⟨⟨(i+1,st',A2),by simp only;omega,by simp only;rw [←ho2];exact hA3,hA4 up hA1,fun k e=>hA4 k (hA2 k e)⟩, ?_,by simp only;omega⟩;(first|exact Sub.nil _ _ _ (StSub.refl _) rfl|((repeat (first|refine Sub.pv ?_ rfl|refine Sub.var ?_ rfl rfl));(first|exact Sub.nil _ _ _ (StSub.refl _) rfl|exact Sub.nil _ _ _ (bE (by assumption)) rfl|exact Sub.nil _ _ _ (aS (by first|rfl|exact bX (by assumption)|((simp only [St.pv,St.put,St.sst,St.setv,St.nil,St.var,aV]);first|done|rfl))) rfl|(refine Sub.nil _ _ _ (aS ?_) rfl;(simp only [St.pv,St.put,St.sst,St.setv,St.nil,St.var,aV]);(rw [fW (by assumption)]);first|done|rfl)))))|(intros;(try simp only [List.length_map]);omega)))
      · (try (apply wO pk;exact rfl));(repeat' (first|(show All _;constructor)|(show Imp _ _;constructor)|(show ImpX _ _ _ _;constructor)|(apply wC pk;(iterate 2 exact rfl))|(apply wE pk;(iterate 2 exact rfl))|(apply wX pk;exact rfl)|(apply wN pk;exact rfl)|(apply wDx pk;exact rfl;kernel_rfl;exact rfl;exact rfl)|(apply aB;simp only [cond_true,cond_false])|(refine aC rfl (fun h=> ?_) (fun h=> ?_)<;>(try simp at h)<;>try (exfalso;omega))|(refine aF ?_;refine ⟨_,_,_,rfl,Wk.refl _,StSub.refl _, ?_,rfl⟩;try rfl)|(apply ncA;(iterate 3 exact rfl);rotate_left;exact rfl;exact rfl)|(apply ldR pk;exact rfl;exact rfl;rotate_left;exact rfl;(first|exact aA _ _ _|assumption|(focus ((repeat (first|exact aA _ _ _|assumption|refine (aD (by assumption)).trans ?_));done)));exact rfl;exact rfl)|(apply stR pk;exact rfl;exact rfl;(first|exact aA _ _ _|assumption|(focus ((repeat (first|exact aA _ _ _|assumption|refine (aD (by assumption)).trans ?_));done)));exact rfl;exact rfl)|(apply ldL pk Pt.elem (a:=p);exact rfl;exact rfl;rotate_left;exact rfl;(first|exact aA _ _ _|assumption|(focus ((repeat (first|exact aA _ _ _|assumption|refine (aD (by assumption)).trans ?_));done)));(intro _;exact hp);exact rfl)|(apply apV pk (f:=Pt.cells) [p] 96;(iterate 9 exact rfl);(first|exact aA _ _ _|assumption|(focus ((repeat (first|exact aA _ _ _|assumption|refine (aD (by assumption)).trans ?_));done)));(first|omega|assumption|(focus (simp;done))|(focus (simp;omega))|(focus (simp at*;omega)));exact fun _=>rfl;exact fun _=>rfl;exact iE;(first|omega|assumption|(focus (simp;done))|(focus (simp;omega))|(focus (simp at*;omega)));(first|omega|assumption|(focus (simp;done))|(focus (simp;omega))|(focus (simp at*;omega)));exact rfl;intro id' hid')|(apply ap0 pk (f:=Pt.cells) [p] 96;(iterate 10 exact rfl);exact fun _=>rfl;exact fun _=>rfl;exact iE;(first|omega|assumption|(focus (simp;done))|(focus (simp;omega))|(focus (simp at*;omega)));(first|omega|assumption|(focus (simp;done))|(focus (simp;omega))|(focus (simp at*;omega)));exact rfl;intro id' hid')|(apply ixA pk;(iterate 5 exact rfl);rotate_left;exact rfl;(intro hw;(first|exact (show _=((i:Nat):Int) from by omega)|(simp [gw] at hw;first|exact (show _=((i:Nat):Int) from by omega)|(refine (show _=((0:Nat):Int) from ?_);omega))|exact rfl));(intro hw;(first|omega|(focus (simp [gw] at hw;done))|(simp [gw] at hw;omega)|(simp only [Array.size_setIfInBounds];omega)));exact rfl;(first|exact Nat.zero_add _|exact rfl))|(apply ldA pk Pt.elem;exact rfl;exact rfl;rotate_left;exact rfl;(first|exact aA _ _ _|assumption|(focus ((repeat (first|exact aA _ _ _|assumption|refine (aD (by assumption)).trans ?_));done)));(intro hw;(first|omega|(focus (simp [gw] at hw;done))|(simp [gw] at hw;omega)|(simp only [Array.size_setIfInBounds];omega)));exact rfl)|(apply stA pk Pt.elem;(iterate 3 exact rfl);(first|exact aA _ _ _|assumption|(focus ((repeat (first|exact aA _ _ _|assumption|refine (aD (by assumption)).trans ?_));done)));(first|omega|(simp only [Array.size_setIfInBounds];omega));exact rfl)|(intros;(try simp only [List.length_map]);omega)))
        have hid'':S1 id'=none:=hid'
        have n8:id8≠id':=fun e=>by rw [←e,h8] at hid'';cases hid''
        have m8:id8≠ido:=fun e=>by rw [←e,h8] at c1;cases c1
        have q:=hH.push p hid'' (S1:=upd S1 ido none) fun j=>by
          by_cases e:j=ido
          · subst e
            exact .inr ⟨c2,(fun e=>by rw [e,hH.h5] at c1;cases c1),(fun e=>by rw [e,hH.h9] at c1;cases c1),(fun e=>by rw [e,hH.hm] at c1;cases c1),c3⟩
          · exact .inl (aD e)
        have q9:=q.h9
        apply stR pk;exact rfl;exact rfl;exact (aD n8).trans ((aD m8).trans h8);exact rfl;exact rfl
        (try (apply wO pk;exact rfl));(repeat' (first|(apply wD pk [3] [0];kernel_rfl;exact rfl;exact rfl)|(show All _;constructor)|(show Imp _ _;constructor)|(show ImpX _ _ _ _;constructor)|(apply wC pk;(iterate 2 exact rfl))|(apply wE pk;(iterate 2 exact rfl))|(apply wX pk;exact rfl)|(apply wN pk;exact rfl)|(apply wDx pk;exact rfl;kernel_rfl;exact rfl;exact rfl)|(apply aB;simp only [cond_true,cond_false])|(refine aC rfl (fun h=> ?_) (fun h=> ?_)<;>(try simp at h)<;>try (exfalso;omega))|(refine aF ?_;refine ⟨_,_,_,rfl,Wk.refl _,StSub.refl _, ?_,rfl⟩;try rfl)|(apply aL;(iterate 3 exact rfl);(intro _;apply iJ<;>first|assumption|omega);rotate_left;(iterate 2 exact rfl))|(apply fB;(iterate 3 exact rfl);(intro _;apply iJ<;>first|assumption|omega);rotate_left;(iterate 2 exact rfl))|(apply ncA;(iterate 3 exact rfl);rotate_left;exact rfl;exact rfl)|(apply ldR pk;exact rfl;exact rfl;rotate_left;exact rfl;(first|exact aA _ _ _|assumption|(focus ((repeat (first|exact aA _ _ _|assumption|refine (aD (by assumption)).trans ?_));done)));exact rfl;exact rfl)|(apply stR pk;exact rfl;exact rfl;(first|exact aA _ _ _|assumption|(focus ((repeat (first|exact aA _ _ _|assumption|refine (aD (by assumption)).trans ?_));done)));exact rfl;exact rfl)|(apply ixA pk;(iterate 5 exact rfl);rotate_left;exact rfl;(intro hw;(first|exact rfl|(simp [gw] at hw;first|fail|(refine (show _=((0:Nat):Int) from ?_);omega))|exact rfl));(intro hw;(first|omega|(focus (simp [gw] at hw;done))|(simp [gw] at hw;omega)|(simp only [Array.size_setIfInBounds];omega)));exact rfl;(first|exact Nat.zero_add _|exact rfl))|(apply ldA pk Pt.elem;exact rfl;exact rfl;rotate_left;exact rfl;(first|exact aA _ _ _|assumption|(focus ((repeat (first|exact aA _ _ _|assumption|refine (aD (by assumption)).trans ?_));done)));(intro hw;(first|omega|(focus (simp [gw] at hw;done))|(simp [gw] at hw;omega)|(simp only [Array.size_setIfInBounds];omega)));exact rfl)|(apply stA pk Pt.elem;(iterate 3 exact rfl);(first|exact aA _ _ _|assumption|(focus ((repeat (first|exact aA _ _ _|assumption|refine (aD (by assumption)).trans ?_));done)));(first|omega|(simp only [Array.size_setIfInBounds];omega));exact rfl)|(apply cR;exact rfl;exact rfl;(apply (ih (n-1) (by omega) (aO p) _ _ _ hdp (by simp only [List.length_append,List.length_singleton] at hlen⊢;omega) q)<;>first|exact aA _ _ _|assumption|omega|(first|exact aA _ _ _|assumption|(focus ((repeat (first|exact aA _ _ _|assumption|refine (aD (by assumption)).trans ?_));done))));(iterate 3 exact rfl);intro _ st' hR;obtain ⟨A2,hA3,hA4⟩:=hR)|(apply cR;exact rfl;exact rfl;(first|(apply fail_no_spec<;>first|exact aA _ _ _|assumption|omega|(simp only [Array.size_setIfInBounds];omega)|(first|exact aA _ _ _|assumption|(focus ((repeat (first|exact aA _ _ _|assumption|refine (aD (by assumption)).trans ?_));done)))));(iterate 3 exact rfl);intro _ st' hR;(first|subst hR|obtain ⟨rfl,rfl⟩:=hR))|(refine ⟨⟨(i+1,st',A2),by simp only;omega,by simp only;rw [←ho2];exact hA3,hA4 up hA1,fun k e=>hA4 k (hA2 k e)⟩, ?_,by simp only;omega⟩;(first|exact Sub.nil _ _ _ (StSub.refl _) rfl|((repeat (first|refine Sub.pv ?_ rfl|refine Sub.var ?_ rfl rfl));(first|exact Sub.nil _ _ _ (StSub.refl _) rfl|exact Sub.nil _ _ _ (bE (by assumption)) rfl|exact Sub.nil _ _ _ (aS (by first|rfl|exact bX (by assumption)|((simp only [St.pv,St.put,St.sst,St.setv,St.nil,St.var,aV]);first|done|rfl))) rfl|(refine Sub.nil _ _ _ (aS ?_) rfl;(simp only [St.pv,St.put,St.sst,St.setv,St.nil,St.var,aV]);(rw [fW (by assumption)]);first|done|rfl)))))|(intros;(try simp only [List.length_map]);omega)))
    · have hfin:HS st l id5 id8 id9 idm K S1 A1 (out++(bW l up).flatMap fun p=>p::cZ l (n-1) (aO p)):=by
        rw [List.take_of_length_le (by omega)] at ho;rw [ho];exact h
      (try (apply wO pk;exact rfl));(repeat' (first|(show All _;constructor)|(show Imp _ _;constructor)|(show ImpX _ _ _ _;constructor)|(apply wC pk;(iterate 2 exact rfl))|(apply wE pk;(iterate 2 exact rfl))|(apply wX pk;exact rfl)|(apply wN pk;exact rfl)|(apply wDx pk;exact rfl;kernel_rfl;exact rfl;exact rfl)|(apply aB;simp only [cond_true,cond_false])|(refine aC rfl (fun h=> ?_) (fun h=> ?_)<;>(try simp at h)<;>try (exfalso;omega))|((try refine aF ?_);(first|(refine ⟨_,_,_,rfl,Wk.refl _,StSub.refl _, ?_⟩;((exact ⟨A1,hfin,hA2⟩));done)|(refine ⟨_,_, ?zs,rfl,Wk.refl _, ?zh, ?zr⟩;(case zh=>(refine aH ?_ (by assumption);(repeat refine aH ?_ (by assumption));exact StSub.refl _));(case zr=>((exact ⟨A1,hfin,hA2⟩))))|refine ⟨_,_,_,rfl,Wk.refl _,StSub.refl _, ?_⟩))|(apply ncA;(iterate 3 exact rfl);rotate_left;exact rfl;exact rfl)|(apply ldR pk;exact rfl;exact rfl;rotate_left;exact rfl;(first|exact aA _ _ _|assumption|(focus ((repeat (first|exact aA _ _ _|assumption|refine (aD (by assumption)).trans ?_));done)));exact rfl;exact rfl)|(apply stR pk;exact rfl;exact rfl;(first|exact aA _ _ _|assumption|(focus ((repeat (first|exact aA _ _ _|assumption|refine (aD (by assumption)).trans ?_));done)));exact rfl;exact rfl)|(apply ixA pk;(iterate 5 exact rfl);rotate_left;exact rfl;(intro hw;(first|exact (show _=((i:Nat):Int) from by omega)|(simp [gw] at hw;first|exact (show _=((i:Nat):Int) from by omega)|(refine (show _=((0:Nat):Int) from ?_);omega))|exact rfl));(intro hw;(first|omega|(focus (simp [gw] at hw;done))|(simp [gw] at hw;omega)|(simp only [Array.size_setIfInBounds];omega)));exact rfl;(first|exact Nat.zero_add _|exact rfl))|(apply ldA pk Pt.elem;exact rfl;exact rfl;rotate_left;exact rfl;(first|exact aA _ _ _|assumption|(focus ((repeat (first|exact aA _ _ _|assumption|refine (aD (by assumption)).trans ?_));done)));(intro hw;(first|omega|(focus (simp [gw] at hw;done))|(simp [gw] at hw;omega)|(simp only [Array.size_setIfInBounds];omega)));exact rfl)|(apply stA pk Pt.elem;(iterate 3 exact rfl);(first|exact aA _ _ _|assumption|(focus ((repeat (first|exact aA _ _ _|assumption|refine (aD (by assumption)).trans ?_));done)));(first|omega|(simp only [Array.size_setIfInBounds];omega));exact rfl)|(intros;(try simp only [List.length_map]);omega)))
  · have hk0:=h.non _ hv
    have hs0:bW l up=[]:=List.Perm.eq_nil ((eS l up).trans (by rw [hk0]))
    have hfin:HS st l id5 id8 id9 idm K S A (out++(bW l up).flatMap fun p=>p::cZ l (n-1) (aO p)):=by
      rw [hs0];simpa using h
    (try (apply wO pk;exact rfl));(repeat' (first|(show All _;constructor)|(show Imp _ _;constructor)|(show ImpX _ _ _ _;constructor)|(apply wC pk;(iterate 2 exact rfl))|(apply wE pk;(iterate 2 exact rfl))|(apply wX pk;exact rfl)|(apply wN pk;exact rfl)|(apply wDx pk;exact rfl;kernel_rfl;exact rfl;exact rfl)|(apply aB;simp only [cond_true,cond_false])|(refine aC rfl (fun h=> ?_) (fun h=> ?_)<;>(try simp at h)<;>try (exfalso;omega))|(refine aF ?_;refine ⟨_,_,_,rfl,Wk.refl _,StSub.refl _, ?_,rfl⟩;try rfl)|(apply ncA;(iterate 3 exact rfl);rotate_left;exact rfl;exact rfl)|(apply ldR pk;exact rfl;exact rfl;rotate_left;exact rfl;(first|exact aA _ _ _|assumption|(focus ((repeat (first|exact aA _ _ _|assumption|refine (aD (by assumption)).trans ?_));done)));exact rfl;exact rfl)|(apply stR pk;exact rfl;exact rfl;(first|exact aA _ _ _|assumption|(focus ((repeat (first|exact aA _ _ _|assumption|refine (aD (by assumption)).trans ?_));done)));exact rfl;exact rfl)|(apply ixA pk;(iterate 5 exact rfl);rotate_left;exact rfl;(intro hw;(first|exact rfl|(simp [gw] at hw;first|fail|(refine (show _=((0:Nat):Int) from ?_);omega))|exact rfl));(intro hw;(first|omega|(focus (simp [gw] at hw;done))|(simp [gw] at hw;omega)|(simp only [Array.size_setIfInBounds];omega)));exact rfl;(first|exact Nat.zero_add _|exact rfl))|(apply ldA pk Pt.elem;exact rfl;exact rfl;rotate_left;exact rfl;(first|exact aA _ _ _|assumption|(focus ((repeat (first|exact aA _ _ _|assumption|refine (aD (by assumption)).trans ?_));done)));(intro hw;(first|omega|(focus (simp [gw] at hw;done))|(simp [gw] at hw;omega)|(simp only [Array.size_setIfInBounds];omega)));exact rfl)|(apply stA pk Pt.elem;(iterate 3 exact rfl);(first|exact aA _ _ _|assumption|(focus ((repeat (first|exact aA _ _ _|assumption|refine (aD (by assumption)).trans ?_));done)));(first|omega|(simp only [Array.size_setIfInBounds];omega));exact rfl)|(apply cR;exact rfl;exact rfl;(first|(apply agT<;>first|exact aA _ _ _|assumption|omega|(simp only [Array.size_setIfInBounds];omega)|(first|exact aA _ _ _|assumption|(focus ((repeat (first|exact aA _ _ _|assumption|refine (aD (by assumption)).trans ?_));done)))));(iterate 3 exact rfl);intro _ st' hR;(first|subst hR|obtain ⟨rfl,rfl⟩:=hR))|(intros;(try simp only [List.length_map]);omega)))
    refine aM (X:=Unit) (fun i=>((((((St.nil 28 (st')).pv 2 (.ref id8 0)).pv 3 (.ref id9 0)).pv 13 (.val (.slice none 0 0))).pv 14 ((PV.val (Value.int .i64 (((([]:List (List PV)).length:Nat):Int)))))).pv 15 ((PV.val (Value.int .i64 (0)))))) (fun i=>0) () ?_ (fun i=> ?_)
    · (first|exact Sub.nil _ _ _ (StSub.refl _) rfl|((repeat (first|refine Sub.pv ?_ rfl|refine Sub.var ?_ rfl rfl));(first|exact Sub.nil _ _ _ (StSub.refl _) rfl|exact Sub.nil _ _ _ (bE (by assumption)) rfl|exact Sub.nil _ _ _ (aS (by first|rfl|exact bX (by assumption)|((simp only [St.pv,St.put,St.sst,St.setv,St.nil,St.var,aV]);first|done|rfl))) rfl|(refine Sub.nil _ _ _ (aS ?_) rfl;(simp only [St.pv,St.put,St.sst,St.setv,St.nil,St.var,aV]);(rw [fW (by assumption)]);first|done|rfl))))
    have hfin':HS st l id5 id8 id9 idm K st' A (out++(bW l up).flatMap fun p=>p::cZ l (n-1) (aO p)):=hfin
    (try (apply wO pk;exact rfl));(repeat' (first|(show All _;constructor)|(show Imp _ _;constructor)|(show ImpX _ _ _ _;constructor)|(apply wC pk;(iterate 2 exact rfl))|(apply wE pk;(iterate 2 exact rfl))|(apply wX pk;exact rfl)|(apply wN pk;exact rfl)|(apply wDx pk;exact rfl;kernel_rfl;exact rfl;exact rfl)|(apply aB;simp only [cond_true,cond_false])|(refine aC rfl (fun h=> ?_) (fun h=> ?_)<;>(try simp at h)<;>try (exfalso;omega))|((try refine aF ?_);(first|(refine ⟨_,_,_,rfl,Wk.refl _,StSub.refl _, ?_⟩;((exact ⟨A,hfin',fun _ h=>h⟩));done)|(refine ⟨_,_, ?zs,rfl,Wk.refl _, ?zh, ?zr⟩;(case zh=>(refine aH ?_ (by assumption);(repeat refine aH ?_ (by assumption));exact StSub.refl _));(case zr=>((exact ⟨A,hfin',fun _ h=>h⟩))))|refine ⟨_,_,_,rfl,Wk.refl _,StSub.refl _, ?_⟩))|(apply ncA;(iterate 3 exact rfl);rotate_left;exact rfl;exact rfl)|(apply ldR pk;exact rfl;exact rfl;rotate_left;exact rfl;(first|exact aA _ _ _|assumption|(focus ((repeat (first|exact aA _ _ _|assumption|refine (aD (by assumption)).trans ?_));done)));exact rfl;exact rfl)|(apply stR pk;exact rfl;exact rfl;(first|exact aA _ _ _|assumption|(focus ((repeat (first|exact aA _ _ _|assumption|refine (aD (by assumption)).trans ?_));done)));exact rfl;exact rfl)|(apply ixA pk;(iterate 5 exact rfl);rotate_left;exact rfl;(intro hw;(first|exact rfl|(simp [gw] at hw;first|fail|(refine (show _=((0:Nat):Int) from ?_);omega))|exact rfl));(intro hw;(first|omega|(focus (simp [gw] at hw;done))|(simp [gw] at hw;omega)|(simp only [Array.size_setIfInBounds];omega)));exact rfl;(first|exact Nat.zero_add _|exact rfl))|(apply ldA pk Pt.elem;exact rfl;exact rfl;rotate_left;exact rfl;(first|exact aA _ _ _|assumption|(focus ((repeat (first|exact aA _ _ _|assumption|refine (aD (by assumption)).trans ?_));done)));(intro hw;(first|omega|(focus (simp [gw] at hw;done))|(simp [gw] at hw;omega)|(simp only [Array.size_setIfInBounds];omega)));exact rfl)|(apply stA pk Pt.elem;(iterate 3 exact rfl);(first|exact aA _ _ _|assumption|(focus ((repeat (first|exact aA _ _ _|assumption|refine (aD (by assumption)).trans ?_));done)));(first|omega|(simp only [Array.size_setIfInBounds];omega));exact rfl)|(intros;(try simp only [List.length_map]);omega)))
end
end Go.Proofs.YtkaliolnijkadaaGreatDoor.T
