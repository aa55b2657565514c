import Derived.Test.YtcglimangneafaaGreatDoorTyA
import Derived.Test.YtcglimangneafaaGreatDoorAbsE
import Derived.Test.YtcglimangneafaaGreatDoorAbsSort
import Derived.Sort.LotD5
set_option linter.unusedSimpArgs false
set_option linter.unusedVariables false
namespace Go.Proofs.YtcglimangneafaaGreatDoor.T
open Go Go.Abs
attribute [local irreducible] Ev PWp
set_option maxRecDepth 10000
set_option maxHeartbeats 1000000
def dB (a b:Pt):Int:=if bC a=bC b then a.at_-b.at_ else if iT (bC b) (bC a) then-1 else 1
theorem zC {p:Pt} (h:bR p=true):0≤p.at_∧p.at_≤1999:=by
  simp only [bR,vP,eR,Bool.and_eq_true,decide_eq_true_eq] at h
  exact h.1.2.2
theorem gC (a b:Pt) (ha:bR a=true) (hb:bR b=true):PF Tryz.prog 225 [.agg a.cells, .agg b.cells] (PV.val (Value.int .i64 (dB a b))):=by
  have h1:=zC ha
  have h2:=zC hb
  refine aH aD Tryz.func225 (by kernel_rfl) rfl rfl rfl rfl (fun st=> ?_)
  (try (apply wO pk;exact rfl));(repeat' (first|(show All _;constructor)|(show Imp _ _;constructor)|(apply wC pk;(iterate 2 exact rfl))|(apply wE pk;(iterate 2 exact rfl))|(apply wD pk [] [];kernel_rfl;exact rfl;exact rfl)|(refine aA rfl (fun h=> ?_) (fun h=> ?_)<;>(try simp at h)<;>try (exfalso;omega))|(refine aB ?_;refine ⟨_,_,_,rfl,Wk.refl _,StSub.refl _, ?_,rfl⟩;try first|rfl|((simp only [dB,Sp.ext_iff];simp_all);done))|(apply aI;(iterate 3 exact rfl);(intro _;(first|apply (lD a)|apply (lD b)|apply (nI (bC b) (bC a)))<;>first|assumption|omega);rotate_left;(iterate 2 exact rfl))|(intros;(try simp only [zql]);omega)))
theorem yO (a:Sp):iT a a=false:=by simp [iT]
theorem yH (a b:Sp):iT a b=true↔a.time<b.time∨a.time=b.time∧(a.dev<b.dev∨a.dev=b.dev∧a.seq<b.seq):=by
  unfold iT
  split
  · rw [decide_eq_true_eq];omega
  · split
    · rw [decide_eq_true_eq];omega
    · rw [decide_eq_true_eq];omega
def dQ (a b:Pt):Prop:=iT (bC b) (bC a)=true∨bC a=bC b∧a.at_<b.at_
theorem zD (a b:Pt):dB a b<0↔dQ a b:=by
  unfold dB dQ
  by_cases h:bC a=bC b
  · rw [if_pos h,h,yO];simp;omega
  · rw [if_neg h]
    split
    · rename_i h2;simp [h2]
    · rename_i h2;simp [h2,h]
abbrev Fp :={p:Pt//bR p=true}
instance : Inhabited Fp:=⟨⟨⟨⟨1,0,e0⟩,⟨1,1⟩,0,1,Dt.zero,0,false⟩,by decide⟩⟩
def apD (a b:Fp):Int:=dB a.1 b.1
theorem fI (a b:Pt):dQ a b↔b.time<a.time∨b.time=a.time∧(b.dot.dev<a.dot.dev∨b.dot.dev=a.dot.dev∧(b.dot.seq<a.dot.seq∨b.dot.seq=a.dot.seq∧a.at_<b.at_)):=by
  unfold dQ
  rw [yH,Sp.ext_iff]
  simp only [bC]
  omega
theorem anY :Go.Sort.SWO (ltOf apD):=by
  have h:∀x y:Fp,ltOf apD x y=true↔dQ x.1 y.1:=fun x y=>by rw [ltOf,decide_eq_true_eq];exact zD _ _
  have hf:∀x y:Fp,ltOf apD x y=false↔¬dQ x.1 y.1:=fun x y=>by rw [←h,Bool.not_eq_true]
  refine ⟨fun x=>(hf x x).2 ?_,fun x y z h1 h2=> ?_,fun x y z h1 h2=> ?_⟩
  · rw [fI];omega
  · rw [h,fI] at h1 h2⊢;omega
  · rw [hf,fI] at h1 h2⊢;omega
def eV (l:List Pt) (k:Nm):List Pt:=l.filter fun p=>decide (aN p=k)
theorem qT {l:List Pt} {i:Nat} (h:i<l.length) (k:Nm):eV (l.take (i+1)) k=if aN l[i]=k then eV (l.take i) k++[l[i]] else eV (l.take i) k:=by
  unfold eV
  rw [List.take_succ_eq_append_getElem h,List.filter_append]
  by_cases hk:aN l[i]=k<;>simp [hk]
def vI (x:Nat×Nat):PV:= .vec x.1 11 0 x.2
structure FamB (st:aL) (l:List Pt) (idm:Nat) (K:List (Nm×(Nat×Nat))) (S:aL):Prop where
  old:∀j,st j≠none→S j=st j
  hm:S idm=some (.map (bA Nm.enc vI K))
  mf:st idm=none
  arr:∀k id n,(k,(id,n))∈K→S id=some (.arr 166 ((eV l k).map Pt.cells))∧n=(eV l k).length∧st id=none
  keys:(K.map (·.1)).Nodup
  ids:(K.map (·.2.1)).Nodup
  non:∀k,bT k K=none→eV l k=[]
theorem mT {K V:Type} [DecidableEq K] {k:K} {v:V}:∀{l:List (K×V)},bT k l=some v→(k,v)∈l
  |(k',v')::l,h=>by
    simp only [bT] at h
    split at h
    · rename_i e;injection h with h;subst h;subst e;simp
    · exact List.mem_cons_of_mem _ (mT h)
theorem uL (l:List Pt) (hl:l.length<4611686018427387904):PF Tryz.prog 179 [.seq (l.map Pt.cells)] (.tup [.und,(PV.val (Value.bool (dU l)))]):=fun st=>
  aAf (atT l st hl) fun p st' ⟨⟨m,e⟩,h⟩=>⟨_,e▸Wk.tup (.cons (Wk.und m) (.cons (Wk.refl _) .nil)),rfl,h⟩
theorem vC :Tryz.prog.bytesOf 166=96:=by kernel_rfl
theorem FamB.fresh {st S:aL} {l:List Pt} {idm:Nat} {K:List (Nm×(Nat×Nat))} (h:FamB st l idm K S) {id:Nat} (hid:S id=none):st id=none∧id≠idm∧∀k i n,(k,(i,n))∈K→id≠i:=by
  refine ⟨?_, ?_, ?_⟩
  · cases hs:st id with
    |none=>rfl
    |some o=>have:=h.old id (by rw [hs];simp);rw [hid,hs] at this;cases this
  · intro e;subst e;rw [h.hm] at hid;cases hid
  · intro k i n hk e;subst e;rw [(h.arr k _ n hk).1] at hid;cases hid
theorem FamB.notm {st S:aL} {l:List Pt} {idm:Nat} {K:List (Nm×(Nat×Nat))} (h:FamB st l idm K S) {k:Nm} {i n:Nat} (hk:(k,(i,n))∈K):i≠idm:=by
  intro e;subst e;have:=(h.arr k _ n hk).1;rw [h.hm] at this;cases this
theorem nQ {K V:Type} [DecidableEq K] (k k':K) (v:V):∀(l:List (K×V)),bT k' (cK k v l)=if k'=k then some v else bT k' l
  |[]=>by simp only [cK,bT]
  |e::l=>by
    have ih:=nQ k k' v l
    simp only [cK]
    split
    · rename_i h;simp only [bT];split<;>simp_all
    · rename_i h;simp only [bT,ih];split
      · rename_i h2;rw [if_neg (fun e=>h (by rw [←e,h2]))]
      · rfl
theorem qN {K V:Type} [DecidableEq K] {k:K} {v:V} {x:K×V}:∀{l:List (K×V)},(l.map (·.1)).Nodup→x∈cK k v l→x=(k,v)∨x∈l∧x.1≠k
  |[],_,h=>by simp only [cK,List.mem_singleton] at h;exact .inl h
  |e::l,hn,h=>by
    simp only [List.map_cons,List.nodup_cons] at hn
    simp only [cK] at h
    split at h
    · rename_i he
      rcases List.mem_cons.1 h with h|h
      · exact .inl h
      · refine .inr ⟨List.mem_cons_of_mem _ h,fun hh=>hn.1 ?_⟩
        rw [←he,←hh];exact List.mem_map.2 ⟨x,h,rfl⟩
    · rename_i he
      rcases List.mem_cons.1 h with h|h
      · subst h;exact .inr ⟨List.mem_cons_self,fun hh=>he hh.symm⟩
      · rcases qN hn.2 h with h|⟨h,h2⟩
        · exact .inl h
        · exact .inr ⟨List.mem_cons_of_mem _ h,h2⟩
theorem vQ {K V:Type} [DecidableEq K] {k:K} {v:V}:∀{l:List (K×V)},(l.map (·.1)).Nodup→((cK k v l).map (·.1)).Nodup
  |[],_=>by simp [cK]
  |e::l,hn=>by
    simp only [List.map_cons,List.nodup_cons] at hn
    simp only [cK]
    split
    · rename_i he;simp only [List.map_cons,List.nodup_cons,he];exact hn
    · rename_i he
      simp only [List.map_cons,List.nodup_cons]
      refine ⟨fun hm=> ?_,vQ hn.2⟩
      obtain ⟨x,hx,hxe⟩:=List.mem_map.1 hm
      rcases qN hn.2 hx with rfl|⟨h,_⟩
      · exact he hxe
      · exact hn.1 (List.mem_map.2 ⟨x,h,hxe⟩)
theorem zQ {K V:Type} [DecidableEq K] {k:K} {v:V} {g:V→Nat}:∀{l:List (K×V)},(l.map fun e=>g e.2).Nodup→(l.map (·.1)).Nodup→(∀e∈l,g e.2≠g v)→((cK k v l).map fun e=>g e.2).Nodup
  |[],_,_,_=>by simp [cK]
  |e::l,hn,hk,hv=>by
    simp only [List.map_cons,List.nodup_cons] at hn hk
    simp only [cK]
    split
    · simp only [List.map_cons,List.nodup_cons]
      refine ⟨fun hm=> ?_,hn.2⟩
      obtain ⟨x,hx,hxe⟩:=List.mem_map.1 hm
      exact hv x (List.mem_cons_of_mem _ hx) hxe
    · simp only [List.map_cons,List.nodup_cons]
      refine ⟨fun hm=> ?_,zQ hn.2 hk.2 fun x hx=>hv x (List.mem_cons_of_mem _ hx)⟩
      obtain ⟨x,hx,hxe⟩:=List.mem_map.1 hm
      rcases qN hk.2 hx with rfl|⟨h,_⟩
      · exact hv e List.mem_cons_self hxe.symm
      · exact hn.1 (List.mem_map.2 ⟨x,h,hxe⟩)
theorem qZ {α:Type} {g:α→Nat}:∀{l:List α},(l.map g).Nodup→∀{a b},a∈l→b∈l→g a=g b→a=b
  |[],_,_,_,h,_,_=>by cases h
  |x::l,hn,a,b,ha,hb,e=>by
    simp only [List.map_cons,List.nodup_cons] at hn
    rcases List.mem_cons.1 ha with ha|ha<;>rcases List.mem_cons.1 hb with hb|hb
    · rw [ha,hb]
    · exact (hn.1 (List.mem_map.2 ⟨b,hb,by rw [←e,ha]⟩)).elim
    · exact (hn.1 (List.mem_map.2 ⟨a,ha,by rw [e,hb]⟩)).elim
    · exact qZ hn.2 ha hb e
theorem FamB.step {st S S1:aL} {l:List Pt} {i:Nat} (hi:i<l.length) {idm id m:Nat} {K:List (Nm×(Nat×Nat))} (h:FamB st (l.take i) idm K S) (hid:S id=none) (hm:m=(eV (l.take i) (aN l[i])).length+1) (hS:∀j,(∀n,(aN l[i],(j,n))∉K)→S1 j=S j):
    FamB st (l.take (i+1)) idm (cK (aN l[i]) (id,m) K) (upd (upd S1 id (some (.arr 166 ((eV (l.take i) (aN l[i])++[l[i]]).map Pt.cells)))) idm (some (.map (bA Nm.enc vI (cK (aN l[i]) (id,m) K))))):=by
  obtain ⟨f1,f2,f3⟩:=h.fresh hid
  refine ⟨fun j hj=> ?_,aC _ _ _,h.mf,fun k j n hx=> ?_,vQ h.keys,zQ (g:=(·.1)) h.ids h.keys fun e he=> ?_,fun k hk'=> ?_⟩
  · rw [aG (fun e=>by subst e;exact hj h.mf),aG (fun e=>by subst e;exact hj f1),hS j fun n hn=>hj (h.arr _ j n hn).2.2];exact h.old j hj
  · rcases qN h.keys hx with e|⟨hx,hne⟩
    · simp only [Prod.mk.injEq] at e
      obtain ⟨rfl,rfl,rfl⟩:=e
      rw [qT hi,if_pos rfl,aG f2,aC]
      exact ⟨rfl,by rw [hm];simp,f1⟩
    · obtain ⟨a1,a2,a3⟩:=h.arr k j n hx
      rw [qT hi,if_neg (Ne.symm hne),aG (h.notm hx),aG (fun e=>f3 k j n hx e.symm),hS j fun n' hn'=>hne ?_]
      · exact ⟨a1,a2,a3⟩
      · exact congrArg Prod.fst (qZ h.ids hx hn' rfl)
  · exact fun e'=>f3 e.1 e.2.1 e.2.2 he e'.symm
  · rw [nQ] at hk'
    split at hk'
    · cases hk'
    · rename_i hne
      rw [qT hi,if_neg (Ne.symm hne)]
      exact h.non k hk'
theorem FamB.nil {st:aL} {idm:Nat} (h:st idm=none):FamB st [] idm [] (upd st idm (some (.map (bA Nm.enc vI [])))):=
  ⟨fun j hj=>aG fun e=>by subst e;exact hj h,aC _ _ _,h,fun _ _ _ h=>(by cases h),by simp,by simp,fun _ _=>rfl⟩
theorem aeV (l:List Pt) (k:Nm):(eV l k).length≤l.length:=List.length_filter_le _ _
end Go.Proofs.YtcglimangneafaaGreatDoor.T
namespace Go.Proofs.YtcglimangneafaaGreatDoor.T
open Go Go.Abs
attribute [local irreducible] Ev PWp
set_option maxRecDepth 10000
set_option maxHeartbeats 2000000
theorem avC :PF Tryz.prog 263 [(PV.val (Value.int .u64 ((0:Nat))))] (PV.val (Value.int .i64 ((0:Nat)))):=by
  refine aH aD Tryz.func263 (by kernel_rfl) rfl rfl rfl rfl (fun st=> ?_)
  (try (apply wO pk;exact rfl));(repeat' (first|(show All _;constructor)|(apply wC pk;(iterate 2 exact rfl))|(apply wE pk;(iterate 2 exact rfl))|(refine aA rfl (fun h=> ?_) (fun h=> ?_)<;>(try simp at h)<;>try (exfalso;omega))|(refine aB ?_;first|(refine ⟨_,_,_,rfl,Wk.refl _,StSub.refl _, ?_,rfl⟩;(rfl))|(refine ⟨_,_,_,rfl,Wk.refl _,aK (by assumption), ?_,rfl⟩;(fail))|(refine ⟨_,_,_,rfl,Wk.soft _,StSub.refl _, ?_,rfl⟩;(fail))|(refine ⟨_,_,_,rfl,Wk.soft _,aK (by assumption), ?_,rfl⟩;(fail))|(refine ⟨_,_,_,rfl,Wk.refl _,StSub.refl _, ?_,rfl⟩)|(refine ⟨_,_,_,rfl,Wk.soft _,aK (by assumption), ?_,rfl⟩))|(apply cvA pk.htt;(iterate 5 exact rfl);(refine ⟨?_, ?_⟩<;>(first|omega|decide));exact rfl)|(apply sxA pk.htt 0 0;(iterate 6 exact rfl);kernel_rfl;exact rfl)|((exact ⟨by decide,by decide⟩))))
theorem azK {y:Int} (hy:y=0):PF Tryz.prog 229 [(PV.val (Value.int .u64 (y)))] (PV.val (Value.int .i64 ((0:Nat)))):=by
  subst hy
  refine aH aD Tryz.func229 (by kernel_rfl) rfl rfl rfl rfl (fun st=> ?_)
  (try (apply wO pk;exact rfl));(repeat' (first|(show All _;constructor)|(show Imp _ _;constructor)|(apply wC pk;(iterate 2 exact rfl))|(apply wE pk;(iterate 2 exact rfl))|(apply amJ;simp only [zqt,zqf])|(refine aB ?_;refine ⟨_,_,_,rfl,Wk.refl _,StSub.refl _, ?_,rfl⟩;try rfl)|(apply aI;(iterate 3 exact rfl);(intro _;apply avC<;>first|assumption|omega);rotate_left;(iterate 2 exact rfl))))
section
variable {fid:FuncId} {caps:List PV} {st:aL}
theorem avH :PC Tryz.prog 272 [.seq [],(PV.val (Value.int .i64 (0))),(PV.val (Value.int .i64 (0))), .fn fid caps] st fun _ st'=>st'=st:=by
  refine eH aD Tryz.func272 (by kernel_rfl) rfl rfl rfl rfl ?_
  (try (apply wO pk;exact rfl));(repeat' (first|(show All _;constructor)|(intros;(try simp only [zql]);omega)))
  refine aJ (X:=Unit) (fun i=>((((((St.nil 53 st).pv 0 (.seq [])).pv 1 ((PV.val (Value.int .i64 (0))))).pv 2 ((PV.val (Value.int .i64 (0))))).pv 3 (.fn fid caps)).pv 8 ((PV.val (Value.int .i64 (1)))))) (fun i=>0) () ?_ (fun i=> ?_)
  · ((repeat (refine Sub.pv ?_ rfl));exact Sub.nil _ _ _ (StSub.refl _) rfl)
  (try (apply wO pk;exact rfl));(repeat' (first|(show All _;constructor)|(apply wC pk;(iterate 2 exact rfl))|(apply wX pk;exact rfl)|(refine aA rfl (fun h=> ?_) (fun h=> ?_)<;>(try simp at h)<;>try (exfalso;omega))|((try refine aB ?_);((refine ⟨_,_,_,rfl,Wk.refl _,StSub.refl _, ?_⟩;((exact rfl));done)))))
theorem auQ {lim:Int}:PC Tryz.prog 251 [.seq [],(PV.val (Value.int .i64 (0))),(PV.val (Value.int .i64 (0))),(PV.val (Value.int .i64 (lim))), .fn fid caps] st fun _ st'=>st'=st:=by
  refine eH aD Tryz.func251 (by kernel_rfl) rfl rfl rfl rfl ?_
  (try (apply wO pk;exact rfl));(repeat' ((show All _;constructor)))
  refine aJ (X:=Unit) (fun i=>((((((((St.nil 148 st).pv 0 (.seq [])).pv 1 ((PV.val (Value.int .i64 (0))))).pv 2 ((PV.val (Value.int .i64 (0))))).pv 3 ((PV.val (Value.int .i64 (lim))))).pv 4 (.fn fid caps)).pv 10 ((PV.val (Value.bool (true))))).pv 11 ((PV.val (Value.bool (true)))))) (fun i=>0) () ?_ (fun i=> ?_)
  · ((repeat (refine Sub.pv ?_ rfl));exact Sub.nil _ _ _ (StSub.refl _) rfl)
  (try (apply wO pk;exact rfl));(repeat' (first|(show All _;constructor)|(apply wC pk;(iterate 2 exact rfl))|(apply wE pk;(iterate 2 exact rfl))|(refine aA rfl (fun h=> ?_) (fun h=> ?_)<;>(try simp at h)<;>try (exfalso;omega))|((try refine aB ?_);((refine ⟨_,_,_,rfl,Wk.refl _,StSub.refl _, ?_⟩;((exact rfl));done)))|(apply iS;exact rfl;exact rfl;((apply avH<;>first|exact aC _ _ _|assumption|omega|(simp only [zqs];omega)|(fail)));(iterate 3 exact rfl);intro _ st' hR;(subst hR))|(intros;(try simp only [zql]);omega)))
theorem apG :PC Tryz.prog 224 [.seq [], .fn fid caps] st fun _ st'=>st'=st:=by
  refine eH aD Tryz.func224 (by kernel_rfl) rfl rfl rfl rfl ?_
  (try (apply wO pk;exact rfl));(repeat' (first|(show All _;constructor)|(show Imp _ _;constructor)|(apply wE pk;(iterate 2 exact rfl))|((try refine aB ?_);((refine ⟨_,_,_,rfl,Wk.refl _,StSub.refl _, ?_⟩;((exact rfl));done)))|(apply aI;(iterate 3 exact rfl);(intro _;apply (azK rfl)<;>first|assumption|omega);rotate_left;(iterate 2 exact rfl))|(apply iS;exact rfl;exact rfl;((apply auQ<;>first|exact aC _ _ _|assumption|omega|(simp only [zqs];omega)|(fail)));(iterate 3 exact rfl);intro _ st' hR;(subst hR))|(apply cvA pk.htt;(iterate 5 exact rfl);(refine ⟨?_, ?_⟩<;>(first|omega|decide));exact rfl)))
end
theorem ahY {S:aL} {l:List Pt} {id n:Nat} (hf:∀p∈l,bR p=true) (hst:S id=some (.arr 166 (l.map Pt.cells))) (hn:l.length=n) (h62:n<4611686018427387904):
    PC Tryz.prog 224 [.vec id 11 0 n, .fn 225 []] S fun _ S'=>∃R:List Pt,S'=upd S id (some (.arr 166 (R.map Pt.cells)))∧R.Perm l∧R.Pairwise fun x y=>¬dQ y x:=by
  have e:(l.attach.map fun x=>(⟨x.1,hf x.1 x.2⟩:Fp)).map (fun x=>([.int .i64 x.1.val.kind, .int .i64 x.1.val.n, .string x.1.val.s, .int .i64 x.1.dot.dev, .int .i64 x.1.dot.seq, .int .i64 x.1.at_, .int .i64 x.1.time, .int .i64 x.1.after.dev, .int .i64 x.1.after.seq, .int .i64 x.1.afterAt, .bool x.1.gone]:List Value).map PV.val)=l.map Pt.cells:=by
    rw [List.map_map]
    show l.attach.map (fun x=>Pt.cells x.1)=_
    rw [List.attach_map_val]
  have:=asS (P:=Tryz.prog) aAU (by kernel_rfl) (k:=11) Tryz.isAgg166 Tryz.sizeOf166 (enc:=fun x:Fp=>[.int .i64 x.1.val.kind, .int .i64 x.1.val.n, .string x.1.val.s, .int .i64 x.1.dot.dev, .int .i64 x.1.dot.seq, .int .i64 x.1.at_, .int .i64 x.1.time, .int .i64 x.1.after.dev, .int .i64 x.1.after.seq, .int .i64 x.1.afterAt, .bool x.1.gone]) (fun _=>rfl) (fun x v hv=>by simp only [List.mem_cons,List.not_mem_nil,or_false] at hv;rcases hv with rfl|rfl|rfl|rfl|rfl|rfl|rfl|rfl|rfl|rfl|rfl<;>rfl) (cmp:=apD) anY
    (gf:=225) (by kernel_rfl) (fun x y=>gC x.1 y.1 x.2 y.2) (st:=S) (id:=id) (n:=n) (d:=l.attach.map fun x=>⟨x.1,hf x.1 x.2⟩) (e:=166) (by kernel_rfl) (by rw [e];exact hst) (by simpa using hn) h62
  refine ⟨this.1,fun w g vs h1 h2=>(this.2 w g vs h1 h2).mono ?_⟩
  rintro e w' ⟨v,q,S',g',h3,⟨r,hS,hp,hw⟩,h4⟩
  refine ⟨v,q,S',g',h3,⟨r.map (·.1), ?_, ?_, ?_⟩,h4⟩
  · rw [hS,List.map_map];rfl
  · have:=hp.map (·.1)
    rwa [List.map_map,show ((fun x:Fp=>x.1)∘fun x:{x//x∈l}=>(⟨x.1,hf x.1 x.2⟩:Fp))=Subtype.val from rfl,List.attach_map_subtype_val] at this
  · rw [List.pairwise_map]
    exact hw.imp fun {a b} h=>by rwa [apD,zD] at h
end Go.Proofs.YtcglimangneafaaGreatDoor.T
namespace Go.Proofs.YtcglimangneafaaGreatDoor.T
open Go Go.Abs
attribute [local irreducible] Ev PWp
set_option maxRecDepth 10000
set_option maxHeartbeats 1000000
instance (a b:Pt):Decidable (dQ a b):=by unfold dQ;infer_instance
def agN (p:Pt):List Pt→List Pt
  |[]=>[p]
  |q::r=>if dQ q p then q::agN p r else p::q::r
def cB (l:List Pt) (k:Nm):List Pt:=(eV l k).foldr agN []
def dM (l:List Pt):Nat→Nm→List Pt
  |0,_=>[]
  |n+1,k=>(cB l k).flatMap fun p=>p::dM l n (aO p)
def aiC (l:List Pt):Nat→Nm→Prop
  |0,k=>eV l k=[]
  |n+1,k=>∀p∈eV l k,aiC l n (aO p)
theorem uniq {α:Type} {r:α→α→Prop}:∀{l m:List α},l.Perm m→l.Pairwise r→m.Pairwise r→(∀a∈l,∀b∈l,r a b→r b a→a=b)→l=m
  |[],m,h,_,_,_=>(List.Perm.nil_eq h)
  |a::l,[],h,_,_,_=>(by cases List.Perm.eq_nil h)
  |a::l,b::m,h,h1,h2,ha=>by
    have hab:a=b:=by
      rcases List.mem_cons.1 (h.symm.subset (List.mem_cons_self:b∈b::m)) with e|e
      · exact e.symm
      · rcases List.mem_cons.1 (h.subset (List.mem_cons_self:a∈a::l)) with e'|e'
        · exact e'
        · exact ha a List.mem_cons_self b (List.mem_cons_of_mem _ e) ((List.pairwise_cons.1 h1).1 b e) ((List.pairwise_cons.1 h2).1 a e')
    subst hab
    rw [uniq ((List.perm_cons a).1 h) (List.pairwise_cons.1 h1).2 (List.pairwise_cons.1 h2).2 fun x hx y hy=>ha x (List.mem_cons_of_mem _ hx) y (List.mem_cons_of_mem _ hy)]
theorem rZ (p:Pt):∀(l:List Pt),(agN p l).Perm (p::l)
  |[]=> .refl _
  |q::r=>by
    unfold agN
    split
    · exact ((rZ p r).cons q).trans (.swap p q r)
    · exact .refl _
theorem sV (p:Pt):∀(l:List Pt),(l.Pairwise fun x y=>¬dQ y x)→(agN p l).Pairwise fun x y=>¬dQ y x
  |[],_=>by simp [agN]
  |q::r,h=>by
    obtain ⟨h1,h2⟩:=List.pairwise_cons.1 h
    unfold agN
    split
    · rename_i hk
      refine List.pairwise_cons.2 ⟨fun x hx=> ?_,sV p r h2⟩
      rcases List.mem_cons.1 ((rZ p r).subset hx) with rfl|hx
      · rw [fI] at hk⊢;omega
      · exact h1 x hx
    · rename_i hk
      refine List.pairwise_cons.2 ⟨fun x hx=> ?_,h⟩
      rcases List.mem_cons.1 hx with rfl|hx
      · exact hk
      · have:=h1 x hx
        rw [fI] at hk this⊢;omega
theorem gH (l:List Pt) (k:Nm):(cB l k).Perm (eV l k):=by
  unfold cB
  generalize eV l k=m
  induction m with
  |nil=>exact .refl _
  |cons p r ih=>exact (rZ p _).trans (ih.cons p)
theorem pW (l:List Pt) (k:Nm):(cB l k).Pairwise fun x y=>¬dQ y x:=by
  unfold cB
  generalize eV l k=m
  induction m with
  |nil=>exact List.Pairwise.nil
  |cons p r ih=>exact sV p _ ih
def named (l:List Pt):Prop:=∀a∈l,∀b∈l,aO a=aO b→a=b
theorem akC {l:List Pt} (hn:named l) {a b:Pt} (ha:a∈l) (hb:b∈l) (h1:¬dQ a b) (h2:¬dQ b a):a=b:=by
  refine hn a ha b hb ?_
  rw [fI] at h1 h2
  rw [aO,aO,Nm.mk.injEq,Dt.ext_iff]
  omega
theorem apL {l R:List Pt} {k:Nm} (hn:named l) (hp:R.Perm (eV l k)) (hs:R.Pairwise fun x y=>¬dQ y x):R=cB l k:=by
  refine uniq (hp.trans (gH l k).symm) hs (pW l k) fun a ha b hb h1 h2=> ?_
  have hm:∀x∈R,x∈l:=fun x hx=>(List.mem_filter.1 (hp.subset hx)).1
  exact akC hn (hm a ha) (hm b hb) h2 h1
structure HS (st:aL) (l:List Pt) (id5 id8 id9 idm:Nat) (K:List (Nm×(Nat×Nat))) (S:aL) (A:Nm→List Pt) (out:List Pt):Prop where
  old:∀j,st j≠none→S j=st j
  f5:st id5=none
  f8:st id8=none
  f9:st id9=none
  fm:st idm=none
  h5:S id5=some (.cells 226 [.mref idm])
  h9:S id9=some (.cells 227 [.fn 223 [.ref id5 0, .ref id8 0, .ref id9 0]])
  hm:S idm=some (.map (bA Nm.enc vI K))
  arr:∀k id n,(k,(id,n))∈K→S id=some (.arr 166 ((A k).map Pt.cells))∧n=(eV l k).length∧st id=none
  ids:(K.map (·.2.1)).Nodup
  keys:(K.map (·.1)).Nodup
  non:∀k,bT k K=none→eV l k=[]
  perm:∀k,(A k).Perm (eV l k)
  h8:(S id8=some (.cells 110 [.val (.slice none 0 0)])∧out=[])∨∃ido,S id8=some (.cells 110 [.vec ido 11 0 out.length])∧S ido=some (.arr 166 (out.map Pt.cells))∧st ido=none∧∀k n,(k,(ido,n))∉K
section
variable {st S:aL} {l:List Pt} {id5 id8 id9 idm:Nat} {K:List (Nm×(Nat×Nat))} {A:Nm→List Pt} {out:List Pt}
theorem HS.sorted (h:HS st l id5 id8 id9 idm K S A out) {k:Nm} {id n:Nat} (hk:(k,(id,n))∈K) {R:List Pt} (hR:R.Perm (A k)):
    HS st l id5 id8 id9 idm K (upd S id (some (.arr 166 (R.map Pt.cells)))) (fun k'=>if k'=k then R else A k') out:=by
  obtain ⟨a1,a2,a3⟩:=h.arr k id n hk
  have n5:id5≠id:=fun e=>by rw [←e,h.h5] at a1;cases a1
  have n9:id9≠id:=fun e=>by rw [←e,h.h9] at a1;cases a1
  have nm:idm≠id:=fun e=>by rw [←e,h.hm] at a1;cases a1
  have n8:id8≠id:=fun e=>by rcases h.h8 with ⟨h8,_⟩|⟨ido,h8,_⟩<;>rw [←e,h8] at a1<;>cases a1
  refine ⟨fun j hj=> ?_,h.f5,h.f8,h.f9,h.fm,(aG n5).trans h.h5,(aG n9).trans h.h9,(aG nm).trans h.hm,fun k' j m hk'=> ?_,h.ids,h.keys,h.non,fun k'=> ?_, ?_⟩
  · rw [aG (fun e=>by subst e;exact hj a3)];exact h.old j hj
  · obtain ⟨b1,b2,b3⟩:=h.arr k' j m hk'
    by_cases hj:j=id
    · subst hj
      have:=qZ h.ids hk hk' rfl
      simp only [Prod.mk.injEq] at this
      obtain ⟨rfl,_⟩:=this
      exact ⟨by rw [aC,if_pos rfl],b2,b3⟩
    · refine ⟨?_,b2,b3⟩
      rw [aG hj,b1,if_neg]
      intro e
      subst e
      have hkk:∀{K:List (Nm×(Nat×Nat))},(K.map (·.1)).Nodup→(k',(id,n))∈K→(k',(j,m))∈K→id=j:=by
        intro K hn
        induction K with
        |nil=>intro h;cases h
        |cons x K ih=>
          intro h1 h2
          simp only [List.map_cons,List.nodup_cons] at hn
          rcases List.mem_cons.1 h1 with e1|e1<;>rcases List.mem_cons.1 h2 with e2|e2
          · rw [←e1] at e2;exact (Prod.mk.inj (Prod.mk.inj e2).2).1.symm
          · exact (hn.1 (List.mem_map.2 ⟨_,e2,by rw [←e1]⟩)).elim
          · exact (hn.1 (List.mem_map.2 ⟨_,e1,by rw [←e2]⟩)).elim
          · exact ih hn.2 e1 e2
      exact hj (hkk h.keys hk hk').symm
  · by_cases hk':k'=k
    · subst hk';simp only [if_true];exact hR.trans (h.perm k')
    · simp only [if_neg hk'];exact h.perm k'
  · rcases h.h8 with ⟨h8,e⟩|⟨ido,h8,b1,b2,b3⟩
    · exact .inl ⟨(aG n8).trans h8,e⟩
    · exact .inr ⟨ido,(aG n8).trans h8,(aG fun e=>b3 k n (by rw [e];exact hk)).trans b1,b2,b3⟩
theorem HS.push (h:HS st l id5 id8 id9 idm K S A out) {S1:aL} {id':Nat} (p:Pt) (hid:S id'=none) (hS:∀j,S1 j=S j∨st j=none∧j≠id5∧j≠id9∧j≠idm∧∀k n,(k,(j,n))∉K):
    HS st l id5 id8 id9 idm K (upd (upd S1 id' (some (.arr 166 ((out++[p]).map Pt.cells)))) id8 (some (.cells 110 [.vec id' 11 0 (out.length+1)]))) A (out++[p]):=by
  have n5:id5≠id':=fun e=>by rw [←e,h.h5] at hid;cases hid
  have n9:id9≠id':=fun e=>by rw [←e,h.h9] at hid;cases hid
  have nm:idm≠id':=fun e=>by rw [←e,h.hm] at hid;cases hid
  have n8:id8≠id':=fun e=>by rcases h.h8 with ⟨h8,_⟩|⟨ido,h8,_⟩<;>rw [←e,h8] at hid<;>cases hid
  have m5:id5≠id8:=fun e=>by have:=h.h5;rcases h.h8 with ⟨h8,_⟩|⟨ido,h8,_⟩<;>rw [e,h8] at this<;>cases this
  have m9:id9≠id8:=fun e=>by have:=h.h9;rcases h.h8 with ⟨h8,_⟩|⟨ido,h8,_⟩<;>rw [e,h8] at this<;>cases this
  have mm:idm≠id8:=fun e=>by have:=h.hm;rcases h.h8 with ⟨h8,_⟩|⟨ido,h8,_⟩<;>rw [e,h8] at this<;>cases this
  have hi:st id'=none:=by
    cases hs:st id' with
    |none=>rfl
    |some o=>have:=h.old id' (by rw [hs];simp);rw [hid,hs] at this;cases this
  have g:∀j,j≠id8→j≠id'→(∀h:st j=none∧j≠id5∧j≠id9∧j≠idm∧∀k n,(k,(j,n))∉K,False)→upd (upd S1 id' (some (.arr 166 ((out++[p]).map Pt.cells)))) id8 (some (.cells 110 [.vec id' 11 0 (out.length+1)])) j=S j:=fun j h1 h2 h3=>by
    rw [aG h1,aG h2]
    rcases hS j with e|e
    · exact e
    · exact (h3 e).elim
  refine ⟨fun j hj=> ?_,h.f5,h.f8,h.f9,h.fm,(g id5 m5 n5 fun e=>e.2.1 rfl).trans h.h5,(g id9 m9 n9 fun e=>e.2.2.1 rfl).trans h.h9,(g idm mm nm fun e=>e.2.2.2.1 rfl).trans h.hm,fun k j n hk=> ?_,h.ids,h.keys,h.non,h.perm, ?_⟩
  · rw [g j (fun e=>by subst e;exact hj h.f8) (fun e=>by subst e;exact hj hi) fun e=>hj e.1];exact h.old j hj
  · obtain ⟨b1,b2,b3⟩:=h.arr k j n hk
    have e8:j≠id8:=fun e=>by rcases h.h8 with ⟨h8,_⟩|⟨ido,h8,_⟩<;>rw [e,h8] at b1<;>cases b1
    have e':j≠id':=fun e=>by rw [e,hid] at b1;cases b1
    rw [g j e8 e' fun e=>e.2.2.2.2 k n hk]
    exact ⟨b1,b2,b3⟩
  · refine .inr ⟨id',by rw [aC];simp,by rw [aG (Ne.symm n8),aC],hi,fun k n hk=> ?_⟩
    have:=(h.arr k id' n hk).1
    rw [hid] at this;cases this
theorem gB {k:Nm} {p:Pt} (h:p∈cB l k):p∈l∧p∈eV l k:=by
  have:=(gH l k).subset h
  exact ⟨(List.mem_filter.1 this).1,this⟩
theorem alN (hn:named l) (hf:∀p∈l,bR p=true) (h62:l.length<4611686018427387904):∀(n:Nat) (up:Nm) (S:aL) (A:Nm→List Pt) (out:List Pt),aiC l n up→out.length+(dM l n up).length≤1000000→HS st l id5 id8 id9 idm K S A out→
    PC Tryz.prog 223 [.agg up.cells, .ref id5 0, .ref id8 0, .ref id9 0] S fun _ S'=>∃A',HS st l id5 id8 id9 idm K S' A' (out++dM l n up)∧∀k,A k=cB l k→A' k=cB l k:=by
  intro n
  induction n using Nat.strongRecOn with
  |ind n ih=> ?_
  intro up S A out hd hB h
  have hk:∀p∈eV l up,n≠0∧aiC l (n-1) (aO p):=fun p hp=>by
    cases n with
    |zero=>rw [show eV l up=[] from hd] at hp;cases hp
    |succ n=>exact ⟨by omega,hd p hp⟩
  have hh:dM l n up=(cB l up).flatMap fun p=>p::dM l (n-1) (aO p):=by
    cases n with
    |zero=>rw [show cB l up=[] from List.Perm.eq_nil ((gH l up).trans (by rw [show eV l up=[] from hd]))];rfl
    |succ n=>rfl
  rw [hh] at hB
  rw [hh]
  clear hh hd
  have hh5:=h.h5
  have hhm:=h.hm
  refine eH aD Tryz.func223 (by kernel_rfl) rfl rfl rfl rfl ?_
  (try (apply wO pk;exact rfl));(repeat' (first|(show All _;constructor)|(show Imp _ _;constructor)|(apply wE pk;(iterate 2 exact rfl))|(apply ldR pk;exact rfl;exact rfl;rotate_left;exact rfl;(assumption);exact rfl;exact rfl)|(apply arR pk Nm.key (f:=vI);(iterate 5 exact rfl);rotate_left;exact rfl;(assumption);exact rfl;intro v hv;rotate_left;intro hv;rotate_left)))
  · obtain ⟨id,m⟩:=v
    have hmem:=mT hv
    obtain ⟨a1,a2,a3⟩:=h.arr _ _ _ hmem
    have hlen:(A up).length=m:=by rw [(h.perm up).length_eq,a2]
    have hAf:∀p∈A up,bR p=true:=fun p hp=>hf p (List.mem_filter.1 ((h.perm up).subset hp)).1
    have h62':m<4611686018427387904:=by have:=aeV l up;omega
    (try (apply wO pk;exact rfl));(repeat' (first|(show All _;constructor)|(apply wE pk;(iterate 2 exact rfl))|(apply iS;exact rfl;exact rfl;(apply (ahY (l:=A up) hAf)<;>first|exact aC _ _ _|assumption|omega|(fail));(iterate 3 exact rfl);intro _ st' hR;obtain ⟨R,rfl,hR1,hR2⟩:=hR)))
    obtain rfl:R=cB l up:=apL hn (hR1.trans (h.perm up)) hR2
    have h:=h.sorted hmem hR1
    have hm':(cB l up).length=m:=by rw [hR1.length_eq,hlen]
    have hA0:∀k,A k=cB l k→(if k=up then cB l up else A k)=cB l k:=fun k hk=>by
      by_cases e:k=up
      · rw [if_pos e,e]
      · rw [if_neg e,hk]
    obtain ⟨A1,h,hA1,hA2⟩:∃A1,HS st l id5 id8 id9 idm K (upd S id (some (.arr 166 ((cB l up).map Pt.cells)))) A1 out∧A1 up=cB l up∧∀k,A k=cB l k→A1 k=cB l k:=⟨_,h,by simp,hA0⟩
    clear hA0 hAf hR1 hR2 hlen a1 a3 hh5 hhm
    refine aJ (X:={x:Nat×aL×(Nm→List Pt)//x.1≤m∧HS st l id5 id8 id9 idm K x.2.1 x.2.2 (out++((cB l up).take x.1).flatMap fun p=>p::dM l (n-1) (aO p))∧x.2.2 up=cB l up∧∀k,A k=cB l k→x.2.2 k=cB l k}) (fun i=>((((((St.nil 28 (i.1.2.1)).pv 2 (.ref id8 0)).pv 3 (.ref id9 0)).pv 13 (.vec id 11 0 m)).pv 14 ((PV.val (Value.int .i64 ((m:Nat)))))).pv 15 ((PV.val (Value.int .i64 ((i.1.1:Nat))))))) (fun i=>m-i.1.1) ⟨(0,_,A1),by simp,by simpa using h,hA1,hA2⟩ ?_ (fun i=> ?_)
    · (((repeat (refine Sub.pv ?_ rfl));(exact Sub.nil _ _ _ (StSub.refl _) rfl)))
    clear h hA1 hA2
    obtain ⟨⟨i,S1,A1⟩,hi,h,hA1,hA2⟩:=i
    simp only at hi h hA1 hA2
    dsimp only
    have b1:=(h.arr _ _ _ hmem).1
    rw [hA1] at b1
    generalize ho:(out++((cB l up).take i).flatMap fun p=>p::dM l (n-1) (aO p))=o1 at h
    have hg:i<m→∃p,(cB l up)[i]?=some p:=fun hi=>⟨_,List.getElem?_eq_getElem (by omega)⟩
    have hh8:=h.h8
    have hH:=h
    by_cases him:i<m
    · obtain ⟨p,hp⟩:=hg him
      have hp1:=gB (List.mem_of_getElem? hp)
      obtain ⟨hn0,hdp⟩:=hk p hp1.2
      have hsplit:(cB l up).take (i+1)=(cB l up).take i++[p]:=by rw [List.take_add_one,hp];rfl
      have ho2:(o1++[p])++dM l (n-1) (aO p)=out++((cB l up).take (i+1)).flatMap fun p=>p::dM l (n-1) (aO p):=by
        rw [hsplit,←ho];simp
      have hlen:o1.length+1+(dM l (n-1) (aO p)).length≤1000000:=by
        have e1:=congrArg List.length ho2
        have e2:cB l up=(cB l up).take (i+1)++(cB l up).drop (i+1):=(List.take_append_drop _ _).symm
        rw [e2,List.flatMap_append,List.length_append] at hB
        simp only [List.length_append,List.length_singleton] at e1
        omega
      rcases hh8 with ⟨h8,e8⟩|⟨ido,h8,c1,c2,c3⟩
      · subst e8
        (try (apply wO pk;exact rfl));(repeat' (first|(show All _;constructor)|(show Imp _ _;constructor)|(apply wC pk;(iterate 2 exact rfl))|(apply wE pk;(iterate 2 exact rfl))|(refine aA rfl (fun h=> ?_) (fun h=> ?_)<;>(try simp at h)<;>try (exfalso;omega))|(apply ldR pk;exact rfl;exact rfl;rotate_left;exact rfl;(assumption);exact rfl;exact rfl)|(apply ldL pk Pt.elem (a:=p);exact rfl;exact rfl;rotate_left;exact rfl;(assumption);(intro _;exact hp);exact rfl)|(apply ap0 pk (f:=Pt.cells) [p] 96;(iterate 10 exact rfl);exact fun _=>rfl;exact fun _=>rfl;exact vC;((focus (simp;done)));((focus (simp;done)));exact rfl;intro id' hid')|(apply ixA pk;(iterate 5 exact rfl);rotate_left;exact rfl;(intro hw;(exact (show _=((i:Nat):Int) from by omega)));(intro hw;(omega));exact rfl;(exact Nat.zero_add _))))
        have hid'':S1 id'=none:=hid'
        have n8:id8≠id':=fun e=>by rw [←e,h8] at hid'';cases hid''
        have q:=hH.push p hid'' (S1:=S1) fun j=> .inl rfl
        have q9:=q.h9
        apply stR pk;exact rfl;exact rfl;exact (aG n8).trans h8;exact rfl;exact rfl
        (try (apply wO pk;exact rfl));(repeat' (first|(apply wD pk [3] [0];kernel_rfl;exact rfl;exact rfl)|(show All _;constructor)|(show Imp _ _;constructor)|(apply wE pk;(iterate 2 exact rfl))|(apply aI;(iterate 3 exact rfl);(intro _;apply uA<;>first|assumption|omega);rotate_left;(iterate 2 exact rfl))|(apply ldR pk;exact rfl;exact rfl;rotate_left;exact rfl;(assumption);exact rfl;exact rfl)|(apply iS;exact rfl;exact rfl;(apply (ih (n-1) (by omega) (aO p) _ _ _ hdp (by simp only [List.length_append,List.length_singleton] at hlen⊢;omega) q)<;>first|exact aC _ _ _|assumption|omega|(fail));(iterate 3 exact rfl);intro _ st' hR;obtain ⟨A2,hA3,hA4⟩:=hR)|(refine ⟨⟨(i+1,st',A2),by simp only;omega,by simp only;rw [←ho2];exact hA3,hA4 up hA1,fun k e=>hA4 k (hA2 k e)⟩, ?_,by simp only;omega⟩;(((repeat (refine Sub.pv ?_ rfl));(exact Sub.nil _ _ _ (StSub.refl _) rfl))))|(intros;(try simp only [zql]);omega)))
      · (try (apply wO pk;exact rfl));(repeat' (first|(show All _;constructor)|(show Imp _ _;constructor)|(apply wC pk;(iterate 2 exact rfl))|(apply wE pk;(iterate 2 exact rfl))|(refine aA rfl (fun h=> ?_) (fun h=> ?_)<;>(try simp at h)<;>try (exfalso;omega))|(apply ldR pk;exact rfl;exact rfl;rotate_left;exact rfl;(assumption);exact rfl;exact rfl)|(apply ldL pk Pt.elem (a:=p);exact rfl;exact rfl;rotate_left;exact rfl;(assumption);(intro _;exact hp);exact rfl)|(apply apV pk (f:=Pt.cells) [p] 96;(iterate 9 exact rfl);(assumption);(omega);exact fun _=>rfl;exact fun _=>rfl;exact vC;((focus (simp;omega)));((focus (simp;omega)));exact rfl;intro id' hid')|(apply ixA pk;(iterate 5 exact rfl);rotate_left;exact rfl;(intro hw;(exact (show _=((i:Nat):Int) from by omega)));(intro hw;(omega));exact rfl;(exact Nat.zero_add _))))
        have hid'':S1 id'=none:=hid'
        have n8:id8≠id':=fun e=>by rw [←e,h8] at hid'';cases hid''
        have m8:id8≠ido:=fun e=>by rw [←e,h8] at c1;cases c1
        have q:=hH.push p hid'' (S1:=upd S1 ido none) fun j=>by
          by_cases e:j=ido
          · subst e
            exact .inr ⟨c2,(fun e=>by rw [e,hH.h5] at c1;cases c1),(fun e=>by rw [e,hH.h9] at c1;cases c1),(fun e=>by rw [e,hH.hm] at c1;cases c1),c3⟩
          · exact .inl (aG e)
        have q9:=q.h9
        apply stR pk;exact rfl;exact rfl;exact (aG n8).trans ((aG m8).trans h8);exact rfl;exact rfl
        (try (apply wO pk;exact rfl));(repeat' (first|(apply wD pk [3] [0];kernel_rfl;exact rfl;exact rfl)|(show All _;constructor)|(show Imp _ _;constructor)|(apply wE pk;(iterate 2 exact rfl))|(apply aI;(iterate 3 exact rfl);(intro _;apply uA<;>first|assumption|omega);rotate_left;(iterate 2 exact rfl))|(apply ldR pk;exact rfl;exact rfl;rotate_left;exact rfl;(assumption);exact rfl;exact rfl)|(apply iS;exact rfl;exact rfl;(apply (ih (n-1) (by omega) (aO p) _ _ _ hdp (by simp only [List.length_append,List.length_singleton] at hlen⊢;omega) q)<;>first|exact aC _ _ _|assumption|omega|(fail));(iterate 3 exact rfl);intro _ st' hR;obtain ⟨A2,hA3,hA4⟩:=hR)|(refine ⟨⟨(i+1,st',A2),by simp only;omega,by simp only;rw [←ho2];exact hA3,hA4 up hA1,fun k e=>hA4 k (hA2 k e)⟩, ?_,by simp only;omega⟩;(((repeat (refine Sub.pv ?_ rfl));(exact Sub.nil _ _ _ (StSub.refl _) rfl))))|(intros;(try simp only [zql]);omega)))
    · have hfin:HS st l id5 id8 id9 idm K S1 A1 (out++(cB l up).flatMap fun p=>p::dM l (n-1) (aO p)):=by
        rw [List.take_of_length_le (by omega)] at ho;rw [ho];exact h
      (try (apply wO pk;exact rfl));(repeat' (first|(show All _;constructor)|(apply wC pk;(iterate 2 exact rfl))|(apply wX pk;exact rfl)|(refine aA rfl (fun h=> ?_) (fun h=> ?_)<;>(try simp at h)<;>try (exfalso;omega))|((try refine aB ?_);((refine ⟨_,_,_,rfl,Wk.refl _,StSub.refl _, ?_⟩;((exact ⟨A1,hfin,hA2⟩));done)))))
  · have hk0:=h.non _ hv
    have hs0:cB l up=[]:=List.Perm.eq_nil ((gH l up).trans (by rw [hk0]))
    have hfin:HS st l id5 id8 id9 idm K S A (out++(cB l up).flatMap fun p=>p::dM l (n-1) (aO p)):=by
      rw [hs0];simpa using h
    (try (apply wO pk;exact rfl));(repeat' (first|(show All _;constructor)|(apply wE pk;(iterate 2 exact rfl))|(apply iS;exact rfl;exact rfl;((apply apG<;>first|exact aC _ _ _|assumption|omega|(simp only [zqs];omega)|(fail)));(iterate 3 exact rfl);intro _ st' hR;(subst hR))))
    refine aJ (X:=Unit) (fun i=>((((((St.nil 28 (st')).pv 2 (.ref id8 0)).pv 3 (.ref id9 0)).pv 13 (.val (.slice none 0 0))).pv 14 ((PV.val (Value.int .i64 (((([]:List (List PV)).length:Nat):Int)))))).pv 15 ((PV.val (Value.int .i64 (0)))))) (fun i=>0) () ?_ (fun i=> ?_)
    · (((repeat (refine Sub.pv ?_ rfl));(exact Sub.nil _ _ _ (StSub.refl _) rfl)))
    have hfin':HS st l id5 id8 id9 idm K st' A (out++(cB l up).flatMap fun p=>p::dM l (n-1) (aO p)):=hfin
    (try (apply wO pk;exact rfl));(repeat' (first|(show All _;constructor)|(apply wC pk;(iterate 2 exact rfl))|(apply wX pk;exact rfl)|(refine aA rfl (fun h=> ?_) (fun h=> ?_)<;>(try simp at h)<;>try (exfalso;omega))|((try refine aB ?_);((refine ⟨_,_,_,rfl,Wk.refl _,StSub.refl _, ?_⟩;((exact ⟨A,hfin',fun _ h=>h⟩));done)))))
end
end Go.Proofs.YtcglimangneafaaGreatDoor.T
