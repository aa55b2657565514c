import Derived.Test.YtddmbnddgiebgaaGreatDoorCaKin
import Derived.Test.YtddmbnddgiebgaaGreatDoorBsRLine
set_option linter.unusedSimpArgs false
set_option linter.unusedVariables false
namespace Go.Proofs.YtddmbnddgiebgaaGreatDoor
open Go Go.Abs
attribute [local irreducible] Ev PWp
set_option maxRecDepth 10000
set_option maxHeartbeats 4000000
def kX (s:Sc) (b:Bs) (rows:List R2) (k y:Nat):List R2:=((b[k]!.lines.take y).filter fun l=>inR rows ((k:Int),l.key)||toB s[k]! l (inR rows) 1).map fun l=>((k:Int),l.key)
def oS (s:Sc) (b:Bs) (rows:List R2) (k:Nat):List R2:=(List.range k).flatMap (aaG s b rows)
theorem aqO {s:Sc} {b:Bs} {rows:List R2} {k y:Nat} (h:y<b[k]!.lines.length):kX s b rows k (y+1)=if (inR rows ((k:Int),b[k]!.lines[y].key)||toB s[k]! b[k]!.lines[y] (inR rows) 1)=true then kX s b rows k y++[((k:Int),b[k]!.lines[y].key)] else kX s b rows k y:=by
  unfold kX
  rw [List.take_succ_eq_append_getElem h,List.filter_append,List.map_append,nY]
  split<;>simp_all
theorem afX (s:Sc) (b:Bs) (rows:List R2) (k:Nat):oS s b rows (k+1)=oS s b rows k++kX s b rows k b[k]!.lines.length:=by
  unfold oS
  rw [List.range_succ,List.flatMap_append]
  simp [aaG,kX]
theorem zV (s:Sc) (b:Bs) (rows:List R2) (k y:Nat):(kX s b rows k y).length≤(b[k]!.lines).length:=by
  unfold kX
  rw [zql]
  exact Nat.le_trans (List.length_filter_le ..) (by rw [List.length_take];omega)
theorem abB (s:Sc) (b:Bs) (rows:List R2) {n:Nat} (h:∀k (h:k<b.length),b[k].lines.length≤n):∀k,k≤b.length→(oS s b rows k).length≤n*k
  |0,_=>by simp [oS]
  |k+1,hk=>by
    have h1:=abB s b rows h k (by omega)
    have h2:=zV s b rows k b[k]!.lines.length
    have h3:=h k (by omega)
    rw [afX,List.length_append]
    rw [getElem!_pos b k (by omega)] at h2⊢
    rw [Nat.mul_add]
    omega
structure FolN (s:Sc) (b:Bs) (n:Nat):Prop extends Fol s b where
  ln:∀k (h:k<b.length),b[k].lines.length≤n
  nn:n≤100000
theorem aqW {s:Sc} {b:Bs} {n:Nat} (hFo:FolN s b n) (rows:List R2) (hr:rows.length<1000000000000) (st:aM):PC Tryz.prog 64 [.agg (scC s), .agg (bsC b), .seq (rows.map r2C)] st fun r S=>∃id,r= .vec id 2 0 (iG s b rows).length∧st id=none∧S=upd st id (some (.arr 28 ((iG s b rows).map r2C))):=by
  obtain ⟨⟨hlen,s16,f16,hreg,hlns⟩,ln,nn⟩:=hFo
  have hlO:=abB s b rows ln
  refine cR aH Tryz.func64 (by kernel_rfl) rfl rfl rfl rfl ?_
  focus ((try (apply wO pk;exact rfl));(repeat' (first|(show All _;constructor)|(show Imp _ _;constructor)|(show ImpX _ _ _ _;constructor)|(apply wC pk;(iterate 2 exact rfl))|(apply wE pk;(iterate 2 exact rfl))|(apply wX pk;exact rfl)|(apply wN pk;exact rfl)|(apply wD pk [] [];kernel_rfl;exact rfl;exact rfl)|(apply aB;simp only [zqt,zqf])|(refine aD rfl (fun h=> ?_) (fun h=> ?_)<;>(try simp at h)<;>try (exfalso;omega))|(refine aF ?_;refine ⟨_,_,_,rfl,Wk.refl _,StSub.refl _, ?_,rfl⟩;try rfl)|(intros;(try simp only [zql]);omega))))
  refine jG 7 28 2 rfl rfl rfl (fun id hid=> ?_)
  refine aO (X:={x:Nat×Nat//x.1≤b.length∧st x.2=none}) (fun i=>((((((St.nil 59 (upd st i.1.2 (some (.arr 28 ((oS s b rows i.1.1).map r2C))))).pv 2 (.seq (rows.map r2C))).var 3 24 ((scC s))).var 4 27 ((bsC b))).pv 7 (.vec i.1.2 2 0 (oS s b rows i.1.1).length)).pv 8 ((PV.val (Value.int .i64 ((i.1.1:Nat))))))) (fun i=>b.length-i.1.1) ⟨(0,id),by simp,hid⟩ ?_ (fun i=> ?_)
  · dsimp only
    (first|exact Sub.nil _ _ _ (StSub.refl _) rfl|((repeat (first|refine Sub.pv ?_ rfl|refine Sub.var ?_ rfl rfl));(first|exact Sub.nil _ _ _ (StSub.refl _) rfl|exact Sub.nil _ _ _ (aP (by assumption)) rfl|exact Sub.nil _ _ _ (aJ (by first|rfl|exact aT (by assumption)|((simp only [St.pv,St.put,St.sst,St.setv,St.nil,St.var,aK]);first|done|rfl))) rfl|(refine Sub.nil _ _ _ (aJ ?_) rfl;(simp only [St.pv,St.put,St.sst,St.setv,St.nil,St.var,aK]);(rw [cI (by assumption)]);first|done|rfl))))
  obtain ⟨⟨i,id⟩,hi,hid⟩:=i
  simp only at hi hid
  dsimp only
  have hlo:=hlO i hi
  have hnb:n*i≤100000*16:=Nat.mul_le_mul nn (by omega)
  by_cases hend:b.length≤i
  · obtain rfl:i=b.length:=by omega
    (try (apply wO pk;exact rfl));(repeat' (first|(show All _;constructor)|(show Imp _ _;constructor)|(show ImpX _ _ _ _;constructor)|(apply wC pk;(iterate 2 exact rfl))|(apply wE pk;(iterate 2 exact rfl))|(apply wX pk;exact rfl)|(apply wN pk;exact rfl)|(apply wDx pk;exact rfl;kernel_rfl;exact rfl;exact rfl)|(apply aB;simp only [zqt,zqf])|(refine aD rfl (fun h=> ?_) (fun h=> ?_)<;>(try simp at h)<;>try (exfalso;omega))|((try refine aF ?_);(first|(refine ⟨_,_,_,rfl,Wk.refl _,StSub.refl _, ?_⟩;(exact ⟨id,rfl,hid,rfl⟩);done)|(refine ⟨_,_, ?zs,rfl,Wk.refl _, ?zh, ?zr⟩;(case zh=>(refine aG ?_ (by assumption);(repeat refine aG ?_ (by assumption));exact StSub.refl _));(case zr=>(exact ⟨id,rfl,hid,rfl⟩)))|refine ⟨_,_,_,rfl,Wk.refl _,StSub.refl _, ?_⟩))|(apply ncA;(iterate 3 exact rfl);rotate_left;exact rfl;exact rfl)|(apply ldR pk;exact rfl;exact rfl;rotate_left;exact rfl;(focus ((repeat (first|exact aA _ _ _|assumption|refine (aC (by assumption)).trans ?_));done));exact rfl;exact rfl)|(apply stR pk;exact rfl;exact rfl;(focus ((repeat (first|exact aA _ _ _|assumption|refine (aC (by assumption)).trans ?_));done));exact rfl;exact rfl)|(intros;(try simp only [zql]);omega)))
  have hil:i<b.length:=by omega
  have his:i<s.length:=by omega
  have hli:=ln i hil
  have hOU:=afX s b rows i
  have hIU:∀y (h:y<b[i].lines.length),kX s b rows i (y+1)=if (inR rows ((i:Int),b[i].lines[y].key)||toB s[i] b[i].lines[y] (inR rows) 1)=true then kX s b rows i y++[((i:Int),b[i].lines[y].key)] else kX s b rows i y:=fun y h=>by
    have:=aqO (s:=s) (b:=b) (rows:=rows) (k:=i) (y:=y) (by rw [getElem!_pos b i hil];exact h)
    simp only [getElem!_pos b i hil,getElem!_pos s i his] at this
    exact this
  have hRg:=hreg i his
  rw [getElem!_pos b i hil] at hOU hRg
  have hIL:=fun y=>zV s b rows i y
  rw [getElem!_pos b i hil] at hIL
  focus ((try (apply wO pk;exact rfl));(repeat' (first|(show All _;constructor)|(show Imp _ _;constructor)|(show ImpX _ _ _ _;constructor)|(apply wC pk;(iterate 2 exact rfl))|(apply wE pk;(iterate 2 exact rfl))|(apply wX pk;exact rfl)|(apply wN pk;exact rfl)|(apply wD pk [] [];kernel_rfl;exact rfl;exact rfl)|(apply aB;simp only [zqt,zqf])|(refine aD rfl (fun h=> ?_) (fun h=> ?_)<;>(try simp at h)<;>try (exfalso;omega))|(refine aF ?_;refine ⟨_,_,_,rfl,Wk.refl _,StSub.refl _, ?_,rfl⟩;try rfl)|(apply aW pk;(iterate 6 exact rfl);rotate_left;exact rfl;(intro hw;exact rfl);(intro hw;apply aI<;>omega);(intro _;exact rfl);exact rfl)|(intros;(try simp only [zql]);omega))))
  refine aO (X:={x:Nat×Nat//x.1≤b[i].lines.length∧st x.2=none}) (fun y=>((((((((St.nil 59 (upd st y.1.2 (some (.arr 28 ((oS s b rows i++kX s b rows i y.1.1).map r2C))))).pv 2 (.seq (rows.map r2C))).var 3 24 ((scC s))).var 4 27 ((bsC b))).pv 7 (.vec y.1.2 2 0 (oS s b rows i++kX s b rows i y.1.1).length)).pv 8 ((PV.val (Value.int .i64 ((i:Nat)))))).pv 9 (.seq (b[i].lines.map Ln.cells))).pv 10 ((PV.val (Value.int .i64 ((y.1.1:Nat))))))) (fun y=>b[i].lines.length-y.1.1) ⟨(0,id),by simp,hid⟩ ?_ (fun y=> ?_)
  · dsimp only
    have e:oS s b rows i++kX s b rows i 0=oS s b rows i:=by simp [kX]
    rw [e]
    (first|exact Sub.nil _ _ _ (StSub.refl _) rfl|((repeat (first|refine Sub.pv ?_ rfl|refine Sub.var ?_ rfl rfl));(first|exact Sub.nil _ _ _ (StSub.refl _) rfl|exact Sub.nil _ _ _ (aP (by assumption)) rfl|exact Sub.nil _ _ _ (aJ (by first|rfl|exact aT (by assumption)|((simp only [St.pv,St.put,St.sst,St.setv,St.nil,St.var,aK]);first|done|rfl))) rfl|(refine Sub.nil _ _ _ (aJ ?_) rfl;(simp only [St.pv,St.put,St.sst,St.setv,St.nil,St.var,aK]);(rw [cI (by assumption)]);first|done|rfl))))
  obtain ⟨⟨y,id⟩,hy,hid⟩:=y
  simp only at hy hid
  dsimp only
  have hli2:=hIL y
  have hlA:(oS s b rows i++kX s b rows i y).length≤10000000:=by rw [List.length_append];omega
  by_cases hend2:b[i].lines.length≤y
  obtain rfl:y=b[i].lines.length:=by omega
  rw [←hOU]
  rotate_left
  have hyl:y<b[i].lines.length:=by omega
  have hIU:=hIU y hyl
  have h1:=mH rows ((i:Int),b[i].lines[y].key) hr
  have h2:=xB s[i] b[i].lines[y] rows 1 hr (by have:=f16 i his;omega) fun f hf=>hRg f hf _ (List.getElem_mem hyl)
  generalize inR rows ((i:Int),b[i].lines[y].key)=A1 at*
  generalize toB s[i] b[i].lines[y] (inR rows) 1=A2 at*
  by_cases hk:(A1||A2)=true
  rw [if_pos hk] at hIU
  have e:oS s b rows i++kX s b rows i (y+1)=(oS s b rows i++kX s b rows i y)++[((i:Int),b[i].lines[y].key)]:=by rw [hIU,List.append_assoc]
  rotate_left
  rw [if_neg hk] at hIU
  rw [←hIU]
  rotate_left
  all_goals ((try (apply wO pk;exact rfl));(repeat' (first|(show All _;constructor)|(show Imp _ _;constructor)|(show ImpX _ _ _ _;constructor)|(apply wC pk;(iterate 2 exact rfl))|(apply wE pk;(iterate 2 exact rfl))|(apply wX pk;exact rfl)|(apply wN pk;exact rfl)|(apply wD pk [] [];kernel_rfl;exact rfl;exact rfl)|(apply aB;simp only [zqt,zqf])|(refine aD rfl (fun h=> ?_) (fun h=> ?_)<;>(try simp at h)<;>try (exfalso;omega))|(refine aF ?_;first|(refine ⟨_,_,_,rfl,Wk.refl _,StSub.refl _, ?_,rfl⟩;(first|rfl))|(refine ⟨_,_,_,rfl,Wk.refl _,aQ (by assumption), ?_,rfl⟩;(first|rfl))|(refine ⟨_,_,_,rfl,Wk.soft _,StSub.refl _, ?_,rfl⟩;(first|rfl))|(refine ⟨_,_,_,rfl,Wk.soft _,aQ (by assumption), ?_,rfl⟩;(first|rfl))|(refine ⟨_,_,_,rfl,Wk.refl _,StSub.refl _, ?_,rfl⟩)|(refine ⟨_,_,_,rfl,Wk.soft _,aQ (by assumption), ?_,rfl⟩))|(apply aN;(iterate 3 exact rfl);(intro _;(first|apply h1|apply h2)<;>first|assumption|omega);rotate_left;(iterate 2 exact rfl))|(apply aW pk;(iterate 6 exact rfl);rotate_left;exact rfl;(intro hw;exact rfl);(intro hw;apply aI<;>omega);(intro _;exact rfl);exact rfl)|(apply apV pk (f:=r2C) [((i:Int),b[i].lines[y].key)] 16;(iterate 9 exact rfl);(focus ((repeat (first|exact aA _ _ _|assumption|refine (aC (by assumption)).trans ?_));done));(first|omega|assumption|(focus (simp;done))|(focus (simp;omega))|(focus (simp at*;omega)));exact fun _=>rfl;exact fun _=>rfl;exact mU;(first|omega|assumption|(focus (simp;done))|(focus (simp;omega))|(focus (simp at*;omega)));(first|omega|assumption|(focus (simp;done))|(focus (simp;omega))|(focus (simp at*;omega)));exact rfl;intro id' hid')|(apply ap0 pk (f:=r2C) [((i:Int),b[i].lines[y].key)] 16;(iterate 10 exact rfl);exact fun _=>rfl;exact fun _=>rfl;exact mU;(first|omega|assumption|(focus (simp;done))|(focus (simp;omega))|(focus (simp at*;omega)));(first|omega|assumption|(focus (simp;done))|(focus (simp;omega))|(focus (simp at*;omega)));exact rfl;intro id' hid')|((first|refine ⟨⟨(i+1,id),by simp only;omega,hid⟩, ?_,by simp only;omega⟩|refine ⟨⟨(y+1,id),by simp only;omega,hid⟩, ?_,by simp only;omega⟩);(first|exact Sub.nil _ _ _ (StSub.refl _) rfl|((repeat (first|refine Sub.pv ?_ rfl|refine Sub.var ?_ rfl rfl));(first|exact Sub.nil _ _ _ (StSub.refl _) rfl|exact Sub.nil _ _ _ (aP (by assumption)) rfl|exact Sub.nil _ _ _ (aJ (by first|rfl|exact aT (by assumption)|((simp only [St.pv,St.put,St.sst,St.setv,St.nil,St.var,aK]);first|done|rfl))) rfl|(refine Sub.nil _ _ _ (aJ ?_) rfl;(simp only [St.pv,St.put,St.sst,St.setv,St.nil,St.var,aK]);(rw [cI (by assumption)]);first|done|rfl)))))|(refine ⟨⟨(y+1,id'),by simp only;omega,dC hid'⟩, ?_,by simp only;omega⟩;((dsimp only;try rw [e]));(first|exact Sub.nil _ _ _ (StSub.refl _) rfl|((repeat (first|refine Sub.pv ?_ rfl|refine Sub.var ?_ rfl rfl|refine Sub.pv' ?_ rfl (by (first|rfl|(simp;done)|(simp;omega)))|refine Sub.var' ?_ rfl rfl (by (first|rfl|(simp;done)|(simp;omega)))));(first|exact Sub.nil _ _ _ (StSub.refl _) rfl|exact Sub.nil _ _ _ (aP (by assumption)) rfl|exact Sub.nil _ _ _ (aJ (by first|rfl|exact aT (by assumption)|((simp only [St.pv,St.put,St.sst,St.setv,St.nil,St.var,aK]);first|done|rfl))) rfl|(refine Sub.nil _ _ _ (aJ ?_) rfl;(simp only [St.pv,St.put,St.sst,St.setv,St.nil,St.var,aK]);(rw [cI (by assumption)]);first|done|rfl)))))|(intros;(try simp only [zql]);omega)|((exfalso;simp_all;done)))))
theorem aiS {s:Sc} {b:Bs} {n:Nat} (hFo:FolN s b n) (rows:List R2) (hr:rows.length<1000000000000):PF Tryz.prog 64 [.agg (scC s), .agg (bsC b), .seq (rows.map r2C)] (.seq ((iG s b rows).map r2C)):=fun st=>
  gE (sz:=2) (aqW hFo rows hr st) fun p st' h=>by
    obtain ⟨id,rfl,h3,rfl⟩:=h
    exact .inl ⟨id,28,(iG s b rows).map r2C,_,st,aA _ _ _,xI,fE rfl,bP h3,rfl,rfl⟩
theorem aiI {s:Sc} {b:Bs} {z:R2} {rb:Bool} {n:Nat} (hr:PF Tryz.prog 30 [.agg (scC s), .agg (bsC b)] (PV.val (Value.bool (rb)))) (hF:rb=true→FolN s b n) (hS:rb=true→∀k<b.length,KSort b[k]!.lines) (hl:(bN b z.1).length<1000000000000) (h62:(bM b).length<1000000000):PF Tryz.prog 31 [.agg (scC s), .agg (bsC b),(PV.val (Value.int .i64 (z.1))),(PV.val (Value.int .i64 (z.2)))] (.seq ((if rb=true then jH s b z else []).map r2C)):=by
  have hg:=ahT b z.1 z.2 hl
  rw [afR] at hg
  cases rb with
  |false=>
    refine aL aH Tryz.func31 (by kernel_rfl) rfl rfl rfl rfl (fun st=> ?_)
    (try (apply wO pk;exact rfl));(repeat' (first|((refine aF ?_;exact ⟨_,_,_,rfl,Wk.nil,StSub.refl _,rfl,rfl⟩))|(show All _;constructor)|(show Imp _ _;constructor)|(show ImpX _ _ _ _;constructor)|(apply wC pk;(iterate 2 exact rfl))|(apply wE pk;(iterate 2 exact rfl))|(apply wX pk;exact rfl)|(apply wN pk;exact rfl)|(apply wD pk [] [];kernel_rfl;exact rfl;exact rfl)|(apply aB;simp only [zqt,zqf])|(refine aD rfl (fun h=> ?_) (fun h=> ?_)<;>(try simp at h)<;>try (exfalso;omega))|(refine aF ?_;refine ⟨_,_,_,rfl,Wk.refl _,StSub.refl _, ?_,rfl⟩;try rfl)|(apply aN;(iterate 3 exact rfl);(intro _;apply hr<;>first|assumption|omega);rotate_left;(iterate 2 exact rfl))|(intros;(try simp only [zql]);omega)))
  |true=>
  rw [if_pos rfl]
  have hFo:=hF rfl
  have hSo:=hS rfl
  unfold jH
  by_cases hz:kI b z=true
  · rw [if_pos hz]
    have hrow:=fY.1 hz
    unfold kI at hz
    rw [hz] at hg
    refine aL aH Tryz.func31 (by kernel_rfl) rfl rfl rfl rfl (fun st=> ?_)
    focus ((try (apply wO pk;exact rfl));(repeat' (first|(show All _;constructor)|(show Imp _ _;constructor)|(show ImpX _ _ _ _;constructor)|(apply wC pk;(iterate 2 exact rfl))|(apply wE pk;(iterate 2 exact rfl))|(apply wX pk;exact rfl)|(apply wN pk;exact rfl)|(apply wDx pk;exact rfl;kernel_rfl;exact rfl;exact rfl)|(apply aB;simp only [zqt,zqf])|(refine aD rfl (fun h=> ?_) (fun h=> ?_)<;>(try simp at h)<;>try (exfalso;omega))|((try refine aF ?_);refine ⟨_,_,_,rfl,Wk.refl _,StSub.refl _, ?_⟩)|(apply aN;(iterate 3 exact rfl);(intro _;(first|apply hr|apply hg)<;>first|assumption|omega);rotate_left;(iterate 2 exact rfl))|(apply bZ;(iterate 3 exact rfl);(intro _;(first|apply hr|apply hg)<;>first|assumption|omega);rotate_left;(iterate 2 exact rfl))|(apply ncA;(iterate 3 exact rfl);rotate_left;exact rfl;exact rfl)|(apply ldR pk;exact rfl;exact rfl;rotate_left;exact rfl;(focus ((repeat (first|exact aA _ _ _|assumption|refine (aC (by assumption)).trans ?_));done));exact rfl;exact rfl)|(apply stR pk;exact rfl;exact rfl;(focus ((repeat (first|exact aA _ _ _|assumption|refine (aC (by assumption)).trans ?_));done));exact rfl;exact rfl)|(intros;(try simp only [zql]);omega))))
    refine aO (X:={x:List R2//Mo s b z x}) (fun i=>((((St.nil 41 st).var 4 24 ((scC s))).var 5 27 ((bsC b))).pv 11 (.seq (i.1.map r2C)))) (fun i=>(bM b).length-i.1.length) ⟨[z],⟨by simp,by simp,fun y hy=>by rw [List.mem_singleton.1 hy];exact .refl⟩⟩ ?_ (fun i=> ?_)
    · ((repeat (first|refine Sub.pv ?_ rfl|refine Sub.var ?_ rfl rfl));exact Sub.nil _ _ _ (StSub.refl _) rfl)
    obtain ⟨rows,hm⟩:=i
    dsimp only
    have h2:=hm.bound hrow
    have hmo:=aiS hFo rows (by omega)
    have hle:=hm.le hrow
    have hmm:=hm.more hSo hrow
    have hb2:=hmm.bound hrow
    have hd:=hm.done hFo.len hSo hrow
    generalize iG s b rows=N at*
    by_cases he:N.length=rows.length
    obtain rfl:=hd he
    rotate_left
    rotate_left
    all_goals ((try (apply wO pk;exact rfl));(repeat' (first|(show All _;constructor)|(show Imp _ _;constructor)|(show ImpX _ _ _ _;constructor)|(apply wC pk;(iterate 2 exact rfl))|(apply wE pk;(iterate 2 exact rfl))|(apply wX pk;exact rfl)|(apply wN pk;exact rfl)|(apply wD pk [] [];kernel_rfl;exact rfl;exact rfl)|(apply aB;simp only [zqt,zqf])|(refine aD rfl (fun h=> ?_) (fun h=> ?_)<;>(try simp at h)<;>try (exfalso;omega))|(refine aF ?_;refine ⟨_,_,_,rfl,Wk.refl _,StSub.refl _, ?_,rfl⟩;try rfl)|(apply aN;(iterate 3 exact rfl);(intro _;apply hmo<;>first|assumption|omega);rotate_left;(iterate 2 exact rfl))|(refine ⟨⟨N,hmm⟩, ?_,by simp only;omega⟩;((repeat (first|refine Sub.pv ?_ rfl|refine Sub.var ?_ rfl rfl));exact Sub.nil _ _ _ (StSub.refl _) rfl))|(intros;(try simp only [zql]);omega)|((exfalso;simp_all;omega)))))
  · have hz2:(nA (bN b z.1) z.2).isSome=false:=by simpa [kI] using hz
    rw [if_neg hz]
    rw [hz2] at hg
    refine aL aH Tryz.func31 (by kernel_rfl) rfl rfl rfl rfl (fun st=> ?_)
    (try (apply wO pk;exact rfl));(repeat' (first|((refine aF ?_;exact ⟨_,_,_,rfl,Wk.nil,StSub.refl _,rfl,rfl⟩))|(show All _;constructor)|(show Imp _ _;constructor)|(show ImpX _ _ _ _;constructor)|(apply wC pk;(iterate 2 exact rfl))|(apply wE pk;(iterate 2 exact rfl))|(apply wX pk;exact rfl)|(apply wN pk;exact rfl)|(apply wD pk [] [];kernel_rfl;exact rfl;exact rfl)|(apply aB;simp only [zqt,zqf])|(refine aD rfl (fun h=> ?_) (fun h=> ?_)<;>(try simp at h)<;>try (exfalso;omega))|(refine aF ?_;refine ⟨_,_,_,rfl,Wk.refl _,StSub.refl _, ?_,rfl⟩;try rfl)|(apply aN;(iterate 3 exact rfl);(intro _;(first|apply hr|apply hg)<;>first|assumption|omega);rotate_left;(iterate 2 exact rfl))|(intros;(try simp only [zql]);omega)))
end Go.Proofs.YtddmbnddgiebgaaGreatDoor
