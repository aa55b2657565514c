import Derived.Test.YtddmbnddgiebgaaGreatDoorBsFn
import Derived.Test.YtddmbnddgiebgaaGreatDoorClo
import Derived.Test.YtddmbnddgiebgaaGreatDoorIns
set_option linter.unusedSimpArgs false
set_option linter.unusedVariables false
namespace Go.Proofs.YtddmbnddgiebgaaGreatDoor
open Go Go.Abs
attribute [local irreducible] Ev PWp
set_option maxRecDepth 10000
set_option maxHeartbeats 4000000
theorem oQ {st:aI} {id id2:Nat} {o:Option AObj} (hid:st id=none) (h:upd (upd st id o) id none id2=none):st id2=none:=by
  by_cases e:id2=id
  · rw [e];exact hid
  · rwa [aB e,aB e] at h
theorem vB {st:aI} {id id2:Nat} {o b:Option AObj} (hid:st id=none):StSub (upd st id2 b) (upd (upd (upd st id o) id none) id2 b):=fun j=>by
  by_cases e:j=id2
  · subst e;right;rw [aA,aA]
  · rw [aB e,aB e]
    by_cases e2:j=id
    · subst e2;left;exact hid
    · right;rw [aB e2,aB e2]
theorem yJ (x d:Dt):PF Tryz.prog 45 [.agg x.cells, .rp d.cells] (PV.val (Value.bool (bQ x d))):=by
  refine aL aH Tryz.func45 (by kernel_rfl) rfl rfl rfl rfl (fun st=> ?_)
  (try (apply wO pk;exact rfl));(repeat' (first|(show All _;constructor)|(show Imp _ _;constructor)|(show ImpX _ _ _ _;constructor)|(apply wC pk;(iterate 2 exact rfl))|(apply wE pk;(iterate 2 exact rfl))|(apply wX pk;exact rfl)|(apply wN pk;exact rfl)|(apply wD pk [] [];kernel_rfl;exact rfl;exact rfl)|(apply aC;simp only [zqt,zqf])|(refine aD rfl (fun h=> ?_) (fun h=> ?_)<;>(try simp at h)<;>try (exfalso;omega))|(refine aF ?_;refine ⟨_,_,_,rfl,Wk.refl _,StSub.refl _, ?_,rfl⟩;try first|rfl|((rw [←anW]);done))|(apply aK;(iterate 3 exact rfl);(intro _;apply (zK x d)<;>first|assumption|omega);rotate_left;(iterate 2 exact rfl))|(intros;(try simp only [zql]);omega)))
def eF (l:List Dt) (d:Dt):Nat:=(l.findIdx? fun x=>bQ x d).getD l.length
theorem abB (l:List Dt) (d:Dt):eF l d≤l.length:=by
  unfold eF
  cases h:l.findIdx? fun x=>bQ x d with
  |none=>exact Nat.le_refl _
  |some k=>exact Nat.le_of_lt (List.findIdx?_eq_some_iff_getElem.1 h).1
def bP (a:Ln) (d:Dt):Ln:=if d∈a.by_ then a else {a with by_:=bY a.by_ (eF a.by_ d) [d]}
theorem anI (a:Ln) (d:Dt) (st:aI) (hl:a.by_.length<100000000000):PC Tryz.prog 19 [.agg a.cells, .agg d.cells] st fun r S=>(r= .agg a.cells∧S=st∧d∈a.by_)∨(d∉a.by_∧∃id,r= .agg [(PV.val (Value.int .i64 (a.key))), .seq (a.cells_.map Cl.cells), .vec id 2 0 (bY a.by_ (eF a.by_ d) [d]).length]∧st id=none∧S=upd st id (some (.arr 30 ((bY a.by_ (eF a.by_ d) [d]).map Dt.cells)))):=by
  have hc:=uB a.by_ d (by omega)
  have hi:=agR 45 [.rp d.cells] (fun x=>bQ x d) a.by_ (by omega) fun x=>yJ x d
  have hmem:(a.by_.any fun y=>decide (d=y))=decide (d∈a.by_):=by
    rw [Bool.eq_iff_iff,List.any_eq_true,decide_eq_true_eq]
    constructor
    · rintro ⟨y,hy,e⟩;rw [of_decide_eq_true e];exact hy
    · exact fun h=>⟨d,h,decide_eq_true rfl⟩
  rw [hmem] at hc
  by_cases hd:d∈a.by_
  · rw [decide_eq_true hd] at hc
    refine dU aH Tryz.func19 (by kernel_rfl) rfl rfl rfl rfl ?_
    (try (apply wO pk;exact rfl));(repeat' (first|(show All _;constructor)|(show Imp _ _;constructor)|(show ImpX _ _ _ _;constructor)|(apply wC pk;(iterate 2 exact rfl))|(apply wE pk;(iterate 2 exact rfl))|(apply wX pk;exact rfl)|(apply wN pk;exact rfl)|(apply wDx pk;exact rfl;kernel_rfl;exact rfl;exact rfl)|(apply aC;simp only [zqt,zqf])|(refine aD rfl (fun h=> ?_) (fun h=> ?_)<;>(try simp at h)<;>try (exfalso;omega))|((try refine aF ?_);(first|(refine ⟨_,_,_,rfl,Wk.refl _,StSub.refl _, ?_⟩;(exact .inl ⟨rfl,rfl,hd⟩);done)|(refine ⟨_,_, ?zs,rfl,Wk.refl _, ?zh, ?zr⟩;(case zh=>(refine aG ?_ (by assumption);(repeat refine aG ?_ (by assumption));exact StSub.refl _));(case zr=>(exact .inl ⟨rfl,rfl,hd⟩)))|refine ⟨_,_,_,rfl,Wk.refl _,StSub.refl _, ?_⟩))|(apply aK;(iterate 3 exact rfl);(intro _;apply hc<;>first|assumption|omega);rotate_left;(iterate 2 exact rfl))|(apply dG;(iterate 3 exact rfl);(intro _;apply hc<;>first|assumption|omega);rotate_left;(iterate 2 exact rfl))|(apply ncA;(iterate 3 exact rfl);rotate_left;exact rfl;exact rfl)|(apply ldR pk;exact rfl;exact rfl;rotate_left;exact rfl;(focus ((repeat (first|exact aA _ _ _|assumption|refine (aB (by assumption)).trans ?_));done));exact rfl;exact rfl)|(apply stR pk;exact rfl;exact rfl;(focus ((repeat (first|exact aA _ _ _|assumption|refine (aB (by assumption)).trans ?_));done));exact rfl;exact rfl)|(intros;(try simp only [zql]);omega)))
  rw [decide_eq_false hd] at hc
  obtain ⟨k,hk⟩:∃k,eF a.by_ d=k:=⟨_,rfl⟩
  have hkl:=abB a.by_ d
  rw [hk] at hkl⊢
  have hlen:(bY a.by_ k [d]).length=a.by_.length+1:=lX hkl
  rcases Nat.lt_or_ge k a.by_.length with hlt|hge
  · have hii:dB (fun x=>bQ x d) a.by_=((k:Nat):Int):=by
      unfold dB
      unfold eF at hk
      cases h:a.by_.findIdx? fun x=>bQ x d with
      |none=>rw [h] at hk;simp at hk;omega
      |some j=>rw [h] at hk;simp at hk;simp [hk]
    rw [hii] at hi
    refine dU aH Tryz.func19 (by kernel_rfl) rfl rfl rfl rfl ?_
    (try (apply wO pk;exact rfl));(repeat' (first|((refine aF ?_;exact ⟨_,_,upd st id2 (some (.arr 30 ((bY a.by_ k [d]).map Dt.cells))),rfl,Wk.refl _,vB hid, .inr ⟨hd,id2,rfl,oQ hid hid2,rfl⟩⟩))|(apply wDO pk [0,1,3,4,5,2,6,7,8] [2,6] [] [5,6] [];exact rfl;exact rfl;kernel_rfl;exact rfl;exact rfl)|(show All _;constructor)|(show Imp _ _;constructor)|(show ImpX _ _ _ _;constructor)|(apply wC pk;(iterate 2 exact rfl))|(apply wE pk;(iterate 2 exact rfl))|(apply wX pk;exact rfl)|(apply wN pk;exact rfl)|(apply wDx pk;exact rfl;kernel_rfl;exact rfl;exact rfl)|(apply aC;simp only [zqt,zqf])|(refine aD rfl (fun h=> ?_) (fun h=> ?_)<;>(try simp at h)<;>try (exfalso;omega))|((try refine aF ?_);refine ⟨_,_,_,rfl,Wk.refl _,StSub.refl _, ?_⟩)|(apply aK;(iterate 3 exact rfl);(intro _;(first|apply hc|apply hi)<;>first|assumption|omega);rotate_left;(iterate 2 exact rfl))|(apply dG;(iterate 3 exact rfl);(intro _;(first|apply hc|apply hi)<;>first|assumption|omega);rotate_left;(iterate 2 exact rfl))|(apply ncA;(iterate 3 exact rfl);rotate_left;exact rfl;exact rfl)|(apply ldR pk;exact rfl;exact rfl;rotate_left;exact rfl;(focus ((repeat (first|exact aA _ _ _|assumption|refine (aB (by assumption)).trans ?_));done));exact rfl;exact rfl)|(apply stR pk;exact rfl;exact rfl;(focus ((repeat (first|exact aA _ _ _|assumption|refine (aB (by assumption)).trans ?_));done));exact rfl;exact rfl)|(apply bZ;exact rfl;exact rfl;(apply (vF a.by_ _ (by omega))<;>first|exact aA _ _ _|assumption|omega|(focus ((repeat (first|exact aA _ _ _|assumption|refine (aB (by assumption)).trans ?_));done)));(iterate 3 exact rfl);intro _ st' hR;obtain ⟨id,rfl,hid,rfl⟩:=hR)|(apply bZ;exact rfl;exact rfl;(apply (zN a.by_ [d] k id a.by_.length _ (aA _ _ _) rfl (by omega) (by simp) (by simp;omega))<;>first|exact aA _ _ _|assumption|omega|(focus ((repeat (first|exact aA _ _ _|assumption|refine (aB (by assumption)).trans ?_));done)));(iterate 3 exact rfl);intro _ st' hR;obtain ⟨id2,rfl,hid2,rfl⟩:=hR)|(apply bZ;exact rfl;exact rfl;(first|(apply fail_no_spec<;>first|exact aA _ _ _|assumption|omega|(simp only [zqs];omega)|(focus ((repeat (first|exact aA _ _ _|assumption|refine (aB (by assumption)).trans ?_));done))));(iterate 3 exact rfl);intro _ st' hR;(first|subst hR|obtain ⟨rfl,rfl⟩:=hR))|(apply dC 3;exact rfl;exact rfl)|(intros;(try simp only [zql]);omega)))
  · obtain rfl:k=a.by_.length:=by omega
    have hii:dB (fun x=>bQ x d) a.by_= -1:=by
      unfold dB
      unfold eF at hk
      cases h:a.by_.findIdx? fun x=>bQ x d with
      |none=>rfl
      |some j=>
        have:=(List.findIdx?_eq_some_iff_getElem.1 h).1
        rw [h] at hk;simp at hk;omega
    rw [hii] at hi
    refine dU aH Tryz.func19 (by kernel_rfl) rfl rfl rfl rfl ?_
    (try (apply wO pk;exact rfl));(repeat' (first|((refine aF ?_;exact ⟨_,_,upd st id2 (some (.arr 30 ((bY a.by_ a.by_.length [d]).map Dt.cells))),rfl,Wk.refl _,vB hid, .inr ⟨hd,id2,rfl,oQ hid hid2,rfl⟩⟩))|(apply wDO pk [0,1,3,4,5,2,6,7,8] [2,6] [] [5,6] [];exact rfl;exact rfl;kernel_rfl;exact rfl;exact rfl)|(show All _;constructor)|(show Imp _ _;constructor)|(show ImpX _ _ _ _;constructor)|(apply wC pk;(iterate 2 exact rfl))|(apply wE pk;(iterate 2 exact rfl))|(apply wX pk;exact rfl)|(apply wN pk;exact rfl)|(apply wDx pk;exact rfl;kernel_rfl;exact rfl;exact rfl)|(apply aC;simp only [zqt,zqf])|(refine aD rfl (fun h=> ?_) (fun h=> ?_)<;>(try simp at h)<;>try (exfalso;omega))|((try refine aF ?_);refine ⟨_,_,_,rfl,Wk.refl _,StSub.refl _, ?_⟩)|(apply aK;(iterate 3 exact rfl);(intro _;(first|apply hc|apply hi)<;>first|assumption|omega);rotate_left;(iterate 2 exact rfl))|(apply dG;(iterate 3 exact rfl);(intro _;(first|apply hc|apply hi)<;>first|assumption|omega);rotate_left;(iterate 2 exact rfl))|(apply ncA;(iterate 3 exact rfl);rotate_left;exact rfl;exact rfl)|(apply ldR pk;exact rfl;exact rfl;rotate_left;exact rfl;(focus ((repeat (first|exact aA _ _ _|assumption|refine (aB (by assumption)).trans ?_));done));exact rfl;exact rfl)|(apply stR pk;exact rfl;exact rfl;(focus ((repeat (first|exact aA _ _ _|assumption|refine (aB (by assumption)).trans ?_));done));exact rfl;exact rfl)|(apply bZ;exact rfl;exact rfl;(apply (vF a.by_ _ (by omega))<;>first|exact aA _ _ _|assumption|omega|(focus ((repeat (first|exact aA _ _ _|assumption|refine (aB (by assumption)).trans ?_));done)));(iterate 3 exact rfl);intro _ st' hR;obtain ⟨id,rfl,hid,rfl⟩:=hR)|(apply bZ;exact rfl;exact rfl;(apply (aqJ a.by_ [d] a.by_.length id a.by_.length _ _ (aA _ _ _) rfl (by simp) (by omega) (by simp) (by simp;omega))<;>first|exact aA _ _ _|assumption|omega|(focus ((repeat (first|exact aA _ _ _|assumption|refine (aB (by assumption)).trans ?_));done)));(iterate 3 exact rfl);intro _ st' hR;obtain ⟨id2,rfl,hid2,rfl⟩:=hR)|(apply bZ;exact rfl;exact rfl;(first|(apply fail_no_spec<;>first|exact aA _ _ _|assumption|omega|(simp only [zqs];omega)|(focus ((repeat (first|exact aA _ _ _|assumption|refine (aB (by assumption)).trans ?_));done))));(iterate 3 exact rfl);intro _ st' hR;(first|subst hR|obtain ⟨rfl,rfl⟩:=hR))|(apply dC 3;exact rfl;exact rfl)|(intros;(try simp only [zql]);omega)))
theorem sO (a:Ln) (d:Dt) (hl:a.by_.length<100000000000):PF Tryz.prog 19 [.agg a.cells, .agg d.cells] (.agg (bP a d).cells):=fun st=>
  iP (sz:=2) (anI a d st hl) fun p st' h=>by
    rcases h with ⟨rfl,rfl,hd⟩|⟨hd,id,rfl,h3,rfl⟩
    · exact .inr ⟨_,_,Wk.refl _,StSub.refl _,by rw [bP,if_pos hd],rfl⟩
    · refine .inl ⟨id,30,(bY a.by_ (eF a.by_ d) [d]).map Dt.cells,_,st,aA _ _ _,oL, .agg (.cons .refl (.cons .refl (.cons ?_ .nil))),cJ h3,by rw [bP,if_neg hd];rfl,rfl⟩
      have e:((bY a.by_ (eF a.by_ d) [d]).map Dt.cells).length=(bY a.by_ (eF a.by_ d) [d]).length:=zql _
      rw [←e];exact .all
abbrev Bs :=List Da
def bsC (b:Bs):List PV:=[.seq (b.map Da.cells)]
def okT (b:Bs) (k:Int):Bool:=decide (0≤k)&&decide (k<b.length)
def bT (b:Bs) (k:Int):List Ln:=if okT b k then (b[k.toNat]!).lines else []
theorem aeY (b:Bs) (k:Int) (h:okT b k=false):PF Tryz.prog 40 [.agg (bsC b),(PV.val (Value.int .i64 (k)))] (.tup [.agg [.seq [], .seq [],(PV.val (Value.int .i64 (0)))],(PV.val (Value.bool (false)))]):=by
  unfold okT at h
  simp only [Bool.and_eq_false_iff,decide_eq_false_iff_not] at h
  refine aL aH Tryz.func40 (by kernel_rfl) rfl rfl rfl rfl (fun st=> ?_)
  (try (apply wO pk;exact rfl));(repeat' (first|(show All _;constructor)|(show Imp _ _;constructor)|(show ImpX _ _ _ _;constructor)|(apply wC pk;(iterate 2 exact rfl))|(apply wE pk;(iterate 2 exact rfl))|(apply wX pk;exact rfl)|(apply wN pk;exact rfl)|(apply wD pk [] [];kernel_rfl;exact rfl;exact rfl)|(apply aC;simp only [zqt,zqf])|(refine aD rfl (fun h=> ?_) (fun h=> ?_)<;>(try simp at h)<;>try (exfalso;omega))|(refine aF ?_;first|(refine ⟨_,_,_,rfl,Wk.refl _,StSub.refl _, ?_,rfl⟩;(first|rfl))|(refine ⟨_,_,_,rfl,Wk.refl _,aN (by assumption), ?_,rfl⟩;(first|rfl))|(refine ⟨_,_,_,rfl,Wk.soft _,StSub.refl _, ?_,rfl⟩;(first|rfl))|(refine ⟨_,_,_,rfl,Wk.soft _,aN (by assumption), ?_,rfl⟩;(first|rfl))|(refine ⟨_,_,_,rfl,Wk.refl _,StSub.refl _, ?_,rfl⟩)|(refine ⟨_,_,_,rfl,Wk.soft _,aN (by assumption), ?_,rfl⟩))|(intros;(try simp only [zql]);omega)))
theorem sW (b:Bs) (k:Nat) (h:k<b.length):PF Tryz.prog 40 [.agg (bsC b),(PV.val (Value.int .i64 ((k:Nat))))] (.tup [.agg [.seq (b[k].lines.map Ln.cells), .seq (b.map Da.cells),(PV.val (Value.int .i64 ((k:Nat))))],(PV.val (Value.bool (true)))]):=by
  refine aL aH Tryz.func40 (by kernel_rfl) rfl rfl rfl rfl (fun st=> ?_)
  (try (apply wO pk;exact rfl));(repeat' (first|(show All _;constructor)|(show Imp _ _;constructor)|(show ImpX _ _ _ _;constructor)|(apply wC pk;(iterate 2 exact rfl))|(apply wE pk;(iterate 2 exact rfl))|(apply wX pk;exact rfl)|(apply wN pk;exact rfl)|(apply wD pk [] [];kernel_rfl;exact rfl;exact rfl)|(apply aC;simp only [zqt,zqf])|(refine aD rfl (fun h=> ?_) (fun h=> ?_)<;>(try simp at h)<;>try (exfalso;omega))|(refine aF ?_;refine ⟨_,_,_,rfl,Wk.refl _,StSub.refl _, ?_,rfl⟩;try rfl)|(apply bC pk;(iterate 6 exact rfl);rotate_left;exact rfl;(intro hw;exact rfl);(intro hw;apply aJ<;>omega);(intro _;exact rfl);exact rfl)|(intros;(try simp only [zql]);omega)))
theorem akV (x:Ln) (k:Int):PF Tryz.prog 71 [.agg x.cells, .rp [(PV.val (Value.int .i64 (k)))]] (PV.val (Value.bool (decide (x.key=k)))):=by
  refine aL aH Tryz.func71 (by kernel_rfl) rfl rfl rfl rfl (fun st=> ?_)
  (try (apply wO pk;exact rfl));(repeat' (first|(show All _;constructor)|(show Imp _ _;constructor)|(show ImpX _ _ _ _;constructor)|(apply wC pk;(iterate 2 exact rfl))|(apply wE pk;(iterate 2 exact rfl))|(apply wX pk;exact rfl)|(apply wN pk;exact rfl)|(apply wD pk [] [];kernel_rfl;exact rfl;exact rfl)|(apply aC;simp only [zqt,zqf])|(refine aD rfl (fun h=> ?_) (fun h=> ?_)<;>(try simp at h)<;>try (exfalso;omega))|(refine aF ?_;refine ⟨_,_,_,rfl,Wk.refl _,StSub.refl _, ?_,rfl⟩;try rfl)|(intros;(try simp only [zql]);omega)))
theorem anO (x:Ln) (k:Int):PF Tryz.prog 72 [.agg x.cells, .rp [(PV.val (Value.int .i64 (k)))]] (PV.val (Value.bool (decide (x.key>k)))):=by
  refine aL aH Tryz.func72 (by kernel_rfl) rfl rfl rfl rfl (fun st=> ?_)
  (try (apply wO pk;exact rfl));(repeat' (first|(show All _;constructor)|(show Imp _ _;constructor)|(show ImpX _ _ _ _;constructor)|(apply wC pk;(iterate 2 exact rfl))|(apply wE pk;(iterate 2 exact rfl))|(apply wX pk;exact rfl)|(apply wN pk;exact rfl)|(apply wD pk [] [];kernel_rfl;exact rfl;exact rfl)|(apply aC;simp only [zqt,zqf])|(refine aD rfl (fun h=> ?_) (fun h=> ?_)<;>(try simp at h)<;>try (exfalso;omega))|(refine aF ?_;refine ⟨_,_,_,rfl,Wk.refl _,StSub.refl _, ?_,rfl⟩;try rfl)|(intros;(try simp only [zql]);omega)))
def atP (l:List Ln) (k:Int):Int×Bool:=
  if dB (fun x=>decide (x.key=k)) l≥0 then (dB (fun x=>decide (x.key=k)) l,true)
  else if dB (fun x=>decide (x.key>k)) l≥0 then (dB (fun x=>decide (x.key>k)) l,false) else (l.length,false)
theorem xH (l:List Ln) (k:Int) (hl:l.length<1000000000000):PF Tryz.prog 41 [.seq (l.map Ln.cells),(PV.val (Value.int .i64 (k)))] (.tup [(PV.val (Value.int .i64 ((atP l k).1))),(PV.val (Value.bool ((atP l k).2)))]):=by
  have h1:=vE 71 [.rp [(PV.val (Value.int .i64 (k)))]] (fun x=>decide (x.key=k)) l (by omega) fun x=>akV x k
  have h2:=vE 72 [.rp [(PV.val (Value.int .i64 (k)))]] (fun x=>decide (x.key>k)) l (by omega) fun x=>anO x k
  unfold atP
  generalize dB (fun x=>decide (x.key=k)) l=A at*
  generalize dB (fun x=>decide (x.key>k)) l=B at*
  refine aL aH Tryz.func41 (by kernel_rfl) rfl rfl rfl rfl (fun st=> ?_)
  (try (apply wO pk;exact rfl));(repeat' (first|(show All _;constructor)|(show Imp _ _;constructor)|(show ImpX _ _ _ _;constructor)|(apply wC pk;(iterate 2 exact rfl))|(apply wE pk;(iterate 2 exact rfl))|(apply wX pk;exact rfl)|(apply wN pk;exact rfl)|(apply wD pk [] [];kernel_rfl;exact rfl;exact rfl)|(apply aC;simp only [zqt,zqf])|(refine aD rfl (fun h=> ?_) (fun h=> ?_)<;>(try simp at h)<;>try (exfalso;omega))|(refine aF ?_;refine ⟨_,_,_,rfl,Wk.refl _,StSub.refl _, ?_,rfl⟩;try first|rfl|((first|(rw [if_pos (by omega)];done)|(rw [if_neg (by omega),if_pos (by omega)];done)|(rw [if_neg (by omega),if_neg (by omega)];simp));done))|(apply aK;(iterate 3 exact rfl);(intro _;(first|apply h1|apply h2)<;>first|assumption|omega);rotate_left;(iterate 2 exact rfl))|(apply dC 3;exact rfl;exact rfl)|(intros;(try simp only [zql]);omega)))
theorem agQ {st:aI} {id:Nat} {o:Option AObj} {a b:AObj} (h:b=a):StSub (upd st id (some a)) (upd (upd st id o) id (some b)):=fun j=>by
  subst h
  right
  by_cases e:j=id
  · subst e;rw [aA,aA]
  · simp only [aB e]
theorem anX (b:Bs) (ls l0:List Ln) (k:Nat) (st:aI) (hk:k<b.length) (hl:b.length<100000000000):PC Tryz.prog 55 [.agg [.seq (l0.map Ln.cells), .seq (b.map Da.cells),(PV.val (Value.int .i64 ((k:Nat))))], .seq (ls.map Ln.cells)] st fun r S=>∃id,r= .agg [.vec id 1 0 b.length]∧st id=none∧S=upd st id (some (.arr 55 ((b.set k ⟨ls⟩).map Da.cells))):=by
  refine dU aH Tryz.func55 (by kernel_rfl) rfl rfl rfl rfl ?_
  (try (apply wO pk;exact rfl));(repeat' (first|((refine aF ?_;refine ⟨_,_,upd st id (some (.arr 55 ((b.set k ⟨ls⟩).map Da.cells))),rfl,Wk.refl _, ?_,id,rfl,hid,rfl⟩;exact agQ (by simp)))|(show All _;constructor)|(show Imp _ _;constructor)|(show ImpX _ _ _ _;constructor)|(apply wC pk;(iterate 2 exact rfl))|(apply wE pk;(iterate 2 exact rfl))|(apply wX pk;exact rfl)|(apply wN pk;exact rfl)|(apply wDx pk;exact rfl;kernel_rfl;exact rfl;exact rfl)|(apply aC;simp only [zqt,zqf])|(refine aD rfl (fun h=> ?_) (fun h=> ?_)<;>(try simp at h)<;>try (exfalso;omega))|((try refine aF ?_);refine ⟨_,_,_,rfl,Wk.refl _,StSub.refl _, ?_⟩)|(apply ncA;(iterate 3 exact rfl);rotate_left;exact rfl;exact rfl)|(apply ldR pk;exact rfl;exact rfl;rotate_left;exact rfl;(focus ((repeat (first|exact aA _ _ _|assumption|refine (aB (by assumption)).trans ?_));done));exact rfl;exact rfl)|(apply stR pk;exact rfl;exact rfl;(focus ((repeat (first|exact aA _ _ _|assumption|refine (aB (by assumption)).trans ?_));done));exact rfl;exact rfl)|(apply ixA pk;(iterate 5 exact rfl);rotate_left;exact rfl;(intro hw;(first|exact (show _=((k:Nat):Int) from by omega)|(simp [gw] at hw;first|exact (show _=((k:Nat):Int) from by omega)|(refine (show _=((0:Nat):Int) from ?_);omega))|exact rfl));(intro hw;(first|omega|(focus (simp [gw] at hw;done))|(simp [gw] at hw;omega)|(simp only [zqs];omega)));exact rfl;(first|exact Nat.zero_add _|exact rfl))|(apply ldA pk Da.elem;exact rfl;exact rfl;rotate_left;exact rfl;(focus ((repeat (first|exact aA _ _ _|assumption|refine (aB (by assumption)).trans ?_));done));(intro hw;(first|omega|(focus (simp [gw] at hw;done))|(simp [gw] at hw;omega)|(simp only [zqs];omega)));exact rfl)|(apply stA pk Da.elem;(iterate 3 exact rfl);(focus ((repeat (first|exact aA _ _ _|assumption|refine (aB (by assumption)).trans ?_));done));(first|omega|(simp only [zqs];omega));exact rfl)|(apply bZ;exact rfl;exact rfl;(apply (aiM b _ (by omega))<;>first|exact aA _ _ _|assumption|omega|(focus ((repeat (first|exact aA _ _ _|assumption|refine (aB (by assumption)).trans ?_));done)));(iterate 3 exact rfl);intro _ st' hR;obtain ⟨id,rfl,hid,rfl⟩:=hR)|(apply bZ;exact rfl;exact rfl;(first|(apply fail_no_spec<;>first|exact aA _ _ _|assumption|omega|(simp only [zqs];omega)|(focus ((repeat (first|exact aA _ _ _|assumption|refine (aB (by assumption)).trans ?_));done))));(iterate 3 exact rfl);intro _ st' hR;(first|subst hR|obtain ⟨rfl,rfl⟩:=hR))|(intros;(try simp only [zql]);omega)))
theorem agL (b:Bs) (ls l0:List Ln) (k:Nat) (hk:k<b.length) (hl:b.length<100000000000):PF Tryz.prog 55 [.agg [.seq (l0.map Ln.cells), .seq (b.map Da.cells),(PV.val (Value.int .i64 ((k:Nat))))], .seq (ls.map Ln.cells)] (.agg (bsC (b.set k ⟨ls⟩))):=fun st=>
  iP (sz:=1) (anX b ls l0 k st hk hl) fun p st' h=>by
    obtain ⟨id,rfl,h3,rfl⟩:=h
    refine .inl ⟨id,55,(b.set k ⟨ls⟩).map Da.cells,_,st,aA _ _ _,wS, .agg (.cons ?_ .nil),cJ h3,rfl,rfl⟩
    have e:((b.set k ⟨ls⟩).map Da.cells).length=b.length:=by simp
    rw [←e];exact .all
theorem ajG (b:Bs) (ls l0:List Ln) (k id n:Nat) (st:aI) (hst:st id=some (.arr 43 (ls.map Ln.cells))) (hn:ls.length=n) (hk:k<b.length) (hl:b.length<100000000000):PC Tryz.prog 55 [.agg [.seq (l0.map Ln.cells), .seq (b.map Da.cells),(PV.val (Value.int .i64 ((k:Nat))))], .vec id 3 0 n] st fun r S=>r= .agg (bsC (b.set k ⟨ls⟩))∧S=upd st id none:=
  PC.freeze2 hst mD ((zql _).trans hn) (agL b ls l0 k hk hl _)
theorem sF {α:Type} (f:α→Bool) (l:List α):(∃j:Nat,j<l.length∧dB f l=j)∨dB f l= -1:=by
  unfold dB
  cases h:l.findIdx? f with
  |none=>exact .inr rfl
  |some j=>exact .inl ⟨j,(List.findIdx?_eq_some_iff_getElem.1 h).1,rfl⟩
theorem yE (l:List Ln) (k:Int):∃j:Nat,j≤l.length∧(atP l k).1=j∧((atP l k).2=true→j<l.length):=by
  unfold atP
  rcases sF (fun x:Ln=>decide (x.key=k)) l with ⟨j,hj,e⟩|e
  · rw [if_pos (by omega)];exact ⟨j,by omega,e,fun _=>hj⟩
  · rw [if_neg (by omega)]
    rcases sF (fun x:Ln=>decide (x.key>k)) l with ⟨j,hj,e⟩|e
    · rw [if_pos (by omega)];exact ⟨j,by omega,e,fun h=>by cases h⟩
    · rw [if_neg (by omega)];exact ⟨l.length,Nat.le_refl _,rfl,fun h=>by cases h⟩
def wV (l:List Ln) (a:Ln):List Ln:=if (atP l a.key).2 then l.set (atP l a.key).1.toNat a else dD l (atP l a.key).1.toNat [a]
def yS (b:Bs) (k:Int) (a:Ln):Bs:=if okT b k then b.set k.toNat ⟨wV (bT b k) a⟩ else b
theorem rR (b:Bs) (k:Int) (a:Ln) (hl:b.length<100000000000) (hll:∀d∈b,d.lines.length<100000000000):PF Tryz.prog 23 [.agg (bsC b),(PV.val (Value.int .i64 (k))), .agg a.cells] (.agg (bsC (yS b k a))):=by
  unfold yS
  cases hok:okT b k with
  |false=>
    have ho:=aeY b k hok
    rw [if_neg (by simp)]
    refine aL aH Tryz.func23 (by kernel_rfl) rfl rfl rfl rfl (fun st=> ?_)
    (try (apply wO pk;exact rfl));(repeat' (first|(show All _;constructor)|(show Imp _ _;constructor)|(show ImpX _ _ _ _;constructor)|(apply wC pk;(iterate 2 exact rfl))|(apply wE pk;(iterate 2 exact rfl))|(apply wX pk;exact rfl)|(apply wN pk;exact rfl)|(apply wD pk [] [];kernel_rfl;exact rfl;exact rfl)|(apply aC;simp only [zqt,zqf])|(refine aD rfl (fun h=> ?_) (fun h=> ?_)<;>(try simp at h)<;>try (exfalso;omega))|(refine aF ?_;refine ⟨_,_,_,rfl,Wk.refl _,StSub.refl _, ?_,rfl⟩;try rfl)|(apply aK;(iterate 3 exact rfl);(intro _;apply ho<;>first|assumption|omega);rotate_left;(iterate 2 exact rfl))|(intros;(try simp only [zql]);omega)))
  |true=>
    obtain ⟨q,rfl,hq⟩:∃q:Nat,k=q∧q<b.length:=by
      unfold okT at hok
      simp only [Bool.and_eq_true,decide_eq_true_eq] at hok
      exact ⟨k.toNat,by omega,by omega⟩
    have ho:=sW b q hq
    have hlq:=hll b[q] (List.getElem_mem hq)
    have hln:bT b q=b[q].lines:=by unfold bT;rw [if_pos hok];simp [hq]
    rw [if_pos rfl,hln,Int.toNat_natCast]
    generalize hLe:b[q].lines=L at*
    have ha:=xH L a.key (by omega)
    obtain ⟨j,hj,e1,e2⟩:=yE L a.key
    unfold wV
    rw [e1] at ha⊢
    rw [Int.toNat_natCast]
    cases hf:(atP L a.key).2 with
    |true=>
      have hjl:=e2 hf
      rw [hf] at ha
      rw [if_pos rfl]
      refine aL aH Tryz.func23 (by kernel_rfl) rfl rfl rfl rfl (fun st=> ?_)
      (try (apply wO pk;exact rfl));(repeat' (first|((refine aF ?_;exact ⟨_,_,st,rfl,Wk.refl _,aG (aG (aG (StSub.refl _) hid) hid) hid,(by rw [show (L.toArray.setIfInBounds j a).toList=L.set j a from by simp];rfl),rfl⟩))|(show All _;constructor)|(show Imp _ _;constructor)|(show ImpX _ _ _ _;constructor)|(apply wC pk;(iterate 2 exact rfl))|(apply wE pk;(iterate 2 exact rfl))|(apply wX pk;exact rfl)|(apply wN pk;exact rfl)|(apply wDx pk;exact rfl;kernel_rfl;exact rfl;exact rfl)|(apply aC;simp only [zqt,zqf])|(refine aD rfl (fun h=> ?_) (fun h=> ?_)<;>(try simp at h)<;>try (exfalso;omega))|((try refine aF ?_);refine ⟨_,_,_,rfl,Wk.refl _,StSub.refl _, ?_⟩)|(apply aK;(iterate 3 exact rfl);(intro _;(first|apply ho|apply ha)<;>first|assumption|omega);rotate_left;(iterate 2 exact rfl))|(apply dG;(iterate 3 exact rfl);(intro _;(first|apply ho|apply ha)<;>first|assumption|omega);rotate_left;(iterate 2 exact rfl))|(apply ncA;(iterate 3 exact rfl);rotate_left;exact rfl;exact rfl)|(apply ldR pk;exact rfl;exact rfl;rotate_left;exact rfl;(focus ((repeat (first|exact aA _ _ _|assumption|refine (aB (by assumption)).trans ?_));done));exact rfl;exact rfl)|(apply stR pk;exact rfl;exact rfl;(focus ((repeat (first|exact aA _ _ _|assumption|refine (aB (by assumption)).trans ?_));done));exact rfl;exact rfl)|(apply ixA pk;(iterate 5 exact rfl);rotate_left;exact rfl;(intro hw;(first|exact (show _=((j:Nat):Int) from by omega)|(simp [gw] at hw;first|exact (show _=((j:Nat):Int) from by omega)|(refine (show _=((0:Nat):Int) from ?_);omega))|exact rfl));(intro hw;(first|omega|(focus (simp [gw] at hw;done))|(simp [gw] at hw;omega)|(simp only [zqs];omega)));exact rfl;(first|exact Nat.zero_add _|exact rfl))|(apply ldA pk Ln.elem;exact rfl;exact rfl;rotate_left;exact rfl;(focus ((repeat (first|exact aA _ _ _|assumption|refine (aB (by assumption)).trans ?_));done));(intro hw;(first|omega|(focus (simp [gw] at hw;done))|(simp [gw] at hw;omega)|(simp only [zqs];omega)));exact rfl)|(apply stA pk Ln.elem;(iterate 3 exact rfl);(focus ((repeat (first|exact aA _ _ _|assumption|refine (aB (by assumption)).trans ?_));done));(first|omega|(simp only [zqs];omega));exact rfl)|(apply bZ;exact rfl;exact rfl;(apply (vG L _ (by omega))<;>first|exact aA _ _ _|assumption|omega|(focus ((repeat (first|exact aA _ _ _|assumption|refine (aB (by assumption)).trans ?_));done)));(iterate 3 exact rfl);intro _ st' hR;obtain ⟨id,rfl,hid,rfl⟩:=hR)|(apply bZ;exact rfl;exact rfl;(first|(apply (ajG b ((L.toArray.setIfInBounds j a).toList) L q id L.length _ (aA _ _ _) (by simp) hq hl)<;>first|exact aA _ _ _|assumption|omega|(simp only [zqs];omega)|(focus ((repeat (first|exact aA _ _ _|assumption|refine (aB (by assumption)).trans ?_));done))));(iterate 3 exact rfl);intro _ st' hR;(first|subst hR|obtain ⟨rfl,rfl⟩:=hR))|(intros;(try simp only [zql]);omega)))
    |false=>
      rw [hf] at ha
      rw [if_neg (by simp)]
      refine aL aH Tryz.func23 (by kernel_rfl) rfl rfl rfl rfl (fun st=> ?_)
      (try (apply wO pk;exact rfl));(repeat' (first|((refine aF ?_;exact ⟨_,_,st,rfl,Wk.refl _,aG (aG (aG (aG (StSub.refl _) hid) hid) (oQ hid hid2)) (oQ hid hid2),rfl,rfl⟩))|(show All _;constructor)|(show Imp _ _;constructor)|(show ImpX _ _ _ _;constructor)|(apply wC pk;(iterate 2 exact rfl))|(apply wE pk;(iterate 2 exact rfl))|(apply wX pk;exact rfl)|(apply wN pk;exact rfl)|(apply wDx pk;exact rfl;kernel_rfl;exact rfl;exact rfl)|(apply aC;simp only [zqt,zqf])|(refine aD rfl (fun h=> ?_) (fun h=> ?_)<;>(try simp at h)<;>try (exfalso;omega))|((try refine aF ?_);refine ⟨_,_,_,rfl,Wk.refl _,StSub.refl _, ?_⟩)|(apply aK;(iterate 3 exact rfl);(intro _;(first|apply ho|apply ha)<;>first|assumption|omega);rotate_left;(iterate 2 exact rfl))|(apply dG;(iterate 3 exact rfl);(intro _;(first|apply ho|apply ha)<;>first|assumption|omega);rotate_left;(iterate 2 exact rfl))|(apply ncA;(iterate 3 exact rfl);rotate_left;exact rfl;exact rfl)|(apply ldR pk;exact rfl;exact rfl;rotate_left;exact rfl;(focus ((repeat (first|exact aA _ _ _|assumption|refine (aB (by assumption)).trans ?_));done));exact rfl;exact rfl)|(apply stR pk;exact rfl;exact rfl;(focus ((repeat (first|exact aA _ _ _|assumption|refine (aB (by assumption)).trans ?_));done));exact rfl;exact rfl)|(apply ixA pk;(iterate 5 exact rfl);rotate_left;exact rfl;(intro hw;(first|exact (show _=((j:Nat):Int) from by omega)|(simp [gw] at hw;first|exact (show _=((j:Nat):Int) from by omega)|(refine (show _=((0:Nat):Int) from ?_);omega))|exact rfl));(intro hw;(first|omega|(focus (simp [gw] at hw;done))|(simp [gw] at hw;omega)|(simp only [zqs];omega)));exact rfl;(first|exact Nat.zero_add _|exact rfl))|(apply ldA pk Ln.elem;exact rfl;exact rfl;rotate_left;exact rfl;(focus ((repeat (first|exact aA _ _ _|assumption|refine (aB (by assumption)).trans ?_));done));(intro hw;(first|omega|(focus (simp [gw] at hw;done))|(simp [gw] at hw;omega)|(simp only [zqs];omega)));exact rfl)|(apply stA pk Ln.elem;(iterate 3 exact rfl);(focus ((repeat (first|exact aA _ _ _|assumption|refine (aB (by assumption)).trans ?_));done));(first|omega|(simp only [zqs];omega));exact rfl)|(apply bZ;exact rfl;exact rfl;(apply (vG L _ (by omega))<;>first|exact aA _ _ _|assumption|omega|(focus ((repeat (first|exact aA _ _ _|assumption|refine (aB (by assumption)).trans ?_));done)));(iterate 3 exact rfl);intro _ st' hR;obtain ⟨id,rfl,hid,rfl⟩:=hR)|(apply bZ;exact rfl;exact rfl;(apply (akE L [a] j id L.length _ (aA _ _ _) rfl hj (by simp) (by simp;omega))<;>first|exact aA _ _ _|assumption|omega|(focus ((repeat (first|exact aA _ _ _|assumption|refine (aB (by assumption)).trans ?_));done)));(iterate 3 exact rfl);intro _ st' hR;obtain ⟨id2,rfl,hid2,rfl⟩:=hR)|(apply bZ;exact rfl;exact rfl;(first|(apply (ajG b (dD L j [a]) L q id2 (dD L j [a]).length _ (aA _ _ _) rfl hq hl)<;>first|exact aA _ _ _|assumption|omega|(simp only [zqs];omega)|(focus ((repeat (first|exact aA _ _ _|assumption|refine (aB (by assumption)).trans ?_));done))));(iterate 3 exact rfl);intro _ st' hR;(first|subst hR|obtain ⟨rfl,rfl⟩:=hR))|(intros;(try simp only [zql]);omega)))
def akL (b:Bs) (k key:Int):Bs:=if okT b k then if (atP (bT b k) key).2 then b.set k.toNat ⟨(bT b k).eraseIdx (atP (bT b k) key).1.toNat⟩ else b else b
theorem arT (k:Int):atP [] k=(0,false):=rfl
end Go.Proofs.YtddmbnddgiebgaaGreatDoor
