import Derived.Test.YtcglimangneafaaGreatDoorBsFn
import Derived.Test.YtcglimangneafaaGreatDoorClo
import Derived.Test.YtcglimangneafaaGreatDoorIns
set_option linter.unusedSimpArgs false
set_option linter.unusedVariables false
namespace Go.Proofs.YtcglimangneafaaGreatDoor
open Go Go.Abs
attribute [local irreducible] Ev PWp
set_option maxRecDepth 10000
set_option maxHeartbeats 4000000
theorem kU {st:aO} {id id2:Nat} {o:Option AObj} (hid:st id=none) (h:upd (upd st id o) id none id2=none):st id2=none:=by
  by_cases e:id2=id
  · rw [e];exact hid
  · rwa [aF e,aF e] at h
abbrev Bs :=List Da
def bsC (b:Bs):List PV:=[.seq (b.map Da.cells)]
def okT (b:Bs) (k:Int):Bool:=decide (0≤k)&&decide (k<b.length)
def aR (b:Bs) (k:Int):List Ln:=if okT b k then (b[k.toNat]!).lines else []
theorem zT (b:Bs) (k:Int) (h:okT b k=false):PF Tryz.prog 48 [.agg (bsC b),(PV.val (Value.int .i64 (k)))] (.tup [.agg [.seq [], .seq [],(PV.val (Value.int .i64 (0)))],(PV.val (Value.bool (false)))]):=by
  unfold okT at h
  simp only [Bool.and_eq_false_iff,decide_eq_false_iff_not] at h
  refine aK aG Tryz.func48 (by kernel_rfl) rfl rfl rfl rfl (fun st=> ?_)
  (try (apply wO pk;exact rfl));(repeat' (first|(show All _;constructor)|(show Imp _ _;constructor)|(show ImpX _ _ _ _;constructor)|(apply wC pk;(iterate 2 exact rfl))|(apply wE pk;(iterate 2 exact rfl))|(apply wX pk;exact rfl)|(apply wN pk;exact rfl)|(apply wD pk [] [];kernel_rfl;exact rfl;exact rfl)|(apply aB;simp only [zqt,zqf])|(refine aC rfl (fun h=> ?_) (fun h=> ?_)<;>(try simp at h)<;>try (exfalso;omega))|(refine aD ?_;first|(refine ⟨_,_,_,rfl,Wk.refl _,StSub.refl _, ?_,rfl⟩;(first|rfl))|(refine ⟨_,_,_,rfl,Wk.refl _,aH (by assumption), ?_,rfl⟩;(first|rfl))|(refine ⟨_,_,_,rfl,Wk.soft _,StSub.refl _, ?_,rfl⟩;(first|rfl))|(refine ⟨_,_,_,rfl,Wk.soft _,aH (by assumption), ?_,rfl⟩;(first|rfl))|(refine ⟨_,_,_,rfl,Wk.refl _,StSub.refl _, ?_,rfl⟩)|(refine ⟨_,_,_,rfl,Wk.soft _,aH (by assumption), ?_,rfl⟩))|(intros;(try simp only [zql]);omega)))
theorem qF (b:Bs) (k:Nat) (h:k<b.length):PF Tryz.prog 48 [.agg (bsC b),(PV.val (Value.int .i64 ((k:Nat))))] (.tup [.agg [.seq (b[k].lines.map Ln.cells), .seq (b.map Da.cells),(PV.val (Value.int .i64 ((k:Nat))))],(PV.val (Value.bool (true)))]):=by
  refine aK aG Tryz.func48 (by kernel_rfl) rfl rfl rfl rfl (fun st=> ?_)
  (try (apply wO pk;exact rfl));(repeat' (first|(show All _;constructor)|(show Imp _ _;constructor)|(show ImpX _ _ _ _;constructor)|(apply wC pk;(iterate 2 exact rfl))|(apply wE pk;(iterate 2 exact rfl))|(apply wX pk;exact rfl)|(apply wN pk;exact rfl)|(apply wD pk [] [];kernel_rfl;exact rfl;exact rfl)|(apply aB;simp only [zqt,zqf])|(refine aC rfl (fun h=> ?_) (fun h=> ?_)<;>(try simp at h)<;>try (exfalso;omega))|(refine aD ?_;refine ⟨_,_,_,rfl,Wk.refl _,StSub.refl _, ?_,rfl⟩;try rfl)|(apply bC pk;(iterate 6 exact rfl);rotate_left;exact rfl;(intro hw;exact rfl);(intro hw;apply aM<;>omega);(intro _;exact rfl);exact rfl)|(intros;(try simp only [zql]);omega)))
theorem aoQ (x:Ln) (k:Int):PF Tryz.prog 74 [.agg x.cells, .rp [(PV.val (Value.int .i64 (k)))]] (PV.val (Value.bool (decide (x.key=k)))):=by
  refine aK aG Tryz.func74 (by kernel_rfl) rfl rfl rfl rfl (fun st=> ?_)
  (try (apply wO pk;exact rfl));(repeat' (first|(show All _;constructor)|(show Imp _ _;constructor)|(show ImpX _ _ _ _;constructor)|(apply wC pk;(iterate 2 exact rfl))|(apply wE pk;(iterate 2 exact rfl))|(apply wX pk;exact rfl)|(apply wN pk;exact rfl)|(apply wD pk [] [];kernel_rfl;exact rfl;exact rfl)|(apply aB;simp only [zqt,zqf])|(refine aC rfl (fun h=> ?_) (fun h=> ?_)<;>(try simp at h)<;>try (exfalso;omega))|(refine aD ?_;refine ⟨_,_,_,rfl,Wk.refl _,StSub.refl _, ?_,rfl⟩;try rfl)|(intros;(try simp only [zql]);omega)))
theorem asD (x:Ln) (k:Int):PF Tryz.prog 75 [.agg x.cells, .rp [(PV.val (Value.int .i64 (k)))]] (PV.val (Value.bool (decide (x.key>k)))):=by
  refine aK aG Tryz.func75 (by kernel_rfl) rfl rfl rfl rfl (fun st=> ?_)
  (try (apply wO pk;exact rfl));(repeat' (first|(show All _;constructor)|(show Imp _ _;constructor)|(show ImpX _ _ _ _;constructor)|(apply wC pk;(iterate 2 exact rfl))|(apply wE pk;(iterate 2 exact rfl))|(apply wX pk;exact rfl)|(apply wN pk;exact rfl)|(apply wD pk [] [];kernel_rfl;exact rfl;exact rfl)|(apply aB;simp only [zqt,zqf])|(refine aC rfl (fun h=> ?_) (fun h=> ?_)<;>(try simp at h)<;>try (exfalso;omega))|(refine aD ?_;refine ⟨_,_,_,rfl,Wk.refl _,StSub.refl _, ?_,rfl⟩;try rfl)|(intros;(try simp only [zql]);omega)))
def atP (l:List Ln) (k:Int):Int×Bool:=
  if dY (fun x=>decide (x.key=k)) l≥0 then (dY (fun x=>decide (x.key=k)) l,true)
  else if dY (fun x=>decide (x.key>k)) l≥0 then (dY (fun x=>decide (x.key>k)) l,false) else (l.length,false)
theorem qC (l:List Ln) (k:Int) (hl:l.length<1000000000000):PF Tryz.prog 49 [.seq (l.map Ln.cells),(PV.val (Value.int .i64 (k)))] (.tup [(PV.val (Value.int .i64 ((atP l k).1))),(PV.val (Value.bool ((atP l k).2)))]):=by
  have h1:=xL 74 [.rp [(PV.val (Value.int .i64 (k)))]] (fun x=>decide (x.key=k)) l (by omega) fun x=>aoQ x k
  have h2:=xL 75 [.rp [(PV.val (Value.int .i64 (k)))]] (fun x=>decide (x.key>k)) l (by omega) fun x=>asD x k
  unfold atP
  generalize dY (fun x=>decide (x.key=k)) l=A at*
  generalize dY (fun x=>decide (x.key>k)) l=B at*
  refine aK aG Tryz.func49 (by kernel_rfl) rfl rfl rfl rfl (fun st=> ?_)
  (try (apply wO pk;exact rfl));(repeat' (first|(show All _;constructor)|(show Imp _ _;constructor)|(show ImpX _ _ _ _;constructor)|(apply wC pk;(iterate 2 exact rfl))|(apply wE pk;(iterate 2 exact rfl))|(apply wX pk;exact rfl)|(apply wN pk;exact rfl)|(apply wD pk [] [];kernel_rfl;exact rfl;exact rfl)|(apply aB;simp only [zqt,zqf])|(refine aC rfl (fun h=> ?_) (fun h=> ?_)<;>(try simp at h)<;>try (exfalso;omega))|(refine aD ?_;refine ⟨_,_,_,rfl,Wk.refl _,StSub.refl _, ?_,rfl⟩;try first|rfl|((first|(rw [if_pos (by omega)];done)|(rw [if_neg (by omega),if_pos (by omega)];done)|(rw [if_neg (by omega),if_neg (by omega)];simp));done))|(apply aL;(iterate 3 exact rfl);(intro _;(first|apply h1|apply h2)<;>first|assumption|omega);rotate_left;(iterate 2 exact rfl))|(apply cP 3;exact rfl;exact rfl)|(intros;(try simp only [zql]);omega)))
theorem akH {st:aO} {id:Nat} {o:Option AObj} {a b:AObj} (h:b=a):StSub (upd st id (some a)) (upd (upd st id o) id (some b)):=fun j=>by
  subst h
  right
  by_cases e:j=id
  · subst e;rw [aA,aA]
  · simp only [aF e]
theorem asM (b:Bs) (ls l0:List Ln) (k:Nat) (st:aO) (hk:k<b.length) (hl:b.length<100000000000):PC Tryz.prog 53 [.agg [.seq (l0.map Ln.cells), .seq (b.map Da.cells),(PV.val (Value.int .i64 ((k:Nat))))], .seq (ls.map Ln.cells)] st fun r S=>∃id,r= .agg [.vec id 1 0 b.length]∧st id=none∧S=upd st id (some (.arr 108 ((b.set k ⟨ls⟩).map Da.cells))):=by
  refine eD aG Tryz.func53 (by kernel_rfl) rfl rfl rfl rfl ?_
  (try (apply wO pk;exact rfl));(repeat' (first|((refine aD ?_;refine ⟨_,_,upd st id (some (.arr 108 ((b.set k ⟨ls⟩).map Da.cells))),rfl,Wk.refl _, ?_,id,rfl,hid,rfl⟩;exact akH (by simp)))|(show All _;constructor)|(show Imp _ _;constructor)|(show ImpX _ _ _ _;constructor)|(apply wC pk;(iterate 2 exact rfl))|(apply wE pk;(iterate 2 exact rfl))|(apply wX pk;exact rfl)|(apply wN pk;exact rfl)|(apply wDx pk;exact rfl;kernel_rfl;exact rfl;exact rfl)|(apply aB;simp only [zqt,zqf])|(refine aC rfl (fun h=> ?_) (fun h=> ?_)<;>(try simp at h)<;>try (exfalso;omega))|((try refine aD ?_);refine ⟨_,_,_,rfl,Wk.refl _,StSub.refl _, ?_⟩)|(apply ncA;(iterate 3 exact rfl);rotate_left;exact rfl;exact rfl)|(apply ldR pk;exact rfl;exact rfl;rotate_left;exact rfl;(focus ((repeat (first|exact aA _ _ _|assumption|refine (aF (by assumption)).trans ?_));done));exact rfl;exact rfl)|(apply stR pk;exact rfl;exact rfl;(focus ((repeat (first|exact aA _ _ _|assumption|refine (aF (by assumption)).trans ?_));done));exact rfl;exact rfl)|(apply ixA pk;(iterate 5 exact rfl);rotate_left;exact rfl;(intro hw;(first|exact (show _=((k:Nat):Int) from by omega)|(simp [gw] at hw;first|exact (show _=((k:Nat):Int) from by omega)|(refine (show _=((0:Nat):Int) from ?_);omega))|exact rfl));(intro hw;(first|omega|(focus (simp [gw] at hw;done))|(simp [gw] at hw;omega)|(simp only [zqs];omega)));exact rfl;(first|exact Nat.zero_add _|exact rfl))|(apply ldA pk Da.elem;exact rfl;exact rfl;rotate_left;exact rfl;(focus ((repeat (first|exact aA _ _ _|assumption|refine (aF (by assumption)).trans ?_));done));(intro hw;(first|omega|(focus (simp [gw] at hw;done))|(simp [gw] at hw;omega)|(simp only [zqs];omega)));exact rfl)|(apply stA pk Da.elem;(iterate 3 exact rfl);(focus ((repeat (first|exact aA _ _ _|assumption|refine (aF (by assumption)).trans ?_));done));(first|omega|(simp only [zqs];omega));exact rfl)|(apply cT;exact rfl;exact rfl;(apply (amF b _ (by omega))<;>first|exact aA _ _ _|assumption|omega|(focus ((repeat (first|exact aA _ _ _|assumption|refine (aF (by assumption)).trans ?_));done)));(iterate 3 exact rfl);intro _ st' hR;obtain ⟨id,rfl,hid,rfl⟩:=hR)|(apply cT;exact rfl;exact rfl;(first|(apply fail_no_spec<;>first|exact aA _ _ _|assumption|omega|(simp only [zqs];omega)|(focus ((repeat (first|exact aA _ _ _|assumption|refine (aF (by assumption)).trans ?_));done))));(iterate 3 exact rfl);intro _ st' hR;(first|subst hR|obtain ⟨rfl,rfl⟩:=hR))|(intros;(try simp only [zql]);omega)))
theorem akE (b:Bs) (ls l0:List Ln) (k:Nat) (hk:k<b.length) (hl:b.length<100000000000):PF Tryz.prog 53 [.agg [.seq (l0.map Ln.cells), .seq (b.map Da.cells),(PV.val (Value.int .i64 ((k:Nat))))], .seq (ls.map Ln.cells)] (.agg (bsC (b.set k ⟨ls⟩))):=fun st=>
  pA (sz:=1) (asM b ls l0 k st hk hl) fun p st' h=>by
    obtain ⟨id,rfl,h3,rfl⟩:=h
    refine .inl ⟨id,108,(b.set k ⟨ls⟩).map Da.cells,_,st,aA _ _ _,zB, .agg (.cons ?_ .nil),eO h3,rfl,rfl⟩
    have e:((b.set k ⟨ls⟩).map Da.cells).length=b.length:=by simp
    rw [←e];exact .all
theorem aeE (b:Bs) (ls l0:List Ln) (k id n:Nat) (st:aO) (hst:st id=some (.arr 53 (ls.map Ln.cells))) (hn:ls.length=n) (hk:k<b.length) (hl:b.length<100000000000):PC Tryz.prog 53 [.agg [.seq (l0.map Ln.cells), .seq (b.map Da.cells),(PV.val (Value.int .i64 ((k:Nat))))], .vec id 3 0 n] st fun r S=>r= .agg (bsC (b.set k ⟨ls⟩))∧S=upd st id none:=
  PC.freeze2 hst gI ((zql _).trans hn) (akE b ls l0 k hk hl _)
theorem uL {α:Type} (f:α→Bool) (l:List α):(∃j:Nat,j<l.length∧dY f l=j)∨dY f l= -1:=by
  unfold dY
  cases h:l.findIdx? f with
  |none=>exact .inr rfl
  |some j=>exact .inl ⟨j,(List.findIdx?_eq_some_iff_getElem.1 h).1,rfl⟩
theorem tY (l:List Ln) (k:Int):∃j:Nat,j≤l.length∧(atP l k).1=j∧((atP l k).2=true→j<l.length):=by
  unfold atP
  rcases uL (fun x:Ln=>decide (x.key=k)) l with ⟨j,hj,e⟩|e
  · rw [if_pos (by omega)];exact ⟨j,by omega,e,fun _=>hj⟩
  · rw [if_neg (by omega)]
    rcases uL (fun x:Ln=>decide (x.key>k)) l with ⟨j,hj,e⟩|e
    · rw [if_pos (by omega)];exact ⟨j,by omega,e,fun h=>by cases h⟩
    · rw [if_neg (by omega)];exact ⟨l.length,Nat.le_refl _,rfl,fun h=>by cases h⟩
def pR (l:List Ln) (a:Ln):List Ln:=if (atP l a.key).2 then l.set (atP l a.key).1.toNat a else dA l (atP l a.key).1.toNat [a]
def iR (b:Bs) (k:Int) (a:Ln):Bs:=if okT b k then b.set k.toNat ⟨pR (aR b k) a⟩ else b
theorem amZ (b:Bs) (k:Int) (a:Ln) (hl:b.length<100000000000) (hll:∀d∈b,d.lines.length<100000000000):PF Tryz.prog 23 [.agg (bsC b),(PV.val (Value.int .i64 (k))), .agg a.cells] (.agg (bsC (iR b k a))):=by
  unfold iR
  cases hok:okT b k with
  |false=>
    have ho:=zT b k hok
    rw [if_neg (by simp)]
    refine aK aG Tryz.func23 (by kernel_rfl) rfl rfl rfl rfl (fun st=> ?_)
    (try (apply wO pk;exact rfl));(repeat' (first|(show All _;constructor)|(show Imp _ _;constructor)|(show ImpX _ _ _ _;constructor)|(apply wC pk;(iterate 2 exact rfl))|(apply wE pk;(iterate 2 exact rfl))|(apply wX pk;exact rfl)|(apply wN pk;exact rfl)|(apply wD pk [] [];kernel_rfl;exact rfl;exact rfl)|(apply aB;simp only [zqt,zqf])|(refine aC rfl (fun h=> ?_) (fun h=> ?_)<;>(try simp at h)<;>try (exfalso;omega))|(refine aD ?_;refine ⟨_,_,_,rfl,Wk.refl _,StSub.refl _, ?_,rfl⟩;try rfl)|(apply aL;(iterate 3 exact rfl);(intro _;apply ho<;>first|assumption|omega);rotate_left;(iterate 2 exact rfl))|(intros;(try simp only [zql]);omega)))
  |true=>
    obtain ⟨q,rfl,hq⟩:∃q:Nat,k=q∧q<b.length:=by
      unfold okT at hok
      simp only [Bool.and_eq_true,decide_eq_true_eq] at hok
      exact ⟨k.toNat,by omega,by omega⟩
    have ho:=qF b q hq
    have hlq:=hll b[q] (List.getElem_mem hq)
    have hln:aR b q=b[q].lines:=by unfold aR;rw [if_pos hok];simp [hq]
    rw [if_pos rfl,hln,Int.toNat_natCast]
    generalize hLe:b[q].lines=L at*
    have ha:=qC L a.key (by omega)
    obtain ⟨j,hj,e1,e2⟩:=tY L a.key
    unfold pR
    rw [e1] at ha⊢
    rw [Int.toNat_natCast]
    cases hf:(atP L a.key).2 with
    |true=>
      have hjl:=e2 hf
      rw [hf] at ha
      rw [if_pos rfl]
      refine aK aG Tryz.func23 (by kernel_rfl) rfl rfl rfl rfl (fun st=> ?_)
      (try (apply wO pk;exact rfl));(repeat' (first|((refine aD ?_;exact ⟨_,_,st,rfl,Wk.refl _,aI (aI (aI (StSub.refl _) hid) hid) hid,(by rw [show (L.toArray.setIfInBounds j a).toList=L.set j a from by simp];rfl),rfl⟩))|(show All _;constructor)|(show Imp _ _;constructor)|(show ImpX _ _ _ _;constructor)|(apply wC pk;(iterate 2 exact rfl))|(apply wE pk;(iterate 2 exact rfl))|(apply wX pk;exact rfl)|(apply wN pk;exact rfl)|(apply wDx pk;exact rfl;kernel_rfl;exact rfl;exact rfl)|(apply aB;simp only [zqt,zqf])|(refine aC rfl (fun h=> ?_) (fun h=> ?_)<;>(try simp at h)<;>try (exfalso;omega))|((try refine aD ?_);refine ⟨_,_,_,rfl,Wk.refl _,StSub.refl _, ?_⟩)|(apply aL;(iterate 3 exact rfl);(intro _;(first|apply ho|apply ha)<;>first|assumption|omega);rotate_left;(iterate 2 exact rfl))|(apply eE;(iterate 3 exact rfl);(intro _;(first|apply ho|apply ha)<;>first|assumption|omega);rotate_left;(iterate 2 exact rfl))|(apply ncA;(iterate 3 exact rfl);rotate_left;exact rfl;exact rfl)|(apply ldR pk;exact rfl;exact rfl;rotate_left;exact rfl;(focus ((repeat (first|exact aA _ _ _|assumption|refine (aF (by assumption)).trans ?_));done));exact rfl;exact rfl)|(apply stR pk;exact rfl;exact rfl;(focus ((repeat (first|exact aA _ _ _|assumption|refine (aF (by assumption)).trans ?_));done));exact rfl;exact rfl)|(apply ixA pk;(iterate 5 exact rfl);rotate_left;exact rfl;(intro hw;(first|exact (show _=((j:Nat):Int) from by omega)|(simp [gw] at hw;first|exact (show _=((j:Nat):Int) from by omega)|(refine (show _=((0:Nat):Int) from ?_);omega))|exact rfl));(intro hw;(first|omega|(focus (simp [gw] at hw;done))|(simp [gw] at hw;omega)|(simp only [zqs];omega)));exact rfl;(first|exact Nat.zero_add _|exact rfl))|(apply ldA pk Ln.elem;exact rfl;exact rfl;rotate_left;exact rfl;(focus ((repeat (first|exact aA _ _ _|assumption|refine (aF (by assumption)).trans ?_));done));(intro hw;(first|omega|(focus (simp [gw] at hw;done))|(simp [gw] at hw;omega)|(simp only [zqs];omega)));exact rfl)|(apply stA pk Ln.elem;(iterate 3 exact rfl);(focus ((repeat (first|exact aA _ _ _|assumption|refine (aF (by assumption)).trans ?_));done));(first|omega|(simp only [zqs];omega));exact rfl)|(apply cT;exact rfl;exact rfl;(apply (rC L _ (by omega))<;>first|exact aA _ _ _|assumption|omega|(focus ((repeat (first|exact aA _ _ _|assumption|refine (aF (by assumption)).trans ?_));done)));(iterate 3 exact rfl);intro _ st' hR;obtain ⟨id,rfl,hid,rfl⟩:=hR)|(apply cT;exact rfl;exact rfl;(first|(apply (aeE b ((L.toArray.setIfInBounds j a).toList) L q id L.length _ (aA _ _ _) (by simp) hq hl)<;>first|exact aA _ _ _|assumption|omega|(simp only [zqs];omega)|(focus ((repeat (first|exact aA _ _ _|assumption|refine (aF (by assumption)).trans ?_));done))));(iterate 3 exact rfl);intro _ st' hR;(first|subst hR|obtain ⟨rfl,rfl⟩:=hR))|(intros;(try simp only [zql]);omega)))
    |false=>
      rw [hf] at ha
      rw [if_neg (by simp)]
      refine aK aG Tryz.func23 (by kernel_rfl) rfl rfl rfl rfl (fun st=> ?_)
      (try (apply wO pk;exact rfl));(repeat' (first|((refine aD ?_;exact ⟨_,_,st,rfl,Wk.refl _,aI (aI (aI (aI (StSub.refl _) hid) hid) (kU hid hid2)) (kU hid hid2),rfl,rfl⟩))|(show All _;constructor)|(show Imp _ _;constructor)|(show ImpX _ _ _ _;constructor)|(apply wC pk;(iterate 2 exact rfl))|(apply wE pk;(iterate 2 exact rfl))|(apply wX pk;exact rfl)|(apply wN pk;exact rfl)|(apply wDx pk;exact rfl;kernel_rfl;exact rfl;exact rfl)|(apply aB;simp only [zqt,zqf])|(refine aC rfl (fun h=> ?_) (fun h=> ?_)<;>(try simp at h)<;>try (exfalso;omega))|((try refine aD ?_);refine ⟨_,_,_,rfl,Wk.refl _,StSub.refl _, ?_⟩)|(apply aL;(iterate 3 exact rfl);(intro _;(first|apply ho|apply ha)<;>first|assumption|omega);rotate_left;(iterate 2 exact rfl))|(apply eE;(iterate 3 exact rfl);(intro _;(first|apply ho|apply ha)<;>first|assumption|omega);rotate_left;(iterate 2 exact rfl))|(apply ncA;(iterate 3 exact rfl);rotate_left;exact rfl;exact rfl)|(apply ldR pk;exact rfl;exact rfl;rotate_left;exact rfl;(focus ((repeat (first|exact aA _ _ _|assumption|refine (aF (by assumption)).trans ?_));done));exact rfl;exact rfl)|(apply stR pk;exact rfl;exact rfl;(focus ((repeat (first|exact aA _ _ _|assumption|refine (aF (by assumption)).trans ?_));done));exact rfl;exact rfl)|(apply ixA pk;(iterate 5 exact rfl);rotate_left;exact rfl;(intro hw;(first|exact (show _=((j:Nat):Int) from by omega)|(simp [gw] at hw;first|exact (show _=((j:Nat):Int) from by omega)|(refine (show _=((0:Nat):Int) from ?_);omega))|exact rfl));(intro hw;(first|omega|(focus (simp [gw] at hw;done))|(simp [gw] at hw;omega)|(simp only [zqs];omega)));exact rfl;(first|exact Nat.zero_add _|exact rfl))|(apply ldA pk Ln.elem;exact rfl;exact rfl;rotate_left;exact rfl;(focus ((repeat (first|exact aA _ _ _|assumption|refine (aF (by assumption)).trans ?_));done));(intro hw;(first|omega|(focus (simp [gw] at hw;done))|(simp [gw] at hw;omega)|(simp only [zqs];omega)));exact rfl)|(apply stA pk Ln.elem;(iterate 3 exact rfl);(focus ((repeat (first|exact aA _ _ _|assumption|refine (aF (by assumption)).trans ?_));done));(first|omega|(simp only [zqs];omega));exact rfl)|(apply cT;exact rfl;exact rfl;(apply (rC L _ (by omega))<;>first|exact aA _ _ _|assumption|omega|(focus ((repeat (first|exact aA _ _ _|assumption|refine (aF (by assumption)).trans ?_));done)));(iterate 3 exact rfl);intro _ st' hR;obtain ⟨id,rfl,hid,rfl⟩:=hR)|(apply cT;exact rfl;exact rfl;(apply (aoB L [a] j id L.length _ (aA _ _ _) rfl hj (by simp) (by simp;omega))<;>first|exact aA _ _ _|assumption|omega|(focus ((repeat (first|exact aA _ _ _|assumption|refine (aF (by assumption)).trans ?_));done)));(iterate 3 exact rfl);intro _ st' hR;obtain ⟨id2,rfl,hid2,rfl⟩:=hR)|(apply cT;exact rfl;exact rfl;(first|(apply (aeE b (dA L j [a]) L q id2 (dA L j [a]).length _ (aA _ _ _) rfl hq hl)<;>first|exact aA _ _ _|assumption|omega|(simp only [zqs];omega)|(focus ((repeat (first|exact aA _ _ _|assumption|refine (aF (by assumption)).trans ?_));done))));(iterate 3 exact rfl);intro _ st' hR;(first|subst hR|obtain ⟨rfl,rfl⟩:=hR))|(intros;(try simp only [zql]);omega)))
def kG (b:Bs) (k key:Int):Bs:=if okT b k then if (atP (aR b k) key).2 then b.set k.toNat ⟨(aR b k).eraseIdx (atP (aR b k) key).1.toNat⟩ else b else b
theorem anW (k:Int):atP [] k=(0,false):=rfl
theorem akL (b:Bs) (k key:Int) (hl:b.length<100000000000) (hll:∀d∈b,d.lines.length<100000000000):PF Tryz.prog 27 [.agg (bsC b),(PV.val (Value.int .i64 (k))),(PV.val (Value.int .i64 (key)))] (.agg (bsC (kG b k key))):=by
  unfold kG
  cases hok:okT b k with
  |false=>
    have ho:=zT b k hok
    have ha:=qC [] key (by simp)
    rw [anW] at ha
    rw [if_neg (by simp)]
    refine aK aG Tryz.func27 (by kernel_rfl) rfl rfl rfl rfl (fun st=> ?_)
    (try (apply wO pk;exact rfl));(repeat' (first|(show All _;constructor)|(show Imp _ _;constructor)|(show ImpX _ _ _ _;constructor)|(apply wC pk;(iterate 2 exact rfl))|(apply wE pk;(iterate 2 exact rfl))|(apply wX pk;exact rfl)|(apply wN pk;exact rfl)|(apply wD pk [] [];kernel_rfl;exact rfl;exact rfl)|(apply aB;simp only [zqt,zqf])|(refine aC rfl (fun h=> ?_) (fun h=> ?_)<;>(try simp at h)<;>try (exfalso;omega))|(refine aD ?_;refine ⟨_,_,_,rfl,Wk.refl _,StSub.refl _, ?_,rfl⟩;try rfl)|(apply aL;(iterate 3 exact rfl);(intro _;(first|apply ho|apply ha)<;>first|assumption|omega);rotate_left;(iterate 2 exact rfl))|(intros;(try simp only [zql]);omega)))
  |true=>
    obtain ⟨q,rfl,hq⟩:∃q:Nat,k=q∧q<b.length:=by
      unfold okT at hok
      simp only [Bool.and_eq_true,decide_eq_true_eq] at hok
      exact ⟨k.toNat,by omega,by omega⟩
    have ho:=qF b q hq
    have hlq:=hll b[q] (List.getElem_mem hq)
    have hln:aR b q=b[q].lines:=by unfold aR;rw [if_pos hok];simp [hq]
    rw [if_pos rfl,hln,Int.toNat_natCast]
    generalize hLe:b[q].lines=L at*
    have ha:=qC L key (by omega)
    obtain ⟨j,hj,e1,e2⟩:=tY L key
    rw [e1] at ha⊢
    rw [Int.toNat_natCast]
    cases hf:(atP L key).2 with
    |false=>
      rw [hf] at ha
      rw [if_neg (by simp)]
      refine aK aG Tryz.func27 (by kernel_rfl) rfl rfl rfl rfl (fun st=> ?_)
      (try (apply wO pk;exact rfl));(repeat' (first|(show All _;constructor)|(show Imp _ _;constructor)|(show ImpX _ _ _ _;constructor)|(apply wC pk;(iterate 2 exact rfl))|(apply wE pk;(iterate 2 exact rfl))|(apply wX pk;exact rfl)|(apply wN pk;exact rfl)|(apply wD pk [] [];kernel_rfl;exact rfl;exact rfl)|(apply aB;simp only [zqt,zqf])|(refine aC rfl (fun h=> ?_) (fun h=> ?_)<;>(try simp at h)<;>try (exfalso;omega))|(refine aD ?_;refine ⟨_,_,_,rfl,Wk.refl _,StSub.refl _, ?_,rfl⟩;try rfl)|(apply aL;(iterate 3 exact rfl);(intro _;(first|apply ho|apply ha)<;>first|assumption|omega);rotate_left;(iterate 2 exact rfl))|(intros;(try simp only [zql]);omega)))
    |true=>
      have hjl:=e2 hf
      rw [hf] at ha
      rw [if_pos rfl]
      refine aK aG Tryz.func27 (by kernel_rfl) rfl rfl rfl rfl (fun st=> ?_)
      (try (apply wO pk;exact rfl));(repeat' (first|((refine aD ?_;exact ⟨_,_,st,rfl,Wk.refl _,aI (aI (aI (aI (StSub.refl _) hid) hid) (kU hid hid2)) (kU hid hid2),rfl,rfl⟩))|(apply wDO pk [0,1,2,4,5,6,3,7,8,9] [3,7,8] [] [6,7,8] [];exact rfl;exact rfl;kernel_rfl;exact rfl;exact rfl)|(show All _;constructor)|(show Imp _ _;constructor)|(show ImpX _ _ _ _;constructor)|(apply wC pk;(iterate 2 exact rfl))|(apply wE pk;(iterate 2 exact rfl))|(apply wX pk;exact rfl)|(apply wN pk;exact rfl)|(apply wDx pk;exact rfl;kernel_rfl;exact rfl;exact rfl)|(apply aB;simp only [zqt,zqf])|(refine aC rfl (fun h=> ?_) (fun h=> ?_)<;>(try simp at h)<;>try (exfalso;omega))|((try refine aD ?_);refine ⟨_,_,_,rfl,Wk.refl _,StSub.refl _, ?_⟩)|(apply aL;(iterate 3 exact rfl);(intro _;(first|apply ho|apply ha)<;>first|assumption|omega);rotate_left;(iterate 2 exact rfl))|(apply eE;(iterate 3 exact rfl);(intro _;(first|apply ho|apply ha)<;>first|assumption|omega);rotate_left;(iterate 2 exact rfl))|(apply ncA;(iterate 3 exact rfl);rotate_left;exact rfl;exact rfl)|(apply ldR pk;exact rfl;exact rfl;rotate_left;exact rfl;(focus ((repeat (first|exact aA _ _ _|assumption|refine (aF (by assumption)).trans ?_));done));exact rfl;exact rfl)|(apply stR pk;exact rfl;exact rfl;(focus ((repeat (first|exact aA _ _ _|assumption|refine (aF (by assumption)).trans ?_));done));exact rfl;exact rfl)|(apply cT;exact rfl;exact rfl;(apply (rC L _ (by omega))<;>first|exact aA _ _ _|assumption|omega|(focus ((repeat (first|exact aA _ _ _|assumption|refine (aF (by assumption)).trans ?_));done)));(iterate 3 exact rfl);intro _ st' hR;obtain ⟨id,rfl,hid,rfl⟩:=hR)|(apply cT;exact rfl;exact rfl;(apply (anB L j id L.length _ _ (aA _ _ _) rfl hjl (by omega) (by omega))<;>first|exact aA _ _ _|assumption|omega|(focus ((repeat (first|exact aA _ _ _|assumption|refine (aF (by assumption)).trans ?_));done)));(iterate 3 exact rfl);intro _ st' hR;obtain ⟨id2,rfl,hid2,rfl⟩:=hR)|(apply cT;exact rfl;exact rfl;(first|(apply (aeE b (L.eraseIdx j) L q id2 (L.eraseIdx j).length _ (aA _ _ _) rfl hq hl)<;>first|exact aA _ _ _|assumption|omega|(simp only [zqs];omega)|(focus ((repeat (first|exact aA _ _ _|assumption|refine (aF (by assumption)).trans ?_));done))));(iterate 3 exact rfl);intro _ st' hR;(first|subst hR|obtain ⟨rfl,rfl⟩:=hR))|(intros;(try simp only [zql]);omega)))
end Go.Proofs.YtcglimangneafaaGreatDoor
