import Derived.Test.YtcglimangneafaaGreatDoorBsFn
import Derived.Test.YtcglimangneafaaGreatDoorClo
import Derived.Test.YtcglimangneafaaGreatDoorIns
set_option linter.unusedSimpArgs false
set_option linter.unusedVariables false
namespace Go.Proofs.YtcglimangneafaaGreatDoor
open Go Go.Abs
attribute [local irreducible] Ev PWp
set_option maxRecDepth 10000
set_option maxHeartbeats 4000000
theorem afY {st:aL} {id id2:Nat} {o:Option AObj} (hid:st id=none) (h:upd (upd st id o) id none id2=none):st id2=none:=by
  by_cases e:id2=id
  · rw [e];exact hid
  · rwa [aG e,aG e] at h
abbrev Bs :=List Da
def bsC (b:Bs):List PV:=[.seq (b.map Da.cells)]
def okT (b:Bs) (k:Int):Bool:=decide (0≤k)&&decide (k<b.length)
def aV (b:Bs) (k:Int):List Ln:=if okT b k then (b[k.toNat]!).lines else []
theorem avT (b:Bs) (k:Int) (h:okT b k=false):PF Tryz.prog 48 [.agg (bsC b),(PV.val (Value.int .i64 (k)))] (.tup [.agg [.seq [], .seq [],(PV.val (Value.int .i64 (0)))],(PV.val (Value.bool (false)))]):=by
  unfold okT at h
  simp only [Bool.and_eq_false_iff,decide_eq_false_iff_not] at h
  refine aH aD Tryz.func48 (by kernel_rfl) rfl rfl rfl rfl (fun st=> ?_)
  (try (apply wO pk;exact rfl));(repeat' (first|(show All _;constructor)|(show Imp _ _;constructor)|(show ImpX _ _ _ _;constructor)|(apply wC pk;(iterate 2 exact rfl))|(refine aA rfl (fun h=> ?_) (fun h=> ?_)<;>(try simp at h)<;>try (exfalso;omega))|(refine aB ?_;first|(refine ⟨_,_,_,rfl,Wk.refl _,StSub.refl _, ?_,rfl⟩;(fail))|(refine ⟨_,_,_,rfl,Wk.refl _,aK (by assumption), ?_,rfl⟩;(fail))|(refine ⟨_,_,_,rfl,Wk.soft _,StSub.refl _, ?_,rfl⟩;(rfl))|(refine ⟨_,_,_,rfl,Wk.soft _,aK (by assumption), ?_,rfl⟩;(fail))|(refine ⟨_,_,_,rfl,Wk.refl _,StSub.refl _, ?_,rfl⟩)|(refine ⟨_,_,_,rfl,Wk.soft _,aK (by assumption), ?_,rfl⟩))))
theorem aeI (b:Bs) (k:Nat) (h:k<b.length):PF Tryz.prog 48 [.agg (bsC b),(PV.val (Value.int .i64 ((k:Nat))))] (.tup [.agg [.seq (b[k].lines.map Ln.cells), .seq (b.map Da.cells),(PV.val (Value.int .i64 ((k:Nat))))],(PV.val (Value.bool (true)))]):=by
  refine aH aD Tryz.func48 (by kernel_rfl) rfl rfl rfl rfl (fun st=> ?_)
  (try (apply wO pk;exact rfl));(repeat' (first|(show All _;constructor)|(show Imp _ _;constructor)|(show ImpX _ _ _ _;constructor)|(apply wC pk;(iterate 2 exact rfl))|(apply wE pk;(iterate 2 exact rfl))|(apply wD pk [] [];kernel_rfl;exact rfl;exact rfl)|(refine aA rfl (fun h=> ?_) (fun h=> ?_)<;>(try simp at h)<;>try (exfalso;omega))|(refine aB ?_;refine ⟨_,_,_,rfl,Wk.refl _,StSub.refl _, ?_,rfl⟩;try rfl)|(apply aM pk;(iterate 6 exact rfl);rotate_left;exact rfl;(intro hw;exact rfl);(intro hw;apply aF<;>omega);(intro _;exact rfl);exact rfl)))
theorem aqN (x:Ln) (k:Int):PF Tryz.prog 74 [.agg x.cells, .rp [(PV.val (Value.int .i64 (k)))]] (PV.val (Value.bool (decide (x.key=k)))):=by
  refine aH aD Tryz.func74 (by kernel_rfl) rfl rfl rfl rfl (fun st=> ?_)
  (try (apply wO pk;exact rfl));(repeat' (first|(show All _;constructor)|(refine aB ?_;refine ⟨_,_,_,rfl,Wk.refl _,StSub.refl _, ?_,rfl⟩;try rfl)))
theorem auF (x:Ln) (k:Int):PF Tryz.prog 75 [.agg x.cells, .rp [(PV.val (Value.int .i64 (k)))]] (PV.val (Value.bool (decide (x.key>k)))):=by
  refine aH aD Tryz.func75 (by kernel_rfl) rfl rfl rfl rfl (fun st=> ?_)
  (try (apply wO pk;exact rfl));(repeat' (first|(show All _;constructor)|(refine aB ?_;refine ⟨_,_,_,rfl,Wk.refl _,StSub.refl _, ?_,rfl⟩;try rfl)))
def atP (l:List Ln) (k:Int):Int×Bool:=
  if dZ (fun x=>decide (x.key=k)) l≥0 then (dZ (fun x=>decide (x.key=k)) l,true)
  else if dZ (fun x=>decide (x.key>k)) l≥0 then (dZ (fun x=>decide (x.key>k)) l,false) else (l.length,false)
theorem akF (l:List Ln) (k:Int) (hl:l.length<1000000000000):PF Tryz.prog 49 [.seq (l.map Ln.cells),(PV.val (Value.int .i64 (k)))] (.tup [(PV.val (Value.int .i64 ((atP l k).1))),(PV.val (Value.bool ((atP l k).2)))]):=by
  have h1:=yZ 74 [.rp [(PV.val (Value.int .i64 (k)))]] (fun x=>decide (x.key=k)) l (by omega) fun x=>aqN x k
  have h2:=yZ 75 [.rp [(PV.val (Value.int .i64 (k)))]] (fun x=>decide (x.key>k)) l (by omega) fun x=>auF x k
  unfold atP
  generalize dZ (fun x=>decide (x.key=k)) l=A at*
  generalize dZ (fun x=>decide (x.key>k)) l=B at*
  refine aH aD Tryz.func49 (by kernel_rfl) rfl rfl rfl rfl (fun st=> ?_)
  (try (apply wO pk;exact rfl));(repeat' (first|(show All _;constructor)|(show Imp _ _;constructor)|(apply wC pk;(iterate 2 exact rfl))|(apply wE pk;(iterate 2 exact rfl))|(refine aA rfl (fun h=> ?_) (fun h=> ?_)<;>(try simp at h)<;>try (exfalso;omega))|(refine aB ?_;refine ⟨_,_,_,rfl,Wk.refl _,StSub.refl _, ?_,rfl⟩;try first|rfl|((first|(rw [if_pos (by omega)];done)|(rw [if_neg (by omega),if_pos (by omega)];done)|(rw [if_neg (by omega),if_neg (by omega)];simp));done))|(apply aI;(iterate 3 exact rfl);(intro _;(first|apply h1|apply h2)<;>first|assumption|omega);rotate_left;(iterate 2 exact rfl))|(apply cH 3;exact rfl;exact rfl)))
theorem vE {α:Type} (f:α→Bool) (l:List α):(∃j:Nat,j<l.length∧dZ f l=j)∨dZ f l= -1:=by
  unfold dZ
  cases h:l.findIdx? f with
  |none=>exact .inr rfl
  |some j=>exact .inl ⟨j,(List.findIdx?_eq_some_iff_getElem.1 h).1,rfl⟩
theorem aoS (l:List Ln) (k:Int):∃j:Nat,j≤l.length∧(atP l k).1=j∧((atP l k).2=true→j<l.length):=by
  unfold atP
  rcases vE (fun x:Ln=>decide (x.key=k)) l with ⟨j,hj,e⟩|e
  · rw [if_pos (by omega)];exact ⟨j,by omega,e,fun _=>hj⟩
  · rw [if_neg (by omega)]
    rcases vE (fun x:Ln=>decide (x.key>k)) l with ⟨j,hj,e⟩|e
    · rw [if_pos (by omega)];exact ⟨j,by omega,e,fun h=>by cases h⟩
    · rw [if_neg (by omega)];exact ⟨l.length,Nat.le_refl _,rfl,fun h=>by cases h⟩
def acS (l:List Ln) (a:Ln):List Ln:=if (atP l a.key).2 then l.set (atP l a.key).1.toNat a else nJ l (atP l a.key).1.toNat [a]
def ayB (b:Bs) (k:Int) (a:Ln):Bs:=if okT b k then b.set k.toNat ⟨acS (aV b k) a⟩ else b
def aqD (b:Bs) (k key:Int):Bs:=if okT b k then if (atP (aV b k) key).2 then b.set k.toNat ⟨(aV b k).eraseIdx (atP (aV b k) key).1.toNat⟩ else b else b
theorem ayC (k:Int):atP [] k=(0,false):=rfl
end Go.Proofs.YtcglimangneafaaGreatDoor
