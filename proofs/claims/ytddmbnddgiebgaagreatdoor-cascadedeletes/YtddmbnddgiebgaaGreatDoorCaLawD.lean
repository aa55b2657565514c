import Derived.Test.YtddmbnddgiebgaaGreatDoorCaOrd
import Derived.Test.YtddmbnddgiebgaaGreatDoorCaAlive
import Derived.Test.YtddmbnddgiebgaaGreatDoorBsRightS
set_option linter.unusedSimpArgs false
set_option linter.unusedVariables false
namespace Go.Proofs.YtddmbnddgiebgaaGreatDoor
open Go Go.Abs
attribute [local irreducible] Ev PWp
set_option maxRecDepth 10000
set_option maxHeartbeats 4000000
def BsW (m:Nat) (b:Bs):Prop:=BsS 100 b∧∀d∈b,∀l∈d.lines,l.by_.length≤m
theorem auX {b:Bs} (h:pF b=true):BsW 60 b:=by
  refine ⟨auV h,fun d hd l hl=> ?_⟩
  unfold pF at h
  simp only [Bool.and_eq_true,decide_eq_true_eq,List.all_eq_true] at h
  have:=h.2.2 d hd l hl
  unfold eF at this
  simp only [Bool.and_eq_true,decide_eq_true_eq] at this
  exact this.2.2
theorem ahY (a:Ln) (d:Dt):(cT a d).by_.length≤a.by_.length+1:=by
  unfold cT
  split
  · omega
  · show (bY a.by_ (fI a.by_ d) [d]).length≤_
    rw [iK (uF _ _)];exact Nat.le_refl _
theorem auG {t:Tb} {G:R2→Bool} {who:Dt} {l:Ln} {m:Nat} (h:LnS l) (hm:l.by_.length≤m) (hm9:m≤900):LnS (iH t G who l)∧(iH t G who l).by_.length≤m+1:=by
  obtain ⟨h1,h2,h3⟩:=h
  have hw:=ahY l who
  unfold iH
  split
  · refine ⟨⟨?_, ?_,fun c hc=> ?_⟩, ?_⟩
    · show (cT l who).by_.length≤_;omega
    · show (dO _ _ _).length≤_;rw [dI];exact h2
    · obtain ⟨j,hj,rfl⟩:=List.getElem_of_mem hc
      have hj:j<(dO (cL G l) t.foreign l.cells_).length:=hj
      rw [dI] at hj
      show ((dO (cL G l) t.foreign l.cells_)[j]'(by rw [dI];exact hj)).parts.length≤_
      rw [jZ hj]
      split
      · simp [Cl.zero]
      · exact h3 _ (List.getElem_mem hj)
    · show (cT l who).by_.length≤_;omega
  · exact ⟨⟨h1,h2,h3⟩,by omega⟩
theorem asY {s:Sc} {b:Bs} {G:R2→Bool} {who:Dt} {m:Nat} (h:BsW m b) (hm:m≤900):BsW (m+1) (xL s b G who):=by
  obtain ⟨⟨h1,h2⟩,h3⟩:=h
  have key:∀d∈xL s b G who,d.lines.length≤100∧∀l∈d.lines,LnS l∧l.by_.length≤m+1:=fun d hd=>by
    unfold xL at hd
    obtain ⟨k,hk,rfl⟩:=List.mem_map.1 hd
    have hk:=List.mem_range.1 hk
    obtain ⟨q1,q2⟩:=h2 _ (List.getElem_mem hk)
    refine ⟨?_,fun x hx=> ?_⟩
    · show (kK s b G who k).length≤100
      unfold kK
      rw [zql,getElem!_pos b k hk]
      exact Nat.le_trans (List.length_filter_le ..) q1
    · obtain ⟨l,hl,_,rfl⟩:=alK.1 hx
      rw [getElem!_pos b k hk] at hl
      exact auG (q2 l hl) (h3 _ (List.getElem_mem hk) l hl) hm
  exact ⟨⟨by rw [aoT];exact h1,fun d hd=>⟨(key d hd).1,fun l hl=>((key d hd).2 l hl).1⟩⟩,fun d hd l hl=>((key d hd).2 l hl).2⟩
theorem atS {rb:Bool} {s:Sc} {b:Bs} {z:R2} {who:Dt} {M:List R2} {m:Nat} (h:BsW m b) (hm:m≤900):BsW (m+1) (kV rb s b z who M).1:=by
  have h0:BsW (m+1) ([]:Bs):=⟨⟨by simp,fun d hd=>by cases hd⟩,fun d hd=>by cases hd⟩
  unfold kV
  split
  · split
    · split
      · exact asY h hm
      · exact h0
    · exact h0
  · exact h0
theorem ajB {s:Sc} {b:Bs} {m:Nat} (hB:BsW m b) (hs:ScB s) (hl:s.length≤20) (z:R2) (who:Dt):PF Tryz.prog 11 [.agg (scC s), .agg (bsC b),(PV.val (Value.int .i64 (z.1))),(PV.val (Value.int .i64 (z.2))), .agg who.cells] (xM (kV (dW T.rightP s b) s b z who (eI s b z))):=
  oW (acD hB.1 (by omega) hs hl) (fun h=>oR h hB.1) z who
theorem acW {s:Sc} {b:Bs} {m:Nat} (hB:BsW m b) (hs:ScB s) (hl:s.length≤20) (z:R2) (who:Dt):PF Tryz.prog 12 [.agg (scC s), .agg (bsC b),(PV.val (Value.int .i64 (z.1))),(PV.val (Value.int .i64 (z.2))), .agg who.cells] (xM (kV (dW T.rightP s b) s b z who (eI s b z))):=
  aiE (n:=100) (yZ hB.1 (by omega) hs hl) (fun h=>oR h hB.1) (fun h=>aqQ h hB.1) (fun h=>vN h) (acM hB.1) (fun h z=>avC h z) z (by have:=(hB.1.lines z.1).1;omega) who
theorem auM {s:Sc} {b:Bs} (h:(pF b&&decide ((s.length:Int)≤20))=true):BsW 60 b∧s.length≤20:=by
  rw [Bool.and_eq_true,decide_eq_true_eq] at h
  exact ⟨auX h.1,by omega⟩
theorem akA (s:Sc) (b:Bs) (z0 z1:Int) (who:Dt) (hs:ScB s) (hb:BsB b):PF Tryz.prog 3 [.agg (scC s), .agg (bsC b), .agg [(PV.val (Value.int .i64 (z0))),(PV.val (Value.int .i64 (z1)))], .agg who.cells] (PV.val (Value.bool (true))):=by
  have hA:=xJ
  have hf:=aiF s b hb
  cases g:pF b&&decide ((s.length:Int)≤20) with
  |false=>
    rw [g] at hf
    refine aL aH Tryz.func3 (by kernel_rfl) rfl rfl rfl rfl (fun st=> ?_)
    (try (apply wO pk;exact rfl));(repeat' (first|(show All _;constructor)|(show Imp _ _;constructor)|(show ImpX _ _ _ _;constructor)|(apply wC pk;(iterate 2 exact rfl))|(apply wE pk;(iterate 2 exact rfl))|(apply wX pk;exact rfl)|(apply wN pk;exact rfl)|(apply wD pk [] [];kernel_rfl;exact rfl;exact rfl)|(apply aB;simp only [zqt,zqf])|(refine aD rfl (fun h=> ?_) (fun h=> ?_)<;>(try simp at h)<;>try (exfalso;omega))|(refine aF ?_;refine ⟨_,_,_,rfl,Wk.refl _,StSub.refl _, ?_,rfl⟩;try rfl)|(apply aN;(iterate 3 exact rfl);(intro _;(first|apply hA|apply hf)<;>first|assumption|omega);rotate_left;(iterate 2 exact rfl))|(intros;(try simp only [zql]);omega)))
  |true=>
    rw [g] at hf
    obtain ⟨hB,hl⟩:=auM g
    have d1:=ajB hB hs hl (z0,z1) who
    have d2:=acW hB hs hl (z0,z1) who
    have hs1:=adB (atS (rb:=dW T.rightP s b) (s:=s) (z:=(z0,z1)) (who:=who) (M:=eI s b (z0,z1)) hB (by omega)).1 (by omega) (kV (dW T.rightP s b) s b (z0,z1) who (eI s b (z0,z1))).1
    rw [decide_eq_true rfl] at hs1
    generalize kV (dW T.rightP s b) s b (z0,z1) who (eI s b (z0,z1))=o at*
    refine aL aH Tryz.func3 (by kernel_rfl) rfl rfl rfl rfl (fun st=> ?_)
    (try (apply wO pk;exact rfl));(repeat' (first|(show All _;constructor)|(show Imp _ _;constructor)|(show ImpX _ _ _ _;constructor)|(apply wC pk;(iterate 2 exact rfl))|(apply wE pk;(iterate 2 exact rfl))|(apply wX pk;exact rfl)|(apply wN pk;exact rfl)|(apply wD pk [] [];kernel_rfl;exact rfl;exact rfl)|(apply aB;simp only [zqt,zqf])|(refine aD rfl (fun h=> ?_) (fun h=> ?_)<;>(try simp at h)<;>try (exfalso;omega))|(refine aF ?_;refine ⟨_,_,_,rfl,Wk.refl _,StSub.refl _, ?_,rfl⟩;try first|rfl|((simp;done);done))|(apply aN;(iterate 3 exact rfl);(intro _;(first|apply hA|apply hf|apply d1|apply d2|apply hs1)<;>first|assumption|omega);rotate_left;(iterate 2 exact rfl))|((apply nU pk 0;(iterate 5 exact rfl);(focus repeat' constructor);exact rfl;(intro _;rfl);(intro _;omega);exact rfl))|((apply nU pk 1;(iterate 5 exact rfl);(focus repeat' constructor);exact rfl;(intro _;rfl);(intro _;omega);exact rfl))|(intros;(try simp only [zql]);omega)))
end Go.Proofs.YtddmbnddgiebgaaGreatDoor
