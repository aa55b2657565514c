import Derived.Test.YtddmbnddgiebgaaGreatDoorCaOrd
import Derived.Test.YtddmbnddgiebgaaGreatDoorCaAlive
import Derived.Test.YtddmbnddgiebgaaGreatDoorBsRightS
set_option linter.unusedSimpArgs false
set_option linter.unusedVariables false
namespace Go.Proofs.YtddmbnddgiebgaaGreatDoor
open Go Go.Abs
attribute [local irreducible] Ev PWp
set_option maxRecDepth 10000
set_option maxHeartbeats 4000000
def BsW (m:Nat) (b:Bs):Prop:=BsS 100 b∧∀d∈b,∀l∈d.lines,l.by_.length≤m
theorem atF {b:Bs} (h:mI b=true):BsW 60 b:=by
  refine ⟨asX h,fun d hd l hl=> ?_⟩
  unfold mI at h
  simp only [Bool.and_eq_true,decide_eq_true_eq,List.all_eq_true] at h
  have:=h.2.2 d hd l hl
  unfold dZ at this
  simp only [Bool.and_eq_true,decide_eq_true_eq] at this
  exact this.2.2
theorem agO (a:Ln) (d:Dt):(bW a d).by_.length≤a.by_.length+1:=by
  unfold bW
  split
  · omega
  · show (bZ a.by_ (iL a.by_ d) [d]).length≤_
    rw [lE (xY _ _)];exact Nat.le_refl _
theorem arI {t:Tb} {G:R2→Bool} {who:Dt} {l:Ln} {m:Nat} (h:LnS l) (hm:l.by_.length≤m) (hm9:m≤900):LnS (bT t G who l)∧(bT t G who l).by_.length≤m+1:=by
  obtain ⟨h1,h2,h3⟩:=h
  have hw:=agO l who
  unfold bT
  split
  · refine ⟨⟨?_, ?_,fun c hc=> ?_⟩, ?_⟩
    · show (bW l who).by_.length≤_;omega
    · show (cY _ _ _).length≤_;rw [cF];exact h2
    · obtain ⟨j,hj,rfl⟩:=List.getElem_of_mem hc
      have hj:j<(cY (bL G l) t.foreign l.cells_).length:=hj
      rw [cF] at hj
      show ((cY (bL G l) t.foreign l.cells_)[j]'(by rw [cF];exact hj)).parts.length≤_
      rw [fI hj]
      split
      · simp [Cl.zero]
      · exact h3 _ (List.getElem_mem hj)
    · show (bW l who).by_.length≤_;omega
  · exact ⟨⟨h1,h2,h3⟩,by omega⟩
theorem arW {s:Sc} {b:Bs} {G:R2→Bool} {who:Dt} {m:Nat} (h:BsW m b) (hm:m≤900):BsW (m+1) (eT s b G who):=by
  obtain ⟨⟨h1,h2⟩,h3⟩:=h
  have key:∀d∈eT s b G who,d.lines.length≤100∧∀l∈d.lines,LnS l∧l.by_.length≤m+1:=fun d hd=>by
    unfold eT at hd
    obtain ⟨k,hk,rfl⟩:=List.mem_map.1 hd
    have hk:=List.mem_range.1 hk
    obtain ⟨q1,q2⟩:=h2 _ (List.getElem_mem hk)
    refine ⟨?_,fun x hx=> ?_⟩
    · show (kP s b G who k).length≤100
      unfold kP
      rw [List.length_map,getElem!_pos b k hk]
      exact Nat.le_trans (List.length_filter_le ..) q1
    · obtain ⟨l,hl,_,rfl⟩:=nN.1 hx
      rw [getElem!_pos b k hk] at hl
      exact arI (q2 l hl) (h3 _ (List.getElem_mem hk) l hl) hm
  exact ⟨⟨by rw [fL];exact h1,fun d hd=>⟨(key d hd).1,fun l hl=>((key d hd).2 l hl).1⟩⟩,fun d hd l hl=>((key d hd).2 l hl).2⟩
theorem acG {rb:Bool} {s:Sc} {b:Bs} {z:R2} {who:Dt} {M:List R2} {m:Nat} (h:BsW m b) (hm:m≤900):BsW (m+1) (dU rb s b z who M).1:=by
  have h0:BsW (m+1) ([]:Bs):=⟨⟨by simp,fun d hd=>by cases hd⟩,fun d hd=>by cases hd⟩
  unfold dU
  split
  · split
    · split
      · exact arW h hm
      · exact h0
    · exact h0
  · exact h0
theorem iP {s:Sc} {b:Bs} {m:Nat} (hB:BsW m b) (hs:ScB s) (hl:s.length≤20) (z:R2) (who:Dt):PF Tryz.prog 11 [.agg (scC s), .agg (bsC b),(PV.val (Value.int .i64 (z.1))),(PV.val (Value.int .i64 (z.2))), .agg who.cells] (acX (dU (bO T.rightP s b) s b z who (bR s b z))):=
  nD (kX hB.1 (by omega) hs hl) (fun h=>qM h hB.1) z who
theorem ahG {s:Sc} {b:Bs} {m:Nat} (hB:BsW m b) (hs:ScB s) (hl:s.length≤20) (z:R2):PF Tryz.prog 15 [.agg (scC s), .agg (bsC b),(PV.val (Value.int .i64 (z.1))),(PV.val (Value.int .i64 (z.2)))] (.seq ((if bO T.rightP s b=true then lF s b z else []).map r2C)):=
  vA (kX hB.1 (by omega) hs hl) (fun h=>wV h hB.1) (fun h=>tT h) (hB.1.l (by omega)).2 (sJ hB.1)
theorem apP {s:Sc} {b:Bs} (h:(mI b&&decide ((s.length:Int)≤20))=true):BsW 60 b∧s.length≤20:=by
  rw [Bool.and_eq_true,decide_eq_true_eq] at h
  exact ⟨atF h.1,by omega⟩
end Go.Proofs.YtddmbnddgiebgaaGreatDoor
