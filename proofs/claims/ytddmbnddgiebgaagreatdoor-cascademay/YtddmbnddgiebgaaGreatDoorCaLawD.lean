import Derived.Test.YtddmbnddgiebgaaGreatDoorCaOrd
import Derived.Test.YtddmbnddgiebgaaGreatDoorCaAlive
import Derived.Test.YtddmbnddgiebgaaGreatDoorBsRightS
set_option linter.unusedSimpArgs false
set_option linter.unusedVariables false
namespace Go.Proofs.YtddmbnddgiebgaaGreatDoor
open Go Go.Abs
attribute [local irreducible] Ev PWp
set_option maxRecDepth 10000
set_option maxHeartbeats 4000000
def BsW (m:Nat) (b:Bs):Prop:=BsS 100 b∧∀d∈b,∀l∈d.lines,l.by_.length≤m
theorem atD {b:Bs} (h:jZ b=true):BsW 60 b:=by
  refine ⟨atB h,fun d hd l hl=> ?_⟩
  unfold jZ at h
  simp only [Bool.and_eq_true,decide_eq_true_eq,List.all_eq_true] at h
  have:=h.2.2 d hd l hl
  unfold eB at this
  simp only [Bool.and_eq_true,decide_eq_true_eq] at this
  exact this.2.2
theorem agG (a:Ln) (d:Dt):(cH a d).by_.length≤a.by_.length+1:=by
  unfold cH
  split
  · omega
  · show (bT a.by_ (eH a.by_ d) [d]).length≤_
    rw [lH (aaR _ _)];exact Nat.le_refl _
theorem amR {t:Tb} {G:R2→Bool} {who:Dt} {l:Ln} {m:Nat} (h:LnS l) (hm:l.by_.length≤m) (hm9:m≤900):LnS (cV t G who l)∧(cV t G who l).by_.length≤m+1:=by
  obtain ⟨h1,h2,h3⟩:=h
  have hw:=agG l who
  unfold cV
  split
  · refine ⟨⟨?_, ?_,fun c hc=> ?_⟩, ?_⟩
    · show (cH l who).by_.length≤_;omega
    · show (dA _ _ _).length≤_;rw [bY];exact h2
    · obtain ⟨j,hj,rfl⟩:=List.getElem_of_mem hc
      have hj:j<(dA (bU G l) t.foreign l.cells_).length:=hj
      rw [bY] at hj
      show ((dA (bU G l) t.foreign l.cells_)[j]'(by rw [bY];exact hj)).parts.length≤_
      rw [gY hj]
      split
      · simp [Cl.zero]
      · exact h3 _ (List.getElem_mem hj)
    · show (cH l who).by_.length≤_;omega
  · exact ⟨⟨h1,h2,h3⟩,by omega⟩
theorem arI {s:Sc} {b:Bs} {G:R2→Bool} {who:Dt} {m:Nat} (h:BsW m b) (hm:m≤900):BsW (m+1) (kD s b G who):=by
  obtain ⟨⟨h1,h2⟩,h3⟩:=h
  have key:∀d∈kD s b G who,d.lines.length≤100∧∀l∈d.lines,LnS l∧l.by_.length≤m+1:=fun d hd=>by
    unfold kD at hd
    obtain ⟨k,hk,rfl⟩:=List.mem_map.1 hd
    have hk:=List.mem_range.1 hk
    obtain ⟨q1,q2⟩:=h2 _ (List.getElem_mem hk)
    refine ⟨?_,fun x hx=> ?_⟩
    · show (kC s b G who k).length≤100
      unfold kC
      rw [zql,getElem!_pos b k hk]
      exact Nat.le_trans (List.length_filter_le ..) q1
    · obtain ⟨l,hl,_,rfl⟩:=nP.1 hx
      rw [getElem!_pos b k hk] at hl
      exact amR (q2 l hl) (h3 _ (List.getElem_mem hk) l hl) hm
  exact ⟨⟨by rw [nJ];exact h1,fun d hd=>⟨(key d hd).1,fun l hl=>((key d hd).2 l hl).1⟩⟩,fun d hd l hl=>((key d hd).2 l hl).2⟩
theorem alU {rb:Bool} {s:Sc} {b:Bs} {z:R2} {who:Dt} {M:List R2} {m:Nat} (h:BsW m b) (hm:m≤900):BsW (m+1) (kK rb s b z who M).1:=by
  have h0:BsW (m+1) ([]:Bs):=⟨⟨by simp,fun d hd=>by cases hd⟩,fun d hd=>by cases hd⟩
  unfold kK
  split
  · split
    · split
      · exact arI h hm
      · exact h0
    · exact h0
  · exact h0
theorem pJ {s:Sc} {b:Bs} {m:Nat} (hB:BsW m b) (hs:ScB s) (hl:s.length≤20) (z:R2) (who:Dt):PF Tryz.prog 11 [.agg (scC s), .agg (bsC b),(PV.val (Value.int .i64 (z.1))),(PV.val (Value.int .i64 (z.2))), .agg who.cells] (abH (kK (cU T.rightP s b) s b z who (dJ s b z))):=
  nV (fP hB.1 (by omega) hs hl) (fun h=>rD h hB.1) z who
theorem lT {s:Sc} {b:Bs} {m:Nat} (hB:BsW m b) (hs:ScB s) (hl:s.length≤20) (z:R2):PF Tryz.prog 15 [.agg (scC s), .agg (bsC b),(PV.val (Value.int .i64 (z.1))),(PV.val (Value.int .i64 (z.2)))] (.seq ((if cU T.rightP s b=true then iV s b z else []).map r2C)):=
  vF (fP hB.1 (by omega) hs hl) (fun h=>nC h hB.1) (fun h=>lK h) (hB.1.l (by omega)).2 (tI hB.1)
theorem adS {s:Sc} {b:Bs} (h:(jZ b&&decide ((s.length:Int)≤20))=true):BsW 60 b∧s.length≤20:=by
  rw [Bool.and_eq_true,decide_eq_true_eq] at h
  exact ⟨atD h.1,by omega⟩
end Go.Proofs.YtddmbnddgiebgaaGreatDoor
