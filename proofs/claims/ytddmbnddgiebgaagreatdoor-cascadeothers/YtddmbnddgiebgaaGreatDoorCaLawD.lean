import Derived.Test.YtddmbnddgiebgaaGreatDoorCaOrd
import Derived.Test.YtddmbnddgiebgaaGreatDoorCaAlive
import Derived.Test.YtddmbnddgiebgaaGreatDoorBsRightS
set_option linter.unusedSimpArgs false
set_option linter.unusedVariables false
namespace Go.Proofs.YtddmbnddgiebgaaGreatDoor
open Go Go.Abs
attribute [local irreducible] Ev PWp
set_option maxRecDepth 10000
set_option maxHeartbeats 4000000
def BsW (m:Nat) (b:Bs):Prop:=BsS 100 b∧∀d∈b,∀l∈d.lines,l.by_.length≤m
theorem atW {b:Bs} (h:kK b=true):BsW 60 b:=by
  refine ⟨atU h,fun d hd l hl=> ?_⟩
  unfold kK at h
  simp only [Bool.and_eq_true,decide_eq_true_eq,List.all_eq_true] at h
  have:=h.2.2 d hd l hl
  unfold eG at this
  simp only [Bool.and_eq_true,decide_eq_true_eq] at this
  exact this.2.2
theorem agT (a:Ln) (d:Dt):(bP a d).by_.length≤a.by_.length+1:=by
  unfold bP
  split
  · omega
  · show (bY a.by_ (eF a.by_ d) [d]).length≤_
    rw [lX (abB _ _)];exact Nat.le_refl _
theorem anH {t:Tb} {G:R2→Bool} {who:Dt} {l:Ln} {m:Nat} (h:LnS l) (hm:l.by_.length≤m) (hm9:m≤900):LnS (bH t G who l)∧(bH t G who l).by_.length≤m+1:=by
  obtain ⟨h1,h2,h3⟩:=h
  have hw:=agT l who
  unfold bH
  split
  · refine ⟨⟨?_, ?_,fun c hc=> ?_⟩, ?_⟩
    · show (bP l who).by_.length≤_;omega
    · show (cR _ _ _).length≤_;rw [bW];exact h2
    · obtain ⟨j,hj,rfl⟩:=List.getElem_of_mem hc
      have hj:j<(cR (bI G l) t.foreign l.cells_).length:=hj
      rw [bW] at hj
      show ((cR (bI G l) t.foreign l.cells_)[j]'(by rw [bW];exact hj)).parts.length≤_
      rw [fE hj]
      split
      · simp [Cl.zero]
      · exact h3 _ (List.getElem_mem hj)
    · show (bP l who).by_.length≤_;omega
  · exact ⟨⟨h1,h2,h3⟩,by omega⟩
theorem arZ {s:Sc} {b:Bs} {G:R2→Bool} {who:Dt} {m:Nat} (h:BsW m b) (hm:m≤900):BsW (m+1) (eS s b G who):=by
  obtain ⟨⟨h1,h2⟩,h3⟩:=h
  have key:∀d∈eS s b G who,d.lines.length≤100∧∀l∈d.lines,LnS l∧l.by_.length≤m+1:=fun d hd=>by
    unfold eS at hd
    obtain ⟨k,hk,rfl⟩:=List.mem_map.1 hd
    have hk:=List.mem_range.1 hk
    obtain ⟨q1,q2⟩:=h2 _ (List.getElem_mem hk)
    refine ⟨?_,fun x hx=> ?_⟩
    · show (iT s b G who k).length≤100
      unfold iT
      rw [zql,getElem!_pos b k hk]
      exact Nat.le_trans (List.length_filter_le ..) q1
    · obtain ⟨l,hl,_,rfl⟩:=gS.1 hx
      rw [getElem!_pos b k hk] at hl
      exact anH (q2 l hl) (h3 _ (List.getElem_mem hk) l hl) hm
  exact ⟨⟨by rw [eC];exact h1,fun d hd=>⟨(key d hd).1,fun l hl=>((key d hd).2 l hl).1⟩⟩,fun d hd l hl=>((key d hd).2 l hl).2⟩
theorem tK {rb:Bool} {s:Sc} {b:Bs} {z:R2} {who:Dt} {M:List R2} {m:Nat} (h:BsW m b) (hm:m≤900):BsW (m+1) (dQ rb s b z who M).1:=by
  have h0:BsW (m+1) ([]:Bs):=⟨⟨by simp,fun d hd=>by cases hd⟩,fun d hd=>by cases hd⟩
  unfold dQ
  split
  · split
    · split
      · exact arZ h hm
      · exact h0
    · exact h0
  · exact h0
theorem fR {s:Sc} {b:Bs} {m:Nat} (hB:BsW m b) (hs:ScB s) (hl:s.length≤20) (z:R2) (who:Dt):PF Tryz.prog 11 [.agg (scC s), .agg (bsC b),(PV.val (Value.int .i64 (z.1))),(PV.val (Value.int .i64 (z.2))), .agg who.cells] (abR (dQ (bK T.rightP s b) s b z who (bS s b z))):=
  oF (gD hB.1 (by omega) hs hl) (fun h=>rJ h hB.1) z who
theorem mJ {s:Sc} {b:Bs} {m:Nat} (hB:BsW m b) (hs:ScB s) (hl:s.length≤20) (z:R2):PF Tryz.prog 15 [.agg (scC s), .agg (bsC b),(PV.val (Value.int .i64 (z.1))),(PV.val (Value.int .i64 (z.2)))] (.seq ((if bK T.rightP s b=true then jN s b z else []).map r2C)):=
  vO (gD hB.1 (by omega) hs hl) (fun h=>nP h hB.1) (fun h=>mB h) (hB.1.l (by omega)).2 (tP hB.1)
theorem yR {s:Sc} {b:Bs} (h:(kK b&&decide ((s.length:Int)≤20))=true):BsW 60 b∧s.length≤20:=by
  rw [Bool.and_eq_true,decide_eq_true_eq] at h
  exact ⟨atW h.1,by omega⟩
end Go.Proofs.YtddmbnddgiebgaaGreatDoor
