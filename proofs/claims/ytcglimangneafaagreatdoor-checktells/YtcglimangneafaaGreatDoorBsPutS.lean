import Derived.Test.YtcglimangneafaaGreatDoorBsMap
set_option linter.unusedSimpArgs false
set_option linter.unusedVariables false
namespace Go.Proofs.YtcglimangneafaaGreatDoor
open Go Go.Abs
attribute [local irreducible] Ev PWp
set_option maxRecDepth 10000
set_option maxHeartbeats 4000000
theorem avE (o:Option Ln):azP o= .tup [.agg (o.getD Ln.zero).cells,(PV.val (Value.bool (o.isSome)))]:=by cases o<;>rfl
def ScB (s:Sc):Prop:=∀t∈s,TbB t
theorem aAF (c:Cl) (h:c.parts.length≤1000):avV T.rightP c:=⟨by omega,fun _=>T.right_spec c (by omega)⟩
theorem BsS.da {n:Nat} {b:Bs} (h:BsS n b) (hn:n≤1000):∀d∈b,azU T.rightP d:=fun d hd=>by
  obtain ⟨h1,h2⟩:=h.2 d hd
  refine ⟨by omega,fun l hl=> ?_⟩
  obtain ⟨q1,q2,q3⟩:=h2 l hl
  exact ⟨⟨by omega,by omega⟩,fun c hc=>aAF c (q3 c hc)⟩
theorem afC {n:Nat} {b:Bs} (h:BsS n b) (hn:n≤1000) {s:Sc} (hs:ScB s) (hl:s.length≤20):PF Tryz.prog 24 [.agg (scC s), .agg (bsC b)] (PV.val (Value.bool (eG T.rightP s b))):=
  aiH T.rightP s b (by omega) hs (by have:=h.1;omega) (h.da hn)
theorem anR {n:Nat} {b:Bs} (h:BsS n b) (hn:n≤1000) (k key:Int):PF Tryz.prog 18 [.agg (bsC b),(PV.val (Value.int .i64 (k))),(PV.val (Value.int .i64 (key)))] (.tup [.agg ((dH (aV b k) key).getD Ln.zero).cells,(PV.val (Value.bool ((dH (aV b k) key).isSome)))]):=avE _▸asL b k key (h.l hn).2
theorem LnS.zero :LnS Ln.zero:=⟨by simp [Ln.zero],by simp [Ln.zero],fun c hc=>by simp [Ln.zero] at hc⟩
theorem BsS.got {n:Nat} {b:Bs} (h:BsS n b) (k key:Int):LnS ((dH (aV b k) key).getD Ln.zero):=by
  cases q:dH (aV b k) key with
  |none=>exact LnS.zero
  |some x=>exact (h.lines k).2 x (List.mem_of_find?_eq_some q)
theorem BsS.new {s:Sc} (hl:s.length≤20):BsS 0 (aAe s):=⟨by simpa [aAe] using hl,fun d hd=>by
  rw [(List.mem_replicate.1 hd).2]
  exact ⟨Nat.le_refl _,fun l hl=>by simp at hl⟩⟩
end Go.Proofs.YtcglimangneafaaGreatDoor
