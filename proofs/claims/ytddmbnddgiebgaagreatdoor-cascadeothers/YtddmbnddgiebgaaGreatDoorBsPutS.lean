import Derived.Test.YtddmbnddgiebgaaGreatDoorBsMap
set_option linter.unusedSimpArgs false
set_option linter.unusedVariables false
namespace Go.Proofs.YtddmbnddgiebgaaGreatDoor
open Go Go.Abs
attribute [local irreducible] Ev PWp
set_option maxRecDepth 10000
set_option maxHeartbeats 4000000
theorem noB {P:Program} {f:FuncId} {ps:List PV} (h:false=true):PF P f ps (PV.val (Value.bool (false))):=by cases h
theorem aeK (o:Option Ln):atG o= .tup [.agg (o.getD Ln.zero).cells,(PV.val (Value.bool (o.isSome)))]:=by cases o<;>rfl
def ScB (s:Sc):Prop:=∀t∈s,TbB t
theorem auT (c:Cl) (h:c.parts.length≤1000):apJ T.rightP c:=⟨by omega,fun _=>T.right_spec c (by omega)⟩
theorem BsS.da {n:Nat} {b:Bs} (h:BsS n b) (hn:n≤1000):∀d∈b,aoM T.rightP d:=fun d hd=>by
  obtain ⟨h1,h2⟩:=h.2 d hd
  refine ⟨by omega,fun l hl=> ?_⟩
  obtain ⟨q1,q2,q3⟩:=h2 l hl
  exact ⟨⟨by omega,by omega⟩,fun c hc=>auT c (q3 c hc)⟩
theorem gD {n:Nat} {b:Bs} (h:BsS n b) (hn:n≤1000) {s:Sc} (hs:ScB s) (hl:s.length≤20):PF Tryz.prog 14 [.agg (scC s), .agg (bsC b)] (PV.val (Value.bool (bK T.rightP s b))):=
  nR T.rightP s b (by omega) hs (by have:=h.1;omega) (h.da hn)
theorem vT {n:Nat} {b:Bs} (h:BsS n b) (hn:n≤1000) (k key:Int):PF Tryz.prog 16 [.agg (bsC b),(PV.val (Value.int .i64 (k))),(PV.val (Value.int .i64 (key)))] (.tup [.agg ((iV (bT b k) key).getD Ln.zero).cells,(PV.val (Value.bool ((iV (bT b k) key).isSome)))]):=aeK _▸tG b k key (h.l hn).2
theorem LnS.zero :LnS Ln.zero:=⟨by simp [Ln.zero],by simp [Ln.zero],fun c hc=>by simp [Ln.zero] at hc⟩
theorem BsS.new {s:Sc} (hl:s.length≤20):BsS 0 (atZ s):=⟨by simpa [atZ] using hl,fun d hd=>by
  rw [(List.mem_replicate.1 hd).2]
  exact ⟨Nat.le_refl _,fun l hl=>by simp at hl⟩⟩
end Go.Proofs.YtddmbnddgiebgaaGreatDoor
