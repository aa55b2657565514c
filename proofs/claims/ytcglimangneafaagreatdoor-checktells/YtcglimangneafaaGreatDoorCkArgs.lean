import Derived.Test.YtcglimangneafaaGreatDoorBsArgs
import Derived.Test.YtcglimangneafaaGreatDoorCkKeysS
set_option linter.unusedSimpArgs false
set_option linter.unusedVariables false
namespace Go.Proofs.YtcglimangneafaaGreatDoor
open Go Go.Abs Go.ChangeShapes Go.WideShapes Go.ChangeAt Go.RowKit
set_option maxRecDepth 10000
theorem azW {N n:Nat} {ps:List PV} (h:bG Tryz.prog N n 98 ps):∃v:Co,ps=v.cells:=by
  obtain ⟨m,pss,_,rfl,h2⟩:=bW aD rfl h
  cases h2 with|cons ha h2=>cases h2 with|cons hb h2=>cases h2 with|cons hc h2=>cases h2 with|cons hd h2=>cases h2 with|nil=>
  obtain ⟨a,rfl,_⟩:=sC aD rfl ha
  obtain ⟨b,rfl,_⟩:=bN aD rfl hb
  obtain ⟨c,rfl,_⟩:=bN aD rfl hc
  obtain ⟨d,rfl⟩:=wH aD rfl hd
  exact ⟨⟨a,b,c,d⟩,rfl⟩
theorem axR {N n t:Nat} {fs:List (TypeId×Nat)} (ht:tiK tt t=some (.struct fs)) {α:Type} {f:α→List PV} (hf:fs.map (·.1)=[3,3,3]) (mk:Int→Int→Int→α) (hm:∀a b c,f (mk a b c)=[(PV.val (Value.int .i64 (a))),(PV.val (Value.int .i64 (b))),(PV.val (Value.int .i64 (c)))]) {ps:List PV} (h:bG Tryz.prog N n t ps):∃v:α,ps=f v:=by
  obtain ⟨m,pss,_,rfl,h2⟩:=bW aD ht h
  rw [hf] at h2
  cases h2 with|cons ha h2=>cases h2 with|cons hb h2=>cases h2 with|cons hc h2=>cases h2 with|nil=>
  obtain ⟨a,rfl,_⟩:=bN aD rfl ha
  obtain ⟨b,rfl,_⟩:=bN aD rfl hb
  obtain ⟨c,rfl,_⟩:=bN aD rfl hc
  exact ⟨mk a b c,(hm a b c).symm⟩
theorem ajR :∀{l:List X.Ex},(∀e∈l,e.ok)→X.Ex.oks l
  |[],_=>by simp [X.Ex.oks]
  |e::l,h=>by
    simp only [X.Ex.oks]
    exact ⟨h e (List.mem_cons_self ..),ajR fun x hx=>h x (List.mem_cons_of_mem _ hx)⟩
theorem aAG :∀{n:Nat} {ps:List PV},bG Tryz.prog reachBytes n 75 ps→∃e:X.Ex,ps=e.cells∧e.ok:=by
  intro n
  induction n using Nat.strongRecOn with
  |_ n ih=>
    intro ps h
    obtain ⟨m,pss,hm,rfl,h2⟩:=bW aD rfl h
    cases h2 with|cons ha h2=>cases h2 with|cons hb h2=>cases h2 with|cons hc h2=>cases h2 with|cons hd h2=>cases h2 with|nil=>
    obtain ⟨a,rfl,_⟩:=bN aD rfl ha
    obtain ⟨b,rfl,_⟩:=bN aD rfl hb
    obtain ⟨c,rfl⟩:=aqX hc
    obtain ⟨m',rows,hm',rfl,hl,hr⟩:=cQ aD rfl hd
    obtain ⟨l,rfl,hl2,hq⟩:=adA (f:=X.Ex.cells) fun r hr'=>ih m' (by omega) (hr r hr')
    refine ⟨.mk a b c l,by rw [←X.Ex.rows_map];rfl, ?_⟩
    simp only [X.Ex.ok]
    have h62:reachBytes<2^62:=by decide
    exact ⟨by omega,ajR hq⟩
theorem aAq {n:Nat} {ps:List PV} (h:bG Tryz.prog reachBytes n 43 ps):∃v:Tb,ps=v.cells∧TbB v∧mB v:=by
  obtain ⟨m,pss,_,rfl,h2⟩:=bW aD rfl h
  cases h2 with|cons ha h2=>cases h2 with|cons hb h2=>cases h2 with|cons hc h2=>cases h2 with|cons hd h2=>cases h2 with|cons he h2=>cases h2 with|cons hf h2=>cases h2 with|nil=>
  obtain ⟨a,rfl,_⟩:=sC aD rfl ha
  obtain ⟨_,b,_,rfl,lb,hr⟩:=cQ aD rfl hb
  obtain ⟨b,rfl⟩:=nU (f:=Co.cells) fun r hr'=>azW (hr r hr')
  obtain ⟨_,c,_,rfl,lc,hr⟩:=cQ aD rfl hc
  obtain ⟨c,rfl⟩:=nU (f:=I1) fun r hr'=>by
    obtain ⟨x,rfl,_⟩:=bN aD rfl (hr r hr');exact ⟨x,rfl⟩
  obtain ⟨_,d,_,rfl,ld,hrd⟩:=cQ aD rfl hd
  have hck:∀c∈d,∃e:X.Ex,e.ok∧e.cells=c:=fun c hc=>by
    obtain ⟨e,h1,h2⟩:=aAG (hrd c hc)
    exact ⟨e,h2,h1.symm⟩
  obtain ⟨_,e,_,rfl,le,hr⟩:=cQ aD rfl he
  obtain ⟨e,rfl⟩:=nU (f:=Fr.cells) fun r hr'=>axR rfl rfl Fr.mk (fun _ _ _=>rfl) (hr r hr')
  obtain ⟨_,f,_,rfl,lf,hr⟩:=cQ aD rfl hf
  obtain ⟨f,rfl⟩:=nU (f:=Su.cells) fun r hr'=>axR rfl rfl Su.mk (fun _ _ _=>rfl) (hr r hr')
  rw [zql] at lb lc le lf
  have h:=show reachBytes<200000000000000 by decide
  exact ⟨⟨a,b,c,d,e,f⟩,rfl,⟨Nat.lt_of_le_of_lt lb h,Nat.lt_of_le_of_lt lc h,Nat.lt_of_le_of_lt ld h,Nat.lt_of_le_of_lt le h,Nat.lt_of_le_of_lt lf h⟩,hck⟩
theorem awM :Tryz.prog.bytesOf 43=136:=by kernel_rfl
theorem aAh {n:Nat} {ps:List PV} (h:bG Tryz.prog reachBytes n 24 ps):∃v:{s:Sc//ScG s∧s.length<2000000000000},ps=scC v.1:=by
  obtain ⟨m,pss,_,rfl,h2⟩:=bW aD rfl h
  cases h2 with|cons ha h2=>cases h2 with|nil=>
  obtain ⟨_,c,_,rfl,lc,hr⟩:=zX aD rfl ha
  obtain ⟨c,rfl,hl,hq⟩:=adA fun r hr'=>aAq (hr r hr')
  rw [awM,zql] at lc
  have h:reachBytes=140737488351232:=by decide
  exact ⟨⟨c,⟨by omega,fun t ht=>(hq t ht).1,fun t ht=>(hq t ht).2⟩,by omega⟩,rfl⟩
end Go.Proofs.YtcglimangneafaaGreatDoor
