import Derived.Test.YtcglimangneafaaGreatDoorAbsE
import Derived.Test.YtcglimangneafaaGreatDoorAbsG
set_option linter.unusedSimpArgs false
set_option linter.unusedVariables false
namespace Go.Abs
open Go
variable {P:Program} {tt:TT}
section
variable {l:List Oper} {d:Md} {r:List Oper} {s:St} {Kt:St→Prop} {t:Nat} {op:Op} {ty:TypeId} {pos:String} {after:Array Edge} {gd:Option (Nat×Bool)}
variable {K V:Type} [DecidableEq K] {kt:TypeId} {enc:K→Value} {rep:K→PV} {f:V→PV}
theorem aAN (pk:Pk P tt) (hk:KeyOK P kt enc rep) {T e:TypeId} {x y:Operand} {ok w:Bool} {z:PV} {es:List (K×V)} {k:K} {v:Option V} (hw:bH l ⟨some t, .lookup T x y ok,ty,pos,after,gd⟩ s=some w) (hx:opd s x=some (.fmap (bA enc f es))) (hy:opd s y=some (rep k)) (hT:tiK tt T=some (.map kt e)) (hz:pzv tt e=some z) (hf:All (flagsI s w [x,y] [])) (hd:Nat.blt t s.n=true)
    (ht:cI d l r=true) (hv:bT k es=v) (kk:Ev P l d r (s.put (some t) w (.pv (lG z f ok v))) Kt):Ev P l d (⟨some t, .lookup T x y ok,ty,pos,after,gd⟩::r) s Kt:=
  cO hw (fun _ _=>adT pk.htt hk rfl hx hy hT hz) (fun z hz=>aW (fun _ _ _ e=>by cases e) hz) (flagsI.g hf).1 hd ht (hv.symm▸kk)
end
end Go.Abs
namespace Go.Abs
open Go
variable {P:Program} {tt:TT}
theorem arQ (htt:bI P tt) {o:Oper} {s:St} {T e:TypeId} {x y:Operand} {cs:List PV} {kk:IntKind} {i:Int} {j m:Nat} {p:PV} (ho:o.op= .index T x y) (hx:opd s x=some (.agg cs)) (hy:opd s y=some (.val (.int kk i))) (hT:tiK tt T=some (.arr m e)) (hs:aS tt e=some 1) (ha:kH tt e=some false) (hi:i=j) (hj:j<m) (hp:cs[j]?=some p):OpV P o s p:=by
  refine aQ fun w g ρ _ hρ=> ?_
  have rx:=hρ x (by rw [ho];simp [Op.operands]) _ hx
  have ey:=aP (hρ y (by rw [ho];simp [Op.operands]) _ hy)
  have hu:=pG (aT htt hT).1
  have hsz:=(aR htt hs).1
  have hag:=bO htt ha
  simp only [Rep] at rx
  obtain ⟨vs,hv,hr⟩:=rx
  obtain ⟨v,h1,h2⟩:=hr.get hp
  subst hi
  refine ⟨v, ?_,h2⟩
  have h0:(0:Int)≤(j:Int)∧(j:Int)<(m:Int):=by omega
  have hlt:j<vs.length:=(List.getElem?_eq_some_iff.1 h1).1
  simp only [execOp,ho,hv,ey,Instr.index,asIntOf,Sem.run_bind,Sem.run_pure,Result.andThen_ok,run_underlying hu]
  rw [if_pos h0]
  simp only [Sem.run_bind,bB hsz,Result.andThen_ok,Int.toNat_natCast,Nat.mul_one]
  simp [part,cU hag.1 (by first|exact hag.2|simp [hag.2]),h1]
section
variable {l:List Oper} {d:Md} {r:List Oper} {s:St} {Kt:St→Prop} {t:Nat} {op:Op} {ty:TypeId} {pos:String} {after:Array Edge} {gd:Option (Nat×Bool)}
theorem ixV (pk:Pk P tt) {T e:TypeId} {x y:Operand} {cs:List PV} {kk:IntKind} {i:Int} {m:Nat} {p:PV} {w:Bool} (j:Nat) (hw:bH l ⟨some t, .index T x y,ty,pos,after,gd⟩ s=some w) (hx:opd s x=some (.agg cs)) (hy:opd s y=some (.val (.int kk i))) (hT:tiK tt T=some (.arr m e)) (hs:aS tt e=some 1) (ha:kH tt e=some false) (hf:All (flagsI s w [x,y] [])) (hd:Nat.blt t s.n=true) (hi:w=true→i=j) (hj:w=true→j<m) (hp:w=true→cs[j]?=some p)
    (ht:cI d l r=true) (k:Ev P l d r (s.put (some t) w (.pv p)) Kt):Ev P l d (⟨some t, .index T x y,ty,pos,after,gd⟩::r) s Kt:=
  cO hw (fun hw' st'=>arQ (s:=s.sst st') pk.htt rfl ((bS x).trans hx) ((bS y).trans hy) hT hs ha (hi hw') (hj hw') (hp hw')) (fun z hz=>aW (fun _ _ _ e=>by cases e) hz) (flagsI.g hf).1 hd ht k
variable {K V:Type} [DecidableEq K] {kt:TypeId} {enc:K→Value} {rep:K→PV} {f:V→PV}
theorem lkD (pk:Pk P tt) (hk:KeyOK P kt enc rep) {T e:TypeId} {x y:Operand} {w:Bool} {id:Nat} {z n:V} {es:List (K×V)} {k:K} (hw:bH l ⟨some t, .lookup T x y false,ty,pos,after,gd⟩ s=some w) (hx:opd s x=some (.mref id)) (hy:opd s y=some (rep k)) (hT:tiK tt T=some (.map kt e)) (hz:pzv tt e=some (f z)) (hf:All (flagsI s w [x,y] [])) (hd:Nat.blt t s.n=true)
    (hst:s.st id=some (.map (bA enc f es))) (ht:tW d l r=true) (hn:(bT k es).getD z=n) (kk:Ev P l d r (s.put (some t) w (.pv (f n))) Kt):Ev P l d (⟨some t, .lookup T x y false,ty,pos,after,gd⟩::r) s Kt:=by
  refine lkM pk hk hw hx hy hT hz hf hd hst ht ?_
  subst hn
  cases h:bT k es with
  |none=>rw [h] at kk;exact kk
  |some v=>rw [h] at kk;exact kk
theorem aAP (pk:Pk P tt) (hk:KeyOK P kt enc rep) {T e:TypeId} {x y:Operand} {w:Bool} {z n:V} {es:List (K×V)} {k:K} (hw:bH l ⟨some t, .lookup T x y false,ty,pos,after,gd⟩ s=some w) (hx:opd s x=some (.fmap (bA enc f es))) (hy:opd s y=some (rep k)) (hT:tiK tt T=some (.map kt e)) (hz:pzv tt e=some (f z)) (hf:All (flagsI s w [x,y] [])) (hd:Nat.blt t s.n=true)
    (ht:cI d l r=true) (hn:(bT k es).getD z=n) (kk:Ev P l d r (s.put (some t) w (.pv (f n))) Kt):Ev P l d (⟨some t, .lookup T x y false,ty,pos,after,gd⟩::r) s Kt:=by
  refine aAN pk hk hw hx hy hT hz hf hd ht rfl ?_
  subst hn
  cases h:bT k es with
  |none=>rw [h] at kk;exact kk
  |some v=>rw [h] at kk;exact kk
end
end Go.Abs
