import Derived.Test.YtloecjjehapblaaGreatDoorAcE
import Derived.Test.YtloecjjehapblaaGreatDoorAcG
set_option linter.unusedSimpArgs false
set_option linter.unusedVariables false
namespace Go.Abs
open Go
section
variable {P:Program} {tt:TT}
theorem aCb (htt:bM P tt) {kt e:TypeId} (hT:tiK tt kt=some (.arr 2 e)) (hE:tiK tt e=some (.int .i64)) (hs:aT tt e=some 1) (ha:lM tt e=some false) (a b:Int) (q:Bool) (w:World):(Instr.checkKey q 10000 kt (.agg #[.int .i64 a, .int .i64 b])).run P w= .ok () w:=by
 have hu:=lW (aX htt hT).1
 have hsz:=(aS htt hs).1
 have hck:∀v,ckV tt 8 e v=true:=λv=>by simp [ckV,hE]
 rw [show (10000:Nat)=9999+1 from rfl,Instr.checkKey]
 simp only [Sem.run_bind,run_underlying hu,Result.andThen_ok]
 rw [Std.Legacy.Range.forIn_eq_forIn_range']
 rw [show List.range' [:2].start [:2].size [:2].step=[0,1] from rfl]
 have hp:∀i,i=0\/i=1->∃v,(part e #[.int .i64 a, .int .i64 b] (i*1)).run P w= .ok v w/\(Instr.checkKey q 9999 e v).run P w= .ok () w:=λi hi=>by
  obtain ⟨v,h1,h2⟩:=xG htt (w:=w) (t:=e) (off:=i*1) (xs:= #[.int .i64 a, .int .i64 b]) (d:=8) (by
   rw [ha,hs]
   rcases hi with rfl|rfl<;>exact hck _)
  exact ⟨v,h1,aoA htt 8 9999 (by omega) e v (hck v)⟩
 obtain ⟨v0,p0,c0⟩:=hp 0 (.inl rfl)
 obtain ⟨v1,p1,c1⟩:=hp 1 (.inr rfl)
 simp only [List.forIn_cons,List.forIn_nil,Sem.run_bind,bC hsz,Result.andThen_ok,p0,c0,p1,c1,Sem.run_pure]
def aeL (k:Int×Int):List Value:=[.int .i64 k.1, .int .i64 k.2]
theorem apK (htt:bM P tt) {kt e:TypeId} (hT:tiK tt kt=some (.arr 2 e)) (hE:tiK tt e=some (.int .i64)) (hs:aT tt e=some 1) (ha:lM tt e=some false)
  (he:∀a b:Int×Int,peq tt 8 kt ((aeL a).map .val) ((aeL b).map .val)=some (decide (a=b))) (hcm:oQ P 8 kt=true):KeyOK P kt (λk=> .agg (aeL k).toArray) (λk=> .agg ((aeL k).map .val)) where
 und:=by have hu:=lW (aX htt hT).1;simp [hu]
 chk k b w:=aCb htt hT hE hs ha k.1 k.2 b w
 now kd _ a b:= .inl (by cases kd<;>rfl)
 eq a b w:=by
  have hu:=lW (aX htt hT).1
  have ha:bK P kt=true:=by simp [bK,hu]
  have g:G:=⟨#[],λ_=>none,λ_=>0,λ_=>False⟩
  exact iQ htt (g:=g) 8 Op.maxDepth (by decide) kt _ _ _ _ _ (he a b) hcm (vJ (by simp only [Rep];exact ⟨_,rfl,aiW g _⟩) ha) (vJ (by simp only [Rep];exact ⟨_,rfl,aiW g _⟩) ha)
 rp k g v h:=by
  simp only [Rep] at h
  obtain ⟨vs,rfl,h⟩:=h
  rw [zY h]
 bits k:=ahL (vs:=aeL k) rfl
section
variable {l:List Oper} {d:Md} {r:List Oper} {s:St} {Kt:St->Prop} {t:Nat} {op:Op} {ty:TypeId} {pos:String} {after:Array Edge} {gd:Option (Nat×Bool)}
variable {K V:Type} [DecidableEq K] {kt:TypeId} {enc:K->Value} {rep:K->PV} {f:V->PV}
theorem aGq (pk:Pk P tt) (hk:KeyOK P kt enc rep) {T e:TypeId} {x y:Operand} {ok w:Bool} {id:Nat} {z:PV} {es:List (K×V)} {k:K} {v:Option V} (hw:bJ l ⟨some t, .lookup T x y ok,ty,pos,after,gd⟩ s=some w) (hx:opd s x=some (.mref id)) (hy:opd s y=some (rep k)) (hT:tiK tt T=some (.map kt e)) (hz:pzv tt e=some z) (hf:All (flagsI s w [x,y] [])) (hd:Nat.blt t s.n=true)
  (hst:s.st id=some (.map (aY enc f es))) (ht:tL d l r=true) (hv:bW k es=v) (kk:Ev P l d r (s.put (some t) w (.pv (kZ z f ok v))) Kt):Ev P l d (⟨some t, .lookup T x y ok,ty,pos,after,gd⟩::r) s Kt:=
 lkM pk hk hw hx hy hT hz hf hd hst ht (hv.symm▸kk)
theorem aG2 (pk:Pk P tt) (hk:KeyOK P kt enc rep) {T e:TypeId} {x y:Operand} {ok w:Bool} {z:PV} {es:List (K×V)} {k:K} {v:Option V} (hw:bJ l ⟨some t, .lookup T x y ok,ty,pos,after,gd⟩ s=some w) (hx:opd s x=some (.fmap (aY enc f es))) (hy:opd s y=some (rep k)) (hT:tiK tt T=some (.map kt e)) (hz:pzv tt e=some z) (hf:All (flagsI s w [x,y] [])) (hd:Nat.blt t s.n=true)
  (ht:cQ d l r=true) (hv:bW k es=v) (kk:Ev P l d r (s.put (some t) w (.pv (kZ z f ok v))) Kt):Ev P l d (⟨some t, .lookup T x y ok,ty,pos,after,gd⟩::r) s Kt:=
 dF hw (λ_ _=>aiY pk.htt hk rfl hx hy hT hz) (λz hz=>aR (λ_ _ _ e=>by cases e) hz) (flagsI.g hf).1 hd ht (hv.symm▸kk)
end
theorem axT (htt:bM P tt) {o:Oper} {s:St} {T kt e:TypeId} {x:Operand} {es:List (Value×PV)} (ho:o.op= .call ⟨.builtin .len, #[x], #[T]⟩) (hx:opd s x=some (.fmap es)) (hT:tiK tt T=some (.map kt e)):OpV P o s (.val (.int .i64 es.length)):=by
 refine aQ λw g ρ hm hρ=> ?_
 have rx:=hρ x (by rw [ho];simp [Op.operands,Call.operands]) _ hx
 have hu:=sC (aX htt hT).1
 simp only [Rep] at rx
 obtain ⟨b,ents,clock,hxv,h2,h3,h4⟩:=rx
 rw [hm.heap] at h3
 have hl:=h4.len
 refine ⟨.int .i64 es.length,cF ho ?_,by simp [Rep]⟩
 simp [builtin,Builtin.len_,run_underlying hu,hxv,MapKept.run_getObj_map h3,goInt,<-hl]
theorem lnF {l:List Oper} {d:Md} {r:List Oper} {s:St} {Kt:St->Prop} {t:Nat} {ty:TypeId} {pos:String} {after:Array Edge} {gd:Option (Nat×Bool)} (pk:Pk P tt) {T kt e:TypeId} {x:Operand} {w:Bool} {es:List (Value×PV)} (hw:bJ l ⟨some t, .call ⟨.builtin .len, #[x], #[T]⟩,ty,pos,after,gd⟩ s=some w) (hx:opd s x=some (.fmap es)) (hT:tiK tt T=some (.map kt e)) (hf:All (flagsI s w [x] [])) (hd:Nat.blt t s.n=true) (ht:cQ d l r=true) (kk:Ev P l d r (s.put (some t) w (.pv (.val (.int .i64 es.length)))) Kt):Ev P l d (⟨some t, .call ⟨.builtin .len, #[x], #[T]⟩,ty,pos,after,gd⟩::r) s Kt:=
 dF hw (λ_ _=>axT pk.htt rfl hx hT) (λz hz=>aR (λ_ _ _ e=>by cases e) hz) (flagsI.g hf).1 hd ht kk
end
section
variable {P:Program} {tt:TT}
theorem aAu (htt:bM P tt) {o:Oper} {s:St} {T e:TypeId} {x y:Operand} {cs:List PV} {kk:IntKind} {i:Int} {j m:Nat} {p:PV} (ho:o.op= .index T x y) (hx:opd s x=some (.agg cs)) (hy:opd s y=some (.val (.int kk i))) (hT:tiK tt T=some (.arr m e)) (hs:aT tt e=some 1) (ha:lM tt e=some false) (hi:i=j) (hj:j<m) (hp:cs[j]?=some p):OpV P o s p:=by
 refine aQ λw g ρ _ hρ=> ?_
 have rx:=hρ x (by rw [ho];simp [Op.operands]) _ hx
 have ey:=aO (hρ y (by rw [ho];simp [Op.operands]) _ hy)
 have hu:=lW (aX htt hT).1
 have hsz:=(aS htt hs).1
 have hag:=cC htt ha
 simp only [Rep] at rx
 obtain ⟨vs,hv,hr⟩:=rx
 obtain ⟨v,h1,h2⟩:=hr.get hp
 subst hi
 refine ⟨v, ?_,h2⟩
 have h0:(0:Int)<=(j:Int)/\(j:Int)<(m:Int):=by omega
 have hlt:j<vs.length:=(zge.1 h1).1
 simp only [execOp,ho,hv,ey,Instr.index,asIntOf,Sem.run_bind,Sem.run_pure,Result.andThen_ok,run_underlying hu]
 rw [zp h0]
 simp only [Sem.run_bind,bC hsz,Result.andThen_ok,Int.toNat_natCast,Nat.mul_one]
 simp [part,dS hag.1 (by first|exact hag.2|simp [hag.2]),h1]
section
variable {l:List Oper} {d:Md} {r:List Oper} {s:St} {Kt:St->Prop} {t:Nat} {op:Op} {ty:TypeId} {pos:String} {after:Array Edge} {gd:Option (Nat×Bool)}
theorem ixV (pk:Pk P tt) {T e:TypeId} {x y:Operand} {cs:List PV} {kk:IntKind} {i:Int} {m:Nat} {p:PV} {w:Bool} (j:Nat) (hw:bJ l ⟨some t, .index T x y,ty,pos,after,gd⟩ s=some w) (hx:opd s x=some (.agg cs)) (hy:opd s y=some (.val (.int kk i))) (hT:tiK tt T=some (.arr m e)) (hs:aT tt e=some 1) (ha:lM tt e=some false) (hf:All (flagsI s w [x,y] [])) (hd:Nat.blt t s.n=true) (hi:w=true->i=j) (hj:w=true->j<m) (hp:w=true->cs[j]?=some p)
  (ht:cQ d l r=true) (k:Ev P l d r (s.put (some t) w (.pv p)) Kt):Ev P l d (⟨some t, .index T x y,ty,pos,after,gd⟩::r) s Kt:=
 dF hw (λhw' st'=>aAu (s:=s.sst st') pk.htt rfl ((cL x).trans hx) ((cL y).trans hy) hT hs ha (hi hw') (hj hw') (hp hw')) (λz hz=>aR (λ_ _ _ e=>by cases e) hz) (flagsI.g hf).1 hd ht k
variable {K V:Type} [DecidableEq K] {kt:TypeId} {enc:K->Value} {rep:K->PV} {f:V->PV}
theorem lkD (pk:Pk P tt) (hk:KeyOK P kt enc rep) {T e:TypeId} {x y:Operand} {w:Bool} {id:Nat} {z n:V} {es:List (K×V)} {k:K} (hw:bJ l ⟨some t, .lookup T x y false,ty,pos,after,gd⟩ s=some w) (hx:opd s x=some (.mref id)) (hy:opd s y=some (rep k)) (hT:tiK tt T=some (.map kt e)) (hz:pzv tt e=some (f z)) (hf:All (flagsI s w [x,y] [])) (hd:Nat.blt t s.n=true)
  (hst:s.st id=some (.map (aY enc f es))) (ht:tL d l r=true) (hn:(bW k es).getD z=n) (kk:Ev P l d r (s.put (some t) w (.pv (f n))) Kt):Ev P l d (⟨some t, .lookup T x y false,ty,pos,after,gd⟩::r) s Kt:=by
 refine lkM pk hk hw hx hy hT hz hf hd hst ht ?_
 subst hn
 cases h:bW k es with
 |none=>rw [h] at kk;exact kk
 |some v=>rw [h] at kk;exact kk
end
end
end Go.Abs
