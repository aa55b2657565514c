import Derived.Test.YtfablfldonhkiaaGreatDoorAbsE
import Derived.Test.YtfablfldonhkiaaGreatDoorAbsG
import Derived.Test.YtfablfldonhkiaaGreatDoorAbsI
set_option linter.unusedSimpArgs false
set_option linter.unusedVariables false
namespace Go.Abs
open Go
section
variable {P:Program} {tt:TT}
theorem aEB (htt:bD P tt) {kt e:TypeId} (hT:tiK tt kt=some (.arr 2 e)) (hE:tiK tt e=some (.int .i64)) (hs:aN tt e=some 1) (ha:iY tt e=some false) (a b:Int) (q:Bool) (w:World):(Instr.checkKey q 10000 kt (.agg #[.int .i64 a, .int .i64 b])).run P w= .ok () w:=by
 have hu:=iM (aK htt hT).1
 have hsz:=(aL htt hs).1
 have hck:∀v,ckV tt 8 e v=true:=λv=>by simp [ckV,hE]
 rw [show (10000:Nat)=9999+1 from rfl,Instr.checkKey]
 simp only [Sem.run_bind,run_underlying hu,Result.andThen_ok]
 rw [Std.Legacy.Range.forIn_eq_forIn_range']
 rw [show List.range' [:2].start [:2].size [:2].step=[0,1] from rfl]
 have hp:∀i,i=0\/i=1->∃v,(part e #[.int .i64 a, .int .i64 b] (i*1)).run P w= .ok v w/\(Instr.checkKey q 9999 e v).run P w= .ok () w:=λi hi=>by
  obtain ⟨v,h1,h2⟩:=qC htt (w:=w) (t:=e) (off:=i*1) (xs:= #[.int .i64 a, .int .i64 b]) (d:=8) (by
   rw [ha,hs]
   rcases hi with rfl|rfl<;>exact hck _)
  exact ⟨v,h1,ahS htt 8 9999 (by omega) e v (hck v)⟩
 obtain ⟨v0,p0,c0⟩:=hp 0 (.inl rfl)
 obtain ⟨v1,p1,c1⟩:=hp 1 (.inr rfl)
 simp only [List.forIn_cons,List.forIn_nil,Sem.run_bind,aX hsz,Result.andThen_ok,p0,c0,p1,c1,Sem.run_pure]
def afY (k:Int×Int):List Value:=[.int .i64 k.1, .int .i64 k.2]
theorem asN (htt:bD P tt) {kt e:TypeId} (hT:tiK tt kt=some (.arr 2 e)) (hE:tiK tt e=some (.int .i64)) (hs:aN tt e=some 1) (ha:iY tt e=some false)
  (he:∀a b:Int×Int,peq tt 8 kt ((afY a).map .val) ((afY b).map .val)=some (decide (a=b))) (hcm:oG P 8 kt=true):KeyOK P kt (λk=> .agg (afY k).toArray) (λk=> .agg ((afY k).map .val)) where
 und:=by have hu:=iM (aK htt hT).1;simp [hu]
 chk k b w:=aEB htt hT hE hs ha k.1 k.2 b w
 now kd _ a b:= .inl (by cases kd<;>rfl)
 eq a b w:=by
  have hu:=iM (aK htt hT).1
  have ha:bC P kt=true:=by simp [bC,hu]
  have g:G:=⟨#[],λ_=>none,λ_=>0,λ_=>False⟩
  exact gF htt (g:=g) 8 Op.maxDepth (by decide) kt _ _ _ _ _ (he a b) hcm (pU (by simp only [Rep];exact ⟨_,rfl,xV g _⟩) ha) (pU (by simp only [Rep];exact ⟨_,rfl,xV g _⟩) ha)
 rp k g v h:=by
  simp only [Rep] at h
  obtain ⟨vs,rfl,h⟩:=h
  rw [tW h]
 bits k:=zX (vs:=afY k) rfl
section
variable {l:List Oper} {d:Md} {r:List Oper} {s:St} {Kt:St->Prop} {t:Nat} {op:Op} {ty:TypeId} {pos:String} {after:Array Edge} {gd:Option (Nat×Bool)}
variable {K V:Type} [DecidableEq K] {kt:TypeId} {enc:K->Value} {rep:K->PV} {f:V->PV}
theorem aIy (pk:Pk P tt) (hk:KeyOK P kt enc rep) {T e:TypeId} {x y:Operand} {ok w:Bool} {id:Nat} {z:PV} {es:List (K×V)} {k:K} {v:Option V} (hw:bG l ⟨some t, .lookup T x y ok,ty,pos,after,gd⟩ s=some w) (hx:opd s x=some (.mref id)) (hy:opd s y=some (rep k)) (hT:tiK tt T=some (.map kt e)) (hz:pzv tt e=some z) (hf:All (flagsI s w [x,y] [])) (hd:Nat.blt t s.n=true)
  (hst:s.st id=some (.map (aM enc f es))) (ht:tZ d l r=true) (hv:bY k es=v) (kk:Ev P l d r (s.put (some t) w (.pv (lA z f ok v))) Kt):Ev P l d (⟨some t, .lookup T x y ok,ty,pos,after,gd⟩::r) s Kt:=
 lkM pk hk hw hx hy hT hz hf hd hst ht (hv.symm▸kk)
theorem aH9 (pk:Pk P tt) (hk:KeyOK P kt enc rep) {T e:TypeId} {x y:Operand} {ok w:Bool} {z:PV} {es:List (K×V)} {k:K} {v:Option V} (hw:bG l ⟨some t, .lookup T x y ok,ty,pos,after,gd⟩ s=some w) (hx:opd s x=some (.fmap (aM enc f es))) (hy:opd s y=some (rep k)) (hT:tiK tt T=some (.map kt e)) (hz:pzv tt e=some z) (hf:All (flagsI s w [x,y] [])) (hd:Nat.blt t s.n=true)
  (ht:cO d l r=true) (hv:bY k es=v) (kk:Ev P l d r (s.put (some t) w (.pv (lA z f ok v))) Kt):Ev P l d (⟨some t, .lookup T x y ok,ty,pos,after,gd⟩::r) s Kt:=
 dD hw (λ_ _=>akO pk.htt hk rfl hx hy hT hz) (λz hz=>aO (λ_ _ _ e=>by cases e) hz) (flagsI.g hf).1 hd ht (hv.symm▸kk)
end
theorem aAS (htt:bD P tt) {o:Oper} {s:St} {T kt e:TypeId} {x:Operand} {es:List (Value×PV)} (ho:o.op= .call ⟨.builtin .len, #[x], #[T]⟩) (hx:opd s x=some (.fmap es)) (hT:tiK tt T=some (.map kt e)):OpV P o s (.val (.int .i64 es.length)):=by
 refine aI λw g ρ hm hρ=> ?_
 have rx:=hρ x (by rw [ho];simp [Op.operands,Call.operands]) _ hx
 have hu:=sL (aK htt hT).1
 simp only [Rep] at rx
 obtain ⟨b,ents,clock,hxv,h2,h3,h4⟩:=rx
 rw [hm.heap] at h3
 have hl:=h4.len
 refine ⟨.int .i64 es.length,bU ho ?_,by simp [Rep]⟩
 simp [builtin,Builtin.len_,run_underlying hu,hxv,MapKept.run_getObj_map h3,goInt,<-hl]
theorem lnF {l:List Oper} {d:Md} {r:List Oper} {s:St} {Kt:St->Prop} {t:Nat} {ty:TypeId} {pos:String} {after:Array Edge} {gd:Option (Nat×Bool)} (pk:Pk P tt) {T kt e:TypeId} {x:Operand} {w:Bool} {es:List (Value×PV)} (hw:bG l ⟨some t, .call ⟨.builtin .len, #[x], #[T]⟩,ty,pos,after,gd⟩ s=some w) (hx:opd s x=some (.fmap es)) (hT:tiK tt T=some (.map kt e)) (hf:All (flagsI s w [x] [])) (hd:Nat.blt t s.n=true) (ht:cO d l r=true) (kk:Ev P l d r (s.put (some t) w (.pv (.val (.int .i64 es.length)))) Kt):Ev P l d (⟨some t, .call ⟨.builtin .len, #[x], #[T]⟩,ty,pos,after,gd⟩::r) s Kt:=
 dD hw (λ_ _=>aAS pk.htt rfl hx hT) (λz hz=>aO (λ_ _ _ e=>by cases e) hz) (flagsI.g hf).1 hd ht kk
end
section
variable {P:Program} {tt:TT}
theorem aCA (htt:bD P tt) {o:Oper} {s:St} {T e:TypeId} {x y:Operand} {cs:List PV} {kk:IntKind} {i:Int} {j m:Nat} {p:PV} (ho:o.op= .index T x y) (hx:opd s x=some (.agg cs)) (hy:opd s y=some (.val (.int kk i))) (hT:tiK tt T=some (.arr m e)) (hs:aN tt e=some 1) (ha:iY tt e=some false) (hi:i=j) (hj:j<m) (hp:cs[j]?=some p):OpV P o s p:=by
 refine aI λw g ρ _ hρ=> ?_
 have rx:=hρ x (by rw [ho];simp [Op.operands]) _ hx
 have ey:=aG (hρ y (by rw [ho];simp [Op.operands]) _ hy)
 have hu:=iM (aK htt hT).1
 have hsz:=(aL htt hs).1
 have hag:=bZ htt ha
 simp only [Rep] at rx
 obtain ⟨vs,hv,hr⟩:=rx
 obtain ⟨v,h1,h2⟩:=hr.get hp
 subst hi
 refine ⟨v, ?_,h2⟩
 have h0:(0:Int)<=(j:Int)/\(j:Int)<(m:Int):=by omega
 have hlt:j<vs.length:=(zge.1 h1).1
 simp only [execOp,ho,hv,ey,Instr.index,asIntOf,Sem.run_bind,Sem.run_pure,Result.andThen_ok,run_underlying hu]
 rw [zp h0]
 simp only [Sem.run_bind,aX hsz,Result.andThen_ok,Int.toNat_natCast,Nat.mul_one]
 simp [part,dJ hag.1 (by first|exact hag.2|simp [hag.2]),h1]
section
variable {l:List Oper} {d:Md} {r:List Oper} {s:St} {Kt:St->Prop} {t:Nat} {op:Op} {ty:TypeId} {pos:String} {after:Array Edge} {gd:Option (Nat×Bool)}
theorem ixV (pk:Pk P tt) {T e:TypeId} {x y:Operand} {cs:List PV} {kk:IntKind} {i:Int} {m:Nat} {p:PV} {w:Bool} (j:Nat) (hw:bG l ⟨some t, .index T x y,ty,pos,after,gd⟩ s=some w) (hx:opd s x=some (.agg cs)) (hy:opd s y=some (.val (.int kk i))) (hT:tiK tt T=some (.arr m e)) (hs:aN tt e=some 1) (ha:iY tt e=some false) (hf:All (flagsI s w [x,y] [])) (hd:Nat.blt t s.n=true) (hi:w=true->i=j) (hj:w=true->j<m) (hp:w=true->cs[j]?=some p)
  (ht:cO d l r=true) (k:Ev P l d r (s.put (some t) w (.pv p)) Kt):Ev P l d (⟨some t, .index T x y,ty,pos,after,gd⟩::r) s Kt:=
 dD hw (λhw' st'=>aCA (s:=s.sst st') pk.htt rfl ((cC x).trans hx) ((cC y).trans hy) hT hs ha (hi hw') (hj hw') (hp hw')) (λz hz=>aO (λ_ _ _ e=>by cases e) hz) (flagsI.g hf).1 hd ht k
variable {K V:Type} [DecidableEq K] {kt:TypeId} {enc:K->Value} {rep:K->PV} {f:V->PV}
theorem lkD (pk:Pk P tt) (hk:KeyOK P kt enc rep) {T e:TypeId} {x y:Operand} {w:Bool} {id:Nat} {z n:V} {es:List (K×V)} {k:K} (hw:bG l ⟨some t, .lookup T x y false,ty,pos,after,gd⟩ s=some w) (hx:opd s x=some (.mref id)) (hy:opd s y=some (rep k)) (hT:tiK tt T=some (.map kt e)) (hz:pzv tt e=some (f z)) (hf:All (flagsI s w [x,y] [])) (hd:Nat.blt t s.n=true)
  (hst:s.st id=some (.map (aM enc f es))) (ht:tZ d l r=true) (hn:(bY k es).getD z=n) (kk:Ev P l d r (s.put (some t) w (.pv (f n))) Kt):Ev P l d (⟨some t, .lookup T x y false,ty,pos,after,gd⟩::r) s Kt:=by
 refine lkM pk hk hw hx hy hT hz hf hd hst ht ?_
 subst hn
 cases h:bY k es with
 |none=>rw [h] at kk;exact kk
 |some v=>rw [h] at kk;exact kk
theorem aI5 (pk:Pk P tt) (hk:KeyOK P kt enc rep) {T e:TypeId} {x y:Operand} {w:Bool} {z n:V} {es:List (K×V)} {k:K} (hw:bG l ⟨some t, .lookup T x y false,ty,pos,after,gd⟩ s=some w) (hx:opd s x=some (.fmap (aM enc f es))) (hy:opd s y=some (rep k)) (hT:tiK tt T=some (.map kt e)) (hz:pzv tt e=some (f z)) (hf:All (flagsI s w [x,y] [])) (hd:Nat.blt t s.n=true)
  (ht:cO d l r=true) (hn:(bY k es).getD z=n) (kk:Ev P l d r (s.put (some t) w (.pv (f n))) Kt):Ev P l d (⟨some t, .lookup T x y false,ty,pos,after,gd⟩::r) s Kt:=by
 refine aH9 pk hk hw hx hy hT hz hf hd ht rfl ?_
 subst hn
 cases h:bY k es with
 |none=>rw [h] at kk;exact kk
 |some v=>rw [h] at kk;exact kk
end
end
section
variable {P:Program} {tt:TT}
theorem aEs (htt:bD P tt) {kt e:TypeId} (hT:tiK tt kt=some (.arr 4 e)) (hE:tiK tt e=some (.int .i64)) (hs:aN tt e=some 1) (ha:iY tt e=some false) (a b c d:Int) (q:Bool) (w:World):(Instr.checkKey q 10000 kt (.agg #[.int .i64 a, .int .i64 b, .int .i64 c, .int .i64 d])).run P w= .ok () w:=by
 have hu:=iM (aK htt hT).1
 have hsz:=(aL htt hs).1
 have hck:∀v,ckV tt 8 e v=true:=λv=>by simp [ckV,hE]
 rw [show (10000:Nat)=9999+1 from rfl,Instr.checkKey]
 simp only [Sem.run_bind,run_underlying hu,Result.andThen_ok]
 rw [Std.Legacy.Range.forIn_eq_forIn_range']
 rw [show List.range' [:4].start [:4].size [:4].step=[0,1,2,3] from rfl]
 have hp:∀i,i=0\/i=1\/i=2\/i=3->∃v,(part e #[.int .i64 a, .int .i64 b, .int .i64 c, .int .i64 d] (i*1)).run P w= .ok v w/\(Instr.checkKey q 9999 e v).run P w= .ok () w:=λi hi=>by
  obtain ⟨v,h1,h2⟩:=qC htt (w:=w) (t:=e) (off:=i*1) (xs:= #[.int .i64 a, .int .i64 b, .int .i64 c, .int .i64 d]) (d:=8) (by
   rw [ha,hs]
   rcases hi with rfl|rfl|rfl|rfl<;>exact hck _)
  exact ⟨v,h1,ahS htt 8 9999 (by omega) e v (hck v)⟩
 obtain ⟨v0,p0,c0⟩:=hp 0 (.inl rfl)
 obtain ⟨v1,p1,c1⟩:=hp 1 (.inr (.inl rfl))
 obtain ⟨v2,p2,c2⟩:=hp 2 (.inr (.inr (.inl rfl)))
 obtain ⟨v3,p3,c3⟩:=hp 3 (.inr (.inr (.inr rfl)))
 simp only [List.forIn_cons,List.forIn_nil,Sem.run_bind,aX hsz,Result.andThen_ok,p0,c0,p1,c1,p2,c2,p3,c3,Sem.run_pure]
def xK (k:Int×Int×Int×Int):List Value:=[.int .i64 k.1, .int .i64 k.2.1, .int .i64 k.2.2.1, .int .i64 k.2.2.2]
theorem aoW (htt:bD P tt) {kt e:TypeId} (hT:tiK tt kt=some (.arr 4 e)) (hE:tiK tt e=some (.int .i64)) (hs:aN tt e=some 1) (ha:iY tt e=some false)
  (he:∀a b:Int×Int×Int×Int,peq tt 8 kt ((xK a).map .val) ((xK b).map .val)=some (decide (a=b))) (hcm:oG P 8 kt=true):KeyOK P kt (λk=> .agg (xK k).toArray) (λk=> .agg ((xK k).map .val)) where
 und:=by have hu:=iM (aK htt hT).1;simp [hu]
 chk k b w:=aEs htt hT hE hs ha k.1 k.2.1 k.2.2.1 k.2.2.2 b w
 now kd _ a b:= .inl (by cases kd<;>rfl)
 eq a b w:=by
  have hu:=iM (aK htt hT).1
  have ha:bC P kt=true:=by simp [bC,hu]
  have g:G:=⟨#[],λ_=>none,λ_=>0,λ_=>False⟩
  exact gF htt (g:=g) 8 Op.maxDepth (by decide) kt _ _ _ _ _ (he a b) hcm (pU (by simp only [Rep];exact ⟨_,rfl,xV g _⟩) ha) (pU (by simp only [Rep];exact ⟨_,rfl,xV g _⟩) ha)
 rp k g v h:=by
  simp only [Rep] at h
  obtain ⟨vs,rfl,h⟩:=h
  rw [tW h]
 bits k:=zX (vs:=xK k) rfl
theorem anG (htt:bD P tt) {dst:Option Nat} {ty:TypeId} {pos:String} {after:Array Edge} {s:St} {T T2 e:TypeId} {x y:Operand} {sz m:Nat} {kq kn:IntKind} (B:Nat) (hx:opd s x=some (.val (.slice none 0 0))) (hy:opd s y=some (.val (.int kq (m:Nat)))) (hk:tiK tt T=some (.slice e)) (hk2:P.underlying T2=some (.int kn)) (hs:aN tt e=some sz) (hz:(tiZ tt e).map List.length=some sz)
  (hgr:0<m) (hB:P.bytesOf e=B) (hb:m*B<=140737488355328) (h62:m<2^62) (hsz0:0<sz):
  OpZ P ⟨dst, .call ⟨.builtin .append, #[x,y], #[T,T2]⟩,ty,pos,after,none⟩ s λz=>∃id',s.st id'=none/\z=(upd s.st id' (some (.arr e (aV m sz))), .vec id' sz 0 m):=by
 intro w g ρ hm hρ
 have rx:=aG (hρ x (by simp [Op.operands,Call.operands]) _ hx)
 have ry:=aG (hρ y (by simp [Op.operands,Call.operands]) _ hy)
 have hu:=bR (aK htt hk).1
 obtain ⟨k1,k2⟩:=aL htt hs
 cases hii:P.info? e with
 |none=>rw [hii] at k1;cases k1
 |some ii=>
  have hsz:ii.size=sz:=by rw [hii] at k1;simpa using k1
  have hby:ii.bytes=B:=by rw [<-hB];simp [Program.bytesOf,hii]
  subst hsz;subst hby
  cases hz':tiZ tt e with
  |none=>rw [hz'] at hz;cases hz
  |some zl=>
   rw [hz'] at hz
   simp only [Option.map_some,Option.some.injEq] at hz
   obtain ⟨z,z1,z2⟩:=kJ htt hz'
   have hiz:ii.zero=some z:=by rw [hii] at z1;simpa using z1
   have hzs:z.cells.size=ii.size:=by rw [<-hz,<-z2];simp
   have hg0:0<0+m:=by omega
   have hfit:=growslice_fits hg0 (show (0+m)*ii.bytes<=140737488355328 by simpa using hb)
   have hold:(Builtin.firstCells ii.size 0 (.slice none 0 0)).run P w.drew= .ok ([]:List Value).toArray w.drew:=by simp [Builtin.firstCells]
   have hrun0:=Go.Lib.run_append_grow_zeros w T T2 ty e ii z kq kn hu hk2 hii hiz none 0 0 [] hold m (by omega) hsz0 hg0 (by omega) (by omega) hfit
   let nc:=grownCap w (0+m) 0 e
   have hnc:m<=nc:=by show _<=grownCap _ _ _ _;simp only [grownCap,Question.cut];omega
   have hlen:(Builtin.zeroCells z.cells (nc-(0+m))).size=(nc-m)*ii.size:=by rw [size_zeroCells,hzs];simp
   have hq:(Builtin.zeroCells z.cells (nc-(0+m))).toList.length=(nc-m)*ii.size:=by rw [<-hlen];exact Array.length_toList
   have hq2:(Builtin.zeroCells z.cells m).toList.length=m*ii.size:=by rw [Array.length_toList,size_zeroCells,hzs]
   have htl:(aV m ii.size).length=m:=by unfold aV;rw [List.length_replicate]
   obtain ⟨id',g',f1,f2,f3,m1,m2,m3,m4⟩:=lC (w0:=w.drew) (o:= .cells (([]:List Value).toArray++Builtin.zeroCells z.cells m++Builtin.zeroCells z.cells (nc-(0+m))) e) (n:=m) (cap:=nc) (o':= .arr e (aV m ii.size)) hm (by omega) ⟨rfl,rfl,⟨rfl,Nat.le_succ _⟩,rfl⟩ (λg' id hle i1 i2 i3 _=>by
    simp only [ObjOK]
    refine ⟨w.heap.size,nc,by rw [htl];exact i1, .inr ⟨by omega,(Builtin.zeroCells z.cells m).toList,(Builtin.zeroCells z.cells (nc-(0+m))).toList,by rw [htl];exact hnc, ?_, ?_,λr hr=> ?_, ?_,i3⟩⟩
    ·rw [i2];congr 2;apply Array.toList_inj.1;simp
    ·rw [zla,hq2,hq,k2,<-Nat.add_mul];congr 1;omega
    ·rw [k2];unfold aV at hr;rw [List.eq_of_mem_replicate hr,List.length_replicate]
    ·rw [mG,<-hq2];exact mK _)
   have hrun:(execOp ρ (⟨dst, .call ⟨.builtin .append, #[x,y], #[T,T2]⟩,ty,pos,after,none⟩:Oper)).run P w=_:=bU rfl (by
    simp only [builtin,List.map_toArray,zmp,List.map_nil]
    rw [rx,ry]
    simp only [Sem.run_bind,hrun0,Result.andThen_ok,Sem.run_pure];rfl)
   rw [hrun]
   refine ⟨g',_,⟨id',f2,rfl⟩, ?_,m1,m2,m3,m4⟩
   simp only [Rep]
   exact ⟨_,_,_,f3,by omega,hnc,h62, .inr ⟨by omega,by simp [nc]⟩⟩
theorem SI.freezeT {c:Ctx} {s:St} {a:Act} {w:World} {g:G} {lam:Nat->Nat} (hs:SI P c s a w g lam) (u:Nat) {id sz m:Nat} {T:TypeId} {rows q:List (List PV)} (hx:s.env u=(true, .pv (.vec id sz 0 m))) (hst:s.st id=some (.arr T rows)) (hT:P.cellsOf T=sz) (hq:rows.take m=q):
  ∃g',SI P c ((s.sst (upd s.st id none)).pv u (.seq q)) a w g' lam:=by
 subst hq
 have henv:∀t,((s.sst (upd s.st id none)).pv u (.seq (rows.take m))).env t=upd s.env u (true, .pv (.seq (rows.take m))) t:=λ_=>rfl
 refine hs.subF hst hT ⟨λt=> ?_,λt T ds e=>⟨ds,e,FzL.refl _⟩,zsr _,rfl,λh=>h,λt w' v off e=> ?_,hs.adL⟩
 ·rw [henv]
  by_cases h:t=u
  ·subst h;rw [aA];exact .inr (.inr ⟨_,_,hx,rfl, .vec⟩)
  ·rw [aB h];exact .inr (.inl rfl)
 ·rw [henv] at e
  by_cases h:t=u
  ·subst h;rw [aA] at e;cases e
  ·rw [aB h] at e;exact hs.ad t w' v off e
theorem akC {cd:Code} {Q:Exit->St->Prop} {s:St} (u:Nat) {id sz m:Nat} {T:TypeId} {rows q:List (List PV)} (hx:s.env u=(true, .pv (.vec id sz 0 m))) (hst:s.st id=some (.arr T rows)) (hT:P.cellsOf T=sz) (hq:rows.take m=q) (k:PWp P cd Q ((s.sst (upd s.st id none)).pv u (.seq q))):PWp P cd Q s:=by
 intro c a w g lam hs
 obtain ⟨g',h⟩:=hs.freezeT u hx hst hT hq
 exact k c a w g' lam h
theorem aDZ (htt:bD P tt) {o:Oper} {s:St} {T e:TypeId} {x:Operand} (ho:o.op= .call ⟨.builtin .cap, #[x], #[T]⟩) (hx:opd s x=some (.val (.slice none 0 0))) (hk:tiK tt T=some (.slice e)):OpV P o s (.val (.int .i64 0)):=by
 refine aI λw g ρ hm hρ=> ?_
 have rx:=aG (hρ x (by rw [ho];simp [Op.operands,Call.operands]) _ hx)
 have hu:=bR (aK htt hk).1
 refine ⟨.int .i64 0,bU ho ?_,by simp [Rep]⟩
 simp [builtin,Builtin.cap_,run_underlying hu,rx,goInt]
theorem aEf (htt:bD P tt) {o:Oper} {s:St} {T e sz:TypeId} {x y:Operand} (ho:o.op= .slice T x none (some y) none) (hx:opd s x=some (.val (.slice none 0 0))) (hy:opd s y=some (.val (.int .i64 0))) (hk:tiK tt T=some (.slice e)) (hs:aN tt e=some sz):OpV P o s (.val (.slice none 0 0)):=by
 refine aI λw g ρ hm hρ=> ?_
 have rx:=aG (hρ x (by rw [ho];simp [Op.operands]) _ hx)
 have hb:∀z,(none:Option Operand)=some z\/some y=some z->gT g s z (ρ z):=λz hz=>by
  rcases hz with hz|hz
  ·cases hz
  ·cases hz
   exact hρ y (by rw [ho];simp [Op.operands])
 have hu:=bR (aK htt hk).1
 have hrun:(Instr.sliceBounds true 0 0 none (some (ρ y)) none).run P w= .ok (0,0,0) w:=iE (P:=P) (w:=w) (sl:=true) (len:=0) (cap:=0) (lo:=none) (hi:=some y) (i:=0) (j:=0) aW (aJ hy rfl) hb (Nat.le_refl 0) (Nat.le_refl 0)
 refine ⟨.slice none 0 0, ?_,by simp [Rep]⟩
 simp only [execOp,ho,Instr.sliceAt,Instr.slice,rx,Sem.run_bind,Sem.run_pure,Result.andThen_ok,run_underlying hu,aX (aL htt hs).1,Option.map_none,Option.map_some,hrun]
 simp
section
variable {l:List Oper} {d:Md} {r:List Oper} {s:St} {K:St->Prop} {t:Nat} {ty:TypeId} {pos:String} {after:Array Edge} {gd:Option (Nat×Bool)}
theorem aII (pk:Pk P tt) {T e:TypeId} {x:Operand} {w:Bool} (hw:bG l ⟨some t, .call ⟨.builtin .cap, #[x], #[T]⟩,ty,pos,after,gd⟩ s=some w) (hx:opd s x=some (.val (.slice none 0 0))) (hk:tiK tt T=some (.slice e)) (hf:All (flagsI s w (opl (.call ⟨.builtin .cap, #[x], #[T]⟩)) [])) (hd:Nat.blt t s.n=true) (ht:cO d l r=true)
  (k:Ev P l d r (s.put (some t) w (.pv (.val (.int .i64 0)))) K):Ev P l d (⟨some t, .call ⟨.builtin .cap, #[x], #[T]⟩,ty,pos,after,gd⟩::r) s K:=
 dD hw (λ_ st'=>aDZ (s:=s.sst st') pk.htt rfl ((cC x).trans hx) hk) (λz hz=>aO (λ_ _ _ e=>by cases e) hz) (flagsI.g hf).1 hd ht k
theorem slN (pk:Pk P tt) {T e sz:TypeId} {x y:Operand} {w:Bool} (hw:bG l ⟨some t, .slice T x none (some y) none,ty,pos,after,gd⟩ s=some w) (hx:opd s x=some (.val (.slice none 0 0))) (hy:opd s y=some (.val (.int .i64 0))) (hk:tiK tt T=some (.slice e)) (hs:aN tt e=some sz) (hf:All (flagsI s w (opl (.slice T x none (some y) none)) [])) (hd:Nat.blt t s.n=true) (ht:cO d l r=true)
  (k:Ev P l d r (s.put (some t) w (.pv (.val (.slice none 0 0)))) K):Ev P l d (⟨some t, .slice T x none (some y) none,ty,pos,after,gd⟩::r) s K:=
 dD hw (λ_ st'=>aEf (s:=s.sst st') pk.htt rfl ((cC x).trans hx) ((cC y).trans hy) hk hs) (λz hz=>aO (λ_ _ _ e=>by cases e) hz) (flagsI.g hf).1 hd ht k
theorem apN (pk:Pk P tt) {T T2 e:TypeId} {x y:Operand} {sz m:Nat} {kq kn:IntKind} (B:Nat) (hx:opd s x=some (.val (.slice none 0 0))) (hy:opd s y=some (.val (.int kq (m:Nat)))) (hk:tiK tt T=some (.slice e)) (hk2:P.underlying T2=some (.int kn)) (hs:aN tt e=some sz) (hz:(tiZ tt e).map List.length=some sz) (hf:bM s [x,y]=true) (hd:Nat.blt t s.n=true)
  (hgr:0<m) (hB:P.bytesOf e=B) (hb:m*B<=140737488355328) (h62:m<2^62) (hsz0:0<sz) (ht:iJ d l r=true)
  (k:∀id',s.st id'=none->Ev P l d r ((s.sst (upd s.st id' (some (.arr e (aV m sz))))).pv t (.vec id' sz 0 m)) K):Ev P l d (⟨some t, .call ⟨.builtin .append, #[x,y], #[T,T2]⟩,ty,pos,after,none⟩::r) s K:=by
 refine dU (anG pk.htt B hx hy hk hk2 hs hz hgr hB hb h62 hsz0) (λz hz=>aO (λ_ _ _ e=>by cases e) hz) hf hd ht λz hz=> ?_
 obtain ⟨id',h,rfl⟩:=hz
 exact k id' h
theorem ldZ (pk:Pk P tt) {T:TypeId} {x:Operand} {p:PV} (h:abK tt s (.load T x)=some p) (hf:bM s (opl (.load T x))=true) (hd:Nat.blt t s.n=true) (ht:iJ d l r=true) (k:Ev P l d r ((s.sst s.st).pv t p) K):Ev P l d (⟨some t, .load T x,ty,pos,after,none⟩::r) s K:=
 dU (R:=λz=>z=(s.st,p)) (λw g ρ hm hρ=>(sM (o:=⟨some t, .load T x,ty,pos,after,none⟩) pk.htt h w g ρ hm hρ).mono λv w' ⟨g',h1,h2,h3,h4⟩=>⟨g',(s.st,p),rfl,h1,h2,h3,h4,λb hb=> .inl ((gY hm h3 b).1 hb)⟩) (λz hz=>aO (λ_ _ _ e=>by cases e) hz) hf hd ht λz hz=>by subst hz;exact k
end
end
end Go.Abs
