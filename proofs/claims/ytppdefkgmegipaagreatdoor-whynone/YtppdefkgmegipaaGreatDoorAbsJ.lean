import Derived.Test.YtppdefkgmegipaaGreatDoorAbsE
import Derived.Test.YtppdefkgmegipaaGreatDoorAbsG
import Derived.Test.YtppdefkgmegipaaGreatDoorAbsI
set_option linter.unusedSimpArgs false
set_option linter.unusedVariables false
namespace Go.Abs
open Go
section
variable {P:Program} {tt:TT}
section
variable {l:List Oper} {d:Md} {r:List Oper} {s:St} {Kt:St->Prop} {t:Nat} {op:Op} {ty:TypeId} {pos:String} {after:Array Edge} {gd:Option (Nat×Bool)}
variable {K V:Type} [DecidableEq K] {kt:TypeId} {enc:K->Value} {rep:K->PV} {f:V->PV}
theorem aCz (pk:Pk P tt) (hk:KeyOK P kt enc rep) {T e:TypeId} {x y:Operand} {ok w:Bool} {id:Nat} {z:PV} {es:List (K×V)} {k:K} {v:Option V} (hw:bF l ⟨some t, .lookup T x y ok,ty,pos,after,gd⟩ s=some w) (hx:opd s x=some (.mref id)) (hy:opd s y=some (rep k)) (hT:tiK tt T=some (.map kt e)) (hz:pzv tt e=some z) (hf:All (flagsI s w [x,y] [])) (hd:Nat.blt t s.n=true)
  (hst:s.st id=some (.map (aY enc f es))) (ht:tT d l r=true) (hv:dK k es=v) (kk:Ev P l d r (s.put (some t) w (.pv (mX z f ok v))) Kt):Ev P l d (⟨some t, .lookup T x y ok,ty,pos,after,gd⟩::r) s Kt:=
 lkM pk hk hw hx hy hT hz hf hd hst ht (hv.symm▸kk)
end
end
section
variable {P:Program} {tt:TT}
section
variable {l:List Oper} {d:Md} {r:List Oper} {s:St} {Kt:St->Prop} {t:Nat} {op:Op} {ty:TypeId} {pos:String} {after:Array Edge} {gd:Option (Nat×Bool)}
variable {K V:Type} [DecidableEq K] {kt:TypeId} {enc:K->Value} {rep:K->PV} {f:V->PV}
end
end
section
variable {P:Program} {tt:TT}
theorem agG (htt:bC P tt) {dst:Option Nat} {ty:TypeId} {pos:String} {after:Array Edge} {s:St} {T T2 e:TypeId} {x y:Operand} {sz m:Nat} {kq kn:IntKind} (B:Nat) (hx:opd s x=some (.val (.slice none 0 0))) (hy:opd s y=some (.val (.int kq (m:Nat)))) (hk:tiK tt T=some (.slice e)) (hk2:P.underlying T2=some (.int kn)) (hs:aO tt e=some sz) (hz:(tiZ tt e).map List.length=some sz)
  (hgr:0<m) (hB:P.bytesOf e=B) (hb:m*B<=140737488355328) (h62:m<2^62) (hsz0:0<sz):
  OpZ P ⟨dst, .call ⟨.builtin .append, #[x,y], #[T,T2]⟩,ty,pos,after,none⟩ s λz=>∃id',s.st id'=none/\z=(upd s.st id' (some (.arr e (bM m sz))), .vec id' sz 0 m):=by
 intro w g ρ hm hρ
 have rx:=aK (hρ x (by simp [Op.operands,Call.operands]) _ hx)
 have ry:=aK (hρ y (by simp [Op.operands,Call.operands]) _ hy)
 have hu:=bP (aP htt hk).1
 obtain ⟨k1,k2⟩:=aN htt hs
 cases hii:P.info? e with
 |none=>rw [hii] at k1;cases k1
 |some ii=>
  have hsz:ii.size=sz:=by rw [hii] at k1;simpa using k1
  have hby:ii.bytes=B:=by rw [<-hB];simp [Program.bytesOf,hii]
  subst hsz;subst hby
  cases hz':tiZ tt e with
  |none=>rw [hz'] at hz;cases hz
  |some zl=>
   rw [hz'] at hz
   simp only [Option.map_some,Option.some.injEq] at hz
   obtain ⟨z,z1,z2⟩:=jO htt hz'
   have hiz:ii.zero=some z:=by rw [hii] at z1;simpa using z1
   have hzs:z.cells.size=ii.size:=by rw [<-hz,<-z2];simp
   have hg0:0<0+m:=by omega
   have hfit:=growslice_fits hg0 (show (0+m)*ii.bytes<=140737488355328 by simpa using hb)
   have hold:(Builtin.firstCells ii.size 0 (.slice none 0 0)).run P w.drew= .ok ([]:List Value).toArray w.drew:=by simp [Builtin.firstCells]
   have hrun0:=Go.Lib.run_append_grow_zeros w T T2 ty e ii z kq kn hu hk2 hii hiz none 0 0 [] hold m (by omega) hsz0 hg0 (by omega) (by omega) hfit
   let nc:=grownCap w (0+m) 0 e
   have hnc:m<=nc:=by show _<=grownCap _ _ _ _;simp only [grownCap,Question.cut];omega
   have hlen:(Builtin.zeroCells z.cells (nc-(0+m))).size=(nc-m)*ii.size:=by rw [size_zeroCells,hzs];simp
   have hq:(Builtin.zeroCells z.cells (nc-(0+m))).toList.length=(nc-m)*ii.size:=by rw [<-hlen];exact Array.length_toList
   have hq2:(Builtin.zeroCells z.cells m).toList.length=m*ii.size:=by rw [Array.length_toList,size_zeroCells,hzs]
   have htl:(bM m ii.size).length=m:=by unfold bM;rw [List.length_replicate]
   obtain ⟨id',g',f1,f2,f3,m1,m2,m3,m4⟩:=lI (w0:=w.drew) (o:= .cells (([]:List Value).toArray++Builtin.zeroCells z.cells m++Builtin.zeroCells z.cells (nc-(0+m))) e) (n:=m) (cap:=nc) (o':= .arr e (bM m ii.size)) hm (by omega) ⟨rfl,rfl,⟨rfl,Nat.le_succ _⟩,rfl⟩ (λg' id hle i1 i2 i3 _=>by
    simp only [ObjOK]
    refine ⟨w.heap.size,nc,by rw [htl];exact i1, .inr ⟨by omega,(Builtin.zeroCells z.cells m).toList,(Builtin.zeroCells z.cells (nc-(0+m))).toList,by rw [htl];exact hnc, ?_, ?_,λr hr=> ?_, ?_,i3⟩⟩
    ·rw [i2];congr 2;apply Array.toList_inj.1;simp
    ·rw [zla,hq2,hq,k2,<-Nat.add_mul];congr 1;omega
    ·rw [k2];unfold bM at hr;rw [List.eq_of_mem_replicate hr,List.length_replicate]
    ·rw [jV,<-hq2];exact kD _)
   have hrun:(execOp ρ (⟨dst, .call ⟨.builtin .append, #[x,y], #[T,T2]⟩,ty,pos,after,none⟩:Oper)).run P w=_:=bO rfl (by
    simp only [builtin,List.map_toArray,zmp,List.map_nil]
    rw [rx,ry]
    simp only [Sem.run_bind,hrun0,Result.andThen_ok,Sem.run_pure];rfl)
   rw [hrun]
   refine ⟨g',_,⟨id',f2,rfl⟩, ?_,m1,m2,m3,m4⟩
   simp only [Rep]
   exact ⟨_,_,_,f3,by omega,hnc,h62, .inr ⟨by omega,by simp [nc]⟩⟩
theorem SI.freezeT {c:Ctx} {s:St} {a:Act} {w:World} {g:G} {lam:Nat->Nat} (hs:SI P c s a w g lam) (u:Nat) {id sz m:Nat} {T:TypeId} {rows q:List (List PV)} (hx:s.env u=(true, .pv (.vec id sz 0 m))) (hst:s.st id=some (.arr T rows)) (hT:P.cellsOf T=sz) (hq:rows.take m=q):
  ∃g',SI P c ((s.sst (upd s.st id none)).pv u (.seq q)) a w g' lam:=by
 subst hq
 have henv:∀t,((s.sst (upd s.st id none)).pv u (.seq (rows.take m))).env t=upd s.env u (true, .pv (.seq (rows.take m))) t:=λ_=>rfl
 refine hs.subF hst hT ⟨λt=> ?_,λt T ds e=>⟨ds,e,FzL.refl _⟩,zsr _,rfl,rfl,λt w' v off e=> ?_,hs.adL⟩
 ·rw [henv]
  by_cases h:t=u
  ·subst h;rw [aA];exact .inr (.inr ⟨_,_,hx,rfl, .vec⟩)
  ·rw [aC h];exact .inr (.inl rfl)
 ·rw [henv] at e
  by_cases h:t=u
  ·subst h;rw [aA] at e;cases e
  ·rw [aC h] at e;exact hs.ad t w' v off e
theorem adW {cd:Code} {Q:Exit->St->Prop} {s:St} (u:Nat) {id sz m:Nat} {T:TypeId} {rows q:List (List PV)} (hx:s.env u=(true, .pv (.vec id sz 0 m))) (hst:s.st id=some (.arr T rows)) (hT:P.cellsOf T=sz) (hq:rows.take m=q) (k:PWp P cd Q ((s.sst (upd s.st id none)).pv u (.seq q))):PWp P cd Q s:=by
 intro c a w g lam hs
 obtain ⟨g',h⟩:=hs.freezeT u hx hst hT hq
 exact k c a w g' lam h
theorem awU (htt:bC P tt) {o:Oper} {s:St} {T e:TypeId} {x:Operand} (ho:o.op= .call ⟨.builtin .cap, #[x], #[T]⟩) (hx:opd s x=some (.val (.slice none 0 0))) (hk:tiK tt T=some (.slice e)):OpV P o s (.val (.int .i64 0)):=by
 refine aM λw g ρ hm hρ=> ?_
 have rx:=aK (hρ x (by rw [ho];simp [Op.operands,Call.operands]) _ hx)
 have hu:=bP (aP htt hk).1
 refine ⟨.int .i64 0,bO ho ?_,by simp [Rep]⟩
 simp [builtin,Builtin.cap_,run_underlying hu,rx,goInt]
theorem axH (htt:bC P tt) {o:Oper} {s:St} {T e sz:TypeId} {x y:Operand} (ho:o.op= .slice T x none (some y) none) (hx:opd s x=some (.val (.slice none 0 0))) (hy:opd s y=some (.val (.int .i64 0))) (hk:tiK tt T=some (.slice e)) (hs:aO tt e=some sz):OpV P o s (.val (.slice none 0 0)):=by
 refine aM λw g ρ hm hρ=> ?_
 have rx:=aK (hρ x (by rw [ho];simp [Op.operands]) _ hx)
 have hb:∀z,(none:Option Operand)=some z\/some y=some z->fP g s z (ρ z):=λz hz=>by
  rcases hz with hz|hz
  ·cases hz
  ·cases hz
   exact hρ y (by rw [ho];simp [Op.operands])
 have hu:=bP (aP htt hk).1
 have hrun:(Instr.sliceBounds true 0 0 none (some (ρ y)) none).run P w= .ok (0,0,0) w:=fZ (P:=P) (w:=w) (sl:=true) (len:=0) (cap:=0) (lo:=none) (hi:=some y) (i:=0) (j:=0) cC (bL hy rfl) hb (Nat.le_refl 0) (Nat.le_refl 0)
 refine ⟨.slice none 0 0, ?_,by simp [Rep]⟩
 simp only [execOp,ho,Instr.sliceAt,Instr.slice,rx,Sem.run_bind,Sem.run_pure,Result.andThen_ok,run_underlying hu,aX (aN htt hs).1,Option.map_none,Option.map_some,hrun]
 simp
section
variable {l:List Oper} {d:Md} {r:List Oper} {s:St} {K:St->Prop} {t:Nat} {ty:TypeId} {pos:String} {after:Array Edge} {gd:Option (Nat×Bool)}
theorem azS (pk:Pk P tt) {T e:TypeId} {x:Operand} {w:Bool} (hw:bF l ⟨some t, .call ⟨.builtin .cap, #[x], #[T]⟩,ty,pos,after,gd⟩ s=some w) (hx:opd s x=some (.val (.slice none 0 0))) (hk:tiK tt T=some (.slice e)) (hf:All (flagsI s w (opl (.call ⟨.builtin .cap, #[x], #[T]⟩)) [])) (hd:Nat.blt t s.n=true) (ht:cI d l r=true)
  (k:Ev P l d r (s.put (some t) w (.pv (.val (.int .i64 0)))) K):Ev P l d (⟨some t, .call ⟨.builtin .cap, #[x], #[T]⟩,ty,pos,after,gd⟩::r) s K:=
 cN hw (λ_ st'=>awU (s:=s.sst st') pk.htt rfl ((cA x).trans hx) hk) (λz hz=>aR (λ_ _ _ e=>by cases e) hz) (flagsI.g hf).1 hd ht k
theorem slN (pk:Pk P tt) {T e sz:TypeId} {x y:Operand} {w:Bool} (hw:bF l ⟨some t, .slice T x none (some y) none,ty,pos,after,gd⟩ s=some w) (hx:opd s x=some (.val (.slice none 0 0))) (hy:opd s y=some (.val (.int .i64 0))) (hk:tiK tt T=some (.slice e)) (hs:aO tt e=some sz) (hf:All (flagsI s w (opl (.slice T x none (some y) none)) [])) (hd:Nat.blt t s.n=true) (ht:cI d l r=true)
  (k:Ev P l d r (s.put (some t) w (.pv (.val (.slice none 0 0)))) K):Ev P l d (⟨some t, .slice T x none (some y) none,ty,pos,after,gd⟩::r) s K:=
 cN hw (λ_ st'=>axH (s:=s.sst st') pk.htt rfl ((cA x).trans hx) ((cA y).trans hy) hk hs) (λz hz=>aR (λ_ _ _ e=>by cases e) hz) (flagsI.g hf).1 hd ht k
theorem apN (pk:Pk P tt) {T T2 e:TypeId} {x y:Operand} {sz m:Nat} {kq kn:IntKind} (B:Nat) (hx:opd s x=some (.val (.slice none 0 0))) (hy:opd s y=some (.val (.int kq (m:Nat)))) (hk:tiK tt T=some (.slice e)) (hk2:P.underlying T2=some (.int kn)) (hs:aO tt e=some sz) (hz:(tiZ tt e).map List.length=some sz) (hf:bK s [x,y]=true) (hd:Nat.blt t s.n=true)
  (hgr:0<m) (hB:P.bytesOf e=B) (hb:m*B<=140737488355328) (h62:m<2^62) (hsz0:0<sz) (ht:hY d l r=true)
  (k:∀id',s.st id'=none->Ev P l d r ((s.sst (upd s.st id' (some (.arr e (bM m sz))))).pv t (.vec id' sz 0 m)) K):Ev P l d (⟨some t, .call ⟨.builtin .append, #[x,y], #[T,T2]⟩,ty,pos,after,none⟩::r) s K:=by
 refine dD (agG pk.htt B hx hy hk hk2 hs hz hgr hB hb h62 hsz0) (λz hz=>aR (λ_ _ _ e=>by cases e) hz) hf hd ht λz hz=> ?_
 obtain ⟨id',h,rfl⟩:=hz
 exact k id' h
theorem ldZ (pk:Pk P tt) {T:TypeId} {x:Operand} {p:PV} (h:wJ tt s (.load T x)=some p) (hf:bK s (opl (.load T x))=true) (hd:Nat.blt t s.n=true) (ht:hY d l r=true) (k:Ev P l d r ((s.sst s.st).pv t p) K):Ev P l d (⟨some t, .load T x,ty,pos,after,none⟩::r) s K:=
 dD (R:=λz=>z=(s.st,p)) (λw g ρ hm hρ=>(pD (o:=⟨some t, .load T x,ty,pos,after,none⟩) pk.htt h w g ρ hm hρ).mono λv w' ⟨g',h1,h2,h3,h4⟩=>⟨g',(s.st,p),rfl,h1,h2,h3,h4,λb hb=> .inl ((iB hm h3 b).1 hb)⟩) (λz hz=>aR (λ_ _ _ e=>by cases e) hz) hf hd ht λz hz=>by subst hz;exact k
end
end
end Go.Abs
