import Derived.Test.YtppdefkgmegipaaGreatDoorAbsG
import Derived.Test.YtppdefkgmegipaaGreatDoorAbsE
import Derived.Lib.AppendZerosOnto
import Derived.Laws.Externs
import Derived.Deep.Draws
set_option linter.unusedSimpArgs false
set_option linter.unusedVariables false
namespace Go.Abs
open Go
section
theorem kD {g:G}:∀(vs:List Value),RepL g (List.replicate vs.length .und) vs
 |[]=>by simp [RepL]
 |v::vs=>by
  simp only [zlc,List.replicate_succ,RepL]
  exact ⟨v,vs,rfl,by simp [Rep],kD vs⟩
def bM (k sz:Nat):List (List PV):=List.replicate k (List.replicate sz .und)
theorem jV (k sz:Nat):(bM k sz).flatten=List.replicate (k*sz) .und:=by
 unfold bM
 induction k with
 |zero=>simp
 |succ k ih=>rw [List.replicate_succ,List.flatten_cons,ih,List.replicate_append_replicate];congr 1;rw [Nat.succ_mul];omega
theorem mL {w:World} {b:Nat} {cur:Array Value} {T:TypeId} (h:w.heap[b]?=some (.cells cur T (0,0))):w.setRow b cur=w:=by
 have:(w.setRow b cur).heap=w.heap:=by
  apply Array.ext_getElem?
  intro i
  by_cases e:i=b
  ·subst e;rw [setRow_heap w i cur cur T (0,0) h,h]
  ·exact bH w b cur i e
 cases w
 simp only [World.setRow] at this⊢
 rw [this]
section
variable {P:Program} {tt:TT}
theorem eC {rows:List (List PV)} {sz:Nat} (h:∀r∈rows,r.length=sz):rows.flatten.length=rows.length*sz:=by
 induction rows with
 |nil=>simp
 |cons r rs ih=>rw [List.flatten_cons,zla,h r (by simp),ih (λr hr=>h r (by simp [hr])),zlc,Nat.add_mul];omega
theorem awN {st:aD} {w:World} {g:G} (hm:MemOK P st w g) {id sz:Nat} {T:TypeId} {rows:List (List PV)} (m:Nat) (hst:st id=some (.arr T rows)) (hT:P.cellsOf T=sz) (h0:0<rows.length) (h62:rows.length+m<2^62):
  ∃k o id' g',((k<m/\o= .full T (rows++bM k sz))\/(k=m/\o= .arr T (rows++bM k sz)))/\st id'=none/\MemOK P (upd (upd st id none) id' (some o)) w g'/\Le g g'/\Frame (Blocks st g) w g w g'/\(∀b',Blocks (upd (upd st id none) id' (some o)) g' b'->Blocks st g b'\/w.heap.size<=b')/\∀v,Rep g (.vec id sz 0 rows.length) v->Rep g' (.vec id' sz 0 rows.length) v:=by
 have hob:=hm.obj id _ hst
 simp only [ObjOK] at hob
 obtain ⟨b,cap,t1,⟨_,t0⟩|⟨t2,vs,sp,t3,t4,t5,t6,t7,t8⟩⟩:=hob
 ·rw [t0] at h0;simp at h0
 rw [hm.heap] at t4
 rw [hT] at t5 t6
 have hvl:=t7.length
 rw [eC t6] at hvl
 have hsp:sp.length=(cap-rows.length)*sz:=by
  have:=Nat.sub_mul cap rows.length sz
  rw [zla] at t5;omega
 have hjr:∀k,∀r∈rows++bM k sz,r.length=P.cellsOf T:=λk r hr=>by
  rw [hT]
  rcases zma.1 hr with h|h
  ·exact t6 r h
  ·unfold bM at h;rw [List.eq_of_mem_replicate h,List.length_replicate]
 have hjl:∀k,(rows++bM k sz).length=rows.length+k:=λk=>by rw [zla];unfold bM;rw [List.length_replicate]
 by_cases hroom:rows.length+m<=cap
 ·have hsm:m*sz<=sp.length:=by rw [hsp];exact Nat.mul_le_mul_right _ (by omega)
  obtain ⟨id',g',f1,f2,f3,m1,m2,m3,m4⟩:=nT (n':=rows.length+m) (xs:=(vs++sp).toArray) (o':= .arr T (rows++bM m sz)) hm (by rw [hst];simp) t1 t2 t4 t8 (λg' id' hle i1 i2 i3=>by
   simp only [ObjOK]
   refine ⟨b,cap,by rw [hjl];exact i1, .inr ⟨t2,vs++sp.take (m*sz),sp.drop (m*sz),by rw [hjl];exact hroom, ?_, ?_,hjr m, ?_,i3⟩⟩
   ·rw [i2,List.append_assoc,List.take_append_drop]
   ·rw [List.append_assoc,List.take_append_drop,hT];exact t5
   ·rw [List.flatten_append,jV]
    refine (RepL.mono hle _ _ t7).append ?_
    have:=kD (g:=g') (sp.take (m*sz))
    rwa [zlt,Nat.min_eq_left hsm] at this)
  rw [mL t4] at m1 m3
  refine ⟨m,_,id',g', .inr ⟨rfl,rfl⟩,f2,m1,m2,m3,m4,λv hv=> ?_⟩
  simp only [Rep] at hv⊢
  obtain ⟨b2,n2,cap2,e1,e2,e3,e4,e5⟩:=hv
  rw [t1] at e1;injection e1 with e1;injection e1 with e1 e1';injection e1' with e1' e1'';subst e1;subst e1';subst e1''
  rcases e5 with e5|e5
  ·exact absurd e5.1 t2
  ·exact ⟨b,rows.length+m,cap,f3,by omega,hroom,h62, .inr e5⟩
 ·obtain ⟨id',g',f1,f2,f3,m1,m2,m3,m4⟩:=nT (n':=cap) (xs:=(vs++sp).toArray) (o':= .full T (rows++bM (cap-rows.length) sz)) hm (by rw [hst];simp) t1 t2 t4 t8 (λg' id' hle i1 i2 i3=>by
   have hlen:(rows++bM (cap-rows.length) sz).length=cap:=by rw [hjl];omega
   simp only [ObjOK]
   refine ⟨b,vs++sp,by rw [hlen];exact i1,by omega,i2,by rw [hlen,hT];exact t5,hjr _, ?_,i3⟩
   rw [List.flatten_append,jV,<-hsp]
   exact (RepL.mono hle _ _ t7).append (kD sp))
  rw [mL t4] at m1 m3
  refine ⟨cap-rows.length,_,id',g', .inl ⟨by omega,rfl⟩,f2,m1,m2,m3,m4,λv hv=> ?_⟩
  simp only [Rep] at hv⊢
  obtain ⟨b2,n2,cap2,e1,e2,e3,e4,e5⟩:=hv
  rw [t1] at e1;injection e1 with e1;injection e1 with e1 e1';injection e1' with e1' e1'';subst e1;subst e1';subst e1''
  rcases e5 with e5|e5
  ·exact absurd e5.1 t2
  ·exact ⟨b,cap,cap,f3,by omega,Nat.le_refl _,by omega, .inr e5⟩
theorem SI.slot {c:Ctx} {s:St} {a:Act} {w:World} {g:G} {lam:Nat->Nat} (hs:SI P c s a w g lam) (u:Nat) {p q:PV} (hx:s.env u=(true, .pv p)) (hq:∀v,Rep g p v->Rep g q v):SI P c (s.pv u q) a w g lam:=by
 refine ⟨hs.mem,hs.le,hs.frame,hs.blk,λt=> ?_,hs.box,hs.inj,λt b v off e=> ?_,hs.adL,hs.defers,hs.n,hs.top⟩
 ·show EntOK g lam (upd s.env u _ t) _
  by_cases ht:t=u
  ·subst ht
   rw [aA]
   have:=hs.env t
   rw [hx] at this
   simp only [EntOK] at this⊢
   exact hq _ this
  ·rw [aC ht];exact hs.env t
 ·have e':upd s.env u (true, .pv q) t=(b, .adr v off):=e
  by_cases ht:t=u
  ·rw [ht,aA] at e';cases e'
  ·rw [aC ht] at e';exact hs.ad t b v off e'
theorem SI.room {c:Ctx} {s:St} {a:Act} {w:World} {g:G} {lam:Nat->Nat} (hs:SI P c s a w g lam) (u m:Nat) {id sz n:Nat} {T:TypeId} {rows:List (List PV)} (hx:s.env u=(true, .pv (.vec id sz 0 n))) (hst:s.st id=some (.arr T rows)) (hT:P.cellsOf T=sz) (hn:rows.length=n) (h0:0<n) (h62:n+m<2^62):
  ∃k o id' g',((k<m/\o= .full T (rows++bM k sz))\/(k=m/\o= .arr T (rows++bM k sz)))/\s.st id'=none/\SI P c ((s.sst (upd (upd s.st id none) id' (some o))).pv u (.vec id' sz 0 n)) a w g' lam:=by
 subst hn
 obtain ⟨k,o,id',g',h1,h2,h3,h4,h5,h6,h7⟩:=awN hs.mem m hst hT h0 h62
 have hs':=hs.step h3 h4 h5 h6
 refine ⟨k,o,id',g',h1,h2, ?_⟩
 refine ⟨hs'.mem,hs'.le,hs'.frame,hs'.blk,λt=> ?_,hs'.box,hs'.inj,λt b v off e=> ?_,hs'.adL,hs'.defers,hs'.n,hs'.top⟩
 ·show EntOK g' lam (upd s.env u _ t) _
  by_cases ht:t=u
  ·subst ht
   rw [aA]
   have:=hs.env t
   rw [hx] at this
   simp only [EntOK] at this⊢
   exact h7 _ this
  ·rw [aC ht];exact hs'.env t
 ·have e':upd s.env u (true, .pv (.vec id' sz 0 rows.length)) t=(b, .adr v off):=e
  by_cases ht:t=u
  ·rw [ht,aA] at e';cases e'
  ·rw [aC ht] at e';exact hs.ad t b v off e'
theorem arA {cd:Code} {Q:Exit->St->Prop} {s:St} (u m:Nat) {id sz n:Nat} {T:TypeId} {rows:List (List PV)} (hx:s.env u=(true, .pv (.vec id sz 0 n))) (hst:s.st id=some (.arr T rows)) (hT:P.cellsOf T=sz) (hn:rows.length=n) (h0:0<n) (h62:n+m<2^62)
  (k1:∀k id',k<m->s.st id'=none->PWp P cd Q ((s.sst (upd (upd s.st id none) id' (some (.full T (rows++bM k sz))))).pv u (.vec id' sz 0 n))) (k2:∀id',s.st id'=none->PWp P cd Q ((s.sst (upd (upd s.st id none) id' (some (.arr T (rows++bM m sz))))).pv u (.vec id' sz 0 n))):PWp P cd Q s:=by
 intro c a w g lam hs
 obtain ⟨k,o,id',g',⟨h1,rfl⟩|⟨rfl,rfl⟩,h2,h3⟩:=hs.room u m hx hst hT hn h0 h62
 ·exact k1 k id' h1 h2 c a w g' lam h3
 ·exact k2 id' h2 c a w g' lam h3
theorem ayU {st:aD} {w:World} {g:G} (hm:MemOK P st w g) {id sz k:Nat} {T:TypeId} {rows:List (List PV)} (hst:st id=some (.arr T rows)\/st id=some (.full T rows)) (hT:P.cellsOf T=sz) (hk:k<=rows.length) (h0:0<rows.length):
  ∃id' g',st id'=none/\MemOK P (upd (upd st id none) id' (some (.arr T (rows.take k)))) w g'/\Le g g'/\Frame (Blocks st g) w g w g'/\(∀b',Blocks (upd (upd st id none) id' (some (.arr T (rows.take k)))) g' b'->Blocks st g b'\/w.heap.size<=b')/\∀v,Rep g (.vec id sz 0 k) v->Rep g' (.vec id' sz 0 k) v:=by
 have key:∃b cap vs sp,g.io id=some (b,rows.length,cap)/\cap≠0/\rows.length<=cap/\g.heap[b]?=some (.cells (vs++sp).toArray T (0,0))/\(vs++sp:List Value).length=cap*P.cellsOf T/\(∀r∈rows,r.length=P.cellsOf T)/\RepL g rows.flatten vs/\g.fr b=0:=by
  rcases hst with hst|hst
  ·have hob:=hm.obj id _ hst
   simp only [ObjOK] at hob
   obtain ⟨b,cap,t1,⟨_,t0⟩|⟨t2,vs,sp,t3,t4,t5,t6,t7,t8⟩⟩:=hob
   ·rw [t0] at h0;simp at h0
   ·exact ⟨b,cap,vs,sp,t1,t2,t3,t4,t5,t6,t7,t8⟩
  ·have hob:=hm.obj id _ hst
   simp only [ObjOK] at hob
   obtain ⟨b,vs,t1,t2,t4,t5,t6,t7,t8⟩:=hob
   exact ⟨b,rows.length,vs,[],t1,t2,Nat.le_refl _,by rw [List.append_nil];exact t4,by rw [List.append_nil];exact t5,t6,t7,t8⟩
 have hne:st id≠none:=by rcases hst with h|h<;>rw [h]<;>simp
 obtain ⟨b,cap,vs,sp,t1,t2,t3,t4,t5,t6,t7,t8⟩:=key
 rw [hm.heap] at t4
 rw [hT] at t5 t6
 have hvl:=t7.length
 rw [eC t6] at hvl
 have hks:k*sz<=vs.length:=by rw [hvl];exact Nat.mul_le_mul_right _ hk
 obtain ⟨id',g',f1,f2,f3,m1,m2,m3,m4⟩:=nT (n':=k) (xs:=(vs++sp).toArray) (o':= .arr T (rows.take k)) hm hne t1 t2 t4 t8 (λg' id' hle i1 i2 i3=>by
  have hl:(rows.take k).length=k:=by rw [zlt];omega
  simp only [ObjOK]
  refine ⟨b,cap,by rw [hl];exact i1, .inr ⟨t2,vs.take (k*sz),vs.drop (k*sz)++sp,by rw [hl];omega, ?_, ?_,λr hr=>by rw [hT];exact t6 r (List.mem_of_mem_take hr), ?_,i3⟩⟩
  ·rw [i2,<-List.append_assoc,List.take_append_drop]
  ·rw [<-List.append_assoc,List.take_append_drop,hT];exact t5
  ·have e:rows.flatten=(rows.take k).flatten++(rows.drop k).flatten:=by rw [<-List.flatten_append,List.take_append_drop]
   have hfl:(rows.take k).flatten.length=k*sz:=by rw [eC λr hr=>t6 r (List.mem_of_mem_take hr),hl]
   have:=RepL.mono hle _ _ t7
   rw [e] at this
   have h2:=this.take (k*sz)
   rwa [List.take_append_of_le_length (by omega),ztl (by omega)] at h2)
 rw [mL t4] at m1 m3
 refine ⟨id',g',f2,m1,m2,m3,m4,λv hv=> ?_⟩
 simp only [Rep] at hv⊢
 obtain ⟨b2,n2,cap2,e1,e2,e3,e4,e5⟩:=hv
 rw [t1] at e1;injection e1 with e1;injection e1 with e1 e1';injection e1' with e1' e1'';subst e1;subst e1';subst e1''
 rcases e5 with e5|e5
 ·exact absurd e5.1 t2
 ·exact ⟨b,k,cap,f3,by omega,by omega,by omega, .inr e5⟩
theorem jC {st:aD} {w:World} {g:G} (hm:MemOK P st w g) {id:Nat} {T:TypeId} {rows:List (List PV)} (hst:st id=some (.arr T rows)\/st id=some (.full T rows)) (h0:0<rows.length):
  ∃b cap vs sp,g.io id=some (b,rows.length,cap)/\cap≠0/\rows.length<=cap/\w.heap[b]?=some (.cells (vs++sp:List Value).toArray T (0,0))/\(vs++sp:List Value).length=cap*P.cellsOf T/\(∀r∈rows,r.length=P.cellsOf T)/\RepL g rows.flatten vs/\g.fr b=0/\(st id=some (.full T rows)->cap=rows.length):=by
 rcases hst with hst|hst
 ·have hob:=hm.obj id _ hst
  simp only [ObjOK] at hob
  obtain ⟨b,cap,t1,⟨_,t0⟩|⟨t2,vs,sp,t3,t4,t5,t6,t7,t8⟩⟩:=hob
  ·rw [t0] at h0;simp at h0
  ·exact ⟨b,cap,vs,sp,t1,t2,t3,by rw [<-hm.heap];exact t4,t5,t6,t7,t8,λh=>by rw [hst] at h;cases h⟩
 ·have hob:=hm.obj id _ hst
  simp only [ObjOK] at hob
  obtain ⟨b,vs,t1,t2,t4,t5,t6,t7,t8⟩:=hob
  exact ⟨b,rows.length,vs,[],t1,t2,Nat.le_refl _,by rw [List.append_nil,<-hm.heap];exact t4,by rw [List.append_nil];exact t5,t6,t7,t8,λ_=>rfl⟩
theorem iW {g:G} {id sz off len b n cap:Nat} {x:Value} (hx:Rep g (.vec id sz off len) x) (hio:g.io id=some (b,n,cap)) (hc:cap≠0):x= .slice (some ⟨b,off*sz,none⟩) len (cap-off)/\off+len<=n/\n<2^62:=by
 simp only [Rep] at hx
 obtain ⟨b2,n2,cap2,e1,e2,e3,e4,e5⟩:=hx
 rw [hio] at e1;injection e1 with e1;injection e1 with e1 e1';injection e1' with e1' e1'';subst e1;subst e1';subst e1''
 rcases e5 with e5|e5
 ·exact absurd e5.1 hc
 ·exact ⟨e5.2,e2,e4⟩
theorem uV {g:G} {rows:List (List PV)} {sz off len:Nat} {vs:List Value} (hl:∀r∈rows,r.length=sz) (hv:RepL g rows.flatten vs) (h:off+len<=rows.length):
  RepL g ((rows.drop off).take len).flatten ((vs.drop (off*sz)).take (len*sz))/\((vs.drop (off*sz)).take (len*sz)).length=len*sz:=by
 have e1:rows.flatten=(rows.take off).flatten++((rows.drop off).take len).flatten++((rows.drop off).drop len).flatten:=by
  rw [List.append_assoc,<-List.flatten_append,List.take_append_drop,<-List.flatten_append,List.take_append_drop]
 have l1:(rows.take off).flatten.length=off*sz:=by rw [eC λr hr=>hl r (List.mem_of_mem_take hr),zlt];congr 1;omega
 have l2:((rows.drop off).take len).flatten.length=len*sz:=by rw [eC λr hr=>hl r (List.mem_of_mem_drop (List.mem_of_mem_take hr)),zlt,zld];congr 1;omega
 have h1:=(hv.drop (off*sz)).take (len*sz)
 rw [e1,List.append_assoc,List.drop_append_of_le_length (by omega),List.drop_of_length_le (by omega),List.nil_append,List.take_append_of_le_length (by omega),ztl (by omega)] at h1
 exact ⟨h1,by have:=h1.length;rw [this,l2]⟩
theorem azI {dst:Option Nat} {ty:TypeId} {pos:String} {after:Array Edge} {s:St} {T e T2:TypeId} {x:Operand} {id sz off len:Nat} {rows:List (List PV)} (htt:bC P tt) (hx:opd s x=some (.vec id sz off len)) (hk:tiK tt T=some (.slice e)) (hst:s.st id=some (.arr T2 rows)\/s.st id=some (.full T2 rows)) (h0:0<rows.length):
  OpZ P ⟨dst, .call ⟨.builtin .cap, #[x], #[T]⟩,ty,pos,after,none⟩ s λz=>∃c:Nat,rows.length-off<=c/\(s.st id=some (.full T2 rows)->c=rows.length-off)/\z=(s.st, .val (.int .i64 (c:Nat))):=by
 intro w g ρ hm hρ
 have rx:=hρ x (by simp [Op.operands,Call.operands]) _ hx
 obtain ⟨b,cap,vs,sp,t1,t2,t3,t4,t5,t6,t7,t8,t9⟩:=jC hm hst h0
 obtain ⟨ex,h1,h2⟩:=iW rx t1 t2
 have hu:=bP (aP htt hk).1
 have hrun:(execOp ρ (⟨dst, .call ⟨.builtin .cap, #[x], #[T]⟩,ty,pos,after,none⟩:Oper)).run P w= .ok (.value (.int .i64 ((cap-off:Nat):Int))) w:=bO rfl (by simp [builtin,Builtin.cap_,run_underlying hu,ex,goInt])
 rw [hrun]
 exact ⟨g,_,⟨cap-off,by omega,λh=>by rw [t9 h],rfl⟩,by simp [Rep],hm,Le.refl g,Frame.refl _ _ _,λb hb=> .inl hb⟩
structure SrcN (P:Program) (sz:Nat) (tx:TypeId) (x:Value) (m n:Nat) (news:List Value) (w:World):Prop where
 len:(Builtin.lenOf x).run P w= .ok m w
 cells:(Builtin.firstCells sz n x).run P w= .ok news.toArray w
 newsLen:news.length=n*sz
 one:∀u∈news,u.oneCell'=true
def afZ (P:Program) (s:St) (tx:TypeId) (x:Operand) (sz m n:Nat) (rows:List (List PV)):Prop:=
 ∀w g v,MemOK P s.st w g->(∀p,opd s x=some p->Rep g p v)->∃news,SrcN P sz tx v m n news w/\RepL g rows.flatten news
theorem awG (htt:bC P tt) {s:St} {x:Operand} {p:PV} {rows:List (List PV)} {tx:TypeId} {sz:Nat} (hx:opd s x=some p) (hp:eK p=some rows) (hk:cG tt tx=true) (hl:∀r∈rows,r.length=sz) (h1:∀r∈rows,r.all PV.one=true):afZ P s tx x sz rows.length rows.length rows:=by
 intro w g v hm hv
 obtain ⟨news,hs,hr⟩:=aaY htt hm hp (hv p hx) hk hl h1
 exact ⟨news,⟨hs.len w,hs.cells,hs.newsLen,hs.one⟩,hr⟩
theorem azJ {s:St} {x:Operand} {id sz off m n:Nat} {T tx:TypeId} {rows:List (List PV)} (hx:opd s x=some (.vec id sz off m)) (hst:s.st id=some (.arr T rows)\/s.st id=some (.full T rows)) (h0:0<rows.length) (hT:P.cellsOf T=sz) (hn:n<=m) (h1:∀r∈(rows.drop off).take n,r.all PV.one=true):afZ P s tx x sz m n ((rows.drop off).take n):=by
 intro w g v hm hv
 obtain ⟨b,cap,vs,sp,t1,t2,t3,t4,t5,t6,t7,t8,_⟩:=jC hm hst h0
 obtain ⟨rfl,hb,_⟩:=iW (hv _ hx) t1 t2
 rw [hT] at t5 t6
 obtain ⟨p1,p2⟩:=uV (off:=off) (len:=n) t6 t7 (by omega)
 refine ⟨_,⟨rfl,run_firstCells_some w sz n ⟨b,off*sz,none⟩ m (cap-off) _ p2 (λj u hj=> ?_),p2,p1.ones (by
  rw [zal]
  intro c hc
  obtain ⟨r,hr,hc⟩:=List.mem_flatten.1 hc
  exact zal.1 (h1 r hr) c hc)⟩,p1⟩
 rw [cE,cD t4,List.getElem?_toArray]
 have hj2:=hj
 rw [List.getElem?_take] at hj2
 split at hj2
 ·rw [List.getElem?_drop] at hj2
  rw [List.getElem?_append_left (zge.1 hj2).1];exact hj2
 ·cases hj2
def bE (rows:List (List PV)) (off:Nat) (new:List (List PV)):List (List PV):=rows.take off++new++rows.drop (off+new.length)
theorem fD {rows:List (List PV)} {off:Nat} {new:List (List PV)} (h:off+new.length<=rows.length):(bE rows off new).length=rows.length:=by
 unfold bE
 simp only [zla,zlt,zld];omega
theorem aeZ {st:aD} {w:World} {g:G} (hm:MemOK P st w g) {id sz off:Nat} {T:TypeId} {rows new:List (List PV)} {news:List Value} (hst:st id=some (.arr T rows)) (hT:P.cellsOf T=sz) (h0:0<rows.length) (hoff:off+new.length<=rows.length) (hl:∀r∈new,r.length=sz) (hn:news.length=new.length*sz) (hr:RepL g new.flatten news) {b cap:Nat} {vs sp:List Value}
  (t1:g.io id=some (b,rows.length,cap)) (t2:cap≠0) (t3:rows.length<=cap) (t4:w.heap[b]?=some (.cells (vs++sp).toArray T (0,0))) (t5:(vs++sp).length=cap*sz) (t6:∀r∈rows,r.length=sz) (t7:RepL g rows.flatten vs) (t8:g.fr b=0):
  ∃g',MemOK P (upd st id (some (.arr T (bE rows off new)))) (w.setRow b ((vs++sp).toArray.toList.take (off*sz)++news++(vs++sp).toArray.toList.drop (off*sz+news.length)).toArray) g'/\Le g g'/\Frame (Blocks st g) w g (w.setRow b ((vs++sp).toArray.toList.take (off*sz)++news++(vs++sp).toArray.toList.drop (off*sz+news.length)).toArray) g'/\(∀b',Blocks (upd st id (some (.arr T (bE rows off new)))) g' b'->Blocks st g b'\/w.heap.size<=b'):=by
 have hvl:=t7.length
 rw [eC t6] at hvl
 have hfit:off*sz+news.length<=vs.length:=by rw [hn,<-Nat.add_mul,hvl];exact Nat.mul_le_mul_right _ hoff
 refine rY hm (by rw [hst];simp) t1 t2 t4 t8 λg' i1 i2 i3 hle=> ?_
 have hpl:=fD hoff
 simp only [ObjOK]
 refine ⟨b,cap,by rw [hpl,i1];exact t1, .inr ⟨t2,vs.take (off*sz)++news++vs.drop (off*sz+news.length),sp,by rw [hpl];exact t3, ?_, ?_,λr hr=> ?_, ?_,by rw [i2];exact t8⟩⟩
 ·rw [i3]
  congr 2
  simp only [List.toList_toArray]
  rw [List.take_append_of_le_length (by omega),List.drop_append_of_le_length (by omega)]
  simp
 ·rw [hT,<-t5]
  simp only [zla,zlt,zld];omega
 ·rw [hT]
  unfold bE at hr
  rcases zma.1 hr with h|h
  ·rcases zma.1 h with h|h
   ·exact t6 r (List.mem_of_mem_take h)
   ·exact hl r h
  ·exact t6 r (List.mem_of_mem_drop h)
 ·unfold bE
  rw [List.flatten_append,List.flatten_append]
  have e1:rows.flatten=(rows.take off).flatten++(rows.drop off).flatten:=by rw [<-List.flatten_append,List.take_append_drop]
  have e2:rows.flatten=(rows.take (off+new.length)).flatten++(rows.drop (off+new.length)).flatten:=by rw [<-List.flatten_append,List.take_append_drop]
  have l1:(rows.take off).flatten.length=off*sz:=by rw [eC λr hr=>t6 r (List.mem_of_mem_take hr),zlt];congr 1;omega
  have l2:(rows.take (off+new.length)).flatten.length=off*sz+news.length:=by rw [eC λr hr=>t6 r (List.mem_of_mem_take hr),zlt,hn,<-Nat.add_mul];congr 1;omega
  have a1:RepL g (rows.take off).flatten (vs.take (off*sz)):=by
   have h:=t7.take (off*sz)
   rw [e1,List.take_append_of_le_length (by omega),ztl (by omega)] at h;exact h
  have a2:RepL g (rows.drop (off+new.length)).flatten (vs.drop (off*sz+news.length)):=by
   have h:=t7.drop (off*sz+news.length)
   rw [e2,List.drop_append_of_le_length (by omega),List.drop_of_length_le (by omega)] at h;exact h
  exact ((RepL.mono hle _ _ a1).append (RepL.mono hle _ _ hr)).append (RepL.mono hle _ _ a2)
theorem avF {dst:Option Nat} {ty:TypeId} {pos:String} {after:Array Edge} {s:St} {T T2 e:TypeId} {x y:Operand} {id sz off len m n:Nat} {rows new:List (List PV)} (htt:bC P tt) (hx:opd s x=some (.vec id sz off len)) (hk:tiK tt T=some (.slice e)) (hs:aO tt e=some sz) (hst:s.st id=some (.arr e rows)) (h0:0<rows.length) (hsrc:afZ P s T2 y sz m n new) (hnew:new.length=n) (hl:∀r∈new,r.length=sz) (hmn:n=min m len) (hsz:0<sz):
  OpZ P ⟨dst, .call ⟨.builtin .copy, #[x,y], #[T,T2]⟩,ty,pos,after,none⟩ s λz=>z=(upd s.st id (some (.arr e (bE rows off new))), .val (.int .i64 (n:Nat))):=by
 intro w g ρ hm hρ
 have rx:=hρ x (by simp [Op.operands,Call.operands]) _ hx
 obtain ⟨news,⟨s1,s2,s3,s4⟩,hr⟩:=hsrc w g (ρ y) hm λp hp=>hρ y (by simp [Op.operands,Call.operands]) _ hp
 obtain ⟨b,cap,vs,sp,t1,t2,t3,t4,t5,t6,t7,t8,_⟩:=jC hm (.inl hst) h0
 obtain ⟨ex,hb,_⟩:=iW rx t1 t2
 obtain ⟨k1,k2⟩:=aN htt hs
 rw [k2] at t5 t6
 have hu:=bP (aP htt hk).1
 subst hnew
 have hvl:=t7.length
 rw [eC t6] at hvl
 have hfit:off*sz+news.length<=vs.length:=by rw [s3,<-Nat.add_mul,hvl];exact Nat.mul_le_mul_right _ (by omega)
 obtain ⟨g',m1,m2,m3,m4⟩:=aeZ (off:=off) (new:=new) hm hst k2 h0 (by omega) hl s3 hr t1 t2 t3 t4 t5 t6 t7 t8
 have hst2:=run_storeCells_at (P:=P) b (off*sz) e news 0 (vs++sp).toArray w t4 (by simp only [List.size_toArray,zla];omega) s4
 simp only [Nat.add_zero] at hst2
 have hrun:(execOp ρ (⟨dst, .call ⟨.builtin .copy, #[x,y], #[T,T2]⟩,ty,pos,after,none⟩:Oper)).run P w= .ok (.value (.int .i64 ((new.length:Nat):Int))) (w.setRow b ((vs++sp).toArray.toList.take (off*sz)++news++(vs++sp).toArray.toList.drop (off*sz+news.length)).toArray):=bO rfl (by
  have hmin:Nat.min m len=new.length:=hmn.symm
  simp only [builtin,Builtin.copy_,List.map_toArray,zmp,List.map_nil,List.getElem?_toArray,List.getElem?_cons_zero,List.getElem?_cons_succ,ex,Sem.run_bind,Sem.run_pure,Result.andThen_ok,run_underlying hu,s1,hmin,aX k1,s2,hst2,goInt])
 rw [hrun]
 exact ⟨g',_,rfl,by simp [Rep],m1,m2,m3,m4⟩
end
section
variable {P:Program} {tt:TT} {l:List Oper} {d:Md} {r:List Oper} {s:St} {K:St->Prop} {t:Nat} {op:Op} {ty:TypeId} {pos:String} {after:Array Edge} {gd:Option (Nat×Bool)}
theorem aB1 (pk:Pk P tt) {T e T2:TypeId} {x:Operand} {id sz off len:Nat} {rows:List (List PV)} (hx:opd s x=some (.vec id sz off len)) (hk:tiK tt T=some (.slice e)) (hf:bK s [x]=true) (hd:Nat.blt t s.n=true) (hst:s.st id=some (.arr T2 rows)\/s.st id=some (.full T2 rows)) (h0:0<rows.length) (ht:hY d l r=true)
  (k:∀c:Nat,rows.length-off<=c->(s.st id=some (.full T2 rows)->c=rows.length-off)->Ev P l d r ((s.sst s.st).pv t (.val (.int .i64 (c:Nat)))) K):Ev P l d (⟨some t, .call ⟨.builtin .cap, #[x], #[T]⟩,ty,pos,after,none⟩::r) s K:=by
 refine dD (azI pk.htt hx hk hst h0) (λz hz=>aR (λ_ _ _ e=>by cases e) hz) hf hd ht λz hz=> ?_
 obtain ⟨c,h1,h2,rfl⟩:=hz
 exact k c h1 h2
theorem akQ (pk:Pk P tt) {T T2 e:TypeId} {x y:Operand} {dst:Option Nat} {id sz off len m n:Nat} {rows new:List (List PV)} (hx:opd s x=some (.vec id sz off len)) (hk:tiK tt T=some (.slice e)) (hs:aO tt e=some sz) (hf:bK s [x,y]=true) (hd:fG ⟨dst, .call ⟨.builtin .copy, #[x,y], #[T,T2]⟩,ty,pos,after,none⟩ s=true) (hst:s.st id=some (.arr e rows)) (h0:0<rows.length) (hsrc:afZ P s T2 y sz m n new) (hnew:new.length=n) (hl:∀r∈new,r.length=sz) (hmn:n=min m len) (hsz:0<sz) (ht:hY d l r=true)
  (k:Ev P l d r ((s.sst (upd s.st id (some (.arr e (bE rows off new))))).put dst true (.pv (.val (.int .i64 (n:Nat))))) K):Ev P l d (⟨dst, .call ⟨.builtin .copy, #[x,y], #[T,T2]⟩,ty,pos,after,none⟩::r) s K:=by
 refine dD (avF pk.htt hx hk hs hst h0 hsrc hnew hl hmn hsz) (λz hz=>aR (λ_ _ _ e=>by cases e) hz) hf hd ht λz hz=> ?_
 subst hz
 exact k
end
end
section
section
variable {P:Program} {tt:TT}
theorem asD (htt:bC P tt) {o:Oper} {s:St} {T e T2 j sz id len:Nat} {x:Operand} {hi:Option Operand} {rows:List (List PV)} (ho:o.op= .slice T x none hi none) (hx:opd s x=some (.vec id sz 0 len)) (hk:tiK tt T=some (.slice e)) (hs:aO tt e=some sz) (hst:s.st id=some (.arr T2 rows)\/s.st id=some (.full T2 rows)) (h0:0<rows.length) (hhi:bnd s hi len j) (hj:j<=rows.length):
  OpV P o s (.vec id sz 0 j):=by
 refine aM λw g ρ hm hρ=> ?_
 have rx:=hρ x (by rw [ho];simp [Op.operands]) _ hx
 have hb:∀y,(none:Option Operand)=some y\/hi=some y->fP g s y (ρ y):=λy hy=>hρ y (by rw [ho];rcases hy with h|rfl<;>simp_all [Op.operands])
 obtain ⟨b,cap,vs,sp,t1,t2,t3,_⟩:=jC hm hst h0
 obtain ⟨ex,h1,h2⟩:=iW rx t1 t2
 have hu:=bP (aP htt hk).1
 have hrun:=fZ (P:=P) (w:=w) (sl:=true) (len:=len) (cap:=cap-0) (lo:=none) (i:=0) rfl hhi hb (Nat.zero_le j) (by omega)
 simp only [Option.map_none] at hrun
 refine ⟨.slice (if cap-0=0 then some ⟨b,0*sz,none⟩ else (some (⟨b,0*sz,none⟩:Addr)).map (·.add (0*sz))) (j-0) (cap-0-0), ?_, ?_⟩
 ·simp only [execOp,ho,Instr.sliceAt,Instr.slice,ex,Sem.run_bind,Sem.run_pure,Result.andThen_ok,run_underlying hu,aX (aN htt hs).1,Option.map_none,hrun]
 ·rw [zn (by omega)]
  unfold Rep
  exact ⟨b,rows.length,cap,t1,by omega,t3,h2, .inr ⟨t2,by simp [cE]⟩⟩
theorem agJ (htt:bC P tt) {dst:Option Nat} {ty:TypeId} {pos:String} {after:Array Edge} {s:St} {T T2 e:TypeId} {x y:Operand} {id i sz m:Nat} {rows:List (List PV)} {kq kn:IntKind} (B:Nat) (hx:opd s x=some (.vec id sz 0 i)) (hy:opd s y=some (.val (.int kq (m:Nat)))) (hk:tiK tt T=some (.slice e)) (hk2:P.underlying T2=some (.int kn)) (hs:aO tt e=some sz) (hz:(tiZ tt e).map List.length=some sz)
  (hst:s.st id=some (.full e rows)) (h0:0<rows.length) (hi:i<=rows.length) (hgr:rows.length<i+m) (hB:P.bytesOf e=B) (hb:(i+m)*B<=140737488355328) (h62:i+m<2^62) (hsz0:0<sz):
  OpZ P ⟨dst, .call ⟨.builtin .append, #[x,y], #[T,T2]⟩,ty,pos,after,none⟩ s λz=>∃id',s.st id'=none/\z=(upd s.st id' (some (.arr e (rows.take i++bM m sz))), .vec id' sz 0 (i+m)):=by
 intro w g ρ hm hρ
 have rx:=hρ x (by simp [Op.operands,Call.operands]) _ hx
 have ry:=aK (hρ y (by simp [Op.operands,Call.operands]) _ hy)
 have hu:=bP (aP htt hk).1
 obtain ⟨k1,k2⟩:=aN htt hs
 obtain ⟨b,cap,vs,sp,t1,t2,t3,t4,t5,t6,t7,t8,t9⟩:=jC hm (.inr hst) h0
 have hcap:=t9 hst
 subst hcap
 obtain ⟨ex,_,_⟩:=iW rx t1 t2
 rw [k2] at t5 t6
 cases hii:P.info? e with
 |none=>rw [hii] at k1;cases k1
 |some ii=>
  have hsz:ii.size=sz:=by rw [hii] at k1;simpa using k1
  have hby:ii.bytes=B:=by rw [<-hB];simp [Program.bytesOf,hii]
  subst hsz;subst hby
  have hvl:=t7.length
  rw [eC t6] at hvl
  cases hz':tiZ tt e with
  |none=>rw [hz'] at hz;cases hz
  |some zl=>
   rw [hz'] at hz
   simp only [Option.map_some,Option.some.injEq] at hz
   obtain ⟨z,z1,z2⟩:=jO htt hz'
   have hiz:ii.zero=some z:=by rw [hii] at z1;simpa using z1
   have hzs:z.cells.size=ii.size:=by rw [<-hz,<-z2];simp
   have hfit:=growslice_fits hgr hb
   obtain ⟨p1,p2⟩:=uV (off:=0) (len:=i) t6 t7 (by omega)
   rw [Nat.zero_mul,List.drop_zero,List.drop_zero] at p1
   rw [Nat.zero_mul,List.drop_zero] at p2
   have hold:=run_firstCells_some (P:=P) w.drew ii.size i ⟨b,0,none⟩ i rows.length (vs.take (i*ii.size)) p2 (λj u hj=>by
    rw [cE,Nat.zero_add,cD (w:=w.drew) (c:=(vs++sp).toArray) t4]
    simp only [List.getElem?_toArray]
    have hj2:=hj
    rw [List.getElem?_take] at hj2
    split at hj2
    ·rw [List.getElem?_append_left (zge.1 hj2).1];exact hj2
    ·cases hj2)
   have hmb:m*ii.bytes<=(i+m)*ii.bytes:=Nat.mul_le_mul_right _ (by omega)
   have hrun0:=Go.Lib.run_append_grow_zeros w T T2 ty e ii z kq kn hu hk2 hii hiz (some ⟨b,0,none⟩) i rows.length (vs.take (i*ii.size)) hold m (by omega) hsz0 hgr (by omega) (by omega) hfit
   let nc:=grownCap w (i+m) rows.length e
   have hnc:i+m<=nc:=by show _<=grownCap _ _ _ _;simp only [grownCap,Question.cut];omega
   have hlen:(Builtin.zeroCells z.cells (nc-(i+m))).size=(nc-(i+m))*ii.size:=by rw [size_zeroCells,hzs]
   have hq:(Builtin.zeroCells z.cells (nc-(i+m))).toList.length=(nc-(i+m))*ii.size:=by rw [<-hlen];exact Array.length_toList
   have hq2:(Builtin.zeroCells z.cells m).toList.length=m*ii.size:=by rw [Array.length_toList,size_zeroCells,hzs]
   have htl:(rows.take i++bM m ii.size).length=i+m:=by rw [zla,zlt];unfold bM;rw [List.length_replicate];omega
   obtain ⟨id',g',f1,f2,f3,m1,m2,m3,m4⟩:=lI (w0:=w.drew) (o:= .cells ((vs.take (i*ii.size)).toArray++Builtin.zeroCells z.cells m++Builtin.zeroCells z.cells (nc-(i+m))) e) (n:=i+m) (cap:=nc) (o':= .arr e (rows.take i++bM m ii.size)) hm (by omega) ⟨rfl,rfl,⟨rfl,Nat.le_succ _⟩,rfl⟩ (λg' id hle i1 i2 i3 _=>by
    simp only [ObjOK]
    refine ⟨w.heap.size,nc,by rw [htl];exact i1, .inr ⟨by omega,vs.take (i*ii.size)++(Builtin.zeroCells z.cells m).toList,(Builtin.zeroCells z.cells (nc-(i+m))).toList,by rw [htl];exact hnc, ?_, ?_,λr hr=> ?_, ?_,i3⟩⟩
    ·rw [i2];congr 2;apply Array.toList_inj.1;simp
    ·rw [zla,zla,p2,hq2,hq,k2,<-Nat.add_mul,<-Nat.add_mul];congr 1;omega
    ·rw [k2]
     rcases zma.1 hr with h|h
     ·exact t6 r (List.mem_of_mem_take h)
     ·unfold bM at h;rw [List.eq_of_mem_replicate h,List.length_replicate]
    ·rw [List.flatten_append,jV,<-hq2];exact (RepL.mono hle _ _ p1).append (kD _))
   have hrun:(execOp ρ (⟨dst, .call ⟨.builtin .append, #[x,y], #[T,T2]⟩,ty,pos,after,none⟩:Oper)).run P w=_:=bO rfl (by
    simp only [builtin,List.map_toArray,zmp,List.map_nil]
    rw [ex,ry,Nat.zero_mul,Nat.sub_zero]
    simp only [Sem.run_bind,hrun0,Result.andThen_ok,Sem.run_pure];rfl)
   rw [hrun]
   refine ⟨g',_,⟨id',f2,rfl⟩, ?_,m1,m2,m3,m4⟩
   simp only [Rep]
   exact ⟨_,_,_,f3,by omega,hnc,h62, .inr ⟨by omega,by simp [nc]⟩⟩
theorem aoU (htt:bC P tt) {dst:Option Nat} {ty:TypeId} {pos:String} {after:Array Edge} {s:St} {T e:TypeId} {x:Operand} {id sz off len:Nat} {rows:List (List PV)} {zl:List Value} (hx:opd s x=some (.vec id sz off len)) (hk:tiK tt T=some (.slice e)) (hs:aO tt e=some sz) (hz:tiZ tt e=some zl) (hzl:zl.length=sz) (h1:zl.all (·.oneCell')=true)
  (hst:s.st id=some (.arr e rows)) (h0:0<rows.length) (hl:0<len) (hfit:off+len<=rows.length):
  OpZ P ⟨dst, .call ⟨.builtin .clear, #[x], #[T]⟩,ty,pos,after,none⟩ s λz=>z=(upd s.st id (some (.arr e (bE rows off (bM len sz)))), .und):=by
 intro w g ρ hm hρ
 have rx:=hρ x (by simp [Op.operands,Call.operands]) _ hx
 obtain ⟨b,cap,vs,sp,t1,t2,t3,t4,t5,t6,t7,t8,_⟩:=jC hm (.inl hst) h0
 obtain ⟨ex,hb,_⟩:=iW rx t1 t2
 obtain ⟨k1,k2⟩:=aN htt hs
 rw [k2] at t5 t6
 have hu:=bP (aP htt hk).1
 obtain ⟨z,z1,z2⟩:=jO htt hz
 have hzs:z.cells.size=sz:=by rw [<-hzl,<-z2];simp
 let news:=(Builtin.zeroCells z.cells len).toList
 have hnl:news.length=len*sz:=by show (Builtin.zeroCells z.cells len).toList.length=_;rw [Array.length_toList,size_zeroCells,hzs]
 have hjl:(bM len sz).length=len:=by unfold bM;rw [List.length_replicate]
 have hone:∀v∈news,v.oneCell'=true:=λv hv=>by
  have hv':v∈(Builtin.zeroCells z.cells len):=Array.mem_toList_iff.1 hv
  simp only [Builtin.zeroCells,Array.mem_map,Array.mem_range] at hv'
  obtain ⟨i,hi,rfl⟩:=hv'
  have hpos:0<z.cells.size:=by
   rcases Nat.eq_zero_or_pos z.cells.size with h|h
   ·rw [h] at hi;omega
   ·exact h
  have hlt:i%z.cells.size<z.cells.size:=Nat.mod_lt _ hpos
  rw [getElem!_pos z.cells _ hlt]
  exact zal.1 h1 _ (by rw [<-z2];exact Array.mem_toList_iff.2 (Array.getElem_mem hlt))
 have hvl:=t7.length
 rw [eC t6] at hvl
 have hfit2:off*sz+news.length<=vs.length:=by rw [hnl,<-Nat.add_mul,hvl];exact Nat.mul_le_mul_right _ hfit
 obtain ⟨g',m1,m2,m3,m4⟩:=aeZ (off:=off) (new:=bM len sz) (news:=news) hm hst k2 h0 (by rw [hjl];exact hfit) (λr hr=>by unfold bM at hr;rw [List.eq_of_mem_replicate hr,List.length_replicate]) (by rw [hjl];exact hnl) (by rw [jV,<-hnl];exact kD news) t1 t2 t3 t4 t5 t6 t7 t8
 have hst2:=run_storeCells_at (P:=P) b (off*sz) e news 0 (vs++sp).toArray w t4 (by simp only [List.size_toArray,zla];omega) hone
 simp only [Nat.add_zero] at hst2
 obtain ⟨len',rfl⟩:∃k,len=k+1:=⟨len-1,by omega⟩
 have hrun:(execOp ρ (⟨dst, .call ⟨.builtin .clear, #[x], #[T]⟩,ty,pos,after,none⟩:Oper)).run P w= .ok (.value (.tuple #[])) (w.setRow b ((vs++sp).toArray.toList.take (off*sz)++news++(vs++sp).toArray.toList.drop (off*sz+news.length)).toArray):=bO rfl (by
  simp only [builtin,Builtin.clear_,List.map_toArray,zmp,List.map_nil,List.getElem?_toArray,List.getElem?_cons_zero,ex,Sem.run_bind,Sem.run_pure,Result.andThen_ok,run_underlying hu,bU z1,hst2,news])
 rw [hrun]
 exact ⟨g',_,rfl,by unfold Rep;trivial,m1,m2,m3,m4⟩
theorem sE (w:World) (tS tR e:TypeId) (ht:P.underlying tS=some (.slice e)) (size:Nat) (hz:∀w,(Go.sizeOf e).run P w= .ok size w)
    (a b:Addr) (la ca lb cb:Nat) (hne:a.block≠b.block) (tA tB:TypeId) (kA kB:Nat)
    (hsa:w.shape? a.block=some (tA,kA)) (hsb:w.shape? b.block=some (tB,kB)) (hkA:kA≠0) (hkB:kB≠0)
    (hfb:w.frozen? b=false) (hfe:w.frozen? {block:=b.block,off:=kB}=false):
    (Extern.SlicesOverlaps.overlaps #[tS,tS] #[tR] #[.slice (some a) la ca, .slice (some b) lb cb]).run P w= .ok (.bool false) w:=by
  have hnb:(a.block !=b.block)=true:=by simpa using hne
  have hnb':(a.block==b.block)=false:=by simpa using hne
  change Sem.run P (α:=Value) (do
    let some t := (#[tS, tS] : Array TypeId)[0]? | stuck "slices.overlaps: no parameter types"
    let .slice elem <- underlying t | stuck "slices.overlaps: slice type expected"
    let size <-sizeOf elem
    match (some a:Option Addr),(some b:Option Addr) with
    |some a,some b=>
      if la=0\/lb=0\/size=0 then pure (Value.bool false)
      else if a.block !=b.block&&(<-frozen a)&&(<-frozen b) then unsupported .addressObserved
      else do
        if a.block !=b.block then do
          noView a;noView b
          if <- mayBeOne a b then return Value.bool ((<- choose (.extern "sameAddr.stringBytes" 2)) == 1)
        pure (Value.bool (a.block==b.block&&a.off<b.off+lb*size&&b.off<a.off+la*size))
    |_,_=>pure (Value.bool false)) w=_
  by_cases h0:la=0\/lb=0\/size=0
  · simp [run_underlying ht,hz,h0]
  · cases kB with
    |zero=>exact absurd rfl hkB
    |succ kB=>
      cases kA with
      |zero=>exact absurd rfl hkA
      |succ kA=>
      cases h1:w.frozen? a<;>cases h2:w.frozen? {block:=a.block,off:=kA+1}<;>
        simp [run_underlying ht,hz,h0,hnb,hnb',frozen,noView,viewAt,mayBeOne,stringish,shape,Sem.run,hsa,hsb,hfb,hfe,h1,h2]
theorem awW (htt : bC P tt) {o : Oper} {s : St} {fo x y : Operand} {ts : Array TypeId} {fid : FuncId} {fn : Func} {tS tR e T2 : TypeId} {sz id off len : Nat} {rows rs : List (List PV)} {c : PV} {cs : List PV} {rest : List (List PV)} (ho : o.op = .call ⟨.value fo, #[x, y], ts⟩) (hf : opd s fo = some (.fn fid [])) (hfn : P.funcs[fid]? = some fn) (hn : (fn.name == "runtime.NumGoroutine") = false) (hb : fn.body.isNone = true) (hnx : Extern.findNext fn = none) (he : Extern.find fn = some (Extern.SlicesOverlaps.overlaps #[tS, tS] #[tR]))
    (hk:tiK tt tS=some (.slice e)) (hs:aO tt e=some sz) (hx:opd s x=some (.seq rs)) (hrs:rs=(c::cs)::rest) (hy:opd s y=some (.vec id sz off len)) (hst:s.st id=some (.arr T2 rows)\/s.st id=some (.full T2 rows)) (h0:0<rows.length) (hT:P.cellsOf T2=sz) (hsz:0<sz):
    OpV P o s (.val (.bool false)):=by
  subst hrs
  refine aM λw g ρ hm hρ=> ?_
  have rf:=hρ fo (by rw [ho];simp [Op.operands,Call.operands]) _ hf
  have rx:=hρ x (by rw [ho];simp [Op.operands,Call.operands]) _ hx
  have ry:=hρ y (by rw [ho];simp [Op.operands,Call.operands]) _ hy
  simp only [Rep] at rf
  obtain ⟨vs0,ef,rf⟩:=rf
  simp only [RepL] at rf
  subst rf
  obtain ⟨b,cap,vs,sp,t1,t2,t3,t4,t5,t6,t7,t8,t9⟩:=jC hm hst h0
  obtain ⟨ey,_,_⟩:=iW ry t1 t2
  simp only [Rep] at rx
  obtain ⟨a,cap2,ex,_,_,h4⟩:=rx
  rcases h4 with h4|⟨b2,off2,sz2,ha,hR⟩
  · cases h4
  · subst ha
    simp only [RepR,RepA] at hR
    obtain ⟨_,⟨⟨v,hv,hlt,_⟩,_⟩,_⟩:=hR
    have hne:b2≠b:=λe=>by rw [e,t8] at hlt;omega
    rw [hm.heap] at hv
    have hA:∃tA kA,w.shape? b2=some (tA,kA)/\kA≠0:=by
      unfold aS at hv
      unfold World.shape?
      split at hv
      · rename_i c0 T0 f0 hc
        refine ⟨T0,c0.size,by rw [hc],λe=> ?_⟩
        rw [Array.getElem?_eq_none (by omega)] at hv;cases hv
      · cases hv
    obtain ⟨tA,kA,hsa,hka⟩:=hA
    have hsb:w.shape? b=some (T2,(vs++sp).toArray.size):=by unfold World.shape?;rw [t4]
    have hkb:(vs++sp).toArray.size≠0:=by
      rw [List.size_toArray,t5,hT]
      exact Nat.mul_ne_zero t2 (by omega)
    have hfr:∀o,w.frozen? ⟨b,o,none⟩=false:=λo=>by unfold World.frozen?;simp only [t4];simp
    have hu:=bP (aP htt hk).1
    have hov:=sE (P:=P) w tS tR e hu sz (λw=>aX (aN htt hs).1) ⟨b2,off2,none⟩ ⟨b,off*sz,none⟩ ((c::cs)::rest).length cap2 len (cap-off) hne tA T2 kA _ hsa hsb hka hkb (hfr _) (hfr _)
    refine ⟨.bool false, ?_,by simp [Rep]⟩
    have hcf:=run_callFunc_extern (P:=P) hfn hn hb hnx he #[ρ x,ρ y] w
    rw [ex,ey,hov] at hcf
    simp only [execOp,ho,resolve,ef,Deferred.ofValue,Sem.run_bind,Sem.run_pure,Result.andThen_ok,invoke,List.map_toArray,zmp,List.map_nil]
    simpa [ex,ey] using hcf
theorem SI.cut {c:Ctx} {s:St} {a:Act} {w:World} {g:G} {lam:Nat->Nat} (hs:SI P c s a w g lam) (u k:Nat) {id sz:Nat} {T:TypeId} {rows:List (List PV)} (hx:s.env u=(true, .pv (.vec id sz 0 k))) (hst:s.st id=some (.arr T rows)\/s.st id=some (.full T rows)) (hT:P.cellsOf T=sz) (hk:k<=rows.length) (h0:0<rows.length):
  ∃id' g',s.st id'=none/\SI P c ((s.sst (upd (upd s.st id none) id' (some (.arr T (rows.take k))))).pv u (.vec id' sz 0 k)) a w g' lam:=by
 obtain ⟨id',g',h2,h3,h4,h5,h6,h7⟩:=ayU hs.mem hst hT hk h0
 have hs':=hs.step h3 h4 h5 h6
 refine ⟨id',g',h2, ?_⟩
 refine ⟨hs'.mem,hs'.le,hs'.frame,hs'.blk,λt=> ?_,hs'.box,hs'.inj,λt b v off e=> ?_,hs'.adL,hs'.defers,hs'.n,hs'.top⟩
 ·show EntOK g' lam (upd s.env u _ t) _
  by_cases ht:t=u
  ·subst ht
   rw [aA]
   have:=hs.env t
   rw [hx] at this
   simp only [EntOK] at this⊢
   exact h7 _ this
  ·rw [aC ht];exact hs'.env t
 ·have e':upd s.env u (true, .pv (.vec id' sz 0 k)) t=(b, .adr v off):=e
  by_cases ht:t=u
  ·rw [ht,aA] at e';cases e'
  ·rw [aC ht] at e';exact hs.ad t b v off e'
theorem alV {cd:Code} {Q:Exit->St->Prop} {s:St} (u k:Nat) {id sz:Nat} {T:TypeId} {rows:List (List PV)} (hx:s.env u=(true, .pv (.vec id sz 0 k))) (hst:s.st id=some (.arr T rows)\/s.st id=some (.full T rows)) (hT:P.cellsOf T=sz) (hk:k<=rows.length) (h0:0<rows.length)
  (kk:∀id',s.st id'=none->PWp P cd Q ((s.sst (upd (upd s.st id none) id' (some (.arr T (rows.take k))))).pv u (.vec id' sz 0 k))):PWp P cd Q s:=by
 intro c a w g lam hs
 obtain ⟨id',g',h2,h3⟩:=hs.cut u k hx hst hT hk h0
 exact kk id' h2 c a w g' lam h3
end
section
variable {P:Program} {tt:TT} {l:List Oper} {d:Md} {r:List Oper} {s:St} {K:St->Prop} {t:Nat} {op:Op} {ty:TypeId} {pos:String} {after:Array Edge} {gd:Option (Nat×Bool)}
theorem aAt (pk:Pk P tt) {T e T2 j sz id len:Nat} {x:Operand} {hi:Option Operand} {w:Bool} {rows:List (List PV)} (hw:bF l ⟨some t, .slice T x none hi none,ty,pos,after,gd⟩ s=some w) (hx:opd s x=some (.vec id sz 0 len)) (hk:tiK tt T=some (.slice e)) (hs:aO tt e=some sz) (hf:All (flagsI s w (opl (.slice T x none hi none)) [])) (hd:Nat.blt t s.n=true) (ht:tT d l r=true)
  (hst:s.st id=some (.arr T2 rows)\/s.st id=some (.full T2 rows)) (h0:0<rows.length) (hhi:bnd s hi len j) (hj:j<=rows.length)
  (k:Ev P l d r (s.put (some t) w (.pv (.vec id sz 0 j))) K):Ev P l d (⟨some t, .slice T x none hi none,ty,pos,after,gd⟩::r) s K:=
 oT hw (λ_=>asD pk.htt rfl hx hk hs hst h0 hhi hj) (λz hz=>aR (λ_ _ _ e=>by cases e) hz) (flagsI.g hf).1 hd ht k
theorem apZ (pk:Pk P tt) {T T2 e:TypeId} {x y:Operand} {id i sz m:Nat} {kq kn:IntKind} {rows:List (List PV)} (B:Nat) (hx:opd s x=some (.vec id sz 0 i)) (hy:opd s y=some (.val (.int kq (m:Nat)))) (hk:tiK tt T=some (.slice e)) (hk2:P.underlying T2=some (.int kn)) (hs:aO tt e=some sz) (hz:(tiZ tt e).map List.length=some sz) (hf:bK s [x,y]=true) (hd:Nat.blt t s.n=true)
  (hst:s.st id=some (.full e rows)) (h0:0<rows.length) (hi:i<=rows.length) (hgr:rows.length<i+m) (hB:P.bytesOf e=B) (hb:(i+m)*B<=140737488355328) (h62:i+m<2^62) (hsz0:0<sz) (ht:hY d l r=true)
  (k:∀id',s.st id'=none->Ev P l d r ((s.sst (upd s.st id' (some (.arr e (rows.take i++bM m sz))))).pv t (.vec id' sz 0 (i+m))) K):Ev P l d (⟨some t, .call ⟨.builtin .append, #[x,y], #[T,T2]⟩,ty,pos,after,none⟩::r) s K:=by
 refine dD (agJ pk.htt B hx hy hk hk2 hs hz hst h0 hi hgr hB hb h62 hsz0) (λz hz=>aR (λ_ _ _ e=>by cases e) hz) hf hd ht λz hz=> ?_
 obtain ⟨id',h,rfl⟩:=hz
 exact k id' h
theorem aiH (pk:Pk P tt) {T e:TypeId} {x:Operand} {dst:Option Nat} {id sz off len:Nat} {rows:List (List PV)} {zl:List Value} (hx:opd s x=some (.vec id sz off len)) (hk:tiK tt T=some (.slice e)) (hs:aO tt e=some sz) (hz:tiZ tt e=some zl) (hzl:zl.length=sz) (h1:zl.all (·.oneCell')=true) (hf:bK s [x]=true) (hd:fG ⟨dst, .call ⟨.builtin .clear, #[x], #[T]⟩,ty,pos,after,none⟩ s=true)
  (hst:s.st id=some (.arr e rows)) (h0:0<rows.length) (hl:0<len) (hfit:off+len<=rows.length) (ht:hY d l r=true)
  (k:Ev P l d r ((s.sst (upd s.st id (some (.arr e (bE rows off (bM len sz)))))).put dst true (.pv .und)) K):Ev P l d (⟨dst, .call ⟨.builtin .clear, #[x], #[T]⟩,ty,pos,after,none⟩::r) s K:=by
 refine dD (aoU pk.htt hx hk hs hz hzl h1 hst h0 hl hfit) (λz hz=>aR (λ_ _ _ e=>by cases e) hz) hf hd ht λz hz=> ?_
 subst hz
 exact k
theorem ovA (pk : Pk P tt) {fo x y : Operand} {ts : Array TypeId} {fid : FuncId} {fn : Func} {tS tR e T2 : TypeId} {sz id off len : Nat} {w : Bool} {rows rs : List (List PV)} {c : PV} {cs : List PV} {rest : List (List PV)} (hw : bF l ⟨some t, .call ⟨.value fo, #[x, y], ts⟩, ty, pos, after, gd⟩ s = some w) (hf : opd s fo = some (.fn fid [])) (hfn : P.funcs[fid]? = some fn) (hn : (fn.name == "runtime.NumGoroutine") = false) (hb : fn.body.isNone = true) (hnx : Extern.findNext fn = none) (he : Extern.find fn = some (Extern.SlicesOverlaps.overlaps #[tS, tS] #[tR]))
    (hk:tiK tt tS=some (.slice e)) (hs:aO tt e=some sz) (hx:opd s x=some (.seq rs)) (hrs:rs=(c::cs)::rest) (hy:opd s y=some (.vec id sz off len)) (hst:s.st id=some (.arr T2 rows)\/s.st id=some (.full T2 rows)) (h0:0<rows.length) (hT:P.cellsOf T2=sz) (hsz:0<sz) (hfl:All (flagsI s w (opl (.call ⟨.value fo, #[x,y],ts⟩)) [])) (hd:Nat.blt t s.n=true) (ht:tT d l r=true)
    (k:Ev P l d r (s.put (some t) w (.pv (.val (.bool false)))) K):Ev P l d (⟨some t, .call ⟨.value fo, #[x,y],ts⟩,ty,pos,after,gd⟩::r) s K:=
  oT hw (λ_=>awW pk.htt rfl hf hfn hn hb hnx he hk hs hx hrs hy hst h0 hT hsz) (λz hz=>aR (λ_ _ _ e=>by cases e) hz) (flagsI.g hfl).1 hd ht k
end
theorem auN {rows new:List (List PV)} {i m sz:Nat} (hm:new.length=m) (hi:i<=rows.length):bE (bE (rows++bM m sz) (i+m) (rows.drop i)) i new=rows.take i++new++rows.drop i:=by
 have hj:(bM m sz).length=m:=by unfold bM;rw [List.length_replicate]
 have h1:bE (rows++bM m sz) (i+m) (rows.drop i)=(rows++bM m sz).take (i+m)++rows.drop i:=by
  unfold bE
  rw [List.drop_of_length_le (l:=rows++bM m sz) (by rw [zla,hj,zld];omega),List.append_nil]
 have hl:((rows++bM m sz).take (i+m)).length=i+m:=by rw [zlt,zla,hj];omega
 rw [h1]
 unfold bE
 rw [List.take_append_of_le_length (by omega),List.take_take,Nat.min_eq_left (by omega),List.take_append_of_le_length hi,List.drop_append,hl,hm]
 rw [List.drop_of_length_le (by omega),Nat.sub_self,List.drop_zero,List.nil_append]
theorem asI {rows new:List (List PV)} {i m sz:Nat} (hm:new.length=m) (hi:i<=rows.length):bE (bE (rows.take i++bM (rows.length+m-i) sz) i new) (i+m) (rows.drop i)=rows.take i++new++rows.drop i:=by
 have hj:(bM (rows.length+m-i) sz).length=rows.length+m-i:=by unfold bM;rw [List.length_replicate]
 have ht:(rows.take i).length=i:=by rw [zlt];omega
 have h1:(bE (rows.take i++bM (rows.length+m-i) sz) i new).take (i+m)=rows.take i++new:=by
  unfold bE
  have e1:(rows.take i++bM (rows.length+m-i) sz).take i=rows.take i:=List.take_left' ht
  rw [e1]
  exact List.take_left' (by rw [zla,ht,hm])
 have hl:(bE (rows.take i++bM (rows.length+m-i) sz) i new).length=rows.length+m:=by
  rw [fD (by rw [zla,ht,hj];omega),zla,ht,hj];omega
 generalize bE (rows.take i++bM (rows.length+m-i) sz) i new=Z at h1 hl
 unfold bE
 rw [h1,List.drop_of_length_le (l:=Z) (by rw [zld];omega),List.append_nil]
end
section
section
variable {P:Program} {tt:TT}
theorem alF {g:G} {id sz off len:Nat} {x:Value} (hx:Rep g (.vec id sz off len) x):∃a cap,x= .slice a len cap/\len<=cap/\(0<off+len->∃b n c,g.io id=some (b,n,c)/\off+len<=n/\n<=c/\n<2^62/\c≠0/\a=some ⟨b,off*sz,none⟩/\cap=c-off):=by
 simp only [Rep] at hx
 obtain ⟨b,n,c,e1,e2,e3,e4,e5⟩:=hx
 rcases e5 with ⟨h,a,e5⟩|⟨h,e5⟩
 ·have:len=0:=by omega
  subst this
  exact ⟨a,0,e5,Nat.le_refl _,λh0=>by omega⟩
 ·exact ⟨_,_,e5,by omega,λ_=>⟨b,n,c,e1,e2,e3,e4,h,rfl,rfl⟩⟩
theorem amL (htt:bC P tt) {o:Oper} {s:St} {T e i j sz id off len:Nat} {x:Operand} {lo hi:Option Operand} (ho:o.op= .slice T x lo hi none) (hx:opd s x=some (.vec id sz off len)) (hk:tiK tt T=some (.slice e)) (hs:aO tt e=some sz) (hlo:bnd s lo 0 i) (hhi:bnd s hi len j) (hij:i<j\/i=0/\off=0/\0<len) (hj:j<=len):
  OpV P o s (.vec id sz (off+i) (j-i)):=by
 refine aM λw g ρ hm hρ=> ?_
 have rx:=hρ x (by rw [ho];simp [Op.operands]) _ hx
 have hb:∀y,lo=some y\/hi=some y->fP g s y (ρ y):=λy hy=>hρ y (by rw [ho];rcases hy with rfl|rfl<;>simp [Op.operands])
 obtain ⟨a,cap,ex,hc,hrest⟩:=alF rx
 obtain ⟨b,n,c,t1,t2,t3,t4,t5,rfl,rfl⟩:=hrest (by omega)
 have hu:=bP (aP htt hk).1
 have hrun:=fZ (P:=P) (w:=w) (sl:=true) (len:=len) (cap:=c-off) hlo hhi hb (by omega) (by omega)
 refine ⟨.slice (if c-off=i then some ⟨b,off*sz,none⟩ else (some (⟨b,off*sz,none⟩:Addr)).map (·.add (i*sz))) (j-i) (c-off-i), ?_, ?_⟩
 ·simp only [execOp,ho,Instr.sliceAt,Instr.slice,ex,Sem.run_bind,Sem.run_pure,Result.andThen_ok,run_underlying hu,aX (aN htt hs).1,Option.map_none,hrun]
 ·rw [zn (by omega)]
  unfold Rep
  exact ⟨b,n,c,t1,by omega,t3,t4, .inr ⟨t5,by simp [cE,Nat.add_mul,Nat.sub_sub]⟩⟩
theorem yR (htt:bC P tt) {o:Oper} {s:St} {T e i j sz id off len:Nat} {x:Operand} {lo hi:Option Operand} (ho:o.op= .slice T x lo hi none) (hx:opd s x=some (.vec id sz off len)) (hk:tiK tt T=some (.slice e)) (hs:aO tt e=some sz) (hlo:bnd s lo 0 i) (hhi:bnd s hi len j) (hij:i<=j) (hj:j<=len):
  OpV P o s .und/\(i=j->OpV P o s (.seq [])):=by
 have key:∀w g ρ,(∀x∈o.op.operands,fP g s x (ρ x))->∃a c,(execOp ρ o).run P w= .ok (.value (.slice a (j-i) c)) w:=λw g ρ hρ=>by
  have rx:=hρ x (by rw [ho];simp [Op.operands]) _ hx
  have hb:∀y,lo=some y\/hi=some y->fP g s y (ρ y):=λy hy=>hρ y (by rw [ho];rcases hy with rfl|rfl<;>simp [Op.operands])
  obtain ⟨a,cap,ex,hc,_⟩:=alF rx
  have hu:=bP (aP htt hk).1
  have hrun:=fZ (P:=P) (w:=w) (sl:=true) (len:=len) (cap:=cap) hlo hhi hb hij (by omega)
  exact ⟨if cap=i then a else a.map (·.add (i*sz)),cap-i,by simp only [execOp,ho,Instr.sliceAt,Instr.slice,ex,Sem.run_bind,Sem.run_pure,Result.andThen_ok,run_underlying hu,aX (aN htt hs).1,Option.map_none,hrun]⟩
 refine ⟨aM λw g ρ hm hρ=> ?_,λh=>aM λw g ρ hm hρ=> ?_⟩
 ·obtain ⟨a,c,h⟩:=key w g ρ hρ
  exact ⟨_,h,by unfold Rep;trivial⟩
 ·obtain ⟨a,c,hr⟩:=key w g ρ hρ
  subst h
  refine ⟨_,hr, ?_⟩
  unfold Rep
  exact ⟨a,c,by rw [Nat.sub_self];rfl,by simp,by simp, .inl rfl⟩
end
section
variable {P:Program} {tt:TT} {l:List Oper} {d:Md} {r:List Oper} {s:St} {K:St->Prop} {t:Nat} {op:Op} {ty:TypeId} {pos:String} {after:Array Edge} {gd:Option (Nat×Bool)}
theorem aAv (pk:Pk P tt) (i j:Nat) {T e sz id off len:Nat} {x:Operand} {lo hi:Option Operand} {w:Bool} (hw:bF l ⟨some t, .slice T x lo hi none,ty,pos,after,gd⟩ s=some w) (hx:opd s x=some (.vec id sz off len)) (hk:tiK tt T=some (.slice e)) (hs:aO tt e=some sz) (hf:All (flagsI s w (opl (.slice T x lo hi none)) [])) (hd:Nat.blt t s.n=true)
  (hlo:w=true->bnd s lo 0 i) (hhi:w=true->bnd s hi len j) (hij:w=true->(i<j\/i=0/\off=0/\0<len)) (hj:w=true->j<=len) (ht:cI d l r=true)
  (k:Ev P l d r (s.put (some t) w (.pv (.vec id sz (off+i) (j-i)))) K):Ev P l d (⟨some t, .slice T x lo hi none,ty,pos,after,gd⟩::r) s K:=
 cN hw (λhw' st'=>amL (s:=s.sst st') pk.htt rfl ((cA x).trans hx) hk hs (gG (hlo hw')) (gG (hhi hw')) (hij hw') (hj hw')) (λz hz=>aR (λ_ _ _ e=>by cases e) hz) (flagsI.g hf).1 hd ht k
theorem aCG (pk:Pk P tt) (i j:Nat) {T e sz id off len:Nat} {x:Operand} {lo hi:Option Operand} {w:Bool} (hw:bF l ⟨some t, .slice T x lo hi none,ty,pos,after,gd⟩ s=some w) (hx:opd s x=some (.vec id sz off len)) (hk:tiK tt T=some (.slice e)) (hs:aO tt e=some sz) (hf:All (flagsI s w (opl (.slice T x lo hi none)) [])) (hd:Nat.blt t s.n=true)
  (hlo:w=true->bnd s lo 0 i) (hhi:w=true->bnd s hi len j) (hij:w=true->i<=j) (hj:w=true->j<=len) (ht:cI d l r=true)
  (k:Ev P l d r (s.put (some t) w (.pv .und)) K):Ev P l d (⟨some t, .slice T x lo hi none,ty,pos,after,gd⟩::r) s K:=
 cN hw (λhw' st'=>(yR (s:=s.sst st') pk.htt rfl ((cA x).trans hx) hk hs (gG (hlo hw')) (gG (hhi hw')) (hij hw') (hj hw')).1) (λz hz=>aR (λ_ _ _ e=>by cases e) hz) (flagsI.g hf).1 hd ht k
theorem aCH (pk:Pk P tt) (i:Nat) {T e sz id off len:Nat} {x:Operand} {lo hi:Option Operand} {w:Bool} (hw:bF l ⟨some t, .slice T x lo hi none,ty,pos,after,gd⟩ s=some w) (hx:opd s x=some (.vec id sz off len)) (hk:tiK tt T=some (.slice e)) (hs:aO tt e=some sz) (hf:All (flagsI s w (opl (.slice T x lo hi none)) [])) (hd:Nat.blt t s.n=true)
  (hlo:w=true->bnd s lo 0 i) (hhi:w=true->bnd s hi len i) (hj:w=true->i<=len) (ht:cI d l r=true)
  (k:Ev P l d r (s.put (some t) w (.pv (.seq []))) K):Ev P l d (⟨some t, .slice T x lo hi none,ty,pos,after,gd⟩::r) s K:=
 cN hw (λhw' st'=>(yR (s:=s.sst st') pk.htt rfl ((cA x).trans hx) hk hs (gG (hlo hw')) (gG (hhi hw')) (Nat.le_refl i) (hj hw')).2 rfl) (λz hz=>aR (λ_ _ _ e=>by cases e) hz) (flagsI.g hf).1 hd ht k
theorem afO (pk:Pk P tt) (j:Nat) {T e sz id len:Nat} {x:Operand} {hi:Option Operand} {w:Bool} (hw:bF l ⟨some t, .slice T x none hi none,ty,pos,after,gd⟩ s=some w) (hx:opd s x=some (.vec id sz 0 len)) (hk:tiK tt T=some (.slice e)) (hs:aO tt e=some sz) (hf:All (flagsI s w (opl (.slice T x none hi none)) [])) (hd:Nat.blt t s.n=true)
  (hhi:w=true->bnd s hi len j) (h0:w=true->0<len) (hj:w=true->j<=len) (ht:cI d l r=true)
  (k:Ev P l d r (s.put (some t) w (.pv (.vec id sz 0 j))) K):Ev P l d (⟨some t, .slice T x none hi none,ty,pos,after,gd⟩::r) s K:=
 aAv pk 0 j hw hx hk hs hf hd (λ_=>rfl) hhi (λh=> .inr ⟨rfl,rfl,h0 h⟩) hj ht k
theorem gW (pk:Pk P tt) (i:Nat) {T e sz id off len:Nat} {x:Operand} {lo hi:Option Operand} {w:Bool} (hw:bF l ⟨some t, .slice T x lo hi none,ty,pos,after,gd⟩ s=some w) (hx:opd s x=some (.vec id sz off len)) (hk:tiK tt T=some (.slice e)) (hs:aO tt e=some sz) (hf:All (flagsI s w (opl (.slice T x lo hi none)) [])) (hd:Nat.blt t s.n=true)
  (hlo:w=true->∃j,bnd s lo 0 j/\j=i) (hhi:w=true->∃j,bnd s hi len j/\j=i) (hj:w=true->i<=len) (ht:cI d l r=true)
  (k:Ev P l d r (s.put (some t) w (.pv (.seq []))) K):Ev P l d (⟨some t, .slice T x lo hi none,ty,pos,after,gd⟩::r) s K:=
 aCH pk i hw hx hk hs hf hd (λh=>by obtain ⟨j,h1,rfl⟩:=hlo h;exact h1) (λh=>by obtain ⟨j,h1,rfl⟩:=hhi h;exact h1) hj ht k
theorem lT (pk:Pk P tt) (i c:Nat) {T e sz id len:Nat} {x:Operand} {lo hi:Option Operand} {w:Bool} (hw:bF l ⟨some t, .slice T x lo hi none,ty,pos,after,gd⟩ s=some w) (hx:opd s x=some (.vec id sz 0 len)) (hk:tiK tt T=some (.slice e)) (hs:aO tt e=some sz) (hf:All (flagsI s w (opl (.slice T x lo hi none)) [])) (hd:Nat.blt t s.n=true)
  (hlo:w=true->∃j,bnd s lo 0 j/\j=i) (hhi:w=true->∃j,bnd s hi len j/\j=i+c) (hij:w=true->0<c) (hj:w=true->i+c<=len) (ht:cI d l r=true)
  (k:Ev P l d r (s.put (some t) w (.pv (.vec id sz i c))) K):Ev P l d (⟨some t, .slice T x lo hi none,ty,pos,after,gd⟩::r) s K:=
 aAv pk i (i+c) hw hx hk hs hf hd (λh=>by obtain ⟨j,h1,rfl⟩:=hlo h;exact h1) (λh=>by obtain ⟨j,h1,rfl⟩:=hhi h;exact h1) (λh=> .inl (by have:=hij h;omega)) hj ht (by rw [Nat.zero_add,Nat.add_sub_cancel_left];exact k)
end
theorem alY {P:Program} {s:St} {x:Operand} {id sz n i k m:Nat} {T tx:TypeId} {X:List (List PV)} (hx:opd s x=some (.vec id sz i m)) (hst:s.st id=some (.arr T (X++bM k sz))\/s.st id=some (.full T (X++bM k sz))) (hX:X.length=n) (h0:0<n) (hT:P.cellsOf T=sz) (h1:∀r∈X,r.all PV.one=true) (hi:i<=n) (hm:n-i<=m):afZ P s tx x sz m (n-i) (X.drop i):=by
 have e:((X++bM k sz).drop i).take (n-i)=X.drop i:=by
  rw [List.drop_append_of_le_length (by omega)]
  exact List.take_left' (by rw [zld,hX])
 have:=azJ (tx:=tx) hx hst (by rw [zla];omega) hT hm (by rw [e];exact λr hr=>h1 r (List.mem_of_mem_drop hr))
 rw [e] at this
 exact this
theorem agW {st:aD} {id id1:Nat} {o1 o2:Option AObj} {a b:AObj} (h:b=a):StSub (upd (upd st id none) id1 (some a)) (upd (upd (upd (upd st id none) id1 o1) id1 o2) id1 (some b)):=λj=>by
 subst h
 right
 by_cases e:j=id1
 ·subst e;rw [aA,aA]
 ·simp only [aC e]
theorem ahA {st:aD} {id id1 id2:Nat} {o1 o2 o3:Option AObj} {a b:AObj} (h:b=a) (h1:st id1=none):StSub (upd (upd st id none) id2 (some a)) (upd (upd (upd (upd (upd st id none) id1 o1) id2 o2) id2 o3) id2 (some b)):=λj=>by
 subst h
 by_cases e:j=id2
 ·subst e;right;rw [aA,aA]
 ·simp only [aC e]
  by_cases e1:j=id1
  ·subst e1
   left
   by_cases e2:j=id
   ·subst e2;rw [aA]
   ·rw [aC e2];exact h1
  ·right;rw [aC e1]
theorem afP {st:aD} {id id2:Nat} (h:st id2=none):upd st id none id2=none:=by
 by_cases e:id2=id
 ·subst e;rw [aA]
 ·rwa [aC e]
theorem agI {st:aD} {id id1 id2:Nat} {o:AObj} (h:upd (upd st id none) id1 (some o) id2=none):upd st id none id2=none:=by
 by_cases e:id2=id1
 ·subst e;rw [aA] at h;cases h
 ·rwa [aC e] at h
def LV (T sz:Nat) (st:aD) (rows:List (List PV)) (p:PV) (S:aD):Prop:=∃id,p= .vec id sz 0 rows.length/\st id=none/\S=upd st id (some (.arr T rows))
theorem aBd {P:Program} {f:FuncId} {args:List PV} {st:aD} {T sz:Nat} {rows:List (List PV)} (h:PC P f args st (LR T sz st rows)):PC P f args st (LV T sz st rows):=
 have hk:=aCe h
 ⟨hk.1,λw g vs hm hv=>(hk.2 w g vs hm hv).mono λe w' ⟨v,r,st',g',h1,h2,h3,h4,h5,h6,h7⟩=>by
  rcases h2 with ⟨id,k1,k2,k3⟩|⟨k1,k2,k3⟩
  ·exact ⟨v,r,st',g',h1,⟨id,k1,k3,k2⟩,h3,h4,h5,h6,h7⟩
  ·subst k1;subst k2;subst k3
   obtain ⟨id,g2,m1,m2,m3,m4,m5,m6,m7⟩:=mO h4 T
   simp only [Rep] at h3
   obtain ⟨a,rfl⟩:=h3
   exact ⟨_, .vec id sz 0 0,_,g2,h1,⟨id,rfl,m2,rfl⟩,m3 sz a,m4,h5.trans m5,h6.trans m6 (λb hb hB=>by rcases h7 b hB with q|q;exact q;omega),λb hb=>by
    rcases m7 b hb with q|q
    ·exact h7 b q
    ·exact .inr (Nat.le_trans h6.size q)⟩⟩
end
section
section
variable {P:Program} {tt:TT} {l:List Oper} {d:Md} {r:List Oper} {s:St} {K:St->Prop} {t:Nat} {op:Op} {ty:TypeId} {pos:String} {after:Array Edge} {gd:Option (Nat×Bool)}
theorem RepA.part {g:G} {b:Nat}:∀{cs:List PV} {off:Nat} (i:Nat) {p:PV},RepA g b off cs->cs[i]?=some p->RepA g b (off+i) [p]
 |[],_,_,_,_,e=>by simp at e
 |c::cs,off,0,p,h,e=>by
  simp at e;subst e
  simp only [RepA] at h⊢
  exact ⟨h.1,trivial⟩
 |c::cs,off,i+1,p,h,e=>by
  simp at e
  simp only [RepA] at h
  have:=RepA.part i h.2 e
  rwa [show off+1+i=off+(i+1) from by omega] at this
theorem asV {o:Oper} {x1 x2 x3 x4 x5:Operand} {ts:Array TypeId} {k:IntKind} {a1 a2 a3 a4 a5:Int} (ho:o.op= .call ⟨.builtin .max, #[x1,x2,x3,x4,x5],ts⟩) (h1:opd s x1=some (.val (.int k a1))) (h2:opd s x2=some (.val (.int k a2))) (h3:opd s x3=some (.val (.int k a3))) (h4:opd s x4=some (.val (.int k a4))) (h5:opd s x5=some (.val (.int k a5))):OpV P o s (.val (.int k (max (max (max (max a1 a2) a3) a4) a5))):=by
 refine aM λw g ρ hm hρ=> ?_
 have e1:=aK (hρ x1 (by rw [ho];simp [Op.operands,Call.operands]) _ h1)
 have e2:=aK (hρ x2 (by rw [ho];simp [Op.operands,Call.operands]) _ h2)
 have e3:=aK (hρ x3 (by rw [ho];simp [Op.operands,Call.operands]) _ h3)
 have e4:=aK (hρ x4 (by rw [ho];simp [Op.operands,Call.operands]) _ h4)
 have e5:=aK (hρ x5 (by rw [ho];simp [Op.operands,Call.operands]) _ h5)
 refine ⟨.int k (max (max (max (max a1 a2) a3) a4) a5),bO ho ?_,by simp [Rep]⟩
 simp only [List.map_toArray,zmp,List.map_nil,builtin,Builtin.max_,e1,e2,e3,e4,e5]
 have hm:∀x y:Int,(if y>x then y else x)=max x y:=λx y=>by omega
 simp [Builtin.max2,hm]
theorem aDo {x1 x2 x3 x4 x5:Operand} {ts:Array TypeId} {k:IntKind} {a1 a2 a3 a4 a5:Int} {w:Bool} (hw:bF l ⟨some t, .call ⟨.builtin .max, #[x1,x2,x3,x4,x5],ts⟩,ty,pos,after,gd⟩ s=some w) (h1:opd s x1=some (.val (.int k a1))) (h2:opd s x2=some (.val (.int k a2))) (h3:opd s x3=some (.val (.int k a3))) (h4:opd s x4=some (.val (.int k a4))) (h5:opd s x5=some (.val (.int k a5)))
  (hfl:All (flagsI s w (opl (.call ⟨.builtin .max, #[x1,x2,x3,x4,x5],ts⟩)) [])) (hd:Nat.blt t s.n=true) (ht:cI d l r=true)
  (kk:Ev P l d r (s.put (some t) w (.pv (.val (.int k (max (max (max (max a1 a2) a3) a4) a5))))) K):Ev P l d (⟨some t, .call ⟨.builtin .max, #[x1,x2,x3,x4,x5],ts⟩,ty,pos,after,gd⟩::r) s K:=
 cN hw (λ_ st'=>asV (s:=s.sst st') rfl ((cA x1).trans h1) ((cA x2).trans h2) ((cA x3).trans h3) ((cA x4).trans h4) ((cA x5).trans h5)) (λz hz=>aR (λ_ _ _ e=>by cases e) hz) (flagsI.g hfl).1 hd ht kk
theorem agT {o : Oper} {fo x y : Operand} {ts : Array TypeId} {fid : FuncId} {fn : Func} {b : ByteArray} {c : Int} (ho : o.op = .call ⟨.value fo, #[x, y], ts⟩) (hf : opd s fo = some (.fn fid [])) (hfn : P.funcs[fid]? = some fn) (hn : (fn.name == "runtime.NumGoroutine") = false) (hb : fn.body.isNone = true) (hnx : Extern.findNext fn = none) (he : Extern.find fn = some Extern.BytealgIndexByte.indexByte)
    (hx:opd s x=some (.val (.string b))) (hy:opd s y=some (.val (.int .u8 c))):OpV P o s (.val (.int .i64 (firstIdx b c.toNat.toUInt8))):=by
  refine aM λw g ρ hm hρ=> ?_
  have rf:=hρ fo (by rw [ho];simp [Op.operands,Call.operands]) _ hf
  have ex:=aK (hρ x (by rw [ho];simp [Op.operands,Call.operands]) _ hx)
  have ey:=aK (hρ y (by rw [ho];simp [Op.operands,Call.operands]) _ hy)
  simp only [Rep] at rf
  obtain ⟨vs0,ef,rf⟩:=rf
  simp only [RepL] at rf
  subst rf
  refine ⟨.int .i64 (firstIdx b c.toNat.toUInt8), ?_,by simp [Rep]⟩
  have hcf:=run_callFunc_extern (P:=P) hfn hn hb hnx he #[ρ x,ρ y] w
  rw [ex,ey,run_indexByte_string] at hcf
  simp only [execOp,ho,resolve,ef,Deferred.ofValue,Sem.run_bind,Sem.run_pure,Result.andThen_ok,invoke,List.map_toArray,zmp,List.map_nil]
  simpa [ex,ey] using hcf
theorem aBr (pk : Pk P tt) {fo x y : Operand} {ts : Array TypeId} {fid : FuncId} {fn : Func} {b : ByteArray} {c : Int} {w : Bool} (hw : bF l ⟨some t, .call ⟨.value fo, #[x, y], ts⟩, ty, pos, after, gd⟩ s = some w) (hf : opd s fo = some (.fn fid [])) (hfn : P.funcs[fid]? = some fn) (hn : (fn.name == "runtime.NumGoroutine") = false) (hb : fn.body.isNone = true) (hnx : Extern.findNext fn = none) (he : Extern.find fn = some Extern.BytealgIndexByte.indexByte)
    (hx:opd s x=some (.val (.string b))) (hy:opd s y=some (.val (.int .u8 c))) (hfl:All (flagsI s w (opl (.call ⟨.value fo, #[x,y],ts⟩)) [])) (hd:Nat.blt t s.n=true) (ht:cI d l r=true)
    (k:Ev P l d r (s.put (some t) w (.pv (.val (.int .i64 (firstIdx b c.toNat.toUInt8))))) K):Ev P l d (⟨some t, .call ⟨.value fo, #[x,y],ts⟩,ty,pos,after,gd⟩::r) s K:=
  cN hw (λ_ st'=>agT (s:=s.sst st') rfl ((cA fo).trans hf) hfn hn hb hnx he ((cA x).trans hx) ((cA y).trans hy)) (λz hz=>aR (λ_ _ _ e=>by cases e) hz) (flagsI.g hfl).1 hd ht k
end
theorem fC {P:Program} {b:Go.Frame} {a:Act} {k:List Item} {cs:List Go.Frame} {w:World} {c:Code}:step P (lone (b.atR a (.code (.scope c)::k)) cs w)= .next (lone (b.atR a (.code c:: .inScope c::k)) cs w):=
 step_lone_go (by simp [stepG,stepG.exec,Frame.atR])
theorem xW {P:Program} {b:Go.Frame} {a:Act} {k:List Item} {cs:List Go.Frame} {w:World} {c:Code}:step P (lone (b.atR a (.inScope c::k)) cs w)= .next (lone (b.atR a k) cs w):=
 step_lone_go (by simp [stepG,stepG.exec,Frame.atR])
theorem ahH {F:Fence} {n:Nat} {P:Program} {Q:Exit->Act->World->Prop} {a:Act} {w:World} {c:Code} (hQ:∀l a w,Q (.goto l) a w->False) (h:c.wpIn F n P Q a w):(Code.scope c).wpIn F n P Q a w:=by
 intro b k cs hro hb hr
 have h0:(lone (b.atR a (.code (.scope c)::k)) cs w).fenced P F:=fenced_calm hb hr rfl
 obtain ⟨e,a₁,w₁,hq,harr⟩:=h b (.inScope c::k) cs hro hb hr
 cases e with
 |normal=>exact ⟨.normal,a₁,w₁,hq,(StepsIn.head h0 fC harr).trans (.one (fenced_calm hb hr rfl) xW)⟩
 |exit id=>exact ⟨.exit id,a₁,w₁,hq,λk' hk=> .head h0 fC (harr.1 k' (by simp [exitTo,hk])),λhr' hk=>let ⟨k₁,h1,h2⟩:=harr.2 hr' (by simp [exitTo,hk]);⟨k₁,h1, .head h0 fC h2⟩⟩
 |goto l=>exact (hQ _ _ _ hq).elim
 |ret=>exact ⟨_,a₁,w₁,hq, .of_steps (.one h0 fC) harr⟩
 |panic ch=>exact ⟨_,a₁,w₁,hq, .of_steps (.one h0 fC) harr⟩
 |outgrown=>exact ⟨_,a₁,w₁,hq, .of_steps (.one h0 fC) harr⟩
theorem yV {P:Program} {s:St} {Q:Exit->St->Prop} {c:Code} (hQ:∀l s,Q (.goto l) s->False) (h:PWp P c Q s):PWp P (.scope c) Q s:=λc' a w g lam hs=>
 ahH (λ_ _ _ ⟨_,_,_,q,_⟩=>hQ _ _ q) (h c' a w g lam hs)
theorem aoQ {P:Program} {s:St} {Q:Exit->St->Prop} {l:Nat} (h:Q .normal s):PWp P (.label l) Q s:=λ_ _ _ g lam hs=>wpIn_label ⟨s,g,lam,h,hs⟩
theorem aA1 {P:Program} {f:FuncId} (hc:eD P f=true) {x y v:Value} (h:∀w,Calls P f #[x,y] w λe w'=>e= .returned v/\(w'=w\/∃o1 o2 q,w'=((w.alloc o1).alloc o2).drewN q)):PF P f [.val x, .val y] (.val v):=by
 refine λst=>⟨hc,λw g vs hm hr=> ?_⟩
 simp only [RepL,Rep] at hr
 obtain ⟨_,_,rfl,rfl,_,_,rfl,rfl,rfl⟩:=hr
 refine (h w).mono ?_
 rintro e w' ⟨rfl,rfl|⟨o1,o2,q,rfl⟩⟩
 ·exact ⟨v, .val v,st,g,rfl,⟨rfl,rfl⟩,by simp [Rep],hm,Le.refl g,Frame.refl _ _ _,λb hb=> .inl hb⟩
 ·obtain ⟨m1,l1,f1⟩:=iQ hm o1
  obtain ⟨m2,l2,f2⟩:=iQ m1 o2
  obtain ⟨m3,f3⟩:=mQ m2 (((w.alloc o1).alloc o2).drawn+q) (Nat.le_add_right _ _)
  refine ⟨v, .val v,st,_,rfl,⟨rfl,rfl⟩,by simp [Rep],m3,l1.trans l2,((f1.trans f2 (λ_ _ h=>h)).trans f3 (λ_ _ h=>h)).mono (λ_ h=>h.elim),λb hb=> .inl ?_⟩
  obtain ⟨id,h1,h2⟩:=hb
  exact ⟨id,h1,h2⟩
end
section
theorem SI.wkVar {P:Program} {c:Ctx} {s:St} {a:Act} {w:World} {g:G} {lam:Nat->Nat} (hs:SI P c s a w g lam) (u:Nat) {T:TypeId} {cs cs':List PV} (hL:s.L u=some (T,cs)) (hr:∀vs,RepL g cs vs->RepL g cs' vs):SI P c (s.setv u T cs') a w g lam where
 mem:=hs.mem
 le:=hs.le
 frame:=hs.frame
 blk:=hs.blk
 env:=hs.env
 box t T' cs'' e:=by
  have e':upd s.L u (some (T,cs')) t=some (T',cs''):=e
  by_cases ht:t=u
  ·subst ht
   rw [aA] at e'
   injection e' with e'
   injection e' with e1 e2
   subst e1;subst e2
   obtain ⟨vs,j1,j2,j3⟩:=hs.box t T cs hL
   exact ⟨vs,j1,hr _ j2,j3⟩
  ·rw [aC ht] at e'
   exact hs.box t T' cs'' e'
 inj t t' e e' hl:=by
  have e1:upd s.L u (some (T,cs')) t≠none:=e
  have e2:upd s.L u (some (T,cs')) t'≠none:=e'
  refine hs.inj t t' ?_ ?_ hl
  ·by_cases ht:t=u
   ·rw [ht,hL];simp
   ·rwa [aC ht] at e1
  ·by_cases ht:t'=u
   ·rw [ht,hL];simp
   ·rwa [aC ht] at e2
 ad:=hs.ad
 adL t e:=by
  have e1:upd s.L u (some (T,cs')) t≠none:=e
  by_cases ht:t=u
  ·exact hs.adL t (by rw [ht,hL];simp)
  ·exact hs.adL t (by rwa [aC ht] at e1)
 defers:=hs.defers
 n:=hs.n
 top:=hs.top
theorem acQ {g:G}:∀(pre:List PV) {post:List PV} {q q':PV} (_:∀v,Rep g q v->Rep g q' v) (vs:List Value),RepL g (pre++q::post) vs->RepL g (pre++q'::post) vs
 |[],_,_,_,h,vs,e=>by
  simp only [List.nil_append,RepL] at e⊢
  obtain ⟨v,vs',e1,e2,e3⟩:=e
  exact ⟨v,vs',e1,h v e2,e3⟩
 |p::pre,_,_,_,h,vs,e=>by
  simp only [List.cons_append,RepL] at e⊢
  obtain ⟨v,vs',e1,e2,e3⟩:=e
  exact ⟨v,vs',e1,e2,acQ pre h _ e3⟩
theorem agL {P:Program} {cd:Code} {Q:Exit->St->Prop} {s:St} (u:Nat) (T sz:Nat) {T':TypeId} {cs:List PV} (pre:List PV) {post:List PV} {q:PV} (hL:s.L u=some (T',cs)) (hc:cs=pre++q::post) (hq:isEmp q=true) (k:∀id,s.st id=none->PWp P cd Q ((s.sst (upd s.st id (some (.arr T [])))).setv u T' (pre++ .vec id sz 0 0::post))):PWp P cd Q s:=by
 intro c a w g lam hs
 obtain ⟨id',g',f1,f2,f3,m1,m2,m3,m4⟩:=mO hs.mem T
 have hstep:=hs.step m1 m2 m3 m4
 subst hc
 exact k id' f2 c a w g' lam (hstep.wkVar u hL (acQ pre λv hv=>by
  obtain ⟨b,rfl⟩:=nI hq hv
  exact f3 sz b))
end
end Go.Abs
