import Derived.Test.YtppdefkgmegipaaGreatDoorAbsC
import Derived.Laws.MakeOwn
set_option linter.unusedSimpArgs false
set_option linter.unusedVariables false
namespace Go.Abs
open Go
section
section
variable {P:Program} {tt:TT}
theorem OpRes.mono {R R':Value->World->Prop} {r:Result Next} (h:OpRes P R r) (hr:∀v w,R v w->R' v w):OpRes P R' r:=by
 cases r with
 |halt x w=>simp [OpRes] at h
 |ok n w=>
  cases n<;>simp only [OpRes] at h⊢
  ·exact hr _ _ h
  ·exact hr _ _ h
  ·exact h.mono λe w' ⟨v,he,hv⟩=>⟨v,he,hr _ _ hv⟩
  ·exact h.mono λe w' ⟨v,he,hv⟩=>⟨v,he,hr _ _ hv⟩
def OpZ (P:Program) (o:Oper) (s:St) (R:aD×PV->Prop):Prop:=
 ∀w g (ρ:Operand->Value),MemOK P s.st w g->(∀x∈o.op.operands,fP g s x (ρ x))->
  OpRes P (λv w'=>∃g' x,R x/\Rep g' x.2 v/\MemOK P x.1 w' g'/\Le g g'/\Frame (Blocks s.st g) w g w' g'/\∀b,Blocks x.1 g' b->Blocks s.st g b\/w.heap.size<=b) ((execOp ρ o).run P w)
theorem aBz {l:List Oper} {o:Oper} {s:St} {R:aD×PV->Prop} (hg:o.guard=none) (hd:fG o s=true) (hf:∀x∈o.op.operands,dJ s x) (h:OpZ P o s R):ZOp P l o s R:=by
 intro s' he hst hn c a w g lam hs K' Q hK
 have hop:∀x∈o.op.operands,opd s' x=opd s x/\(dJ s' x↔dJ s x):=λx hx=>awZ λt ht=>he t (nQ (ht▸hx))
 unfold sQ
 have hw:Region.wanted o (yielded l.toArray a.tmps)=true:=by simp [Region.wanted,hg]
 rw [hw]
 simp only [if_true]
 have h1:=h w g a.eval (hst▸hs.mem) (λx hx p hp=>jR hs ((hop x hx).2.2 (hf x hx)) p (by rw [(hop x hx).1];exact hp))
 refine cK h1 ?_
 rintro v w' ⟨g',x,hR,h3,h4,h5,h6,h7⟩
 refine hK (s'.turn o x) _ w' g' lam ⟨x,hR,rfl⟩ ?_
 exact (hs.step h4 h5 (hst▸h6) (hst▸h7)).put (d:=o.dst) (b:=true) (e:= .pv x.2) (λt ht=>by
  have:=nJ hd t ht
  show t<s'.n
  rw [hn];exact this) h3 (λ_ _ e=>by cases e)
section
variable {l:List Oper} {d:Md} {r:List Oper} {s:St} {K:St->Prop} {t:Nat} {op:Op} {ty:TypeId} {pos:String} {after:Array Edge} {gd:Option (Nat×Bool)}
theorem dD {dst:Option Nat} {R:aD×PV->Prop} (h:OpZ P ⟨dst,op,ty,pos,after,none⟩ s R) (hm:∀x∈op.operands,x∈opl op) (hf:bK s (opl op)=true) (hd:fG ⟨dst,op,ty,pos,after,none⟩ s=true) (ht:hY d l r=true)
  (k:∀x,R x->Ev P l d r ((s.sst x.1).put dst true (.pv x.2)) K):Ev P l d (⟨dst,op,ty,pos,after,none⟩::r) s K:=
 aDb (aBz rfl hd (λx hx=>iR hf x (hm x hx)) h) ht k
theorem oT {w:Bool} {p:PV} (hw:bF l ⟨some t,op,ty,pos,after,gd⟩ s=some w) (hv:w=true->OpV P ⟨some t,op,ty,pos,after,gd⟩ s p) (hm:∀x∈op.operands,x∈opl op) (hf:gF s w (opl op)) (hd:Nat.blt t s.n=true)
  (ht:tT d l r=true) (k:Ev P l d r (s.put (some t) w (.pv p)) K):Ev P l d (⟨some t,op,ty,pos,after,gd⟩::r) s K:=
 arL (.val true w p hw hd (λhw' x hx=>lE hw' hf x (hm x hx)) hv) ht k
end
theorem mJ (htt:bC P tt) {w:World} {g:G} (hh:g.heap=w.heap) {b o:Nat} {T T':TypeId} {cs:List PV} {vs sp:List Value} {fz:Nat×Nat} {p:PV} (hb:g.heap[b]?=some (.cells (vs++sp).toArray T' fz)) (hr:RepL g cs vs) (h:gT tt T cs o=some p):
  ∃v,(loadVar T ⟨b,o,none⟩).run P w= .ok v w/\Rep g p v:=by
 rw [hh] at hb
 have hcell:∀j v,vs[j]?=some v->w.cell? ⟨b,j,none⟩=some v:=λj v hj=>by
  rw [cD hb]
  simp only [List.getElem?_toArray]
  rw [List.getElem?_append_left (zge.1 hj).1];exact hj
 unfold gT at h
 split at h
 ·rename_i n ha hn
  cases hbb:Nat.ble (o+n) cs.length with
  |false=>rw [hbb] at h;simp at h
  |true=>
   rw [hbb] at h
   simp only [zqt,bY] at h
   injection h with h;subst h
   have hc:=Nat.le_of_ble_eq_true hbb
   have hk:=(hr.drop o).take n
   have hlen:=hr.length
   have hl2:((vs.drop o).take n).length=n:=by simp;omega
   have hrun0:=run_loadCells_list (P:=P) (w:=w) ⟨b,o,none⟩ ((vs.drop o).take n) (λj v hj=>by
    have hj2:j<n:=by have:=(zge.1 hj).1;omega
    rw [cE]
    exact hcell _ _ (by simpa [List.getElem?_take,hj2,List.getElem?_drop] using hj))
   rw [hl2] at hrun0
   refine ⟨.agg ((vs.drop o).take n).toArray, ?_,by simp only [Rep];exact ⟨_,rfl,hk⟩⟩
   have hA:=(bV htt ha).1
   simp [loadVar,cT hA (lK hA),aX (aN htt hn).1,hrun0]
 ·rename_i n ha hn
  obtain ⟨v,e1,e2⟩:=hr.get h
  obtain ⟨hA,hu⟩:=bV htt ha
  exact ⟨v,by simp [loadVar,cT hA hu,hcell _ _ e1],e2⟩
 ·cases h
theorem mS {rows:List (List PV)} {sz j:Nat} {row:List PV} (hl:∀r∈rows,r.length=sz) (hr:rows[j]?=some row):(rows.flatten.drop (j*sz)).take sz=row/\(j+1)*sz<=rows.flatten.length:=by
 induction rows generalizing j with
 |nil=>simp at hr
 |cons r rs ih=>
  have hr0:=hl r (by simp)
  cases j with
  |zero=>
   simp at hr;subst hr
   simp [<-hr0]
  |succ j=>
   simp at hr
   obtain ⟨h1,h2⟩:=ih (λr hr=>hl r (by simp [hr])) hr
   have e:(j+1)*sz=r.length+j*sz:=by rw [Nat.add_mul];omega
   refine ⟨?_, ?_⟩
   ·rw [List.flatten_cons,e,List.drop_append,List.drop_eq_nil_of_le (by omega)]
    simpa using h1
   ·rw [List.flatten_cons,zla]
    have e2:(j+1+1)*sz=r.length+(j+1)*sz:=by rw [Nat.add_mul (j+1)];omega
    omega
theorem agR {T:TypeId} {rows:List (List PV)} {sz j off:Nat} {row:List PV} {p:PV} (hl:∀r∈rows,r.length=sz) (hr:rows[j]?=some row) (h:gT tt T row off=some p):gT tt T rows.flatten (j*sz+off)=some p:=by
 obtain ⟨h1,h2⟩:=mS hl hr
 have hrl:row.length=sz:=hl row (List.mem_of_getElem? hr)
 have hsz:(j+1)*sz=j*sz+sz:=by rw [Nat.add_mul];omega
 have hget:∀i,i<sz->rows.flatten[j*sz+i]?=row[i]?:=λi hi=>by
  rw [<-h1,List.getElem?_take,zp hi,List.getElem?_drop]
 unfold gT at h⊢
 split at h
 ·rename_i n ha hn
  cases hbb:Nat.ble (off+n) row.length with
  |false=>rw [hbb] at h;simp at h
  |true=>
   rw [hbb] at h
   simp only [zqt,bY] at h
   have hc:=Nat.le_of_ble_eq_true hbb
   have hb2:Nat.ble (j*sz+off+n) rows.flatten.length=true:=Nat.ble_eq_true_of_le (by omega)
   rw [hb2]
   simp only [zqt,bY]
   rw [<-h]
   congr 2
   unfold bZ
   apply List.ext_getElem?
   intro i
   rw [List.getElem?_take,List.getElem?_take]
   split
   ·rw [List.getElem?_drop,List.getElem?_drop,show j*sz+off+i=j*sz+(off+i) from by omega,hget _ (by omega)]
   ·rfl
 ·have:=(zge.1 h).1
  rw [hget _ (by omega)];exact h
 ·cases h
theorem oQ (htt:bC P tt) {o:Oper} {s:St} {T T':TypeId} {x:Operand} {id sz j off:Nat} {rows:List (List PV)} {row:List PV} {p:PV} (ho:o.op= .load T x) (hx:opd s x=some (.el id sz j off)) (hst:s.st id=some (.arr T' rows)) (hs:aO tt T'=some sz) (hr:rows[j]?=some row) (h:gT tt T row off=some p):OpV P o s p:=by
 refine aM λw g ρ hm hρ=> ?_
 have hx1:=hρ x (by rw [ho];simp [Op.operands]) _ hx
 simp only [Rep] at hx1
 obtain ⟨b,n,cap,hio,hxv⟩:=hx1
 have hob:=hm.obj id _ hst
 simp only [ObjOK] at hob
 obtain ⟨b',cap',h1,⟨_,h0⟩|⟨h2,vs,sp,h3,h4,h5,h6,h7,h8⟩⟩:=hob
 ·rw [h0] at hr;simp at hr
 rw [hio] at h1;injection h1 with h1;injection h1 with h1 h1';subst h1
 have hsz:=(aN htt hs).2
 rw [hsz] at h6
 obtain ⟨v,e1,e2⟩:=mJ htt hm.heap h4 h7 (agR h6 hr h)
 refine ⟨v, ?_,e2⟩
 simp [execOp,ho,Instr.loadAt,Instr.sureAddr,hxv,e1]
theorem tJ (htt:bC P tt) {o:Oper} {s:St} {T T':TypeId} {x:Operand} {id off:Nat} {cs:List PV} {p:PV} (ho:o.op= .load T x) (hx:opd s x=some (.ref id off)) (hst:s.st id=some (.cells T' cs)) (h:gT tt T cs off=some p):OpV P o s p:=by
 refine aM λw g ρ hm hρ=> ?_
 have hx1:=hρ x (by rw [ho];simp [Op.operands]) _ hx
 simp only [Rep] at hx1
 obtain ⟨b,n,cap,hio,hxv⟩:=hx1
 have hob:=hm.obj id _ hst
 simp only [ObjOK] at hob
 obtain ⟨b',n',cap',vs,h1,h2,h3,h4,h5⟩:=hob
 rw [hio] at h1;injection h1 with h1;injection h1 with h1 h1';subst h1
 obtain ⟨v,e1,e2⟩:=mJ htt (sp:=[]) hm.heap (by simpa using h3) h4 h
 refine ⟨v, ?_,e2⟩
 simp [execOp,ho,Instr.loadAt,Instr.sureAddr,hxv,e1]
theorem aqC (w:World) (b:Nat) (xs:Array Value) (cur:Array Value) (T:TypeId) (h:w.heap[b]?=some (.cells cur T (0,0))):w.setRow b xs={w with heap:=w.heap.setIfInBounds b (.cells xs T (0,0))}:=by
 unfold World.setRow
 congr 1
 apply Array.ext_getElem?
 intro i
 rw [Array.getElem?_modify,Array.getElem?_setIfInBounds]
 by_cases hi:b=i
 ·subst hi
  obtain ⟨hl,e⟩:=Array.getElem?_eq_some_iff.1 h
  simp [hl,e]
 ·simp [hi]
theorem rY {st:aD} {w:World} {g:G} (hm:MemOK P st w g) {id b n cap:Nat} {cur xs:Array Value} {T:TypeId} {o':AObj} (hid:st id≠none) (hio:g.io id=some (b,n,cap)) (hc:cap≠0) (hb:w.heap[b]?=some (.cells cur T (0,0))) (hfr:g.fr b=0)
  (ho:∀g':G,g'.io=g.io->g'.fr=g.fr->g'.heap[b]?=some (.cells xs T (0,0))->Le g g'->ObjOK P g' id o'):
  ∃g',MemOK P (upd st id (some o')) (w.setRow b xs) g'/\Le g g'/\Frame (Blocks st g) w g (w.setRow b xs) g'/\(∀b',Blocks (upd st id (some o')) g' b'->Blocks st g b'\/w.heap.size<=b'):=by
 have hlt:=aZ hb
 have hfm:¬g.fm b:=λh=>by
  obtain ⟨e,c,h',_⟩:=hm.fmm b h
  rw [hb] at h';cases h'
 rw [aqC w b xs cur T hb]
 have:=gM (y:= .cells xs T (0,0)) (o':=o') hm hid (by simp [Go.Abs.blk,hio,hc]) hb rfl (λi hi=>by omega) hfm (λhle=>ho _ rfl rfl (by simp [hlt]) hle)
 exact ⟨_,this⟩
theorem abW (htt:bC P tt) {ty:TypeId} {pos:String} {after:Array Edge} {s:St} {T T':TypeId} {x y:Operand} {id off:Nat} {cs cs':List PV} (hx:opd s x=some (.ref id off)) (hst:s.st id=some (.cells T' cs)) (h:iP tt s T y cs off=some cs'):
  OpZ P ⟨none, .store T x y,ty,pos,after,none⟩ s λz=>z=(upd s.st id (some (.cells T' cs')), .und):=by
 intro w g ρ hm hρ
 have hx1:=hρ x (by simp [Op.operands]) _ hx
 simp only [Rep] at hx1
 obtain ⟨b,n,cap,hio,hxv⟩:=hx1
 have hob:=hm.obj id _ hst
 simp only [ObjOK] at hob
 obtain ⟨b',n',cap',vs,h1,h2,h3,h4,h5⟩:=hob
 rw [hio] at h1;injection h1 with h1;injection h1 with h1 h1';injection h1' with h1' h1'';subst h1;subst h1''
 unfold iP at h
 split at h
 ·rename_i ps k hp hk
  obtain ⟨p,e1,e2,rfl⟩:=uJ hp
  cases hb:(Nat.beq p.cells.length k&&Nat.ble (off+k) cs.length) with
  |false=>rw [hb] at h;simp at h
  |true=>
   rw [hb] at h
   simp only [zqt,bY] at h
   injection h with h
   simp only [zba] at hb
   have hk1:=Nat.eq_of_beq_eq_true hb.1
   have hk2:=Nat.le_of_ble_eq_true hb.2
   obtain ⟨m1,m2⟩:=(hρ y (by simp [Op.operands]) p e1).cells e2
   have hlen:=h4.length
   have hlen2:=m1.length
   have hsz:(ρ y).cells.size=k:=by simpa [hk1] using hlen2
   rw [hm.heap] at h3
   have hrun0:=run_storeCells_at P b off T' (ρ y).cells.toList 0 vs w h3 (by simp at hlen hlen2⊢;omega) m2
   simp only [Nat.add_zero] at hrun0
   obtain ⟨g',q1,q2,q3,q4⟩:=rY (xs:=(vs.toList.take off++(ρ y).cells.toList++vs.toList.drop (off+(ρ y).cells.toList.length)).toArray) (o':= .cells T' cs') hm (by rw [hst];simp) hio h2 h3 h5 (λg' i1 i2 i3 hle=>by
    simp only [ObjOK]
    refine ⟨b,n,cap,_,by rw [i1];exact hio,h2,i3, ?_,by rw [i2];exact h5⟩
    rw [<-h,eT cs off p.cells (by omega)]
    have:=((h4.take off).append m1).append (h4.drop (off+p.cells.length))
    rw [hlen2]
    exact RepL.mono hle _ _ this)
   have hrun:(execOp ρ (⟨none, .store T x y,ty,pos,after,none⟩:Oper)).run P w= .ok .skip (w.setRow b (vs.toList.take off++(ρ y).cells.toList++vs.toList.drop (off+(ρ y).cells.toList.length)).toArray):=by
    simp only [execOp,Instr.storeAt,Instr.sureAddr,hxv,storeVar,aX (aN htt hk).1,Sem.run_bind,Sem.run_pure,Result.andThen_ok,hsz,ne_eq,not_true_eq_false,if_false,hrun0]
   rw [hrun]
   exact ⟨g',_,rfl,trivial,q1,q2,q3,q4⟩
 ·cases h
theorem lH :∀(cs:List PV) (off:Nat) (ps:List PV),(fE cs off ps).length=cs.length
 |cs,0,[]=>by simp [fE]
 |[],0,p::ps=>rfl
 |[],n+1,ps=>rfl
 |c::cs,0,p::ps=>by simp [fE,lH cs 0 ps]
 |c::cs,n+1,ps=>by simp [fE,lH cs n ps]
theorem aeE {rows:List (List PV)} {sz j off:Nat} {row ps:List PV} (hl:∀r∈rows,r.length=sz) (hr:rows[j]?=some row) (hc:off+ps.length<=sz):
  (rows.set j (fE row off ps)).flatten=fE rows.flatten (j*sz+off) ps:=by
 induction rows generalizing j with
 |nil=>simp at hr
 |cons r rs ih=>
  have hr0:=hl r (by simp)
  cases j with
  |zero=>
   simp at hr;subst hr
   simp only [List.set_cons_zero,List.flatten_cons,Nat.zero_mul,Nat.zero_add]
   rw [eT r off ps (by omega),eT _ off ps (by rw [zla];omega)]
   rw [List.take_append_of_le_length (by omega),List.drop_append_of_le_length (by omega)]
   simp
  |succ j=>
   simp at hr
   have h1:=ih (λr hr=>hl r (by simp [hr])) hr
   have e:(j+1)*sz+off=r.length+(j*sz+off):=by rw [Nat.add_mul];omega
   obtain ⟨_,h2⟩:=mS (λr hr=>hl r (by simp [hr])) hr
   have h3:(j+1)*sz=j*sz+sz:=by rw [Nat.add_mul];omega
   simp only [List.set_cons_succ,List.flatten_cons]
   rw [h1,e,eT _ _ ps (by omega),eT (r++rs.flatten) _ ps (by rw [zla];omega)]
   rw [List.take_append,List.drop_append]
   have e1:r.length+(j*sz+off)-r.length=j*sz+off:=by omega
   have e2:r.length+(j*sz+off)+ps.length-r.length=j*sz+off+ps.length:=by omega
   rw [e1,e2,ztl (l:=r) (by omega),List.drop_eq_nil_of_le (as:=r) (by omega)]
   simp
theorem tD (htt:bC P tt) {ty:TypeId} {pos:String} {after:Array Edge} {s:St} {T T':TypeId} {x y:Operand} {id sz j off:Nat} {rows:List (List PV)} {row row':List PV} (hx:opd s x=some (.el id sz j off)) (hst:s.st id=some (.arr T' rows)) (hs:aO tt T'=some sz) (hr:rows[j]?=some row) (h:iP tt s T y row off=some row'):
  OpZ P ⟨none, .store T x y,ty,pos,after,none⟩ s λz=>z=(upd s.st id (some (.arr T' (rows.set j row'))), .und):=by
 intro w g ρ hm hρ
 have hx1:=hρ x (by simp [Op.operands]) _ hx
 simp only [Rep] at hx1
 obtain ⟨b,n,cap,hio,hxv⟩:=hx1
 have hob:=hm.obj id _ hst
 simp only [ObjOK] at hob
 obtain ⟨b',cap',h1,⟨_,h0⟩|⟨h2,vs,sp,h3,h4,h5,h6,h7,h8⟩⟩:=hob
 ·rw [h0] at hr;simp at hr
 rw [hio] at h1;injection h1 with h1;injection h1 with h1 h1';injection h1' with h1' h1'';subst h1;subst h1'';subst h1'
 have hszT:=(aN htt hs).2
 have hl:∀r∈rows,r.length=sz:=λr hr=>by rw [<-hszT];exact h6 r hr
 obtain ⟨_,hfl⟩:=mS hl hr
 have hrl:row.length=sz:=hl row (List.mem_of_getElem? hr)
 have e3:(j+1)*sz=j*sz+sz:=by rw [Nat.add_mul];omega
 unfold iP at h
 split at h
 ·rename_i ps k hp hk
  obtain ⟨p,e1,e2,rfl⟩:=uJ hp
  cases hb:(Nat.beq p.cells.length k&&Nat.ble (off+k) row.length) with
  |false=>rw [hb] at h;simp at h
  |true=>
   rw [hb] at h
   simp only [zqt,bY] at h
   injection h with h
   simp only [zba] at hb
   have hk1:=Nat.eq_of_beq_eq_true hb.1
   have hk2:=Nat.le_of_ble_eq_true hb.2
   obtain ⟨m1,m2⟩:=(hρ y (by simp [Op.operands]) p e1).cells e2
   have hlen:=h7.length
   have hlen2:=m1.length
   have hsz:(ρ y).cells.size=k:=by simpa [hk1] using hlen2
   rw [hm.heap] at h4
   have hrun0:=run_storeCells_at P b (j*sz+off) T' (ρ y).cells.toList 0 (vs++sp).toArray w h4 (by rw [List.size_toArray,zla];omega) m2
   simp only [Nat.add_zero] at hrun0
   have hcl:(ρ y).cells.toList.length=p.cells.length:=hlen2
   obtain ⟨g',q1,q2,q3,q4⟩:=rY (xs:=((vs++sp).take (j*sz+off)++(ρ y).cells.toList++(vs++sp).drop (j*sz+off+(ρ y).cells.toList.length)).toArray) (o':= .arr T' (rows.set j row')) hm (by rw [hst];simp) hio h2 h4 h8 (λg' i1 i2 i3 hle=>by
    have hcut:(vs++sp).take (j*sz+off)++(ρ y).cells.toList++(vs++sp).drop (j*sz+off+(ρ y).cells.toList.length)=(vs.take (j*sz+off)++(ρ y).cells.toList++vs.drop (j*sz+off+(ρ y).cells.toList.length))++sp:=by
     rw [List.take_append_of_le_length (by omega),List.drop_append_of_le_length (by omega)]
     simp
    rw [hcut] at i3
    simp only [ObjOK,List.length_set]
    refine ⟨b,cap,by rw [i1];exact hio, .inr ⟨h2,_,sp,h3,i3, ?_, ?_, ?_,by rw [i2];exact h8⟩⟩
    ·simp only [zla,zlt,zld] at h5⊢
     omega
    ·intro r hr'
     rcases List.mem_or_eq_of_mem_set hr' with h'|h'
     ·exact h6 r h'
     ·rw [h',<-h,lH];exact h6 row (List.mem_of_getElem? hr)
    ·rw [<-h,aeE hl hr (by omega),eT _ _ _ (by omega)]
     have:=((h7.take (j*sz+off)).append m1).append (h7.drop (j*sz+off+p.cells.length))
     rw [hcl]
     exact RepL.mono hle _ _ this)
   have hrun:(execOp ρ (⟨none, .store T x y,ty,pos,after,none⟩:Oper)).run P w= .ok .skip (w.setRow b ((vs++sp).take (j*sz+off)++(ρ y).cells.toList++(vs++sp).drop (j*sz+off+(ρ y).cells.toList.length)).toArray):=by
    simp only [execOp,Instr.storeAt,Instr.sureAddr,hxv,storeVar,aX (aN htt hk).1,Sem.run_bind,Sem.run_pure,Result.andThen_ok,hsz,ne_eq,not_true_eq_false,if_false,hrun0]
   rw [hrun]
   exact ⟨g',_,rfl,trivial,q1,q2,q3,q4⟩
 ·cases h
theorem lI {st:aD} {w w0:World} {g:G} (hm:MemOK P st w g) {o:Obj} {n cap:Nat} {o':AObj} (_hcap:cap≠0) (h0:w0.heap=w.heap/\w0.os=w.os/\(w0.tape=w.tape/\w.drawn<=w0.drawn)/\w0.output=w.output)
  (mk:∀(g':G) (id:Nat),Le g g'->g'.io id=some (w.heap.size,n,cap)->g'.heap[w.heap.size]?=some o->g'.fr w.heap.size=0->¬g'.fm w.heap.size->ObjOK P g' id o'):
  ∃id g',g.io id=none/\st id=none/\g'.io id=some (w.heap.size,n,cap)/\MemOK P (upd st id (some o')) (w0.alloc o) g'/\Le g g'/\Frame (Blocks st g) w g (w0.alloc o) g'/\∀b',Blocks (upd st id (some o')) g' b'->Blocks st g b'\/w.heap.size<=b':=by
 obtain ⟨hh,hos,htp,hou⟩:=h0
 obtain ⟨id,f1,f2⟩:=gK hm
 have ha:(w0.alloc o).heap=w.heap.push o:=by show w0.heap.push o=_;rw [hh]
 let g':G:={g with heap:=(w0.alloc o).heap,io:=upd g.io id (some (w.heap.size,n,cap))}
 have hold:∀b,b<w.heap.size->(w0.alloc o).heap[b]?=w.heap[b]?:=λb hb=>by rw [ha,Array.getElem?_push];rw [zn (by omega)]
 have hle:Le g g':=⟨jT f1,λ_=>Nat.le_refl _,λb j hj=>by
   have hb:b<w.heap.size:=hm.lt b (by omega)
   show aS (w0.alloc o).heap b j=aS g.heap b j
   rw [hm.heap];simp only [aS,hold b hb],λb hb=>⟨hb,by
   obtain ⟨e,c,q,hstp⟩:=hm.fmm b hb
   show (w0.alloc o).heap[b]?=g.heap[b]?
   rw [hm.heap];exact hold b (aZ q)⟩⟩
 have hnb:(w0.alloc o).heap[w.heap.size]?=some o:=by rw [ha];simp
 have hfm:¬g.fm w.heap.size:=λh=>by
  obtain ⟨en,cl,e,_⟩:=hm.fmm _ h
  have:=aZ e;omega
 have hfr:g.fr w.heap.size=0:=by
  rcases Nat.eq_zero_or_pos (g.fr w.heap.size) with h|h
  ·exact h
  ·have:=hm.lt w.heap.size (by omega);omega
 have hsz:(w0.alloc o).heap.size=w.heap.size+1:=by rw [ha];simp
 have hmem:=fF (w':=w0.alloc o) (g':=g') (id:=id) (b':=w.heap.size) (n':=n) (cap':=cap) (o':=o') hm f1 rfl rfl (λ_=> .inr rfl) (λb hb _=>hold b hb) (λ_ _=>rfl) rfl (λ_=>hfm) (by omega) (λ_=>by omega) hle
  (mk g' id hle (aA _ _ _) hnb hfr hfm)
 have e1:upd (upd st id none) id (some o')=upd st id (some o'):=by
  funext j
  by_cases h:j=id
  ·rw [h,aA,aA]
  ·rw [aC h,aC h,aC h]
 rw [e1] at hmem
 refine ⟨id,g',f1,f2,aA _ _ _,hmem,hle,⟨hos,htp,hou,by omega,λb hb hn=>⟨hold b hb,rfl,Iff.rfl⟩⟩,λb' ⟨j,j1,j2⟩=> ?_⟩
 by_cases h:j=id
 ·subst h
  right
  simp [Go.Abs.blk,g',aA] at j2
  omega
 ·rw [aC h] at j1
  refine .inl ⟨j,j1, ?_⟩
  unfold Go.Abs.blk at j2⊢
  rwa [show g'.io j=g.io j from aC h] at j2
theorem nT {st:aD} {w:World} {g:G} (hm:MemOK P st w g) {id b n cap n':Nat} {cur xs:Array Value} {T:TypeId} {o':AObj} (hid:st id≠none) (hio:g.io id=some (b,n,cap)) (hc:cap≠0) (hb:w.heap[b]?=some (.cells cur T (0,0))) (hfr:g.fr b=0)
  (mk:∀(g':G) (id':Nat),Le g g'->g'.io id'=some (b,n',cap)->g'.heap[b]?=some (.cells xs T (0,0))->g'.fr b=0->ObjOK P g' id' o'):
  ∃id' g',g.io id'=none/\st id'=none/\g'.io id'=some (b,n',cap)/\MemOK P (upd (upd st id none) id' (some o')) (w.setRow b xs) g'/\Le g g'/\Frame (Blocks st g) w g (w.setRow b xs) g'/\∀b',Blocks (upd (upd st id none) id' (some o')) g' b'->Blocks st g b'\/w.heap.size<=b':=by
 obtain ⟨id',f1,f2⟩:=gK hm
 have hbsz:=aZ hb
 have hbl:Go.Abs.blk g id=some b:=by simp [Go.Abs.blk,hio,hc]
 have hbB:Blocks st g b:=⟨id,hid,hbl⟩
 have hnfm:¬g.fm b:=λh=>by obtain ⟨en,cl,q,_⟩:=hm.fmm b h;rw [hb] at q;cases q
 let g':G:={g with heap:=(w.setRow b xs).heap,io:=upd g.io id' (some (b,n',cap))}
 have hl:Le g g':=⟨jT f1,λ_=>Nat.le_refl _,λk j hj=>by
   have hk:k≠b:=λe=>by rw [e,hfr] at hj;omega
   show aS (w.setRow b xs).heap k j=aS g.heap k j
   rw [hm.heap];simp only [aS,bH w b xs k hk],λk hk=>⟨hk,by
   show (w.setRow b xs).heap[k]?=g.heap[k]?
   rw [hm.heap];exact bH w b xs k (λe=>hnfm (e▸hk))⟩⟩
 have hsz:(w.setRow b xs).heap.size=w.heap.size:=by simp [World.setRow]
 refine ⟨id',g',f1,f2,aA _ _ _,fF hm (id:=id) f1 rfl rfl (λ_=> .inl ⟨hbl,hid⟩) (λk _ h=>bH w b xs k (h.resolve_left hc)) (λ_ _=>rfl) rfl (λ_=>hnfm) (by omega) (λ_=>by omega) hl (mk g' id' hl (aA _ _ _) (setRow_heap w b cur xs T (0,0) hb) hfr),hl,⟨rfl,⟨rfl,Nat.le_refl _⟩,rfl,by omega,λk hk hn=>⟨bH w b xs k (λe=>hn (e▸hbB)),rfl,Iff.rfl⟩⟩, ?_⟩
 rintro b' ⟨j,j1,j2⟩
 by_cases hj:j=id'
 ·rw [hj] at j2
  simp [Go.Abs.blk,g',aA] at j2
  rw [<-j2.2];exact .inl hbB
 ·rw [aC hj] at j1
  have e:Go.Abs.blk g' j=Go.Abs.blk g j:=by unfold Go.Abs.blk;rw [show g'.io j=g.io j from aC hj]
  rw [e] at j2
  by_cases hj2:j=id
  ·rw [hj2,aA] at j1;exact absurd rfl j1
  ·rw [aC hj2] at j1;exact .inl ⟨j,j1,j2⟩
theorem mO {st:aD} {w:World} {g:G} (hm:MemOK P st w g) (e:TypeId):∃id g',g.io id=none/\st id=none/\(∀sz a,Rep g' (.vec id sz 0 0) (.slice a 0 0))/\MemOK P (upd st id (some (.arr e []))) w g'/\Le g g'/\Frame (Blocks st g) w g w g'/\∀b',Blocks (upd st id (some (.arr e []))) g' b'->Blocks st g b'\/w.heap.size<=b':=by
 obtain ⟨id',hf1,hf2⟩:=gK hm
 let g':G:={g with io:=upd g.io id' (some (0,0,0))}
 have hl:Le g g':=⟨jT hf1,λ_=>Nat.le_refl _,λ_ _ _=>rfl,λ_ h=>⟨h,rfl⟩⟩
 have hmm:MemOK P (upd st id' (some (.arr e []))) w g':=by
  have:=fF (w':=w) (g':=g') (n':=0) (b':=0) (cap':=0) (o':= .arr e []) hm (id:=id') hf1 hm.heap rfl (λh=>absurd rfl h) (λ_ _ _=>rfl) (λ_ _=>rfl) rfl (λh=>absurd rfl h) (Nat.le_refl _) (λh=>absurd rfl h) hl (by unfold ObjOK;exact ⟨0,0,aA _ _ _, .inl ⟨rfl,rfl⟩⟩)
  have e1:upd (upd st id' none) id' (some (AObj.arr e []))=upd st id' (some (.arr e [])):=by
   funext j
   by_cases h:j=id'
   ·rw [h,aA,aA]
   ·rw [aC h,aC h,aC h]
  rwa [e1] at this
 refine ⟨id',g',hf1,hf2,λsz a=> ?_,hmm,hl,⟨rfl,⟨rfl,Nat.le_refl _⟩,rfl,Nat.le_refl _,λ_ _ _=>⟨rfl,rfl,Iff.rfl⟩⟩,λb' ⟨j,j1,j2⟩=> ?_⟩
 ·simp only [Rep];exact ⟨0,0,0,aA _ _ _,by omega,by omega,by omega, .inl ⟨rfl,a,rfl⟩⟩
 ·by_cases h:j=id'
  ·subst h;simp [Go.Abs.blk,g',aA] at j2
  ·rw [aC h] at j1
   refine .inl ⟨j,j1, ?_⟩
   unfold Go.Abs.blk at j2⊢
   rwa [show g'.io j=g.io j from aC h] at j2
theorem sT (htt:bC P tt) {st:aD} {w:World} {g:G} (hm:MemOK P st w g) {T T2 e ty:TypeId} {rows2:List (List PV)} {p:PV} {a:Option Addr} {y:Value} {sz B:Nat} (hp:eK p=some rows2) (hy:Rep g p y)
  (hk:tiK tt T=some (.slice e)) (hk2:cG tt T2=true) (hs:aO tt e=some sz) (hl2:∀r∈rows2,r.length=sz) (h1:∀r∈rows2,r.all PV.one=true) (hB:P.bytesOf e=B) (hb:rows2.length*B<=140737488355328)
  (hz:(tiZ tt e).map List.length=some sz) (h62:rows2.length<2^62):
  ∃v w' g' id',(Builtin.append_ #[T,T2] ty #[.slice a 0 0,y]).run P w= .ok v w'/\g.io id'=none/\st id'=none/\Rep g' (.vec id' sz 0 rows2.length) v/\MemOK P (upd st id' (some (.arr e rows2))) w' g'/\Le g g'/\Frame (Blocks st g) w g w' g'/\
   (∀b,Blocks (upd st id' (some (.arr e rows2))) g' b->Blocks st g b\/w.heap.size<=b):=by
 obtain ⟨news,hsrc,hnr⟩:=aaY htt hm hp hy hk2 hl2 h1
 have hu:=bP (aP htt hk).1
 obtain ⟨k1,k2⟩:=aN htt hs
 by_cases h0:rows2=[]
 ·subst h0
  obtain ⟨id,g',f1,f2,f3,m1,m2,m3,m4⟩:=mO hm e
  cases hi:P.info? e with
  |none=>rw [hi] at k1;cases k1
  |some i=>
   have hnews:news=[]:=List.length_eq_zero_iff.1 (by simpa using hsrc.newsLen)
   subst hnews
   have hsz:i.size=sz:=by rw [hi] at k1;simpa using k1
   subst hsz
   exact ⟨_,w,g',id,lQ T T2 ty e i hu hi a y hsrc,f1,f2,f3 _ _,m1,m2,m3,m4⟩
 have hpos:0<rows2.length:=List.length_pos_iff.2 h0
 cases hi:P.info? e with
 |none=>rw [hi] at k1;cases k1
 |some i=>
  have hsz:i.size=sz:=by rw [hi] at k1;simpa using k1
  have hby:i.bytes=B:=by rw [<-hB];simp [Program.bytesOf,hi]
  subst hsz;subst hby
  have hnl:=hsrc.newsLen
  cases hz':tiZ tt e with
  |none=>rw [hz'] at hz;cases hz
  |some zl=>
   rw [hz'] at hz
   simp only [Option.map_some,Option.some.injEq] at hz
   obtain ⟨z,z1,z2⟩:=jO htt hz'
   have hiz:i.zero=some z:=by rw [hi] at z1;simpa using z1
   have hzs:z.cells.size=i.size:=by rw [<-hz,<-z2];simp
   have hg:0<0+rows2.length:=by omega
   have hfit:=growslice_fits hg (show (0+rows2.length)*i.bytes<=140737488355328 by simpa using hb)
   have hold:(Builtin.firstCells i.size 0 (.slice a 0 0)).run P w.drew= .ok ([]:List Value).toArray w.drew:=by
    cases a<;>simp [Builtin.firstCells,loadCells,loadCellsFrom]
   have hrun:=run_append_grow_src w T T2 ty e i z hu hi hiz a 0 0 [] hold y rows2.length news hsrc hg (by omega) hfit
   let nc:=grownCap w (0+rows2.length) 0 e
   have hnc:rows2.length<=nc:=by show _<=grownCap _ _ _ _;simp only [grownCap,Question.cut];omega
   have hlen:(Builtin.zeroCells z.cells (nc-(0+rows2.length))).size=(nc-rows2.length)*i.size:=by rw [size_zeroCells,hzs];simp
   have hq:(Builtin.zeroCells z.cells (nc-(0+rows2.length))).toList.length=(nc-rows2.length)*i.size:=by rw [<-hlen];exact Array.length_toList
   obtain ⟨id,g',f1,f2,f3,m1,m2,m3,m4⟩:=lI (w0:=w.drew) (o:= .cells ((([]:List Value)++news).toArray++Builtin.zeroCells z.cells (nc-(0+rows2.length))) e) (n:=rows2.length) (cap:=nc) (o':= .arr e rows2) hm (by omega) ⟨rfl,rfl,⟨rfl,Nat.le_succ _⟩,rfl⟩ (λg' id hle i1 i2 i3 _=>by
    simp only [ObjOK]
    refine ⟨w.heap.size,nc,i1, .inr ⟨by omega,news,(Builtin.zeroCells z.cells (nc-(0+rows2.length))).toList,hnc, ?_, ?_,λr hr=>by rw [k2];exact hl2 r hr,RepL.mono hle _ _ hnr,i3⟩⟩
    ·rw [i2];congr 2;apply Array.toList_inj.1;simp
    ·rw [zla,hnl,hq,k2,<-Nat.add_mul];congr 1;omega)
   refine ⟨_,_,g',id,hrun,f1,f2, ?_,m1,m2,m3,m4⟩
   simp only [Rep]
   refine ⟨_,_,_,f3,by omega,hnc,h62, .inr ⟨by omega, ?_⟩⟩
   simp [nc]
theorem ahW (htt:bC P tt) {st:aD} {w:World} {g:G} (hm:MemOK P st w g) {T T2 e ty:TypeId} {id:Nat} {rows rows2:List (List PV)} {p:PV} {x y:Value} {sz B:Nat} (hst:st id=some (.arr e rows)) (hx:Rep g (.vec id sz 0 rows.length) x) (hp:eK p=some rows2) (hy:Rep g p y)
  (hk:tiK tt T=some (.slice e)) (hk2:cG tt T2=true) (hs:aO tt e=some sz) (hl2:∀r∈rows2,r.length=sz) (h1:∀r∈rows2,r.all PV.one=true) (hB:P.bytesOf e=B) (hb:(rows.length+rows2.length)*B<=140737488355328)
  (hz:(tiZ tt e).map List.length=some sz) (h62:rows.length+rows2.length<2^62):
  ∃v w' g' id',(Builtin.append_ #[T,T2] ty #[x,y]).run P w= .ok v w'/\st id'=none/\Rep g' (.vec id' sz 0 (rows.length+rows2.length)) v/\MemOK P (upd (upd st id none) id' (some (.arr e (rows++rows2)))) w' g'/\Le g g'/\Frame (Blocks st g) w g w' g'/\
   (∀b,Blocks (upd (upd st id none) id' (some (.arr e (rows++rows2)))) g' b->Blocks st g b\/w.heap.size<=b):=by
 obtain ⟨news,hsrc,hnr⟩:=aaY htt hm hp hy hk2 hl2 h1
 have hu:=bP (aP htt hk).1
 obtain ⟨k1,k2⟩:=aN htt hs
 cases hi:P.info? e with
 |none=>rw [hi] at k1;cases k1
 |some i=>
  have hsz:i.size=sz:=by rw [hi] at k1;simpa using k1
  have hby:i.bytes=B:=by rw [<-hB];simp [Program.bytesOf,hi]
  subst hsz;subst hby
  have hnl:=hsrc.newsLen
  simp only [Rep] at hx
  obtain ⟨b,n,cap,hio,e2,e3,e4,hx⟩:=hx
  have hm0:MemOK P (upd st id none) w g:=hm.sub λj=>by
   by_cases h:j=id
   ·left;rw [h,aA]
   ·right;rw [aC h]
  have hB2:∀b',Blocks (upd st id none) g b'->Blocks st g b':=λb' ⟨j,j1,j2⟩=>⟨j,by
   by_cases h:j=id
   ·rw [h,aA] at j1;exact absurd rfl j1
   ·rwa [aC h] at j1,j2⟩
  have hfresh:∀{id'},g.io id'=none->st id'=none:=fun {id'} f1=>by
   cases h:st id' with
   |none=>rfl
   |some o=>obtain ⟨x,hx⟩:=rH (hm.obj id' o h);rw [f1] at hx;cases hx
  rcases hx with ⟨h0,a,rfl⟩|⟨hc0,rfl⟩
  ·have hn0:rows=[]:=List.length_eq_zero_iff.1 (by omega)
   subst hn0
   obtain ⟨v,w',g',id',q1,q2,_,q3,q4,q5,q6,q7⟩:=sT (ty:=ty) (a:=a) htt hm0 hp hy hk hk2 hs hl2 h1 hB (by simpa using hb) hz (by simpa using h62)
   exact ⟨v,w',g',id',q1,hfresh q2,by simpa using q3,by simpa using q4,q5,q6.mono hB2,λb' hb'=>(q7 b' hb').imp (hB2 b') (λh=>h)⟩
  have hob:=hm.obj id _ hst
  simp only [ObjOK] at hob
  obtain ⟨b',cap',t1,⟨t0,_⟩|⟨t2,vs,sp,t3,t4,t5,t6,t7,t8⟩⟩:=hob
  ·rw [hio] at t1;injection t1 with t1;injection t1 with t1 t1';injection t1' with t1' t1'';omega
  rw [hio] at t1;injection t1 with t1;injection t1 with t1 t1';injection t1' with t1' t1'';subst t1;subst t1'';subst t1'
  rw [k2] at t5 t6
  have hvl:=t7.length
  have hfl:rows.flatten.length=rows.length*i.size:=by
   clear hvl t7 hio t3 hst hb h62 e2 e3 e4
   induction rows with
   |nil=>simp
   |cons r rs ih=>rw [List.flatten_cons,zla,t6 r (by simp),ih (λr hr=>t6 r (by simp [hr])),zlc,Nat.add_mul];omega
  have hl12:∀r∈rows++rows2,r.length=P.cellsOf e:=λr hr=>by
   rw [k2]
   rcases zma.1 hr with h|h
   ·exact t6 r h
   ·exact hl2 r h
  rw [hm.heap] at t4
  simp only [Nat.zero_mul,Nat.sub_zero]
  by_cases hroom:rows.length+rows2.length<=cap
  ·have hle1:rows.length*i.size+news.length<=(vs++sp).toArray.size:=by
    rw [List.size_toArray,t5,hnl,<-Nat.add_mul];exact Nat.mul_le_mul_right _ hroom
   have hrun:=nZ T T2 ty e i hu hi b rows.length cap (vs++sp).toArray t4 y rows2.length news hsrc hroom hle1
   have hcut:(vs++sp).toArray.toList.take (rows.length*i.size)++news++(vs++sp).toArray.toList.drop (rows.length*i.size+news.length)=(vs++news)++sp.drop news.length:=by
    have h3:vs.length=rows.length*i.size:=by omega
    skip
    rw [List.take_append_of_le_length (by omega),ztl (by omega),List.drop_append,List.drop_eq_nil_of_le (by omega)]
    simp [h3]
   rw [hcut] at hrun
   obtain ⟨id',g',f1,f2,f3,m1,m2,m3,m4⟩:=nT (n':=rows.length+rows2.length) (xs:=((vs++news)++sp.drop news.length).toArray) (o':= .arr e (rows++rows2)) hm (by rw [hst];simp) hio t2 t4 t8 (λg' id' hle i1 i2 i3=>by
    simp only [ObjOK]
    refine ⟨b,cap,by rw [zla];exact i1, .inr ⟨t2,vs++news,sp.drop news.length,by rw [zla];exact hroom,i2, ?_,hl12, ?_,i3⟩⟩
    ·rw [k2,<-t5]
     have h3:vs.length=rows.length*i.size:=by omega
     simp only [zla,zld,List.size_toArray] at hle1⊢
     omega
    ·rw [List.flatten_append];exact (RepL.mono hle _ _ t7).append (RepL.mono hle _ _ hnr))
   refine ⟨_,_,g',id',hrun,f2, ?_,m1,m2,m3,m4⟩
   simp only [Rep]
   exact ⟨_,_,_,f3,by omega,hroom,h62, .inr ⟨t2,by simp⟩⟩
  ·cases hz':tiZ tt e with
   |none=>rw [hz'] at hz;cases hz
   |some zl=>
    rw [hz'] at hz
    simp only [Option.map_some,Option.some.injEq] at hz
    obtain ⟨z,z1,z2⟩:=jO htt hz'
    have hiz:i.zero=some z:=by rw [hi] at z1;simpa using z1
    have hzs:z.cells.size=i.size:=by rw [<-hz,<-z2];simp
    have hg:cap<rows.length+rows2.length:=by omega
    have hfit:=growslice_fits hg hb
    have h3:vs.length=rows.length*i.size:=by omega
    have hold:=run_firstCells_some (P:=P) w.drew i.size rows.length ⟨b,0,none⟩ rows.length cap vs h3 (λj u hj=>by
     rw [cE,Nat.zero_add,cD (w:=w.drew) (c:=(vs++sp).toArray) t4]
     simp only [List.getElem?_toArray]
     rw [List.getElem?_append_left (zge.1 hj).1];exact hj)
    have hrun:=run_append_grow_src w T T2 ty e i z hu hi hiz (some ⟨b,0,none⟩) rows.length cap vs hold y rows2.length news hsrc hg (by omega) hfit
    let nc:=grownCap w (rows.length+rows2.length) cap e
    have hnc:rows.length+rows2.length<=nc:=by show _<=grownCap _ _ _ _;simp only [grownCap,Question.cut];omega
    have hlen:(Builtin.zeroCells z.cells (nc-(rows.length+rows2.length))).size=(nc-(rows.length+rows2.length))*i.size:=by rw [size_zeroCells,hzs]
    have hq:(Builtin.zeroCells z.cells (nc-(rows.length+rows2.length))).toList.length=(nc-(rows.length+rows2.length))*i.size:=by rw [<-hlen];exact Array.length_toList
    obtain ⟨id',g',f1,f2,f3,m1,m2,m3,m4⟩:=lI (w0:=w.drew) (o:= .cells ((vs++news).toArray++Builtin.zeroCells z.cells (nc-(rows.length+rows2.length))) e) (n:=rows.length+rows2.length) (cap:=nc) (o':= .arr e (rows++rows2)) hm0 (by omega) ⟨rfl,rfl,⟨rfl,Nat.le_succ _⟩,rfl⟩ (λg' id hle i1 i2 i3 _=>by
     simp only [ObjOK]
     refine ⟨w.heap.size,nc,by rw [zla];exact i1, .inr ⟨by omega,vs++news,(Builtin.zeroCells z.cells (nc-(rows.length+rows2.length))).toList,by rw [zla];exact hnc, ?_, ?_,hl12, ?_,i3⟩⟩
     ·rw [i2];congr 2;apply Array.toList_inj.1;simp
     ·rw [zla,zla,h3,hnl,hq,k2,<-Nat.add_mul,<-Nat.add_mul];congr 1;omega
     ·rw [List.flatten_append];exact (RepL.mono hle _ _ t7).append (RepL.mono hle _ _ hnr))
    refine ⟨_,_,g',id',hrun,hfresh f1, ?_,m1,m2,m3.mono hB2,λb' hb'=>(m4 b' hb').imp (hB2 b') (λh=>h)⟩
    simp only [Rep]
    exact ⟨_,_,_,f3,by omega,hnc,h62, .inr ⟨by omega,by simp [nc]⟩⟩
end
end
section
section
variable {P:Program} {tt:TT}
theorem ajQ (htt:bC P tt) {o:Oper} {s:St} {T e:TypeId} {x y:Operand} {id sz off len j:Nat} {kk:IntKind} {n:Int} (ho:o.op= .indexAddr T x y) (hx:opd s x=some (.vec id sz off len)) (hy:opd s y=some (.val (.int kk n))) (hj:n=(j:Int)) (hlt:j<len) (hk:tiK tt T=some (.slice e)) (hs:aO tt e=some sz):OpV P o s (.el id sz (off+j) 0):=by
 refine aM λw g ρ hm hρ=> ?_
 have rx:=hρ x (by rw [ho];simp [Op.operands]) _ hx
 have ry:=aK (hρ y (by rw [ho];simp [Op.operands]) _ hy)
 simp only [Rep] at rx
 obtain ⟨b,n',cap,hio,h1,h2,h3,⟨h4,_,h5⟩|⟨h4,h5⟩⟩:=rx
 ·omega
 have hu:=bP (aP htt hk).1
 subst hj
 have hin:(0:Int)<=(j:Int)/\(j:Int)<(len:Int):=by omega
 refine ⟨.pointer (some ⟨b,(off+j)*sz+0,none⟩), ?_,by simp only [Rep];exact ⟨b,n',cap,hio,rfl⟩⟩
 simp only [execOp,ho,Instr.indexAt,ry,h5,asIntOf,Sem.run_bind,Sem.run_pure,Result.andThen_ok,run_underlying hu]
 rw [zp hin]
 simp only [Sem.run_bind,aX (aN htt hs).1,Result.andThen_ok,Sem.run_pure,Int.toNat_natCast,cE,Nat.add_mul,Nat.add_zero]
theorem vL {dst:Option Nat} {ty:TypeId} {pos:String} {after:Array Edge} {s:St} {f:Operand} {args:Array Operand} {ts:Array TypeId} {fid:FuncId} {caps ps:List PV} (qs:List PV) {R:PV->aD->Prop} (hf:opd s f=some (.fn fid caps)) (hps:lL s args.toList=some ps) (hw:WkL ps qs) (h:PC P fid (qs++caps) s.st R):
  OpZ P ⟨dst, .call ⟨.value f,args,ts⟩,ty,pos,after,none⟩ s λx=>R x.2 x.1:=by
 intro w g ρ hm hρ
 have rf:=hρ f (by simp [Op.operands,Call.operands]) _ hf
 have ra:=iU hps (g:=g) (ρ:=ρ) (λx hx=>hρ x (by simp [Op.operands,Call.operands];exact .inr (by simpa using hx)))
 simp only [Rep] at rf
 obtain ⟨vs,e,rf⟩:=rf
 obtain ⟨hc,hcall⟩:=h
 rw [afB rfl e hc]
 simp only [OpRes]
 have:=hcall w g (args.toList.map ρ++vs) hm ((hw.rep ra).append rf)
 rw [show (args.map ρ++vs.toArray)=(args.toList.map ρ++vs).toArray from by apply Array.toList_inj.1;simp]
 refine this.mono ?_
 rintro e' w' ⟨v,p,st',g',rfl,hR,h3,h4,h5,h6,h7⟩
 exact ⟨v,rfl,g',(st',p),hR,h3,h4,h5,h6,h7⟩
theorem ajH (htt:bC P tt) {dst:Option Nat} {ty:TypeId} {pos:String} {after:Array Edge} {s:St} {T T2 e:TypeId} {x y:Operand} {id:Nat} {rows rows2:List (List PV)} {p:PV} {sz:Nat} (B:Nat) (hx:opd s x=some (.own id rows)) (hy:opd s y=some p) (hp:eK p=some rows2) (hk:tiK tt T=some (.slice e)) (hk2:cG tt T2=true) (hs:aO tt e=some sz) (hz:(tiZ tt e).map List.length=some sz)
  (htok:s.st id=some (.tok e)) (hl1:∀r∈rows,r.length=sz) (hl2:∀r∈rows2,r.length=sz) (h1:∀r∈rows2,r.all PV.one=true) (hB:P.bytesOf e=B) (hb:(rows.length+rows2.length)*B<=140737488355328) (h62:rows.length+rows2.length<2^62):
  OpZ P ⟨dst, .call ⟨.builtin .append, #[x,y], #[T,T2]⟩,ty,pos,after,none⟩ s λz=>∃id',s.st id'=none/\z=(upd (upd s.st id none) id' (some (.tok e)), .own id' (rows++rows2)):=by
 intro w g ρ hm hρ
 have rx:=hρ x (by simp [Op.operands,Call.operands]) _ hx
 have ry:=hρ y (by simp [Op.operands,Call.operands]) _ hy
 obtain ⟨v,w',g',id',q1,q2,q3,q4,q5,q6,q7⟩:=aiZ (ty:=ty) htt hm htok rx hp ry hk hk2 hs hl1 hl2 h1 hB hb hz h62
 have hrun:(execOp ρ (⟨dst, .call ⟨.builtin .append, #[x,y], #[T,T2]⟩,ty,pos,after,none⟩:Oper)).run P w= .ok (.value v) w':=bO rfl (by simp [builtin,q1])
 rw [hrun]
 have hst:s.st id'=none:=by
  cases h:s.st id' with
  |none=>rfl
  |some o=>obtain ⟨z,hz⟩:=rH (hm.obj id' o h);rw [q2] at hz;cases hz
 exact ⟨g',_,⟨id',hst,rfl⟩,q3,q4,q5,q6,q7⟩
theorem agF (htt:bC P tt) {dst:Option Nat} {ty:TypeId} {pos:String} {after:Array Edge} {s:St} {T T2 e:TypeId} {x y:Operand} {id n:Nat} {rows rows2:List (List PV)} {p:PV} {sz:Nat} (B:Nat) (hx:opd s x=some (.vec id sz 0 n)) (hn:rows.length=n) (hy:opd s y=some p) (hp:eK p=some rows2) (hk:tiK tt T=some (.slice e)) (hk2:cG tt T2=true) (hs:aO tt e=some sz) (hz:(tiZ tt e).map List.length=some sz)
  (hst:s.st id=some (.arr e rows)) (hl2:∀r∈rows2,r.length=sz) (h1:∀r∈rows2,r.all PV.one=true) (hB:P.bytesOf e=B) (hb:(rows.length+rows2.length)*B<=140737488355328) (h62:rows.length+rows2.length<2^62):
  OpZ P ⟨dst, .call ⟨.builtin .append, #[x,y], #[T,T2]⟩,ty,pos,after,none⟩ s λz=>∃id',s.st id'=none/\z=(upd (upd s.st id none) id' (some (.arr e (rows++rows2))), .vec id' sz 0 (rows.length+rows2.length)):=by
 subst hn
 intro w g ρ hm hρ
 have rx:=hρ x (by simp [Op.operands,Call.operands]) _ hx
 have ry:=hρ y (by simp [Op.operands,Call.operands]) _ hy
 obtain ⟨v,w',g',id',q1,q2,q3,q4,q5,q6,q7⟩:=ahW (ty:=ty) htt hm hst rx hp ry hk hk2 hs hl2 h1 hB hb hz h62
 have hrun:(execOp ρ (⟨dst, .call ⟨.builtin .append, #[x,y], #[T,T2]⟩,ty,pos,after,none⟩:Oper)).run P w= .ok (.value v) w':=bO rfl (by simp [builtin,q1])
 rw [hrun]
 exact ⟨g',_,⟨id',q2,rfl⟩,q3,q4,q5,q6,q7⟩
def isEmp :PV->Bool
 | .emp=>true
 | .val (.slice none 0 0)=>true
 |_=>false
theorem nI {p:PV} (h:isEmp p=true) {g:G} {v:Value} (hr:Rep g p v):∃a,v= .slice a 0 0:=by
 unfold isEmp at h
 split at h
 ·simpa only [Rep] using hr
 ·simp only [Rep] at hr;exact ⟨none,hr⟩
 ·cases h
theorem adS (htt:bC P tt) {dst:Option Nat} {ty:TypeId} {pos:String} {after:Array Edge} {s:St} {T T2 e:TypeId} {x y:Operand} {q:PV} {rows2:List (List PV)} {p:PV} {sz:Nat} (B:Nat) (hx:opd s x=some q) (hq:isEmp q=true) (hy:opd s y=some p) (hp:eK p=some rows2) (hk:tiK tt T=some (.slice e)) (hk2:cG tt T2=true) (hs:aO tt e=some sz) (hz:(tiZ tt e).map List.length=some sz)
  (hl2:∀r∈rows2,r.length=sz) (h1:∀r∈rows2,r.all PV.one=true) (hB:P.bytesOf e=B) (hb:rows2.length*B<=140737488355328) (h62:rows2.length<2^62):
  OpZ P ⟨dst, .call ⟨.builtin .append, #[x,y], #[T,T2]⟩,ty,pos,after,none⟩ s λz=>∃id',s.st id'=none/\z=(upd s.st id' (some (.arr e rows2)), .vec id' sz 0 rows2.length):=by
 intro w g ρ hm hρ
 obtain ⟨a,rx⟩:=nI hq (hρ x (by simp [Op.operands,Call.operands]) _ hx)
 have ry:=hρ y (by simp [Op.operands,Call.operands]) _ hy
 obtain ⟨v,w',g',id',q1,_,q2,q3,q4,q5,q6,q7⟩:=sT (ty:=ty) (a:=a) htt hm hp ry hk hk2 hs hl2 h1 hB hb hz h62
 have hrun:(execOp ρ (⟨dst, .call ⟨.builtin .append, #[x,y], #[T,T2]⟩,ty,pos,after,none⟩:Oper)).run P w= .ok (.value v) w':=bO rfl (by simp [builtin,rx,q1])
 rw [hrun]
 exact ⟨g',_,⟨id',q2,rfl⟩,q3,q4,q5,q6,q7⟩
end
end
section
section
variable {P:Program} {tt:TT}
def St.shared (s:St) (u id:Nat) (T:TypeId) (cs:List PV):St:={s with env:=upd s.env u (true, .pv (.ref id 0)),L:=upd s.L u none,st:=upd s.st id (some (.cells T cs))}
theorem dQ {α:Type} {f:Nat->Option α} {u t:Nat} (h:upd f u none t≠none):t≠u/\f t≠none:=by
 by_cases h':t=u
 ·rw [h',aA] at h;exact absurd rfl h
 ·rw [aC h'] at h;exact ⟨h',h⟩
theorem SI.share {c:Ctx} {s:St} {a:Act} {w:World} {g:G} {lam:Nat->Nat} (hs:SI P c s a w g lam) (u:Nat) {T:TypeId} {cs:List PV} (hx:s.env u=(true, .adr u 0)) (hL:s.L u=some (T,cs)):∃id g',s.st id=none/\SI P c (s.shared u id T cs) a w g' lam:=by
 obtain ⟨vs,h1,h2,h3,h4,h5⟩:=hs.box u T cs hL
 have hlt:lam u<w.heap.size:=by have:=aZ h1;rwa [hs.mem.heap] at this
 obtain ⟨id,f1,f2⟩:=gK hs.mem
 let g':G:={g with io:=upd g.io id (some (lam u,0,1))}
 have hle:Le g g':=⟨jT f1,λ_=>Nat.le_refl _,λ_ _ _=>rfl,λ_ h=>⟨h,rfl⟩⟩
 have hb:∀j,j≠id->Go.Abs.blk g' j=Go.Abs.blk g j:=λj h=>by unfold Go.Abs.blk;rw [show g'.io j=g.io j from aC h]
 have hbi:Go.Abs.blk g' id=some (lam u):=by simp [Go.Abs.blk,g',aA]
 have hm:MemOK P (upd s.st id (some (.cells T cs))) w g':=by
  refine ⟨hs.mem.heap,λj o e=> ?_,λj j' b e e' h h'=> ?_,hs.mem.lt,hs.mem.fmm, ?_⟩
  ·by_cases hj:j=id
   ·subst hj
    rw [aA] at e;injection e with e;subst e
    simp only [ObjOK]
    exact ⟨lam u,0,1,vs,aA _ _ _,by omega,h1,RepL.mono hle _ _ h2,h3⟩
   ·rw [aC hj] at e
    exact (hs.mem.obj j o e).keep hle λ_ _=>⟨rfl,rfl,Iff.rfl⟩
  ·by_cases hj:j=id
   ·by_cases hj':j'=id
    ·rw [hj,hj']
    ·exfalso
     rw [aC hj'] at e'
     rw [hj,hbi] at h;injection h with h;subst h
     rw [hb j' hj'] at h'
     exact h5 ⟨j',e',h'⟩
   ·rw [aC hj] at e
    rw [hb j hj] at h
    by_cases hj':j'=id
    ·exfalso
     rw [hj',hbi] at h';injection h' with h';subst h'
     exact h5 ⟨j,e,h⟩
    ·rw [aC hj'] at e'
     rw [hb j' hj'] at h'
     exact hs.mem.inj j j' b e e' h h'
  ·obtain ⟨N,hN⟩:=hs.mem.fin
   exact ⟨max N (id+1),λj hj=>by show upd g.io id _ j=none;rw [aC (by omega)];exact hN j (by omega)⟩
 have hB:∀b,Blocks (upd s.st id (some (.cells T cs))) g' b->b=lam u\/Blocks s.st g b:=λb ⟨j,j1,j2⟩=>by
  by_cases hj:j=id
  ·rw [hj,hbi] at j2;injection j2 with j2;exact .inl j2.symm
  ·rw [aC hj] at j1;rw [hb j hj] at j2;exact .inr ⟨j,j1,j2⟩
 refine ⟨id,g',f2,hm,hs.le.trans hle, ?_,λb hbb=> ?_,λt=> ?_,λt U ds e=> ?_,λt t' e e'=> ?_,λt b v off e=> ?_,λt e=> ?_,hs.defers,hs.n,hs.top⟩
 ·exact ⟨hs.frame.os,hs.frame.tape,hs.frame.output,hs.frame.size,hs.frame.old⟩
 ·rcases hB b hbb with h|h
  ·right;rw [h];exact h4
  ·exact hs.blk b h
 ·show EntOK g' lam (upd s.env u _ t) _
  by_cases h:t=u
  ·subst h
   rw [aA]
   have:=hs.env t
   rw [hx] at this
   simp only [EntOK,Rep] at this⊢
   exact ⟨lam t,0,1,aA _ _ _,this⟩
  ·rw [aC h];exact (hs.env t).mono hle
 ·have e':upd s.L u none t=some (U,ds):=e
  by_cases h:t=u
  ·rw [h,aA] at e';cases e'
  ·rw [aC h] at e'
   obtain ⟨us,k1,k2,k3,k4,k5⟩:=hs.box t U ds e'
   refine ⟨us,k1,RepL.mono hle _ _ k2,k3,k4,λhbb=> ?_⟩
   rcases hB _ hbb with h'|h'
   ·exact h (hs.inj t u (by rw [e'];simp) (by rw [hL];simp) h')
   ·exact k5 h'
 ·exact hs.inj t t' (dQ e).2 (dQ e').2
 ·have e':upd s.env u (true, .pv (.ref id 0)) t=(b, .adr v off):=e
  by_cases h:t=u
  ·rw [h,aA] at e';cases e'
  ·rw [aC h] at e';exact hs.ad t b v off e'
 ·exact hs.adL t (dQ e).2
theorem zY {cd:Code} {Q:Exit->St->Prop} {s:St} (u:Nat) {T:TypeId} {cs:List PV} (hx:s.env u=(true, .adr u 0)) (hL:s.L u=some (T,cs)) (k:∀id,s.st id=none->PWp P cd Q (s.shared u id T cs)):PWp P cd Q s:=by
 intro c a w g lam hs
 obtain ⟨id,g',h1,h2⟩:=hs.share u hx hL
 exact k id h1 c a w g' lam h2
theorem qG {l r:List Oper} {o:Oper} {K:St->Prop} {s:St} (u:Nat) {T:TypeId} {cs:List PV} (hx:s.env u=(true, .adr u 0)) (hL:s.L u=some (T,cs)) (k:∀id,s.st id=none->Ev P l .seq (o::r) (s.shared u id T cs) K):Ev P l .seq (o::r) s K:=by
 intro c a w g lam hs
 obtain ⟨id,g',h1,h2⟩:=hs.share u hx hL
 exact k id h1 c a w g' lam h2
mutual
inductive Fz (id sz:Nat) (rows:List (List PV)):PV->PV->Prop
 |refl {p:PV}:Fz id sz rows p p
 |vec {off len:Nat}:Fz id sz rows (.vec id sz off len) (.seq ((rows.drop off).take len))
 |all:Fz id sz rows (.vec id sz 0 rows.length) (.seq rows)
 |agg {cs ds:List PV} (h:FzL id sz rows cs ds):Fz id sz rows (.agg cs) (.agg ds)
 |tup {cs ds:List PV} (h:FzL id sz rows cs ds):Fz id sz rows (.tup cs) (.tup ds)
inductive FzL (id sz:Nat) (rows:List (List PV)):List PV->List PV->Prop
 |nil:FzL id sz rows [] []
 |cons {p q:PV} {ps qs:List PV} (h:Fz id sz rows p q) (t:FzL id sz rows ps qs):FzL id sz rows (p::ps) (q::qs)
end
theorem FzL.refl {id sz:Nat} {rows:List (List PV)}:∀(cs:List PV),FzL id sz rows cs cs
 |[]=> .nil
 |_::cs=> .cons .refl (FzL.refl cs)
def acB (g:G) (id sz:Nat) (rows:List (List PV)):Prop:=
 ∀off len v,Rep g (.vec id sz off len) v->Rep g (.seq ((rows.drop off).take len)) v
mutual
theorem Fz.rep {g:G} {id sz:Nat} {rows:List (List PV)} (hf:acB g id sz rows):∀{p q:PV},Fz id sz rows p q->∀v,Rep g p v->Rep g q v
 |_,_, .refl,v,h=>h
 |_,_, .vec,v,h=>hf _ _ v h
 |_,_, .all,v,h=>by have:=hf _ _ v h;simpa using this
 |_,_, .agg h',v,h=>by
  simp only [Rep] at h⊢
  obtain ⟨vs,e,h⟩:=h
  exact ⟨vs,e,FzL.rep hf h' vs h⟩
 |_,_, .tup h',v,h=>by
  simp only [Rep] at h⊢
  obtain ⟨vs,e,h⟩:=h
  exact ⟨vs,e,FzL.rep hf h' vs h⟩
theorem FzL.rep {g:G} {id sz:Nat} {rows:List (List PV)} (hf:acB g id sz rows):∀{ps qs:List PV},FzL id sz rows ps qs->∀vs,RepL g ps vs->RepL g qs vs
 |_,_, .nil,vs,h=>h
 |_,_, .cons h1 h2,vs,h=>by
  simp only [RepL] at h⊢
  obtain ⟨v,vs',e,h3,h4⟩:=h
  exact ⟨v,vs',e,Fz.rep hf h1 v h3,FzL.rep hf h2 vs' h4⟩
end
structure SubF (id sz:Nat) (rows:List (List PV)) (s s2:St):Prop where
 env:∀t,s2.env t=(true, .pv .und)\/s2.env t=s.env t\/∃p q,s.env t=(true, .pv p)/\s2.env t=(true, .pv q)/\Fz id sz rows p q
 L:∀t T ds,s2.L t=some (T,ds)->∃cs,s.L t=some (T,cs)/\FzL id sz rows cs ds
 st:StSub s2.st (upd s.st id none)
 n:s2.n=s.n
 top:s2.top=s.top
 ad:∀t w u off,s2.env t=(w, .adr u off)->s2.ad u=true
 adL:∀t,s2.L t≠none->s2.ad t=true
theorem SubF.nil {id sz:Nat} {rows:List (List PV)} (s:St) (n:Nat) (st:aD) (h:StSub st (upd s.st id none)) (hn:(n,none)=(s.n,s.top)):SubF id sz rows s (St.nil n st):=
 ⟨λ_=> .inl rfl,λ_ _ _ e=>(by cases e),h,(Prod.mk.inj hn).1,(Prod.mk.inj hn).2,λ_ _ _ _ e=>(by cases e),λ_ e=>absurd rfl e⟩
theorem SubF.pvF {id sz:Nat} {rows:List (List PV)} {s s2:St} (h:SubF id sz rows s s2) {t:Nat} {p q:PV} (e:s.env t=(true, .pv p)) (hf:Fz id sz rows p q):SubF id sz rows s (s2.pv t q):=
  ⟨λu=>by
      by_cases hu:u=t
      · subst hu;right;right;exact ⟨p,q,e,aA _ _ _,hf⟩
      · show upd _ _ _ _=_\/upd _ _ _ _=_\/∃p q,_/\upd _ _ _ _=_/\_;rw [aC hu];exact h.env u,
   h.L,h.st,h.n,h.top,λu w v off e'=>by
      by_cases hu:u=t
      · subst hu;have:upd s2.env u (true, .pv q) u=_:=e';rw [aA] at this;cases this
      · have:upd s2.env t (true, .pv q) u=_:=e';rw [aC hu] at this;exact h.ad u w v off this,h.adL⟩
theorem SubF.pv {id sz:Nat} {rows:List (List PV)} {s s2:St} (h:SubF id sz rows s s2) {t:Nat} {p:PV} (e:s.env t=(true, .pv p)):SubF id sz rows s (s2.pv t p):=h.pvF e .refl
theorem SubF.varF {id sz:Nat} {rows:List (List PV)} {s s2:St} (h:SubF id sz rows s s2) {t:Nat} {T:TypeId} {cs ds:List PV} (e:s.env t=(true, .adr t 0)) (eL:s.L t=some (T,cs)) (hf:FzL id sz rows cs ds):SubF id sz rows s (s2.var t T ds):=
  ⟨λu=>by
      by_cases hu:u=t
      · subst hu;right;left;show upd _ _ _ _=_;rw [aA,e]
      · show upd _ _ _ _=_\/upd _ _ _ _=_\/∃p q,_/\upd _ _ _ _=_/\_;rw [aC hu];exact h.env u,
   λu U es e'=>by
      by_cases hu:u=t
      · subst hu
        have:upd s2.L u (some (T,ds)) u=_:=e';rw [aA] at this
        injection this with this;injection this with t1 t2;subst t1;subst t2
        exact ⟨cs,eL,hf⟩
      · have:upd s2.L t (some (T,ds)) u=_:=e';rw [aC hu] at this;exact h.L u U es this,
   h.st,h.n,h.top,λu w v off e'=>by
      show upd s2.ad t true v=true
      by_cases hv:v=t
      · subst hv;exact aA _ _ _
      · rw [aC hv]
        by_cases hu:u=t
        · subst hu;have:upd s2.env u (true, .adr u 0) u=_:=e';rw [aA] at this;injection this with h1 h2;injection h2 with h2 h3;exact absurd h2.symm hv
        · have:upd s2.env t (true, .adr t 0) u=_:=e';rw [aC hu] at this;exact h.ad u w v off this,
   λu e'=>by
      show upd s2.ad t true u=true
      by_cases hu:u=t
      · subst hu;exact aA _ _ _
      · have:upd s2.L t (some (T,ds)) u≠none:=e';rw [aC hu] at this⊢;exact h.adL u this⟩
theorem SubF.var {id sz:Nat} {rows:List (List PV)} {s s2:St} (h:SubF id sz rows s s2) {t:Nat} {T:TypeId} {cs:List PV} (e:s.env t=(true, .adr t 0)) (eL:s.L t=some (T,cs)):SubF id sz rows s (s2.var t T cs):=h.varF e eL (FzL.refl _)
theorem yQ {sz:Nat}:∀{rows:List (List PV)} {k:Nat},(∀r∈rows,r.length=sz)->(rows.drop k).flatten=rows.flatten.drop (k*sz)
 |rows,0,_=>by simp
 |[],k+1,_=>by simp
 |r::rs,k+1,h=>by
  rw [List.drop_succ_cons,yQ (λr hr=>h r (by simp [hr])),List.flatten_cons,List.drop_append,List.drop_eq_nil_of_le (as:=r) (by rw [h r (by simp),Nat.add_mul];omega),List.nil_append,h r (by simp),Nat.add_mul]
  congr 1;omega
theorem zF {sz:Nat}:∀{rows:List (List PV)} {k:Nat},(∀r∈rows,r.length=sz)->(rows.take k).flatten=rows.flatten.take (k*sz)
 |rows,0,_=>by simp
 |[],k+1,_=>by simp
 |r::rs,k+1,h=>by
  have hr:=h r (by simp)
  rw [List.take_succ_cons,List.flatten_cons,zF (λr hr=>h r (by simp [hr])),List.flatten_cons,List.take_append,ztl (l:=r) (by rw [hr,Nat.add_mul];omega),hr]
  congr 2;rw [Nat.add_mul];omega
theorem aeQ {st:aD} {w:World} {g:G} (hm:MemOK P st w g) {id sz:Nat} {T:TypeId} {rows:List (List PV)} (hst:st id=some (.arr T rows)) (hT:P.cellsOf T=sz) {b cap:Nat} {vs sp:List Value} (h1:g.io id=some (b,rows.length,cap)) (h2:cap≠0) (h3:rows.length<=cap)
  (h4:g.heap[b]?=some (.cells (vs++sp).toArray T (0,0))) (h6:∀r∈rows,r.length=P.cellsOf T) (h7:RepL g rows.flatten vs) (h8:g.fr b=0):
  MemOK P (upd st id none) w {g with fr:=upd g.fr b vs.length}/\Le g {g with fr:=upd g.fr b vs.length}/\acB {g with fr:=upd g.fr b vs.length} id sz rows:=by
 let g':G:={g with fr:=upd g.fr b (vs.length)}
 have hle:Le g g':=by
  refine ⟨λ_ _ h=>h,λb'=> ?_,λ_ _ _=>rfl,λ_ h=>⟨h,rfl⟩⟩
  show g.fr b'<=upd g.fr _ _ b'
  by_cases h:b'=b
  ·rw [h,h8];exact Nat.zero_le _
  ·rw [aC h];exact Nat.le_refl _
 have hbl:Go.Abs.blk g id=some b:=by simp [Go.Abs.blk,h1,h2]
 have hblt:b<w.heap.size:=by have:=aZ h4;rwa [hm.heap] at this
 refine ⟨⟨hm.heap,λj o e=> ?_,λj j' b' e e'=>hm.inj j j' b' (dQ e).2 (dQ e').2,λb' hb'=> ?_,hm.fmm,hm.fin⟩,hle,λoff len v hv=> ?_⟩
 ·have hj:=(dQ (f:=st) (u:=id) (t:=j) (by rw [e];simp)).1
  rw [aC hj] at e
  refine (hm.obj j o e).keep hle λb' hb'=>⟨rfl,aC λh=> ?_,Iff.rfl⟩
  subst h
  exact hj (hm.inj j id b' (by rw [e];simp) (by rw [hst];simp) hb' hbl)
 ·by_cases h:b'=b
  ·rw [h];exact hblt
  ·exact hm.lt b' (by rwa [show g'.fr b'=g.fr b' from aC h] at hb')
 ·have hvlen:=h7.length
  have hfl:rows.flatten.length=rows.length*P.cellsOf T:=by
   clear hvlen h7 h3 hst h1
   induction rows with
   |nil=>simp
   |cons r rs ih=>rw [List.flatten_cons,zla,h6 r (by simp),ih (λr hr=>h6 r (by simp [hr])),zlc,Nat.add_mul];omega
  simp only [Rep] at hv
  obtain ⟨b',n,cap',k1,k2,k3,k4,k5⟩:=hv
  have k1':g.io id=some (b',n,cap'):=k1
  rw [h1] at k1';injection k1' with k1';injection k1' with k1' k6;injection k6 with k6 k7
  subst k1';subst k6;subst k7
  rcases k5 with ⟨k5,_⟩|⟨_,rfl⟩
  ·exact absurd k5 h2
  ·unfold Rep
   have hlen:((rows.drop off).take len).length=len:=by rw [zlt,zld];omega
   refine ⟨_,_,by rw [hlen],by rw [hlen];omega,by rw [hlen];omega, ?_⟩
   by_cases hl0:len=0
   ·left;rw [hl0];simp
   ·right
    have hsz:∀r∈rows,r.length=sz:=λr hr=>by rw [<-hT];exact h6 r hr
    refine ⟨b,off*sz,sz,rfl,RepR.mk (vs:=(vs.drop (off*sz)).take (len*sz)) (λr hr=>hsz r (List.mem_of_mem_drop (List.mem_of_mem_take hr))) ?_ λj v hj=> ?_⟩
    ·rw [zF (λr hr=>hsz r (List.mem_of_mem_drop hr)),yQ hsz]
     exact ((RepL.mono hle _ _ h7).drop _).take _
    ·have hjl:=(zge.1 hj).1
     rw [zlt] at hjl
     rw [List.getElem?_take,zp (by omega),List.getElem?_drop] at hj
     have hjv:=(zge.1 hj).1
     refine ⟨?_,by show _<upd g.fr b _ b;rw [aA];exact hjv⟩
     show aS g.heap b (off*sz+j)=some v
     simp only [aS,h4,List.getElem?_toArray]
     rw [List.getElem?_append_left hjv];exact hj
theorem vD {st:aD} {w:World} {g:G} (hm:MemOK P st w g) {id sz:Nat} {T:TypeId} {rows:List (List PV)} (hst:st id=some (.arr T rows)) (hT:P.cellsOf T=sz):
  ∃g',MemOK P (upd st id none) w g'/\Le g g'/\acB g' id sz rows/\g'.heap=g.heap/\(∀b,¬Blocks st g b->g'.fr b=g.fr b/\(g'.fm b↔g.fm b))/\(∀j,Go.Abs.blk g' j=Go.Abs.blk g j):=by
 have hob:=hm.obj id _ hst
 simp only [ObjOK] at hob
 obtain ⟨b,cap,h1,⟨h0,h2⟩|⟨h2,vs,sp,h3,h4,h5,h6,h7,h8⟩⟩:=hob
 ·subst h0;subst h2
  refine ⟨g,hm.sub λj=> ?_,Le.refl g,λoff len v hv=> ?_,rfl,λ_ _=>⟨rfl,Iff.rfl⟩,λ_=>rfl⟩
  ·by_cases h:j=id
   ·left;rw [h,aA]
   ·right;rw [aC h]
  ·simp only [Rep] at hv
   obtain ⟨b',n,cap',k1,k2,k3,k4,k5⟩:=hv
   rw [h1] at k1;injection k1 with k1;injection k1 with k1 k6;injection k6 with k6 k7
   subst k7
   rcases k5 with ⟨_,a,rfl⟩|⟨k5,_⟩
   ·unfold Rep
    exact ⟨a,0,by simp,by simp,by simp, .inl (by simp)⟩
   ·exact absurd rfl k5
 ·have hbl:Go.Abs.blk g id=some b:=by simp [Go.Abs.blk,h1,h2]
  obtain ⟨m1,m2,m3⟩:=aeQ hm hst hT h1 h2 h3 h4 h6 h7 h8
  exact ⟨_,m1,m2,m3,rfl,λb' hb'=>⟨aC λh=>hb' ⟨id,by rw [hst];simp,h▸hbl⟩,Iff.rfl⟩,λ_=>rfl⟩
theorem SI.subF {c:Ctx} {s s2:St} {a:Act} {w:World} {g:G} {lam:Nat->Nat} (hs:SI P c s a w g lam) {id sz:Nat} {T:TypeId} {rows:List (List PV)} (hst:s.st id=some (.arr T rows)) (hT:P.cellsOf T=sz) (h:SubF id sz rows s s2):∃g',SI P c s2 a w g' lam:=by
 obtain ⟨g',m1,m2,m3,m4,m5,m6⟩:=vD hs.mem hst hT
 have hbl:∀b,Blocks s2.st g' b->Blocks s.st g b:=λb hb=>by
  obtain ⟨j,j1,j2⟩:=hb.sub h.st
  exact ⟨j,(dQ j1).2,by rw [<-m6];exact j2⟩
 refine ⟨g',m1.sub h.st,hs.le.trans m2,⟨hs.frame.os,hs.frame.tape,hs.frame.output,hs.frame.size,λb hb hn=> ?_⟩,λb hb=>hs.blk b (hbl b hb),λt=> ?_,λt U ds e=> ?_,λt t' e e' hl=> ?_,h.ad,h.adL,hs.defers.mono rfl λ_ _=>by rw [m4],h.n▸hs.n,h.top▸hs.top⟩
 ·obtain ⟨f1,f2,f3⟩:=hs.frame.old b hb hn
  have hnb:¬Blocks s.st g b:=λhb'=>by
   rcases hs.blk b hb' with h'|h'
   ·exact hn h'
   ·omega
  obtain ⟨k1,k2⟩:=m5 b hnb
  exact ⟨f1,k1.trans f2,k2.trans f3⟩
 ·rcases h.env t with e|e|⟨p,q,e1,e2,e3⟩
  ·rw [e];simp [EntOK,Rep]
  ·rw [e];exact (hs.env t).mono m2
  ·rw [e2]
   have:=(hs.env t).mono m2
   rw [e1] at this
   exact Fz.rep m3 e3 _ this
 ·obtain ⟨cs,e1,e2⟩:=h.L t U ds e
  obtain ⟨vs,k1,k2,k3,k4,k5⟩:=hs.box t U cs e1
  exact ⟨vs,by rw [m4];exact k1,FzL.rep m3 e2 _ (RepL.mono m2 _ _ k2),by rw [(m5 _ k5).1];exact k3,k4,λhb=>k5 (hbl _ hb)⟩
 ·cases h1:s2.L t with
  |none=>exact absurd h1 e
  |some x=>
   cases h2:s2.L t' with
   |none=>exact absurd h2 e'
   |some y=>
    obtain ⟨_,k1,_⟩:=h.L t x.1 x.2 h1
    obtain ⟨_,k2,_⟩:=h.L t' y.1 y.2 h2
    exact hs.inj t t' (by rw [k1];simp) (by rw [k2];simp) hl
end
end
section
structure KeyOK (P:Program) (kt:TypeId) {K:Type} [DecidableEq K] (enc:K->Value) (rep:K->PV):Prop where
 und:(P.underlying kt).isSome=true
 chk:∀k b w,(Instr.checkKey b 10000 kt (enc k)).run P w= .ok () w
 now:∀kd,P.underlying kt=some kd->∀a b,Instr.sameNow kd (enc a) (enc b)=none\/Instr.sameNow kd (enc a) (enc b)=some (decide (a=b))
 eq:∀a b w,(Op.equal kt (enc a) (enc b)).run P w= .ok (decide (a=b)) w
 rp:∀k g v,Rep g (rep k) v->v=enc k
 bits:∀k,Instr.sameBits 10000 (enc k) (enc k)=true
section
variable {K V:Type} [DecidableEq K]
def aY (enc:K->Value) (f:V->PV) (l:List (K×V)):List (Value×PV):=l.map λe=>(enc e.1,f e.2)
def mE (k:K):List (K×V)->Option Nat
 |[]=>none
 |e::l=>if k=e.1 then some 0 else (mE k l).map (· +1)
def dK (k:K):List (K×V)->Option V
 |[]=>none
 |e::l=>if k=e.1 then some e.2 else dK k l
def cX (k:K) (v:V):List (K×V)->List (K×V)
 |[]=>[(k,v)]
 |e::l=>if k=e.1 then (k,v)::l else e::cX k v l
theorem kM {k:K}:∀{l:List (K×V)},mE k l=none->dK k l=none/\∀v,cX k v l=l++[(k,v)]
 |[],_=>⟨rfl,λ_=>rfl⟩
 |e::l,h=>by
  simp only [mE] at h
  split at h
  ·cases h
  ·rename_i hne
   have:=kM (l:=l) (by simpa using h)
   exact ⟨by simp only [dK,zn hne,this.1],λv=>by simp only [cX,zn hne,this.2 v,List.cons_append]⟩
theorem jZ {k:K}:∀{l:List (K×V)} {j:Nat},mE k l=some j->∃v,l[j]?=some (k,v)/\dK k l=some v/\∀v',cX k v' l=l.set j (k,v')
 |[],_,h=>by simp [mE] at h
 |e::l,j,h=>by
  simp only [mE] at h
  split at h
  ·rename_i he
   injection h with h;subst h
   exact ⟨e.2,by simp [he],by simp [dK,he],λv'=>by simp [cX,he]⟩
  ·rename_i hne
   obtain ⟨j',h1,rfl⟩:=Option.map_eq_some_iff.1 h
   obtain ⟨v,h2,h3,h4⟩:=jZ h1
   exact ⟨v,by simpa using h2,by simp only [dK,zn hne,h3],λv'=>by simp only [cX,zn hne,h4 v',List.set_cons_succ]⟩
variable {P:Program} {tt:TT} {kt:TypeId} {enc:K->Value} {rep:K->PV} {f:V->PV}
theorem RepE.getT {K V:Type} {enc:K->Value} {f:V->PV} {g:G}:∀{l:List (K×V)} {ms:List MapEntry} {j:Nat} {k:K} {v:V},RepE g (aY enc f l) ms->l[j]?=some (k,v)->∃m,ms[j]?=some m/\m.key=enc k/\Rep g (f v) m.val
 |[],_,_,_,_,_,h=>by simp at h
 |e::l,ms,j,k,v,hr,h=>by
  simp only [aY,zmp,RepE] at hr
  obtain ⟨m,ms',rfl,h1,h2,h3⟩:=hr
  cases j with
  |zero=>simp at h;subst h;exact ⟨m,by simp,h1,h2⟩
  |succ j=>simp at h;obtain ⟨m',k1,k2⟩:=RepE.getT (l:=l) h3 h;exact ⟨m',by simpa using k1,k2⟩
theorem RepE.lenT {K V:Type} {enc:K->Value} {f:V->PV} {g:G}:∀{l:List (K×V)} {ms:List MapEntry},RepE g (aY enc f l) ms->ms.length=l.length
 |[],_,h=>by simp only [aY,List.map_nil,RepE] at h;rw [h];rfl
 |e::l,ms,hr=>by
  simp only [aY,zmp,RepE] at hr
  obtain ⟨m,ms',rfl,h1,h2,h3⟩:=hr
  simp [RepE.lenT (l:=l) h3]
theorem RepE.pushT {K V:Type} {enc:K->Value} {f:V->PV} {g:G} {k:K} {v:V} {m:MapEntry} (hk:m.key=enc k) (hv:Rep g (f v) m.val):∀{l:List (K×V)} {ms:List MapEntry},RepE g (aY enc f l) ms->RepE g (aY enc f (l++[(k,v)])) (ms++[m])
 |[],_,h=>by
  simp only [aY,List.map_nil,RepE] at h
  subst h
  simp only [aY,List.nil_append,zmp,List.map_nil,RepE]
  exact ⟨m,[],rfl,hk,hv,rfl⟩
 |e::l,ms,hr=>by
  simp only [aY,zmp,RepE] at hr
  obtain ⟨m',ms',rfl,h1,h2,h3⟩:=hr
  simp only [aY,List.cons_append,zmp,RepE]
  exact ⟨m',_,rfl,h1,h2,RepE.pushT hk hv (l:=l) h3⟩
theorem RepE.setT {K V:Type} {enc:K->Value} {f:V->PV} {g:G} {k:K} {v:V} {m:MapEntry} (hk:m.key=enc k) (hv:Rep g (f v) m.val):∀{l:List (K×V)} {ms:List MapEntry} {j:Nat},RepE g (aY enc f l) ms->RepE g (aY enc f (l.set j (k,v))) (ms.set j m)
 |[],_,_,h=>by simp only [aY,List.map_nil,RepE] at h;subst h;simp [aY,RepE]
 |e::l,ms,j,hr=>by
  simp only [aY,zmp,RepE] at hr
  obtain ⟨m',ms',rfl,h1,h2,h3⟩:=hr
  cases j with
  |zero=>simp only [List.set_cons_zero,aY,zmp,RepE];exact ⟨m,_,rfl,hk,hv,h3⟩
  |succ j=>simp only [List.set_cons_succ,aY,zmp,RepE];exact ⟨m',_,rfl,h1,h2,RepE.setT hk hv (l:=l) h3⟩
def auG (k:K) (l:List (K×V)) (ms:List MapEntry) (i:Nat) (r:Option (Nat×Value)):Prop:=
 (mE k l=none/\r=none)\/∃j m,mE k l=some j/\ms[j]?=some m/\r=some (i+j,m.val)
theorem afG (hk:KeyOK P kt enc rep) {kd:TypeDesc} (hkd:P.underlying kt=some kd) (k:K) {g:G}:∀{l:List (K×V)} {ms:List MapEntry} (i:Nat),RepE g (aY enc f l) ms->
  Instr.findNow kd (enc k) ms i=none\/∃r,Instr.findNow kd (enc k) ms i=some r/\auG k l ms i r
 |[],ms,i,hr=>by
  simp only [aY,List.map_nil,RepE] at hr
  subst hr
  exact .inr ⟨none,rfl, .inl ⟨rfl,rfl⟩⟩
 |e::l,ms,i,hr=>by
  simp only [aY,zmp,RepE] at hr
  obtain ⟨m,ms',rfl,h1,h2,h3⟩:=hr
  simp only [Instr.findNow,h1]
  rcases hk.now kd hkd k e.1 with h|h
  ·left;rw [h]
  ·rw [h]
   by_cases he:k=e.1
   ·right
    refine ⟨some (i,m.val),by simp [he], .inr ⟨0,m,by simp [mE,he],by simp,rfl⟩⟩
   ·simp only [decide_eq_false he]
    rcases afG hk hkd k (i+1) h3 with h4|⟨r,h4,h5⟩
    ·exact .inl h4
    ·refine .inr ⟨r,h4, ?_⟩
     rcases h5 with ⟨h5,h6⟩|⟨j,m',h5,h6,h7⟩
     ·exact .inl ⟨by simp [mE,he,h5],h6⟩
     ·exact .inr ⟨j+1,m',by simp [mE,he,h5],by simpa using h6,by rw [h7];congr 2;omega⟩
theorem sW (hk:KeyOK P kt enc rep) (k:K) {g:G} {w:World}:∀{l:List (K×V)} {ms:List MapEntry} (i:Nat),RepE g (aY enc f l) ms->
  ∃r,(Instr.findAsking kt (enc k) ms i).run P w= .ok r w/\auG k l ms i r
 |[],ms,i,hr=>by
  simp only [aY,List.map_nil,RepE] at hr
  subst hr
  exact ⟨none,by simp [Instr.findAsking], .inl ⟨rfl,rfl⟩⟩
 |e::l,ms,i,hr=>by
  simp only [aY,zmp,RepE] at hr
  obtain ⟨m,ms',rfl,h1,h2,h3⟩:=hr
  by_cases he:k=e.1
  ·refine ⟨some (i,m.val), ?_, .inr ⟨0,m,by simp [mE,he],by simp,rfl⟩⟩
   simp [Instr.findAsking,h1,hk.eq,he]
  ·obtain ⟨r,h4,h5⟩:=sW hk k (w:=w) (i+1) h3
   refine ⟨r, ?_, ?_⟩
   ·simp [Instr.findAsking,h1,hk.eq,he,h4]
   ·rcases h5 with ⟨h5,h6⟩|⟨j,m',h5,h6,h7⟩
    ·exact .inl ⟨by simp [mE,he,h5],h6⟩
    ·exact .inr ⟨j+1,m',by simp [mE,he,h5],by simpa using h6,by rw [h7];congr 2;omega⟩
theorem uW (hk:KeyOK P kt enc rep) (k:K) {g:G} {w:World} {l:List (K×V)} {ms:List MapEntry} (hr:RepE g (aY enc f l) ms):
  ∃r,(Instr.findKey kt (enc k) ms).run P w= .ok r w/\auG k l ms 0 r:=by
 cases hkd:P.underlying kt with
 |none=>have:=hk.und;rw [hkd] at this;cases this
 |some kd=>
  rcases afG hk hkd k 0 hr with h|⟨r,h,h'⟩
  ·obtain ⟨r,h1,h2⟩:=sW hk k (w:=w) 0 hr
   exact ⟨r,by simp [Instr.findKey,run_underlying hkd,h,h1],h2⟩
  ·exact ⟨r,by simp [Instr.findKey,run_underlying hkd,h],h'⟩
def mX (z:PV) (f:V->PV) (ok:Bool):Option V->PV
 |some v=>bif ok then .tup [f v, .val (.bool true)] else f v
 |none=>bif ok then .tup [z, .val (.bool false)] else z
theorem acS (htt:bC P tt) (hk:KeyOK P kt enc rep) {T e:TypeId} {ok:Bool} {z:PV} (hT:tiK tt T=some (.map kt e)) (hz:pzv tt e=some z) (k:K) {g:G} {l:List (K×V)} {ents:Array MapEntry} (hr:RepE g (aY enc f l) ents.toList) {x:Value} {w:World}
  (hx:(x= .map none/\ents= #[])\/∃b clock,x= .map (some b)/\w.heap[b]?=some (.map ents clock)):∃v,(Instr.lookup T x (enc k) ok).run P w= .ok v w/\Rep g (mX z f ok (dK k l)) v:=by
 have hu:=vQ (aP htt hT).1
 obtain ⟨zv,z1,z2⟩:=ajI htt hz
 obtain ⟨r,f1,f2⟩:=uW hk k (w:=w) hr
 have main:(Instr.lookup T x (enc k) ok).run P w=((match r with
    |some (_,v)=>pure (v,true)
    |none=>do pure (<-zeroValue e,false):Sem (Value×Bool))>>=λ(vo:Value×Bool)=>pure (if ok then .tuple #[vo.1, .bool vo.2] else vo.1):Sem Value).run P w:=by
  rcases hx with ⟨rfl,rfl⟩|⟨b,clock,rfl,hb⟩
  ·simp only [Instr.lookup,Sem.run_bind,run_underlying hu,Result.andThen_ok,Sem.run_pure,hk.chk,f1]
   cases r<;>simp [Sem.run_bind,bU z1]
  ·simp only [Instr.lookup,Sem.run_bind,run_underlying hu,Result.andThen_ok,Sem.run_pure,MapKept.run_getObj_map hb,hk.chk,f1]
   cases r<;>simp [Sem.run_bind,bU z1]
 rcases f2 with ⟨h1,rfl⟩|⟨j,m,h1,h2,rfl⟩
 ·rw [(kM h1).1]
  refine ⟨if ok then .tuple #[zv, .bool false] else zv,by rw [main];simp [bU z1], ?_⟩
  cases ok with
  |true=>simp only [mX,zqt,if_true,Rep];exact ⟨[zv, .bool false],rfl,by simp only [RepL];exact ⟨zv,_,rfl,z2 g,_,_,rfl,by simp [Rep],rfl⟩⟩
  |false=>simpa [mX] using z2 g
 ·obtain ⟨v,h3,h4,_⟩:=jZ h1
  obtain ⟨m',h5,h6,h7⟩:=RepE.getT hr h3
  rw [h2] at h5;injection h5 with h5;subst h5
  rw [h4]
  refine ⟨if ok then .tuple #[m.val, .bool true] else m.val,by rw [main];simp, ?_⟩
  cases ok with
  |true=>simp only [mX,zqt,if_true,Rep];exact ⟨[m.val, .bool true],rfl,by simp only [RepL];exact ⟨m.val,_,rfl,h7,_,_,rfl,by simp [Rep],rfl⟩⟩
  |false=>simpa [mX] using h7
theorem adE (htt:bC P tt) (hk:KeyOK P kt enc rep) {o:Oper} {s:St} {T e:TypeId} {x y:Operand} {ok:Bool} {id:Nat} {z:PV} {l:List (K×V)} {k:K} (ho:o.op= .lookup T x y ok) (hx:opd s x=some (.mref id)) (hst:s.st id=some (.map (aY enc f l))) (hy:opd s y=some (rep k)) (hT:tiK tt T=some (.map kt e)) (hz:pzv tt e=some z):OpV P o s (mX z f ok (dK k l)):=by
 refine aM λw g ρ hm hρ=> ?_
 have rx:=hρ x (by rw [ho];simp [Op.operands]) _ hx
 have ey:=hk.rp k g _ (hρ y (by rw [ho];simp [Op.operands]) _ hy)
 simp only [Rep] at rx
 obtain ⟨b,n,cap,hio,hxv⟩:=rx
 have hob:=hm.obj id _ hst
 simp only [ObjOK] at hob
 obtain ⟨b',n',cap',ents,clock,h1,h2,h3,h4,h5,h6⟩:=hob
 rw [hio] at h1;injection h1 with h1;injection h1 with h1 _;subst h1
 rw [hm.heap] at h3
 obtain ⟨v,q1,q2⟩:=acS (ok:=ok) htt hk hT hz k h4 (.inr ⟨b,clock,hxv,h3⟩)
 exact ⟨v,by simp only [execOp,ho,ey,Sem.run_bind,q1,Result.andThen_ok,Sem.run_pure],q2⟩
theorem mem_map {st:aD} {w:World} {g:G} (hm:MemOK P st w g) {id b n cap:Nat} {es es':List (Value×PV)} {ents ents':Array MapEntry} {clock clock':Nat} (hst:st id=some (.map es)) (h1:g.io id=some (b,n,cap)) (h2:cap≠0) (hb:w.heap[b]?=some (.map ents clock)) (h5:¬g.fm b)
  (hr:RepE g es' ents'.toList) (hs:Stamps ents'.toList clock'):let w':World:={w with heap:=w.heap.setIfInBounds b (.map ents' clock')}
  MemOK P (upd st id (some (.map es'))) w' {g with heap:=w'.heap}/\Le g {g with heap:=w'.heap}/\Frame (Blocks st g) w g w' {g with heap:=w'.heap}/\(∀b',Blocks (upd st id (some (.map es'))) {g with heap:=w'.heap} b'->Blocks st g b'\/w.heap.size<=b'):=by
 intro w'
 have hb':w'.heap[b]?=some (.map ents' clock'):=(MapKept.heap_set hb).1
 refine gM hm (by rw [hst];simp) (by simp [Go.Abs.blk,h1,h2]) hb rfl (λi hi=> ?_) h5 (λhle=> ?_)
 ·show aS w'.heap b i=_
  simp only [aS,hb',hb]
 ·simp only [ObjOK]
  exact ⟨b,n,cap,ents',clock',h1,h2,hb',RepE.mono hle _ _ hr,h5,hs⟩
theorem adR (hk:KeyOK P kt enc rep) (k:K) (w:World):(Instr.keyThatStays (enc k) (enc k)).run P w= .ok (enc k) w:=by
 simp [Instr.keyThatStays,hk.bits]
theorem adK (htt:bC P tt) (hk:KeyOK P kt enc rep) {ty:TypeId} {pos:String} {after:Array Edge} {op:Op} {s:St} {T e:TypeId} {m y z:Operand} {id:Nat} {l:List (K×V)} {k:K} {v:V} (hop:op= .insert T m y z\/op= .mapUpdate T m y z) (hm:opd s m=some (.mref id)) (hy:opd s y=some (rep k)) (hz:opd s z=some (f v)) (hT:tiK tt T=some (.map kt e))
  (hst:s.st id=some (.map (aY enc f l))):OpZ P ⟨none,op,ty,pos,after,none⟩ s λx=>x=(upd s.st id (some (.map (aY enc f (cX k v l)))), .und):=by
 intro w g ρ hmm hρ
 have hops:m∈op.operands/\y∈op.operands/\z∈op.operands:=by rcases hop with rfl|rfl<;>simp [Op.operands]
 have rm:=hρ m hops.1 _ hm
 have ey:=hk.rp k g _ (hρ y hops.2.1 _ hy)
 have rz:=hρ z hops.2.2 _ hz
 simp only [Rep] at rm
 obtain ⟨b,n,cap,hio,hxv⟩:=rm
 have hob:=hmm.obj id _ hst
 simp only [ObjOK] at hob
 obtain ⟨b',n',cap',ents,clock,h1,h2,h3,h4,h5,h6⟩:=hob
 rw [hio] at h1;injection h1 with h1;injection h1 with h1 h1';injection h1' with h1' h1'';subst h1;subst h1''
 rw [hmm.heap] at h3
 have hu:=vQ (aP htt hT).1
 obtain ⟨r,f1,f2⟩:=uW hk k (w:=w) h4
 have go:∀(ents':Array MapEntry) (clock':Nat),RepE g (aY enc f (cX k v l)) ents'.toList->Stamps ents'.toList clock'->(Instr.mapUpdate T (ρ m) (ρ y) (ρ z)).run P w= .ok () {w with heap:=w.heap.setIfInBounds b (.map ents' clock')}->
   OpRes P (λv' w'=>∃g' x,x=(upd s.st id (some (.map (aY enc f (cX k v l)))),PV.und)/\Rep g' x.2 v'/\MemOK P x.1 w' g'/\Le g g'/\Frame (Blocks s.st g) w g w' g'/\∀b,Blocks x.1 g' b->Blocks s.st g b\/w.heap.size<=b) ((execOp ρ (⟨none,op,ty,pos,after,none⟩:Oper)).run P w):=by
  intro ents' clock' hr hs hrun
  have hrun':(execOp ρ (⟨none,op,ty,pos,after,none⟩:Oper)).run P w= .ok .skip {w with heap:=w.heap.setIfInBounds b (.map ents' clock')}:=by
   rcases hop with rfl|rfl<;>simp only [execOp,Sem.run_bind,hrun,Result.andThen_ok,Sem.run_pure]
  rw [hrun']
  obtain ⟨q1,q2,q3,q4⟩:=mem_map hmm hst hio h2 h3 h5 hr hs
  exact ⟨_,_,rfl,trivial,q1,q2,q3,q4⟩
 rcases f2 with ⟨k1,rfl⟩|⟨j,m0,k1,k2,rfl⟩
 ·refine go (ents.push {key:=enc k,val:=ρ z,born:=clock}) (clock+1) ?_ (by simpa using h6.push (enc k) (ρ z)) ?_
  ·rw [(kM k1).2 v]
   simpa using RepE.pushT (enc:=enc) (k:=k) (m:={key:=enc k,val:=ρ z,born:=clock}) rfl rz h4
  ·simp [Instr.mapUpdate,run_underlying hu,hxv,MapKept.run_getObj_map h3,ey,hk.chk,f1,MapKept.run_setObj_map _ h3]
 ·obtain ⟨v0,k3,k4,k5⟩:=jZ k1
  obtain ⟨m',k6,k7,k8⟩:=RepE.getT h4 k3
  rw [k2] at k6;injection k6 with k6;subst k6
  have hj:ents[j]?=some m0:=by simpa using k2
  refine go (ents.modify j λe=>{e with key:=enc k,val:=ρ z}) clock ?_ (by rw [cF k2];exact h6.set k2 (enc k) (ρ z)) ?_
  ·rw [k5 v,cF k2]
   exact RepE.setT (enc:=enc) (k:=k) (m:={m0 with key:=enc k,val:=ρ z}) rfl rz h4
  ·simp [Instr.mapUpdate,run_underlying hu,hxv,MapKept.run_getObj_map h3,ey,hk.chk,f1,hj,k7,adR hk,MapKept.run_setObj_map _ h3]
def oE (k:K) (z:V) (l:List (K×V)):List (K×V):=match mE k l with|some _=>l|none=>l++[(k,z)]
def mG (k:K) (l:List (K×V)):Nat:=(mE k l).getD l.length
theorem xV (htt:bC P tt) (hk:KeyOK P kt enc rep) {t:Nat} {ty:TypeId} {pos:String} {after:Array Edge} {s:St} {T e:TypeId} {m y:Operand} {id:Nat} {l:List (K×V)} {k:K} {z:V} (hm:opd s m=some (.mref id)) (hy:opd s y=some (rep k)) (hT:tiK tt T=some (.map kt e)) (hz:pzv tt e=some (f z))
  (hst:s.st id=some (.map (aY enc f l))):OpZ P ⟨some t, .mapEntry T m y,ty,pos,after,none⟩ s λx=>x=(upd s.st id (some (.map (aY enc f (oE k z l)))), .tup [f ((dK k l).getD z), .val (.int .i64 (mG k l:Nat))]):=by
 intro w g ρ hmm hρ
 have rm:=hρ m (by simp [Op.operands]) _ hm
 have ey:=hk.rp k g _ (hρ y (by simp [Op.operands]) _ hy)
 simp only [Rep] at rm
 obtain ⟨b,n,cap,hio,hxv⟩:=rm
 have hob:=hmm.obj id _ hst
 simp only [ObjOK] at hob
 obtain ⟨b',n',cap',ents,clock,h1,h2,h3,h4,h5,h6⟩:=hob
 rw [hio] at h1;injection h1 with h1;injection h1 with h1 h1';injection h1' with h1' h1'';subst h1;subst h1''
 rw [hmm.heap] at h3
 have hu:=vQ (aP htt hT).1
 obtain ⟨zv,z1,z2⟩:=ajI htt hz
 obtain ⟨r,f1,f2⟩:=uW hk k (w:=w) h4
 rcases f2 with ⟨k1,rfl⟩|⟨j,m0,k1,k2,rfl⟩
 ·have hrun:(execOp ρ (⟨some t, .mapEntry T m y,ty,pos,after,none⟩:Oper)).run P w= .ok (.value (.tuple #[zv,goInt clock])) {w with heap:=w.heap.setIfInBounds b (.map (ents.push {key:=enc k,val:=zv,born:=clock}) (clock+1))}:=by
   simp [execOp,Instr.mapEntry,run_underlying hu,hxv,MapKept.run_getObj_map h3,ey,hk.chk,f1,bU z1,MapKept.run_setObj_map _ h3]
  rw [hrun]
  obtain ⟨q1,q2,q3,q4⟩:=mem_map (ents':=ents.push {key:=enc k,val:=zv,born:=clock}) (clock':=clock+1) (es':=aY enc f (oE k z l)) hmm hst hio h2 h3 h5 (by
   unfold oE;rw [k1]
   simpa using RepE.pushT (enc:=enc) (k:=k) (m:={key:=enc k,val:=zv,born:=clock}) rfl (z2 g) h4) (by simpa using h6.push (enc k) zv)
  refine ⟨_,_,rfl, ?_,q1,q2,q3,q4⟩
  have hc:clock=l.length:=by rw [h6.1];exact RepE.lenT h4
  rw [(kM k1).1]
  simp only [Rep,mG,k1]
  exact ⟨[zv,goInt clock],rfl,by simp only [RepL,Option.getD_none];exact ⟨_,_,rfl,z2 _,_,_,rfl,by simp [Rep,goInt,hc],rfl⟩⟩
 ·obtain ⟨v0,k3,k4,k5⟩:=jZ k1
  obtain ⟨m',k6,k7,k8⟩:=RepE.getT h4 k3
  rw [k2] at k6;injection k6 with k6;subst k6
  have hj:ents[j]?=some m0:=by simpa using k2
  have hborn:m0.born=j:=h6.2 j m0 k2
  have hrun:(execOp ρ (⟨some t, .mapEntry T m y,ty,pos,after,none⟩:Oper)).run P w= .ok (.value (.tuple #[m0.val,goInt j])) {w with heap:=w.heap.setIfInBounds b (.map (ents.modify j λe=>{e with key:=enc k}) clock)}:=by
   simp [execOp,Instr.mapEntry,run_underlying hu,hxv,MapKept.run_getObj_map h3,ey,hk.chk,f1,hj,k7,adR hk,MapKept.run_setObj_map _ h3,hborn]
  rw [hrun]
  have hset:(ents.modify j λe=>{e with key:=enc k}).toList=ents.toList:=by
   rw [cF k2,<-k7]
   exact List.ext_getElem? λi=>by
    rw [List.getElem?_set]
    split
    ·rename_i hi;subst hi;rw [zp (zge.1 k2).1,k2]
    ·rfl
  obtain ⟨q1,q2,q3,q4⟩:=mem_map (ents':=ents.modify j λe=>{e with key:=enc k}) (clock':=clock) (es':=aY enc f (oE k z l)) hmm hst hio h2 h3 h5 (by
   unfold oE;rw [k1,hset];exact h4) (by rw [hset];exact h6)
  refine ⟨_,_,rfl, ?_,q1,q2,q3,q4⟩
  rw [k4]
  simp only [Rep,mG,k1]
  exact ⟨[m0.val,goInt j],rfl,by simp only [RepL,Option.getD_some];exact ⟨_,_,rfl,Rep.mono q2 _ _ k8,_,_,rfl,by simp [Rep,goInt],rfl⟩⟩
theorem tU {K V:Type} {enc:K->Value} {f:V->PV} {ty:TypeId} {pos:String} {after:Array Edge} {s:St} {T:TypeId} {m y z:Operand} {id j:Nat} {n:Int} {l:List (K×V)} {k:K} {v0 v:V} (hm:opd s m=some (.mref id)) (hy:opd s y=some (.val (.int .i64 n))) (hj:n=(j:Int)) (hz:opd s z=some (f v)) (hl:l[j]?=some (k,v0))
  (hst:s.st id=some (.map (aY enc f l))):OpZ P ⟨none, .entryStore T m y z,ty,pos,after,none⟩ s λx=>x=(upd s.st id (some (.map (aY enc f (l.set j (k,v))))), .und):=by
 intro w g ρ hmm hρ
 have rm:=hρ m (by simp [Op.operands]) _ hm
 have ey:=aK (hρ y (by simp [Op.operands]) _ hy)
 have rz:=hρ z (by simp [Op.operands]) _ hz
 simp only [Rep] at rm
 obtain ⟨b,n',cap,hio,hxv⟩:=rm
 have hob:=hmm.obj id _ hst
 simp only [ObjOK] at hob
 obtain ⟨b',n'',cap',ents,clock,h1,h2,h3,h4,h5,h6⟩:=hob
 rw [hio] at h1;injection h1 with h1;injection h1 with h1 h1';injection h1' with h1' h1'';subst h1;subst h1''
 rw [hmm.heap] at h3
 obtain ⟨m0,k1,k2,k3⟩:=RepE.getT h4 hl
 have hjl:j<ents.size:=by have:=(zge.1 k1).1;simpa using this
 have hfi:ents.findIdx? (λe=>(e.born:Int)==(j:Int))=some j:=by
  rw [Array.findIdx?_eq_some_iff_getElem]
  refine ⟨hjl, ?_,λi hi=> ?_⟩
  ·have:=h6.2 j ents[j] (by simp [hjl]);simp [this]
  ·have:=h6.2 i ents[i] (by simp);simp [this];try omega
 subst hj
 have hrun:(execOp ρ (⟨none, .entryStore T m y z,ty,pos,after,none⟩:Oper)).run P w= .ok .skip {w with heap:=w.heap.setIfInBounds b (.map (ents.modify j λe=>{e with val:=ρ z}) clock)}:=by
  simp [execOp,Instr.entryStore,hxv,ey,asInt,asIntOf,MapKept.run_getObj_map h3,hfi,MapKept.run_setObj_map _ h3]
 rw [hrun]
 have hk0:({m0 with val:=ρ z}:MapEntry)={m0 with key:=m0.key,val:=ρ z}:=rfl
 obtain ⟨q1,q2,q3,q4⟩:=mem_map (ents':=ents.modify j λe=>{e with val:=ρ z}) (clock':=clock) (es':=aY enc f (l.set j (k,v))) hmm hst hio h2 h3 h5 (by
  rw [cF k1];exact RepE.setT (enc:=enc) (k:=k) (m:={m0 with val:=ρ z}) k2 rz h4) (by rw [cF k1,hk0];exact h6.set k1 m0.key (ρ z))
 exact ⟨_,_,rfl,trivial,q1,q2,q3,q4⟩
end
end
end Go.Abs
