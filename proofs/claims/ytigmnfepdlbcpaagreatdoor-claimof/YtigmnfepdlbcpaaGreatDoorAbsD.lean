import Derived.Test.YtigmnfepdlbcpaaGreatDoorAbsC
import Derived.Laws.MakeOwn
set_option linter.all false
namespace Go.Abs
open Go
variable{R R':Value->World->Prop}{l r:List Oper}{o:Oper}{s s2:St}{dst:Option Nat}{p q:PV}{w w0:World}{g:G}{caps cs ps row:List PV}{sp:List Value}{a b c rows:List (List PV)}{id j off sz:Nat}{m x y z:Operand}{st:aD}{xs:Array Value}{o':AObj}{e ty:TypeId}{pos:String}{after:Array Edge}{L M i:IntKind}{n:Int}{v:Value}{α:Type}{ok:Bool}{es':List (Value×PV)}{ents':Array MapEntry}
section
section
variable{P:Program}{tt:TT}
theorem OpRes.mono{r:Result Next}(h:OpRes P R r)(b:∀v w,R v w->R' v w):OpRes P R' r:=by
 cases r with
 |halt x w=>simpa
 |ok n w=>
  cases n<;>simp only[OpRes]at h⊢
  ·grind
  ·grind
  ·exact h.mono λe w' ⟨v,a,hv⟩=>⟨v,a,b _ _ hv⟩
  ·exact h.mono λe w' ⟨v,a,hv⟩=>⟨v,a,b _ _ hv⟩
def OpZ(P:Program)(o:Oper)(s:St)(R:aD×PV->Prop):Prop:=
 ∀w g (ρ:Operand->Value),MemOK P s.st w g->(∀x∈o.op.operands,kC g s x (ρ x))->
  OpRes P (λv w'=>∃g' x,R x/\Rep g' x.2 v/\MemOK P x.1 w' g'/\Le g g'/\Frame (Blocks s.st g) w g w' g'/\∀b,Blocks x.1 g' b->Blocks s.st g b\/w.heap.size<=b) ((execOp ρ o).run P w)
theorem aMP{R:aD×PV->Prop}(hg:o.guard=none)(hd:iA o s=true)(hf:∀x∈o.op.operands,eQ s x)(h:OpZ P o s R):ZOp P l o s R:=by
 intro j q b hn c a w g lam hs u Q m;have i:∀x∈o.op.operands,opd j x=opd s x/\(eQ j x↔eQ s x):=λx hx=>aBk λt ht=>q t (qG (ht▸hx));unfold yV;have hw:Region.wanted o (yielded l.toArray a.tmps)=true:=by simp[Region.wanted,hg]
 rw[hw];have k:=h w g _ (b▸hs.mem) (λx hx p hp=>nN hs ((i x hx).2.2 (hf x hx)) p (by grind));refine dO k ?_;rintro v w' ⟨g',x,hR,h3,h4,h5,h6,h7⟩;refine m _ _ w' g' lam ⟨x,hR,rfl⟩ ?_;exact(hs.step h4 h5 (b▸h6) (b▸h7)).put (λt ht=>by
  have:=rV hd t ht
  show t<j.n
  grind) h3 λ_ _ e=>by grind
section
variable{l:List Oper}{d:Md}{r:List Oper}{s:St}{K:St->Prop}{t:Nat}{op:Op}{ty:TypeId}{pos:String}{after:Array Edge}{gd:Option (Nat×Bool)}
theorem eM{R:aD×PV->Prop}(h:OpZ P ⟨dst,op,ty,pos,after,none⟩ s R)(hm:∀x∈op.operands,x∈opl op)(hf:bS s (opl op)=true)(hd:iA ⟨dst,op,ty,pos,after,none⟩ s=true)(ht:jU d l r=true)(k:∀x,R x->Ev P l d r ((s.sst x.1).put dst true (.pv x.2)) K):Ev P l d (⟨dst,op,ty,pos,after,none⟩::r) s K:=
 aNv (aMP rfl hd (λx hx=>kZ hf x (hm x hx)) h) ht k
theorem tE{w:Bool}(hw:bG l ⟨some t,op,ty,pos,after,gd⟩ s=some w)(hv:w=true->OpV P ⟨some t,op,ty,pos,after,gd⟩ s p)(hm:∀x∈op.operands,x∈opl op)(hf:lC s w (opl op))(hd:Nat.blt t s.n=true)(ht:zG d l r=true)(k:Ev P l d r (s.put (some t) w (.pv p)) K):Ev P l d (⟨some t,op,ty,pos,after,gd⟩::r) s K:=
 aFB (.val _ w p hw hd (λa x hx=>rL a hf x (hm x hx)) hv) ht k
end
theorem tV(htt:bI P tt)(hh:g.heap=w.heap){b o:Nat}{T T':TypeId}{vs:List Value}{z:Nat×Nat}(hb:g.heap[b]?=some (.cells (vs++sp).toArray T' z))(q:RepL g cs vs)(h:nJ tt T cs o=some p):
  ∃v,(loadVar T ⟨b,o,none⟩).run P w= .ok v w/\Rep g p v:=by
 rw[hh]at hb
 have a:∀j v,vs[j]?=some v->w.cell? ⟨b,j,none⟩=some v:=λj v hj=>by
  rw[dV hb]
  grind
 unfold nJ at h
 split at h
 ·rename_i n ha hn
  cases e:Nat.ble (o+n) cs.length with
  |false=>rw[e]at h;simp at h
  |true=>
   rw[e]at h;simp only[zqt,cT]at h;injection h with h;subst h
   have hc:=Nat.le_of_ble_eq_true e;have hk:=(q.drop o).take n;have u:=q.length;have m:((vs.drop o).take n).length=n:=by simp;omega
   have c:=run_loadCells_list (P:=P) (w:=w) ⟨b,o,none⟩ ((vs.drop o).take n) (λj v hj=>by
    have k:j<n:=by have:=(zge.1 hj).1;omega
    rw[dA]
    exact a _ _ (by simpa[List.getElem?_take,k,List.getElem?_drop]using hj))
   rw[m]at c;refine⟨.agg ((vs.drop o).take n).toArray,?_,by simp only[Rep];exact⟨_,rfl,hk⟩⟩;have i:=(cH htt ha).1;simp[loadVar,eB i (rX i),aZ (aQ htt hn).1,c]
 ·rename_i n ha hn
  have⟨v,x,y⟩:=q.get h;have⟨i,hu⟩:=cH htt ha;exact⟨v,by simp[loadVar,eB i hu,a _ _ x],y⟩
 ·cases h
theorem uG(hl:∀r∈rows,r.length=sz)(a:rows[j]?=some row):(rows.flatten.drop (j*sz)).take sz=row/\(j+1)*sz<=rows.flatten.length:=by
 induction rows generalizing j with
 |nil=>simp at a
 |cons r rs ih=>
  cases j with
  |zero=>
   grind
  |succ j=>
   simp at a;have⟨b,c⟩:=ih (λr a=>hl r (by simp[a])) a;have e:(j+1)*sz=r.length+j*sz:=by grind
   refine⟨?_,?_⟩
   ·rw[List.flatten_cons,e,List.drop_append,List.drop_eq_nil_of_le (by omega)]
    simpa using b
   grind
theorem axW{T:TypeId}(hl:∀r∈rows,r.length=sz)(c:rows[j]?=some row)(h:nJ tt T row off=some p):nJ tt T rows.flatten (j*sz+off)=some p:=by
 have⟨i,k⟩:=uG hl c;have e:row.length=sz:=hl row (List.mem_of_getElem? c);have g:(j+1)*sz=j*sz+sz:=by rw[Nat.add_mul];omega
 unfold nJ at h⊢;split at h
 ·rename_i n ha hn
  cases a:Nat.ble (off+n) row.length with
  |false=>rw[a]at h;simp at h
  |true=>
   rw[a]at h;simp only[zqt,cT]at h;have hc:=Nat.le_of_ble_eq_true a;have b:Nat.ble (j*sz+off+n) rows.flatten.length=true:=Nat.ble_eq_true_of_le (by omega);rw[b];simp only[zqt,cT];rw[<-h]
   congr 2
   unfold dD;apply List.ext_getElem?
   grind
 ·grind
 ·cases h
theorem wW(htt:bI P tt){T T':TypeId}(ho:o.op= .load T x)(hx:opd s x=some (.el id sz j off))(i:s.st id=some (.arr T' rows))(hs:aP tt T'=some sz)(B:rows[j]?=some row)(h:nJ tt T row off=some p):OpV P o s p:=by
 refine aN λw g ρ hm hρ=>?_;have m:=hρ x (by rw[ho];simp[Op.operands]) _ hx;have⟨b,n,cap,c,q⟩:=m;have e:=hm.obj _ _ i;obtain⟨b',cap',a,⟨_,h0⟩|⟨C,vs,sp,D,h4,h5,u,A,h8⟩⟩:=e
 ·grind
 rw[c]at a;injection a with a;injection a with a h1';subst a
 have k:=(aQ htt hs).2;rw[k]at u;have⟨v,y,z⟩:=tV htt hm.heap h4 A (axW u B h);refine⟨v,?_,z⟩;simp[execOp,ho,Instr.loadAt,Instr.sureAddr,q,y]
theorem awU(htt:bI P tt){o:Oper}{s:St}{T T':TypeId}{x:Operand}{id off:Nat}{cs:List PV}{p:PV}(ho:o.op= .load T x)(hx:opd s x=some (.ref id off))(i:s.st id=some (.cells T' cs))(h:nJ tt T cs off=some p):OpV P o s p:=by
 refine aN λw g ρ hm hρ=>?_;have j:=hρ x (by rw[ho];simp[Op.operands]) _ hx;obtain⟨b,n,cap,c,k⟩:=j;have e:=hm.obj _ _ i;obtain⟨b',n',cap',vs,a,u,y,h4,h5⟩:=e;rw[c]at a;injection a with a;injection a with a h1';subst a
 obtain⟨v,m,q⟩:=tV htt (sp:=[]) hm.heap (by simpa) h4 h;refine⟨v,?_,q⟩;simp[execOp,ho,Instr.loadAt,Instr.sureAddr,k,m]
theorem aEY(w:World)(b:Nat)(xs:Array Value)(cur:Array Value)(T:TypeId)(h:w.heap[b]?=some (.cells cur T (0,0))):w.setRow b xs={w with heap:=w.heap.setIfInBounds b (.cells xs T (0,0))}:=by
 unfold World.setRow
 congr 1
 grind
theorem abM(hm:MemOK P st w g){b n cap:Nat}{cur:Array Value}{T:TypeId}(j:st id≠none)(k:g.io id=some (b,n,cap))(hc:cap≠0)(hb:w.heap[b]?=some (.cells cur T (0,0)))(o:g.fr b=0)(ho:∀g':G,g'.io=g.io->g'.fr=g.fr->g'.heap[b]?=some (.cells xs T (0,0))->Le g g'->ObjOK P g' id o'):
  ∃g',MemOK P (upd st id (some o')) (w.setRow b xs) g'/\Le g g'/\Frame (Blocks st g) w g (w.setRow b xs) g'/\(∀b',Blocks (upd st id (some o')) g' b'->Blocks st g b'\/w.heap.size<=b'):=by
 have a:¬g.fm b:=λh=>by
  have⟨e,c,p,_⟩:=hm.fmm b h
  grind
 rw[aEY w b _ _ T hb]
 have:=iU (y:= .cells xs T (0,0)) hm j (by simp[Go.Abs.blk,k,hc]) hb rfl (λi hi=>by omega) a λm=>ho _ rfl rfl (by grind) m
 grind
theorem aqH(htt:bI P tt){T T':TypeId}{e:List PV}(hx:opd s x=some (.ref id off))(u:s.st id=some (.cells T' cs))(h:mI tt s T y cs off=some e):
  OpZ P ⟨none, .store T x y,ty,pos,after,none⟩ s λz=>z=(upd s.st id (some (.cells T' e)), .und):=by
 intro w g ρ hm hρ
 have v:=hρ x (by simp[Op.operands]) _ hx
 simp only[Rep]at v
 have⟨b,n,cap,i,E⟩:=v
 have o:=hm.obj id _ u
 simp only[ObjOK]at o
 have⟨b',n',cap',vs,j,F,A,h4,h5⟩:=o
 rw[i]at j;injection j with j;injection j with j h1';injection h1' with h1' h1'';subst j;subst h1''
 unfold mI at h
 split at h
 ·rename_i ps k hp hk
  obtain⟨p,G,H,rfl⟩:=aeZ hp;cases hb:(Nat.beq p.cells.length k&&Nat.ble (off+k) cs.length)with
  |false=>rw[hb]at h;simp at h
  |true=>
   rw[hb]at h;simp only[zqt,cT]at h;injection h with h
   simp only[zba]at hb;have B:=Nat.eq_of_beq_eq_true hb.1;have I:=Nat.le_of_ble_eq_true hb.2;have⟨m1,N⟩:=(hρ y (by simp[Op.operands]) p G).cells H;have m:=h4.length;have a:=m1.length;have D:(ρ y).cells.size=k:=by simpa[B]using a
   rw[hm.heap]at A;have c:=run_storeCells_at P b off T' (ρ y).cells.toList 0 vs w A (by simp at m a⊢;omega) N;simp only[Nat.add_zero]at c;have⟨g',O,Q,R,S⟩:=abM (xs:=(vs.toList.take off++(ρ y).cells.toList++vs.toList.drop (off+(ρ y).cells.toList.length)).toArray) (o':= .cells T' e) hm (by rw[u];simp) i F A h5 (λg' J L M C=>by
    simp only[ObjOK]
    refine⟨b,n,cap,_,by rw[J];exact i,F,M,?_,by rw[L];exact h5⟩
    rw[<-h,gZ cs off p.cells (by omega)]
    have:=((h4.take off).append m1).append (h4.drop (off+p.cells.length))
    rw[a]
    exact RepL.mono C _ _ this)
   have q:(execOp ρ (⟨none, .store T x y,ty,pos,after,none⟩:Oper)).run P w= .ok .skip (w.setRow b (vs.toList.take off++(ρ y).cells.toList++vs.toList.drop (off+(ρ y).cells.toList.length)).toArray):=by
    simp only[execOp,Instr.storeAt,Instr.sureAddr,E,storeVar,aZ (aQ htt hk).1,Sem.run_bind,Sem.run_pure,Result.andThen_ok,D,ne_eq,not_true_eq_false,if_false,c]
   rw[q];exact⟨g',_,rfl,trivial,O,Q,R,S⟩
 ·cases h
theorem rN :∀(cs:List PV)(off:Nat)(ps:List PV),(iV cs off ps).length=cs.length
 |cs,0,[]=>by simp[iV]
 |[],0,p::ps=>rfl
 |[],n+1,ps=>rfl
 |c::cs,0,p::ps=>by simp[iV,rN _ 0 _]
 |c::cs,n+1,ps=>by simp[iV,rN _ n _]
theorem atZ(hl:∀r∈rows,r.length=sz)(a:rows[j]?=some row)(hc:off+ps.length<=sz):
  (rows.set j (iV row off ps)).flatten=iV rows.flatten (j*sz+off) ps:=by
 induction rows generalizing j with
 |nil=>simp at a
 |cons r rs ih=>
  have h:=hl r (by simp);cases j with
  |zero=>
   simp at a;subst a;simp only[List.set_cons_zero,List.flatten_cons,Nat.zero_mul,Nat.zero_add];rw[gZ r off ps (by omega),gZ _ off ps (by rw[zla];omega)];rw[List.take_append_of_le_length (by omega),List.drop_append_of_le_length (by omega)];simp
  |succ j=>
   simp at a;have g:=ih (λr a=>hl r (by simp[a])) a;have e:(j+1)*sz+off=r.length+(j*sz+off):=by rw[Nat.add_mul];omega
   have⟨_,i⟩:=uG (λr a=>hl r (by simp[a])) a;have k:(j+1)*sz=j*sz+sz:=by rw[Nat.add_mul];omega
   simp only[List.set_cons_succ,List.flatten_cons];rw[g,e,gZ _ _ ps (by omega),gZ (r++rs.flatten) _ ps (by rw[zla];omega)];rw[List.take_append,List.drop_append];have b:r.length+(j*sz+off)-r.length=j*sz+off:=by omega
   have c:r.length+(j*sz+off)+ps.length-r.length=j*sz+off+ps.length:=by omega
   rw[b,c,ztl (l:=r) (by omega),List.drop_eq_nil_of_le (as:=r) (by omega)];simp
theorem uH(htt:bI P tt){T T':TypeId}{e:List PV}(hx:opd s x=some (.el id sz j off))(A:s.st id=some (.arr T' rows))(hs:aP tt T'=some sz)(i:rows[j]?=some row)(h:mI tt s T y row off=some e):
  OpZ P ⟨none, .store T x y,ty,pos,after,none⟩ s λz=>z=(upd s.st id (some (.arr T' (rows.set j e))), .und):=by
 intro w g ρ hm hρ
 have C:=hρ x (by simp[Op.operands]) _ hx
 simp only[Rep]at C
 have⟨b,n,cap,m,M⟩:=C
 have u:=hm.obj id _ A
 simp only[ObjOK]at u
 obtain⟨b',cap',o,⟨_,h0⟩|⟨N,vs,sp,U,h4,h5,E,F,h8⟩⟩:=u
 ·rw[h0]at i;simp at i
 rw[m]at o;injection o with o;injection o with o h1';injection h1' with h1' h1'';subst o;subst h1'';subst h1'
 have B:=(aQ htt hs).2
 have hl:∀r∈rows,r.length=sz:=λr i=>by rw[<-B];exact E r i
 have⟨_,W⟩:=uG hl i
 have Y:row.length=sz:=hl row (List.mem_of_getElem? i)
 have e3:(j+1)*sz=j*sz+sz:=by rw[Nat.add_mul];omega
 unfold mI at h
 split at h
 ·rename_i ps k hp hk
  obtain⟨p,R,S,rfl⟩:=aeZ hp;cases hb:(Nat.beq p.cells.length k&&Nat.ble (off+k) row.length)with
  |false=>rw[hb]at h;simp at h
  |true=>
   rw[hb]at h;simp only[zqt,cT]at h;injection h with h
   simp only[zba]at hb;have H:=Nat.eq_of_beq_eq_true hb.1;have X:=Nat.le_of_ble_eq_true hb.2;have⟨m1,m2⟩:=(hρ y (by simp[Op.operands]) p R).cells S;have O:=F.length;have a:=m1.length;have L:(ρ y).cells.size=k:=by simpa[H]using a
   rw[hm.heap]at h4;have c:=run_storeCells_at P b (j*sz+off) T' (ρ y).cells.toList 0 (vs++sp).toArray w h4 (by rw[List.size_toArray,zla];omega) m2;simp only[Nat.add_zero]at c;have G:(ρ y).cells.toList.length=p.cells.length:=a;have⟨g',q1,q2,q3,q4⟩:=abM (xs:=((vs++sp).take (j*sz+off)++(ρ y).cells.toList++(vs++sp).drop (j*sz+off+(ρ y).cells.toList.length)).toArray) (o':= .arr T' (rows.set j e)) hm (by rw[A];simp) m N h4 h8 (λg' Z i2 Q I=>by
    have q:(vs++sp).take (j*sz+off)++(ρ y).cells.toList++(vs++sp).drop (j*sz+off+(ρ y).cells.toList.length)=(vs.take (j*sz+off)++(ρ y).cells.toList++vs.drop (j*sz+off+(ρ y).cells.toList.length))++sp:=by
     rw[List.take_append_of_le_length (by omega),List.drop_append_of_le_length (by omega)];simp
    rw[q]at Q
    simp only[ObjOK,List.length_set]
    refine⟨b,cap,by rw[Z];exact m, .inr ⟨N,_,sp,U,Q,?_,?_,?_,by rw[i2];exact h8⟩⟩
    ·simp only[zla,zlt,zld]at h5⊢
     omega
    ·intro r J
     rcases List.mem_or_eq_of_mem_set J with D|D
     ·exact E r D
     ·rw[D,<-h,rN];exact E row (List.mem_of_getElem? i)
    ·rw[<-h,atZ hl i (by omega),gZ _ _ _ (by omega)]
     have:=((F.take (j*sz+off)).append m1).append (F.drop (j*sz+off+p.cells.length));rw[G];exact RepL.mono I _ _ this)
   have v:(execOp ρ (⟨none, .store T x y,ty,pos,after,none⟩:Oper)).run P w= .ok .skip (w.setRow b ((vs++sp).take (j*sz+off)++(ρ y).cells.toList++(vs++sp).drop (j*sz+off+(ρ y).cells.toList.length)).toArray):=by
    simp only[execOp,Instr.storeAt,Instr.sureAddr,M,storeVar,aZ (aQ htt hk).1,Sem.run_bind,Sem.run_pure,Result.andThen_ok,L,ne_eq,not_true_eq_false,if_false,c]
   rw[v];exact⟨g',_,rfl,trivial,q1,q2,q3,q4⟩
 ·cases h
theorem nX(hm:MemOK P st w g){o:Obj}{n cap:Nat}(p:cap≠0)(h0:w0.heap=w.heap/\w0.os=w.os/\(w0.tape=w.tape/\w.drawn<=w0.drawn)/\w0.output=w.output)(mk:∀(g':G)(id:Nat),Le g g'->g'.io id=some (w.heap.size,n,cap)->g'.heap[w.heap.size]?=some o->g'.fr w.heap.size=0->¬g'.fm w.heap.size->ObjOK P g' id o'):
  ∃id g',g.io id=none/\st id=none/\g'.io id=some (w.heap.size,n,cap)/\MemOK P (upd st id (some o')) (w0.alloc o) g'/\Le g g'/\Frame (Blocks st g) w g (w0.alloc o) g'/\∀b',Blocks (upd st id (some o')) g' b'->Blocks st g b'\/w.heap.size<=b':=by
 have⟨hh,y,A,z⟩:=h0
 have⟨id,u,F⟩:=lM hm
 have ha:(w0.alloc o).heap=w.heap.push o:=by show w0.heap.push o=_;rw[hh]
 let g':G:={g with heap:=(w0.alloc o).heap,io:=upd g.io id (some (w.heap.size,n,cap))}
 have a:∀b,b<w.heap.size->(w0.alloc o).heap[b]?=w.heap[b]?:=λb hb=>by rw[ha,Array.getElem?_push];rw[zn (by omega)]
 have k:Le g g':=⟨pG u,λ_=>znr _,λb j hj=>by
   have hb:b<w.heap.size:=hm.lt b (by omega)
   show bB (w0.alloc o).heap b j=bB g.heap b j
   rw[hm.heap];simp only[bB,a b hb],λb hb=>⟨hb,by
   have⟨e,c,q,C⟩:=hm.fmm b hb
   show(w0.alloc o).heap[b]?=g.heap[b]?
   rw[hm.heap];exact a b (bQ q)⟩⟩
 have x:(w0.alloc o).heap[w.heap.size]?=some o:=by rw[ha];simp
 have m:¬g.fm w.heap.size:=λh=>by
  have⟨I,cl,e,_⟩:=hm.fmm _ h
  have:=bQ e;omega
 have v:g.fr w.heap.size=0:=by
  rcases Nat.eq_zero_or_pos (g.fr w.heap.size)with h|h
  ·exact h
  ·have:=hm.lt w.heap.size (by omega);omega
 have H:(w0.alloc o).heap.size=w.heap.size+1:=by rw[ha];simp
 have i:=iZ (w':=w0.alloc o) (g':=g') (id:=id) (b':=w.heap.size) (n':=n) (cap':=cap) (o':=o') hm u rfl rfl (λ_=> .inr rfl) (λb hb _=>a b hb) (λ_ _=>rfl) rfl (λ_=>m) (by omega) (λ_=>by omega) k
  (mk g' id k (aA _ _ _) x v m)
 have E:upd (upd st id none) id (some o')=upd st id (some o'):=by
  funext j
  by_cases h:j=id
  ·rw[h,aA,aA]
  ·rw[aB h,aB h,aB h]
 rw[E]at i
 refine⟨id,g',u,F,aA _ _ _,i,k,⟨y,A,z,by omega,λb hb hn=>⟨a b hb,rfl,Iff.rfl⟩⟩,λb' ⟨j,D,B⟩=>?_⟩
 by_cases h:j=id
 ·subst h
  right;simp[Go.Abs.blk,g',aA]at B;omega
 ·rw[aB h]at D
  refine .inl ⟨j,D,?_⟩;unfold Go.Abs.blk at B⊢;rwa[show g'.io j=g.io j from aB h]at B
theorem vQ(hm:MemOK P st w g){b n cap n':Nat}{cur:Array Value}{T:TypeId}(p:st id≠none)(x:g.io id=some (b,n,cap))(hc:cap≠0)(hb:w.heap[b]?=some (.cells cur T (0,0)))(o:g.fr b=0)(mk:∀(g':G)(a:Nat),Le g g'->g'.io a=some (b,n',cap)->g'.heap[b]?=some (.cells xs T (0,0))->g'.fr b=0->ObjOK P g' a o'):
  ∃a g',g.io a=none/\st a=none/\g'.io a=some (b,n',cap)/\MemOK P (upd (upd st id none) a (some o')) (w.setRow b xs) g'/\Le g g'/\Frame (Blocks st g) w g (w.setRow b xs) g'/\∀b',Blocks (upd (upd st id none) a (some o')) g' b'->Blocks st g b'\/w.heap.size<=b':=by
 have⟨a,v,z⟩:=lM hm
 have y:=bQ hb
 have m:Go.Abs.blk g id=some b:=by simp[Go.Abs.blk,x,hc]
 have i:Blocks st g b:=⟨id,p,m⟩
 have c:¬g.fm b:=λh=>by have⟨B,cl,q,_⟩:=hm.fmm b h;rw[hb]at q;cases q
 let g':G:={g with heap:=(w.setRow b xs).heap,io:=upd g.io a (some (b,n',cap))}
 have hl:Le g g':=⟨pG v,λ_=>znr _,λk j hj=>by
   have hk:k≠b:=λe=>by rw[e,o]at hj;omega
   show bB (w.setRow b xs).heap k j=bB g.heap k j
   rw[hm.heap];simp only[bB,bX w b xs k hk],λk hk=>⟨hk,by
   rw[hm.heap];exact bX w b xs k λe=>c (e▸hk)⟩⟩
 have A:(w.setRow b xs).heap.size=w.heap.size:=by simp[World.setRow]
 refine⟨a,g',v,z,aA _ _ _,iZ hm (id:=id) v rfl rfl (λ_=> .inl ⟨m,p⟩) (λk _ h=>bX w b xs k (h.resolve_left hc)) (λ_ _=>rfl) rfl (λ_=>c) (by omega) (λ_=>by omega) hl (mk g' a hl (aA _ _ _) (setRow_heap w b cur xs T (0,0) hb) o),hl,⟨rfl,⟨rfl,znr _⟩,rfl,by omega,λk hk hn=>⟨bX w b xs k λe=>hn (e▸i),rfl,Iff.rfl⟩⟩,?_⟩
 rintro b' ⟨j,j1,j2⟩
 by_cases hj:j=a
 ·rw[hj]at j2
  simp[Go.Abs.blk,g',aA]at j2;rw[<-j2.2];exact .inl i
 ·rw[aB hj]at j1
  have e:Go.Abs.blk g' j=Go.Abs.blk g j:=by unfold Go.Abs.blk;rw[show g'.io j=g.io j from aB hj]
  rw[e]at j2;by_cases u:j=id
  ·rw[u,aA]at j1;exact absurd rfl j1
  ·rw[aB u]at j1;exact .inl ⟨j,j1,j2⟩
theorem qE(hm:MemOK P st w g)(e:TypeId):∃id g',g.io id=none/\st id=none/\(∀sz a,Rep g' (.vec id sz 0 0) (.slice a 0 0))/\MemOK P (upd st id (some (.arr e []))) w g'/\Le g g'/\Frame (Blocks st g) w g w g'/\∀b',Blocks (upd st id (some (.arr e []))) g' b'->Blocks st g b'\/w.heap.size<=b':=by
 have⟨b,c,i⟩:=lM hm
 let g':G:={g with io:=upd g.io b (some (0,0,0))}
 have hl:Le g g':=⟨pG c,λ_=>znr _,λ_ _ _=>rfl,λ_ h=>⟨h,rfl⟩⟩;have k:MemOK P (upd st b (some (.arr e []))) w g':=by
  have:=iZ (w':=w) (g':=g') (n':=0) (b':=0) (o':= .arr e []) hm (id:=b) c hm.heap rfl (λh=>absurd rfl h) (λ_ _ _=>rfl) (λ_ _=>rfl) rfl (λh=>absurd rfl h) (znr _) (λh=>absurd rfl h) hl (by exact⟨0,0,aA _ _ _, .inl ⟨rfl,rfl⟩⟩);have o:upd (upd st b none) b (some (AObj.arr e []))=upd st b (some (.arr e [])):=by
   funext j
   by_cases h:j=b
   ·rw[h,aA,aA]
   ·rw[aB h,aB h,aB h]
  rwa[o]at this
 refine⟨b,g',c,i,λsz a=>?_,k,hl,⟨rfl,⟨rfl,znr _⟩,rfl,znr _,λ_ _ _=>⟨rfl,rfl,Iff.rfl⟩⟩,λb' ⟨j,n,m⟩=>?_⟩
 ·exact⟨0,0,0,aA _ _ _,by omega,by omega,by omega, .inl ⟨rfl,a,rfl⟩⟩
 ·by_cases h:j=b
  ·subst h;simp[Go.Abs.blk,g',aA]at m
  ·rw[aB h]at n
   refine .inl ⟨j,n,?_⟩;unfold Go.Abs.blk at m⊢;rwa[show g'.io j=g.io j from aB h]at m
theorem acU(htt:bI P tt)(hm:MemOK P st w g){T T2:TypeId}{a:Option Addr}{y:Value}{B:Nat}(hp:gQ p=some c)(hy:Rep g p y)(hk:tiK tt T=some (.slice e))(O:dM tt T2=true)(hs:aP tt e=some sz)(A:∀r∈c,r.length=sz)(h1:∀r∈c,r.all PV.one=true)(hB:P.bytesOf e=B)(hb:c.length*B<=140737488355328)(hz:(tiZ tt e).map List.length=some sz)(L:c.length<2^62):
  ∃v w' g' j,(Builtin.append_ #[T,T2] ty #[.slice a 0 0,y]).run P w= .ok v w'/\g.io j=none/\st j=none/\Rep g' (.vec j sz 0 c.length) v/\MemOK P (upd st j (some (.arr e c))) w' g'/\Le g g'/\Frame (Blocks st g) w g w' g'/\
   (∀b,Blocks (upd st j (some (.arr e c))) g' b->Blocks st g b\/w.heap.size<=b):=by
 have⟨news,h,S⟩:=aoJ htt hm hp hy O A h1
 have hu:=cD (aR htt hk).1
 have⟨k1,k2⟩:=aQ htt hs
 by_cases h0:c=[]
 ·subst h0
  have⟨id,g',H,I,J,m1,W,X,Y⟩:=qE hm e;cases hi:P.info? e with
  |none=>rw[hi]at k1;cases k1
  |some i=>
   have m:news=[]:=List.length_eq_zero_iff.1 (by simpa using h.newsLen);subst m;have q:i.size=sz:=by rw[hi]at k1;simpa using k1
   subst q;exact⟨_,w,g',id,sE T T2 ty e i hu hi a y h,H,I,J _ _,m1,W,X,Y⟩
 have Z:0<c.length:=List.length_pos_iff.2 h0
 cases hi:P.info? e with
 |none=>rw[hi]at k1;cases k1
 |some i=>
  have q:i.size=sz:=by rw[hi]at k1;simpa using k1
  have M:i.bytes=B:=by rw[<-hB];simp[Program.bytesOf,hi]
  subst q;subst M;have R:=h.newsLen;cases u:tiZ tt e with
  |none=>rw[u]at hz;cases hz
  |some zl=>
   rw[u]at hz;simp only[Option.map_some,Option.some.injEq]at hz;have⟨z,z1,z2⟩:=nH htt u;have N:i.zero=some z:=by rw[hi]at z1;simpa using z1
   have U:z.cells.size=i.size:=by rw[<-hz,<-z2];simp
   have hg:0<0+c.length:=by omega
   have x:=growslice_fits hg (show(0+c.length)*i.bytes<=140737488355328 by simpa using hb);have E:(Builtin.firstCells i.size 0 (.slice a 0 0)).run P w.drew= .ok ([]:List Value).toArray w.drew:=by
    cases a<;>simp[Builtin.firstCells,loadCells,loadCellsFrom]
   have F:=run_append_grow_src w T T2 ty e i z hu hi N a 0 0 [] E y c.length news h hg (by omega) x
   let k:=grownCap w (0+c.length) 0 e
   have D:c.length<=k:=by show _<=grownCap _ _ _ _;simp only[grownCap,Question.cut];omega
   have C:(Builtin.zeroCells z.cells (k-(0+c.length))).size=(k-c.length)*i.size:=by rw[size_zeroCells,U];simp
   have hq:(Builtin.zeroCells z.cells (k-(0+c.length))).toList.length=(k-c.length)*i.size:=by rw[<-C];exact Array.length_toList
   have⟨id,g',H,I,J,m1,W,X,Y⟩:=nX (w0:=w.drew) (o:= .cells ((([]:List Value)++news).toArray++Builtin.zeroCells z.cells (k-(0+c.length))) e) (n:=c.length) (cap:=k) (o':= .arr e c) hm (by omega) ⟨rfl,rfl,⟨rfl,Nat.le_succ _⟩,rfl⟩ (λg' id Q i1 i2 i3 _=>by
    simp only[ObjOK]
    refine⟨w.heap.size,k,i1, .inr ⟨by omega,news,(Builtin.zeroCells z.cells (k-(0+c.length))).toList,D,?_,?_,λr hr=>by rw[k2];exact A r hr,RepL.mono Q _ _ S,i3⟩⟩
    ·rw[i2];congr 2;apply Array.toList_inj.1;simp
    ·rw[zla,R,hq,k2,<-Nat.add_mul];congr 1;omega)
   refine⟨_,_,g',id,F,H,I,?_,m1,W,X,Y⟩;simp only[Rep];refine⟨_,_,_,J,by omega,D,L, .inr ⟨by omega,?_⟩⟩;simp[k]
theorem azI(htt:bI P tt){st:aD}{w:World}{g:G}(hm:MemOK P st w g){T T2 e ty:TypeId}{id:Nat}{rows k:List (List PV)}{p:PV}{x y:Value}{sz B:Nat}(Q:st id=some (.arr e rows))(hx:Rep g (.vec id sz 0 rows.length) x)(hp:gQ p=some k)(hy:Rep g p y)
  (hk:tiK tt T=some (.slice e)) (X:dM tt T2=true) (hs:aP tt e=some sz) (O:∀r∈k,r.length=sz) (h1:∀r∈k,r.all PV.one=true) (hB:P.bytesOf e=B) (hb:(rows.length+k.length)*B<=140737488355328)
  (hz:(tiZ tt e).map List.length=some sz) (H:rows.length+k.length<2^62):
  ∃v w' g' m,(Builtin.append_ #[T,T2] ty #[x,y]).run P w= .ok v w'/\st m=none/\Rep g' (.vec m sz 0 (rows.length+k.length)) v/\MemOK P (upd (upd st id none) m (some (.arr e (rows++k)))) w' g'/\Le g g'/\Frame (Blocks st g) w g w' g'/\
   (∀b,Blocks (upd (upd st id none) m (some (.arr e (rows++k)))) g' b->Blocks st g b\/w.heap.size<=b):=by
 obtain⟨news,E,hnr⟩:=aoJ htt hm hp hy X O h1
 have hu:=cD (aR htt hk).1
 obtain⟨k1,k2⟩:=aQ htt hs
 cases hi:P.info? e with
 |none=>rw[hi]at k1;cases k1
 |some i=>
  have hsz:i.size=sz:=by rw[hi]at k1;simpa using k1
  have hby:i.bytes=B:=by rw[<-hB];simp[Program.bytesOf,hi]
  subst hsz;subst hby;have hnl:=E.newsLen;simp only[Rep]at hx;obtain⟨b,n,cap,J,e2,e3,e4,hx⟩:=hx;have Z:MemOK P (upd st id none) w g:=hm.sub λj=>by
   by_cases h:j=id
   ·left;rw[h,aA]
   ·right;rw[aB h]
  have I:∀b',Blocks (upd st id none) g b'->Blocks st g b':=λb' ⟨j,j1,j2⟩=>⟨j,by
   by_cases h:j=id
   ·rw[h,aA]at j1;exact absurd rfl j1
   ·rwa[aB h]at j1,j2⟩
  have A:∀{m},g.io m=none->st m=none:=fun{m} f1=>by
   cases h:st m with
   |none=>rfl
   |some o=>obtain⟨x,hx⟩:=aaN (hm.obj m o h);rw[f1]at hx;cases hx
  rcases hx with⟨h0,a,rfl⟩|⟨hc0,rfl⟩
  ·have hn0:rows=[]:=List.length_eq_zero_iff.1 (by omega)
   subst hn0;obtain⟨v,w',g',m,q1,q2,_,q3,q4,q5,q6,q7⟩:=acU (ty:=ty) (a:=a) htt Z hp hy hk X hs O h1 hB (by simpa using hb) hz (by simpa using H);exact⟨v,w',g',m,q1,A q2,by simpa using q3,by simpa using q4,q5,q6.mono I,λb' N=>(q7 b' N).imp (I b') λh=>h⟩
  have hob:=hm.obj id _ Q;simp only[ObjOK]at hob;obtain⟨b',cap',t1,⟨t0,_⟩|⟨t2,vs,sp,t3,t4,t5,t6,t7,t8⟩⟩:=hob
  ·rw[J]at t1;injection t1 with t1;injection t1 with t1 t1';injection t1' with t1' t1'';omega
  rw[J]at t1;injection t1 with t1;injection t1 with t1 t1';injection t1' with t1' t1'';subst t1;subst t1'';subst t1'
  rw[k2]at t5 t6;have hvl:=t7.length;have hfl:rows.flatten.length=rows.length*i.size:=by
   clear hvl t7 J t3 Q hb H e2 e3 e4
   induction rows with
   |nil=>simp
   |cons r rs ih=>rw[List.flatten_cons,zla,t6 r (by simp),ih (λr hr=>t6 r (by simp[hr])),zlc,Nat.add_mul];omega
  have L:∀r∈rows++k,r.length=P.cellsOf e:=λr hr=>by
   rw[k2]
   rcases zma.1 hr with h|h
   ·exact t6 r h
   ·exact O r h
  rw[hm.heap]at t4;simp only[Nat.zero_mul,Nat.sub_zero];by_cases q:rows.length+k.length<=cap
  ·have M:rows.length*i.size+news.length<=(vs++sp).toArray.size:=by
    rw[List.size_toArray,t5,hnl,<-Nat.add_mul];exact Nat.mul_le_mul_right _ q
   have C:=wE T T2 ty e i hu hi b rows.length cap (vs++sp).toArray t4 y k.length news E q M;have U:(vs++sp).toArray.toList.take (rows.length*i.size)++news++(vs++sp).toArray.toList.drop (rows.length*i.size+news.length)=(vs++news)++sp.drop news.length:=by
    have S:vs.length=rows.length*i.size:=by omega
    skip
    rw[List.take_append_of_le_length (by omega),ztl (by omega),List.drop_append,List.drop_eq_nil_of_le (by omega)];simp[S]
   rw[U]at C;obtain⟨m,g',f1,f2,f3,m1,m2,m3,m4⟩:=vQ (n':=rows.length+k.length) (xs:=((vs++news)++sp.drop news.length).toArray) (o':= .arr e (rows++k)) hm (by rw[Q];simp) J t2 t4 t8 (λg' m D i1 i2 i3=>by
    simp only[ObjOK]
    refine⟨b,cap,by rw[zla];exact i1, .inr ⟨t2,vs++news,sp.drop news.length,by rw[zla];exact q,i2,?_,L,?_,i3⟩⟩
    ·rw[k2,<-t5]
     have S:vs.length=rows.length*i.size:=by omega
     simp only[zla,zld,List.size_toArray]at M⊢;omega
    ·rw[List.flatten_append];exact(RepL.mono D _ _ t7).append (RepL.mono D _ _ hnr))
   refine⟨_,_,g',m,C,f2,?_,m1,m2,m3,m4⟩;simp only[Rep];exact⟨_,_,_,f3,by omega,q,H, .inr ⟨t2,by simp⟩⟩
  ·cases R:tiZ tt e with
   |none=>rw[R]at hz;cases hz
   |some zl=>
    rw[R]at hz;simp only[Option.map_some,Option.some.injEq]at hz;obtain⟨z,z1,z2⟩:=nH htt R;have hiz:i.zero=some z:=by rw[hi]at z1;simpa using z1
    have hzs:z.cells.size=i.size:=by rw[<-hz,<-z2];simp
    have hg:cap<rows.length+k.length:=by omega
    have W:=growslice_fits hg hb;have S:vs.length=rows.length*i.size:=by omega
    have hold:=run_firstCells_some (P:=P) w.drew i.size rows.length ⟨b,0,none⟩ rows.length cap vs S (λj u hj=>by
     rw[dA,Nat.zero_add,dV (w:=w.drew) (c:=(vs++sp).toArray) t4]
     simp only[List.getElem?_toArray]
     rw[List.getElem?_append_left (zge.1 hj).1];exact hj)
    have C:=run_append_grow_src w T T2 ty e i z hu hi hiz (some ⟨b,0,none⟩) rows.length cap vs hold y k.length news E hg (by omega) W
    let F:=grownCap w (rows.length+k.length) cap e
    have hnc:rows.length+k.length<=F:=by show _<=grownCap _ _ _ _;simp only[grownCap,Question.cut];omega
    have Y:(Builtin.zeroCells z.cells (F-(rows.length+k.length))).size=(F-(rows.length+k.length))*i.size:=by rw[size_zeroCells,hzs]
    have hq:(Builtin.zeroCells z.cells (F-(rows.length+k.length))).toList.length=(F-(rows.length+k.length))*i.size:=by rw[<-Y];exact Array.length_toList
    obtain⟨m,g',f1,f2,f3,m1,m2,m3,m4⟩:=nX (w0:=w.drew) (o:= .cells ((vs++news).toArray++Builtin.zeroCells z.cells (F-(rows.length+k.length))) e) (n:=rows.length+k.length) (cap:=F) (o':= .arr e (rows++k)) Z (by omega) ⟨rfl,rfl,⟨rfl,Nat.le_succ _⟩,rfl⟩ (λg' id D i1 i2 i3 _=>by
     simp only[ObjOK]
     refine⟨w.heap.size,F,by rw[zla];exact i1, .inr ⟨by omega,vs++news,(Builtin.zeroCells z.cells (F-(rows.length+k.length))).toList,by rw[zla];exact hnc,?_,?_,L,?_,i3⟩⟩
     ·rw[i2];congr 2;apply Array.toList_inj.1;simp
     ·rw[zla,zla,S,hnl,hq,k2,<-Nat.add_mul,<-Nat.add_mul];congr 1;omega
     ·rw[List.flatten_append];exact(RepL.mono D _ _ t7).append (RepL.mono D _ _ hnr))
    refine⟨_,_,g',m,C,A f1,?_,m1,m2,m3.mono I,λb' N=>(m4 b' N).imp (I b') λh=>h⟩;simp only[Rep];exact⟨_,_,_,f3,by omega,hnc,H, .inr ⟨by omega,by simp[F]⟩⟩
end
end
section
section
variable{P:Program}{tt:TT}
theorem aAZ(htt:bI P tt){T:TypeId}{len:Nat}(ho:o.op= .indexAddr T x y)(hx:opd s x=some (.vec id sz off len))(hy:opd s y=some (.val (.int i n)))(hj:n=(j:Int))(h:j<len)(hk:tiK tt T=some (.slice e))(hs:aP tt e=some sz):OpV P o s (.el id sz (off+j) 0):=by
 refine aN λw g ρ hm hρ=>?_;have k:=hρ x (by rw[ho];simp[Op.operands]) _ hx;have m:=aL (hρ y (by rw[ho];simp[Op.operands]) _ hy);obtain⟨b,n',cap,c,p,q,u,⟨h4,_,h5⟩|⟨h4,h5⟩⟩:=k
 ·omega
 have hu:=cD (aR htt hk).1;subst hj;have a:(0:Int)<=(j:Int)/\(j:Int)<(len:Int):=by omega
 refine⟨.pointer _,?_,by exact⟨b,n',cap,c,rfl⟩⟩;simp only[execOp,ho,Instr.indexAt,m,h5,asIntOf,Sem.run_bind,Sem.run_pure,Result.andThen_ok,run_underlying hu];rw[zp a];simp only[Sem.run_bind,aZ (aQ htt hs).1,Result.andThen_ok,Sem.run_pure,zin,dA,Nat.add_mul,Nat.add_zero]
theorem agQ{f:Operand}{args:Array Operand}{k:Array TypeId}{b:FuncId}(qs:List PV){R:PV->aD->Prop}(hf:opd s f=some (.fn b caps))(c:pH s args.toList=some ps)(hw:WkL ps qs)(h:PC P b (qs++caps) s.st R):
  OpZ P ⟨dst, .call ⟨.value f,args,k⟩,ty,pos,after,none⟩ s λx=>R x.2 x.1:=by
 intro w g ρ hm hρ
 have i:=hρ f (by simp[Op.operands,Call.operands]) _ hf
 have j:=lY c (g:=g) (ρ:=ρ) λx hx=>hρ x (by simp[Op.operands,Call.operands];grind)
 have⟨vs,e,i⟩:=i
 have⟨hc,a⟩:=h
 rw[avK rfl e hc]
 simp only[OpRes]
 have:=a w g _ hm ((hw.rep j).append i)
 rw[show(args.map ρ++vs.toArray)=(args.toList.map ρ++vs).toArray from by simp]
 refine this.mono ?_
 rintro m w' ⟨v,p,st',g',rfl,hR,h3,h4,h5,h6,h7⟩
 exact⟨v,rfl,g',(st',p),hR,h3,h4,h5,h6,h7⟩
theorem aAL(htt:bI P tt){T T2:TypeId}(B:Nat)(hx:opd s x=some (.own id rows))(hy:opd s y=some p)(hp:gQ p=some a)(hk:tiK tt T=some (.slice e))(k:dM tt T2=true)(hs:aP tt e=some sz)(hz:(tiZ tt e).map List.length=some sz)(i:s.st id=some (.tok e))(m:∀r∈rows,r.length=sz)(n:∀r∈a,r.length=sz)(u:∀r∈a,r.all PV.one=true)(A:P.bytesOf e=B)(hb:(rows.length+a.length)*B<=140737488355328)(j:rows.length+a.length<2^62):
  OpZ P ⟨dst, .call ⟨.builtin .append, #[x,y], #[T,T2]⟩,ty,pos,after,none⟩ s λz=>∃b,s.st b=none/\z=(upd (upd s.st id none) b (some (.tok e)), .own b (rows++a)):=by
 intro w g ρ hm hρ
 have I:=hρ x (by simp[Op.operands,Call.operands]) _ hx
 have J:=hρ y (by simp[Op.operands,Call.operands]) _ hy
 have⟨v,w',g',b,C,L,D,E,F,G,H⟩:=aAt (ty:=ty) htt hm i I hp J hk k hs m n u A hb hz j
 have c:(execOp ρ (⟨dst, .call ⟨.builtin .append, #[x,y], #[T,T2]⟩,ty,pos,after,none⟩)).run P w= .ok (.value v) w':=cE rfl (by simp[builtin,C])
 rw[c]
 have q:s.st b=none:=by
  cases h:s.st b with
  |none=>rfl
  |some o=>have⟨z,hz⟩:=aaN (hm.obj b o h);grind
 exact⟨g',_,⟨b,q,rfl⟩,D,E,F,G,H⟩
theorem axG(htt:bI P tt){T T2:TypeId}{n:Nat}(B:Nat)(hx:opd s x=some (.vec id sz 0 n))(hn:rows.length=n)(hy:opd s y=some p)(hp:gQ p=some a)(hk:tiK tt T=some (.slice e))(i:dM tt T2=true)(hs:aP tt e=some sz)(hz:(tiZ tt e).map List.length=some sz)(k:s.st id=some (.arr e rows))(j:∀r∈a,r.length=sz)(m:∀r∈a,r.all PV.one=true)(o:P.bytesOf e=B)(hb:(rows.length+a.length)*B<=140737488355328)(h:rows.length+a.length<2^62):
  OpZ P ⟨dst, .call ⟨.builtin .append, #[x,y], #[T,T2]⟩,ty,pos,after,none⟩ s λz=>∃b,s.st b=none/\z=(upd (upd s.st id none) b (some (.arr e (rows++a))), .vec b sz 0 (rows.length+a.length)):=by
 subst hn
 intro w g ρ hm hρ
 have G:=hρ x (by simp[Op.operands,Call.operands]) _ hx
 have H:=hρ y (by simp[Op.operands,Call.operands]) _ hy
 have⟨v,w',g',b,q,u,A,C,D,E,F⟩:=azI (ty:=ty) htt hm k G hp H hk i hs j m o hb hz h
 have c:(execOp ρ (⟨dst, .call ⟨.builtin .append, #[x,y], #[T,T2]⟩,ty,pos,after,none⟩)).run P w= .ok (.value v) w':=cE rfl (by simp[builtin,q])
 rw[c]
 exact⟨g',_,⟨b,u,rfl⟩,A,C,D,E,F⟩
def isEmp :PV->Bool
 | .emp=>true
 | .val (.slice none 0 0)=>true
 |_=>false
theorem qO(h:isEmp p=true)(b:Rep g p v):∃a,v= .slice a 0 0:=by
 unfold isEmp at h;split at h
 ·simpa
 ·exact⟨none,b⟩
 ·cases h
theorem atD(htt:bI P tt){T T2:TypeId}(B:Nat)(hx:opd s x=some q)(hq:isEmp q=true)(hy:opd s y=some p)(hp:gQ p=some b)(hk:tiK tt T=some (.slice e))(j:dM tt T2=true)(hs:aP tt e=some sz)(hz:(tiZ tt e).map List.length=some sz)(k:∀r∈b,r.length=sz)(m:∀r∈b,r.all PV.one=true)(n:P.bytesOf e=B)(hb:b.length*B<=140737488355328)(i:b.length<2^62):
  OpZ P ⟨dst, .call ⟨.builtin .append, #[x,y], #[T,T2]⟩,ty,pos,after,none⟩ s λz=>∃c,s.st c=none/\z=(upd s.st c (some (.arr e b)), .vec c sz 0 b.length):=by
 intro w g ρ hm hρ
 have⟨a,G⟩:=qO hq (hρ x (by simp[Op.operands,Call.operands]) _ hx)
 have H:=hρ y (by simp[Op.operands,Call.operands]) _ hy
 have⟨v,w',g',c,o,_,u,A,C,D,E,F⟩:=acU (ty:=ty) (a:=a) htt hm hp H hk j hs k m n hb hz i
 have h:(execOp ρ (⟨dst, .call ⟨.builtin .append, #[x,y], #[T,T2]⟩,ty,pos,after,none⟩)).run P w= .ok (.value v) w':=cE rfl (by simp[builtin,G,o])
 rw[h]
 exact⟨g',_,⟨c,u,rfl⟩,A,C,D,E,F⟩
theorem aHF(z:List Value):∀n,(List.replicate n (z.map PV.val)).flatten=((List.replicate n z).flatten).map PV.val
 |0=>rfl
 |n+1=>by simp
theorem aJO(z:List Value):∀n,((List.replicate n z).flatten).length=n*z.length
 |0=>by simp
 |n+1=>by simp
theorem wG(htt:bI P tt){T:TypeId}{n B:Nat}{z:List Value}(hx:opd s x=some (.val (.int L (n:Int))))(hy:opd s y=some (.val (.int M (n:Int))))(hk:tiK tt T=some (.slice e))(hs:aP tt e=some sz)(hz:tiZ tt e=some z)(a:z.length=sz)(J:0<sz)(Q:P.bytesOf e=B)(hb:n*B<=140737488355328)(v:n<4611686018427387904):
  OpZ P ⟨dst, .makeSlice T x y,ty,pos,after,none⟩ s λY=>∃k,s.st k=none/\Y=(upd s.st k (some (.arr e (List.replicate n (z.map .val)))), .vec k sz 0 n):=by
 intro w g ρ hm hρ
 have ex:=aL (hρ x (by simp[Op.operands]) _ hx)
 have N:=aL (hρ y (by simp[Op.operands]) _ hy)
 have hu:=cD (aR htt hk).1
 have⟨k1,k2⟩:=aQ htt hs
 have⟨v0,z1,z2⟩:=nH htt hz
 cases hi:P.info? e with
 |none=>rw[hi]at k1;cases k1
 |some i=>
  have D:i.size=sz:=by rw[hi]at k1;simpa using k1
  have A:i.bytes=B:=by rw[<-Q];simp[Program.bytesOf,hi]
  subst D;subst A;have C:i.zero=some v0:=by rw[hi]at z1;simpa using z1
  have c:(i.bytes:Int)*(n:Int)<=281474976710656:=by
   have:(i.bytes:Int)*(n:Int)=((n*i.bytes:Nat):Int):=by rw[Int.natCast_mul,Int.mul_comm]
   rw[this];omega
  have j:madeCells v0.cells (n*i.size)=((List.replicate n z).flatten).toArray:=by
   apply Array.toList_inj.1;have:=tK z (by intro h;rw[h]at a;simp at a;omega) n;rw[<-this,<-a];unfold madeCells;rw[show v0.cells=z.toArray from by apply Array.toList_inj.1;simpa using z2];simp
  have p:=run_make (P:=P) w T e i v0 hu hi C L M n n (by omega) (Int.le_refl _) c (by omega);simp only[zin,j]at p;have m:(execOp ρ (⟨dst, .makeSlice T x y,ty,pos,after,none⟩:Oper)).run P w= .ok (.value (.slice (some ⟨w.heap.size,0,none⟩) n n)) (w.alloc (.cells ((List.replicate n z).flatten).toArray e)):=by
   simp only[execOp,ex,N,Sem.run_bind,p,Result.andThen_ok,Sem.run_pure]
  rw[m];by_cases h0:n=0
  ·subst h0
   have⟨m1,E,X⟩:=lT hm (.cells #[] e);have⟨id,g',O,q,u,F,G,H,I⟩:=qE m1 e;refine⟨g',_,⟨id,q,by simp;rfl⟩,u _ _,F,E.trans G,(X.mono λ_ h=>h.elim).trans H λb _ hb=>(kM hm E b).1 hb,λb hb=>?_⟩;rcases I b hb with h|h
   ·exact .inl ((kM hm E b).1 h)
   ·right
    have:(w.alloc (.cells #[] e)).heap.size=w.heap.size+1:=by show(w.heap.push _).size=_;simp
    simp at h;omega
  ·have⟨id,g',O,q,u,F,G,H,I⟩:=nX (w0:=w) (o:= .cells ((List.replicate n z).flatten).toArray e) (n:=n) (cap:=n) (o':= .arr e (List.replicate n (z.map .val))) hm (by omega) ⟨rfl,rfl,⟨rfl,znr _⟩,rfl⟩ (λg' id R S U W _=>by
    simp only[ObjOK,List.length_replicate];refine⟨w.heap.size,n,S, .inr ⟨h0,(List.replicate n z).flatten,[],znr _,by simpa using U,?_,λr p=>?_,?_,W⟩⟩
    ·rw[List.append_nil,aJO,a,k2]
    ·rw[List.eq_of_mem_replicate p,zql,a,k2]
    ·rw[aHF];exact RepL.vals _)
   refine⟨g',_,⟨id,q,rfl⟩,?_,F,G,H,I⟩;simp only[Rep];exact⟨_,_,_,u,by omega,by omega,v, .inr ⟨h0,by simp⟩⟩
end
end
section
section
variable{P:Program}{tt:TT}
def St.shared(s:St)(u id:Nat)(T:TypeId)(cs:List PV):St:={s with env:=upd s.env u (true, .pv (.ref id 0)),L:=upd s.L u none,st:=upd s.st id (some (.cells T cs))}
theorem dP{f:Nat->Option α}{u t:Nat}(h:upd f u none t≠none):t≠u/\f t≠none:=by
 by_cases a:t=u
 ·rw[a,aA]at h;grind
 ·rw[aB a]at h;grind
theorem SI.share{c:Ctx}{a:Act}{lam:Nat->Nat}(hs:SI P c s a w g lam)(u:Nat){T:TypeId}(hx:s.env u=(true, .adr u 0))(hL:s.L u=some (T,cs)):∃id g',s.st id=none/\SI P c (s.shared u id T cs) a w g' lam:=by
 have⟨vs,z,E,F,h4,h5⟩:=hs.box u T cs hL;have I:lam u<w.heap.size:=by have:=bQ z;rwa[hs.mem.heap]at this
 have⟨id,C,D⟩:=lM hs.mem
 let g':G:={g with io:=upd g.io id (some (lam u,0,1))}
 have p:Le g g':=⟨pG C,λ_=>znr _,λ_ _ _=>rfl,λ_ h=>⟨h,rfl⟩⟩;have hb:∀j,j≠id->Go.Abs.blk g' j=Go.Abs.blk g j:=λj h=>by unfold Go.Abs.blk;rw[show g'.io j=g.io j from aB h]
 have x:Go.Abs.blk g' id=some (lam u):=by simp[Go.Abs.blk,g',aA]
 have hm:MemOK P (upd s.st id (some (.cells T cs))) w g':=by
  refine⟨hs.mem.heap,λj o e=>?_,λj j' b e i h m=>?_,hs.mem.lt,hs.mem.fmm,?_⟩
  ·by_cases hj:j=id
   ·subst hj
    rw[aA]at e;injection e with e;subst e
    simp only[ObjOK];exact⟨lam u,0,1,vs,aA _ _ _,by omega,z,RepL.mono p _ _ E,F⟩
   ·rw[aB hj]at e
    exact(hs.mem.obj j o e).keep p λ_ _=>⟨rfl,rfl,Iff.rfl⟩
  ·by_cases hj:j=id
   ·by_cases k:j'=id
    ·rw[hj,k]
    ·exfalso
     rw[aB k]at i;rw[hj,x]at h;injection h with h;subst h
     rw[hb j' k]at m;exact h5 ⟨j',i,m⟩
   ·rw[aB hj]at e
    rw[hb j hj]at h;by_cases k:j'=id
    ·exfalso
     rw[k,x]at m;injection m with m;subst m
     exact h5 ⟨j,e,h⟩
    ·rw[aB k]at i
     rw[hb j' k]at m;exact hs.mem.inj j j' b e i h m
  ·have⟨N,H⟩:=hs.mem.fin
   exact⟨max N (id+1),λj hj=>by show upd g.io id _ j=none;rw[aB (by omega)];exact H j (by omega)⟩
 have A:∀b,Blocks (upd s.st id (some (.cells T cs))) g' b->b=lam u\/Blocks s.st g b:=λb ⟨j,B,y⟩=>by
  by_cases hj:j=id
  ·rw[hj,x]at y;injection y with y;exact .inl y.symm
  ·rw[aB hj]at B;rw[hb j hj]at y;exact .inr ⟨j,B,y⟩
 refine⟨id,g',D,hm,hs.le.trans p,?_,λb q=>?_,λt=>?_,λt U ds e=>?_,λt Q e i=>?_,λt b v off e=>?_,λt e=>?_,hs.defers,hs.n,hs.top⟩
 ·exact⟨hs.frame.os,hs.frame.tape,hs.frame.output,hs.frame.size,hs.frame.old⟩
 ·rcases A b q with h|h
  ·right;rw[h];exact h4
  ·exact hs.blk b h
 ·show EntOK g' lam (upd s.env u _ t) _
  by_cases h:t=u
  ·subst h
   rw[aA];have:=hs.env t;rw[hx]at this;simp only[EntOK,Rep]at this⊢;exact⟨lam t,0,1,aA _ _ _,this⟩
  ·rw[aB h];exact(hs.env t).mono p
 ·have i:upd s.L u none t=some (U,ds):=e
  by_cases h:t=u
  ·rw[h,aA]at i;cases i
  ·rw[aB h]at i
   have⟨R,k1,k2,J,M,O⟩:=hs.box t U ds i;refine⟨R,k1,RepL.mono p _ _ k2,J,M,λq=>?_⟩;rcases A _ q with m|m
   ·exact h (hs.inj t u (by rw[i];simp) (by rw[hL];simp) m)
   ·exact O m
 ·exact hs.inj t Q (dP e).2 (dP i).2
 ·have i:upd s.env u (true, .pv (.ref id 0)) t=(b, .adr v off):=e
  by_cases h:t=u
  ·rw[h,aA]at i;cases i
  ·rw[aB h]at i;exact hs.ad t b v off i
 ·exact hs.adL t (dP e).2
theorem aEN{b:Code}{Q:Exit->St->Prop}(u:Nat){T:TypeId}(hx:s.env u=(true, .adr u 0))(hL:s.L u=some (T,cs))(k:∀id,s.st id=none->PWp P b Q (s.shared u id T cs)):PWp P b Q s:=by
 intro c a w g lam hs;have⟨id,g',e,h⟩:=hs.share u hx hL;exact k _ e c a w _ _ h
theorem gF{K:St->Prop}(u:Nat){T:TypeId}(hx:s.env u=(true, .adr u 0))(hL:s.L u=some (T,cs))(k:∀id,s.st id=none->Ev P l .seq (o::r) (s.shared u id T cs) K):Ev P l .seq (o::r) s K:=by
 intro c a w g lam hs;have⟨id,g',b,e⟩:=hs.share u hx hL;exact k _ b c a w _ _ e
mutual
inductive Fz (id sz:Nat) (rows:List (List PV)):PV->PV->Prop
 |refl {p:PV}:Fz id sz rows p p
 |vec {off len:Nat}:Fz id sz rows (.vec id sz off len) (.seq ((rows.drop off).take len))
 |all:Fz id sz rows (.vec id sz 0 rows.length) (.seq rows)
 |agg {cs ds:List PV} (h:FzL id sz rows cs ds):Fz id sz rows (.agg cs) (.agg ds)
 |tup {cs ds:List PV} (h:FzL id sz rows cs ds):Fz id sz rows (.tup cs) (.tup ds)
inductive FzL (id sz:Nat) (rows:List (List PV)):List PV->List PV->Prop
 |nil:FzL id sz rows [] []
 |cons {p q:PV} {ps qs:List PV} (h:Fz id sz rows p q) (t:FzL id sz rows ps qs):FzL id sz rows (p::ps) (q::qs)
end
theorem FzL.refl{id sz:Nat}{rows:List (List PV)}:∀(cs:List PV),FzL id sz rows cs cs
 |[]=> .nil
 |_::cs=> .cons .refl (FzL.refl _)
def aqQ(g:G)(id sz:Nat)(rows:List (List PV)):Prop:=
 ∀off len v,Rep g (.vec id sz off len) v->Rep g (.seq ((rows.drop off).take len)) v
mutual
theorem Fz.rep{g:G}{id sz:Nat}{rows:List (List PV)}(hf:aqQ g id sz rows):∀{p q:PV},Fz id sz rows p q->∀v,Rep g p v->Rep g q v
 |_,_, .refl,v,h=>h
 |_,_, .vec,v,h=>hf _ _ v h
 |_,_, .all,v,h=>by have:=hf _ _ v h;simpa using this
 |_,_, .agg h',v,h=>by
  simp only[Rep]at h⊢
  have⟨vs,e,h⟩:=h
  exact⟨vs,e,FzL.rep hf h' vs h⟩
 |_,_, .tup h',v,h=>by
  simp only[Rep]at h⊢
  have⟨vs,e,h⟩:=h
  exact⟨vs,e,FzL.rep hf h' vs h⟩
theorem FzL.rep{g:G}{id sz:Nat}{rows:List (List PV)}(hf:aqQ g id sz rows):∀{ps qs:List PV},FzL id sz rows ps qs->∀vs,RepL g ps vs->RepL g qs vs
 |_,_, .nil,vs,h=>h
 |_,_, .cons h1 h2,vs,h=>by
  simp only[RepL]at h⊢
  have⟨v,a,e,b,h4⟩:=h
  exact⟨v,a,e,Fz.rep hf h1 v b,FzL.rep hf h2 a h4⟩
end
structure SubF (id sz:Nat) (rows:List (List PV)) (s s2:St):Prop where
 env:∀t,s2.env t=(true, .pv .und)\/s2.env t=s.env t\/∃p q,s.env t=(true, .pv p)/\s2.env t=(true, .pv q)/\Fz id sz rows p q
 L:∀t T ds,s2.L t=some (T,ds)->∃cs,s.L t=some (T,cs)/\FzL id sz rows cs ds
 st:StSub s2.st (upd s.st id none)
 n:s2.n=s.n
 top:s2.top=s.top
 ad:∀t w u off,s2.env t=(w, .adr u off)->s2.ad u=true
 adL:∀t,s2.L t≠none->s2.ad t=true
theorem SubF.nil(s:St)(n:Nat)(st:aD)(h:StSub st (upd s.st id none))(hn:(n,none)=(s.n,s.top)):SubF id sz rows s (St.nil n st):=
 ⟨λ_=> .inl rfl,λ_ _ _ e=>(by cases e),h,(Prod.mk.inj hn).1,(Prod.mk.inj hn).2,λ_ _ _ _ e=>(by cases e),λ_ e=>absurd rfl e⟩
theorem alH{sz:Nat}:∀{rows:List (List PV)}{k:Nat},(∀r∈rows,r.length=sz)->(rows.drop k).flatten=rows.flatten.drop (k*sz)
 |rows,0,_=>by simp
 |[],k+1,_=>by simp
 |r::rs,k+1,h=>by
  rw[List.drop_succ_cons,alH (λr a=>h r (by grind)),List.flatten_cons,List.drop_append,List.drop_eq_nil_of_le (as:=r) (by grind),h r (by simp),Nat.add_mul]
  simp
theorem amC{sz:Nat}:∀{rows:List (List PV)}{k:Nat},(∀r∈rows,r.length=sz)->(rows.take k).flatten=rows.flatten.take (k*sz)
 |rows,0,_=>by simp
 |[],k+1,_=>by simp
 |r::rs,k+1,h=>by
  have a:=h r (by simp)
  rw[List.take_succ_cons,List.flatten_cons,amC (λr a=>h r (by grind)),List.flatten_cons,List.take_append,ztl (l:=r) (by grind),a]
  grind
theorem auU(hm:MemOK P st w g){T:TypeId}(z:st id=some (.arr T rows))(hT:P.cellsOf T=sz){b cap:Nat}{vs:List Value}(A:g.io id=some (b,rows.length,cap))(I:cap≠0)(L:rows.length<=cap)(h4:g.heap[b]?=some (.cells (vs++sp).toArray T (0,0)))(B:∀r∈rows,r.length=P.cellsOf T)(C:RepL g rows.flatten vs)(h8:g.fr b=0):
  MemOK P (upd st id none) w {g with fr:=upd g.fr b vs.length}/\Le g {g with fr:=upd g.fr b vs.length}/\aqQ {g with fr:=upd g.fr b vs.length} id sz rows:=by
 let g':G:={g with fr:=upd g.fr b (vs.length)}
 have k:Le g g':=by
  refine⟨λ_ _ h=>h,λb'=>?_,λ_ _ _=>rfl,λ_ h=>⟨h,rfl⟩⟩;show g.fr b'<=upd g.fr _ _ b';by_cases h:b'=b
  ·rw[h,h8];exact Nat.zero_le _
  ·rw[aB h];exact znr _
 have D:Go.Abs.blk g id=some b:=by simp[Go.Abs.blk,A,I]
 have x:b<w.heap.size:=by have:=bQ h4;rwa[hm.heap]at this
 refine⟨⟨hm.heap,λj o e=>?_,λj j' b' e J=>hm.inj j j' b' (dP e).2 (dP J).2,λb' i=>?_,hm.fmm,hm.fin⟩,k,λoff len v hv=>?_⟩
 ·have hj:=(dP (f:=st) (u:=id) (t:=j) (by rw[e];simp)).1
  rw[aB hj]at e;refine(hm.obj j o e).keep k λb' i=>⟨rfl,aB λh=>?_,Iff.rfl⟩;subst h;exact hj (hm.inj j id b' (by rw[e];simp) (by rw[z];simp) i D)
 ·by_cases h:b'=b
  ·rw[h];exact x
  ·exact hm.lt b' (by rwa[show g'.fr b'=g.fr b' from aB h]at i)
 ·have q:=C.length
  have M:rows.flatten.length=rows.length*P.cellsOf T:=by
   clear q C L z A
   induction rows with
   |nil=>simp
   |cons r rs ih=>rw[List.flatten_cons,zla,B r (by simp),ih (λr m=>B r (by simp[m])),zlc,Nat.add_mul];omega
  simp only[Rep]at hv;have⟨b',n,cap',k1,k2,N,O,H⟩:=hv;have a:g.io id=some (b',n,cap'):=k1;rw[A]at a;injection a with a;injection a with a k6;injection k6 with k6 k7
  subst a;subst k6;subst k7;rcases H with⟨H,_⟩|⟨_,rfl⟩
  ·exact absurd H I
  ·unfold Rep
   have c:((rows.drop off).take len).length=len:=by rw[zlt,zld];omega
   refine⟨_,_,by rw[c],by rw[c];omega,by rw[c];omega,?_⟩;by_cases F:len=0
   ·left;rw[F];simp
   ·right
    have p:∀r∈rows,r.length=sz:=λr m=>by rw[<-hT];exact B r m
    refine⟨b,off*sz,sz,rfl,RepR.mk (vs:=(vs.drop (off*sz)).take (len*sz)) (λr m=>p r (List.mem_of_mem_drop (List.mem_of_mem_take m))) ?_ λj v hj=>?_⟩
    ·rw[amC λr m=>p r (List.mem_of_mem_drop m),alH p]
     exact((RepL.mono k _ _ C).drop _).take _
    ·have E:=(zge.1 hj).1
     rw[zlt]at E;rw[List.getElem?_take,zp (by omega),List.getElem?_drop]at hj;have y:=(zge.1 hj).1;refine⟨?_,by show _<upd g.fr b _ b;rw[aA];exact y⟩;show bB g.heap b (off*sz+j)=some v;simp only[bB,h4,List.getElem?_toArray];rw[List.getElem?_append_left y];exact hj
theorem kO(hm:MemOK P st w g){T:TypeId}(c:st id=some (.arr T rows))(hT:P.cellsOf T=sz):
  ∃g',MemOK P (upd st id none) w g'/\Le g g'/\aqQ g' id sz rows/\g'.heap=g.heap/\(∀b,¬Blocks st g b->g'.fr b=g.fr b/\(g'.fm b↔g.fm b))/\(∀j,Go.Abs.blk g' j=Go.Abs.blk g j):=by
 have o:=hm.obj id _ c
 obtain⟨b,cap,i,⟨h0,e⟩|⟨e,vs,sp,q,h4,h5,u,x,h8⟩⟩:=o
 ·subst h0;subst e
  refine⟨g,hm.sub λj=>?_,Le.refl g,λoff len v hv=>?_,rfl,λ_ _=>⟨rfl,Iff.rfl⟩,λ_=>rfl⟩
  ·by_cases h:j=id
   ·left;rw[h,aA]
   ·right;rw[aB h]
  ·have⟨b',n,cap',k1,k2,A,B,p⟩:=hv
   rw[i]at k1;injection k1 with k1;injection k1 with k1 k6;injection k6 with k6 k7
   subst k7;rcases p with⟨_,a,rfl⟩|⟨p,_⟩
   ·unfold Rep
    simp
   ·exact absurd rfl p
 ·have m:Go.Abs.blk g id=some b:=by simp[Go.Abs.blk,i,e]
  have⟨m1,y,z⟩:=auU hm c hT i e q h4 u x h8;exact⟨_,m1,y,z,rfl,λb' k=>⟨aB λh=>k ⟨id,by rw[c];simp,h▸m⟩,Iff.rfl⟩,λ_=>rfl⟩
theorem SI.subF{c:Ctx}{a:Act}{lam:Nat->Nat}(hs:SI P c s a w g lam){T:TypeId}(v:s.st id=some (.arr T rows))(hT:P.cellsOf T=sz)(h:SubF id sz rows s s2):∃g',SI P c s2 a w g' lam:=by
 have⟨g',m1,k,D,E,Y,Q⟩:=kO hs.mem v hT;have i:∀b,Blocks s2.st g' b->Blocks s.st g b:=λb hb=>by
  have⟨j,J,M⟩:=hb.sub h.st
  exact⟨j,(dP J).2,by rw[<-Q];exact M⟩
 refine⟨g',m1.sub h.st,hs.le.trans k,⟨hs.frame.os,hs.frame.tape,hs.frame.output,hs.frame.size,λb hb hn=>?_⟩,λb hb=>hs.blk b (i b hb),λt=>?_,λt U ds e=>?_,λt z e F hl=>?_,h.ad,h.adL,hs.defers.mono rfl λ_ _=>by rw[E],h.n▸hs.n,h.top▸hs.top⟩
 ·have⟨R,S,W⟩:=hs.frame.old b hb hn
  have I:¬Blocks s.st g b:=λu=>by
   rcases hs.blk b u with A|A
   ·exact hn A
   ·omega
  grind
 ·rcases h.env t with e|e|⟨p,q,m,o,H⟩
  ·rw[e];simp[EntOK,Rep]
  ·rw[e];exact(hs.env t).mono k
  ·rw[o]
   have:=(hs.env t).mono k;rw[m]at this;exact Fz.rep D H _ this
 ·have⟨cs,m,o⟩:=h.L t U ds e
  have⟨vs,k1,k2,X,N,O⟩:=hs.box t U cs m;exact⟨vs,by rw[E];exact k1,FzL.rep D o _ (RepL.mono k _ _ k2),by grind,N,λhb=>O (i _ hb)⟩
 ·cases B:s2.L t with
  |none=>exact absurd B e
  |some x=>
   cases C:s2.L z with
   |none=>exact absurd C F
   |some y=>
    have⟨_,k1,_⟩:=h.L t x.1 x.2 B;have⟨_,k2,_⟩:=h.L z y.1 y.2 C;exact hs.inj t z (by rw[k1];simp) (by rw[k2];simp) hl
end
end
section
structure KeyOK (P:Program) (kt:TypeId) {K:Type} [DecidableEq K] (enc:K->Value) (rep:K->PV):Prop where
 und:(P.underlying kt).isSome=true
 chk:∀k b w,(Instr.checkKey b 10000 kt (enc k)).run P w= .ok () w
 now:∀kd,P.underlying kt=some kd->∀a b,Instr.sameNow kd (enc a) (enc b)=none\/Instr.sameNow kd (enc a) (enc b)=some (decide (a=b))
 eq:∀a b w,(Op.equal kt (enc a) (enc b)).run P w= .ok (decide (a=b)) w
 rp:∀k g v,Rep g (rep k) v->v=enc k
 bits:∀k,Instr.sameBits 10000 (enc k) (enc k)=true
section
variable{K V:Type}[DecidableEq K]
def aY(enc:K->Value)(f:V->PV)(l:List (K×V)):List (Value×PV):=l.map λe=>(enc e.1,f e.2)
def vT(k:K):List (K×V)->Option Nat
 |[]=>none
 |e::l=>if k=e.1 then some 0 else(vT k l).map (· +1)
def cK(k:K):List (K×V)->Option V
 |[]=>none
 |e::l=>if k=e.1 then some e.2 else cK k l
def dE(k:K)(v:V):List (K×V)->List (K×V)
 |[]=>[(k,v)]
 |e::l=>if k=e.1 then(k,v)::l else e::dE k v l
theorem qQ{k:K}:∀{l:List (K×V)},vT k l=none->cK k l=none/\∀v,dE k v l=l++[(k,v)]
 |[],_=>⟨rfl,λ_=>rfl⟩
 |e::l,h=>by
  simp only[vT]at h
  split at h
  ·cases h
  ·rename_i a
   have:=qQ (by simpa using h);exact⟨by simp only[cK,zn a,this.1],λv=>by simp only[dE,zn a,this.2 v,List.cons_append]⟩
theorem pR{k:K}:∀{l:List (K×V)}{j:Nat},vT k l=some j->∃v,l[j]?=some (k,v)/\cK k l=some v/\∀b,dE k b l=l.set j (k,b)
 |[],_,h=>by trivial
 |e::l,j,h=>by
  simp only[vT]at h
  split at h
  ·rename_i c
   injection h with h;subst h
   exact⟨e.2,by grind,by simp[cK,c],λb=>by simp[dE,c]⟩
  ·rename_i a
   obtain⟨j',g,rfl⟩:=Option.map_eq_some_iff.1 h;have⟨v,m,i,h4⟩:=pR g;exact⟨v,‹_›,by simp only[cK,zn a,i],λb=>by simp only[dE,zn a,h4 _,List.set_cons_succ]⟩
variable{P:Program}{tt:TT}{kt:TypeId}{enc:K->Value}{rep:K->PV}{f:V->PV}
theorem RepE.getT{K V:Type}{enc:K->Value}{f:V->PV}{g:G}:∀{l:List (K×V)}{ms:List MapEntry}{j:Nat}{k:K}{v:V},RepE g (aY enc f l) ms->l[j]?=some (k,v)->∃m,ms[j]?=some m/\m.key=enc k/\Rep g (f v) m.val
 |[],_,_,_,_,_,h=>by grind
 |e::l,ms,j,k,v,hr,h=>by
  obtain⟨m,b,rfl,c,i,a⟩:=hr
  cases j with
  |zero=>grind
  |succ j=>have⟨n,k1,k2⟩:=RepE.getT a h;grind
theorem RepE.lenT{K V:Type}{enc:K->Value}{f:V->PV}{g:G}:∀{l:List (K×V)}{ms:List MapEntry},RepE g (aY enc f l) ms->ms.length=l.length
 |[],_,h=>by simpa
 |e::l,ms,hr=>by
  obtain⟨m,b,rfl,c,i,a⟩:=hr
  simp[RepE.lenT a]
theorem RepE.pushT{K V:Type}{enc:K->Value}{f:V->PV}{g:G}{k:K}{v:V}{m:MapEntry}(hk:m.key=enc k)(hv:Rep g (f v) m.val):∀{l:List (K×V)}{ms:List MapEntry},RepE g (aY enc f l) ms->RepE g (aY enc f (l++[(k,v)])) (ms++[m])
 |[],_,h=>by
  subst h
  exact⟨m,[],rfl,hk,hv,rfl⟩
 |e::l,ms,hr=>by
  obtain⟨i,j,rfl,a,b,c⟩:=hr
  exact⟨i,_,rfl,a,b,RepE.pushT hk hv c⟩
theorem RepE.setT{K V:Type}{enc:K->Value}{f:V->PV}{g:G}{k:K}{v:V}{m:MapEntry}(hk:m.key=enc k)(hv:Rep g (f v) m.val):∀{l:List (K×V)}{ms:List MapEntry}{j:Nat},RepE g (aY enc f l) ms->RepE g (aY enc f (l.set j (k,v))) (ms.set j m)
 |[],_,_,h=>by subst h;rfl
 |e::l,ms,j,hr=>by
  obtain⟨i,n,rfl,b,c,a⟩:=hr
  cases j with
  |zero=>exact⟨m,_,rfl,hk,hv,a⟩
  |succ j=>exact⟨i,_,rfl,b,c,RepE.setT hk hv a⟩
def Found(k:K)(l:List (K×V))(a:List MapEntry)(i:Nat)(r:Option (Nat×Value)):Prop:=
 (vT k l=none/\r=none)\/∃j m,vT k l=some j/\a[j]?=some m/\r=some (i+j,m.val)
theorem avT(hk:KeyOK P kt enc rep){c:TypeDesc}(a:P.underlying kt=some c)(k:K){g:G}:∀{l:List (K×V)}{ms:List MapEntry}(i:Nat),RepE g (aY enc f l) ms->
  Instr.findNow c (enc k) ms i=none\/∃r,Instr.findNow c (enc k) ms i=some r/\Found k l ms i r
 |[],ms,i,hr=>by
  subst hr
  exact .inr ⟨none,rfl, .inl ⟨rfl,rfl⟩⟩
 |e::l,ms,i,hr=>by
  obtain⟨m,v,rfl,o,w,p⟩:=hr
  simp only[Instr.findNow,o]
  rcases hk.now c a k e.1 with h|h
  ·left;rw[h]
  ·rw[h]
   by_cases b:k=e.1
   ·right
    refine⟨some (i,m.val),by simp[b], .inr ⟨0,m,by simp[vT,b],by simp,rfl⟩⟩
   ·simp_all
    rcases avT hk a k (i+1) p with h4|⟨r,h4,h5⟩
    ·exact .inl h4
    ·refine .inr ⟨r,h4,?_⟩
     rcases h5 with⟨h5,n⟩|⟨j,u,h5,n,q⟩
     ·exact .inl ⟨by simp[vT,b,h5],n⟩
     ·exact .inr ⟨j+1,u,by simp[vT,b,h5],by simpa using n,by rw[q];congr 2;omega⟩
theorem adE(hk:KeyOK P kt enc rep)(k:K){g:G}{w:World}:∀{l:List (K×V)}{ms:List MapEntry}(i:Nat),RepE g (aY enc f l) ms->
  ∃r,(Instr.findAsking kt (enc k) ms i).run P w= .ok r w/\Found k l ms i r
 |[],ms,i,hr=>by
  subst hr
  exact⟨none,rfl, .inl ⟨rfl,rfl⟩⟩
 |e::l,ms,i,hr=>by
  obtain⟨m,o,rfl,c,p,h⟩:=hr
  by_cases a:k=e.1
  ·refine⟨some (i,m.val),?_, .inr ⟨0,m,by simp[vT,a],by simp,rfl⟩⟩
   simp[Instr.findAsking,c,hk.eq,a]
  ·have⟨r,h4,h5⟩:=adE hk k (w:=w) (i+1) h
   refine⟨r,?_,?_⟩
   ·simp[Instr.findAsking,c,hk.eq,a,h4]
   ·rcases h5 with⟨h5,b⟩|⟨j,n,h5,b,q⟩
    ·exact .inl ⟨by simp[vT,a,h5],b⟩
    ·exact .inr ⟨j+1,n,by simp[vT,a,h5],by simpa using b,by grind⟩
theorem afV(hk:KeyOK P kt enc rep)(k:K){l:List (K×V)}{b:List MapEntry}(c:RepE g (aY enc f l) b):
  ∃r,(Instr.findKey kt (enc k) b).run P w= .ok r w/\Found k l b 0 r:=by
 cases a:P.underlying kt with
 |none=>have:=hk.und;grind
 |some kd=>
  rcases avT hk a k 0 c with h|⟨r,h,e⟩
  ·have⟨r,i,j⟩:=adE hk k (w:=w) 0 c
   exact⟨r,by simp[Instr.findKey,run_underlying a,h,i],j⟩
  ·exact⟨r,by simp[Instr.findKey,run_underlying a,h],e⟩
def nT(z:PV)(f:V->PV)(ok:Bool):Option V->PV
 |some v=>bif ok then .tup [f v, .val (.bool true)]else f v
 |none=>bif ok then .tup [z, .val (.bool false)]else z
theorem acK(htt:bI P tt)(hk:KeyOK P kt enc rep){T:TypeId}{z:PV}(hT:tiK tt T=some (.map kt e))(hz:pzv tt e=some z)(k:K){l:List (K×V)}{c:Array MapEntry}(u:RepE g (aY enc f l) c.toList){x:Value}(hx:(x= .map none/\c= #[])\/∃b a,x= .map (some b)/\w.heap[b]?=some (.map c a)):∃v,(Instr.lookup T x (enc k) ok).run P w= .ok v w/\Rep g (nT z f ok (cK k l)) v:=by
 have hu:=xJ (aR htt hT).1
 have⟨i,z1,z2⟩:=aAM htt hz
 have⟨r,p,y⟩:=afV hk k (w:=w) u
 have h:(Instr.lookup T x (enc k) ok).run P w=((match r with
    |some (_,v)=>pure (v,true)
    |none=>do pure (<-zeroValue e,false):Sem (Value×Bool))>>=λ(o:Value×Bool)=>pure (if ok then .tuple #[o.1, .bool o.2]else o.1):Sem Value).run P w:=by
  rcases hx with⟨rfl,rfl⟩|⟨b,a,rfl,hb⟩
  ·simp only[Instr.lookup,Sem.run_bind,run_underlying hu,Result.andThen_ok,Sem.run_pure,hk.chk,p]
   cases r<;>simp[Sem.run_bind,cI z1]
  ·simp only[Instr.lookup,Sem.run_bind,run_underlying hu,Result.andThen_ok,Sem.run_pure,MapKept.run_getObj_map hb,hk.chk,p]
   cases r<;>simp[Sem.run_bind,cI z1]
 rcases y with⟨n,rfl⟩|⟨j,m,n,A,rfl⟩
 ·rw[(qQ n).1]
  refine⟨if ok then .tuple #[i, .bool false]else i,by rw[h];simp[cI z1],?_⟩;cases ok with
  |true=>simp only[nT,zqt,if_true,Rep];exact⟨[i, .bool false],rfl,by simp only[RepL];exact⟨i,_,rfl,z2 g,_,_,rfl,by simp[Rep],rfl⟩⟩
  |false=>simpa[nT]using z2 g
 ·have⟨v,B,h4,_⟩:=pR n
  have⟨D,h5,C,q⟩:=RepE.getT u B;rw[A]at h5;injection h5 with h5;subst h5
  rw[h4];refine⟨if ok then .tuple #[m.val, .bool true]else m.val,by rw[h];simp,?_⟩;cases ok with
  |true=>simp only[nT,zqt,if_true,Rep];exact⟨[m.val, .bool true],rfl,by simp only[RepL];exact⟨m.val,_,rfl,q,_,_,rfl,by simp[Rep],rfl⟩⟩
  |false=>simpa[nT]using q
theorem asH(htt:bI P tt)(hk:KeyOK P kt enc rep){o:Oper}{s:St}{T e:TypeId}{x y:Operand}{ok:Bool}{id:Nat}{z:PV}{l:List (K×V)}{k:K}(ho:o.op= .lookup T x y ok)(hx:opd s x=some (.mref id))(j:s.st id=some (.map (aY enc f l)))(hy:opd s y=some (rep k))(hT:tiK tt T=some (.map kt e))(hz:pzv tt e=some z):OpV P o s (nT z f ok (cK k l)):=by
 refine aN λw g ρ hm hρ=>?_;have C:=hρ x (by rw[ho];simp[Op.operands]) _ hx;have u:=hk.rp k g _ (hρ y (by rw[ho];simp[Op.operands]) _ hy);obtain⟨b,n,cap,h,m⟩:=C;have i:=hm.obj _ _ j;obtain⟨b',n',cap',p,a,c,D,q,h4,h5,E⟩:=i;rw[h]at c;injection c with c;injection c with c _;subst c
 rw[hm.heap]at q;obtain⟨v,A,B⟩:=acK htt hk hT hz k h4 (.inr ⟨b,a,m,q⟩);exact⟨v,by simp only[execOp,ho,u,Sem.run_bind,A,Result.andThen_ok,Sem.run_pure],B⟩
theorem auH(htt:bI P tt)(hk:KeyOK P kt enc rep){o:Oper}{s:St}{T e:TypeId}{x y:Operand}{ok:Bool}{z:PV}{l:List (K×V)}{k:K}(ho:o.op= .lookup T x y ok)(hx:opd s x=some (.fmap (aY enc f l)))(hy:opd s y=some (rep k))(hT:tiK tt T=some (.map kt e))(hz:pzv tt e=some z):OpV P o s (nT z f ok (cK k l)):=by
 refine aN λw g ρ hm hρ=>?_;have p:=hρ x (by rw[ho];simp[Op.operands]) _ hx;have j:=hk.rp k g _ (hρ y (by rw[ho];simp[Op.operands]) _ hy);obtain⟨b,h,a,c,q,i,h4⟩:=p;rw[hm.heap]at i;obtain⟨v,m,n⟩:=acK htt hk hT hz k h4 (.inr ⟨b,a,c,i⟩);exact⟨v,by simp only[execOp,ho,j,Sem.run_bind,m,Result.andThen_ok,Sem.run_pure],n⟩
theorem mem_map(hm:MemOK P st w g){b n cap:Nat}{es:List (Value×PV)}{c:Array MapEntry}{a clock':Nat}(o:st id=some (.map es))(j:g.io id=some (b,n,cap))(k:cap≠0)(hb:w.heap[b]?=some (.map c a))(h5:¬g.fm b)(m:RepE g es' ents'.toList)(hs:Stamps ents'.toList clock'):let w':World:={w with heap:=w.heap.setIfInBounds b (.map ents' clock')}
  MemOK P (upd st id (some (.map es'))) w' {g with heap:=w'.heap}/\Le g {g with heap:=w'.heap}/\Frame (Blocks st g) w g w' {g with heap:=w'.heap}/\(∀b',Blocks (upd st id (some (.map es'))) {g with heap:=w'.heap} b'->Blocks st g b'\/w.heap.size<=b'):=by
 intro w'
 have e:w'.heap[b]?=some _:=(MapKept.heap_set hb).1
 refine iU hm (by grind) (by simp[Go.Abs.blk,j,k]) hb rfl (λi hi=>?_) h5 λh=>?_
 ·simp only[bB,e,hb]
 ·exact⟨b,n,cap,ents',clock',j,k,e,RepE.mono h _ _ m,h5,hs⟩
theorem atA(hk:KeyOK P kt enc rep)(k:K)(w:World):(Instr.keyThatStays (enc k) (enc k)).run P w= .ok (enc k) w:=by
 simp[Instr.keyThatStays,hk.bits]
theorem asJ(htt:bI P tt)(hk:KeyOK P kt enc rep){op:Op}{T:TypeId}{l:List (K×V)}{k:K}{v:V}(A:op= .insert T m y z\/op= .mapUpdate T m y z)(hm:opd s m=some (.mref id))(hy:opd s y=some (rep k))(hz:opd s z=some (f v))(hT:tiK tt T=some (.map kt e))(C:s.st id=some (.map (aY enc f l))):OpZ P ⟨none,op,ty,pos,after,none⟩ s λx=>x=(upd s.st id (some (.map (aY enc f (dE k v l)))), .und):=by
 intro w g ρ hmm hρ
 have h:m∈op.operands/\y∈op.operands/\z∈op.operands:=by rcases A with rfl|rfl<;>simp[Op.operands]
 have I:=hρ m h.1 _ hm
 have F:=hk.rp k g _ (hρ y h.2.1 _ hy)
 have J:=hρ z h.2.2 _ hz
 simp only[Rep]at I
 have⟨b,n,cap,q,D⟩:=I
 have u:=hmm.obj id _ C
 simp only[ObjOK]at u
 have⟨b',n',cap',c,a,o,M,p,h4,h5,H⟩:=u
 rw[q]at o;injection o with o;injection o with o h1';injection h1' with h1' h1'';subst o;subst h1''
 rw[hmm.heap]at p
 have hu:=xJ (aR htt hT).1
 have⟨r,G,L⟩:=afV hk k (w:=w) h4
 have go:∀(ents':Array MapEntry)(clock':Nat),RepE g (aY enc f (dE k v l)) ents'.toList->Stamps ents'.toList clock'->(Instr.mapUpdate T (ρ m) (ρ y) (ρ z)).run P w= .ok () {w with heap:=w.heap.setIfInBounds b (.map ents' clock')}->
   OpRes P (λY w'=>∃g' x,x=(upd s.st id (some (.map (aY enc f (dE k v l)))),PV.und)/\Rep g' x.2 Y/\MemOK P x.1 w' g'/\Le g g'/\Frame (Blocks s.st g) w g w' g'/\∀b,Blocks x.1 g' b->Blocks s.st g b\/w.heap.size<=b) ((execOp ρ (⟨none,op,ty,pos,after,none⟩:Oper)).run P w):=by
  intro ents' clock' N hs B
  have i:(execOp ρ (⟨none,op,ty,pos,after,none⟩:Oper)).run P w= .ok .skip {w with heap:=w.heap.setIfInBounds b (.map ents' clock')}:=by
   rcases A with rfl|rfl<;>simp only[execOp,Sem.run_bind,B,Result.andThen_ok,Sem.run_pure]
  rw[i]
  have⟨S,U,W,X⟩:=mem_map hmm C q M p h5 N hs
  exact⟨_,_,rfl,trivial,S,U,W,X⟩
 rcases L with⟨k1,rfl⟩|⟨j,m0,k1,k2,rfl⟩
 ·refine go (c.push {key:=enc k,val:=ρ z,born:=a}) (a+1) ?_ (by simpa using H.push (enc k) (ρ z)) ?_
  ·rw[(qQ k1).2 v]
   simpa using RepE.pushT (enc:=enc) (k:=k) (m:={key:=enc k,val:=ρ z,born:=a}) rfl J h4
  ·simp[Instr.mapUpdate,run_underlying hu,D,MapKept.run_getObj_map p,F,hk.chk,G,MapKept.run_setObj_map _ p]
 ·have⟨v0,O,Z,Q⟩:=pR k1
  have⟨m',E,R,k8⟩:=RepE.getT h4 O;rw[k2]at E;injection E with E;subst E
  have hj:c[j]?=some m0:=by simpa using k2
  refine go (c.modify j λe=>{e with key:=enc k,val:=ρ z}) a ?_ (by rw[dK k2];exact H.set k2 (enc k) (ρ z)) ?_
  ·rw[Q v,dK k2]
   exact RepE.setT (enc:=enc) (k:=k) (m:={m0 with key:=enc k,val:=ρ z}) rfl J h4
  ·simp[Instr.mapUpdate,run_underlying hu,D,MapKept.run_getObj_map p,F,hk.chk,G,hj,R,atA hk,MapKept.run_setObj_map _ p]
def wJ(k:K)(z:V)(l:List (K×V)):List (K×V):=match vT k l with|some _=>l|none=>l++[(k,z)]
def tP(k:K)(l:List (K×V)):Nat:=(vT k l).getD l.length
theorem akD(htt:bI P tt)(hk:KeyOK P kt enc rep){t:Nat}{T:TypeId}{l:List (K×V)}{k:K}{z:V}(hm:opd s m=some (.mref id))(hy:opd s y=some (rep k))(hT:tiK tt T=some (.map kt e))(hz:pzv tt e=some (f z))(v:s.st id=some (.map (aY enc f l))):OpZ P ⟨some t, .mapEntry T m y,ty,pos,after,none⟩ s λx=>x=(upd s.st id (some (.map (aY enc f (wJ k z l)))), .tup [f ((cK k l).getD z), .val (.int .i64 (tP k l:Nat))]):=by
 intro w g ρ hmm hρ
 have Q:=hρ m (by simp[Op.operands]) _ hm
 have L:=hk.rp k g _ (hρ y (by simp[Op.operands]) _ hy)
 simp only[Rep]at Q
 have⟨b,n,cap,u,D⟩:=Q
 have C:=hmm.obj id _ v
 simp only[ObjOK]at C
 have⟨b',n',cap',c,a,A,N,p,h4,h5,E⟩:=C
 rw[u]at A;injection A with A;injection A with A h1';injection h1' with h1' h1'';subst A;subst h1''
 rw[hmm.heap]at p
 have hu:=xJ (aR htt hT).1
 have⟨B,z1,z2⟩:=aAM htt hz
 have⟨r,M,R⟩:=afV hk k (w:=w) h4
 rcases R with⟨k1,rfl⟩|⟨j,m0,k1,k2,rfl⟩
 ·have h:(execOp ρ (⟨some t, .mapEntry T m y,ty,pos,after,none⟩:Oper)).run P w= .ok (.value (.tuple #[B,goInt a])) {w with heap:=w.heap.setIfInBounds b (.map (c.push {key:=enc k,val:=B,born:=a}) (a+1))}:=by
   simp[execOp,Instr.mapEntry,run_underlying hu,D,MapKept.run_getObj_map p,L,hk.chk,M,cI z1,MapKept.run_setObj_map _ p]
  rw[h];have⟨H,G,I,J⟩:=mem_map (ents':=c.push {key:=enc k,val:=B,born:=a}) (clock':=a+1) (es':=aY enc f (wJ k z l)) hmm v u N p h5 (by
   unfold wJ;rw[k1]
   simpa using RepE.pushT (enc:=enc) (k:=k) (m:={key:=enc k,val:=B,born:=a}) rfl (z2 g) h4) (by simpa using E.push (enc k) B)
  refine⟨_,_,rfl,?_,H,G,I,J⟩;have hc:a=l.length:=by rw[E.1];exact RepE.lenT h4
  rw[(qQ k1).1];simp only[Rep,tP,k1];exact⟨[B,goInt a],rfl,by simp only[RepL,Option.getD_none];exact⟨_,_,rfl,z2 _,_,_,rfl,by simp[Rep,goInt,hc],rfl⟩⟩
 ·have⟨v0,S,U,X⟩:=pR k1
  have⟨Y,F,O,W⟩:=RepE.getT h4 S;rw[k2]at F;injection F with F;subst F
  have hj:c[j]?=some m0:=by simpa using k2
  have q:m0.born=j:=E.2 j m0 k2;have h:(execOp ρ (⟨some t, .mapEntry T m y,ty,pos,after,none⟩:Oper)).run P w= .ok (.value (.tuple #[m0.val,goInt j])) {w with heap:=w.heap.setIfInBounds b (.map (c.modify j λe=>{e with key:=enc k}) a)}:=by
   simp[execOp,Instr.mapEntry,run_underlying hu,D,MapKept.run_getObj_map p,L,hk.chk,M,hj,O,atA hk,MapKept.run_setObj_map _ p,q]
  rw[h];have o:(c.modify j λe=>{e with key:=enc k}).toList=c.toList:=by
   rw[dK k2,<-O];exact List.ext_getElem? λi=>by
    rw[List.getElem?_set]
    split
    ·rename_i hi;subst hi;rw[zp (zge.1 k2).1,k2]
    ·rfl
  have⟨H,G,I,J⟩:=mem_map (ents':=c.modify j λe=>{e with key:=enc k}) (clock':=a) (es':=aY enc f (wJ k z l)) hmm v u N p h5 (by
   unfold wJ;rw[k1,o];exact h4) (by rw[o];exact E)
  refine⟨_,_,rfl,?_,H,G,I,J⟩;rw[U];simp only[Rep,tP,k1];exact⟨[m0.val,goInt j],rfl,by simp only[RepL,Option.getD_some];exact⟨_,_,rfl,Rep.mono G _ _ W,_,_,rfl,by simp[Rep,goInt],rfl⟩⟩
theorem aeL{V:Type}{enc:α->Value}{f:V->PV}{T:TypeId}{l:List (α×V)}{k:α}{v0 v:V}(hm:opd s m=some (.mref id))(hy:opd s y=some (.val (.int .i64 n)))(hj:n=(j:Int))(hz:opd s z=some (f v))(hl:l[j]?=some (k,v0))(A:s.st id=some (.map (aY enc f l))):OpZ P ⟨none, .entryStore T m y z,ty,pos,after,none⟩ s λx=>x=(upd s.st id (some (.map (aY enc f (l.set j (k,v))))), .und):=by
 intro w g ρ hmm hρ
 have G:=hρ m (by simp[Op.operands]) _ hm
 have H:=aL (hρ y (by simp[Op.operands]) _ hy)
 have Q:=hρ z (by simp[Op.operands]) _ hz
 simp only[Rep]at G
 have⟨b,n',cap,o,F⟩:=G
 have q:=hmm.obj id _ A
 simp only[ObjOK]at q
 have⟨b',J,cap',a,c,h,I,B,h4,h5,C⟩:=q
 rw[o]at h;injection h with h;injection h with h h1';injection h1' with h1' h1'';subst h;subst h1''
 rw[hmm.heap]at B
 have⟨m0,k1,k2,R⟩:=RepE.getT h4 hl
 have p:j<a.size:=by have:=(zge.1 k1).1;simpa using this
 have D:a.findIdx? (λe=>(e.born:Int)==(j:Int))=some j:=by
  rw[Array.findIdx?_eq_some_iff_getElem];refine⟨p,?_,λi hi=>?_⟩
  ·have:=C.2 j a[j] (by simp[p]);simp[this]
  ·have:=C.2 i a[i] (by simp);simp[this];try omega
 subst hj
 have u:(execOp ρ (⟨none, .entryStore T m y z,ty,pos,after,none⟩:Oper)).run P w= .ok .skip {w with heap:=w.heap.setIfInBounds b (.map (a.modify j λe=>{e with val:=ρ z}) c)}:=by
  simp[execOp,Instr.entryStore,F,H,asInt,asIntOf,MapKept.run_getObj_map B,D,MapKept.run_setObj_map _ B]
 rw[u]
 have E:({m0 with val:=ρ z}:MapEntry)={m0 with key:=m0.key,val:=ρ z}:=rfl
 have⟨L,M,N,O⟩:=mem_map (ents':=a.modify j λe=>{e with val:=ρ z}) (clock':=c) (es':=aY enc f (l.set j (k,v))) hmm A o I B h5 (by
  rw[dK k1];exact RepE.setT (enc:=enc) (k:=k) (m:={m0 with val:=ρ z}) k2 Q h4) (by rw[dK k1,E];exact C.set k1 m0.key (ρ z))
 exact⟨_,_,rfl,trivial,L,M,N,O⟩
end
end
end Go.Abs
