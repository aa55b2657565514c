import Derived.Test.YtddmbnddgiebgaaGreatDoorAbsB
import Derived.Deep.AppendSrc
import Derived.MapKept
set_option linter.unusedSimpArgs false
set_option linter.unusedVariables false
namespace Go.Abs
open Go
theorem pO {n:Int} (h1: -9223372036854775808≤n) (h2:n≤9223372036854775807):IntKind.i64.wrap n=n:=by
  simp only [IntKind.wrap,IntKind.bits,IntKind.signed,Bool.true_and]
  split<;>rename_i h<;>simp at h<;>omega
section
variable {P:Program} {tt:TT} {l:List Oper} {d:Md} {r:List Oper} {s:St} {K:St→Prop} {t:Nat} {ty:TypeId} {pos:String} {after:Array Edge} {gd:Option (Nat×Bool)}
theorem aiF {o:Oper} {op:BinOp} {T T2:TypeId} {x y:Operand} {k:IntKind} {a b c:Int} (ho:o.op= .binOp op T x y T2) (hx:opd s x=some (.val (.int k a))) (hy:opd s y=some (.val (.int k b)))
    (hc:(op= .add∧k.wrap (a+b)=c)∨(op= .sub∧k.wrap (a-b)=c)∨(op= .mul∧k.wrap (a*b)=c)∨(op= .quo∧b≠0∧k.wrap (a.tdiv b)=c)∨(op= .rem∧b≠0∧a.tmod b=c)):OpV P o s (.val (.int k c)):=by
  refine aU fun w g ρ _ hρ=> ?_
  have ex:=aR (hρ x (by rw [ho];simp [Op.operands]) _ hx)
  have ey:=aR (hρ y (by rw [ho];simp [Op.operands]) _ hy)
  refine ⟨.int k c,dT ho (by rw [ex,ey];simp [eqGuard]) ?_,by simp [Rep]⟩
  rw [ex,ey]
  rcases hc with ⟨rfl,rfl⟩|⟨rfl,rfl⟩|⟨rfl,rfl⟩|⟨rfl,hb,rfl⟩|⟨rfl,hb,rfl⟩<;>simp [binOp,Op.intArith,Op.intDiv, *]
theorem aqM {o:Oper} {T:TypeId} {x:Operand} {k:IntKind} {a c:Int} (ho:o.op= .unOp .neg T x) (hx:opd s x=some (.val (.int k a))) (hc:k.wrap (0-a)=c):OpV P o s (.val (.int k c)):=by
  refine aU fun w g ρ _ hρ=> ?_
  have ex:=aR (hρ x (by rw [ho];simp [Op.operands]) _ hx)
  exact ⟨.int k c,by simp [execOp,ho,ex,Op.unary,Op.intArith,←hc],by simp [Rep]⟩
theorem akZ (htt:bL P tt) {o:Oper} {T T2:TypeId} {x:Operand} {k k2:IntKind} {a c:Int} (ho:o.op= .convert T T2 x) (hx:opd s x=some (.val (.int k a))) (hT:(tiK tt T).isSome=true) (hk:tiK tt T2=some (.int k2)) (hc:k2.wrap a=c):OpV P o s (.val (.int k2 c)):=by
  refine aU fun w g ρ _ hρ=> ?_
  have ex:=aR (hρ x (by rw [ho];simp [Op.operands]) _ hx)
  have hu2:=wK (aY htt hk).1
  cases hT':tiK tt T with
  |none=>rw [hT'] at hT;cases hT
  |some kk=>
    have hu:=(aY htt hT').2
    cases hu1:P.underlying T with
    |none=>rw [hu1] at hu;cases hu
    |some dd=>
      refine ⟨.int k2 c, ?_,by simp [Rep]⟩
      simp [execOp,ho,ex,convert,run_underlying hu1,run_underlying hu2,Conv.intToInt,hc]
theorem mC {op:BinOp} {T T2:TypeId} {x y:Operand}:∀z∈(Op.binOp op T x y T2).operands,z∈opl (.binOp op T x y T2):=fun z hz=>aX (fun _ _ _ e=>by cases e) hz
theorem aoK (htt:bL P tt) {T T2:TypeId} {x:Operand} {k1 k2:IntKind} {a c:Int} (hx:opd s x=some (.val (.int k1 a))) (hT:(tiK tt T).isSome=true) (hk:tiK tt T2=some (.int k2)) (hc:k2.wrap a=c) (hf:bX s [x]=true) (hd:Nat.blt t s.n=true)
    (ht:cP d l r=true) (k:Ev P l d r (s.pv t (.val (.int k2 c))) K):Ev P l d (⟨some t, .convert T T2 x,ty,pos,after,none⟩::r) s K:=
  nI (fun _=>akZ htt rfl hx hT hk hc) (fun z hz=>aX (fun _ _ _ e=>by cases e) hz) hf hd ht k
theorem gM {op:BinOp} {T T2:TypeId} {x y:Operand} {w:Bool} {kk:IntKind} {a b c:Int} (hw:bO l ⟨some t, .binOp op T x y T2,ty,pos,after,gd⟩ s=some w) (hx:opd s x=some (.val (.int kk a))) (hy:opd s y=some (.val (.int kk b)))
    (hc:w=true→(op= .add∧kk.wrap (a+b)=c)∨(op= .sub∧kk.wrap (a-b)=c)∨(op= .mul∧kk.wrap (a*b)=c)∨(op= .quo∧b≠0∧kk.wrap (a.tdiv b)=c)∨(op= .rem∧b≠0∧a.tmod b=c)) (hf:fT s w [x,y]) (hd:Nat.blt t s.n=true)
    (ht:cP d l r=true) (k:Ev P l d r (s.put (some t) w (.pv (.val (.int kk c)))) K):Ev P l d (⟨some t, .binOp op T x y T2,ty,pos,after,gd⟩::r) s K:=
  dE hw (fun hw' _=>aiF rfl hx hy (hc hw')) mC hf hd ht k
theorem aqH {T T2:TypeId} {x y:Operand} {w:Bool} {a b:Int} (c:Int) (hw:bO l ⟨some t, .binOp .add T x y T2,ty,pos,after,gd⟩ s=some w) (hx:opd s x=some (.val (.int .i64 a))) (hy:opd s y=some (.val (.int .i64 b))) (hf:fT s w [x,y]) (hd:Nat.blt t s.n=true)
    (hc:w=true→a+b=c) (h1:w=true→ -9223372036854775808≤c) (h2:w=true→c≤9223372036854775807) (ht:cP d l r=true) (k:Ev P l d r (s.put (some t) w (.pv (.val (.int .i64 c)))) K):Ev P l d (⟨some t, .binOp .add T x y T2,ty,pos,after,gd⟩::r) s K:=
  gM hw hx hy (fun h=> .inl ⟨rfl,(hc h)▸pO ((hc h).symm▸h1 h) ((hc h).symm▸h2 h)⟩) hf hd ht k
theorem aqV {T T2:TypeId} {x y:Operand} {w:Bool} {a b:Int} (c:Int) (hw:bO l ⟨some t, .binOp .sub T x y T2,ty,pos,after,gd⟩ s=some w) (hx:opd s x=some (.val (.int .i64 a))) (hy:opd s y=some (.val (.int .i64 b))) (hf:fT s w [x,y]) (hd:Nat.blt t s.n=true)
    (hc:w=true→a-b=c) (h1:w=true→ -9223372036854775808≤c) (h2:w=true→c≤9223372036854775807) (ht:cP d l r=true) (k:Ev P l d r (s.put (some t) w (.pv (.val (.int .i64 c)))) K):Ev P l d (⟨some t, .binOp .sub T x y T2,ty,pos,after,gd⟩::r) s K:=
  gM hw hx hy (fun h=> .inr (.inl ⟨rfl,(hc h)▸pO ((hc h).symm▸h1 h) ((hc h).symm▸h2 h)⟩)) hf hd ht k
def gA :PV→Option (List (List PV))
  | .seq rows=>some rows
  | .own _ rows=>some rows
  | .val (.slice none 0 0)=>some []
  | .emp=>some []
  |_=>none
theorem nU {p:PV} {rows:List (List PV)} (h:gA p=some rows) {g:G} {v:Value} (hr:Rep g p v):Rep g (.seq rows) v:=by
  unfold gA at h
  split at h
  · injection h with h;subst h;exact hr
  · injection h with h;subst h;exact Wk.own _ _ _ _ hr
  · injection h with h;subst h;exact Wk.nil _ _ hr
  · injection h with h;subst h;simp only [Rep] at hr;obtain ⟨a,rfl⟩:=hr;unfold Rep;exact ⟨a,0,rfl,by simp,by simp, .inl rfl⟩
  · cases h
theorem RepR.get {g:G} {b:Nat} {sz:Nat}:∀{rows:List (List PV)} {off:Nat} {j:Nat} {row:List PV},RepR g b off sz rows→rows[j]?=some row→row.length=sz∧RepA g b (off+j*sz) row
  |[],_,_,_,_,e=>by simp at e
  |r::rs,off,j,row,h,e=>by
    simp only [RepR] at h
    cases j with
    |zero=>simp at e;subst e;exact ⟨h.1,by simpa using h.2.1⟩
    |succ j=>
      simp at e
      have:=RepR.get h.2.2 e
      refine ⟨this.1, ?_⟩
      rw [show off+(j+1)*sz=off+sz+j*sz from by rw [Nat.add_mul];omega]
      exact this.2
theorem ahH (htt:bL P tt) {o:Oper} {T e:TypeId} {x y:Operand} {p:PV} {rows:List (List PV)} {k:IntKind} {n:Int} {j sz:Nat} {row:List PV} (ho:o.op= .indexAddr T x y) (hx:opd s x=some p) (hp:gA p=some rows) (hy:opd s y=some (.val (.int k n))) (hj:n=(j:Int))
    (hk:tiK tt T=some (.slice e)) (hs:aW tt e=some sz) (hr:rows[j]?=some row) (hl:row.length=sz):OpV P o s (.rp row):=by
  refine aU fun w g ρ _ hρ=> ?_
  have rx:=nU hp (hρ x (by rw [ho];simp [Op.operands]) _ hx)
  have ey:=aR (hρ y (by rw [ho];simp [Op.operands]) _ hy)
  simp only [Rep] at rx
  obtain ⟨a,cap,ex,_,_,h4⟩:=rx
  rcases h4 with h4|⟨b,off,sz',rfl,hR⟩
  · subst h4;simp at hr
  · obtain ⟨g1,g2⟩:=hR.get hr
    have hsz:sz'=sz:=by omega
    subst hsz
    have hlt:j<rows.length:=by
      rcases Nat.lt_or_ge j rows.length with h|h
      · exact h
      · rw [List.getElem?_eq_none h] at hr;cases hr
    have hu:=cI (aY htt hk).1
    refine ⟨.pointer (some ⟨b,off+j*sz',none⟩), ?_,by simp only [Rep];exact ⟨b,_,rfl,g2⟩⟩
    subst hj
    have hin:(0:Int)≤(j:Int)∧(j:Int)<(rows.length:Int):=by omega
    simp only [execOp,ho,Instr.indexAt,ey,ex,asIntOf,Sem.run_bind,Sem.run_pure,Result.andThen_ok,run_underlying hu]
    rw [if_pos hin]
    simp only [Sem.run_bind,aZ (aQ htt hs).1,Result.andThen_ok,Sem.run_pure,Int.toNat_natCast,cV]
theorem aiA (htt:bL P tt) {T e:TypeId} {x y:Operand} {w:Bool} {p:PV} {rows:List (List PV)} {kk:IntKind} {n:Int} {j sz:Nat} {row:List PV} (hw:bO l ⟨some t, .indexAddr T x y,ty,pos,after,gd⟩ s=some w) (hx:opd s x=some p) (hp:gA p=some rows) (hy:opd s y=some (.val (.int kk n))) (hk:tiK tt T=some (.slice e)) (hs:aW tt e=some sz) (hf:fT s w [x,y]) (hd:Nat.blt t s.n=true)
    (hj:w=true→n=(j:Int)) (hr:w=true→rows[j]?=some row) (hl:w=true→row.length=sz) (ht:cP d l r=true) (k:Ev P l d r (s.put (some t) w (.pv (.rp row))) K):Ev P l d (⟨some t, .indexAddr T x y,ty,pos,after,gd⟩::r) s K:=
  dE hw (fun hw' _=>ahH htt rfl hx hp hy (hj hw') hk hs (hr hw') (hl hw')) (fun z hz=>aX (fun _ _ _ e=>by cases e) hz) hf hd ht k
end
end Go.Abs
namespace Go.Abs
open Go
section
variable {P:Program} {tt:TT}
theorem SI.step {c:Ctx} {s:St} {a:Act} {w w':World} {g g':G} {lam:Nat→Nat} (hs:SI P c s a w g lam) {st':aI} (hm:MemOK P st' w' g') (hl:Le g g') (hf:Frame (Blocks s.st g) w g w' g')
    (hb:∀b,Blocks st' g' b→Blocks s.st g b∨w.heap.size≤b):SI P c (s.sst (st')) a w' g' lam where
  mem:=hm
  le:=hs.le.trans hl
  frame:=hs.frame.trans hf fun b hb h=>(hs.blk b h).resolve_right (by omega)
  blk b h:=by
    rcases hb b h with h|h
    · exact hs.blk b h
    · right;have:=hs.frame.size;omega
  env t:=(hs.env t).mono hl
  box t T cs e:=by
    obtain ⟨vs,h1,h2,h3,h4,h5⟩:=hs.box t T cs e
    have hlt:lam t<w.heap.size:=by have:=bN h1;rwa [hs.mem.heap] at this
    obtain ⟨k1,k2,_⟩:=hf.old _ hlt h5
    refine ⟨vs, ?_,RepL.mono hl _ _ h2,k2.trans h3,h4,fun h=> ?_⟩
    · rw [hm.heap,k1,←hs.mem.heap];exact h1
    · rcases hb _ h with h|h
      · exact h5 h
      · omega
  inj:=hs.inj
  ad:=hs.ad
  adL:=hs.adL
  defers:=hs.defers.mono rfl fun D hD=>by
    have hlt:=bN hD
    rw [hs.mem.heap] at hlt
    rw [hm.heap,(hf.old D hlt (lR hs.mem hD)).1,hs.mem.heap]
  top:=hs.top
  n:=hs.n
section
variable {l:List Oper} {r:List Oper} {s:St} {K:St→Prop} {t:Nat} {dst:Option Nat} {ty:TypeId} {pos:String} {after:Array Edge} {gd:Option (Nat×Bool)}
theorem asO {o:Oper} (hg:o.guard=none) (h:∀c a w g lam,SI P c s a w g lam→OpRes P (fun v w'=>∃s' g' lam',Ev P l .seq r s' K∧SI P c s' (a.put o.dst v) w' g' lam') ((execOp a.eval o).run P w)):Ev P l .seq (o::r) s K:=by
  intro c a w g lam hs K' Q hK
  unfold qG
  have hw:Region.wanted o (yielded l.toArray a.tmps)=true:=by simp [Region.wanted,hg]
  rw [hw]
  simp only [if_true]
  refine cU (h c a w g lam hs) ?_
  rintro v w' ⟨s',g',lam',h1,h2⟩
  exact hK _ _ _ _ _ h1 h2
theorem RepR.vals {g:G} {b sz:Nat}:∀{rows:List (List PV)} {off:Nat},RepR g b off sz rows→∃vs,RepL g rows.flatten vs∧vs.length=rows.length*sz∧∀j v,vs[j]?=some v→bB g.heap b (off+j)=some v∧off+j<g.fr b
  |[],_,_=>⟨[],by simp [RepL],by simp,by simp⟩
  |r::rs,off,h=>by
    simp only [RepR] at h
    obtain ⟨h1,h2,h3⟩:=h
    have key:∀{cs:List PV} {o:Nat},RepA g b o cs→∃vs,RepL g cs vs∧∀j v,vs[j]?=some v→bB g.heap b (o+j)=some v∧o+j<g.fr b:=by
      intro cs
      induction cs with
      |nil=>intro o _;exact ⟨[],by simp [RepL],by simp⟩
      |cons c cs ih=>
        intro o hh
        simp only [RepA] at hh
        obtain ⟨⟨v,e1,e2,e3⟩,e4⟩:=hh
        obtain ⟨vs,k1,k2⟩:=ih e4
        refine ⟨v::vs,by simp only [RepL];exact ⟨v,vs,rfl,e3,k1⟩,fun j u hj=> ?_⟩
        cases j with
        |zero=>simp at hj;subst hj;exact ⟨e1,e2⟩
        |succ j=>simp at hj;have:=k2 j u hj;rwa [show o+(j+1)=o+1+j from by omega]
    obtain ⟨v1,a1,a2⟩:=key h2
    obtain ⟨v2,b1,b2,b3⟩:=RepR.vals h3
    have hl1:=a1.length
    refine ⟨v1++v2,by simp only [List.flatten_cons];exact a1.append b1,by simp [b2,hl1,h1,Nat.add_mul];omega,fun j v hj=> ?_⟩
    rcases Nat.lt_or_ge j v1.length with hlt|hge
    · rw [List.getElem?_append_left hlt] at hj;exact a2 j v hj
    · rw [List.getElem?_append_right hge] at hj
      have:=b3 _ v hj
      rwa [show off+sz+(j-v1.length)=off+j from by omega] at this
theorem RepR.mk {g:G} {b sz:Nat}:∀{rows:List (List PV)} {off:Nat} {vs:List Value},(∀r∈rows,r.length=sz)→RepL g rows.flatten vs→(∀j v,vs[j]?=some v→bB g.heap b (off+j)=some v∧off+j<g.fr b)→RepR g b off sz rows
  |[],_,_,_,_,_=>by simp [RepR]
  |r::rs,off,vs,h,hr,hc=>by
    have key:∀{cs:List PV} {o:Nat} {us:List Value},RepL g cs us→(∀j v,us[j]?=some v→bB g.heap b (o+j)=some v∧o+j<g.fr b)→RepA g b o cs:=by
      intro cs
      induction cs with
      |nil=>intro o us _ _;simp [RepA]
      |cons c cs ih=>
        intro o us hh hcc
        simp only [RepL] at hh
        obtain ⟨v,us',rfl,e1,e2⟩:=hh
        simp only [RepA]
        refine ⟨⟨v,by simpa using (hcc 0 v (by simp)).1,by simpa using (hcc 0 v (by simp)).2,e1⟩,ih e2 fun j u hj=> ?_⟩
        have:=hcc (j+1) u (by simpa using hj)
        rwa [show o+(j+1)=o+1+j from by omega] at this
    simp only [List.flatten_cons] at hr
    have hl:=hr.length
    have h1:RepL g r (vs.take r.length):=by have:=hr.take r.length;simpa using this
    have h2:RepL g rs.flatten (vs.drop r.length):=by have:=hr.drop r.length;simpa using this
    simp only [RepR]
    have hrl:=h r (by simp)
    refine ⟨hrl,key h1 fun j v hj=> ?_,RepR.mk (fun r' hr'=>h r' (by simp [hr'])) h2 fun j v hj=> ?_⟩
    · rw [List.getElem?_take] at hj
      split at hj
      · exact hc j v hj
      · cases hj
    · rw [List.getElem?_drop] at hj
      have:=hc _ v hj
      rwa [show off+(r.length+j)=off+sz+j from by omega] at this
theorem abS {w:World} {g:G} {st:aI} (htt:bL P tt) (hm:MemOK P st w g) {p:PV} {rows:List (List PV)} {x:Value} (hp:gA p=some rows) (hr:Rep g p x) {tx:TypeId} (hk:cW tt tx=true) {sz:Nat} (hl:∀r∈rows,r.length=sz) (h1:∀r∈rows,r.all PV.one=true):
    ∃news,Src P sz tx x rows.length news w∧RepL g rows.flatten news:=by
  have hu:∃e',P.underlying tx=some (.slice e'):=by
    unfold cW at hk
    split at hk
    · rename_i e he;exact ⟨e,cI (aY htt he).1⟩
    · cases hk
  obtain ⟨e',hu⟩:=hu
  have hr':=nU hp hr
  simp only [Rep] at hr'
  obtain ⟨a,cap,rfl,_,_,h4⟩:=hr'
  have ones:∀vs,RepL g rows.flatten vs→∀u∈vs,u.oneCell'=true:=fun vs hv=>hv.ones (by
    rw [List.all_eq_true]
    intro c hc
    obtain ⟨r,hr,hc⟩:=List.mem_flatten.1 hc
    exact List.all_eq_true.1 (h1 r hr) c hc)
  have nilcase:rows=[]→∃news,Src P sz tx (.slice a rows.length cap) rows.length news w∧RepL g rows.flatten news:=fun h0=>by
    subst h0
    refine ⟨[], ?_,by simp [RepL]⟩
    cases a with
    |none=>exact Src.ofNil w hu cap
    |some a=>exact Src.ofSlice w hu a 0 cap [] (by simp) (by simp) (by simp)
  rcases h4 with h4|⟨b,off,sz',rfl,hR⟩
  · exact nilcase h4
  · obtain ⟨vs,v1,v2,v3⟩:=hR.vals
    by_cases h0:rows=[]
    · exact nilcase h0
    · have hsz:sz'=sz:=by
        cases rows with
        |nil=>exact absurd rfl h0
        |cons r rs=>simp only [RepR] at hR;have:=hl r (by simp);omega
      subst hsz
      exact ⟨vs,Src.ofSlice w hu ⟨b,off,none⟩ rows.length cap vs v2 (fun j u hj=>by rw [cV];exact nK hm (v3 j u hj).1) (ones vs v1),v1⟩
theorem iX {st:aI} {w:World} {g:G} (hm:MemOK P st w g):∃id,g.io id=none∧st id=none:=by
  obtain ⟨N,hN⟩:=hm.fin
  refine ⟨N,hN N (Nat.le_refl _), ?_⟩
  cases h:st N with
  |none=>rfl
  |some o=>obtain ⟨x,hx⟩:=sD (hm.obj N o h);rw [hN N (Nat.le_refl _)] at hx;cases hx
theorem kU {st:aI} {w w':World} {g g':G} (hm:MemOK P st w g) {id id' b' n' cap':Nat} {o':AObj} (hf:g.io id'=none) (hh:g'.heap=w'.heap) (hio:g'.io=upd g.io id' (some (b',n',cap')))
    (hblk:cap'≠0→(Go.Abs.blk g id=some b'∧st id≠none)∨b'=w.heap.size) (hold:∀b,b<w.heap.size→cap'=0∨b≠b'→w'.heap[b]?=w.heap[b]?)
    (hfr:∀b,cap'=0∨b≠b'→g'.fr b=g.fr b) (hfm:g'.fm=g.fm) (hfmb:cap'≠0→¬g.fm b') (hsz:w.heap.size≤w'.heap.size) (hb':cap'≠0→b'<w'.heap.size) (hl:Le g g') (ho:ObjOK P g' id' o'):
    MemOK P (upd (upd st id none) id' (some o')) w' g':=by
  have hst':st id'=none:=by
    cases h:st id' with
    |none=>rfl
    |some o=>obtain ⟨x,hx⟩:=sD (hm.obj id' o h);rw [hf] at hx;cases hx
  have hblt:∀{j b},st j≠none→Go.Abs.blk g j=some b→b<w.heap.size:=fun {j b} h1 h2=>by
    cases h:st j with
    |none=>exact absurd h h1
    |some o=>
      have hob:=hm.obj j o h
      have:∃x,g.heap[b]?=some x:=by obtain ⟨x,hx,_⟩:=nJ hob h2;exact ⟨x,hx⟩
      obtain ⟨x,hx⟩:=this
      have:=bN hx
      rwa [hm.heap] at this
  have hne:∀{j b},j≠id→st j≠none→Go.Abs.blk g j=some b→cap'≠0→b≠b':=fun {j b} h1 h2 h3 h4 e=>by
    subst e
    rcases hblk h4 with ⟨k1,k2⟩|k
    · exact h1 (hm.inj j id b h2 k2 h3 k1)
    · have:=hblt h2 h3;omega
  have hother:∀{j},j≠id'→Go.Abs.blk g' j=Go.Abs.blk g j:=fun {j} h=>by
    unfold Go.Abs.blk;rw [hio,aB h]
  have hget:∀j,upd (upd st id none) id' (some o') j=if j=id' then some o' else if j=id then none else st j:=fun j=>by
    by_cases h1:j=id'
    · rw [h1,aA,if_pos rfl]
    · rw [aB h1,if_neg h1]
      by_cases h2:j=id
      · rw [h2,aA,if_pos rfl]
      · rw [aB h2,if_neg h2]
  have hblk':∀{b},Go.Abs.blk g' id'=some b→cap'≠0∧b=b':=fun {b} h=>by
    unfold Go.Abs.blk at h;rw [hio,aA] at h;simp at h;exact ⟨h.1,h.2.symm⟩
  refine ⟨hh,fun j o e=> ?_,fun j j' b e e' h1 h2=> ?_,fun b hb=> ?_,fun b hb=> ?_, ?_⟩
  · rw [hget] at e
    split at e
    · rename_i h;injection e with e;subst e;rw [h];exact ho
    · rename_i h1
      split at e
      · cases e
      · rename_i h2
        refine (hm.obj j o e).keep hl fun b hb=> ?_
        have hlt:=hblt (by rw [e];simp) hb
        have hc:cap'=0∨b≠b':=by
          by_cases hc:cap'=0
          · exact .inl hc
          · exact .inr (hne h2 (by rw [e];simp) hb hc)
        exact ⟨by rw [hh,hold b hlt hc,hm.heap],hfr b hc,by rw [hfm]⟩
  · rw [hget] at e e'
    by_cases j1:j=id'
    · by_cases j2:j'=id'
      · rw [j1,j2]
      · exfalso
        rw [if_neg j2] at e'
        by_cases j3:j'=id
        · rw [if_pos j3] at e';exact e' rfl
        · rw [if_neg j3] at e'
          rw [j1] at h1
          obtain ⟨c1,c2⟩:=hblk' h1
          rw [hother j2] at h2
          exact hne j3 e' h2 c1 c2
    · rw [if_neg j1] at e
      by_cases j3:j=id
      · rw [if_pos j3] at e;exact absurd rfl e
      · rw [if_neg j3] at e
        rw [hother j1] at h1
        by_cases j2:j'=id'
        · exfalso
          rw [j2] at h2
          obtain ⟨c1,c2⟩:=hblk' h2
          exact hne j3 e h1 c1 c2
        · rw [if_neg j2] at e'
          by_cases j4:j'=id
          · rw [if_pos j4] at e';exact absurd rfl e'
          · rw [if_neg j4] at e'
            rw [hother j2] at h2
            exact hm.inj j j' b e e' h1 h2
  · by_cases hc:cap'=0∨b≠b'
    · rw [hfr b hc] at hb;have:=hm.lt b hb;omega
    · have hc1:cap'≠0:=fun e=>hc (.inl e)
      have hc2:b=b':=Classical.byContradiction fun e=>hc (.inr e)
      rw [hc2];exact hb' hc1
  · rw [hfm] at hb
    obtain ⟨ents,clock,e,hstp⟩:=hm.fmm b hb
    have hne':cap'=0∨b≠b':=by
      by_cases hc:cap'=0
      · exact .inl hc
      · exact .inr fun e=>hfmb hc (e▸hb)
    exact ⟨ents,clock,by rw [hold b (bN e) hne'];exact e,hstp⟩
  · obtain ⟨N,hN⟩:=hm.fin
    exact ⟨max N (id'+1),fun j hj=>by rw [hio,aB (by omega)];exact hN j (by omega)⟩
theorem uC {w:World} (T tx ty e:TypeId) (i:TypeInfo) (ht:P.underlying T=some (.slice e)) (hi:P.info? e=some i) (b sLen sCap:Nat) (cur:Array Value) (hg:w.heap[b]?=some (.cells cur e (0,0))) (x:Value) (n:Nat) (news:List Value) (hs:Src P i.size tx x n news w)
    (hroom:sLen+n≤sCap) (hfit:sLen*i.size+news.length≤cur.size):
    (Builtin.append_ #[T,tx] ty #[.slice (some ⟨b,0,none⟩) sLen sCap,x]).run P w= .ok (.slice (some ⟨b,0,none⟩) (sLen+n) sCap) (w.setRow b (cur.toList.take (sLen*i.size)++news++cur.toList.drop (sLen*i.size+news.length)).toArray):=by
  have hst:=run_storeCells_at P b (sLen*i.size) e news 0 cur w hg (by simpa using hfit) hs.one
  simp only [Nat.add_zero] at hst
  rcases hs.kind with ⟨e',hk⟩|hk<;>simp [Builtin.append_,run_underlying ht,run_underlying hk,sizeOf,typeInfo,hi,hs.len,hroom,hs.cells,Addr.add_lit,hst]
theorem rC {w:World} (T tx ty e:TypeId) (i:TypeInfo) (ht:P.underlying T=some (.slice e)) (hi:P.info? e=some i) (a:Option Addr) (x:Value) (hs:Src P i.size tx x 0 [] w):
    (Builtin.append_ #[T,tx] ty #[.slice a 0 0,x]).run P w= .ok (.slice a 0 0) w:=by
  rcases hs.kind with ⟨e',hk⟩|hk<;>cases a<;>simp [Builtin.append_,run_underlying ht,run_underlying hk,sizeOf,typeInfo,hi,hs.len,hs.cells,storeCells]
theorem pW {g:G} {id':Nat} {x:Nat×Nat×Nat} (h:g.io id'=none):∀j v,g.io j=some v→upd g.io id' (some x) j=some v:=fun j v hj=>by
  have hne:j≠id':=fun e=>by rw [e,h] at hj;cases hj
  rw [aB hne];exact hj
section
variable {l:List Oper} {r:List Oper} {s:St} {K:St→Prop} {t:Nat} {ty:TypeId} {pos:String} {after:Array Edge}
end
theorem aS {st:aI} {id id':Nat} {o o2:AObj} (h:st id=none):StSub (upd st id' (some o)) (upd (upd (upd st id (some o2)) id none) id' (some o)):=fun j=>by
  by_cases h1:j=id'
  · right;rw [h1,aA,aA]
  · rw [aB h1,aB h1]
    by_cases h2:j=id
    · left;rw [h2];exact h
    · right;rw [aB h2,aB h2]
theorem aN {st:aI} {id:Nat} {o:AObj} (h:st id=none):StSub st (upd st id (some o)):=fun j=>by
  by_cases h1:j=id
  · left;rw [h1];exact h
  · right;rw [aB h1]
end
end
end Go.Abs
namespace Go.Abs
open Go
section
variable {P:Program} {tt:TT}
theorem abO {st:aI} {w:World} {g:G} (hm:MemOK P st w g) (c:Array Value) (T:TypeId) (o:Obj) (ho:o= .cells c T (0,0)):
    let g':G:={g with heap:=(w.alloc o).heap,fr:=upd g.fr w.heap.size c.size}
    MemOK P st (w.alloc o) g'∧Le g g'∧Frame (fun _=>False) w g (w.alloc o) g':=by
  subst ho
  intro g'
  obtain ⟨m1,m2,m3⟩:=gY hm (.cells c T (0,0))
  have hsz:(w.alloc (.cells c T (0,0))).heap.size=w.heap.size+1:=by show (w.heap.push _).size=_;simp
  have hle1:Le {g with heap:=(w.alloc (.cells c T (0,0))).heap} g':=by
    refine ⟨fun _ _ h=>h,fun b=> ?_,fun _ _ _=>rfl,fun b hb=>⟨hb,rfl⟩⟩
    show g.fr b≤upd g.fr _ _ b
    by_cases h:b=w.heap.size
    · subst h
      rw [aA]
      cases hz:g.fr w.heap.size with
      |zero=>omega
      |succ k=>exact absurd (hm.lt w.heap.size (by omega)) (by omega)
    · rw [aB h];exact Nat.le_refl _
  have blt:∀id b,st id≠none→blk g id=some b→b<w.heap.size:=by
    intro id b h1 h2
    cases h3:st id with
    |none=>exact absurd h3 h1
    |some o=>
      have ho:=hm.obj id o h3
      obtain ⟨x,hx,_⟩:=nJ ho h2
      have:=bN hx
      rwa [hm.heap] at this
  refine ⟨⟨rfl,fun id o e=> ?_,m1.inj,fun b hb=> ?_,m1.fmm,m1.fin⟩,m2.trans hle1,⟨rfl,m3.tape,rfl,m3.size,fun b hb _=>⟨(m3.old b hb (fun h=>h)).1, ?_,Iff.rfl⟩⟩⟩
  · refine ObjOK.keep hle1 (fun b hb=>⟨rfl, ?_,Iff.rfl⟩) (m1.obj id o e)
    have:=blt id b (by rw [e];simp) hb
    show upd g.fr _ _ b=g.fr b
    exact aB (by omega)
  · have hb':upd g.fr w.heap.size c.size b≠0:=hb
    by_cases h:b=w.heap.size
    · subst h;rw [hsz];omega
    · rw [aB h] at hb';have:=hm.lt b hb';rw [hsz];omega
  · show upd g.fr _ _ b=g.fr b
    exact aB (by omega)
def xG {α:Type}:List (List PV)→(List (List PV)→Option α)→Option α
  |[],k=>k []
  |r::rs,k=>fO r fun r'=>xG rs fun rs'=>k (r'::rs')
theorem oR {α:Type}:∀(l:List (List PV)) (k:List (List PV)→Option α),xG l k=k l
  |[],_=>rfl
  |r::rs,k=>by simp only [xG];rw [cA,oR rs]
def gJ (sz:Nat):Nat→List PV→List (List PV)
  |0,_=>[]
  |n+1,cs=>cs.take sz::gJ sz n (cs.drop sz)
theorem jX (sz:Nat):∀(n:Nat) (cs:List PV),cs.length=n*sz→(gJ sz n cs).flatten=cs∧(gJ sz n cs).length=n∧∀r∈gJ sz n cs,r.length=sz
  |0,cs,h=>by
    have:cs=[]:=by rw [Nat.zero_mul] at h;exact List.length_eq_zero_iff.1 h
    subst this;simp [gJ]
  |n+1,cs,h=>by
    have hh:cs.length=n*sz+sz:=by rw [h,Nat.add_mul];omega
    obtain ⟨h1,h2,h3⟩:=jX sz n (cs.drop sz) (by rw [List.length_drop,hh];omega)
    refine ⟨by simp only [gJ,List.flatten_cons,h1];exact List.take_append_drop _ _,by simp [gJ,h2],fun r hr=> ?_⟩
    simp only [gJ,List.mem_cons] at hr
    rcases hr with rfl|hr
    · rw [List.length_take,hh];omega
    · exact h3 r hr
def anU :Nat→List PV→List PV
  |0,_=>[]
  |n+1,z=>z++anU n z
def iR (tt:TT) (s:St) (T:TypeId) (len:Nat) (ps:List (Nat×Operand)):Option PV:=
  match tiK tt T with
  |some (.slice e)=>match aW tt e,tiZ tt e with
    |some (sz+1),some z=>bif Nat.beq z.length (sz+1)&&Nat.ble (len*(sz+1)) 16777216 then
        match iH tt (fun i=>some (i*(sz+1),sz+1)) s (anU len (z.map .val)) ps with
        |some cs=>bif Nat.beq cs.length (len*(sz+1)) then xG (gJ (sz+1) len cs) fun rows=>match rows with|[]=>some .emp|r::rs=>some (.seq (r::rs)) else none
        |none=>none
      else none
    |_,_=>none
  |_=>none
theorem abW {s:St} {st:aI} {T:TypeId} {len:Nat} (ps:List (Nat×Operand)):iR tt (s.sst st) T len ps=iR tt s T len ps:=by
  have e3:∀place cells ps,iH tt place (s.sst st) cells ps=iH tt place s cells ps:=fun _ _ _=>pK _ _
  delta iR
  simp only [e3]
theorem pV (z:List Value):∀n,anU n (z.map PV.val)=((List.replicate n z).flatten).map PV.val
  |0=>rfl
  |n+1=>by simp [anU,pV z n,List.replicate_succ]
theorem iG (z:List Value) (hz:z≠[]):∀n,(List.range (n*z.length)).map (fun i=>z.toArray[i%z.length]!)=(List.replicate n z).flatten
  |0=>by simp
  |n+1=>by
    have hp:0<z.length:=List.length_pos_iff.2 hz
    apply List.ext_getElem?
    intro i
    rw [List.replicate_succ,List.flatten_cons]
    have ih:=iG z hz n
    rcases Nat.lt_or_ge i z.length with h|h
    · rw [List.getElem?_append_left h]
      have hi:i<(n+1)*z.length:=by rw [Nat.add_mul];omega
      simp [hi,Nat.mod_eq_of_lt h,h]
    · rw [List.getElem?_append_right h,←ih]
      rcases Nat.lt_or_ge i ((n+1)*z.length) with h2|h2
      · have h3:i-z.length<n*z.length:=by rw [Nat.add_mul] at h2;omega
        have h4:(i-z.length)%z.length=i%z.length:=by
          rw [←Nat.add_mod_right (i-z.length)];congr 1;omega
        simp [h2,h3,h4]
      · have h3:n*z.length≤i-z.length:=by rw [Nat.add_mul] at h2;omega
        rw [List.getElem?_eq_none (by simpa using h2),List.getElem?_eq_none (by simpa using h3)]
theorem aiB (htt:bL P tt) {o:Oper} {s:St} {T:TypeId} {len:Nat} {ps:List (Nat×Operand)} {p:PV} (ho:o.op= .buildSlice T len ps.toArray) (h:iR tt s T len ps=some p):OpV P o s p:=by
  intro w g ρ hm hρ
  have hops:∀x∈ps.map (·.2),fI g s x (ρ x):=fun x hx=>hρ x (by rw [ho];simpa [Op.operands] using hx)
  unfold iR at h
  split at h
  case h_2=>cases h
  rename_i e hk
  split at h
  case h_2=>cases h
  rename_i sz z hsz hz
  cases hb:(Nat.beq z.length (sz+1)&&Nat.ble (len*(sz+1)) 16777216) with
  |false=>rw [hb] at h;simp at h
  |true=>
    rw [hb] at h
    simp only [zqt] at h
    rw [Bool.and_eq_true] at hb
    have hb1:=Nat.eq_of_beq_eq_true hb.1
    have hb2:=Nat.le_of_ble_eq_true hb.2
    split at h
    case h_2=>cases h
    rename_i cs hcs
    cases hb3:Nat.beq cs.length (len*(sz+1)) with
    |false=>rw [hb3] at h;simp at h
    |true=>
      rw [hb3] at h
      have hb3:=Nat.eq_of_beq_eq_true hb3
      simp only [zqt,oR] at h
      have hu:=cI (aY htt hk).1
      obtain ⟨zv,hz1,hz2⟩:=jY htt hz
      have hzne:z≠[]:=by intro h0;rw [h0] at hb1;simp at hb1
      have hzs:zv.cells.size=sz+1:=by rw [←hb1,←hz2];simp
      let base:Array Value:=(Array.range (len*(sz+1))).map (zv.cells[· %zv.cells.size]!)
      have hbase:base.toList=(List.replicate len z).flatten:=by
        rw [←iG z hzne len,hb1]
        have hze:zv.cells=z.toArray:=by apply Array.toList_inj.1;simp [hz2]
        simp only [base,hze]
        simp [hb1]
      obtain ⟨us,h1,h2⟩:=lL (place':=fun i=>some (i*(sz+1),sz+1)) (fun i x hx=>hx) (ρ:=ρ) ps _ cs base hcs (by rw [hbase,pV];exact RepL.vals _) hops
      have hus:us.size=len*(sz+1):=by rw [←hb3,←h2.length];simp
      obtain ⟨c1,c2,c3⟩:=jX (sz+1) len cs hb3
      have hrun:(execOp ρ o).run P w= .ok (.value (.slice (some ⟨w.heap.size,0,none⟩) len len)) (w.alloc (.cells us e (0,0))):=by
        by_cases hl:len*(sz+1)=0
        · have hl0:len=0:=by rcases Nat.mul_eq_zero.1 hl with h|h<;>omega
          subst hl0
          have h1':Instr.fill (fun i=>some (i*(sz+1),sz+1)) base (ps.map fun x=>(x.fst,ρ x.snd))=some us:=h1
          have r0:Array.range 0=(#[]:Array Nat):=rfl
          simp only [base,Nat.zero_mul,r0,List.map_toArray,List.map_nil] at h1'
          simp only [execOp,ho,Instr.buildSlice,Sem.run_bind,run_underlying hu,Result.andThen_ok,aZ (aQ htt hsz).1,Sem.run_pure]
          simp [r0,h1',newRow,newObj]
          try rfl
        · have hgt:¬(len*(sz+1)>2^24):=by omega
          have h1':Instr.fill (fun i=>some (i*(sz+1),sz+1)) base (ps.map fun x=>(x.fst,ρ x.snd))=some us:=h1
          simp only [execOp,ho,Instr.buildSlice,Sem.run_bind,run_underlying hu,Result.andThen_ok,aZ (aQ htt hsz).1,Sem.run_pure,if_neg hgt,if_neg hl,cQ hz1]
          simp only [base] at h1'
          simp [h1',newRow,newObj]
          try rfl
      rw [hrun]
      obtain ⟨m1,m2,m3⟩:=abO hm us e _ rfl
      have key:∀{g:G},Rep g (.seq (gJ (sz+1) len cs)) (.slice (some ⟨w.heap.size,0,none⟩) len len)→Rep g p (.slice (some ⟨w.heap.size,0,none⟩) len len):=fun {g} hr=>by
        split at h
        · rename_i e
          injection h with h;subst h
          have:len=0:=by rw [←c2,e];rfl
          subst this
          simp only [Rep];exact ⟨_,rfl⟩
        · rename_i e;injection h with h;subst h;rw [←e];exact hr
      refine ⟨_,key ?_,m1,m2,m3.mono (fun b h=>h.elim)⟩
      simp only [Rep]
      refine ⟨some ⟨w.heap.size,0,none⟩,len,by rw [c2],by omega, ?_, .inr ⟨w.heap.size,0,sz+1,rfl, ?_⟩⟩
      · rw [c2]
        have:len*1≤len*(sz+1):=Nat.mul_le_mul_left _ (by omega)
        omega
      · refine RepR.mk c3 (by rw [c1];exact RepL.mono m2 _ _ h2) fun j v hj=> ?_
        have hj2:j<us.size:=by
          have:=(List.getElem?_eq_some_iff.1 hj).1;simpa using this
        refine ⟨?_,by show 0+j<upd g.fr _ _ _;rw [aA];omega⟩
        show bB (w.heap.push (.cells us e (0,0))) w.heap.size (0+j)=some v
        simp only [bB,Array.getElem?_push_size,Nat.zero_add]
        simpa using hj
section
variable {l:List Oper} {d:Md} {r:List Oper} {s:St} {K:St→Prop} {t:Nat} {op:Op} {ty:TypeId} {pos:String} {after:Array Edge} {gd:Option (Nat×Bool)}
theorem alJ (htt:bL P tt) {T:TypeId} {len:Nat} {ps:Array (Nat×Operand)} {w:Bool} {p:PV} (hw:bO l ⟨some t, .buildSlice T len ps,ty,pos,after,gd⟩ s=some w) (h:iR tt s T len ps.toList=some p) (hf:fT s w (opl (.buildSlice T len ps))) (hd:Nat.blt t s.n=true)
    (ht:cP d l r=true) (k:Ev P l d r (s.put (some t) w (.pv p)) K):Ev P l d (⟨some t, .buildSlice T len ps,ty,pos,after,gd⟩::r) s K:=
  dE hw (fun _ _=>aiB htt rfl ((abW _).trans h)) (fun z hz=>aX (fun _ _ _ e=>by cases e) hz) hf hd ht k
theorem atC (htt:bL P tt) {T:TypeId} {x:Nat} {y:Operand} {w wx:Bool} {u off n e sz:Nat} {kk:IntKind} {i:Int} (j:Nat) (hw:bO l ⟨some t, .indexAddr T (.tmp x) y,ty,pos,after,gd⟩ s=some w) (hx:s.env x=(wx, .adr u off)) (hy:opd s y=some (.val (.int kk i))) (hk:tiK tt T=some (.arr n e)) (hs:aW tt e=some sz)
    (hf:w=true→wx=true) (hf2:w=true→gE s y=true) (hd:Nat.blt t s.n=true)
    (hj:w=true→i=(j:Int)) (hlt:w=true→j<n) (ht:cP d l r=true) (k:Ev P l d r (s.put (some t) w (.adr u (off+j*sz))) K):Ev P l d (⟨some t, .indexAddr T (.tmp x) y,ty,pos,after,gd⟩::r) s K:=
  eK (.adrI w wx u off T x y kk i n e sz j hw hd rfl hx hy (fun h=>⟨hf h,eV.2 (hf2 h)⟩) (iQ (aY htt hk).1) (aQ htt hs).1 (fun h=>⟨hj h,hlt h⟩)) ht k
end
end
end Go.Abs
namespace Go.Abs
open Go
section
variable {P:Program} {tt:TT}
section
variable {l:List Oper} {d:Md} {r:List Oper} {s:St} {K:St→Prop} {t:Nat} {op:Op} {ty:TypeId} {pos:String} {after:Array Edge} {gd:Option (Nat×Bool)}
end
end
end Go.Abs
namespace Go.Abs
open Go
section
variable {P:Program} {tt:TT}
theorem ajJ {st:aI} {w:World} {g:G} (hm:MemOK P st w g) {j b:Nat} (h1:st j≠none) (h2:Go.Abs.blk g j=some b):b<w.heap.size:=by
  cases h:st j with
  |none=>exact absurd h h1
  |some o=>
    have hob:=hm.obj j o h
    have:∃x,g.heap[b]?=some x:=by obtain ⟨x,hx,_⟩:=nJ hob h2;exact ⟨x,hx⟩
    obtain ⟨x,hx⟩:=this
    have:=bN hx
    rwa [hm.heap] at this
theorem iK {st:aI} {w w':World} {g:G} (hm:MemOK P st w g) {id b:Nat} {o':AObj} {x y:Obj} (hid:st id≠none) (hb:Go.Abs.blk g id=some b) (hx:w.heap[b]?=some x) (hw:w'={w with heap:=w.heap.setIfInBounds b y})
    (hcell:∀i,i<g.fr b→bB w'.heap b i=bB w.heap b i) (hfm:¬g.fm b) (ho:Le g {g with heap:=w'.heap}→ObjOK P {g with heap:=w'.heap} id o'):
    MemOK P (upd st id (some o')) w' {g with heap:=w'.heap}∧Le g {g with heap:=w'.heap}∧Frame (Blocks st g) w g w' {g with heap:=w'.heap}∧(∀b',Blocks (upd st id (some o')) {g with heap:=w'.heap} b'→Blocks st g b'∨w.heap.size≤b'):=by
  have hlt:=bN hx
  have hne:∀b',b'≠b→w'.heap[b']?=w.heap[b']?:=fun b' h=>by
    rw [hw];simp only;rw [Array.getElem?_setIfInBounds];simp [Ne.symm h]
  have hle:Le g {g with heap:=w'.heap}:=by
    refine ⟨fun _ _ h=>h,fun _=>Nat.le_refl _,fun b' i hi=> ?_,fun b' hb'=>⟨hb', ?_⟩⟩
    · show bB w'.heap b' i=bB g.heap b' i
      rw [hm.heap]
      by_cases h:b'=b
      · subst h;exact hcell i hi
      · simp only [bB,hne b' h]
    · show w'.heap[b']?=g.heap[b']?
      rw [hm.heap]
      exact hne b' fun h=>hfm (h▸hb')
  have hsz:w'.heap.size=w.heap.size:=by rw [hw];simp
  refine ⟨⟨rfl,fun j o e=> ?_,fun j j' b' e e' h1 h2=> ?_,fun b' h=>by rw [hsz];exact hm.lt b' h,fun b' h=> ?_,hm.fin⟩,hle,⟨by rw [hw],by rw [hw];exact ⟨rfl,Nat.le_refl _⟩,by rw [hw],by rw [hsz];exact Nat.le_refl _,fun b' hb' hn=> ?_⟩,fun b' ⟨j,j1,j2⟩=> .inl ?_⟩
  · by_cases h:j=id
    · subst h;rw [aA] at e;injection e with e;subst e;exact ho hle
    · rw [aB h] at e
      refine (hm.obj j o e).keep hle fun b' hb'=>⟨?_,rfl,Iff.rfl⟩
      show w'.heap[b']?=g.heap[b']?
      rw [hm.heap]
      refine hne b' fun h'=>h ?_
      rw [h'] at hb'
      exact hm.inj j id b (by rw [e];simp) hid hb' hb
  · have e1:st j≠none:=by
      by_cases h:j=id
      · rw [h];exact hid
      · rwa [aB h] at e
    have e2:st j'≠none:=by
      by_cases h:j'=id
      · rw [h];exact hid
      · rwa [aB h] at e'
    exact hm.inj j j' b' e1 e2 h1 h2
  · obtain ⟨ents,clock,e,hstp⟩:=hm.fmm b' h
    exact ⟨ents,clock,by rw [hne b' fun h'=>hfm (h'▸h)];exact e,hstp⟩
  · refine ⟨hne b' fun h=>hn ⟨id,hid,by rw [h];exact hb⟩,rfl,Iff.rfl⟩
  · refine ⟨j, ?_,j2⟩
    by_cases h:j=id
    · rw [h];exact hid
    · rwa [aB h] at j1
theorem Stamps.push {ents:List MapEntry} {clock:Nat} (h:Stamps ents clock) (k v:Value):Stamps (ents++[{key:=k,val:=v,born:=clock}]) (clock+1):=by
  refine ⟨by rw [List.length_append,h.1];rfl,fun i e he=> ?_⟩
  rcases Nat.lt_or_ge i ents.length with hi|hi
  · rw [List.getElem?_append_left hi] at he;exact h.2 i e he
  · rw [List.getElem?_append_right hi] at he
    cases hj:i-ents.length with
    |zero=>rw [hj] at he;simp at he;rw [←he];simp only;rw [h.1];omega
    |succ n=>rw [hj] at he;simp at he
theorem Stamps.set {ents:List MapEntry} {clock j:Nat} {e:MapEntry} (h:Stamps ents clock) (hj:ents[j]?=some e) (k v:Value):Stamps (ents.set j {e with key:=k,val:=v}) clock:=by
  refine ⟨by rw [List.length_set];exact h.1,fun i x hx=> ?_⟩
  rw [List.getElem?_set] at hx
  split at hx
  · rename_i hi;subst hi
    split at hx
    · injection hx with hx;rw [←hx];exact (h.2 _ e hj:e.born=_)
    · cases hx
  · exact h.2 i x hx
theorem dI {es:Array MapEntry} {j:Nat} {e:MapEntry} (h:es.toList[j]?=some e) (f:MapEntry→MapEntry):(es.modify j f).toList=es.toList.set j (f e):=by
  apply List.ext_getElem?
  intro i
  rw [Array.getElem?_toList,Array.getElem?_modify,List.getElem?_set]
  by_cases hi:j=i
  · subst hi
    have hl:=(List.getElem?_eq_some_iff.1 h).1
    have h':es[j]?=some e:=by simpa using h
    simp [h']
    simpa using hl
  · simp [hi]
theorem aqE {st:aI} {w:World} {g:G} (hm:MemOK P st w g):∃id g',g.io id=none∧st id=none∧Rep g' (.mref id) (.map (some w.heap.size))∧MemOK P (upd st id (some (.map []))) (w.alloc (.map #[] 0)) g'∧Le g g'∧Frame (Blocks st g) w g (w.alloc (.map #[] 0)) g'∧
    ∀b',Blocks (upd st id (some (.map []))) g' b'→Blocks st g b'∨w.heap.size≤b':=by
  obtain ⟨id,f1,f2⟩:=iX hm
  obtain ⟨m1,m2,m3⟩:=gY hm (.map #[] 0)
  let g':G:={g with heap:=(w.alloc (.map #[] 0)).heap,io:=upd g.io id (some (w.heap.size,0,1))}
  have hle:Le g g':=⟨pW f1,m2.fr,m2.cell,m2.fm⟩
  have hnb:(w.alloc (.map #[] 0)).heap[w.heap.size]?=some (.map #[] 0):=by show (w.heap.push _)[_]?=_;simp
  have hfm:¬g.fm w.heap.size:=fun h=>by
    obtain ⟨en,cl,e,_⟩:=hm.fmm _ h
    have:=bN e;omega
  have hmem:=kU (w':=w.alloc (.map #[] 0)) (g':=g') (id:=id) (b':=w.heap.size) (n':=0) (cap':=1) (o':= .map []) hm f1 rfl rfl (fun _=> .inr rfl) (fun b hb _=>(m3.old b hb (fun h=>h)).1) (fun _ _=>rfl) rfl (fun _=>hfm) m3.size (fun _=>bN hnb) hle
    (by simp only [ObjOK];exact ⟨w.heap.size,0,1, #[],0,aA _ _ _,by omega,hnb,by simp [RepE],hfm,⟨by simp,by simp⟩⟩)
  have e1:upd (upd st id none) id (some (AObj.map []))=upd st id (some (.map [])):=by
    funext j
    by_cases h:j=id
    · rw [h,aA,aA]
    · rw [aB h,aB h,aB h]
  rw [e1] at hmem
  refine ⟨id,g',f1,f2,by simp only [Rep];exact ⟨w.heap.size,0,1,aA _ _ _,rfl⟩,hmem,hle,⟨m3.os,m3.tape,m3.output,m3.size,fun b hb hn=>⟨(m3.old b hb (fun h=>h)).1,rfl,Iff.rfl⟩⟩,fun b' ⟨j,j1,j2⟩=> ?_⟩
  by_cases h:j=id
  · subst h
    right
    simp [Go.Abs.blk,g',aA] at j2
    omega
  · rw [aB h] at j1
    refine .inl ⟨j,j1, ?_⟩
    unfold Go.Abs.blk at j2⊢
    rwa [show g'.io j=g.io j from aB h] at j2
section
variable {l:List Oper} {r:List Oper} {s:St} {K:St→Prop} {t:Nat} {dst:Option Nat} {op:Op} {ty:TypeId} {pos:String} {after:Array Edge} {gd:Option (Nat×Bool)}
theorem adD {T:TypeId} (hd:Nat.blt t s.n=true) (k:∀id,s.st id=none→Ev P l .seq r ((s.sst (upd s.st id (some (.map [])))).pv t (.mref id)) K):Ev P l .seq (⟨some t, .makeMap T none,ty,pos,after,none⟩::r) s K:=by
  refine asO rfl fun c a w g lam hs=> ?_
  obtain ⟨id,g',f1,f2,h1,h2,h3,h4,h5⟩:=aqE hs.mem
  have hrun:(execOp a.eval (⟨some t, .makeMap T none,ty,pos,after,none⟩:Oper)).run P w= .ok (.value (.map (some w.heap.size))) (w.alloc (.map #[] 0)):=by
    simp [execOp,Instr.makeMap,newObj,Sem.run]
  rw [hrun]
  exact ⟨_,g',lam,k id f2,(hs.step h2 h3 h4 h5).put (d:=some t) (b:=true) (e:= .pv _) (fun z hz=>by cases hz;simpa [Nat.blt_eq,St.sst] using hd) h1 (fun _ _ e=>by cases e)⟩
end
def St.frozen (s:St) (u:Nat) (cs:List PV):St:={s with env:=upd s.env u (true, .pv (.rp cs)),L:=upd s.L u none}
theorem SI.freeze {c:Ctx} {s:St} {a:Act} {w:World} {g:G} {lam:Nat→Nat} (hs:SI P c s a w g lam) (u:Nat) {T:TypeId} {cs:List PV} (hx:s.env u=(true, .adr u 0)) (hL:s.L u=some (T,cs)):∃g',SI P c (s.frozen u cs) a w g' lam:=by
  obtain ⟨vs,h1,h2,h3,h4,h5⟩:=hs.box u T cs hL
  have hlt:lam u<w.heap.size:=by have:=bN h1;rwa [hs.mem.heap] at this
  let g':G:={g with fr:=upd g.fr (lam u) vs.size}
  have hle:Le g g':=by
    refine ⟨fun _ _ h=>h,fun b=> ?_,fun _ _ _=>rfl,fun b hb=>⟨hb,rfl⟩⟩
    show g.fr b≤upd g.fr _ _ b
    by_cases h:b=lam u
    · rw [h,h3];exact Nat.zero_le _
    · rw [aB h];exact Nat.le_refl _
  have hfr:∀b,b≠lam u→g'.fr b=g.fr b:=fun b h=>aB h
  have hm:MemOK P s.st w g':=by
    refine ⟨hs.mem.heap,fun id o e=>(hs.mem.obj id o e).keep hle fun b hb=>⟨rfl,hfr b fun h=>h5 ⟨id,by rw [e];simp,h▸hb⟩,Iff.rfl⟩,hs.mem.inj,fun b hb=> ?_,hs.mem.fmm,hs.mem.fin⟩
    by_cases h:b=lam u
    · rw [h];exact hlt
    · rw [hfr b h] at hb;exact hs.mem.lt b hb
  have hrp:Rep g' (.rp cs) (.pointer (some ⟨lam u,0,none⟩)):=by
    simp only [Rep]
    refine ⟨lam u,0,rfl, ?_⟩
    have key:∀{cs:List PV} {o:Nat} {us:List Value},RepL g' cs us→(∀j v,us[j]?=some v→bB g'.heap (lam u) (o+j)=some v∧o+j<g'.fr (lam u))→RepA g' (lam u) o cs:=by
      intro cs
      induction cs with
      |nil=>intro o us _ _;simp [RepA]
      |cons c cs ih=>
        intro o us hh hcc
        simp only [RepL] at hh
        obtain ⟨v,us',rfl,e1,e2⟩:=hh
        simp only [RepA]
        refine ⟨⟨v,by simpa using (hcc 0 v (by simp)).1,by simpa using (hcc 0 v (by simp)).2,e1⟩,ih e2 fun j x hj=> ?_⟩
        have:=hcc (j+1) x (by simpa using hj)
        rwa [show o+(j+1)=o+1+j from by omega] at this
    refine key (RepL.mono hle _ _ h2) fun j v hj=> ?_
    have hj2:j<vs.size:=by have:=(List.getElem?_eq_some_iff.1 hj).1;simpa using this
    refine ⟨?_,by show 0+j<upd g.fr _ _ _;rw [aA];omega⟩
    show bB g.heap (lam u) (0+j)=some v
    simp only [bB,h1,Nat.zero_add]
    simpa using hj
  refine ⟨g',hm,hs.le.trans hle, ?_,hs.blk,fun t=> ?_,fun t U ds e=> ?_,fun t t' e e'=> ?_,fun t b v off e=> ?_,fun t e=> ?_,hs.defers,hs.n,hs.top⟩
  · refine ⟨hs.frame.os,hs.frame.tape,hs.frame.output,hs.frame.size,fun b hb hn=> ?_⟩
    obtain ⟨f1,f2,f3⟩:=hs.frame.old b hb hn
    exact ⟨f1,(hfr b (by omega)).trans f2,f3⟩
  · show EntOK g' lam (upd s.env u _ t) _
    by_cases h:t=u
    · subst h
      rw [aA]
      have:=hs.env t
      rw [hx] at this
      simp only [EntOK] at this⊢
      rw [this];exact hrp
    · rw [aB h];exact (hs.env t).mono hle
  · have e':upd s.L u none t=some (U,ds):=e
    by_cases h:t=u
    · rw [h,aA] at e';cases e'
    · rw [aB h] at e'
      obtain ⟨us,k1,k2,k3,k4,k5⟩:=hs.box t U ds e'
      refine ⟨us,k1,RepL.mono hle _ _ k2, ?_,k4,k5⟩
      rw [hfr]
      · exact k3
      · intro hh
        exact h (hs.inj t u (by rw [e'];simp) (by rw [hL];simp) hh)
  · have k1:s.L t≠none:=fun h=>e (by show upd s.L u none t=none;by_cases h':t=u;(rw [h',aA]);(rw [aB h'];exact h))
    have k2:s.L t'≠none:=fun h=>e' (by show upd s.L u none t'=none;by_cases h':t'=u;(rw [h',aA]);(rw [aB h'];exact h))
    exact hs.inj t t' k1 k2
  · have e':upd s.env u (true, .pv (.rp cs)) t=(b, .adr v off):=e
    by_cases h:t=u
    · rw [h,aA] at e';cases e'
    · rw [aB h] at e';exact hs.ad t b v off e'
  · refine hs.adL t fun h=>e ?_
    show upd s.L u none t=none
    by_cases h':t=u
    · rw [h',aA]
    · rw [aB h'];exact h
theorem acX {cd:Code} {Q:Exit→St→Prop} {s:St} (u:Nat) {T:TypeId} {cs:List PV} (hx:s.env u=(true, .adr u 0)) (hL:s.L u=some (T,cs)) (k:PWp P cd Q (s.frozen u cs)):PWp P cd Q s:=by
  intro c a w g lam hs
  obtain ⟨g',h⟩:=hs.freeze u hx hL
  exact k c a w g' lam h
theorem dC {l r:List Oper} {o:Oper} {K:St→Prop} {s:St} (u:Nat) {T:TypeId} {cs:List PV} (hx:s.env u=(true, .adr u 0)) (hL:s.L u=some (T,cs)) (k:Ev P l .seq (o::r) (s.frozen u cs) K):Ev P l .seq (o::r) s K:=by
  intro c a w g lam hs
  obtain ⟨g',h⟩:=hs.freeze u hx hL
  exact k c a w g' lam h
theorem SI.freezeMap {c:Ctx} {s:St} {a:Act} {w:World} {g:G} {lam:Nat→Nat} (hs:SI P c s a w g lam) (u:Nat) {id:Nat} {es:List (Value×PV)} (hx:s.env u=(true, .pv (.mref id))) (hst:s.st id=some (.map es)):∃g',SI P c ((s.sst (upd s.st id none)).pv u (.fmap es)) a w g' lam:=by
  have hob:=hs.mem.obj id _ hst
  simp only [ObjOK] at hob
  obtain ⟨b,n,cap,ents,clock,h1,h2,h3,h4,h5,h6⟩:=hob
  have hblk:Go.Abs.blk g id=some b:=by simp [Go.Abs.blk,h1,h2]
  have hb:w.heap[b]?=some (.map ents clock):=by rw [←hs.mem.heap];exact h3
  let g':G:={g with fm:=fun b'=>b'=b∨g.fm b'}
  have hle:Le g g':=⟨fun _ _ h=>h,fun _=>Nat.le_refl _,fun _ _ _=>rfl,fun _ h=>⟨.inr h,rfl⟩⟩
  have hnb:¬Blocks (upd s.st id none) g b:=fun ⟨j,j1,j2⟩=>by
    by_cases h:j=id
    · rw [h,aA] at j1;exact j1 rfl
    · rw [aB h] at j1
      exact h (hs.mem.inj j id b j1 (by rw [hst];simp) j2 hblk)
  have hsub:StSub (upd s.st id none) s.st:=fun j=>by
    by_cases h:j=id
    · left;rw [h,aA]
    · right;rw [aB h]
  have hm:MemOK P (upd s.st id none) w g':=by
    have hm1:=hs.mem.sub hsub
    refine ⟨hm1.heap,fun j o e=>(hm1.obj j o e).keep hle fun b' hb'=>⟨rfl,rfl, ?_⟩,hm1.inj,hm1.lt,fun b' hb'=> ?_,hm1.fin⟩
    · constructor
      · rintro (h|h)
        · exact absurd ⟨j,by rw [e];simp,h▸hb'⟩ hnb
        · exact h
      · exact .inr
    · rcases hb' with rfl|hb'
      · exact ⟨ents,clock,hb,h6.weak⟩
      · exact hm1.fmm b' hb'
  have hcb:=hs.blk b ⟨id,by rw [hst];simp,hblk⟩
  refine ⟨g',hm,hs.le.trans hle,⟨hs.frame.os,hs.frame.tape,hs.frame.output,hs.frame.size,fun b' hb' hn=> ?_⟩,fun b' hb'=>hs.blk b' (Blocks.sub hsub hb'),fun t=> ?_,fun t U ds e=> ?_,hs.inj,fun t bb v off e=> ?_,hs.adL,hs.defers,hs.n,hs.top⟩
  · obtain ⟨f1,f2,f3⟩:=hs.frame.old b' hb' hn
    refine ⟨f1,f2, ?_⟩
    rw [←f3]
    constructor
    · rintro (h|h)
      · subst h
        rcases hcb with h|h
        · exact absurd h hn
        · omega
      · exact h
    · exact .inr
  · show EntOK g' lam (upd s.env u _ t) _
    by_cases h:t=u
    · subst h
      rw [aA]
      have:=hs.env t
      rw [hx] at this
      simp only [EntOK,Rep] at this⊢
      obtain ⟨b',n',cap',e1,e2⟩:=this
      rw [h1] at e1;injection e1 with e1;injection e1 with e1 e3;subst e1
      exact ⟨b,ents,clock,e2, .inl rfl,h3,RepE.mono hle _ _ h4⟩
    · rw [aB h];exact (hs.env t).mono hle
  · obtain ⟨us,k1,k2,k3,k4,k5⟩:=hs.box t U ds e
    exact ⟨us,k1,RepL.mono hle _ _ k2,k3,k4,fun hh=>k5 (Blocks.sub hsub hh)⟩
  · have e':upd s.env u (true, .pv (.fmap es)) t=(bb, .adr v off):=e
    by_cases h:t=u
    · rw [h,aA] at e';cases e'
    · rw [aB h] at e';exact hs.ad t bb v off e'
theorem oN {l r:List Oper} {o:Oper} {K:St→Prop} {s:St} (u:Nat) {id:Nat} {es:List (Value×PV)} (hx:s.env u=(true, .pv (.mref id))) (hst:s.st id=some (.map es)) (k:Ev P l .seq (o::r) ((s.sst (upd s.st id none)).pv u (.fmap es)) K):Ev P l .seq (o::r) s K:=by
  intro c a w g lam hs
  obtain ⟨g',h⟩:=hs.freezeMap u hx hst
  exact k c a w g' lam h
mutual
def lens :PV→Prop
  | .seq rows=>rows.length<2^62∧qJ rows
  | .own _ rows=>rows.length<2^62∧qJ rows
  | .agg cs=>lS cs
  | .tup cs=>lS cs
  | .rp cs=>lS cs
  |_=>True
def lS :List PV→Prop
  |[]=>True
  |p::ps=>lens p∧lS ps
def qJ :List (List PV)→Prop
  |[]=>True
  |r::rs=>lS r∧qJ rs
end
mutual
theorem Rep.lens {g:G}:∀(p:PV) (v:Value),Rep g p v→lens p
  | .seq rows,_,h=>by
    simp only [Rep] at h
    simp only [Go.Abs.lens]
    obtain ⟨a,cap,_,_,h3,h⟩:=h
    refine ⟨h3, ?_⟩
    rcases h with h|⟨b,off,sz,_,h⟩
    · subst h;simp [qJ]
    · exact RepR.lens b off sz rows h
  | .own id rows,_,h=>by
    simp only [Rep] at h
    simp only [Go.Abs.lens]
    obtain ⟨b,cap,sz,_,h2,h3,h⟩:=h
    refine ⟨h3, ?_⟩
    rcases h with ⟨h,_⟩|⟨_,_,h⟩
    · have:rows=[]:=List.length_eq_zero_iff.1 (by omega)
      subst this;simp [qJ]
    · exact RepR.lens b 0 sz rows h
  | .agg cs,_,h=>by
    simp only [Rep] at h
    obtain ⟨vs,_,h⟩:=h
    simp only [Go.Abs.lens]
    exact RepL.lens cs vs h
  | .tup cs,_,h=>by
    simp only [Rep] at h
    obtain ⟨vs,_,h⟩:=h
    simp only [Go.Abs.lens]
    exact RepL.lens cs vs h
  | .rp cs,_,h=>by
    simp only [Rep] at h
    obtain ⟨b,off,_,h⟩:=h
    simp only [Go.Abs.lens]
    exact RepA.lens b off cs h
  | .und,_,_=>by simp [Go.Abs.lens]
  | .val _,_,_=>by simp [Go.Abs.lens]
  | .fn _ _,_,_=>by simp [Go.Abs.lens]
  | .fmap _,_,_=>by simp [Go.Abs.lens]
  | .ref _ _,_,_=>by simp [Go.Abs.lens]
  | .vec _ _ _ _,_,_=>by simp [Go.Abs.lens]
  | .el _ _ _ _,_,_=>by simp [Go.Abs.lens]
  | .mref _,_,_=>by simp [Go.Abs.lens]
  | .emp,_,_=>by simp [Go.Abs.lens]
  | .yld _,_,_=>by simp [Go.Abs.lens]
theorem RepL.lens {g:G}:∀(ps:List PV) (vs:List Value),RepL g ps vs→lS ps
  |[],_,_=>by simp [lS]
  |p::ps,vs,h=>by
    simp only [RepL] at h
    obtain ⟨v,vs',_,h1,h2⟩:=h
    simp only [lS]
    exact ⟨Rep.lens p v h1,RepL.lens ps vs' h2⟩
theorem RepA.lens {g:G} (b off:Nat):∀(ps:List PV),RepA g b off ps→lS ps
  |[],_=>by simp [lS]
  |p::ps,h=>by
    simp only [RepA] at h
    obtain ⟨⟨v,_,_,h1⟩,h2⟩:=h
    simp only [lS]
    exact ⟨Rep.lens p v h1,RepA.lens b (off+1) ps h2⟩
theorem RepR.lens {g:G} (b off sz:Nat):∀(rs:List (List PV)),RepR g b off sz rs→qJ rs
  |[],_=>by simp [qJ]
  |r::rs,h=>by
    simp only [RepR] at h
    simp only [qJ]
    exact ⟨RepA.lens b off r h.2.1,RepR.lens b (off+sz) sz rs h.2.2⟩
end
end
end Go.Abs
