import Derived.Test.YtppdefkgmegipaaGreatDoorAbsB
import Derived.Deep.AppendSrc
import Derived.MapKept
set_option linter.unusedSimpArgs false
set_option linter.unusedVariables false
namespace Go.Abs
open Go
section
def softF :Nat->PV->PV
 |0,p=>match p with
  | .own _ rows=> .seq rows
  | .val (.slice none 0 0)=> .seq []
  | .emp=> .seq []
  |p=>p
 |n+1,p=>match p with
  | .own _ rows=> .seq rows
  | .val (.slice none 0 0)=> .seq []
  | .emp=> .seq []
  | .agg cs=> .agg (cs.map (softF n))
  | .tup cs=> .tup (cs.map (softF n))
  |p=>p
def soft (p:PV):PV:=softF 3 p
theorem Wk.emp :Wk .emp (.seq []):=λg v h=>by
 simp only [Rep] at h
 obtain ⟨a,rfl⟩:=h
 unfold Rep
 exact ⟨a,0,rfl,by simp,by simp, .inl rfl⟩
theorem sG :∀(cs:List PV) {g:PV->PV},(∀q∈cs,Wk q (g q))->WkL cs (cs.map g)
 |[],_,_=> .nil
 |c::cs,g,h=> .cons (h c (by simp)) (sG cs λq hq=>h q (by simp [hq]))
theorem Wk.softF :∀(n:Nat) (p:PV),Wk p (softF n p)
 |0,p=>by
  unfold Go.Abs.softF
  split
  ·exact Wk.own _ _
  ·exact Wk.nil
  ·exact Wk.emp
  ·exact zwr _
 |n+1,p=>by
  unfold Go.Abs.softF
  split
  ·exact Wk.own _ _
  ·exact Wk.nil
  ·exact Wk.emp
  ·exact Wk.agg (sG _ λq _=>Wk.softF _ q)
  ·exact Wk.tup (sG _ λq _=>Wk.softF _ q)
  ·exact zwr _
theorem Wk.soft (p:PV):Wk p (soft p):=Wk.softF 3 p
theorem zwf (p:PV):Wk p (soft p):=Wk.soft p
theorem WkL.soft :∀(ps:List PV),WkL ps (ps.map soft)
 |[]=> .nil
 |p::ps=> .cons (Wk.soft p) (WkL.soft ps)
end
section
theorem sC {n:Int} (h1: -9223372036854775808<=n) (h2:n<=9223372036854775807):IntKind.i64.wrap n=n:=by
 simp only [IntKind.wrap,IntKind.bits,IntKind.signed,Bool.true_and]
 split<;>rename_i h<;>simp at h<;>omega
section
variable {P:Program} {tt:TT} {l:List Oper} {d:Md} {r:List Oper} {s:St} {K:St->Prop} {t:Nat} {ty:TypeId} {pos:String} {after:Array Edge} {gd:Option (Nat×Bool)}
theorem nS {o:Oper} {op:BinOp} {T T2:TypeId} {x y:Operand} {k:IntKind} {a b c:Int} (ho:o.op= .binOp op T x y T2) (hx:opd s x=some (.val (.int k a))) (hy:opd s y=some (.val (.int k b)))
  (hc:(op= .add/\k.wrap (a+b)=c)\/(op= .sub/\k.wrap (a-b)=c)\/(op= .mul/\k.wrap (a*b)=c)\/(op= .quo/\b≠0/\k.wrap (a.tdiv b)=c)\/(op= .rem/\b≠0/\a.tmod b=c)):OpV P o s (.val (.int k c)):=by
 refine aM λw g ρ _ hρ=> ?_
 have ex:=aK (hρ x (by rw [ho];simp [Op.operands]) _ hx)
 have ey:=aK (hρ y (by rw [ho];simp [Op.operands]) _ hy)
 refine ⟨.int k c,dV ho (by rw [ex,ey];simp [eqGuard]) ?_,by simp [Rep]⟩
 rw [ex,ey]
 rcases hc with ⟨rfl,rfl⟩|⟨rfl,rfl⟩|⟨rfl,rfl⟩|⟨rfl,hb,rfl⟩|⟨rfl,hb,rfl⟩<;>simp [binOp,Op.intArith,Op.intDiv, *]
theorem azU {o:Oper} {T:TypeId} {x:Operand} {k:IntKind} {a c:Int} (ho:o.op= .unOp .neg T x) (hx:opd s x=some (.val (.int k a))) (hc:k.wrap (0-a)=c):OpV P o s (.val (.int k c)):=by
 refine aM λw g ρ _ hρ=> ?_
 have ex:=aK (hρ x (by rw [ho];simp [Op.operands]) _ hx)
 exact ⟨.int k c,by simp [execOp,ho,ex,Op.unary,Op.intArith,<-hc],by simp [Rep]⟩
theorem atI (htt:bC P tt) {o:Oper} {T T2:TypeId} {x:Operand} {k k2:IntKind} {a c:Int} (ho:o.op= .convert T T2 x) (hx:opd s x=some (.val (.int k a))) (hT:(tiK tt T).isSome=true) (hk:tiK tt T2=some (.int k2)) (hc:k2.wrap a=c):OpV P o s (.val (.int k2 c)):=by
 refine aM λw g ρ _ hρ=> ?_
 have ex:=aK (hρ x (by rw [ho];simp [Op.operands]) _ hx)
 have hu2:=lX (aP htt hk).1
 cases hT':tiK tt T with
 |none=>rw [hT'] at hT;cases hT
 |some kk=>
  have hu:=(aP htt hT').2
  cases hu1:P.underlying T with
  |none=>rw [hu1] at hu;cases hu
  |some dd=>
   refine ⟨.int k2 c, ?_,by simp [Rep]⟩
   simp [execOp,ho,ex,convert,run_underlying hu1,run_underlying hu2,Conv.intToInt,hc]
theorem uA {op:BinOp} {T T2:TypeId} {x y:Operand}:∀z∈(Op.binOp op T x y T2).operands,z∈opl (.binOp op T x y T2):=λz hz=>aR (λ_ _ _ e=>by cases e) hz
theorem ayQ {T T2:TypeId} {x y:Operand} {kk:IntKind} {a b:Int} (hx:opd s x=some (.val (.int kk a))) (hy:opd s y=some (.val (.int kk b))) (hf:bK s [x,y]=true) (hd:Nat.blt t s.n=true)
  (ht:cI d l r=true) (k:Ev P l d r (s.pv t (.val (.int kk (kk.wrap (a+b))))) K):Ev P l d (⟨some t, .binOp .add T x y T2,ty,pos,after,none⟩::r) s K:=
 vC (λ_=>nS rfl hx hy (.inl ⟨rfl,rfl⟩)) uA hf hd ht k
theorem azC {T T2:TypeId} {x y:Operand} {kk:IntKind} {a b:Int} (hx:opd s x=some (.val (.int kk a))) (hy:opd s y=some (.val (.int kk b))) (hf:bK s [x,y]=true) (hd:Nat.blt t s.n=true)
  (ht:cI d l r=true) (k:Ev P l d r (s.pv t (.val (.int kk (kk.wrap (a-b))))) K):Ev P l d (⟨some t, .binOp .sub T x y T2,ty,pos,after,none⟩::r) s K:=
 vC (λ_=>nS rfl hx hy (.inr (.inl ⟨rfl,rfl⟩))) uA hf hd ht k
theorem ayT {T T2:TypeId} {x y:Operand} {kk:IntKind} {a b:Int} (hx:opd s x=some (.val (.int kk a))) (hy:opd s y=some (.val (.int kk b))) (hf:bK s [x,y]=true) (hd:Nat.blt t s.n=true)
  (ht:cI d l r=true) (k:Ev P l d r (s.pv t (.val (.int kk (kk.wrap (a*b))))) K):Ev P l d (⟨some t, .binOp .mul T x y T2,ty,pos,after,none⟩::r) s K:=
 vC (λ_=>nS rfl hx hy (.inr (.inr (.inl ⟨rfl,rfl⟩)))) uA hf hd ht k
theorem ayF (htt:bC P tt) {T T2:TypeId} {x:Operand} {k1 k2:IntKind} {a c:Int} (hx:opd s x=some (.val (.int k1 a))) (hT:(tiK tt T).isSome=true) (hk:tiK tt T2=some (.int k2)) (hc:k2.wrap a=c) (hf:bK s [x]=true) (hd:Nat.blt t s.n=true)
  (ht:cI d l r=true) (k:Ev P l d r (s.pv t (.val (.int k2 c))) K):Ev P l d (⟨some t, .convert T T2 x,ty,pos,after,none⟩::r) s K:=
 vC (λ_=>atI htt rfl hx hT hk hc) (λz hz=>aR (λ_ _ _ e=>by cases e) hz) hf hd ht k
theorem iE {op:BinOp} {T T2:TypeId} {x y:Operand} {w:Bool} {kk:IntKind} {a b c:Int} (hw:bF l ⟨some t, .binOp op T x y T2,ty,pos,after,gd⟩ s=some w) (hx:opd s x=some (.val (.int kk a))) (hy:opd s y=some (.val (.int kk b)))
  (hc:w=true->(op= .add/\kk.wrap (a+b)=c)\/(op= .sub/\kk.wrap (a-b)=c)\/(op= .mul/\kk.wrap (a*b)=c)\/(op= .quo/\b≠0/\kk.wrap (a.tdiv b)=c)\/(op= .rem/\b≠0/\a.tmod b=c)) (hf:gF s w [x,y]) (hd:Nat.blt t s.n=true)
  (ht:cI d l r=true) (k:Ev P l d r (s.put (some t) w (.pv (.val (.int kk c)))) K):Ev P l d (⟨some t, .binOp op T x y T2,ty,pos,after,gd⟩::r) s K:=
 cN hw (λhw' _=>nS rfl hx hy (hc hw')) uA hf hd ht k
theorem azR {T T2:TypeId} {x y:Operand} {w:Bool} {a b:Int} (c:Int) (hw:bF l ⟨some t, .binOp .add T x y T2,ty,pos,after,gd⟩ s=some w) (hx:opd s x=some (.val (.int .i64 a))) (hy:opd s y=some (.val (.int .i64 b))) (hf:gF s w [x,y]) (hd:Nat.blt t s.n=true)
  (hc:w=true->a+b=c) (h1:w=true-> -9223372036854775808<=c) (h2:w=true->c<=9223372036854775807) (ht:cI d l r=true) (k:Ev P l d r (s.put (some t) w (.pv (.val (.int .i64 c)))) K):Ev P l d (⟨some t, .binOp .add T x y T2,ty,pos,after,gd⟩::r) s K:=
 iE hw hx hy (λh=> .inl ⟨rfl,(hc h)▸sC ((hc h).symm▸h1 h) ((hc h).symm▸h2 h)⟩) hf hd ht k
theorem aAc {T T2:TypeId} {x y:Operand} {w:Bool} {a b:Int} (c:Int) (hw:bF l ⟨some t, .binOp .sub T x y T2,ty,pos,after,gd⟩ s=some w) (hx:opd s x=some (.val (.int .i64 a))) (hy:opd s y=some (.val (.int .i64 b))) (hf:gF s w [x,y]) (hd:Nat.blt t s.n=true)
  (hc:w=true->a-b=c) (h1:w=true-> -9223372036854775808<=c) (h2:w=true->c<=9223372036854775807) (ht:cI d l r=true) (k:Ev P l d r (s.put (some t) w (.pv (.val (.int .i64 c)))) K):Ev P l d (⟨some t, .binOp .sub T x y T2,ty,pos,after,gd⟩::r) s K:=
 iE hw hx hy (λh=> .inr (.inl ⟨rfl,(hc h)▸sC ((hc h).symm▸h1 h) ((hc h).symm▸h2 h)⟩)) hf hd ht k
def eK :PV->Option (List (List PV))
 | .seq rows=>some rows
 | .own _ rows=>some rows
 | .val (.slice none 0 0)=>some []
 | .emp=>some []
 |_=>none
theorem lW {p:PV} {rows:List (List PV)} (h:eK p=some rows) {g:G} {v:Value} (hr:Rep g p v):Rep g (.seq rows) v:=by
 unfold eK at h
 split at h
 ·injection h with h;subst h;exact hr
 ·injection h with h;subst h;exact Wk.own _ _ _ _ hr
 ·injection h with h;subst h;exact Wk.nil _ _ hr
 ·injection h with h;subst h;simp only [Rep] at hr;obtain ⟨a,rfl⟩:=hr;unfold Rep;exact ⟨a,0,rfl,by simp,by simp, .inl rfl⟩
 ·cases h
theorem RepR.get {g:G} {b:Nat} {sz:Nat}:∀{rows:List (List PV)} {off:Nat} {j:Nat} {row:List PV},RepR g b off sz rows->rows[j]?=some row->row.length=sz/\RepA g b (off+j*sz) row
 |[],_,_,_,_,e=>by simp at e
 |r::rs,off,j,row,h,e=>by
  simp only [RepR] at h
  cases j with
  |zero=>simp at e;subst e;exact ⟨h.1,by simpa using h.2.1⟩
  |succ j=>
   simp at e
   have:=RepR.get h.2.2 e
   refine ⟨this.1, ?_⟩
   rw [show off+(j+1)*sz=off+sz+j*sz from by rw [Nat.add_mul];omega]
   exact this.2
theorem aoC (htt:bC P tt) {o:Oper} {T e:TypeId} {x y:Operand} {p:PV} {rows:List (List PV)} {k:IntKind} {n:Int} {j sz:Nat} {row:List PV} (ho:o.op= .indexAddr T x y) (hx:opd s x=some p) (hp:eK p=some rows) (hy:opd s y=some (.val (.int k n))) (hj:n=(j:Int))
  (hk:tiK tt T=some (.slice e)) (hs:aO tt e=some sz) (hr:rows[j]?=some row) (hl:row.length=sz):OpV P o s (.rp row):=by
 refine aM λw g ρ _ hρ=> ?_
 have rx:=lW hp (hρ x (by rw [ho];simp [Op.operands]) _ hx)
 have ey:=aK (hρ y (by rw [ho];simp [Op.operands]) _ hy)
 simp only [Rep] at rx
 obtain ⟨a,cap,ex,_,_,h4⟩:=rx
 rcases h4 with h4|⟨b,off,sz',rfl,hR⟩
 ·subst h4;simp at hr
 ·obtain ⟨g1,g2⟩:=hR.get hr
  have hsz:sz'=sz:=by omega
  subst hsz
  have hlt:j<rows.length:=by
   rcases Nat.lt_or_ge j rows.length with h|h
   ·exact h
   ·rw [List.getElem?_eq_none h] at hr;cases hr
  have hu:=bP (aP htt hk).1
  refine ⟨.pointer (some ⟨b,off+j*sz',none⟩), ?_,by simp only [Rep];exact ⟨b,_,rfl,g2⟩⟩
  subst hj
  have hin:(0:Int)<=(j:Int)/\(j:Int)<(rows.length:Int):=by omega
  simp only [execOp,ho,Instr.indexAt,ey,ex,asIntOf,Sem.run_bind,Sem.run_pure,Result.andThen_ok,run_underlying hu]
  rw [zp hin]
  simp only [Sem.run_bind,aX (aN htt hs).1,Result.andThen_ok,Sem.run_pure,Int.toNat_natCast,cE]
theorem apD (htt:bC P tt) {T e:TypeId} {x y:Operand} {w:Bool} {p:PV} {rows:List (List PV)} {kk:IntKind} {n:Int} {j sz:Nat} {row:List PV} (hw:bF l ⟨some t, .indexAddr T x y,ty,pos,after,gd⟩ s=some w) (hx:opd s x=some p) (hp:eK p=some rows) (hy:opd s y=some (.val (.int kk n))) (hk:tiK tt T=some (.slice e)) (hs:aO tt e=some sz) (hf:gF s w [x,y]) (hd:Nat.blt t s.n=true)
  (hj:w=true->n=(j:Int)) (hr:w=true->rows[j]?=some row) (hl:w=true->row.length=sz) (ht:cI d l r=true) (k:Ev P l d r (s.put (some t) w (.pv (.rp row))) K):Ev P l d (⟨some t, .indexAddr T x y,ty,pos,after,gd⟩::r) s K:=
 cN hw (λhw' _=>aoC htt rfl hx hp hy (hj hw') hk hs (hr hw') (hl hw')) (λz hz=>aR (λ_ _ _ e=>by cases e) hz) hf hd ht k
end
end
section
section
variable {P:Program} {tt:TT}
theorem SI.step {c:Ctx} {s:St} {a:Act} {w w':World} {g g':G} {lam:Nat->Nat} (hs:SI P c s a w g lam) {st':aD} (hm:MemOK P st' w' g') (hl:Le g g') (hf:Frame (Blocks s.st g) w g w' g')
  (hb:∀b,Blocks st' g' b->Blocks s.st g b\/w.heap.size<=b):SI P c (s.sst (st')) a w' g' lam where
 mem:=hm
 le:=hs.le.trans hl
 frame:=hs.frame.trans hf λb hb h=>(hs.blk b h).resolve_right (by omega)
 blk b h:=by
  rcases hb b h with h|h
  ·exact hs.blk b h
  ·right;have:=hs.frame.size;omega
 env t:=(hs.env t).mono hl
 box t T cs e:=by
  obtain ⟨vs,h1,h2,h3,h4,h5⟩:=hs.box t T cs e
  have hlt:lam t<w.heap.size:=by have:=aZ h1;rwa [hs.mem.heap] at this
  obtain ⟨k1,k2,_⟩:=hf.old _ hlt h5
  refine ⟨vs, ?_,RepL.mono hl _ _ h2,k2.trans h3,h4,λh=> ?_⟩
  ·rw [hm.heap,k1,<-hs.mem.heap];exact h1
  ·rcases hb _ h with h|h
   ·exact h5 h
   ·omega
 inj:=hs.inj
 ad:=hs.ad
 adL:=hs.adL
 defers:=hs.defers.mono rfl λD hD=>by
  have hlt:=aZ hD
  rw [hs.mem.heap] at hlt
  rw [hm.heap,(hf.old D hlt (mW hs.mem hD)).1,hs.mem.heap]
 top:=hs.top
 n:=hs.n
section
variable {l:List Oper} {r:List Oper} {s:St} {K:St->Prop} {t:Nat} {dst:Option Nat} {ty:TypeId} {pos:String} {after:Array Edge} {gd:Option (Nat×Bool)}
theorem avJ {o:Oper} (hg:o.guard=none) (h:∀c a w g lam,SI P c s a w g lam->OpRes P (λv w'=>∃s' g' lam',Ev P l .seq r s' K/\SI P c s' (a.put o.dst v) w' g' lam') ((execOp a.eval o).run P w)):Ev P l .seq (o::r) s K:=by
 intro c a w g lam hs K' Q hK
 unfold sQ
 have hw:Region.wanted o (yielded l.toArray a.tmps)=true:=by simp [Region.wanted,hg]
 rw [hw]
 simp only [if_true]
 refine cK (h c a w g lam hs) ?_
 rintro v w' ⟨s',g',lam',h1,h2⟩
 exact hK _ _ _ _ _ h1 h2
theorem RepR.vals {g:G} {b sz:Nat}:∀{rows:List (List PV)} {off:Nat},RepR g b off sz rows->∃vs,RepL g rows.flatten vs/\vs.length=rows.length*sz/\∀j v,vs[j]?=some v->aS g.heap b (off+j)=some v/\off+j<g.fr b
 |[],_,_=>⟨[],by simp [RepL],by simp,by simp⟩
 |r::rs,off,h=>by
  simp only [RepR] at h
  obtain ⟨h1,h2,h3⟩:=h
  have key:∀{cs:List PV} {o:Nat},RepA g b o cs->∃vs,RepL g cs vs/\∀j v,vs[j]?=some v->aS g.heap b (o+j)=some v/\o+j<g.fr b:=by
   intro cs
   induction cs with
   |nil=>intro o _;exact ⟨[],by simp [RepL],by simp⟩
   |cons c cs ih=>
    intro o hh
    simp only [RepA] at hh
    obtain ⟨⟨v,e1,e2,e3⟩,e4⟩:=hh
    obtain ⟨vs,k1,k2⟩:=ih e4
    refine ⟨v::vs,by simp only [RepL];exact ⟨v,vs,rfl,e3,k1⟩,λj u hj=> ?_⟩
    cases j with
    |zero=>simp at hj;subst hj;exact ⟨e1,e2⟩
    |succ j=>simp at hj;have:=k2 j u hj;rwa [show o+(j+1)=o+1+j from by omega]
  obtain ⟨v1,a1,a2⟩:=key h2
  obtain ⟨v2,b1,b2,b3⟩:=RepR.vals h3
  have hl1:=a1.length
  refine ⟨v1++v2,by simp only [List.flatten_cons];exact a1.append b1,by simp [b2,hl1,h1,Nat.add_mul];omega,λj v hj=> ?_⟩
  rcases Nat.lt_or_ge j v1.length with hlt|hge
  ·rw [List.getElem?_append_left hlt] at hj;exact a2 j v hj
  ·rw [List.getElem?_append_right hge] at hj
   have:=b3 _ v hj
   rwa [show off+sz+(j-v1.length)=off+j from by omega] at this
theorem RepR.mk {g:G} {b sz:Nat}:∀{rows:List (List PV)} {off:Nat} {vs:List Value},(∀r∈rows,r.length=sz)->RepL g rows.flatten vs->(∀j v,vs[j]?=some v->aS g.heap b (off+j)=some v/\off+j<g.fr b)->RepR g b off sz rows
 |[],_,_,_,_,_=>by simp [RepR]
 |r::rs,off,vs,h,hr,hc=>by
  have key:∀{cs:List PV} {o:Nat} {us:List Value},RepL g cs us->(∀j v,us[j]?=some v->aS g.heap b (o+j)=some v/\o+j<g.fr b)->RepA g b o cs:=by
   intro cs
   induction cs with
   |nil=>intro o us _ _;simp [RepA]
   |cons c cs ih=>
    intro o us hh hcc
    simp only [RepL] at hh
    obtain ⟨v,us',rfl,e1,e2⟩:=hh
    simp only [RepA]
    refine ⟨⟨v,by simpa using (hcc 0 v (by simp)).1,by simpa using (hcc 0 v (by simp)).2,e1⟩,ih e2 λj u hj=> ?_⟩
    have:=hcc (j+1) u (by simpa using hj)
    rwa [show o+(j+1)=o+1+j from by omega] at this
  simp only [List.flatten_cons] at hr
  have hl:=hr.length
  have h1:RepL g r (vs.take r.length):=by have:=hr.take r.length;simpa using this
  have h2:RepL g rs.flatten (vs.drop r.length):=by have:=hr.drop r.length;simpa using this
  simp only [RepR]
  have hrl:=h r (by simp)
  refine ⟨hrl,key h1 λj v hj=> ?_,RepR.mk (λr' hr'=>h r' (by simp [hr'])) h2 λj v hj=> ?_⟩
  ·rw [List.getElem?_take] at hj
   split at hj
   ·exact hc j v hj
   ·cases hj
  ·rw [List.getElem?_drop] at hj
   have:=hc _ v hj
   rwa [show off+(r.length+j)=off+sz+j from by omega] at this
theorem aaY {w:World} {g:G} {st:aD} (htt:bC P tt) (hm:MemOK P st w g) {p:PV} {rows:List (List PV)} {x:Value} (hp:eK p=some rows) (hr:Rep g p x) {tx:TypeId} (hk:cG tt tx=true) {sz:Nat} (hl:∀r∈rows,r.length=sz) (h1:∀r∈rows,r.all PV.one=true):
  ∃news,Src P sz tx x rows.length news w/\RepL g rows.flatten news:=by
 have hu:∃e',P.underlying tx=some (.slice e'):=by
  unfold cG at hk
  split at hk
  ·rename_i e he;exact ⟨e,bP (aP htt he).1⟩
  ·cases hk
 obtain ⟨e',hu⟩:=hu
 have hr':=lW hp hr
 simp only [Rep] at hr'
 obtain ⟨a,cap,rfl,_,_,h4⟩:=hr'
 have ones:∀vs,RepL g rows.flatten vs->∀u∈vs,u.oneCell'=true:=λvs hv=>hv.ones (by
  rw [zal]
  intro c hc
  obtain ⟨r,hr,hc⟩:=List.mem_flatten.1 hc
  exact zal.1 (h1 r hr) c hc)
 have nilcase:rows=[]->∃news,Src P sz tx (.slice a rows.length cap) rows.length news w/\RepL g rows.flatten news:=λh0=>by
  subst h0
  refine ⟨[], ?_,by simp [RepL]⟩
  cases a with
  |none=>exact Src.ofNil w hu cap
  |some a=>exact Src.ofSlice w hu a 0 cap [] (by simp) (by simp) (by simp)
 rcases h4 with h4|⟨b,off,sz',rfl,hR⟩
 ·exact nilcase h4
 ·obtain ⟨vs,v1,v2,v3⟩:=hR.vals
  by_cases h0:rows=[]
  ·exact nilcase h0
  ·have hsz:sz'=sz:=by
    cases rows with
    |nil=>exact absurd rfl h0
    |cons r rs=>simp only [RepR] at hR;have:=hl r (by simp);omega
   subst hsz
   exact ⟨vs,Src.ofSlice w hu ⟨b,off,none⟩ rows.length cap vs v2 (λj u hj=>by rw [cE];exact iL hm (v3 j u hj).1) (ones vs v1),v1⟩
theorem gK {st:aD} {w:World} {g:G} (hm:MemOK P st w g):∃id,g.io id=none/\st id=none:=by
 obtain ⟨N,hN⟩:=hm.fin
 refine ⟨N,hN N (Nat.le_refl _), ?_⟩
 cases h:st N with
 |none=>rfl
 |some o=>obtain ⟨x,hx⟩:=rH (hm.obj N o h);rw [hN N (Nat.le_refl _)] at hx;cases hx
theorem fF {st:aD} {w w':World} {g g':G} (hm:MemOK P st w g) {id id' b' n' cap':Nat} {o':AObj} (hf:g.io id'=none) (hh:g'.heap=w'.heap) (hio:g'.io=upd g.io id' (some (b',n',cap')))
  (hblk:cap'≠0->(Go.Abs.blk g id=some b'/\st id≠none)\/b'=w.heap.size) (hold:∀b,b<w.heap.size->cap'=0\/b≠b'->w'.heap[b]?=w.heap[b]?)
  (hfr:∀b,cap'=0\/b≠b'->g'.fr b=g.fr b) (hfm:g'.fm=g.fm) (hfmb:cap'≠0->¬g.fm b') (hsz:w.heap.size<=w'.heap.size) (hb':cap'≠0->b'<w'.heap.size) (hl:Le g g') (ho:ObjOK P g' id' o'):
  MemOK P (upd (upd st id none) id' (some o')) w' g':=by
 have hst':st id'=none:=by
  cases h:st id' with
  |none=>rfl
  |some o=>obtain ⟨x,hx⟩:=rH (hm.obj id' o h);rw [hf] at hx;cases hx
 have hblt:∀{j b},st j≠none->Go.Abs.blk g j=some b->b<w.heap.size:=fun {j b} h1 h2=>by
  cases h:st j with
  |none=>exact absurd h h1
  |some o=>
   have hob:=hm.obj j o h
   have:∃x,g.heap[b]?=some x:=by obtain ⟨x,hx,_⟩:=oW hob h2;exact ⟨x,hx⟩
   obtain ⟨x,hx⟩:=this
   have:=aZ hx
   rwa [hm.heap] at this
 have hne:∀{j b},j≠id->st j≠none->Go.Abs.blk g j=some b->cap'≠0->b≠b':=fun {j b} h1 h2 h3 h4 e=>by
  subst e
  rcases hblk h4 with ⟨k1,k2⟩|k
  ·exact h1 (hm.inj j id b h2 k2 h3 k1)
  ·have:=hblt h2 h3;omega
 have hother:∀{j},j≠id'->Go.Abs.blk g' j=Go.Abs.blk g j:=fun {j} h=>by
  unfold Go.Abs.blk;rw [hio,aC h]
 have hget:∀j,upd (upd st id none) id' (some o') j=if j=id' then some o' else if j=id then none else st j:=λj=>by
  by_cases h1:j=id'
  ·rw [h1,aA,zp rfl]
  ·rw [aC h1,zn h1]
   by_cases h2:j=id
   ·rw [h2,aA,zp rfl]
   ·rw [aC h2,zn h2]
 have hblk':∀{b},Go.Abs.blk g' id'=some b->cap'≠0/\b=b':=fun {b} h=>by
  unfold Go.Abs.blk at h;rw [hio,aA] at h;simp at h;exact ⟨h.1,h.2.symm⟩
 refine ⟨hh,λj o e=> ?_,λj j' b e e' h1 h2=> ?_,λb hb=> ?_,λb hb=> ?_, ?_⟩
 ·rw [hget] at e
  split at e
  ·rename_i h;injection e with e;subst e;rw [h];exact ho
  ·rename_i h1
   split at e
   ·cases e
   ·rename_i h2
    refine (hm.obj j o e).keep hl λb hb=> ?_
    have hlt:=hblt (by rw [e];simp) hb
    have hc:cap'=0\/b≠b':=by
     by_cases hc:cap'=0
     ·exact .inl hc
     ·exact .inr (hne h2 (by rw [e];simp) hb hc)
    exact ⟨by rw [hh,hold b hlt hc,hm.heap],hfr b hc,by rw [hfm]⟩
 ·rw [hget] at e e'
  by_cases j1:j=id'
  ·by_cases j2:j'=id'
   ·rw [j1,j2]
   ·exfalso
    rw [zn j2] at e'
    by_cases j3:j'=id
    ·rw [zp j3] at e';exact e' rfl
    ·rw [zn j3] at e'
     rw [j1] at h1
     obtain ⟨c1,c2⟩:=hblk' h1
     rw [hother j2] at h2
     exact hne j3 e' h2 c1 c2
  ·rw [zn j1] at e
   by_cases j3:j=id
   ·rw [zp j3] at e;exact absurd rfl e
   ·rw [zn j3] at e
    rw [hother j1] at h1
    by_cases j2:j'=id'
    ·exfalso
     rw [j2] at h2
     obtain ⟨c1,c2⟩:=hblk' h2
     exact hne j3 e h1 c1 c2
    ·rw [zn j2] at e'
     by_cases j4:j'=id
     ·rw [zp j4] at e';exact absurd rfl e'
     ·rw [zn j4] at e'
      rw [hother j2] at h2
      exact hm.inj j j' b e e' h1 h2
 ·by_cases hc:cap'=0\/b≠b'
  ·rw [hfr b hc] at hb;have:=hm.lt b hb;omega
  ·have hc1:cap'≠0:=λe=>hc (.inl e)
   have hc2:b=b':=Classical.byContradiction λe=>hc (.inr e)
   rw [hc2];exact hb' hc1
 ·rw [hfm] at hb
  obtain ⟨ents,clock,e,hstp⟩:=hm.fmm b hb
  have hne':cap'=0\/b≠b':=by
   by_cases hc:cap'=0
   ·exact .inl hc
   ·exact .inr λe=>hfmb hc (e▸hb)
  exact ⟨ents,clock,by rw [hold b (aZ e) hne'];exact e,hstp⟩
 ·obtain ⟨N,hN⟩:=hm.fin
  exact ⟨max N (id'+1),λj hj=>by rw [hio,aC (by omega)];exact hN j (by omega)⟩
theorem nZ {w:World} (T tx ty e:TypeId) (i:TypeInfo) (ht:P.underlying T=some (.slice e)) (hi:P.info? e=some i) (b sLen sCap:Nat) (cur:Array Value) (hg:w.heap[b]?=some (.cells cur e (0,0))) (x:Value) (n:Nat) (news:List Value) (hs:Src P i.size tx x n news w)
  (hroom:sLen+n<=sCap) (hfit:sLen*i.size+news.length<=cur.size):
  (Builtin.append_ #[T,tx] ty #[.slice (some ⟨b,0,none⟩) sLen sCap,x]).run P w= .ok (.slice (some ⟨b,0,none⟩) (sLen+n) sCap) (w.setRow b (cur.toList.take (sLen*i.size)++news++cur.toList.drop (sLen*i.size+news.length)).toArray):=by
 have hst:=run_storeCells_at P b (sLen*i.size) e news 0 cur w hg (by simpa using hfit) hs.one
 simp only [Nat.add_zero] at hst
 rcases hs.kind with ⟨e',hk⟩|hk<;>simp [Builtin.append_,run_underlying ht,run_underlying hk,sizeOf,typeInfo,hi,hs.len,hroom,hs.cells,Addr.add_lit,hst]
theorem lQ {w:World} (T tx ty e:TypeId) (i:TypeInfo) (ht:P.underlying T=some (.slice e)) (hi:P.info? e=some i) (a:Option Addr) (x:Value) (hs:Src P i.size tx x 0 [] w):
  (Builtin.append_ #[T,tx] ty #[.slice a 0 0,x]).run P w= .ok (.slice a 0 0) w:=by
 rcases hs.kind with ⟨e',hk⟩|hk<;>cases a<;>simp [Builtin.append_,run_underlying ht,run_underlying hk,sizeOf,typeInfo,hi,hs.len,hs.cells,storeCells]
theorem oM (w:World) (b:Nat) (cur xs:Array Value) (T:TypeId) (fz:Nat×Nat) (h:w.heap[b]?=some (.cells cur T fz)) (j:Nat):aS (w.setRow b xs).heap b j=xs[j]?:=by
 simp only [aS,setRow_heap w b cur xs T fz h]
theorem jT {g:G} {id':Nat} {x:Nat×Nat×Nat} (h:g.io id'=none):∀j v,g.io j=some v->upd g.io id' (some x) j=some v:=λj v hj=>by
 have hne:j≠id':=λe=>by rw [e,h] at hj;cases hj
 rw [aC hne];exact hj
theorem aiZ (htt:bC P tt) {st:aD} {w:World} {g:G} (hm:MemOK P st w g) {T T2 e ty:TypeId} {id:Nat} {rows rows2:List (List PV)} {p:PV} {x y:Value} {sz B:Nat} (htok:st id=some (.tok e)) (hx:Rep g (.own id rows) x) (hp:eK p=some rows2) (hy:Rep g p y)
  (hk:tiK tt T=some (.slice e)) (hk2:cG tt T2=true) (hs:aO tt e=some sz) (hl1:∀r∈rows,r.length=sz) (hl2:∀r∈rows2,r.length=sz) (h1:∀r∈rows2,r.all PV.one=true) (hB:P.bytesOf e=B) (hb:(rows.length+rows2.length)*B<=140737488355328)
  (hz:(tiZ tt e).map List.length=some sz) (h62:rows.length+rows2.length<2^62):
  ∃v w' g' id',(Builtin.append_ #[T,T2] ty #[x,y]).run P w= .ok v w'/\g.io id'=none/\Rep g' (.own id' (rows++rows2)) v/\MemOK P (upd (upd st id none) id' (some (.tok e))) w' g'/\Le g g'/\Frame (Blocks st g) w g w' g'/\
   (∀b,Blocks (upd (upd st id none) id' (some (.tok e))) g' b->Blocks st g b\/w.heap.size<=b):=by
 obtain ⟨news,hsrc,hnr⟩:=aaY htt hm hp hy hk2 hl2 h1
 have hu:=bP (aP htt hk).1
 obtain ⟨k1,k2⟩:=aN htt hs
 cases hi:P.info? e with
 |none=>rw [hi] at k1;cases k1
 |some i=>
  have hsz:i.size=sz:=by rw [hi] at k1;simpa using k1
  have hby:i.bytes=B:=by rw [<-hB];simp [Program.bytesOf,hi]
  subst hsz;subst hby
  obtain ⟨id',hf1,hf2⟩:=gK hm
  have hnl:=hsrc.newsLen
  simp only [Rep] at hx
  obtain ⟨b,cap,sz',e1,e2,e3,e4⟩:=hx
  have htk:=hm.obj id _ htok
  simp only [ObjOK] at htk
  obtain ⟨b0,n0,cap0,t1,t2⟩:=htk
  rw [e1] at t1
  injection t1 with t1
  injection t1 with t1 t3
  injection t3 with t3 t4
  subst t1;subst t3;subst t4
  have hblk0:∀st' g',(∀j,j≠id'->Go.Abs.blk g' j=Go.Abs.blk g j)->(∀b',Go.Abs.blk g' id'=some b'->Blocks st g b'\/w.heap.size<=b')->st'=upd (upd st id none) id' (some (.tok e))->∀b',Blocks st' g' b'->Blocks st g b'\/w.heap.size<=b':=by
   rintro st' g' q1 q2 rfl b' ⟨j,j1,j2⟩
   by_cases hj:j=id'
   ·rw [hj] at j2;exact q2 b' j2
   ·rw [aC hj] at j1
    rw [q1 j hj] at j2
    by_cases hj2:j=id
    ·rw [hj2,aA] at j1;exact absurd rfl j1
    ·rw [aC hj2] at j1;exact .inl ⟨j,j1,j2⟩
  have hother:∀(g':G) (v:Nat×Nat×Nat),g'.io=upd g.io id' (some v)->∀j,j≠id'->Go.Abs.blk g' j=Go.Abs.blk g j:=λg' v q j hj=>by unfold Go.Abs.blk;rw [q,aC hj]
  by_cases hroom:rows.length+rows2.length<=cap
  ·by_cases hc:cap=0
   ·
    have r0:rows=[]:=List.length_eq_zero_iff.1 (by omega)
    have r2:rows2=[]:=List.length_eq_zero_iff.1 (by omega)
    subst r0;subst r2
    rcases e4 with ⟨_,a,rfl⟩|⟨hne,_⟩
    ·have hnews:news=[]:=List.length_eq_zero_iff.1 (by simpa using hnl)
     subst hnews
     have hl:Le g {g with io:=upd g.io id' (some (b,0,0))}:=⟨jT hf1,λ_=>Nat.le_refl _,λ_ _ _=>rfl,λ_ h=>⟨h,rfl⟩⟩
     refine ⟨_,w,{g with io:=upd g.io id' (some (b,0,0))},id',lQ T T2 ty e i hu hi a y hsrc,hf1, ?_, ?_,hl,⟨rfl,⟨rfl,Nat.le_refl _⟩,rfl,Nat.le_refl _,λ_ _ _=>⟨rfl,rfl,Iff.rfl⟩⟩,hblk0 _ _ (hother _ _ rfl) (λb' h=>by simp [Go.Abs.blk,aA] at h) rfl⟩
     ·simp only [Rep];exact ⟨b,0,i.size,aA _ _ _,by simp,by simp, .inl ⟨rfl,a,rfl⟩⟩
     ·exact fF hm (id:=id) hf1 hm.heap rfl (λh=>absurd rfl h) (λ_ _ _=>rfl) (λ_ _=>rfl) rfl (λh=>absurd rfl h) (Nat.le_refl _) (λh=>absurd rfl h) hl (by simp only [ObjOK];exact ⟨b,0,0,aA _ _ _, .inl rfl⟩)
    ·exact absurd hc hne
   ·
    rcases e4 with ⟨h0,_⟩|⟨_,rfl,hR⟩
    ·exact absurd h0 hc
    rcases t2 with h0|⟨cur,c1,c2,c3⟩
    ·exact absurd h0 hc
    have c1':=c1
    rw [hm.heap] at c1'
    rw [k2] at c2 c3
    have hle1:rows.length*i.size+news.length<=cur.size:=by
     rw [hnl,c2,<-Nat.add_mul];exact Nat.mul_le_mul_right _ hroom
    have hrun:=nZ T T2 ty e i hu hi b rows.length cap cur c1' y rows2.length news hsrc hroom hle1
    have hbl:Go.Abs.blk g id=some b:=by simp [Go.Abs.blk,e1,hc]
    have hbB:Blocks st g b:=⟨id,by rw [htok];simp,hbl⟩
    have hbsz:b<w.heap.size:=aZ c1'
    have hnfm:¬g.fm b:=λh=>by obtain ⟨en,cl,q,_⟩:=hm.fmm b h;rw [c1'] at q;cases q
    let xs:Array Value:=(cur.toList.take (rows.length*i.size)++news++cur.toList.drop (rows.length*i.size+news.length)).toArray
    let w':=w.setRow b xs
    let g':G:=⟨w'.heap,upd g.io id' (some (b,rows.length+rows2.length,cap)),upd g.fr b ((rows.length+rows2.length)*i.size),g.fm⟩
    have hxs:∀j,j<rows.length*i.size->xs[j]?=cur[j]?:=λj hj=>by
     show (_:List Value).toArray[j]?=_
     simp only [List.getElem?_toArray]
     rw [List.append_assoc,List.getElem?_append_left (by simp;omega),List.getElem?_take,zp hj]
     simp
    have hnews:∀j v,news[j]?=some v->xs[rows.length*i.size+j]?=some v:=λj v hj=>by
     have hjl:j<news.length:=by
      rcases Nat.lt_or_ge j news.length with h|h
      ·exact h
      ·rw [List.getElem?_eq_none h] at hj;cases hj
     show (_:List Value).toArray[rows.length*i.size+j]?=_
     simp only [List.getElem?_toArray]
     have ht:(cur.toList.take (rows.length*i.size)).length=rows.length*i.size:=by simp;omega
     rw [List.append_assoc,List.getElem?_append_right (by rw [ht];omega),ht,List.getElem?_append_left (by omega)]
     rw [show rows.length*i.size+j-rows.length*i.size=j from by omega];exact hj
    have hl:Le g g':=⟨jT hf1,λk=>by
      show g.fr k<=upd g.fr b _ k
      by_cases h:k=b
      ·rw [h,aA,c3];exact Nat.mul_le_mul_right _ (by omega)
      ·rw [aC h];exact Nat.le_refl _,
     λk j hj=>by
      show aS (w.setRow b xs).heap k j=aS g.heap k j
      rw [hm.heap]
      by_cases h:k=b
      ·subst h
       have hj':j<rows.length*i.size:=by rw [<-c3];exact hj
       rw [oM w k cur xs e (0,0) c1',hxs j hj']
       simp only [aS,c1']
      ·simp only [aS,bH w b xs k h],
     λk hk=>⟨hk,by
      show (w.setRow b xs).heap[k]?=g.heap[k]?
      rw [hm.heap];exact bH w b xs k (λe=>hnfm (e▸hk))⟩⟩
    refine ⟨_,w',g',id',hrun,hf1, ?_, ?_,hl,⟨rfl,⟨rfl,Nat.le_refl _⟩,rfl,by show _<=(w.setRow b xs).heap.size;simp [World.setRow],λk hk hn=> ?_⟩,hblk0 _ _ (hother _ _ rfl) (λb' h=> ?_) rfl⟩
    ·simp only [Rep]
     refine ⟨b,cap,i.size,by rw [zla];exact aA _ _ _,by rw [zla];exact hroom,by rw [zla];exact h62, .inr ⟨hc,by rw [zla], ?_⟩⟩
     obtain ⟨vs,v1,v2,v3⟩:=hR.vals
     have hsz':rows=[]\/sz'=i.size:=by
      cases rows with
      |nil=>exact .inl rfl
      |cons r rs=>right;simp only [RepR] at hR;have:=hl1 r (by simp);omega
     have hvl:vs.length=rows.length*i.size:=by
      rcases hsz' with h|h
      ·subst h;simpa using v2
      ·rw [v2,h]
     refine RepR.mk (vs:=vs++news) (λr hr=> ?_) (by rw [List.flatten_append];exact (RepL.mono hl _ _ v1).append (RepL.mono hl _ _ hnr)) (λj v hj=> ?_)
     ·rcases zma.1 hr with h|h
      ·exact hl1 r h
      ·exact hl2 r h
     ·rw [Nat.zero_add]
      show aS (w.setRow b xs).heap b j=some v/\j<upd g.fr b _ b
      rw [oM w b cur xs e (0,0) c1',aA]
      rcases Nat.lt_or_ge j vs.length with h|h
      ·rw [List.getElem?_append_left h] at hj
       have:=v3 j v hj
       rw [Nat.zero_add,hm.heap] at this
       refine ⟨?_,by have:=Nat.mul_le_mul_right i.size (show rows.length<=rows.length+rows2.length from by omega);omega⟩
       rw [hxs j (by omega)]
       have:=this.1
       simpa only [aS,c1'] using this
      ·rw [List.getElem?_append_right h] at hj
       have hjl:j-vs.length<news.length:=by
        rcases Nat.lt_or_ge (j-vs.length) news.length with h|h
        ·exact h
        ·rw [List.getElem?_eq_none h] at hj;cases hj
       have:=hnews _ v hj
       rw [show rows.length*i.size+(j-vs.length)=j from by omega] at this
       exact ⟨this,by rw [Nat.add_mul];omega⟩
    ·refine fF hm (id:=id) hf1 rfl rfl (λ_=> .inl ⟨hbl,by rw [htok];simp⟩) (λk _ h=>bH w b xs k (h.resolve_left hc)) (λk h=>aC (h.resolve_left hc)) rfl (λ_=>hnfm)
      (by show _<=(w.setRow b xs).heap.size;simp [World.setRow]) (λ_=>by show b<(w.setRow b xs).heap.size;simpa [World.setRow] using hbsz) hl ?_
     simp only [ObjOK]
     refine ⟨b,_,cap,aA _ _ _, .inr ⟨xs,setRow_heap w b cur xs e (0,0) c1', ?_,by rw [k2];exact aA _ _ _⟩⟩
     rw [k2,<-c2]
     show (_:List Value).toArray.size=_
     simp
     omega
    ·have hkb:k≠b:=λe=>hn (e▸hbB)
     exact ⟨bH w b xs k hkb,aC hkb,Iff.rfl⟩
    ·simp [Go.Abs.blk,g',aA] at h
     rw [<-h.2];exact .inl hbB
  ·
   cases hz':tiZ tt e with
   |none=>rw [hz'] at hz;cases hz
   |some zl=>
    rw [hz'] at hz
    simp only [Option.map_some,Option.some.injEq] at hz
    obtain ⟨z,z1,z2⟩:=jO htt hz'
    have hiz:i.zero=some z:=by rw [hi] at z1;simpa using z1
    have hzs:z.cells.size=i.size:=by rw [<-hz,<-z2];simp
    have hg:cap<rows.length+rows2.length:=by omega
    have hfit:=growslice_fits hg hb
    have h63:((rows.length+rows2.length:Nat):Int)<=9223372036854775807:=by omega
    have hold:∃olds,(Builtin.firstCells i.size rows.length x).run P w.drew= .ok olds.toArray w.drew/\RepL g rows.flatten olds/\olds.length=rows.length*i.size/\(∃base,x= .slice base rows.length cap):=by
     rcases e4 with ⟨h0,a,rfl⟩|⟨_,rfl,hR⟩
     ·have r0:rows=[]:=List.length_eq_zero_iff.1 (by omega)
      subst r0
      subst h0
      refine ⟨[], ?_,by simp [RepL],by simp,a,rfl⟩
      cases a<;>simp [Builtin.firstCells,loadCells,loadCellsFrom]
     ·obtain ⟨vs,v1,v2,v3⟩:=hR.vals
      have hvl:vs.length=rows.length*i.size:=by
       cases rows with
       |nil=>simpa using v2
       |cons r rs=>simp only [RepR] at hR;have:=hl1 r (by simp);rw [v2];congr 1;omega
      refine ⟨vs,run_firstCells_some w.drew i.size rows.length ⟨b,0,none⟩ rows.length cap vs hvl (λj u hj=> ?_),v1,hvl,_,rfl⟩
      rw [cE]
      exact iL hm (v3 j u hj).1
    obtain ⟨olds,o1,o2,o3,base,rfl⟩:=hold
    have hrun:=run_append_grow_src w T T2 ty e i z hu hi hiz base rows.length cap olds o1 y rows2.length news hsrc hg h63 hfit
    let nc:=grownCap w (rows.length+rows2.length) cap e
    have hnc:rows.length+rows2.length<=nc:=by show _<=grownCap _ _ _ _;simp only [grownCap,Question.cut];omega
    have hnc0:nc≠0:=by omega
    let xs:Array Value:=(olds++news).toArray++Builtin.zeroCells z.cells (nc-(rows.length+rows2.length))
    let w':=w.drew.alloc (.cells xs e)
    let g':G:=⟨w'.heap,upd g.io id' (some (w.heap.size,rows.length+rows2.length,nc)),upd g.fr w.heap.size ((rows.length+rows2.length)*i.size),g.fm⟩
    have hold':∀k,k<w.heap.size->w'.heap[k]?=w.heap[k]?:=λk hk=>RowKit.Below.heap_alloc w.drew _ k hk
    have hnew:w'.heap[w.heap.size]?=some (.cells xs e (0,0)):=by show (w.heap.push _)[w.heap.size]?=_;simp
    have hfr0:g.fr w.heap.size=0:=by
     rcases Nat.eq_zero_or_pos (g.fr w.heap.size) with h|h
     ·exact h
     ·have:=hm.lt w.heap.size (by omega);omega
    have hnfm:¬g.fm w.heap.size:=λh=>by obtain ⟨en,cl,q,_⟩:=hm.fmm _ h;have:=aZ q;omega
    have hl:Le g g':=⟨jT hf1,λk=>by
      show g.fr k<=upd g.fr w.heap.size _ k
      by_cases h:k=w.heap.size
      ·rw [h,hfr0];omega
      ·rw [aC h];exact Nat.le_refl _,
     λk j hj=>by
      have hk:k<w.heap.size:=hm.lt k (by omega)
      show aS w'.heap k j=aS g.heap k j
      rw [hm.heap]
      simp only [aS,hold' k hk],
     λk hk=>⟨hk,by
      obtain ⟨en,cl,q,_⟩:=hm.fmm k hk
      show w'.heap[k]?=g.heap[k]?
      rw [hm.heap];exact hold' k (aZ q)⟩⟩
    have hws:w'.heap.size=w.heap.size+1:=by show (w.heap.push _).size=_;simp
    have hlen:(olds++news).length=(rows.length+rows2.length)*i.size:=by rw [zla,o3,hnl,Nat.add_mul]
    refine ⟨_,w',g',id',hrun,hf1, ?_, ?_,hl,⟨rfl,⟨rfl,Nat.le_succ _⟩,rfl,by omega,λk hk hn=>⟨hold' k hk,aC (by omega),Iff.rfl⟩⟩,hblk0 _ _ (hother _ _ rfl) (λb' h=> ?_) rfl⟩
    ·simp only [Rep]
     refine ⟨w.heap.size,nc,i.size,by rw [zla];exact aA _ _ _,by rw [zla];exact hnc,by rw [zla];exact h62, .inr ⟨hnc0,by rw [zla], ?_⟩⟩
     refine RepR.mk (vs:=olds++news) (λr hr=> ?_) (by rw [List.flatten_append];exact (RepL.mono hl _ _ o2).append (RepL.mono hl _ _ hnr)) (λj v hj=> ?_)
     ·rcases zma.1 hr with h|h
      ·exact hl1 r h
      ·exact hl2 r h
     ·have hjl:j<(olds++news).length:=by
       rcases Nat.lt_or_ge j (olds++news).length with h|h
       ·exact h
       ·rw [List.getElem?_eq_none h] at hj;cases hj
      rw [Nat.zero_add]
      show aS w'.heap w.heap.size j=some v/\j<upd g.fr w.heap.size _ w.heap.size
      rw [aA]
      refine ⟨?_,by omega⟩
      simp only [aS,hnew]
      show ((olds++news).toArray++_)[j]?=_
      rw [Array.getElem?_append_left (by simpa using hjl)]
      simpa using hj
    ·refine fF hm (id:=id) hf1 rfl rfl (λ_=> .inr rfl) (λk hk _=>hold' k hk) (λk h=>aC (h.resolve_left hnc0)) rfl (λ_=>hnfm) (by omega) (λ_=>by omega) hl ?_
     simp only [ObjOK]
     refine ⟨w.heap.size,_,nc,aA _ _ _, .inr ⟨xs,hnew, ?_,by rw [k2];exact aA _ _ _⟩⟩
     rw [k2]
     show ((olds++news).toArray++Builtin.zeroCells z.cells (nc-(rows.length+rows2.length))).size=_
     rw [Array.size_append,size_zeroCells,hzs,List.size_toArray,hlen,<-Nat.add_mul]
     congr 1;omega
    ·simp [Go.Abs.blk,g',aA] at h
     right;omega
section
variable {l:List Oper} {r:List Oper} {s:St} {K:St->Prop} {t:Nat} {ty:TypeId} {pos:String} {after:Array Edge}
end
theorem abE {cd:Code} {Q:Exit->St->Prop} {s:St} (t:Nat) (e:TypeId) (hx:s.env t=(true, .pv (.val (.slice none 0 0)))) (hd:Nat.blt t s.n=true) (k:∀id,s.st id=none->PWp P cd Q ((s.sst (upd s.st id (some (.tok e)))).pv t (.own id []))):PWp P cd Q s:=by
 intro c a w g lam hs
 obtain ⟨id',hf1,hf2⟩:=gK hs.mem
 let g':G:={g with io:=upd g.io id' (some (0,0,0))}
 have hl:Le g g':=⟨jT hf1,λ_=>Nat.le_refl _,λ_ _ _=>rfl,λ_ h=>⟨h,rfl⟩⟩
 have hm:MemOK P (upd s.st id' (some (.tok e))) w g':=by
  have:=fF (w':=w) (g':=g') (n':=0) (b':=0) (cap':=0) (o':= .tok e) hs.mem (id:=id') hf1 hs.mem.heap rfl (λh=>absurd rfl h) (λ_ _ _=>rfl) (λ_ _=>rfl) rfl (λh=>absurd rfl h) (Nat.le_refl _) (λh=>absurd rfl h) hl (by simp only [ObjOK];exact ⟨0,0,0,aA _ _ _, .inl rfl⟩)
  have e1:upd (upd s.st id' none) id' (some (AObj.tok e))=upd s.st id' (some (.tok e)):=by
   funext j
   by_cases h:j=id'
   ·rw [h,aA,aA]
   ·rw [aC h,aC h,aC h]
  rwa [e1] at this
 have hstep:=hs.step hm hl (g':=g') ⟨rfl,⟨rfl,Nat.le_refl _⟩,rfl,Nat.le_refl _,λ_ _ _=>⟨rfl,rfl,Iff.rfl⟩⟩ (λb hb=>by
  obtain ⟨j,j1,j2⟩:=hb
  by_cases h:j=id'
  ·rw [h] at j2;simp [Go.Abs.blk,g',aA] at j2
  ·rw [aC h] at j1
   refine .inl ⟨j,j1, ?_⟩
   unfold Go.Abs.blk at j2⊢
   rwa [show g'.io j=g.io j from aC h] at j2)
 have hv:a.tmps.getD t undef= .slice none 0 0:=by
  have:=hs.env t;rw [hx] at this;simpa [EntOK,Rep] using this
 have hn:t<s.n:=by simpa [Nat.blt_eq] using hd
 have hput:=hstep.put (d:=some t) (b:=true) (e:= .pv (.own id' [])) (v:= .slice none 0 0) (λz hz=>by cases hz;exact hn) (by simp only [EntOK,Rep];exact ⟨0,0,0,aA _ _ _,by simp,by simp, .inl ⟨rfl,none,rfl⟩⟩) (λ_ _ e=>by cases e)
 have ha:a.put (some t) (.slice none 0 0)=a:=by
  have hlt:t<a.tmps.size:=by rw [hs.n];exact hn
  have h2:a.tmps[t]= .slice none 0 0:=by simpa [hlt] using hv
  simp only [Act.put]
  cases a with
  |mk tmps defers=>
   simp only at h2 hlt⊢
   congr 1
   apply Array.ext
   ·simp
   ·intro i h1 h3
    by_cases hi:i=t
    ·subst hi;simp [h2]
    ·rw [Array.getElem_setIfInBounds_ne];exact Ne.symm hi
 rw [ha] at hput
 exact k id' hf2 c a w g' lam hput
theorem aJ {st:aD} {id id':Nat} {o o2:AObj} (h:st id=none):StSub (upd st id' (some o)) (upd (upd (upd st id (some o2)) id none) id' (some o)):=λj=>by
 by_cases h1:j=id'
 ·right;rw [h1,aA,aA]
 ·rw [aC h1,aC h1]
  by_cases h2:j=id
  ·left;rw [h2];exact h
  ·right;rw [aC h2,aC h2]
theorem aB {st:aD} {id:Nat} {o:AObj} (h:st id=none):StSub st (upd st id (some o)):=λj=>by
 by_cases h1:j=id
 ·left;rw [h1];exact h
 ·right;rw [aC h1]
theorem kI {st:aD} {id id':Nat} {o:AObj} (h:upd st id (some o) id'=none):st id'=none:=by
 by_cases h1:id'=id
 ·rw [h1,aA] at h;cases h
 ·rwa [aC h1] at h
end
end
end
section
section
variable {P:Program} {tt:TT}
theorem agY {st:aD} {w:World} {g:G} (hm:MemOK P st w g) (c:Array Value) (T:TypeId) (o:Obj) (ho:o= .cells c T (0,0)):
  let g':G:={g with heap:=(w.alloc o).heap,fr:=upd g.fr w.heap.size c.size}
  MemOK P st (w.alloc o) g'/\Le g g'/\Frame (λ_=>False) w g (w.alloc o) g':=by
 subst ho
 intro g'
 obtain ⟨m1,m2,m3⟩:=iQ hm (.cells c T (0,0))
 have hsz:(w.alloc (.cells c T (0,0))).heap.size=w.heap.size+1:=by show (w.heap.push _).size=_;simp
 have hle1:Le {g with heap:=(w.alloc (.cells c T (0,0))).heap} g':=by
  refine ⟨λ_ _ h=>h,λb=> ?_,λ_ _ _=>rfl,λb hb=>⟨hb,rfl⟩⟩
  show g.fr b<=upd g.fr _ _ b
  by_cases h:b=w.heap.size
  ·subst h
   rw [aA]
   cases hz:g.fr w.heap.size with
   |zero=>omega
   |succ k=>exact absurd (hm.lt w.heap.size (by omega)) (by omega)
  ·rw [aC h];exact Nat.le_refl _
 have blt:∀id b,st id≠none->blk g id=some b->b<w.heap.size:=by
  intro id b h1 h2
  cases h3:st id with
  |none=>exact absurd h3 h1
  |some o=>
   have ho:=hm.obj id o h3
   obtain ⟨x,hx,_⟩:=oW ho h2
   have:=aZ hx
   rwa [hm.heap] at this
 refine ⟨⟨rfl,λid o e=> ?_,m1.inj,λb hb=> ?_,m1.fmm,m1.fin⟩,m2.trans hle1,⟨rfl,m3.tape,rfl,m3.size,λb hb _=>⟨(m3.old b hb (λh=>h)).1, ?_,Iff.rfl⟩⟩⟩
 ·refine ObjOK.keep hle1 (λb hb=>⟨rfl, ?_,Iff.rfl⟩) (m1.obj id o e)
  have:=blt id b (by rw [e];simp) hb
  show upd g.fr _ _ b=g.fr b
  exact aC (by omega)
 ·have hb':upd g.fr w.heap.size c.size b≠0:=hb
  by_cases h:b=w.heap.size
  ·subst h;rw [hsz];omega
  ·rw [aC h] at hb';have:=hm.lt b hb';rw [hsz];omega
 ·show upd g.fr _ _ b=g.fr b
  exact aC (by omega)
def abR {α:Type}:List (List PV)->(List (List PV)->Option α)->Option α
 |[],k=>k []
 |r::rs,k=>fW r λr'=>abR rs λrs'=>k (r'::rs')
theorem yM {α:Type}:∀(l:List (List PV)) (k:List (List PV)->Option α),abR l k=k l
 |[],_=>rfl
 |r::rs,k=>by simp only [abR];rw [bY,yM rs]
def jB (sz:Nat):Nat->List PV->List (List PV)
 |0,_=>[]
 |n+1,cs=>cs.take sz::jB sz n (cs.drop sz)
theorem oX (sz:Nat):∀(n:Nat) (cs:List PV),cs.length=n*sz->(jB sz n cs).flatten=cs/\(jB sz n cs).length=n/\∀r∈jB sz n cs,r.length=sz
 |0,cs,h=>by
  have:cs=[]:=by rw [Nat.zero_mul] at h;exact List.length_eq_zero_iff.1 h
  subst this;simp [jB]
 |n+1,cs,h=>by
  have hh:cs.length=n*sz+sz:=by rw [h,Nat.add_mul];omega
  obtain ⟨h1,h2,h3⟩:=oX sz n (cs.drop sz) (by rw [zld,hh];omega)
  refine ⟨by simp only [jB,List.flatten_cons,h1];exact List.take_append_drop _ _,by simp [jB,h2],λr hr=> ?_⟩
  simp only [jB,zmc] at hr
  rcases hr with rfl|hr
  ·rw [zlt,hh];omega
  ·exact h3 r hr
def axL :Nat->List PV->List PV
 |0,_=>[]
 |n+1,z=>z++axL n z
def pO (tt:TT) (s:St) (T:TypeId) (len:Nat) (ps:List (Nat×Operand)):Option PV:=
 match tiK tt T with
 |some (.slice e)=>match aO tt e,tiZ tt e with
  |some (sz+1),some z=>bif Nat.beq z.length (sz+1)&&Nat.ble (len*(sz+1)) 16777216 then
    match jG tt (λi=>some (i*(sz+1),sz+1)) s (axL len (z.map .val)) ps with
    |some cs=>bif Nat.beq cs.length (len*(sz+1)) then abR (jB (sz+1) len cs) λrows=>match rows with|[]=>some .emp|r::rs=>some (.seq (r::rs)) else none
    |none=>none
   else none
  |_,_=>none
 |_=>none
theorem ahO {s:St} {st:aD} {T:TypeId} {len:Nat} (ps:List (Nat×Operand)):pO tt (s.sst st) T len ps=pO tt s T len ps:=by
 have e3:∀place cells ps,jG tt place (s.sst st) cells ps=jG tt place s cells ps:=λ_ _ _=>rX _ _
 delta pO
 simp only [e3]
theorem zZ (z:List Value):∀n,axL n (z.map PV.val)=((List.replicate n z).flatten).map PV.val
 |0=>rfl
 |n+1=>by simp [axL,zZ z n,List.replicate_succ]
theorem sR (z:List Value) (hz:z≠[]):∀n,(List.range (n*z.length)).map (λi=>z.toArray[i%z.length]!)=(List.replicate n z).flatten
 |0=>by simp
 |n+1=>by
  have hp:0<z.length:=List.length_pos_iff.2 hz
  apply List.ext_getElem?
  intro i
  rw [List.replicate_succ,List.flatten_cons]
  have ih:=sR z hz n
  rcases Nat.lt_or_ge i z.length with h|h
  ·rw [List.getElem?_append_left h]
   have hi:i<(n+1)*z.length:=by rw [Nat.add_mul];omega
   simp [hi,Nat.mod_eq_of_lt h,h]
  ·rw [List.getElem?_append_right h,<-ih]
   rcases Nat.lt_or_ge i ((n+1)*z.length) with h2|h2
   ·have h3:i-z.length<n*z.length:=by rw [Nat.add_mul] at h2;omega
    have h4:(i-z.length)%z.length=i%z.length:=by
     rw [<-Nat.add_mod_right (i-z.length)];congr 1;omega
    simp [h2,h3,h4]
   ·have h3:n*z.length<=i-z.length:=by rw [Nat.add_mul] at h2;omega
    rw [List.getElem?_eq_none (by simpa using h2),List.getElem?_eq_none (by simpa using h3)]
theorem apF (htt:bC P tt) {o:Oper} {s:St} {T:TypeId} {len:Nat} {ps:List (Nat×Operand)} {p:PV} (ho:o.op= .buildSlice T len ps.toArray) (h:pO tt s T len ps=some p):OpV P o s p:=by
 intro w g ρ hm hρ
 have hops:∀x∈ps.map (·.2),fP g s x (ρ x):=λx hx=>hρ x (by rw [ho];simpa [Op.operands] using hx)
 unfold pO at h
 split at h
 case h_2=>cases h
 rename_i e hk
 split at h
 case h_2=>cases h
 rename_i sz z hsz hz
 cases hb:(Nat.beq z.length (sz+1)&&Nat.ble (len*(sz+1)) 16777216) with
 |false=>rw [hb] at h;simp at h
 |true=>
  rw [hb] at h
  simp only [zqt] at h
  rw [zba] at hb
  have hb1:=Nat.eq_of_beq_eq_true hb.1
  have hb2:=Nat.le_of_ble_eq_true hb.2
  split at h
  case h_2=>cases h
  rename_i cs hcs
  cases hb3:Nat.beq cs.length (len*(sz+1)) with
  |false=>rw [hb3] at h;simp at h
  |true=>
   rw [hb3] at h
   have hb3:=Nat.eq_of_beq_eq_true hb3
   simp only [zqt,yM] at h
   have hu:=bP (aP htt hk).1
   obtain ⟨zv,hz1,hz2⟩:=jO htt hz
   have hzne:z≠[]:=by intro h0;rw [h0] at hb1;simp at hb1
   have hzs:zv.cells.size=sz+1:=by rw [<-hb1,<-hz2];simp
   let base:Array Value:=(Array.range (len*(sz+1))).map (zv.cells[· %zv.cells.size]!)
   have hbase:base.toList=(List.replicate len z).flatten:=by
    rw [<-sR z hzne len,hb1]
    have hze:zv.cells=z.toArray:=by apply Array.toList_inj.1;simp [hz2]
    simp only [base,hze]
    simp [hb1]
   obtain ⟨us,h1,h2⟩:=qK (place':=λi=>some (i*(sz+1),sz+1)) (λi x hx=>hx) (ρ:=ρ) ps _ cs base hcs (by rw [hbase,zZ];exact RepL.vals _) hops
   have hus:us.size=len*(sz+1):=by rw [<-hb3,<-h2.length];simp
   obtain ⟨c1,c2,c3⟩:=oX (sz+1) len cs hb3
   have hrun:(execOp ρ o).run P w= .ok (.value (.slice (some ⟨w.heap.size,0,none⟩) len len)) (w.alloc (.cells us e (0,0))):=by
    by_cases hl:len*(sz+1)=0
    ·have hl0:len=0:=by rcases Nat.mul_eq_zero.1 hl with h|h<;>omega
     subst hl0
     have h1':Instr.fill (λi=>some (i*(sz+1),sz+1)) base (ps.map λx=>(x.fst,ρ x.snd))=some us:=h1
     have r0:Array.range 0=(#[]:Array Nat):=rfl
     simp only [base,Nat.zero_mul,r0,List.map_toArray,List.map_nil] at h1'
     simp only [execOp,ho,Instr.buildSlice,Sem.run_bind,run_underlying hu,Result.andThen_ok,aX (aN htt hsz).1,Sem.run_pure]
     simp [r0,h1',newRow,newObj]
     try rfl
    ·have hgt:¬(len*(sz+1)>2^24):=by omega
     have h1':Instr.fill (λi=>some (i*(sz+1),sz+1)) base (ps.map λx=>(x.fst,ρ x.snd))=some us:=h1
     simp only [execOp,ho,Instr.buildSlice,Sem.run_bind,run_underlying hu,Result.andThen_ok,aX (aN htt hsz).1,Sem.run_pure,zn hgt,zn hl,bU hz1]
     simp only [base] at h1'
     simp [h1',newRow,newObj]
     try rfl
   rw [hrun]
   obtain ⟨m1,m2,m3⟩:=agY hm us e _ rfl
   have key:∀{g:G},Rep g (.seq (jB (sz+1) len cs)) (.slice (some ⟨w.heap.size,0,none⟩) len len)->Rep g p (.slice (some ⟨w.heap.size,0,none⟩) len len):=fun {g} hr=>by
    split at h
    ·rename_i e
     injection h with h;subst h
     have:len=0:=by rw [<-c2,e];rfl
     subst this
     simp only [Rep];exact ⟨_,rfl⟩
    ·rename_i e;injection h with h;subst h;rw [<-e];exact hr
   refine ⟨_,key ?_,m1,m2,m3.mono (λb h=>h.elim)⟩
   simp only [Rep]
   refine ⟨some ⟨w.heap.size,0,none⟩,len,by rw [c2],by omega, ?_, .inr ⟨w.heap.size,0,sz+1,rfl, ?_⟩⟩
   ·rw [c2]
    have:len*1<=len*(sz+1):=Nat.mul_le_mul_left _ (by omega)
    omega
   ·refine RepR.mk c3 (by rw [c1];exact RepL.mono m2 _ _ h2) λj v hj=> ?_
    have hj2:j<us.size:=by
     have:=(zge.1 hj).1;simpa using this
    refine ⟨?_,by show 0+j<upd g.fr _ _ _;rw [aA];omega⟩
    show aS (w.heap.push (.cells us e (0,0))) w.heap.size (0+j)=some v
    simp only [aS,Array.getElem?_push_size,Nat.zero_add]
    simpa using hj
section
variable {l:List Oper} {d:Md} {r:List Oper} {s:St} {K:St->Prop} {t:Nat} {op:Op} {ty:TypeId} {pos:String} {after:Array Edge} {gd:Option (Nat×Bool)}
theorem atZ (htt:bC P tt) {T:TypeId} {len:Nat} {ps:Array (Nat×Operand)} {w:Bool} {p:PV} (hw:bF l ⟨some t, .buildSlice T len ps,ty,pos,after,gd⟩ s=some w) (h:pO tt s T len ps.toList=some p) (hf:gF s w (opl (.buildSlice T len ps))) (hd:Nat.blt t s.n=true)
  (ht:cI d l r=true) (k:Ev P l d r (s.put (some t) w (.pv p)) K):Ev P l d (⟨some t, .buildSlice T len ps,ty,pos,after,gd⟩::r) s K:=
 cN hw (λ_ _=>apF htt rfl ((ahO _).trans h)) (λz hz=>aR (λ_ _ _ e=>by cases e) hz) hf hd ht k
theorem aBQ (htt:bC P tt) {T:TypeId} {x:Nat} {y:Operand} {w wx:Bool} {u off n e sz:Nat} {kk:IntKind} {i:Int} (j:Nat) (hw:bF l ⟨some t, .indexAddr T (.tmp x) y,ty,pos,after,gd⟩ s=some w) (hx:s.env x=(wx, .adr u off)) (hy:opd s y=some (.val (.int kk i))) (hk:tiK tt T=some (.arr n e)) (hs:aO tt e=some sz)
  (hf:w=true->wx=true) (hf2:w=true->gN s y=true) (hd:Nat.blt t s.n=true)
  (hj:w=true->i=(j:Int)) (hlt:w=true->j<n) (ht:cI d l r=true) (k:Ev P l d r (s.put (some t) w (.adr u (off+j*sz))) K):Ev P l d (⟨some t, .indexAddr T (.tmp x) y,ty,pos,after,gd⟩::r) s K:=
 eI (.adrI w wx u off T x y kk i n e sz j hw hd rfl hx hy (λh=>⟨hf h,eX.2 (hf2 h)⟩) (pK (aP htt hk).1) (aN htt hs).1 (λh=>⟨hj h,hlt h⟩)) ht k
end
end
end
section
section
variable {P:Program} {tt:TT}
def qD :Value->Value->Option Bool
 | .int k a, .int k' b=>bif lM k k' then some (decide (a=b)) else none
 | .string a, .string b=>some (decide (a=b))
 | .bool a, .bool b=>some (a==b)
 |_,_=>none
def qM :TK->Value->Bool
 | .int _, .int _ _=>true
 | .str, .string _=>true
 | .bool, .bool _=>true
 |_,_=>false
def xJ (k:Value):List (Value×PV)->Option (Option PV)
 |[]=>some none
 |e::es=>match qD k e.1 with
  |some true=>some (some e.2)
  |some false=>xJ k es
  |none=>none
theorem gC {kd:TypeDesc} {P:Program} {t:TypeId} (hu:P.underlying t=some kd) {k:TK} (hk:fM P t=k) {a b:Value} {r:Bool} (hc:qM k a=true) (h:qD a b=some r):Instr.sameNow kd a b=some r:=by
 unfold qM at hc
 split at hc
 ·rename_i kk k2 n
  have:=lX hk
  rw [hu] at this;injection this with this;subst this
  cases b<;>simp only [qD] at h<;>try (cases h;done)
  rename_i k3 m
  cases he:lM k2 k3 with
  |false=>rw [he] at h;simp at h
  |true=>
   rw [he] at h
   simp only [zqt] at h
   have:=fL he
   subst this
   simp only [Instr.sameNow,if_true]
   rw [<-h]
   congr 1
 ·rename_i s
  have:=jQ hk
  rw [hu] at this;injection this with this;subst this
  cases b<;>simp only [qD] at h<;>try (cases h;done)
  rename_i s2
  simp only [Instr.sameNow]
  rw [<-h]
  congr 1
  by_cases he:s=s2
  ·rw [decide_eq_true he];exact (MapKept.bytes_beq s s2).2 he
  ·rw [decide_eq_false he]
   cases hb:(s==s2) with
   |false=>rfl
   |true=>exact absurd ((MapKept.bytes_beq s s2).1 hb) he
 ·rename_i s
  have:kd= .bool:=by
   unfold fM at hk;rw [hu] at hk
   split at hk<;>simp_all
  subst this
  cases b<;>simp only [qD] at h<;>try (cases h;done)
  simp only [Instr.sameNow]
  rw [<-h]
 ·cases hc
theorem uO {kd:TypeDesc} {t:TypeId} (hu:P.underlying t=some kd) {k:TK} (hk:fM P t=k) {g:G} {key:Value} (hc:qM k key=true):∀{es:List (Value×PV)} {ms:List MapEntry} {r:Option PV} (i:Nat),xJ key es=some r->RepE g es ms->
  match r with
  |none=>Instr.findNow kd key ms i=some none
  |some p=>∃j v,Instr.findNow kd key ms i=some (some (i+j,v))/\Rep g p v/\(∃e,ms[j]?=some e/\e.val=v)
 |[],ms,r,i,h,hr=>by
  simp only [xJ] at h
  injection h with h;subst h
  simp only [RepE] at hr
  subst hr
  rfl
 |e::es,ms,r,i,h,hr=>by
  simp only [RepE] at hr
  obtain ⟨m,ms',rfl,h1,h2,h3⟩:=hr
  simp only [xJ] at h
  split at h
  ·rename_i hs
   injection h with h;subst h
   rw [<-h1] at hs
   refine ⟨0,m.val,by simp [Instr.findNow,gC hu hk hc hs],h2,m,by simp,rfl⟩
  ·rename_i hs
   rw [<-h1] at hs
   have:=uO hu hk hc (i+1) h h3
   cases r with
   |none=>simp only [Instr.findNow,gC hu hk hc hs];exact this
   |some p=>
    obtain ⟨j,v,k1,k2,e',k3,k4⟩:=this
    refine ⟨j+1,v, ?_,k2,e',by simpa using k3,k4⟩
    simp only [Instr.findNow,gC hu hk hc hs,k1]
    congr 3
    omega
  ·cases h
theorem yK {t:TypeId} {k:TK} (hk:fM P t=k) {key:Value} (hc:qM k key=true) (hu:(P.underlying t).isSome=true) (b:Bool) (w:World) (n:Nat):(Instr.checkKey b (n+1) t key).run P w= .ok () w:=by
 cases hu':P.underlying t with
 |none=>rw [hu'] at hu;cases hu
 |some kd=>
  unfold qM at hc
  split at hc
  ·have:=lX hk
   simp [Instr.checkKey,run_underlying this]
  ·have:=jQ hk
   simp [Instr.checkKey,run_underlying this]
  ·have:kd= .bool:=by
    unfold fM at hk;rw [hu'] at hk
    split at hk<;>simp_all
   subst this
   simp [Instr.checkKey,run_underlying hu']
  ·cases hc
theorem gX {t:TypeId} {k:TK} (hk:fM P t=k) {key:Value} (hc:qM k key=true) (hu:(P.underlying t).isSome=true) (b:Bool) (w:World):(Instr.checkKey b 10000 t key).run P w= .ok () w:=
 yK hk hc hu b w 9999
def gZ (tt:TT) (T:TypeId) (es:List (Value×PV)) (key:Value) (ok:Bool):Option PV:=
 match tiK tt T with
 |some (.map kt e)=>match tiK tt kt,pzv tt e,xJ key es with
  |some k,some z,some r=>bif qM k key then (match r with
    |some p=>some (bif ok then .tup [p, .val (.bool true)] else p)
    |none=>some (bif ok then .tup [z, .val (.bool false)] else z)) else none
  |_,_,_=>none
 |_=>none
theorem ajP (htt:bC P tt) {T:TypeId} {es:List (Value×PV)} {key:Value} {ok:Bool} {p:PV} (h:gZ tt T es key ok=some p) {g:G} {ents:Array MapEntry} (hr:RepE g es ents.toList) {x:Value} {w:World}
    (hx:(x= .map none/\ents= #[])\/∃b clock,x= .map (some b)/\w.heap[b]?=some (.map ents clock)):∃v,(Instr.lookup T x key ok).run P w= .ok v w/\Rep g p v:=by
  unfold gZ at h
  split at h
  case h_2=>cases h
  rename_i kt e hT
  split at h
  case h_2=>cases h
  rename_i k z r hkt hz hr'
  cases hc:qM k key with
  |false=>rw [hc] at h;simp at h
  |true=>
    rw [hc] at h
    simp only [zqt] at h
    have hu:=vQ (aP htt hT).1
    obtain ⟨hk1,hk2⟩:=aP htt hkt
    obtain ⟨zv,z1,z2⟩:=ajI htt hz
    cases hkd:P.underlying kt with
    |none=>rw [hkd] at hk2;cases hk2
    |some kd=>
      have hf:=uO hkd hk1 hc 0 hr' hr
      have main:∀(fr:Option (Nat×Value)),Instr.findNow kd key ents.toList 0=some fr->(Instr.lookup T x key ok).run P w=
          ((match fr with
            |some (_,v)=>pure (v,true)
            |none=>do pure (<-zeroValue e,false):Sem (Value×Bool))>>=λ(vo:Value×Bool)=>pure (if ok then .tuple #[vo.1, .bool vo.2] else vo.1):Sem Value).run P w:=by
        intro fr hfr
        have hfk:=MapKept.run_findKey (w:=w) hkd hfr
        rcases hx with ⟨rfl,rfl⟩|⟨b,clock,rfl,hb⟩
        · simp only [Instr.lookup,Sem.run_bind,run_underlying hu,Result.andThen_ok,Sem.run_pure,gX hk1 hc hk2,hfk]
          cases fr<;>simp [Sem.run_bind,bU z1]
        · simp only [Instr.lookup,Sem.run_bind,run_underlying hu,Result.andThen_ok,Sem.run_pure,MapKept.run_getObj_map hb,gX hk1 hc hk2,hfk]
          cases fr<;>simp [Sem.run_bind,bU z1]
      cases r with
      |some q=>
        obtain ⟨j,v,f1,f2,_⟩:=hf
        refine ⟨if ok then .tuple #[v, .bool true] else v, ?_, ?_⟩
        · rw [main _ f1];simp
        · simp only at h
          injection h with h;subst h
          cases ok with
          |true=>simp only [zqt,if_true,Rep];exact ⟨[v, .bool true],rfl,by simp only [RepL];exact ⟨v,_,rfl,f2,_,_,rfl,by simp [Rep],rfl⟩⟩
          |false=>simpa using f2
      |none=>
        refine ⟨if ok then .tuple #[zv, .bool false] else zv, ?_, ?_⟩
        · rw [main _ hf];simp [bU z1]
        · simp only at h
          injection h with h;subst h
          cases ok with
          |true=>simp only [zqt,if_true,Rep];exact ⟨[zv, .bool false],rfl,by simp only [RepL];exact ⟨zv,_,rfl,z2 g,_,_,rfl,by simp [Rep],rfl⟩⟩
          |false=>simpa using z2 g
def akH :PV->Option (List (Value×PV))
 | .fmap es=>some es
 | .val (.map none)=>some []
 |_=>none
theorem ahJ (htt:bC P tt) {o:Oper} {s:St} {T:TypeId} {x y:Operand} {ok:Bool} {q p:PV} {es:List (Value×PV)} {key:Value} (ho:o.op= .lookup T x y ok) (hx:opd s x=some q) (hq:akH q=some es) (hy:opd s y=some (.val key)) (h:gZ tt T es key ok=some p):OpV P o s p:=by
 refine aM λw g ρ hm hρ=> ?_
 have rx:=hρ x (by rw [ho];simp [Op.operands]) _ hx
 have ey:=aK (hρ y (by rw [ho];simp [Op.operands]) _ hy)
 have key':∃ents,RepE g es ents.toList/\((ρ x= .map none/\ents= #[])\/∃b clock,ρ x= .map (some b)/\w.heap[b]?=some (.map ents clock)):=by
  unfold akH at hq
  split at hq
  ·injection hq with hq;subst hq
   simp only [Rep] at rx
   obtain ⟨b,ents,clock,e1,e2,e3,e4⟩:=rx
   exact ⟨ents,e4, .inr ⟨b,clock,e1,by rw [<-hm.heap];exact e3⟩⟩
  ·injection hq with hq;subst hq
   have:=aK rx
   exact ⟨#[],by simp [RepE], .inl ⟨this,rfl⟩⟩
  ·cases hq
 obtain ⟨ents,k1,k2⟩:=key'
 obtain ⟨v,h1,h2⟩:=ajP htt h k1 k2
 refine ⟨v, ?_,h2⟩
 simp only [execOp,ho,ey,Sem.run_bind,h1,Result.andThen_ok,Sem.run_pure]
section
variable {l:List Oper} {d:Md} {r:List Oper} {s:St} {K:St->Prop} {t:Nat} {op:Op} {ty:TypeId} {pos:String} {after:Array Edge} {gd:Option (Nat×Bool)}
theorem anT (htt:bC P tt) {T:TypeId} {x y:Operand} {ok w:Bool} {q p:PV} {es:List (Value×PV)} {key:Value} (hw:bF l ⟨some t, .lookup T x y ok,ty,pos,after,gd⟩ s=some w) (hx:opd s x=some q) (hq:akH q=some es) (hy:opd s y=some (.val key)) (hf:gF s w (opl (.lookup T x y ok))) (hd:Nat.blt t s.n=true)
  (h:gZ tt T es key ok=some p) (ht:cI d l r=true) (k:Ev P l d r (s.put (some t) w (.pv p)) K):Ev P l d (⟨some t, .lookup T x y ok,ty,pos,after,gd⟩::r) s K:=
 cN hw (λ_ _=>ahJ htt rfl hx hq hy h) (λz hz=>aR (λ_ _ _ e=>by cases e) hz) hf hd ht k
end
end
end
section
section
variable {P:Program} {tt:TT}
theorem aAE {st:aD} {w:World} {g:G} (hm:MemOK P st w g) {j b:Nat} (h1:st j≠none) (h2:Go.Abs.blk g j=some b):b<w.heap.size:=by
 cases h:st j with
 |none=>exact absurd h h1
 |some o=>
  have hob:=hm.obj j o h
  have:∃x,g.heap[b]?=some x:=by obtain ⟨x,hx,_⟩:=oW hob h2;exact ⟨x,hx⟩
  obtain ⟨x,hx⟩:=this
  have:=aZ hx
  rwa [hm.heap] at this
theorem gM {st:aD} {w w':World} {g:G} (hm:MemOK P st w g) {id b:Nat} {o':AObj} {x y:Obj} (hid:st id≠none) (hb:Go.Abs.blk g id=some b) (hx:w.heap[b]?=some x) (hw:w'={w with heap:=w.heap.setIfInBounds b y})
  (hcell:∀i,i<g.fr b->aS w'.heap b i=aS w.heap b i) (hfm:¬g.fm b) (ho:Le g {g with heap:=w'.heap}->ObjOK P {g with heap:=w'.heap} id o'):
  MemOK P (upd st id (some o')) w' {g with heap:=w'.heap}/\Le g {g with heap:=w'.heap}/\Frame (Blocks st g) w g w' {g with heap:=w'.heap}/\(∀b',Blocks (upd st id (some o')) {g with heap:=w'.heap} b'->Blocks st g b'\/w.heap.size<=b'):=by
 have hlt:=aZ hx
 have hne:∀b',b'≠b->w'.heap[b']?=w.heap[b']?:=λb' h=>by
  rw [hw];simp only;rw [Array.getElem?_setIfInBounds];simp [Ne.symm h]
 have hle:Le g {g with heap:=w'.heap}:=by
  refine ⟨λ_ _ h=>h,λ_=>Nat.le_refl _,λb' i hi=> ?_,λb' hb'=>⟨hb', ?_⟩⟩
  ·show aS w'.heap b' i=aS g.heap b' i
   rw [hm.heap]
   by_cases h:b'=b
   ·subst h;exact hcell i hi
   ·simp only [aS,hne b' h]
  ·show w'.heap[b']?=g.heap[b']?
   rw [hm.heap]
   exact hne b' λh=>hfm (h▸hb')
 have hsz:w'.heap.size=w.heap.size:=by rw [hw];simp
 refine ⟨⟨rfl,λj o e=> ?_,λj j' b' e e' h1 h2=> ?_,λb' h=>by rw [hsz];exact hm.lt b' h,λb' h=> ?_,hm.fin⟩,hle,⟨by rw [hw],by rw [hw];exact ⟨rfl,Nat.le_refl _⟩,by rw [hw],by rw [hsz];exact Nat.le_refl _,λb' hb' hn=> ?_⟩,λb' ⟨j,j1,j2⟩=> .inl ?_⟩
 ·by_cases h:j=id
  ·subst h;rw [aA] at e;injection e with e;subst e;exact ho hle
  ·rw [aC h] at e
   refine (hm.obj j o e).keep hle λb' hb'=>⟨?_,rfl,Iff.rfl⟩
   show w'.heap[b']?=g.heap[b']?
   rw [hm.heap]
   refine hne b' λh'=>h ?_
   rw [h'] at hb'
   exact hm.inj j id b (by rw [e];simp) hid hb' hb
 ·have e1:st j≠none:=by
   by_cases h:j=id
   ·rw [h];exact hid
   ·rwa [aC h] at e
  have e2:st j'≠none:=by
   by_cases h:j'=id
   ·rw [h];exact hid
   ·rwa [aC h] at e'
  exact hm.inj j j' b' e1 e2 h1 h2
 ·obtain ⟨ents,clock,e,hstp⟩:=hm.fmm b' h
  exact ⟨ents,clock,by rw [hne b' λh'=>hfm (h'▸h)];exact e,hstp⟩
 ·refine ⟨hne b' λh=>hn ⟨id,hid,by rw [h];exact hb⟩,rfl,Iff.rfl⟩
 ·refine ⟨j, ?_,j2⟩
  by_cases h:j=id
  ·rw [h];exact hid
  ·rwa [aC h] at j1
def anX (k:Value) (p:PV):List (Value×PV)->Option (List (Value×PV))
 |[]=>some [(k,p)]
 |e::es=>match qD k e.1 with
  |some true=>some ((k,p)::es)
  |some false=>match anX k p es with
   |some es'=>some (e::es')
   |none=>none
  |none=>none
theorem arE {a b:Value} (h:qD a b=some true):a=b:=by
 cases a<;>cases b<;>simp only [qD] at h<;>first|cases h;done|skip
 ·simp at h;rw [h]
 ·rename_i k n k' n'
  cases he:lM k k' with
  |false=>rw [he] at h;simp at h
  |true=>rw [he] at h;simp at h;rw [fL he,h]
 ·simp at h;rw [h]
theorem atN {kd:TypeDesc} {t:TypeId} (hu:P.underlying t=some kd) {k:TK} (hk:fM P t=k) {g:G} {key v:Value} {p:PV} (hv:Rep g p v) (hc:qM k key=true):∀{es es':List (Value×PV)} {ms:List MapEntry} (i clock:Nat),anX key p es=some es'->RepE g es ms->
  (Instr.findNow kd key ms i=some none/\RepE g es' (ms++[{key:=key,val:=v,born:=clock}]))\/
  ∃j e,Instr.findNow kd key ms i=some (some (i+j,e.val))/\ms[j]?=some e/\e.key=key/\RepE g es' (ms.set j {e with key:=key,val:=v})
 |[],es',ms,i,clock,h,hr=>by
  simp only [anX] at h
  injection h with h;subst h
  simp only [RepE] at hr
  subst hr
  exact .inl ⟨rfl,by simp only [List.nil_append,RepE];exact ⟨_,_,rfl,rfl,hv,rfl⟩⟩
 |e::es,es',ms,i,clock,h,hr=>by
  simp only [RepE] at hr
  obtain ⟨m,ms',rfl,h1,h2,h3⟩:=hr
  simp only [anX] at h
  split at h
  ·rename_i hs
   injection h with h;subst h
   have hs':=hs
   rw [<-h1] at hs
   exact .inr ⟨0,m,by simp [Instr.findNow,gC hu hk hc hs],by simp,by rw [h1];exact (arE hs').symm,by simp only [List.set_cons_zero,RepE];exact ⟨_,_,rfl,rfl,hv,h3⟩⟩
  ·rename_i hs
   rw [<-h1] at hs
   split at h
   ·rename_i es2 h4
    injection h with h;subst h
    rcases atN hu hk hv hc (i+1) clock h4 h3 with ⟨k1,k2⟩|⟨j,e',k1,k2,k3,k4⟩
    ·refine .inl ⟨by simp only [Instr.findNow,gC hu hk hc hs];exact k1, ?_⟩
     simp only [List.cons_append,RepE]
     exact ⟨m,_,rfl,h1,h2,k2⟩
    ·refine .inr ⟨j+1,e', ?_,by simpa using k2,k3, ?_⟩
     ·simp only [Instr.findNow,gC hu hk hc hs,k1]
      congr 3;omega
     ·simp only [List.set_cons_succ,RepE]
      exact ⟨m,_,rfl,h1,h2,k4⟩
   ·cases h
  ·cases h
theorem auY {kd:TypeDesc} {t:TypeId} (hu:P.underlying t=some kd) {k:TK} (hk:fM P t=k) {key:Value} (hc:qM k key=true) (hi:∀kk n,key= .int kk n->k= .int kk):MapKept.IsKey kd key:=by
 unfold qM at hc
 split at hc
 ·rename_i kk k2 n
  have:=lX hk
  rw [hu] at this;injection this with this;subst this
  have:=hi _ _ rfl
  injection this with this
  simp [MapKept.IsKey,this]
 ·have:=jQ hk
  rw [hu] at this;injection this with this;subst this
  trivial
 ·have:kd= .bool:=by
   unfold fM at hk;rw [hu] at hk
   split at hk<;>simp_all
  subst this;trivial
 ·cases hc
def alT :TK->Value->Bool
 | .int k, .int k' _=>lM k k'
 |k,v=>qM k v
theorem awF {k:TK} {v:Value} (h:alT k v=true):qM k v=true/\∀kk n,v= .int kk n->k= .int kk:=by
 unfold alT at h
 split at h
 ·exact ⟨rfl,λkk n e=>by cases e;rw [fL h]⟩
 ·rename_i k' v' hne
  refine ⟨h,λkk n e=> ?_⟩
  subst e
  unfold qM at h
  split at h
  ·exact absurd rfl (hne _ _ _ rfl)
  ·rename_i e;cases e
  ·rename_i e;cases e
  ·cases h
theorem Stamps.push {ents:List MapEntry} {clock:Nat} (h:Stamps ents clock) (k v:Value):Stamps (ents++[{key:=k,val:=v,born:=clock}]) (clock+1):=by
 refine ⟨by rw [zla,h.1];rfl,λi e he=> ?_⟩
 rcases Nat.lt_or_ge i ents.length with hi|hi
 ·rw [List.getElem?_append_left hi] at he;exact h.2 i e he
 ·rw [List.getElem?_append_right hi] at he
  cases hj:i-ents.length with
  |zero=>rw [hj] at he;simp at he;rw [<-he];simp only;rw [h.1];omega
  |succ n=>rw [hj] at he;simp at he
theorem Stamps.set {ents:List MapEntry} {clock j:Nat} {e:MapEntry} (h:Stamps ents clock) (hj:ents[j]?=some e) (k v:Value):Stamps (ents.set j {e with key:=k,val:=v}) clock:=by
 refine ⟨by rw [List.length_set];exact h.1,λi x hx=> ?_⟩
 rw [List.getElem?_set] at hx
 split at hx
 ·rename_i hi;subst hi
  split at hx
  ·injection hx with hx;rw [<-hx];exact (h.2 _ e hj:e.born=_)
  ·cases hx
 ·exact h.2 i x hx
theorem cF {es:Array MapEntry} {j:Nat} {e:MapEntry} (h:es.toList[j]?=some e) (f:MapEntry->MapEntry):(es.modify j f).toList=es.toList.set j (f e):=by
 apply List.ext_getElem?
 intro i
 rw [Array.getElem?_toList,Array.getElem?_modify,List.getElem?_set]
 by_cases hi:j=i
 ·subst hi
  have hl:=(zge.1 h).1
  have h':es[j]?=some e:=by simpa using h
  simp [h']
  simpa using hl
 ·simp [hi]
theorem ajV (htt:bC P tt) {st:aD} {w:World} {g:G} (hm:MemOK P st w g) {id:Nat} {es es':List (Value×PV)} (hst:st id=some (.map es)) {T kt e:TypeId} {k:TK} (hT:tiK tt T=some (.map kt e)) (hkt:tiK tt kt=some k) {x key v:Value} {p:PV} (hx:Rep g (.mref id) x) (hv:Rep g p v) (hk:alT k key=true) (hput:anX key p es=some es'):
  ∃w' g',(Instr.mapUpdate T x key v).run P w= .ok () w'/\MemOK P (upd st id (some (.map es'))) w' g'/\Le g g'/\Frame (Blocks st g) w g w' g'/\(∀b',Blocks (upd st id (some (.map es'))) g' b'->Blocks st g b'\/w.heap.size<=b'):=by
 obtain ⟨hk1,hki⟩:=awF hk
 have hu:=vQ (aP htt hT).1
 obtain ⟨hkk1,hkk2⟩:=aP htt hkt
 have hob:=hm.obj id _ hst
 simp only [ObjOK] at hob
 obtain ⟨b,n,cap,ents,clock,h1,h2,h3,h4,h5,h6⟩:=hob
 simp only [Rep] at hx
 obtain ⟨b',n',cap',h1',rfl⟩:=hx
 rw [h1] at h1';injection h1' with h1';injection h1' with h1' h1'';subst h1'
 have hblk:Go.Abs.blk g id=some b:=by simp [Go.Abs.blk,h1,h2]
 have hb:w.heap[b]?=some (.map ents clock):=by rw [<-hm.heap];exact h3
 cases hkd:P.underlying kt with
 |none=>rw [hkd] at hkk2;cases hkk2
 |some kd=>
  have hik:=auY hkd hkk1 hk1 hki
  have fin:∀ents' clock',RepE g es' ents'.toList->Stamps ents'.toList clock'->let w':World:={w with heap:=w.heap.setIfInBounds b (.map ents' clock')}
    MemOK P (upd st id (some (.map es'))) w' {g with heap:=w'.heap}/\Le g {g with heap:=w'.heap}/\Frame (Blocks st g) w g w' {g with heap:=w'.heap}/\(∀b',Blocks (upd st id (some (.map es'))) {g with heap:=w'.heap} b'->Blocks st g b'\/w.heap.size<=b'):=by
   intro ents' clock' hr hs w'
   have hb':w'.heap[b]?=some (.map ents' clock'):=(MapKept.heap_set hb).1
   refine gM hm (by rw [hst];simp) hblk hb rfl (λi hi=> ?_) h5 (λhle=> ?_)
   ·show aS w'.heap b i=_
    simp only [aS,hb',hb]
   ·simp only [ObjOK]
    exact ⟨b,n,cap,ents',clock',h1,h2,hb',RepE.mono hle _ _ hr,h5,hs⟩
  rcases atN hkd hkk1 hv hk1 0 clock hput h4 with ⟨k1,k2⟩|⟨j,e0,k1,k2,k3,k4⟩
  ·refine ⟨_,_, ?_,fin (ents.push {key,val:=v,born:=clock}) (clock+1) (by simpa using k2) (by simpa using h6.push key v)⟩
   simp [Instr.mapUpdate,run_underlying hu,MapKept.run_getObj_map hb,gX hkk1 hk1 hkk2,MapKept.run_findKey hkd k1,MapKept.run_setObj_map _ hb]
  ·have hj:ents[j]?=some e0:=by simpa using k2
   refine ⟨_,_, ?_,fin (ents.modify j λe=>{e with key:=key,val:=v}) clock (by rw [cF k2];exact k4) (by rw [cF k2];exact h6.set k2 key v)⟩
   simp [Instr.mapUpdate,run_underlying hu,MapKept.run_getObj_map hb,gX hkk1 hk1 hkk2,MapKept.run_findKey hkd k1,hj,k3,MapKept.run_keyThatStays hik,MapKept.run_setObj_map _ hb]
theorem azP {st:aD} {w:World} {g:G} (hm:MemOK P st w g):∃id g',g.io id=none/\st id=none/\Rep g' (.mref id) (.map (some w.heap.size))/\MemOK P (upd st id (some (.map []))) (w.alloc (.map #[] 0)) g'/\Le g g'/\Frame (Blocks st g) w g (w.alloc (.map #[] 0)) g'/\
  ∀b',Blocks (upd st id (some (.map []))) g' b'->Blocks st g b'\/w.heap.size<=b':=by
 obtain ⟨id,f1,f2⟩:=gK hm
 obtain ⟨m1,m2,m3⟩:=iQ hm (.map #[] 0)
 let g':G:={g with heap:=(w.alloc (.map #[] 0)).heap,io:=upd g.io id (some (w.heap.size,0,1))}
 have hle:Le g g':=⟨jT f1,m2.fr,m2.cell,m2.fm⟩
 have hnb:(w.alloc (.map #[] 0)).heap[w.heap.size]?=some (.map #[] 0):=by show (w.heap.push _)[_]?=_;simp
 have hfm:¬g.fm w.heap.size:=λh=>by
  obtain ⟨en,cl,e,_⟩:=hm.fmm _ h
  have:=aZ e;omega
 have hmem:=fF (w':=w.alloc (.map #[] 0)) (g':=g') (id:=id) (b':=w.heap.size) (n':=0) (cap':=1) (o':= .map []) hm f1 rfl rfl (λ_=> .inr rfl) (λb hb _=>(m3.old b hb (λh=>h)).1) (λ_ _=>rfl) rfl (λ_=>hfm) m3.size (λ_=>aZ hnb) hle
  (by simp only [ObjOK];exact ⟨w.heap.size,0,1, #[],0,aA _ _ _,by omega,hnb,by simp [RepE],hfm,⟨by simp,by simp⟩⟩)
 have e1:upd (upd st id none) id (some (AObj.map []))=upd st id (some (.map [])):=by
  funext j
  by_cases h:j=id
  ·rw [h,aA,aA]
  ·rw [aC h,aC h,aC h]
 rw [e1] at hmem
 refine ⟨id,g',f1,f2,by simp only [Rep];exact ⟨w.heap.size,0,1,aA _ _ _,rfl⟩,hmem,hle,⟨m3.os,m3.tape,m3.output,m3.size,λb hb hn=>⟨(m3.old b hb (λh=>h)).1,rfl,Iff.rfl⟩⟩,λb' ⟨j,j1,j2⟩=> ?_⟩
 by_cases h:j=id
 ·subst h
  right
  simp [Go.Abs.blk,g',aA] at j2
  omega
 ·rw [aC h] at j1
  refine .inl ⟨j,j1, ?_⟩
  unfold Go.Abs.blk at j2⊢
  rwa [show g'.io j=g.io j from aC h] at j2
section
variable {l:List Oper} {r:List Oper} {s:St} {K:St->Prop} {t:Nat} {dst:Option Nat} {op:Op} {ty:TypeId} {pos:String} {after:Array Edge} {gd:Option (Nat×Bool)}
theorem xF {T:TypeId} (hd:Nat.blt t s.n=true) (k:∀id,s.st id=none->Ev P l .seq r ((s.sst (upd s.st id (some (.map [])))).pv t (.mref id)) K):Ev P l .seq (⟨some t, .makeMap T none,ty,pos,after,none⟩::r) s K:=by
 refine avJ rfl λc a w g lam hs=> ?_
 obtain ⟨id,g',f1,f2,h1,h2,h3,h4,h5⟩:=azP hs.mem
 have hrun:(execOp a.eval (⟨some t, .makeMap T none,ty,pos,after,none⟩:Oper)).run P w= .ok (.value (.map (some w.heap.size))) (w.alloc (.map #[] 0)):=by
  simp [execOp,Instr.makeMap,newObj,Sem.run]
 rw [hrun]
 exact ⟨_,g',lam,k id f2,(hs.step h2 h3 h4 h5).put (d:=some t) (b:=true) (e:= .pv _) (λz hz=>by cases hz;simpa [Nat.blt_eq,St.sst] using hd) h1 (λ_ _ e=>by cases e)⟩
theorem anP (htt:bC P tt) {T kt e:TypeId} {k:TK} {m y z:Operand} {id:Nat} {key:Value} {p:PV} {es es':List (Value×PV)} (hop:op= .insert T m y z\/op= .mapUpdate T m y z) (hm:opd s m=some (.mref id)) (hy:opd s y=some (.val key)) (hz:opd s z=some p) (hT:tiK tt T=some (.map kt e)) (hkt:tiK tt kt=some k) (hk:alT k key=true)
  (hf:bK s [m,y,z]=true) (hst:s.st id=some (.map es)) (hput:anX key p es=some es') (kk:Ev P l .seq r (s.sst (upd s.st id (some (.map es')))) K):Ev P l .seq (⟨none,op,ty,pos,after,none⟩::r) s K:=by
 refine avJ rfl λc a w g lam hs=> ?_
 have hall:=iR hf
 have rm:=jR hs (hall m (by simp)) _ hm
 have ey:=aK (jR hs (hall y (by simp)) _ hy)
 have rz:=jR hs (hall z (by simp)) _ hz
 obtain ⟨w',g',h1,h2,h3,h4,h5⟩:=ajV htt hs.mem hst hT hkt rm rz hk hput
 have hrun:(execOp a.eval (⟨none,op,ty,pos,after,none⟩:Oper)).run P w= .ok .skip w':=by
  rcases hop with rfl|rfl<;>simp only [execOp,ey,Sem.run_bind,h1,Result.andThen_ok,Sem.run_pure]
 rw [hrun]
 exact ⟨_,g',lam,kk,hs.step h2 h3 h4 h5⟩
end
def St.frozen (s:St) (u:Nat) (cs:List PV):St:={s with env:=upd s.env u (true, .pv (.rp cs)),L:=upd s.L u none}
theorem SI.freeze {c:Ctx} {s:St} {a:Act} {w:World} {g:G} {lam:Nat->Nat} (hs:SI P c s a w g lam) (u:Nat) {T:TypeId} {cs:List PV} (hx:s.env u=(true, .adr u 0)) (hL:s.L u=some (T,cs)):∃g',SI P c (s.frozen u cs) a w g' lam:=by
 obtain ⟨vs,h1,h2,h3,h4,h5⟩:=hs.box u T cs hL
 have hlt:lam u<w.heap.size:=by have:=aZ h1;rwa [hs.mem.heap] at this
 let g':G:={g with fr:=upd g.fr (lam u) vs.size}
 have hle:Le g g':=by
  refine ⟨λ_ _ h=>h,λb=> ?_,λ_ _ _=>rfl,λb hb=>⟨hb,rfl⟩⟩
  show g.fr b<=upd g.fr _ _ b
  by_cases h:b=lam u
  ·rw [h,h3];exact Nat.zero_le _
  ·rw [aC h];exact Nat.le_refl _
 have hfr:∀b,b≠lam u->g'.fr b=g.fr b:=λb h=>aC h
 have hm:MemOK P s.st w g':=by
  refine ⟨hs.mem.heap,λid o e=>(hs.mem.obj id o e).keep hle λb hb=>⟨rfl,hfr b λh=>h5 ⟨id,by rw [e];simp,h▸hb⟩,Iff.rfl⟩,hs.mem.inj,λb hb=> ?_,hs.mem.fmm,hs.mem.fin⟩
  by_cases h:b=lam u
  ·rw [h];exact hlt
  ·rw [hfr b h] at hb;exact hs.mem.lt b hb
 have hrp:Rep g' (.rp cs) (.pointer (some ⟨lam u,0,none⟩)):=by
  simp only [Rep]
  refine ⟨lam u,0,rfl, ?_⟩
  have key:∀{cs:List PV} {o:Nat} {us:List Value},RepL g' cs us->(∀j v,us[j]?=some v->aS g'.heap (lam u) (o+j)=some v/\o+j<g'.fr (lam u))->RepA g' (lam u) o cs:=by
   intro cs
   induction cs with
   |nil=>intro o us _ _;simp [RepA]
   |cons c cs ih=>
    intro o us hh hcc
    simp only [RepL] at hh
    obtain ⟨v,us',rfl,e1,e2⟩:=hh
    simp only [RepA]
    refine ⟨⟨v,by simpa using (hcc 0 v (by simp)).1,by simpa using (hcc 0 v (by simp)).2,e1⟩,ih e2 λj x hj=> ?_⟩
    have:=hcc (j+1) x (by simpa using hj)
    rwa [show o+(j+1)=o+1+j from by omega] at this
  refine key (RepL.mono hle _ _ h2) λj v hj=> ?_
  have hj2:j<vs.size:=by have:=(zge.1 hj).1;simpa using this
  refine ⟨?_,by show 0+j<upd g.fr _ _ _;rw [aA];omega⟩
  show aS g.heap (lam u) (0+j)=some v
  simp only [aS,h1,Nat.zero_add]
  simpa using hj
 refine ⟨g',hm,hs.le.trans hle, ?_,hs.blk,λt=> ?_,λt U ds e=> ?_,λt t' e e'=> ?_,λt b v off e=> ?_,λt e=> ?_,hs.defers,hs.n,hs.top⟩
 ·refine ⟨hs.frame.os,hs.frame.tape,hs.frame.output,hs.frame.size,λb hb hn=> ?_⟩
  obtain ⟨f1,f2,f3⟩:=hs.frame.old b hb hn
  exact ⟨f1,(hfr b (by omega)).trans f2,f3⟩
 ·show EntOK g' lam (upd s.env u _ t) _
  by_cases h:t=u
  ·subst h
   rw [aA]
   have:=hs.env t
   rw [hx] at this
   simp only [EntOK] at this⊢
   rw [this];exact hrp
  ·rw [aC h];exact (hs.env t).mono hle
 ·have e':upd s.L u none t=some (U,ds):=e
  by_cases h:t=u
  ·rw [h,aA] at e';cases e'
  ·rw [aC h] at e'
   obtain ⟨us,k1,k2,k3,k4,k5⟩:=hs.box t U ds e'
   refine ⟨us,k1,RepL.mono hle _ _ k2, ?_,k4,k5⟩
   rw [hfr]
   ·exact k3
   ·intro hh
    exact h (hs.inj t u (by rw [e'];simp) (by rw [hL];simp) hh)
 ·have k1:s.L t≠none:=λh=>e (by show upd s.L u none t=none;by_cases h':t=u;(rw [h',aA]);(rw [aC h'];exact h))
  have k2:s.L t'≠none:=λh=>e' (by show upd s.L u none t'=none;by_cases h':t'=u;(rw [h',aA]);(rw [aC h'];exact h))
  exact hs.inj t t' k1 k2
 ·have e':upd s.env u (true, .pv (.rp cs)) t=(b, .adr v off):=e
  by_cases h:t=u
  ·rw [h,aA] at e';cases e'
  ·rw [aC h] at e';exact hs.ad t b v off e'
 ·refine hs.adL t λh=>e ?_
  show upd s.L u none t=none
  by_cases h':t=u
  ·rw [h',aA]
  ·rw [aC h'];exact h
theorem lF {cd:Code} {Q:Exit->St->Prop} {s:St} (u:Nat) {T:TypeId} {cs:List PV} (hx:s.env u=(true, .adr u 0)) (hL:s.L u=some (T,cs)) (k:PWp P cd Q (s.frozen u cs)):PWp P cd Q s:=by
 intro c a w g lam hs
 obtain ⟨g',h⟩:=hs.freeze u hx hL
 exact k c a w g' lam h
theorem aQ {l r:List Oper} {o:Oper} {K:St->Prop} {s:St} (u:Nat) {T:TypeId} {cs:List PV} (hx:s.env u=(true, .adr u 0)) (hL:s.L u=some (T,cs)) (k:Ev P l .seq (o::r) (s.frozen u cs) K):Ev P l .seq (o::r) s K:=by
 intro c a w g lam hs
 obtain ⟨g',h⟩:=hs.freeze u hx hL
 exact k c a w g' lam h
theorem SI.freezeMap {c:Ctx} {s:St} {a:Act} {w:World} {g:G} {lam:Nat->Nat} (hs:SI P c s a w g lam) (u:Nat) {id:Nat} {es:List (Value×PV)} (hx:s.env u=(true, .pv (.mref id))) (hst:s.st id=some (.map es)):∃g',SI P c ((s.sst (upd s.st id none)).pv u (.fmap es)) a w g' lam:=by
 have hob:=hs.mem.obj id _ hst
 simp only [ObjOK] at hob
 obtain ⟨b,n,cap,ents,clock,h1,h2,h3,h4,h5,h6⟩:=hob
 have hblk:Go.Abs.blk g id=some b:=by simp [Go.Abs.blk,h1,h2]
 have hb:w.heap[b]?=some (.map ents clock):=by rw [<-hs.mem.heap];exact h3
 let g':G:={g with fm:=λb'=>b'=b\/g.fm b'}
 have hle:Le g g':=⟨λ_ _ h=>h,λ_=>Nat.le_refl _,λ_ _ _=>rfl,λ_ h=>⟨.inr h,rfl⟩⟩
 have hnb:¬Blocks (upd s.st id none) g b:=λ⟨j,j1,j2⟩=>by
  by_cases h:j=id
  ·rw [h,aA] at j1;exact j1 rfl
  ·rw [aC h] at j1
   exact h (hs.mem.inj j id b j1 (by rw [hst];simp) j2 hblk)
 have hsub:StSub (upd s.st id none) s.st:=λj=>by
  by_cases h:j=id
  ·left;rw [h,aA]
  ·right;rw [aC h]
 have hm:MemOK P (upd s.st id none) w g':=by
  have hm1:=hs.mem.sub hsub
  refine ⟨hm1.heap,λj o e=>(hm1.obj j o e).keep hle λb' hb'=>⟨rfl,rfl, ?_⟩,hm1.inj,hm1.lt,λb' hb'=> ?_,hm1.fin⟩
  ·constructor
   ·rintro (h|h)
    ·exact absurd ⟨j,by rw [e];simp,h▸hb'⟩ hnb
    ·exact h
   ·exact .inr
  ·rcases hb' with rfl|hb'
   ·exact ⟨ents,clock,hb,h6.weak⟩
   ·exact hm1.fmm b' hb'
 have hcb:=hs.blk b ⟨id,by rw [hst];simp,hblk⟩
 refine ⟨g',hm,hs.le.trans hle,⟨hs.frame.os,hs.frame.tape,hs.frame.output,hs.frame.size,λb' hb' hn=> ?_⟩,λb' hb'=>hs.blk b' (Blocks.sub hsub hb'),λt=> ?_,λt U ds e=> ?_,hs.inj,λt bb v off e=> ?_,hs.adL,hs.defers,hs.n,hs.top⟩
 ·obtain ⟨f1,f2,f3⟩:=hs.frame.old b' hb' hn
  refine ⟨f1,f2, ?_⟩
  rw [<-f3]
  constructor
  ·rintro (h|h)
   ·subst h
    rcases hcb with h|h
    ·exact absurd h hn
    ·omega
   ·exact h
  ·exact .inr
 ·show EntOK g' lam (upd s.env u _ t) _
  by_cases h:t=u
  ·subst h
   rw [aA]
   have:=hs.env t
   rw [hx] at this
   simp only [EntOK,Rep] at this⊢
   obtain ⟨b',n',cap',e1,e2⟩:=this
   rw [h1] at e1;injection e1 with e1;injection e1 with e1 e3;subst e1
   exact ⟨b,ents,clock,e2, .inl rfl,h3,RepE.mono hle _ _ h4⟩
  ·rw [aC h];exact (hs.env t).mono hle
 ·obtain ⟨us,k1,k2,k3,k4,k5⟩:=hs.box t U ds e
  exact ⟨us,k1,RepL.mono hle _ _ k2,k3,k4,λhh=>k5 (Blocks.sub hsub hh)⟩
 ·have e':upd s.env u (true, .pv (.fmap es)) t=(bb, .adr v off):=e
  by_cases h:t=u
  ·rw [h,aA] at e';cases e'
  ·rw [aC h] at e';exact hs.ad t bb v off e'
theorem yI {cd:Code} {Q:Exit->St->Prop} {s:St} (u:Nat) {id:Nat} {es:List (Value×PV)} (hx:s.env u=(true, .pv (.mref id))) (hst:s.st id=some (.map es)) (k:PWp P cd Q ((s.sst (upd s.st id none)).pv u (.fmap es))):PWp P cd Q s:=by
 intro c a w g lam hs
 obtain ⟨g',h⟩:=hs.freezeMap u hx hst
 exact k c a w g' lam h
mutual
def lens :PV->Prop
 | .seq rows=>rows.length<2^62/\oD rows
 | .own _ rows=>rows.length<2^62/\oD rows
 | .agg cs=>kL cs
 | .tup cs=>kL cs
 | .rp cs=>kL cs
 |_=>True
def kL :List PV->Prop
 |[]=>True
 |p::ps=>lens p/\kL ps
def oD :List (List PV)->Prop
 |[]=>True
 |r::rs=>kL r/\oD rs
end
mutual
theorem Rep.lens {g:G}:∀(p:PV) (v:Value),Rep g p v->lens p
 | .seq rows,_,h=>by
  simp only [Rep] at h
  simp only [Go.Abs.lens]
  obtain ⟨a,cap,_,_,h3,h⟩:=h
  refine ⟨h3, ?_⟩
  rcases h with h|⟨b,off,sz,_,h⟩
  ·subst h;simp [oD]
  ·exact RepR.lens b off sz rows h
 | .own id rows,_,h=>by
  simp only [Rep] at h
  simp only [Go.Abs.lens]
  obtain ⟨b,cap,sz,_,h2,h3,h⟩:=h
  refine ⟨h3, ?_⟩
  rcases h with ⟨h,_⟩|⟨_,_,h⟩
  ·have:rows=[]:=List.length_eq_zero_iff.1 (by omega)
   subst this;simp [oD]
  ·exact RepR.lens b 0 sz rows h
 | .agg cs,_,h=>by
  simp only [Rep] at h
  obtain ⟨vs,_,h⟩:=h
  simp only [Go.Abs.lens]
  exact RepL.lens cs vs h
 | .tup cs,_,h=>by
  simp only [Rep] at h
  obtain ⟨vs,_,h⟩:=h
  simp only [Go.Abs.lens]
  exact RepL.lens cs vs h
 | .rp cs,_,h=>by
  simp only [Rep] at h
  obtain ⟨b,off,_,h⟩:=h
  simp only [Go.Abs.lens]
  exact RepA.lens b off cs h
 | .und,_,_=>by simp [Go.Abs.lens]
 | .val _,_,_=>by simp [Go.Abs.lens]
 | .fn _ _,_,_=>by simp [Go.Abs.lens]
 | .fmap _,_,_=>by simp [Go.Abs.lens]
 | .ref _ _,_,_=>by simp [Go.Abs.lens]
 | .vec _ _ _ _,_,_=>by simp [Go.Abs.lens]
 | .el _ _ _ _,_,_=>by simp [Go.Abs.lens]
 | .mref _,_,_=>by simp [Go.Abs.lens]
 | .emp,_,_=>by simp [Go.Abs.lens]
 | .yld _,_,_=>by simp [Go.Abs.lens]
theorem RepL.lens {g:G}:∀(ps:List PV) (vs:List Value),RepL g ps vs->kL ps
 |[],_,_=>by simp [kL]
 |p::ps,vs,h=>by
  simp only [RepL] at h
  obtain ⟨v,vs',_,h1,h2⟩:=h
  simp only [kL]
  exact ⟨Rep.lens p v h1,RepL.lens ps vs' h2⟩
theorem RepA.lens {g:G} (b off:Nat):∀(ps:List PV),RepA g b off ps->kL ps
 |[],_=>by simp [kL]
 |p::ps,h=>by
  simp only [RepA] at h
  obtain ⟨⟨v,_,_,h1⟩,h2⟩:=h
  simp only [kL]
  exact ⟨Rep.lens p v h1,RepA.lens b (off+1) ps h2⟩
theorem RepR.lens {g:G} (b off sz:Nat):∀(rs:List (List PV)),RepR g b off sz rs->oD rs
 |[],_=>by simp [oD]
 |r::rs,h=>by
  simp only [RepR] at h
  simp only [oD]
  exact ⟨RepA.lens b off r h.2.1,RepR.lens b (off+sz) sz rs h.2.2⟩
end
end
end
end Go.Abs
