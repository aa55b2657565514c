import Derived.Test.YtppdefkgmegipaaGreatDoorAbsC
import Derived.Laws.Bits64
import Derived.Test.YtppdefkgmegipaaGreatDoorAbsD
import Derived.KernelRfl
set_option linter.unusedSimpArgs false
set_option linter.unusedVariables false
namespace Go.Abs
open Go
section
inductive CallG (P:Program) (w:Bool) (f:FuncId) (ps cs:List PV) (G:PV->Prop) (z:Bool) (st:aD) (H:PV->aD->Prop):Prop
 |w (qs:List PV) {p:PV} (hq:WkL ps qs) (h:w=true->PF P f (qs++cs) p) (k:G p)
 |p (qs:List PV) {R:PV->aD->Prop} (hz:z=true) (hq:WkL ps qs) (h:PC P f (qs++cs) st R) (k:∀p st',R p st'->H p st')
inductive Cd
 |a (l:List Prop)
 |i (w f:Bool)
 |x (w x b f:Bool)
 |b (c:Bool) (x y:Prop)
 |s (s s2:St)
 |t (st2 st:aD)
 |e (q:Option PV) (st:aD) (r:PV) (st0:aD)
 |r (q:Option PV) (st:aD) (R:PV->aD->Prop)
 |c (P:Program) (w:Bool) (f:FuncId) (ps cs:List PV) (G:PV->Prop) (z:Bool) (st:aD) (H:PV->aD->Prop)
 |n (w:Bool) (rows:List (List PV)) (n:Int) (sz:Nat) (G:List PV->Prop)
def aCw :List Prop->Prop
 |[]=>True
 |p::ps=>p/\aCw ps
def Cd.says :Cd->Prop
 | .a l'=>aCw l'
 | .i w' f'=>w'=true->f'=true
 | .x w' y' b' f'=>w'=true->y'=b'->f'=true
 | .b c' x' y'=>(c'=true->x')/\(c'=false->y')
 | .s s1 s2=>Sub s1 s2
 | .t st2 st=>StSub st2 st
 | .e q' st r' st0=>∃p' q2 st2,q'=some p'/\Wk p' q2/\StSub st2 st/\q2=r'/\st2=st0
 | .r q' st R=>∃p' q2 st2,q'=some p'/\Wk p' q2/\StSub st2 st/\R q2 st2
 | .c P w' f' ps cs G z' st H=>CallG P w' f' ps cs G z' st H
 | .n w' rows n' sz G=>∃(j:Nat) (row:List PV),(w'=true->n'=j)/\(w'=true->rows[j]?=some row)/\(w'=true->row.length=sz)/\G row
inductive Cn :Cd->Prop
 |nil:Cn (.a [])
 |cons {p:Prop} {ps:List Prop} (h:p) (t:Cn (.a ps)):Cn (.a (p::ps))
 |one {w:Bool}:Cn (.i w true)
 |same {w:Bool}:Cn (.i w w)
 |left {w x b f:Bool} (h:Cn (.i w f)):Cn (.i (gw w x b) f)
 |xone {w x b:Bool}:Cn (.x w x b true)
 |xsame {w x:Bool}:Cn (.x w x true x)
 |xmk {w x b:Bool}:Cn (.x w x b (gw w x b))
 |xup {w x y c b f:Bool} (h:Cn (.x w x b f)):Cn (.x (gw w y c) x b f)
 |xold {w x b f:Bool} (h:Cn (.i w f)):Cn (.x w x b f)
 |bt {x y:Prop} (h:x):Cn (.b true x y)
 |bf {x y:Prop} (h:y):Cn (.b false x y)
 |bn {c:Bool} {x y:Prop} (h:Cn (.b c y x)):Cn (.b (!c) x y)
 |bd {p x y:Prop} [Decidable p] (h:p->x) (k:¬p->y):Cn (.b (decide p) x y)
 |bb {c:Bool} {x y:Prop} (h:c=true->x) (k:c=false->y):Cn (.b c x y)
 |spv {s s2:St} {t:Nat} {p q:PV} (h:Cn (.s s s2)) (e:s.env t=(true, .pv q)) (hq:q=p):Cn (.s s (s2.pv t p))
 |svar {s s2:St} {t:Nat} {T:TypeId} {cs ds:List PV} (h:Cn (.s s s2)) (e:s.env t=(true, .adr t 0)) (eL:s.L t=some (T,ds)) (hq:ds=cs):Cn (.s s (s2.var t T cs))
 |snil {s:St} {n:Nat} {st:aD} (h:Cn (.t st s.st)) (hn:(n,none)=(s.n,s.top)):Cn (.s s (St.nil n st))
 |t0 {st:aD}:Cn (.t st st)
 |ef {p r:PV} {st st0:aD} (e:p=r) (hs:st=st0):Cn (.e (some p) st r st0)
 |rr {p:PV} {st:aD} {R:PV->aD->Prop} (h:R p st):Cn (.r (some p) st R)
 |cf {P:Program} {w z:Bool} {f:FuncId} {ps cs:List PV} {G:PV->Prop} {st:aD} {H:PV->aD->Prop} {p:PV} (h:PF P f (ps++cs) p) (k:G p):Cn (.c P w f ps cs G z st H)
 |nm {α:Type} {f:α->List PV} {l:List α} {w:Bool} {j sz:Nat} {G:List PV->Prop} {a:α} (h:l[j]?=some a) (hl:(f a).length=sz) (k:G (f a)):Cn (.n w (l.map f) (j:Int) sz G)
 |any {c:Cd} (h:c.says):Cn c
abbrev All (l:List Prop):Prop:=Cn (.a l)
theorem All.nil :All []:=Cn.nil
theorem All.cons {p:Prop} {ps:List Prop} (h:p) (t:All ps):All (p::ps):=Cn.cons h t
abbrev Imp (w f:Bool):Prop:=Cn (.i w f)
abbrev ImpX (w x b f:Bool):Prop:=Cn (.x w x b f)
theorem Cn.ok {c:Cd} (h:Cn c):c.says:=by
 induction h with
 |nil=>trivial
 |cons h _ ih=>exact ⟨h,ih⟩
 |one=>exact λ_=>rfl
 |same=>exact λh=>h
 |left _ ih=>exact λh=>ih (amG h)
 |xone=>exact λ_ _=>rfl
 |xsame=>exact λ_ h=>h
 |xmk=>
  rename_i w x b
  intro hw hx
  subst hw;subst hx
  cases x<;>rfl
 |xup _ ih=>exact λh=>ih (amG h)
 |xold _ ih=>exact λhw _=>ih hw
 |bt h=>exact ⟨λ_=>h,λe=>by cases e⟩
 |bf h=>exact ⟨λe=>(by cases e),λ_=>h⟩
 |bn _ ih=>exact ⟨λe=>ih.2 (by simpa using e),λe=>ih.1 (by simpa using e)⟩
 |bd h k=>exact ⟨λe=>h (of_decide_eq_true e),λe=>k (of_decide_eq_false e)⟩
 |bb h k=>exact ⟨h,k⟩
 |spv _ e hq ih=>exact ih.pv' e hq
 |svar _ e eL hq ih=>exact ih.var' e eL hq
 |snil _ hn ih=>exact Sub.nil _ _ _ ih hn
 |t0=>exact zsr _
 |ef e hs=>exact ⟨_,_,_,rfl,zwr _,zsr _,e,hs⟩
 |rr h=>exact ⟨_,_,_,rfl,zwr _,zsr _,h⟩
 |cf h k=>exact .w _ (WkL.refl _) (λ_=>h) k
 |nm h hl k=>exact ⟨_,_,λ_=>rfl,λ_=>by simp [h],λ_=>hl,k⟩
 |any h=>exact h
theorem Imp.ok {w f:Bool} (h:Imp w f):w=true->f=true:=Cn.ok h
theorem ImpX.ok {w x b f:Bool} (h:ImpX w x b f):w=true->x=b->f=true:=Cn.ok h
def flagsI (s:St) (w:Bool):List Operand->List Prop->List Prop
 |[],A=>A
 |x::xs,A=>Imp w (gN s x)::flagsI s w xs A
theorem All.hd {p:Prop} {ps:List Prop} (h:All (p::ps)):p:=(Cn.ok h).1
theorem All.tl {p:Prop} {ps:List Prop} (h:All (p::ps)):All ps:= .any (Cn.ok h).2
theorem flagsI.g {s:St} {w:Bool}:∀{xs:List Operand} {A:List Prop},All (flagsI s w xs A)->gF s w xs/\All A
 |[],_,h=>⟨trivial,h⟩
 |_::_,_,h=>⟨⟨h.hd.ok,(flagsI.g h.tl).1⟩,(flagsI.g h.tl).2⟩
structure Out where
 s:St
 a:List Prop
 b:List Prop
def okD (s:St) (t:Nat) (o:Out):Option Out:=bif Nat.blt t s.n then some o else none
def awY (op:BinOp) (s:St) (x y:Operand):Option (Int×Prop):=
 match opd s x,opd s y with
 |some (.val (.int .i64 a)),some (.val (.int .i64 b))=>match op with
  | .add=>some (a+b, -9223372036854775808<=a+b/\a+b<=9223372036854775807)
  | .sub=>some (a-b, -9223372036854775808<=a-b/\a-b<=9223372036854775807)
  | .mul=>some (a*b, -9223372036854775808<=a*b/\a*b<=9223372036854775807)
  | .quo=>some (a/b,(0<=a/\a<=9223372036854775807)/\0<b)
  | .rem=>some (a%b,(0<=a/\a<=9223372036854775807)/\0<b)
  |_=>none
 |_,_=>none
def ayN :BinOp->Bool
 | .add| .sub| .mul| .quo| .rem=>true
 |_=>false
def okF (s:St) (w un:Bool) (xs:List Operand) (t:Nat) (e:E) (A B:List Prop):Option Out:=
 match un with
 |true=>match bK s xs with
  |true=>okD s t ⟨s.put (some t) true e,A,B⟩
  |false=>none
 |false=>okD s t ⟨s.put (some t) w e,flagsI s w xs A,B⟩
def apI (tt:TT) (w un:Bool) (op:Op) (t:Nat) (s:St) (A B:List Prop):Option Out:=
 match wJ tt s op with
 |some p=>okF s w un (opl op) t (.pv p) A B
 |none=>none
def amF (tt:TT) (w un:Bool) (op:Op) (t:Nat) (s:St) (A B:List Prop):Option Out:=
  match op with
  | .fieldAddr T (.tmp x) f=>match s.env x with
    |(_, .adr _ _)=>match axC tt s (.fieldAddr T (.tmp x) f) with
      |some (_,u,off)=>okF s w un [.tmp x] t (.adr u off) A B
      |none=>none
    |_=>apI tt w un (.fieldAddr T (.tmp x) f) t s A B
  | .load T (.tmp x)=>match s.env x with
    |(_, .adr u off)=>match s.L u with
      |some (_,cs)=>match gT tt T cs off with
        |some p=>okF s w un [.tmp x] t (.pv p) A B
        |none=>none
      |none=>none
    |_=>apI tt w un (.load T (.tmp x)) t s A B
  | .alloc T=>match un,s.ad t,avS tt T with
    |true,false,some cs=>okD s t ⟨s.var t T cs,A,B⟩
    |_,_,_=>none
  | .box T x=>match un,s.ad t,gN s x,apC s x with
    |true,false,true,some cs=>okD s t ⟨s.var t T cs,A,B⟩
    |_,_,_,_=>none
  | .pick (.tmp u) a b=>match s.env u with
    |(wt, .pv (.val (.bool x)))=>match b with
      | .const (.bool false)=>match opd s a with
        |some (.val (.bool y))=>okD s t ⟨s.put (some t) w (.pv (.val (.bool (x&&y)))),Imp w wt::ImpX w x true (gN s a)::A,B⟩
        |_=>none
      |b=>match a with
        | .const (.bool true)=>match opd s b with
          |some (.val (.bool y))=>okD s t ⟨s.put (some t) w (.pv (.val (.bool (x||y)))),Imp w wt::ImpX w x false (gN s b)::A,B⟩
          |_=>none
        |_=>none
    |_=>none
  | .buildSlice T len ps=>match pO tt s T len ps.toList with
    |some p=>okF s w un (opl (.buildSlice T len ps)) t (.pv p) A B
    |none=>none
  | .binOp op T x y T2=>match ayN op with
    |true=>match awY op s x y with
      |some (c,b)=>match un with
        |true=>okF s w true [x,y] t (.pv (.val (.int .i64 c))) A (b::B)
        |false=>okF s w false [x,y] t (.pv (.val (.int .i64 c))) A ((w=true->b)::B)
      |none=>none
    |false=>apI tt w un (.binOp op T x y T2) t s A B
  | .unOp .neg _ x=>match opd s x with
    |some (.val (.int .i64 a))=>match un with
      |true=>okF s w true [x] t (.pv (.val (.int .i64 (0-a)))) A ((-9223372036854775808<=0-a/\0-a<=9223372036854775807)::B)
      |false=>okF s w false [x] t (.pv (.val (.int .i64 (0-a)))) A ((w=true-> -9223372036854775808<=0-a/\0-a<=9223372036854775807)::B)
    |_=>none
  |op=>apI tt w un op t s A B
def alQ (tt:TT) (l:List Oper) (o:Oper) (s:St) (A B:List Prop):Option Out:=
  match o with
  |⟨some t,op,_,_,_,none⟩=>amF tt true true op t s A B
  |⟨some t,op,ty,pos,after,some g⟩=>match bF l ⟨some t,op,ty,pos,after,some g⟩ s with
    |some w=>amF tt w false op t s A B
    |none=>none
  |⟨none, .store T (.tmp x) y,_,_,_,none⟩=>match s.env x with
    |(true, .adr u off)=>match s.L u with
      |some (T',cs)=>match iP tt s T y cs off with
        |some cs'=>match gN s y with
          |true=>some ⟨s.setv u T' cs',A,B⟩
          |false=>none
        |none=>none
      |none=>none
    |_=>none
  |_=>none
section
variable {P:Program} {tt:TT} {l:List Oper} {d:Md} {r:List Oper} {s:St} {K:St->Prop} {t:Nat} {op:Op} {ty:TypeId} {pos:String} {after:Array Edge} {gd:Option (Nat×Bool)}
theorem sH {o o':Out} (h:okD s t o=some o'):Nat.blt t s.n=true/\o'=o:=by
 unfold okD at h
 cases hb:Nat.blt t s.n with
 |false=>rw [hb] at h;simp at h
 |true=>rw [hb] at h;simp at h;exact ⟨rfl,h.symm⟩
theorem iF {w un:Bool} {e:E} {A B:List Prop} {o:Out} {xs:List Operand} (hun:un=true->w=true) (h:okF s w un xs t e A B=some o) (ha:All o.a) (hb:All o.b):Nat.blt t s.n=true/\gF s w xs/\o.s=s.put (some t) w e/\All A/\All B:=by
 unfold okF at h
 split at h
 ·split at h
  ·rename_i hf
   obtain ⟨hd,rfl⟩:=sH h
   have:=hun rfl
   subst this
   refine ⟨hd, ?_,rfl,ha,hb⟩
   clear h ha hb hd
   induction xs with
   |nil=>trivial
   |cons x xs ih=>
    simp only [bK,zba] at hf
    exact ⟨λ_=>hf.1,ih hf.2⟩
  ·cases h
 ·obtain ⟨hd,rfl⟩:=sH h
  have:=flagsI.g ha
  exact ⟨hd,this.1,rfl,this.2,hb⟩
theorem kQ (htt:bC P tt) {w un:Bool} {A B:List Prop} {o:Out} (hun:un=true->w=true) (hw:bF l ⟨some t,op,ty,pos,after,gd⟩ s=some w) (h:apI tt w un op t s A B=some o) (ha:All o.a) (hb:All o.b) (ht:cI d l r=true) (k:Ev P l d r o.s K):Ev P l d (⟨some t,op,ty,pos,after,gd⟩::r) s K/\All A/\All B:=by
 unfold apI at h
 split at h
 ·rename_i p hp
  obtain ⟨hd,hf,e,h1,h2⟩:=iF hun h ha hb
  rw [e] at k
  exact ⟨ayW htt hw hp hf hd ht k,h1,h2⟩
 ·cases h
theorem sS (htt:bC P tt) {w un:Bool} {A B:List Prop} {o:Out} (hun:un=true->gd=none/\w=true) (hw:bF l ⟨some t,op,ty,pos,after,gd⟩ s=some w) (h:amF tt w un op t s A B=some o) (ha:All o.a) (hb:All o.b) (ht:cI d l r=true) (k:Ev P l d r o.s K):Ev P l d (⟨some t,op,ty,pos,after,gd⟩::r) s K/\All A/\All B:=by
 have hun2:un=true->w=true:=λe=>(hun e).2
 unfold amF at h
 split at h
 ·rename_i T x f
  split at h
  ·rename_i wx _ _ hx
   split at h
   ·rename_i wx' u off hp
    obtain ⟨hd,hf,e,h1,h2⟩:=iF hun2 h ha hb
    rw [e] at k
    refine ⟨aBh htt hw hp (λhw'=> ?_) hd ht k,h1,h2⟩
    have h3:=hf.1 hw'
    simp only [axC,hx] at hp
    simp only [gN,hx] at h3
    split at hp
    ·split at hp
     ·split at hp
      ·injection hp with hp;injection hp with hp _;rw [<-hp];exact h3
      ·cases hp
     ·cases hp
    ·cases hp
   ·cases h
  ·exact kQ htt hun2 hw h ha hb ht k
 ·rename_i T x
  split at h
  ·rename_i wx u off hx
   split at h
   ·rename_i T' cs hL
    split at h
    ·rename_i p hp
     obtain ⟨hd,hf,e,h1,h2⟩:=iF hun2 h ha hb
     rw [e] at k
     exact ⟨aAi htt hw hx hL hp (λhw'=>by have:=hf.1 hw';simpa [gN,hx] using this) hd ht k,h1,h2⟩
    ·cases h
   ·cases h
  ·exact kQ htt hun2 hw h ha hb ht k
 ·rename_i T
  split at h
  ·rename_i cs had hz
   obtain ⟨hd,rfl⟩:=sH h
   have:=(hun rfl).1
   subst this
   exact ⟨avR htt hz hd had ht k,ha,hb⟩
  ·cases h
 ·rename_i T x
  split at h
  ·rename_i cs had hf hz
   obtain ⟨hd,rfl⟩:=sH h
   have:=(hun rfl).1
   subst this
   exact ⟨aBJ hz hf hd had ht k,ha,hb⟩
  ·cases h
 ·rename_i u a b
  split at h
  ·rename_i wt x hu
   split at h
   ·split at h
    ·rename_i y hy
     obtain ⟨hd,rfl⟩:=sH h
     exact ⟨aBF hw hu hy ha.hd.ok (λh1 h2=>ha.tl.hd.ok h1 h2) hd ht k,ha.tl.tl,hb⟩
    ·cases h
   ·split at h
    ·split at h
     ·rename_i y hy
      obtain ⟨hd,rfl⟩:=sH h
      exact ⟨aCI hw hu hy ha.hd.ok (λh1 h2=>ha.tl.hd.ok h1 h2) hd ht k,ha.tl.tl,hb⟩
     ·cases h
    ·cases h
  ·cases h
 ·rename_i T len ps
  split at h
  ·rename_i p hp
   obtain ⟨hd,hf,e,h1,h2⟩:=iF hun2 h ha hb
   rw [e] at k
   exact ⟨atZ htt hw hp hf hd ht k,h1,h2⟩
  ·cases h
 ·rename_i op T x y T2
  split at h
  ·rename_i hia
   split at h
   ·rename_i c b hab
    have key:∀{bb:Prop},(bb->w=true->b)->okF s w un [x,y] t (.pv (.val (.int .i64 c))) A (bb::B)=some o->Ev P l d (⟨some t, .binOp op T x y T2,ty,pos,after,gd⟩::r) s K/\All A/\All B:=by
     intro bb hbb h
     obtain ⟨hd,hf,e,h1,h2⟩:=iF hun2 h ha hb
     rw [e] at k
     refine ⟨?_,h1,h2.tl⟩
     have hb':=hbb h2.hd
     unfold awY at hab
     split at hab
     ·rename_i a1 b1 hx hy
      cases op<;>simp only at hab<;>first|cases hab;done|skip
      all_goals injection hab with hab
      all_goals injection hab with h1 h2
      all_goals subst h1
      all_goals subst h2
      ·exact azR _ hw hx hy hf hd (λ_=>rfl) (λh=>(hb' h).1) (λh=>(hb' h).2) ht k
      ·exact aAc _ hw hx hy hf hd (λ_=>rfl) (λh=>(hb' h).1) (λh=>(hb' h).2) ht k
      ·exact iE hw hx hy (λh=> .inr (.inr (.inl ⟨rfl,sC (hb' h).1 (hb' h).2⟩))) hf hd ht k
      ·refine iE hw hx hy (λh=> .inr (.inr (.inr (.inl ⟨rfl,by have:=(hb' h).2;omega, ?_⟩)))) hf hd ht k
       have h1:=(hb' h).1
       have h2:=(hb' h).2
       rw [Int.tdiv_eq_ediv_of_nonneg h1.1]
       have h3:=Int.ediv_le_self b1 h1.1
       have h4:=Int.ediv_nonneg h1.1 (Int.le_of_lt h2)
       exact sC (by omega) (by omega)
      ·refine iE hw hx hy (λh=> .inr (.inr (.inr (.inr ⟨rfl,by have:=(hb' h).2;omega, ?_⟩)))) hf hd ht k
       rw [Int.tmod_eq_emod_of_nonneg (hb' h).1.1]
     ·cases hab
    split at h
    ·exact key (λh _=>h) h
    ·exact key (λh=>h) h
   ·cases h
  ·exact kQ htt hun2 hw h ha hb ht k
 ·rename_i T x
  split at h
  ·rename_i a hx
   have key:∀{bb:Prop},(bb->w=true-> -9223372036854775808<=0-a/\0-a<=9223372036854775807)->okF s w un [x] t (.pv (.val (.int .i64 (0-a)))) A (bb::B)=some o->Ev P l d (⟨some t, .unOp .neg T x,ty,pos,after,gd⟩::r) s K/\All A/\All B:=by
    intro bb hbb h
    obtain ⟨hd,hf,e,h1,h2⟩:=iF hun2 h ha hb
    rw [e] at k
    exact ⟨cN hw (λhw' _=>azU rfl hx (sC (hbb h2.hd hw').1 (hbb h2.hd hw').2)) (λz hz=>aR (λ_ _ _ e=>by cases e) hz) hf hd ht k,h1,h2.tl⟩
   split at h
   ·exact key (λh _=>h) h
   ·exact key (λh=>h) h
  ·cases h
 ·exact kQ htt hun2 hw h ha hb ht k
theorem afY (htt:bC P tt) {o:Oper} {A B:List Prop} {x:Out} (h:alQ tt l o s A B=some x) (ha:All x.a) (hb:All x.b) (ht:cI d l r=true) (k:Ev P l d r x.s K):Ev P l d (o::r) s K/\All A/\All B:=by
 unfold alQ at h
 split at h
 ·exact sS htt (λ_=>⟨rfl,rfl⟩) rfl h ha hb ht k
 ·split at h
  ·rename_i w hw
   exact sS htt (λe=>by cases e) hw h ha hb ht k
  ·cases h
 ·split at h
  ·rename_i u off hx
   split at h
   ·rename_i T' cs hL
    split at h
    ·rename_i cs' hp
     split at h
     ·rename_i hf
      injection h with h;subst h
      exact ⟨atA htt hx hL hp hf ht k,ha,hb⟩
     ·cases h
    ·cases h
   ·cases h
  ·cases h
 ·cases h
inductive Fr where
 |seq (c:Code)
 |blk (id:Nat)
def dR (P:Program):List Fr->(Exit->St->Prop)->Exit->St->Prop
 |[],Q=>Q
 | .seq c::k,Q=>aAy (PWp P c (dR P k Q)) (dR P k Q)
 | .blk id::k,Q=>oU id (dR P k Q)
def iV (P:Program) (k:List Fr) (Q:Exit->St->Prop) (s:St):Prop:=dR P k Q .normal s
inductive Bx where
 |mk (a b g:Prop)
 |no
inductive Rn where
 |mk (s:St) (r:List Oper) (A B:List Prop)
def ajJ (tt:TT) (d:Md) (l:List Oper):List Oper->St->List Prop->List Prop->Rn
 |[],s,A,B=> .mk s [] A B
 |o::r,s,A,B=>match cI d l r with
  |true=>match alQ tt l o s A B with
   |some ⟨s',A',B'⟩=>ajJ tt d l r s' A' B'
   |none=> .mk s (o::r) A B
  |false=> .mk s (o::r) A B
theorem iZ (htt:bC P tt):∀{r:List Oper} {s:St} {A B:List Prop} {s':St} {r':List Oper} {A' B':List Prop},ajJ tt d l r s A B= .mk s' r' A' B'->All A'->All B'->Ev P l d r' s' K->Ev P l d r s K/\All A/\All B
 |[],_,_,_,_,_,_,_,e,ha,hb,h=>by
  simp only [ajJ] at e
  injection e with e1 e2 e3 e4
  subst e1;subst e2;subst e3;subst e4
  exact ⟨h,ha,hb⟩
 |o::r,s,A,B,s',r',A',B',e,ha,hb,h=>by
  simp only [ajJ] at e
  split at e
  ·rename_i ht
   split at e
   ·rename_i s1 A1 B1 hs
    obtain ⟨h1,h2,h3⟩:=iZ htt e ha hb h
    exact afY htt hs h2 h3 ht h1
   ·injection e with e1 e2 e3 e4
    subst e1;subst e2;subst e3;subst e4
    exact ⟨h,ha,hb⟩
  ·injection e with e1 e2 e3 e4
   subst e1;subst e2;subst e3;subst e4
   exact ⟨h,ha,hb⟩
inductive Pt where
 |code (c:Code)
 |norm
 |out (id:Nat)
def holds (P:Program) (k:List Fr) (Q:Exit->St->Prop) (s:St):Pt->Prop
 | .code c=>PWp P c (dR P k Q) s
 | .norm=>dR P k Q .normal s
 | .out id=>dR P k Q (.exit id) s
def awQ (P:Program) (pt:Pt) (k:List Fr) (Q:Exit->St->Prop) (s:St) (A B:List Prop):Bx:=
 match pt with
 | .code c=> .mk (All A) (All B) (PWp P c (dR P k Q) s)
 | .norm=> .mk (All A) (All B) (dR P k Q .normal s)
 | .out id=> .mk (All A) (All B) (dR P k Q (.exit id) s)
def adv (P:Program) (tt:TT):Nat->Pt->List Fr->(Exit->St->Prop)->St->List Prop->List Prop->Bx
 |0,pt,k,Q,s,A,B=>awQ P pt k Q s A B
 |n+1, .norm,k,Q,s,A,B=>match k with
  |[]=> .mk (All A) (All B) (Q .normal s)
  | .seq c'::k'=>adv P tt n (.code c') k' Q s A B
  | .blk _::k'=>adv P tt n .norm k' Q s A B
 |n+1, .out id,k,Q,s,A,B=>match k with
  |[]=> .mk (All A) (All B) (Q (.exit id) s)
  | .seq _::k'=>adv P tt n (.out id) k' Q s A B
  | .blk id'::k'=>match Nat.beq id id' with
   |true=>adv P tt n .norm k' Q s A B
   |false=>adv P tt n (.out id) k' Q s A B
 |n+1, .code c,k,Q,s,A,B=>match c with
  | .skip=>adv P tt n .norm k Q s A B
  | .exit id=>adv P tt n (.out id) k Q s A B
  | .seq x y=>adv P tt n (.code x) (.seq y::k) Q s A B
  | .block id x=>adv P tt n (.code x) (.blk id::k) Q s A B
  | .region _ ops false=>match ajJ tt .seq ops.toList ops.toList s A B with
   | .mk s' [] A' B'=>adv P tt n .norm k Q s' A' B'
   | .mk s' (o::r) A' B'=> .mk (All A') (All B') (Ev P ops.toList .seq (o::r) s' (iV P k Q))
  |c=> .mk (All A) (All B) (PWp P c (dR P k Q) s)
theorem kJ (htt:bC P tt):∀(n:Nat) (pt:Pt) (k:List Fr) (Q:Exit->St->Prop) (s:St) (A B:List Prop) {a b g:Prop},adv P tt n pt k Q s A B= .mk a b g->a->b->g->holds P k Q s pt/\All A/\All B:=by
 intro n
 induction n with
 |zero=>
  intro pt k Q s A B a b g h ha hb hg
  cases pt<;>simp only [adv,awQ] at h<;>injection h with h1 h2 h3<;>subst h1<;>subst h2<;>subst h3<;>exact ⟨hg,ha,hb⟩
 |succ n ih=>
  intro pt k Q s A B a b g h ha hb hg
  have fin':∀{H:Prop},Bx.mk (All A) (All B) H= .mk a b g->H/\All A/\All B:=fun {H} e=>by
   injection e with h1 h2 h3
   subst h1;subst h2;subst h3
   exact ⟨hg,ha,hb⟩
  cases pt with
  |norm=>
   simp only [adv] at h
   split at h
   ·exact fin' h
   ·have:=ih _ _ _ _ _ _ h ha hb hg;exact this
   ·have:=ih _ _ _ _ _ _ h ha hb hg;exact this
  |out id=>
   simp only [adv] at h
   split at h
   ·exact fin' h
   ·have:=ih _ _ _ _ _ _ h ha hb hg;exact this
   ·rename_i id' k'
    split at h
    ·rename_i hid
     have:=Nat.eq_of_beq_eq_true hid
     obtain ⟨h1,h2⟩:=ih _ _ _ _ _ _ h ha hb hg
     refine ⟨?_,h2⟩
     show oU id' (dR P k' Q) (.exit id) s
     simp only [oU,zp this]
     exact h1
    ·rename_i hid
     have:id≠id':=λe=>by subst e;rw [Nat.beq_refl] at hid;cases hid
     obtain ⟨h1,h2⟩:=ih _ _ _ _ _ _ h ha hb hg
     refine ⟨?_,h2⟩
     show oU id' (dR P k' Q) (.exit id) s
     simp only [oU,zn this]
     exact h1
  |code c=>
   have reg:∀{ops:Array Oper},(match ajJ tt .seq ops.toList ops.toList s A B with
      | .mk s' [] A' B'=>adv P tt n .norm k Q s' A' B'
      | .mk s' (o::r) A' B'=> .mk (All A') (All B') (Ev P ops.toList .seq (o::r) s' (iV P k Q)))=Bx.mk a b g->Ev P ops.toList .seq ops.toList s (iV P k Q)/\All A/\All B:=by
    intro ops e
    split at e
    ·rename_i s' A' B' hr
     obtain ⟨h1,h2,h3⟩:=ih _ _ _ _ _ _ e ha hb hg
     exact iZ htt hr h2 h3 (xL h1)
    ·rename_i s' o r A' B' hr
     injection e with h1 h2 h3
     subst h1;subst h2;subst h3
     exact iZ htt hr ha hb hg
   simp only [adv] at h
   split at h
   ·obtain ⟨h1,h2⟩:=ih _ _ _ _ _ _ h ha hb hg
    exact ⟨auO h1,h2⟩
   ·obtain ⟨h1,h2⟩:=ih _ _ _ _ _ _ h ha hb hg
    exact ⟨atM h1,h2⟩
   ·obtain ⟨h1,h2⟩:=ih _ _ _ _ _ _ h ha hb hg
    exact ⟨ayM h1,h2⟩
   ·obtain ⟨h1,h2⟩:=ih _ _ _ _ _ _ h ha hb hg
    exact ⟨anB h1,h2⟩
   ·obtain ⟨h1,h2⟩:=reg h
    exact ⟨kS (Q:=dR P k Q) (l:=Array.toList _) h1,h2⟩
   ·exact fin' h
class Pk (P:Program) (tt:outParam TT):Prop where
  hm:P.follows .mixedOrders=true
  htt:bC P tt
  nm : (P.funcs.all λfn => !(fn.name == "runtime.NumGoroutine")) = true
theorem go (pk:Pk P tt) {c:Code} {k:List Fr} {Q:Exit->St->Prop} {a b g:Prop} (h:adv P tt 1000 (.code c) k Q s [] []= .mk a b g) (ha:a) (hb:b) (hg:g):PWp P c (dR P k Q) s:=
 (kJ pk.htt _ _ _ _ _ _ _ h ha hb hg).1
theorem goN (pk:Pk P tt) {k:List Fr} {Q:Exit->St->Prop} {a b g:Prop} (h:adv P tt 1000 .norm k Q s [] []= .mk a b g) (ha:a) (hb:b) (hg:g):dR P k Q .normal s:=
 (kJ pk.htt _ _ _ _ _ _ _ h ha hb hg).1
theorem goX (pk:Pk P tt) {id:Nat} {k:List Fr} {Q:Exit->St->Prop} {a b g:Prop} (h:adv P tt 1000 (.out id) k Q s [] []= .mk a b g) (ha:a) (hb:b) (hg:g):dR P k Q (.exit id) s:=
 (kJ pk.htt _ _ _ _ _ _ _ h ha hb hg).1
def yB (P:Program) (tt:TT) (l:List Oper) (d:Md) (r:List Oper) (s:St) (k:List Fr) (Q:Exit->St->Prop):Bx:=
 match ajJ tt d l r s [] [] with
 | .mk s' [] A' B'=>adv P tt 1000 .norm k Q s' A' B'
 | .mk s' (o::r) A' B'=> .mk (All A') (All B') (Ev P l d (o::r) s' (iV P k Q))
theorem goE (pk:Pk P tt) {k:List Fr} {Q:Exit->St->Prop} {a b g:Prop} (h:yB P tt l d r s k Q= .mk a b g) (ha:a) (hb:b) (hg:g):Ev P l d r s (iV P k Q):=by
 unfold yB at h
 split at h
 ·rename_i s' A' B' hr
  obtain ⟨h1,h2,h3⟩:=kJ pk.htt _ _ _ _ _ _ _ h ha hb hg
  exact (iZ pk.htt hr h2 h3 (xL h1)).1
 ·rename_i s' o r A' B' hr
  injection h with h1 h2 h3
  subst h1;subst h2;subst h3
  exact (iZ pk.htt hr ha hb hg).1
theorem goD (pk:Pk P tt) {id:Nat} {ops:Array Oper} {k:List Fr} {Q:Exit->St->Prop} {a b g:Prop} {z rd:List Nat} (hl:ahV ops.toList (.draw z rd)=true) (hF:wO ops.toList s=true) (h:yB P tt ops.toList (.draw z rd) ops.toList s k Q= .mk a b g) (ha:a) (hb:b) (hg:g):PWp P (.region id ops true) (dR P k Q) s:=
 lO (l:=ops.toList) pk.hm hl hF (goE pk h ha hb hg)
theorem aCo {f:Operand} {args:Array Operand} {ts:Array TypeId} {fid:FuncId} {caps ps:List PV} {w:Bool} (qs:List PV) {p:PV} (hw:bF l ⟨some t, .call ⟨.value f,args,ts⟩,ty,pos,after,gd⟩ s=some w) (hf:opd s f=some (.fn fid caps)) (hps:lL s args.toList=some ps) (hq:WkL ps qs) (h:w=true->PF P fid (qs++caps) p) (hfl:All (flagsI s w (f::args.toList) [])) (hd:Nat.blt t s.n=true)
  (ht:cI d l r=true) (k:Ev P l d r (s.put (some t) w (.pv p)) K):Ev P l d (⟨some t, .call ⟨.value f,args,ts⟩,ty,pos,after,gd⟩::r) s K:=
 cN hw (λhw' _=>axA rfl hf ((uL _).trans hps) hq (h hw')) (λ_ hx=>aR (λ_ _ _ e=>by cases e) hx) (flagsI.g hfl).1 hd ht k
theorem bX (pk:Pk P tt) {T e:TypeId} {x y:Operand} {w:Bool} {p:PV} {rows:List (List PV)} {kk:IntKind} {n:Int} {j sz:Nat} {row:List PV} (hw:bF l ⟨some t, .indexAddr T x y,ty,pos,after,gd⟩ s=some w) (hx:opd s x=some p) (hp:eK p=some rows) (hy:opd s y=some (.val (.int kk n))) (hk:tiK tt T=some (.slice e)) (hs:aO tt e=some sz) (hf:All (flagsI s w [x,y] [])) (hd:Nat.blt t s.n=true)
  (hj:w=true->n=(j:Int)) (hr:w=true->rows[j]?=some row) (hl:w=true->row.length=sz) (ht:cI d l r=true) (k:Ev P l d r (s.put (some t) w (.pv (.rp row))) K):Ev P l d (⟨some t, .indexAddr T x y,ty,pos,after,gd⟩::r) s K:=
 apD pk.htt hw hx hp hy hk hs (flagsI.g hf).1 hd hj hr hl ht k
theorem ahT (pk:Pk P tt) {T:TypeId} {x:Nat} {y:Operand} {w wx:Bool} {u off n e sz:Nat} {kk:IntKind} {i:Int} (j:Nat) (hw:bF l ⟨some t, .indexAddr T (.tmp x) y,ty,pos,after,gd⟩ s=some w) (hx:s.env x=(wx, .adr u off)) (hy:opd s y=some (.val (.int kk i))) (hk:tiK tt T=some (.arr n e)) (hs:aO tt e=some sz)
  (hf:All (flagsI s w [.tmp x,y] [])) (hd:Nat.blt t s.n=true) (hj:w=true->i=(j:Int)) (hlt:w=true->j<n) (ht:cI d l r=true) (k:Ev P l d r (s.put (some t) w (.adr u (off+j*sz))) K):Ev P l d (⟨some t, .indexAddr T (.tmp x) y,ty,pos,after,gd⟩::r) s K:=by
 have h:=(flagsI.g hf).1
 exact aBQ pk.htt j hw hx hy hk hs (λhw'=>by have:=h.1 hw';simpa [gN,hx] using this) (λhw'=>h.2.1 hw') hd hj hlt ht k
theorem oK (pk:Pk P tt) {T:TypeId} {x y:Operand} {ok w:Bool} {q p:PV} {es:List (Value×PV)} {key:Value} (hw:bF l ⟨some t, .lookup T x y ok,ty,pos,after,gd⟩ s=some w) (hx:opd s x=some q) (hq:akH q=some es) (hy:opd s y=some (.val key)) (hf:All (flagsI s w (opl (.lookup T x y ok)) [])) (hd:Nat.blt t s.n=true)
  (h:gZ tt T es key ok=some p) (ht:cI d l r=true) (k:Ev P l d r (s.put (some t) w (.pv p)) K):Ev P l d (⟨some t, .lookup T x y ok,ty,pos,after,gd⟩::r) s K:=
 anT pk.htt hw hx hq hy (flagsI.g hf).1 hd h ht k
theorem aA4 (pk:Pk P tt) (n:Nat) {c:Code} {Q:Exit->St->Prop} {a b g:Prop} (h:adv P tt n (.code c) [] Q s [] []= .mk a b g) (ha:a) (hb:b) (hg:g):PWp P c Q s:=
 (kJ pk.htt _ _ _ _ _ _ _ h ha hb hg).1
end
end
section
section
variable {P:Program} {tt:TT} {l:List Oper} {d:Md} {r:List Oper} {s:St} {K:St->Prop} {t:Nat} {ty:TypeId} {pos:String} {after:Array Edge} {gd:Option (Nat×Bool)}
@[reducible] def inR (k:IntKind) (a:Int):Prop:=
 match k with
 | .i64=> -9223372036854775808<=a/\a<=9223372036854775807
 | .u64=>0<=a/\a<=18446744073709551615
 | .u8=>0<=a/\a<=255
 | .i32=> -2147483648<=a/\a<=2147483647
 | .u32=>0<=a/\a<=4294967295
 |_=>False
theorem asL {k:IntKind} {a:Int} (h:inR k a):k.wrap a=a:=by
 cases k<;>simp only [inR] at h<;>first|exact sC h.1 h.2|exfalso;exact h|skip
 all_goals simp only [IntKind.wrap,IntKind.bits,IntKind.signed,Bool.true_and,Bool.false_and]
 all_goals first|omega|(split<;>rename_i h<;>simp at h<;>omega)
theorem cvA (pk:bC P tt) {T T2:TypeId} {x:Operand} {k1 k2:IntKind} {a:Int} (hx:opd s x=some (.val (.int k1 a))) (hT:(tiK tt T).isSome=true) (hk:tiK tt T2=some (.int k2)) (hf:bK s [x]=true) (hd:Nat.blt t s.n=true) (hc:inR k2 a)
  (ht:cI d l r=true) (k:Ev P l d r (s.pv t (.val (.int k2 a))) K):Ev P l d (⟨some t, .convert T T2 x,ty,pos,after,none⟩::r) s K:=
 ayF pk hx hT hk (asL hc) hf hd ht k
theorem atT (htt:bC P tt) {o:Oper} {T:TypeId} {x y:Operand} {b:ByteArray} {k:IntKind} {i:Int} {j:Nat} {c:UInt8} (ho:o.op= .index T x y) (hx:opd s x=some (.val (.string b))) (hy:opd s y=some (.val (.int k i))) (hT:tiK tt T=some .str) (hi:i=j) (hb:b[j]?=some c):OpV P o s (.val (.int .u8 c.toNat)):=by
 refine aM λw g ρ _ hρ=> ?_
 have ex:=aK (hρ x (by rw [ho];simp [Op.operands]) _ hx)
 have ey:=aK (hρ y (by rw [ho];simp [Op.operands]) _ hy)
 have hu:=jQ (aP htt hT).1
 subst hi
 refine ⟨.int .u8 c.toNat, ?_,by simp [Rep]⟩
 have h0:(0:Int)<=(j:Int):=by omega
 simp [execOp,ho,ex,ey,Instr.index,asIntOf,run_underlying hu,h0,hb]
theorem sxA (pk:bC P tt) {T:TypeId} {x y:Operand} {b:ByteArray} {kk:IntKind} {i:Int} (j:Nat) (c:UInt8) (hx:opd s x=some (.val (.string b))) (hy:opd s y=some (.val (.int kk i))) (hT:tiK tt T=some .str) (hf:bK s [x,y]=true) (hd:Nat.blt t s.n=true) (hi:i=j) (hb:b[j]?=some c)
  (ht:cI d l r=true) (k:Ev P l d r (s.pv t (.val (.int .u8 c.toNat))) K):Ev P l d (⟨some t, .index T x y,ty,pos,after,none⟩::r) s K:=
 vC (λ_=>atT pk rfl hx hy hT hi hb) (λz hz=>aR (λ_ _ _ e=>by cases e) hz) hf hd ht k
end
end
section
structure Elem (tt:TT) (T:TypeId) {α:Type} (f:α->List PV) (g:α->PV) (sz:Nat):Prop where
 size:aO tt T=some sz
 ld:∀a,gT tt T (f a) 0=some (g a)
 fl:∀a,(g a).flat=true
 ce:∀a,(g a).cells=f a
 len:∀a,(f a).length=sz
section
variable {P:Program} {tt:TT} {l:List Oper} {d:Md} {r:List Oper} {s:St} {K:St->Prop} {t:Nat} {op:Op} {ty:TypeId} {pos:String} {after:Array Edge} {gd:Option (Nat×Bool)}
variable {α:Type} {f:α->List PV} {g:α->PV} {sz:Nat}
theorem azG [Inhabited α] {xs:Array α} {j:Nat} (h:j<xs.size):(xs.toList.map f)[j]?=some (f xs[j]!):=by
 have e:xs[j]! =xs[j]'h:=by simp [h]
 rw [e];simp [h]
theorem ixA (pk:Pk P tt) {T e:TypeId} {x y:Operand} {id off len j j':Nat} {kk:IntKind} {n:Int} {w:Bool} (hw:bF l ⟨some t, .indexAddr T x y,ty,pos,after,gd⟩ s=some w) (hx:opd s x=some (.vec id sz off len)) (hy:opd s y=some (.val (.int kk n))) (hk:tiK tt T=some (.slice e)) (hs:aO tt e=some sz) (hf:All (flagsI s w [x,y] [])) (hd:Nat.blt t s.n=true)
  (hj:w=true->n=(j:Int)) (hlt:w=true->j<len) (ht:cI d l r=true) (hjj:off+j=j') (k:Ev P l d r (s.put (some t) w (.pv (.el id sz j' 0))) K):Ev P l d (⟨some t, .indexAddr T x y,ty,pos,after,gd⟩::r) s K:=by
 subst hjj
 exact cN hw (λhw' st'=>ajQ (s:=s.sst st') pk.htt rfl ((cA x).trans hx) ((cA y).trans hy) (hj hw') (hlt hw') hk hs) (λz hz=>aR (λ_ _ _ e=>by cases e) hz) (flagsI.g hf).1 hd ht k
theorem ldA [Inhabited α] (pk:Pk P tt) {T:TypeId} (he:Elem tt T f g sz) {x:Operand} {id j:Nat} {w:Bool} {xs:Array α} (hw:bF l ⟨some t, .load T x,ty,pos,after,gd⟩ s=some w) (hx:opd s x=some (.el id sz j 0)) (hf:All (flagsI s w [x] [])) (hd:Nat.blt t s.n=true)
  (hst:s.st id=some (.arr T (xs.toList.map f))) (hj:w=true->j<xs.size) (ht:tT d l r=true) (k:Ev P l d r (s.put (some t) w (.pv (g xs[j]!))) K):Ev P l d (⟨some t, .load T x,ty,pos,after,gd⟩::r) s K:=
 oT hw (λhw'=>oQ pk.htt rfl hx hst he.size (azG (hj hw')) (he.ld _)) (λz hz=>aR (λ_ _ _ e=>by cases e) hz) (flagsI.g hf).1 hd ht k
theorem apW (ps:List PV):∀(cs:List PV),cs.length=ps.length->fE cs 0 ps=ps:=by
 induction ps with
 |nil=>intro cs h;cases cs<;>simp_all [fE]
 |cons p ps ih=>
  intro cs h
  cases cs with
  |nil=>simp at h
  |cons c cs=>simp only [fE];rw [ih cs (by simpa using h)]
theorem stA (pk:Pk P tt) {T:TypeId} (he:Elem tt T f g sz) {x y:Operand} {id j:Nat} {xs:Array α} (a:α) (hx:opd s x=some (.el id sz j 0)) (hy:opd s y=some (g a)) (hf:bK s [x,y]=true)
  (hst:s.st id=some (.arr T (xs.toList.map f))) (hj:j<xs.size) (ht:hY d l r=true) (k:Ev P l d r (s.sst (upd s.st id (some (.arr T ((xs.setIfInBounds j a).toList.map f))))) K):Ev P l d (⟨none, .store T x y,ty,pos,after,none⟩::r) s K:=by
 have hr:(xs.toList.map f)[j]?=some (f (xs[j]'hj)):=by simp [hj]
 have hp:iP tt s T y (f (xs[j]'hj)) 0=some (f a):=by
  unfold iP apC
  rw [hy,he.size]
  simp only [he.fl,zqt,bY,yZ,he.ce,he.len,Nat.zero_add,Nat.beq_refl,Bool.true_and]
  rw [show Nat.ble sz sz=true from Nat.ble_eq_true_of_le (Nat.le_refl _)]
  simp only [zqt]
  rw [apW _ _ (by rw [he.len,he.len])]
 refine dD (tD pk.htt hx hst he.size hr hp) (λz hz=>aR (λ_ _ _ e=>by cases e) hz) hf rfl ht λz hz=> ?_
 subst hz
 have e:(xs.toList.map f).set j (f a)=(xs.setIfInBounds j a).toList.map f:=by
  rw [Array.toList_setIfInBounds,List.map_set]
 rw [e]
 exact k
def avN :PV->Bool
 | .ref _ _| .el _ _ _ _| .rp _=>true
 |_=>false
theorem azA {o:Oper} {s:St} {x:Operand} {p:PV} (ho:o.op= .nilCheck x) (hx:opd s x=some p) (hp:avN p=true):OpV P o s p:=by
 refine aM λw g ρ hm hρ=> ?_
 have hx1:=hρ x (by rw [ho];simp [Op.operands]) _ hx
 have hv:∃a,ρ x= .pointer (some a):=by
  cases p<;>simp [avN] at hp
  ·simp only [Rep] at hx1;obtain ⟨b,i,h,_⟩:=hx1;exact ⟨_,h⟩
  ·simp only [Rep] at hx1;obtain ⟨b,n,cap,_,h⟩:=hx1;exact ⟨_,h⟩
  ·simp only [Rep] at hx1;obtain ⟨b,n,cap,_,h⟩:=hx1;exact ⟨_,h⟩
 obtain ⟨a,hv⟩:=hv
 refine ⟨ρ x, ?_,hx1⟩
 simp [execOp,ho,hv]
theorem ncA {x:Operand} {p:PV} {w:Bool} (hw:bF l ⟨some t, .nilCheck x,ty,pos,after,gd⟩ s=some w) (hx:opd s x=some p) (hp:avN p=true) (hf:All (flagsI s w [x] [])) (hd:Nat.blt t s.n=true) (ht:cI d l r=true) (k:Ev P l d r (s.put (some t) w (.pv p)) K):Ev P l d (⟨some t, .nilCheck x,ty,pos,after,gd⟩::r) s K:=
 cN hw (λ_ st'=>azA (s:=s.sst st') rfl ((cA x).trans hx) hp) (λz hz=>aR (λ_ _ _ e=>by cases e) hz) (flagsI.g hf).1 hd ht k
theorem ldR (pk:Pk P tt) {T T':TypeId} {x:Operand} {id off:Nat} {cs:List PV} {p:PV} {w:Bool} (hw:bF l ⟨some t, .load T x,ty,pos,after,gd⟩ s=some w) (hx:opd s x=some (.ref id off)) (hf:All (flagsI s w [x] [])) (hd:Nat.blt t s.n=true) (hst:s.st id=some (.cells T' cs)) (hp:gT tt T cs off=some p) (ht:tT d l r=true) (k:Ev P l d r (s.put (some t) w (.pv p)) K):Ev P l d (⟨some t, .load T x,ty,pos,after,gd⟩::r) s K:=
 oT hw (λ_=>tJ pk.htt rfl hx hst hp) (λz hz=>aR (λ_ _ _ e=>by cases e) hz) (flagsI.g hf).1 hd ht k
theorem stR (pk:Pk P tt) {T T':TypeId} {x y:Operand} {id off:Nat} {cs cs':List PV} (hx:opd s x=some (.ref id off)) (hf:bK s [x,y]=true) (hst:s.st id=some (.cells T' cs)) (hp:iP tt s T y cs off=some cs') (ht:hY d l r=true) (k:Ev P l d r (s.sst (upd s.st id (some (.cells T' cs')))) K):Ev P l d (⟨none, .store T x y,ty,pos,after,none⟩::r) s K:=
 dD (abW pk.htt hx hst hp) (λz hz=>aR (λ_ _ _ e=>by cases e) hz) hf rfl ht λz hz=>by subst hz;exact k
def aeA (u:Nat):List Oper->Option Op
 |[]=>none
 |o::r=>match o.dst with
  |some v=>match Nat.beq u v with
   |true=>some o.op
   |false=>aeA u r
  |none=>aeA u r
def anR (s:St) (l:List Oper):Nat->Operand->Bool
 |0,_=>false
 |n+1, .tmp u=>match aeA u l with
  |some (.indexAddr _ _ _)|some (.nilCheck _)=>true
  |some (.fieldAddr _ x _)=>anR s l n x
  |some (.move x)=>anR s l n x
  |some _=>false
  |none=>match s.env u with
   |(_, .pv (.ref _ _))|(_, .pv (.el _ _ _ _))=>true
   |_=>false
 |_+1,_=>false
def aBX (s:St) (l:List Oper):Operand->Bool
 | .tmp u=>match aeA u l with
  |some (.move (.tmp x))=>match s.env x with
   |(_, .pv (.mref _))=>true
   |_=>false
  |_=>match s.env u with
   |(_, .pv (.mref _))=>true
   |_=>false
 |_=>false
def alS (s:St) (l:List Oper):List Oper->Nat->List Nat
 |[],_=>[]
 |o::r,k=>match o.op with
  | .store _ x _=>bif anR s l 5 x then k::alS s l r (k+1) else alS s l r (k+1)
  |_=>alS s l r (k+1)
def akY (s:St) (l:List Oper):List Oper->Nat->List Nat
 |[],_=>[]
 |o::r,k=>match o.op with
  | .load _ x=>bif anR s l 5 x then k::akY s l r (k+1) else akY s l r (k+1)
  |_=>akY s l r (k+1)
end
end
section
section
variable {P:Program} {tt:TT} {l:List Oper} {d:Md} {r:List Oper} {s:St} {K:St->Prop} {t:Nat} {op:Op} {ty:TypeId} {pos:String} {after:Array Edge} {gd:Option (Nat×Bool)}
def isW :Code->Bool
 | .seq _ _| .block _ _| .skip| .exit _| .region _ _ false=>true
 |_=>false
theorem wC (pk:Pk P tt) {c:Code} {k:List Fr} {Q:Exit->St->Prop} {a b g:Prop} (_hp:isW c=true) (h:adv P tt 1000 (.code c) k Q s [] []= .mk a b g) (ha:a) (hb:b) (hg:g):PWp P c (dR P k Q) s:=go pk h ha hb hg
def amA (tt:TT) (d:Md) (l:List Oper) (r:List Oper) (s:St):Bool:=
 match r with
 |[]=>true
 |o::r=>match cI d l r,alQ tt l o s [] [] with
  |true,some _=>true
  |_,_=>false
theorem wE (pk:Pk P tt) {k:List Fr} {Q:Exit->St->Prop} {a b g:Prop} (_hp:amA tt d l r s=true) (h:yB P tt l d r s k Q= .mk a b g) (ha:a) (hb:b) (hg:g):Ev P l d r s (iV P k Q):=goE pk h ha hb hg
def qH {β:Type}:List Nat->(List Nat->Option β)->Option β
 |[],k=>k []
 |x::xs,k=>qH xs λys=>k (x::ys)
def aCl (s:St) (l:List Oper):Option (List Nat×List Nat):=qH (alS s l l 0) λz=>qH (akY s l l 0) λr=>some (z,r)
theorem wDx (pk:Pk P tt) {id:Nat} {ops:Array Oper} {k:List Fr} {Q:Exit->St->Prop} {a b g:Prop} {z rd:List Nat} (_hz:aCl s ops.toList=some (z,rd)) (hl:ahV ops.toList (.draw z rd)=true) (hF:wO ops.toList s=true) (h:yB P tt ops.toList (.draw z rd) ops.toList s k Q= .mk a b g) (ha:a) (hb:b) (hg:g):PWp P (.region id ops true) (dR P k Q) s:=goD pk hl hF h ha hb hg
theorem wD (pk:Pk P tt) (z rd:List Nat) {id:Nat} {ops:Array Oper} {k:List Fr} {Q:Exit->St->Prop} {a b g:Prop} (hl:ahV ops.toList (.draw z rd)=true) (hF:wO ops.toList s=true) (h:yB P tt ops.toList (.draw z rd) ops.toList s k Q= .mk a b g) (ha:a) (hb:b) (hg:g):PWp P (.region id ops true) (dR P k Q) s:=goD pk hl hF h ha hb hg
theorem zG {b:Bool} {x y:Code} {Q:Exit->St->Prop} (h:PWp P (bif b then x else y) Q s):PWp P (.cond (.const (.bool b)) x y) Q s:=λc a w g lam hs=>by
 cases b
 ·exact wpIn_cond_false (c:= .const (.bool false)) rfl (h c a w g lam hs)
 ·exact wpIn_cond_true (c:= .const (.bool true)) rfl (h c a w g lam hs)
theorem apS (pk:Pk P tt) {α:Type} {f:α->List PV} {xs:List α} (a:α) {T T2 e:TypeId} {x y:Operand} {id sz:Nat} (B:Nat) (hx:opd s x=some (.own id (xs.map f))) (hy:opd s y=some (.seq [f a])) (hk:tiK tt T=some (.slice e)) (hk2:cG tt T2=true) (hs:aO tt e=some sz) (hz:(tiZ tt e).map List.length=some sz) (hf:bK s [x,y]=true) (hd:Nat.blt t s.n=true)
  (htok:s.st id=some (.tok e)) (hl:∀a,(f a).length=sz) (h1:∀a,(f a).all PV.one=true) (hB:P.bytesOf e=B) (hb:(xs.length+1)*B<=140737488355328) (h62:xs.length+1<4611686018427387904) (ht:hY d l r=true)
  (k:∀id',s.st id'=none->Ev P l d r ((s.sst (upd (upd s.st id none) id' (some (.tok e)))).pv t (.own id' ((xs++[a]).map f))) K):Ev P l d (⟨some t, .call ⟨.builtin .append, #[x,y], #[T,T2]⟩,ty,pos,after,none⟩::r) s K:=by
 refine dD (ajH pk.htt B hx hy rfl hk hk2 hs hz htok (λr hr=>by obtain ⟨a,_,rfl⟩:=List.mem_map.1 hr;exact hl a) (λr hr=>by rw [zms.1 hr];exact hl a) (λr hr=>by rw [zms.1 hr];exact h1 a) hB (by simpa using hb) (by simpa using h62)) (λz hz=>aR (λ_ _ _ e=>by cases e) hz) hf hd ht λz hz=> ?_
 obtain ⟨id',h,rfl⟩:=hz
 have:=k id' h
 rw [List.map_append] at this
 exact this
theorem aH {α:Type} (f:Nat->α) (i:Nat) (a b:α):upd (upd f i a) i b=upd f i b:=by
 funext j
 by_cases h:j=i
 ·rw [h,aA,aA]
 ·rw [aC h,aC h,aC h]
theorem aBU {α:Type} (f:Nat->α) (i:Nat) (a b c:α):upd (upd (upd f i a) i b) i c=upd f i c:=by rw [aH,aH]
theorem dA {α:Type} {f:Nat->α} {i j:Nat} (h:i≠j) (a b c d:α):upd (upd (upd (upd f i a) j b) i c) j d=upd (upd f i c) j d:=by
 funext k
 by_cases h1:k=j
 ·subst h1;rw [aA,aA]
 ·rw [aC h1,aC h1]
  by_cases h2:k=i
  ·subst h2;rw [aA,aA]
  ·rw [aC h2,aC h1,aC h2,aC h2]
theorem aL {α:Type} {f:Nat->α} {i:Nat} {a:α} (h:f i=a):upd f i a=f:=by
 funext j
 by_cases hj:j=i
 ·rw [hj,aA,h]
 ·rw [aC hj]
theorem aF {st st':aD} {id:Nat} {o:Option AObj} (h:StSub st st') (hid:st id=none):StSub st (upd st' id o):=λj=>by
 by_cases hj:j=id
 ·left;rw [hj];exact hid
 ·rw [aC hj];exact h j
theorem aI {st st':aD} (h:st=st'):StSub st st':=h▸zsr st
theorem axY {α:Type} {f:α->List PV} {l:List α} {j:Nat} (h:j<l.length):(l.map f)[j]?=some (f (l[j]'h)):=by simp [h]
end
end
section
section
variable {P:Program} {tt:TT}
def ckV (tt:TT):Nat->TypeId->Value->Bool
 |0,_,_=>false
 |d+1,t,x=>match tiK tt t with
  |some (.int _)|some .bool|some .str=>true
  |some (.struct fs)=>match x with
   | .agg xs=>fs.all λf=>match mF tt f.1,aO tt f.1 with
    |some true,some n=>ckV tt d f.1 (.agg ((xs.toList.drop f.2).take n).toArray)
    |some false,some _=>match xs.toList[f.2]? with
     |some v=>ckV tt d f.1 v
     |none=>false
    |_,_=>false
   |_=>false
  |_=>false
theorem afK (htt:bC P tt) {w:World} {t off:Nat} {xs:Array Value} {d:Nat} (h:(match mF tt t,aO tt t with
    |some true,some n=>ckV tt d t (.agg ((xs.toList.drop off).take n).toArray)
    |some false,some _=>match xs.toList[off]? with
     |some v=>ckV tt d t v
     |none=>false
    |_,_=>false)=true):∃v,(part t xs off).run P w= .ok v w/\ckV tt d t v=true:=by
 split at h
 ·rename_i n ha hn
  obtain ⟨h1,h2⟩:=bV htt ha
  refine ⟨.agg (xs.extract off (off+n)),by simp [part,cT h1 h2,aX (aN htt hn).1], ?_⟩
  rw [<-h];congr 2
  apply Array.toList_inj.1
  simp [List.extract_eq_take_drop]
 ·rename_i n ha hn
  obtain ⟨h1,h2⟩:=bV htt ha
  split at h
  ·rename_i v hv
   refine ⟨v, ?_,h⟩
   have hv':xs[off]?=some v:=by simpa using hv
   simp [part,cT h1 h2,hv']
  ·cases h
 ·cases h
theorem auE (htt:bC P tt) {b:Bool} {w:World}:∀(d n:Nat),d<=n->∀t x,ckV tt d t x=true->(Instr.checkKey b n t x).run P w= .ok () w
  |0,_,_,_,_,h=>by simp [ckV] at h
  |d+1,0,hn,_,_,_=>by omega
  |d+1,n+1,hn,t,x,h=>by
    rw [Instr.checkKey]
    simp only [ckV] at h
    split at h
    · rename_i k hk
      have hu:=lX (aP htt hk).1
      simp only [Sem.run_bind,run_underlying hu,Result.andThen_ok]
      simp
    · rename_i hk
      have hu:P.underlying t=some .bool:=by
        have:=(aP htt hk).1
        unfold fM at this;split at this<;>simp_all
      simp only [Sem.run_bind,run_underlying hu,Result.andThen_ok]
      simp
    · rename_i hk
      have hu:=jQ (aP htt hk).1
      simp only [Sem.run_bind,run_underlying hu,Result.andThen_ok]
      simp
    · rename_i fs hk
      obtain ⟨fields,hu,hfs⟩:=dM (aP htt hk).1
      split at h
      · rename_i xs
        simp only [Sem.run_bind,run_underlying hu,Result.andThen_ok]
        rw [<-Array.forIn_toList]
        subst hfs
        rw [List.all_map] at h
        clear hu hk
        generalize fields.toList=L at h
        induction L with
        |nil=>simp
        |cons f L ih=>
          rw [List.all_cons,zba] at h
          obtain ⟨v,p1,p2⟩:=afK htt (w:=w) h.1
          have p3:=auE htt (b:=b) (w:=w) d n (by omega) f.type v p2
          by_cases hn' : f.name = "_"
          · simp only [List.forIn_cons,Sem.run_bind,hn',ne_eq,not_true_eq_false,if_false,Result.andThen_ok,Sem.run_pure]
            exact ih h.2
          · simp only [List.forIn_cons,Sem.run_bind,hn',ne_eq,not_false_eq_true,if_true,Result.andThen_ok,p1,p3,Sem.run_pure]
            exact ih h.2
      · cases h
    · cases h
theorem uN (s:ByteArray):(s==s)=true:=by
 obtain ⟨x⟩:=s
 exact (beq_self_eq_true x:(x==x)=true)
def abD :Value->Bool
 | .int _ _| .bool _| .string _=>true
 |_=>false
theorem ajG {n:Nat} {v:Value} (h:abD v=true):Instr.sameBits n v v=true:=by
 cases v<;>simp [abD] at h<;>simp [Instr.sameBits]
 rename_i s
 exact uN s
theorem arJ {vs:List Value} (h:vs.all abD=true):Instr.sameBits 10000 (.agg vs.toArray) (.agg vs.toArray)=true:=by
 rw [show (10000:Nat)=9999+1 from rfl,Instr.sameBits]
 simp only [beq_self_eq_true,Bool.true_and,zal]
 rintro ⟨x,y⟩ hxy
 have:x=y/\x∈vs:=by
  clear h
  induction vs with
  |nil=>simp at hxy
  |cons v vs ih=>
   simp only [List.zip_cons_cons,zmc,Prod.mk.injEq] at hxy
   rcases hxy with ⟨rfl,rfl⟩|h
   ·simp
   ·have:=ih h;exact ⟨this.1,by simp [this.2]⟩
 rw [<-this.1]
 exact ajG (zal.1 h x this.2)
theorem aeF {g:G}:∀{vs:List Value} {us:List Value},RepL g (vs.map .val) us->us=vs
 |[],us,h=>by simpa [RepL] using h
 |v::vs,us,h=>by
  simp only [zmp,RepL] at h
  obtain ⟨u,us',rfl,h1,h2⟩:=h
  rw [aeF h2,aK h1]
theorem atE (g:G):∀(vs:List Value),RepL g (vs.map .val) vs
 |[]=>by simp [RepL]
 |v::vs=>by simp only [zmp,RepL];exact ⟨v,vs,rfl,by simp [Rep],atE g vs⟩
theorem qR (htt:bC P tt) {kt:TypeId} {K:Type} [DecidableEq K] (vals:K->List Value) {fs:List (TypeId×Nat)} (hT:tiK tt kt=some (.struct fs)) (hc:aeY tt kt=true) (hk:∀k,ckV tt 8 kt (.agg (vals k).toArray)=true)
  (he:∀a b,peq tt 8 kt ((vals a).map .val) ((vals b).map .val)=some (decide (a=b))) (hb:∀k,(vals k).all abD=true) (hcm:nB P 8 kt=true):KeyOK P kt (λk=> .agg (vals k).toArray) (λk=> .agg ((vals k).map .val)) where
 und:=by obtain ⟨fields,hu,_⟩:=dM (aP htt hT).1;simp [hu]
 chk k b w:=auE htt 8 10000 (by omega) kt _ (hk k)
 now kd _ a b:= .inl (by cases kd<;>rfl)
 eq a b w:=by
  obtain ⟨fields,hu,_⟩:=dM (aP htt hT).1
  have ha:bD P kt=true:=by simp [bD,hu]
  have g:G:=⟨#[],λ_=>none,λ_=>0,λ_=>False⟩
  exact kN htt (g:=g) 8 Op.maxDepth (by decide) kt _ _ _ _ _ (he a b) hcm (abQ (by simp only [Rep];exact ⟨_,rfl,atE g _⟩) ha) (abQ (by simp only [Rep];exact ⟨_,rfl,atE g _⟩) ha)
 rp k g v h:=by
  simp only [Rep] at h
  obtain ⟨vs,rfl,h⟩:=h
  rw [aeF h]
 bits k:=arJ (hb k)
end
section
variable {P:Program} {tt:TT} {l:List Oper} {d:Md} {r:List Oper} {s:St} {Kt:St->Prop} {t:Nat} {op:Op} {ty:TypeId} {pos:String} {after:Array Edge} {gd:Option (Nat×Bool)}
variable {K V:Type} [DecidableEq K] {kt:TypeId} {enc:K->Value} {rep:K->PV} {f:V->PV}
theorem lkM (pk:Pk P tt) (hk:KeyOK P kt enc rep) {T e:TypeId} {x y:Operand} {ok w:Bool} {id:Nat} {z:PV} {es:List (K×V)} {k:K} (hw:bF l ⟨some t, .lookup T x y ok,ty,pos,after,gd⟩ s=some w) (hx:opd s x=some (.mref id)) (hy:opd s y=some (rep k)) (hT:tiK tt T=some (.map kt e)) (hz:pzv tt e=some z) (hf:All (flagsI s w [x,y] [])) (hd:Nat.blt t s.n=true)
  (hst:s.st id=some (.map (aY enc f es))) (ht:tT d l r=true) (kk:Ev P l d r (s.put (some t) w (.pv (mX z f ok (dK k es)))) Kt):Ev P l d (⟨some t, .lookup T x y ok,ty,pos,after,gd⟩::r) s Kt:=
 oT hw (λ_=>adE pk.htt hk rfl hx hst hy hT hz) (λz hz=>aR (λ_ _ _ e=>by cases e) hz) (flagsI.g hf).1 hd ht kk
theorem auD (pk:Pk P tt) (hk:KeyOK P kt enc rep) {T e:TypeId} {x y:Operand} {ok w:Bool} {id:Nat} {z:PV} {es:List (K×V)} {k:K} (hw:bF l ⟨some t, .lookup T x y ok,ty,pos,after,gd⟩ s=some w) (hx:opd s x=some (.mref id)) (hy:opd s y=some (rep k)) (hT:tiK tt T=some (.map kt e)) (hz:pzv tt e=some z) (hf:All (flagsI s w [x,y] [])) (hd:Nat.blt t s.n=true)
  (hst:s.st id=some (.map (aY enc f es))) (ht:tT d l r=true) (k1:∀v,dK k es=some v->Ev P l d r (s.put (some t) w (.pv (bif ok then .tup [f v, .val (.bool true)] else f v))) Kt) (k2:dK k es=none->Ev P l d r (s.put (some t) w (.pv (bif ok then .tup [z, .val (.bool false)] else z))) Kt):Ev P l d (⟨some t, .lookup T x y ok,ty,pos,after,gd⟩::r) s Kt:=by
 refine lkM pk hk hw hx hy hT hz hf hd hst ht ?_
 cases h:dK k es with
 |some v=>exact k1 v h
 |none=>exact k2 h
theorem muA (pk:Pk P tt) (hk:KeyOK P kt enc rep) {T e:TypeId} {m y z:Operand} {id:Nat} {es:List (K×V)} {k:K} {v:V} (hop:op= .insert T m y z\/op= .mapUpdate T m y z) (hm:opd s m=some (.mref id)) (hy:opd s y=some (rep k)) (hz:opd s z=some (f v)) (hT:tiK tt T=some (.map kt e)) (hf:bK s [m,y,z]=true)
  (hst:s.st id=some (.map (aY enc f es))) (ht:hY d l r=true) (kk:Ev P l d r (s.sst (upd s.st id (some (.map (aY enc f (cX k v es)))))) Kt):Ev P l d (⟨none,op,ty,pos,after,none⟩::r) s Kt:=by
 refine dD (adK pk.htt hk hop hm hy hz hT hst) (λz hz=>aR (λ_ _ _ e=>by rcases hop with rfl|rfl<;>cases e) hz) ?_ rfl ht λz hz=>by subst hz;exact kk
 rcases hop with rfl|rfl<;>exact hf
theorem meA (pk:Pk P tt) (hk:KeyOK P kt enc rep) {T e:TypeId} {m y:Operand} {id:Nat} {es:List (K×V)} {k:K} {z:V} (hm:opd s m=some (.mref id)) (hy:opd s y=some (rep k)) (hT:tiK tt T=some (.map kt e)) (hz:pzv tt e=some (f z)) (hf:bK s [m,y]=true) (hd:Nat.blt t s.n=true)
  (hst:s.st id=some (.map (aY enc f es))) (ht:hY d l r=true) (kk:Ev P l d r ((s.sst (upd s.st id (some (.map (aY enc f (oE k z es)))))).pv t (.tup [f ((dK k es).getD z), .val (.int .i64 (mG k es:Nat))])) Kt):Ev P l d (⟨some t, .mapEntry T m y,ty,pos,after,none⟩::r) s Kt:=
 dD (xV pk.htt hk hm hy hT hz hst) (λz hz=>aR (λ_ _ _ e=>by cases e) hz) hf hd ht λz hz=>by subst hz;exact kk
theorem aeP (k:K) (z v:V):∀(es:List (K×V)),∃v0,(oE k z es)[mG k es]?=some (k,v0)/\(oE k z es).set (mG k es) (k,v)=cX k v es:=by
 intro es
 unfold oE mG
 cases h:mE k es with
 |none=>exact ⟨z,by simp,by rw [(kM h).2 v];simp⟩
 |some j=>
  obtain ⟨v0,h1,_,h3⟩:=jZ h
  exact ⟨v0,by simpa using h1,by rw [h3 v];simp⟩
theorem esA (pk:Pk P tt) (_hk:KeyOK P kt enc rep) {T:TypeId} {m y z:Operand} {id:Nat} {es:List (K×V)} {k:K} {z0 v:V} (hm:opd s m=some (.mref id)) (hy:opd s y=some (.val (.int .i64 (mG k es:Nat)))) (hz:opd s z=some (f v)) (hf:bK s [m,y,z]=true)
  (hst:s.st id=some (.map (aY enc f (oE k z0 es)))) (ht:hY d l r=true) (kk:Ev P l d r (s.sst (upd s.st id (some (.map (aY enc f (cX k v es)))))) Kt):Ev P l d (⟨none, .entryStore T m y z,ty,pos,after,none⟩::r) s Kt:=by
 obtain ⟨v0,h1,h2⟩:=aeP k z0 v es
 refine dD (tU (enc:=enc) hm hy rfl hz h1 hst) (λz hz=>aR (λ_ _ _ e=>by cases e) hz) hf rfl ht λz hz=> ?_
 subst hz
 rw [h2]
 exact kk
theorem mkM {K V:Type} {enc:K->Value} {f:V->PV} {T:TypeId} (hd:Nat.blt t s.n=true) (kk:∀id,s.st id=none->Ev P l .seq r ((s.sst (upd s.st id (some (.map (aY enc f []))))).pv t (.mref id)) Kt):Ev P l .seq (⟨some t, .makeMap T none,ty,pos,after,none⟩::r) s Kt:=
 xF hd kk
def rP (s:St) (l:List Oper):List Oper->Nat->List Nat
 |[],_=>[]
 |o::r,k=>match o.op with
  | .store _ x _=>bif anR s l 5 x then k::rP s l r (k+1) else rP s l r (k+1)
  | .mapEntry .. | .entryStore .. | .mapUpdate .. | .insert .. =>k::rP s l r (k+1)
  | .call ⟨.builtin .append,_,_⟩=>k::rP s l r (k+1)
  |_=>rP s l r (k+1)
def aAD (s:St) (l:List Oper) (x:Operand):Bool:=
 match x with
 | .tmp u=>match aeA u l with
  |some (.load _ _)=>true
  |_=>aBX s l x
 |_=>false
def rV (s:St) (l:List Oper):List Oper->Nat->List Nat
 |[],_=>[]
 |o::r,k=>match o.op with
  | .load _ x=>bif anR s l 5 x then k::rV s l r (k+1) else rV s l r (k+1)
  | .lookup _ x _ _=>bif aAD s l x then k::rV s l r (k+1) else rV s l r (k+1)
  |_=>rV s l r (k+1)
def aCg (s:St) (l:List Oper):Option (List Nat×List Nat):=qH (rP s l l 0) λz=>qH (rV s l l 0) λr=>some (z,r)
theorem wDm (pk:Pk P tt) {id:Nat} {ops:Array Oper} {k:List Fr} {Q:Exit->St->Prop} {a b g:Prop} {z rd:List Nat} (_hz:aCg s ops.toList=some (z,rd)) (hl:ahV ops.toList (.draw z rd)=true) (hF:wO ops.toList s=true) (h:yB P tt ops.toList (.draw z rd) ops.toList s k Q= .mk a b g) (ha:a) (hb:b) (hg:g):PWp P (.region id ops true) (dR P k Q) s:=goD pk hl hF h ha hb hg
end
end
section
section
variable {P:Program} {tt:TT}
theorem wX {g:G} {b sz:Nat}:∀(n off:Nat) (cs:List PV),cs.length=n*sz->RepA g b off cs->RepR g b off sz (jB sz n cs)
 |0,_,_,_,_=>by simp [jB,RepR]
 |n+1,off,cs,hl,h=>by
  have e:(n+1)*sz=n*sz+sz:=by rw [Nat.add_mul];omega
  simp only [jB,RepR]
  exact ⟨by rw [zlt];omega,RepA.take sz h,wX n (off+sz) (cs.drop sz) (by rw [zld];omega) (RepA.drop sz h)⟩
theorem acD (htt:bC P tt) {o:Oper} {s:St} {T e n sz:Nat} {x:Operand} {cs:List PV} {rows:List (List PV)} (ho:o.op= .slice T x none none none) (hx:opd s x=some (.rp cs)) (hk:tiK tt T=some (.arr n e)) (hs:aO tt e=some sz) (hl:cs.length=n*sz) (h62:n<4611686018427387904) (hr:jB sz n cs=rows):OpV P o s (.seq rows):=by
 subst hr
 refine aM λw g ρ _ hρ=> ?_
 have rx:=hρ x (by rw [ho];simp [Op.operands]) _ hx
 simp only [Rep] at rx
 obtain ⟨b,off,ex,rx⟩:=rx
 have hu:=pK (aP htt hk).1
 have hc:=(oX sz n cs hl).2.1
 refine ⟨.slice (some ⟨b,off,none⟩) n n, ?_, ?_⟩
 ·simp only [execOp,ho,Instr.sliceAt,ex,Instr.sureAddr,Instr.sliceBounds,Sem.run_bind,Sem.run_pure,Result.andThen_ok,run_underlying hu,Option.map_none,aX (aN htt hs).1,Nat.sub_zero]
  by_cases h0:n=0
  ·subst h0;simp
  ·simp [h0,cE]
 ·unfold Rep
  exact ⟨_,n,by rw [hc],by rw [hc];exact Nat.le_refl _,by rw [hc];exact h62, .inr ⟨b,off,sz,rfl,wX n off cs hl rx⟩⟩
theorem RepR.drop {g:G} {b sz:Nat}:∀{rows:List (List PV)} {off:Nat} (k:Nat),RepR g b off sz rows->RepR g b (off+k*sz) sz (rows.drop k)
 |_,_,0,h=>by simpa using h
 |[],_,k+1,_=>by simp [RepR]
 |c::cs,off,k+1,h=>by
  simp only [RepR] at h
  have:=RepR.drop k h.2.2
  rw [show off+(k+1)*sz=off+sz+k*sz from by rw [Nat.add_mul];omega]
  simpa using this
theorem RepR.take {g:G} {b sz:Nat}:∀{rows:List (List PV)} {off:Nat} (k:Nat),RepR g b off sz rows->RepR g b off sz (rows.take k)
 |_,_,0,_=>by simp [RepR]
 |[],_,k+1,_=>by simp [RepR]
 |c::cs,off,k+1,h=>by
  simp only [RepR] at h
  simp only [List.take_succ_cons,RepR]
  exact ⟨h.1,h.2.1,RepR.take k h.2.2⟩
def bnd (s:St) (y:Option Operand) (dflt:Nat) (j:Nat):Prop:=
 match y with
 |none=>j=dflt
 |some y=>∃k n,opd s y=some (.val (.int k n))/\n=(j:Int)
theorem cC {s:St} {j:Nat}:bnd s none j j:=rfl
theorem bL {s:St} {y:Operand} {d j:Nat} {k:IntKind} {n:Int} (h:opd s y=some (.val (.int k n))) (hn:n=(j:Int)):bnd s (some y) d j:=⟨k,n,h,hn⟩
theorem mI {w:World} {k:IntKind} {j y:Nat} {c:BoundsCode} (h:j<=y):(Instr.sliceBound (.int k (j:Int)) y c).run P w= .ok j w:=by
 simp only [Instr.sliceBound,asIntOf,Sem.run_bind,Sem.run_pure,Result.andThen_ok]
 rw [zp ⟨by omega,by omega⟩]
 simp
theorem fZ {w:World} {g:G} {s:St} {ρ:Operand->Value} {lo hi:Option Operand} {i j len cap:Nat} {sl:Bool} (hlo:bnd s lo 0 i) (hhi:bnd s hi len j) (hρ:∀y,lo=some y\/hi=some y->fP g s y (ρ y)) (hij:i<=j) (hj:j<=cap):
  (Instr.sliceBounds sl len cap (lo.map ρ) (hi.map ρ) none).run P w= .ok (i,j,cap) w:=by
 have hh:∀y,hi=some y->∃k,ρ y= .int k (j:Int):=λy e=>by
  subst e
  obtain ⟨k,n,h1,h2⟩:=hhi
  exact ⟨k,by rw [aK (hρ y (.inr rfl) _ h1),h2]⟩
 have hl:∀y,lo=some y->∃k,ρ y= .int k (i:Int):=λy e=>by
  subst e
  obtain ⟨k,n,h1,h2⟩:=hlo
  exact ⟨k,by rw [aK (hρ y (.inl rfl) _ h1),h2]⟩
 have s1:∀{k:IntKind} {c:BoundsCode} {w:World},(Instr.sliceBound (.int k (i:Int)) j c).run P w= .ok i w:=mI hij
 have s2:∀{k:IntKind} {c:BoundsCode} {w:World},(Instr.sliceBound (.int k (j:Int)) cap c).run P w= .ok j w:=mI hj
 unfold Instr.sliceBounds
 cases lo with
 |none=>
  have e1:i=0:=hlo
  cases hi with
  |none=>
   have e2:j=len:=hhi
   simp [e1,e2]
  |some y=>obtain ⟨k,e⟩:=hh y rfl;simp only [Option.map_some,Option.map_none,e,Sem.run_bind,Sem.run_pure,Result.andThen_ok,s2,e1]
 |some x=>
  obtain ⟨k1,e1⟩:=hl x rfl
  cases hi with
  |none=>
   have e2:j=len:=hhi
   subst e2
   simp only [Option.map_some,Option.map_none,e1,Sem.run_bind,Sem.run_pure,Result.andThen_ok,s1]
  |some y=>obtain ⟨k,e⟩:=hh y rfl;simp only [Option.map_some,e,e1,Sem.run_bind,Sem.run_pure,Result.andThen_ok,s2,s1]
theorem abX (htt:bC P tt) {o:Oper} {s:St} {T e i j sz:Nat} {x:Operand} {lo hi:Option Operand} {p:PV} {rows:List (List PV)} (ho:o.op= .slice T x lo hi none) (hx:opd s x=some p) (hp:eK p=some rows) (hk:tiK tt T=some (.slice e)) (hs:aO tt e=some sz) (hlen:∀r∈rows,r.length=sz) (hlo:bnd s lo 0 i) (hhi:bnd s hi rows.length j) (hij:i<=j) (hj:j<=rows.length):
  OpV P o s (.seq ((rows.drop i).take (j-i))):=by
 refine aM λw g ρ _ hρ=> ?_
 have rx:=lW hp (hρ x (by rw [ho];simp [Op.operands]) _ hx)
 have hb:∀y,lo=some y\/hi=some y->fP g s y (ρ y):=λy hy=>hρ y (by rw [ho];rcases hy with rfl|rfl<;>simp [Op.operands])
 simp only [Rep] at rx
 obtain ⟨a,cap,ex,h1,h2,h4⟩:=rx
 have hu:=bP (aP htt hk).1
 have hrun:=fZ (P:=P) (w:=w) (sl:=true) (len:=rows.length) (cap:=cap) hlo hhi hb hij (by omega)
 have hlt:((rows.drop i).take (j-i)).length=j-i:=by simp;omega
 refine ⟨.slice (if cap=i then a else a.map (·.add (i*sz))) (j-i) (cap-i), ?_, ?_⟩
 ·simp only [execOp,ho,Instr.sliceAt,Instr.slice,ex,Sem.run_bind,Sem.run_pure,Result.andThen_ok,run_underlying hu,aX (aN htt hs).1,Option.map_none,hrun]
 ·unfold Rep
  refine ⟨_,cap-i,by rw [hlt],by omega,by omega, ?_⟩
  rcases h4 with h4|⟨b,off,sz',rfl,hR⟩
  ·subst h4;left;simp
  ·by_cases hn:j-i=0
   ·left;rw [hn];simp
   ·right
    have hsz:sz'=sz:=by
     have hi:i<rows.length:=by omega
     have h1:=(hR.get (zgg hi)).1
     rw [<-h1,hlen _ (zgm hi)]
    subst hsz
    rw [zn (by omega)]
    exact ⟨b,off+i*sz',sz',by simp [cE],RepR.take _ (RepR.drop _ hR)⟩
theorem abV (htt:bC P tt) {o:Oper} {s:St} {T i j:Nat} {x:Operand} {lo hi:Option Operand} {b:ByteArray} (ho:o.op= .slice T x lo hi none) (hx:opd s x=some (.val (.string b))) (hk:tiK tt T=some .str) (hlo:bnd s lo 0 i) (hhi:bnd s hi b.size j) (hij:i<=j) (hj:j<=b.size):
  OpV P o s (.val (.string (b.extract i j))):=by
 refine aM λw g ρ _ hρ=> ?_
 have ex:=aK (hρ x (by rw [ho];simp [Op.operands]) _ hx)
 have hb:∀y,lo=some y\/hi=some y->fP g s y (ρ y):=λy hy=>hρ y (by rw [ho];rcases hy with rfl|rfl<;>simp [Op.operands])
 have hu:=jQ (aP htt hk).1
 have hrun:=fZ (P:=P) (w:=w) (sl:=false) (len:=b.size) (cap:=b.size) hlo hhi hb hij hj
 refine ⟨.string (b.extract i j), ?_,by simp [Rep]⟩
 simp only [execOp,ho,Instr.sliceAt,Instr.slice,ex,Sem.run_bind,Sem.run_pure,Result.andThen_ok,run_underlying hu,Option.map_none,Option.isSome_none,Bool.false_eq_true,if_false,hrun]
end
section
variable {P:Program} {tt:TT} {l:List Oper} {d:Md} {r:List Oper} {s:St} {K:St->Prop} {t:Nat} {op:Op} {ty:TypeId} {pos:String} {after:Array Edge} {gd:Option (Nat×Bool)}
theorem slA (pk:Pk P tt) {T e n sz:Nat} {x:Operand} {w:Bool} {cs:List PV} {rows:List (List PV)} (hw:bF l ⟨some t, .slice T x none none none,ty,pos,after,gd⟩ s=some w) (hx:opd s x=some (.rp cs)) (hk:tiK tt T=some (.arr n e)) (hs:aO tt e=some sz) (hl:Nat.beq cs.length (n*sz)=true) (h62:Nat.blt n 4611686018427387904=true) (hr:jB sz n cs=rows) (hf:All (flagsI s w [x] [])) (hd:Nat.blt t s.n=true) (ht:cI d l r=true)
  (k:Ev P l d r (s.put (some t) w (.pv (.seq rows))) K):Ev P l d (⟨some t, .slice T x none none none,ty,pos,after,gd⟩::r) s K:=
 cN hw (λ_ st'=>acD (s:=s.sst st') pk.htt rfl ((cA x).trans hx) hk hs (Nat.eq_of_beq_eq_true hl) (Nat.le_of_ble_eq_true h62) hr) (λz hz=>aR (λ_ _ _ e=>by cases e) hz) (flagsI.g hf).1 hd ht k
theorem gG {st':aD} {y:Option Operand} {dd j:Nat} (h:bnd s y dd j):bnd (s.sst st') y dd j:=by
 cases y with
 |none=>exact h
 |some y=>obtain ⟨k,n,h1,h2⟩:=h;exact ⟨k,n,(cA y).trans h1,h2⟩
theorem slS (pk:Pk P tt) {α:Type} {f:α->List PV} {xs:List α} {T e sz:Nat} (i j:Nat) {x:Operand} {lo hi:Option Operand} {w:Bool} {p:PV} (hw:bF l ⟨some t, .slice T x lo hi none,ty,pos,after,gd⟩ s=some w) (hx:opd s x=some p) (hp:eK p=some (xs.map f)) (hk:tiK tt T=some (.slice e)) (hs:aO tt e=some sz) (hf:All (flagsI s w (opl (.slice T x lo hi none)) [])) (hd:Nat.blt t s.n=true) (hlen:∀a,(f a).length=sz)
  (hlo:w=true->bnd s lo 0 i) (hhi:w=true->bnd s hi xs.length j) (hij:w=true->i<=j) (hj:w=true->j<=xs.length) (ht:cI d l r=true)
  (k:Ev P l d r (s.put (some t) w (.pv (.seq (((xs.drop i).take (j-i)).map f)))) K):Ev P l d (⟨some t, .slice T x lo hi none,ty,pos,after,gd⟩::r) s K:=by
 rw [List.map_take,List.map_drop] at k
 exact cN hw (λhw' st'=>abX (s:=s.sst st') pk.htt rfl ((cA x).trans hx) hp hk hs (λr hr=>by obtain ⟨a,_,rfl⟩:=List.mem_map.1 hr;exact hlen a) (gG (hlo hw')) (by rw [zql];exact gG (hhi hw')) (hij hw') (by rw [zql];exact hj hw')) (λz hz=>aR (λ_ _ _ e=>by cases e) hz) (flagsI.g hf).1 hd ht k
theorem slT (pk:Pk P tt) {T:Nat} (i j:Nat) {x:Operand} {lo hi:Option Operand} {w:Bool} {b:ByteArray} (hw:bF l ⟨some t, .slice T x lo hi none,ty,pos,after,gd⟩ s=some w) (hx:opd s x=some (.val (.string b))) (hk:tiK tt T=some .str) (hf:All (flagsI s w (opl (.slice T x lo hi none)) [])) (hd:Nat.blt t s.n=true)
  (hlo:w=true->bnd s lo 0 i) (hhi:w=true->bnd s hi b.size j) (hij:w=true->i<=j) (hj:w=true->j<=b.size) (ht:cI d l r=true)
  (k:Ev P l d r (s.put (some t) w (.pv (.val (.string (b.extract i j))))) K):Ev P l d (⟨some t, .slice T x lo hi none,ty,pos,after,gd⟩::r) s K:=
 cN hw (λhw' st'=>abV (s:=s.sst st') pk.htt rfl ((cA x).trans hx) hk (gG (hlo hw')) (gG (hhi hw')) (hij hw') (hj hw')) (λz hz=>aR (λ_ _ _ e=>by cases e) hz) (flagsI.g hf).1 hd ht k
def azT :List Oper->Bool
 |⟨_, .slice _ _ _ _ _,_,_,_,_⟩::_=>true
 |_=>false
theorem aAw (u:Nat) {id:Nat} {ops:Array Oper} {dr:Bool} {Q:Exit->St->Prop} {T:TypeId} {cs:List PV} (_h:azT ops.toList=true) (hx:s.env u=(true, .adr u 0)) (hL:s.L u=some (T,cs)) (k:PWp P (.region id ops dr) Q (s.frozen u cs)):PWp P (.region id ops dr) Q s:=lF u hx hL k
end
end
section
section
variable {P:Program} {tt:TT} {l:List Oper} {d:Md} {r:List Oper} {s:St} {K:St->Prop} {t:Nat} {op:Op} {ty:TypeId} {pos:String} {after:Array Edge} {gd:Option (Nat×Bool)}
variable {α:Type} {f:α->List PV}
theorem apV (pk:Pk P tt) {xs:List α} (ys:List α) {T T2 e:TypeId} {x y:Operand} {id n sz:Nat} {p:PV} (B:Nat) (hx:opd s x=some (.vec id sz 0 n)) (hy:opd s y=some p) (hp:eK p=some (ys.map f)) (hk:tiK tt T=some (.slice e)) (hk2:cG tt T2=true) (hs:aO tt e=some sz) (hz:(tiZ tt e).map List.length=some sz) (hf:bK s [x,y]=true) (hd:Nat.blt t s.n=true)
  (hst:s.st id=some (.arr e (xs.map f))) (hn:xs.length=n) (hl:∀a,(f a).length=sz) (h1:∀a,(f a).all PV.one=true) (hB:P.bytesOf e=B) (hb:(n+ys.length)*B<=140737488355328) (h62:n+ys.length<4611686018427387904) (ht:hY d l r=true)
  (k:∀id',s.st id'=none->Ev P l d r ((s.sst (upd (upd s.st id none) id' (some (.arr e ((xs++ys).map f))))).pv t (.vec id' sz 0 (n+ys.length))) K):Ev P l d (⟨some t, .call ⟨.builtin .append, #[x,y], #[T,T2]⟩,ty,pos,after,none⟩::r) s K:=by
 refine dD (agF pk.htt B hx (by rw [zql];exact hn) hy hp hk hk2 hs hz hst (λr hr=>by obtain ⟨a,_,rfl⟩:=List.mem_map.1 hr;exact hl a) (λr hr=>by obtain ⟨a,_,rfl⟩:=List.mem_map.1 hr;exact h1 a) hB (by rw [zql,zql,hn];exact hb) (by rw [zql,zql,hn];exact h62)) (λz hz=>aR (λ_ _ _ e=>by cases e) hz) hf hd ht λz hz=> ?_
 obtain ⟨id',h,rfl⟩:=hz
 have:=k id' h
 rw [List.map_append] at this
 simp only [zql,hn]
 exact this
theorem ap0 (pk:Pk P tt) (ys:List α) {T T2 e:TypeId} {x y:Operand} {sz:Nat} {q p:PV} (B:Nat) (hx:opd s x=some q) (hq:isEmp q=true) (hy:opd s y=some p) (hp:eK p=some (ys.map f)) (hk:tiK tt T=some (.slice e)) (hk2:cG tt T2=true) (hs:aO tt e=some sz) (hz:(tiZ tt e).map List.length=some sz) (hf:bK s [x,y]=true) (hd:Nat.blt t s.n=true)
  (hl:∀a,(f a).length=sz) (h1:∀a,(f a).all PV.one=true) (hB:P.bytesOf e=B) (hb:ys.length*B<=140737488355328) (h62:ys.length<4611686018427387904) (ht:hY d l r=true)
  (k:∀id',s.st id'=none->Ev P l d r ((s.sst (upd s.st id' (some (.arr e (ys.map f))))).pv t (.vec id' sz 0 ys.length)) K):Ev P l d (⟨some t, .call ⟨.builtin .append, #[x,y], #[T,T2]⟩,ty,pos,after,none⟩::r) s K:=by
 refine dD (adS pk.htt B hx hq hy hp hk hk2 hs hz (λr hr=>by obtain ⟨a,_,rfl⟩:=List.mem_map.1 hr;exact hl a) (λr hr=>by obtain ⟨a,_,rfl⟩:=List.mem_map.1 hr;exact h1 a) hB (by rw [zql];exact hb) (by rw [zql];exact h62)) (λz hz=>aR (λ_ _ _ e=>by cases e) hz) hf hd ht λz hz=> ?_
 obtain ⟨id',h,rfl⟩:=hz
 have:=k id' h
 simp only [zql]
 exact this
end
section
variable {P:Program} {tt:TT}
def LR (T sz:Nat) (st:aD) (rows:List (List PV)) (p:PV) (st':aD):Prop:=
 (∃id,p= .vec id sz 0 rows.length/\st id=none/\st' id=some (.arr T rows)/\StSub st (upd st' id none))\/(isEmp p=true/\rows=[]/\StSub st st')
theorem Wk.isEmp {p:PV} (h:isEmp p=true):Wk p (.seq []):=λg v hr=>by
 obtain ⟨a,rfl⟩:=nI h hr
 unfold Rep
 exact ⟨a,0,rfl,by simp,by simp, .inl rfl⟩
theorem eZ {f:FuncId} {args:List PV} {st:aD} {R R':PV->aD->Prop} {sz:Nat} (h:PC P f args st R)
  (hr:∀p st',R p st'->(∃id T rows q st2,st' id=some (.arr T rows)/\P.cellsOf T=sz/\Fz id sz rows p q/\StSub st2 (upd st' id none)/\R' q st2)\/∃q st2,Wk p q/\StSub st2 st'/\R' q st2):PC P f args st R':=
 ⟨h.1,λw g vs hm hv=>(h.2 w g vs hm hv).mono λe w' ⟨v,r,st',g',h1,h2,h3,h4,h5,h6,h7⟩=>by
  rcases hr _ _ h2 with ⟨id,T,rows,q,st2,k1,k2,k3,k4,k5⟩|⟨q,st2,k1,k2,k3⟩
  ·obtain ⟨g'',m1,m2,m3,m4,m5,m6⟩:=vD h4 k1 k2
   refine ⟨v,q,st2,g'',h1,k5,Fz.rep m3 k3 _ (Rep.mono m2 _ _ h3),m1.sub k4,h5.trans m2,⟨h6.os,h6.tape,h6.output,h6.size,λb hb hn=> ?_⟩,λb hb=> ?_⟩
   ·obtain ⟨f1,f2,f3⟩:=h6.old b hb hn
    have hnb:¬Blocks st' g' b:=λhb'=>by
     rcases h7 b hb' with h'|h'
     ·exact hn h'
     ·omega
    obtain ⟨q1,q2⟩:=m5 b hnb
    exact ⟨f1,q1.trans f2,q2.trans f3⟩
   ·obtain ⟨j,j1,j2⟩:=hb.sub k4
    exact h7 b ⟨j,(dQ j1).2,by rw [<-m6];exact j2⟩
  ·exact ⟨v,q,st2,g',h1,k3,k1 _ _ h3,h4.sub k2,h5,h6,λb hb=>h7 b (hb.sub k2)⟩⟩
theorem azW {f:FuncId} {args:List PV} {T sz:Nat} {rows:List (List PV)} (hT:P.cellsOf T=sz) (h:∀st,PC P f args st (LR T sz st rows)):PF P f args (.seq rows):=λst=>
 eZ (sz:=sz) (h st) λp st' hR=>by
  rcases hR with ⟨id,e,h1,h2,h3⟩|⟨e,h1,h2⟩
  ·exact .inl ⟨id,T,rows, .seq rows,st,h2,hT,e▸ .all,h3,rfl,rfl⟩
  ·exact .inr ⟨.seq rows,st,h1▸Wk.isEmp e,h2,rfl,rfl⟩
end
section
variable {P:Program} {tt:TT} {l:List Oper} {d:Md} {r:List Oper} {s:St} {K:St->Prop} {t:Nat} {op:Op} {ty:TypeId} {pos:String} {after:Array Edge} {gd:Option (Nat×Bool)}
variable {α:Type} {f:α->List PV} {g:α->PV} {sz:Nat}
theorem ldL (pk:Pk P tt) {T:TypeId} (he:Elem tt T f g sz) {x:Operand} {id j:Nat} {w:Bool} {xs:List α} {a:α} (hw:bF l ⟨some t, .load T x,ty,pos,after,gd⟩ s=some w) (hx:opd s x=some (.el id sz j 0)) (hf:All (flagsI s w [x] [])) (hd:Nat.blt t s.n=true)
  (hst:s.st id=some (.arr T (xs.map f))) (hj:w=true->xs[j]?=some a) (ht:tT d l r=true) (k:Ev P l d r (s.put (some t) w (.pv (g a))) K):Ev P l d (⟨some t, .load T x,ty,pos,after,gd⟩::r) s K:=
 oT hw (λhw'=>oQ pk.htt rfl hx hst he.size (by rw [List.getElem?_map,hj hw'];rfl) (he.ld _)) (λz hz=>aR (λ_ _ _ e=>by cases e) hz) (flagsI.g hf).1 hd ht k
end
theorem aaR {P:Program} {tt:TT} (htt:bC P tt) {s:St} {t:Nat} {T T2 ty:TypeId} {pos:String} {after:Array Edge} {x:Operand} {p:PV} {rows:List (List PV)} (hx:opd s x=some p) (hp:eK p=some rows) (hT:cG tt T=true):
  OpZ P ⟨some t, .binOp .eql T x (.const (.slice none 0 0)) T2,ty,pos,after,none⟩ s λz=>∃b,z=(s.st, .val (.bool b))/\(b=true->rows=[]):=by
 intro w g ρ hm hρ
 have rx:=lW hp (hρ x (by simp [Op.operands]) _ hx)
 have ry:=aK (hρ (.const (.slice none 0 0)) (by simp [Op.operands]) (.val (.slice none 0 0)) rfl)
 simp only [Rep] at rx
 obtain ⟨a,cap,ex,_,_,h4⟩:=rx
 obtain ⟨e,hu⟩:∃e,P.underlying T=some (.slice e):=by
  unfold cG at hT
  split at hT
  ·rename_i e he;exact ⟨e,bP (aP htt he).1⟩
  ·cases hT
 have hrun:(execOp ρ (⟨some t, .binOp .eql T x (.const (.slice none 0 0)) T2,ty,pos,after,none⟩:Oper)).run P w= .ok (.value (.bool a.isNone)) w:=by
  refine dV rfl ?_ ?_
  ·rw [ex,ry];simp [eqGuard]
  ·rw [ex,ry]
   have e2:∀n l c,(Op.equalIn (n+1) T (.slice a l c) (.slice none 0 0)).run P w= .ok a.isNone w:=λn l c=>by
    rw [Op.equalIn]
    cases a<;>simp [run_underlying hu,Sem.run_bind]
   have e3:=e2 9999 rows.length cap
   show ((do pure (.bool (<-Op.equal T (.slice a rows.length cap) (.slice none 0 0))):Sem Value)).run P w=_
   simp only [Sem.run_bind,Op.equal]
   rw [show Op.maxDepth=9999+1 from rfl,e3]
   rfl
 rw [hrun]
 refine ⟨g,_,⟨a.isNone,rfl,λhb=> ?_⟩,by simp [Rep],hm,Le.refl g,Frame.refl _ w g,λb hb=> .inl hb⟩
 rcases h4 with h4|⟨b,off,sz,rfl,_⟩
 ·exact h4
 ·cases hb
theorem aDf {P:Program} {tt:TT} (pk:Pk P tt) {l:List Oper} {d:Md} {r:List Oper} {s:St} {K:St->Prop} {t:Nat} {ty:TypeId} {pos:String} {after:Array Edge} {T T2:TypeId} {x:Operand} {p:PV} {rows:List (List PV)} (hx:opd s x=some p) (hp:eK p=some rows) (hT:cG tt T=true) (hf:bK s [x, .const (.slice none 0 0)]=true) (hd:Nat.blt t s.n=true) (ht:hY d l r=true)
  (k:∀b,(b=true->rows=[])->Ev P l d r (s.pv t (.val (.bool b))) K):Ev P l d (⟨some t, .binOp .eql T x (.const (.slice none 0 0)) T2,ty,pos,after,none⟩::r) s K:=
 dD (aaR pk.htt hx hp hT) (λz hz=>aR (λ_ _ _ e=>by cases e) hz) hf hd ht λz hz=>by
  obtain ⟨b,rfl,hb⟩:=hz
  exact k b hb
end
section
section
variable {P:Program} {tt:TT}
def U8 (n:Int):List PV:=[.val (.int .u8 n)]
def tL (ns:List Int):ByteArray:=ns.foldl (λs n=>s.push (UInt8.ofNat n.toNat)) ByteArray.empty
theorem yL {g:G}:∀{ns:List Int} {vs:List Value},RepL g ((ns.map U8).flatten) vs->vs=ns.map (Value.int .u8)
 |[],vs,h=>by simpa [RepL] using h
 |n::ns,vs,h=>by
  simp only [zmp,U8,List.flatten_cons,List.cons_append,List.nil_append,RepL] at h
  obtain ⟨v,vs',rfl,h1,h2⟩:=h
  rw [aK h1,yL h2];rfl
theorem alL {F:Value->ByteArray->Sem (ForInStep ByteArray)} (hF:∀n r w,(F (.int .u8 n) r).run P w= .ok (.yield (r.push (UInt8.ofNat n.toNat))) w) {w:World}:∀(ns:List Int) (s:ByteArray),(forIn (ns.map (Value.int .u8)) s F:Sem ByteArray).run P w= .ok (ns.foldl (λs n=>s.push (UInt8.ofNat n.toNat)) s) w
 |[],s=>by simp
 |n::ns,s=>by
  have ih:=alL hF (w:=w) ns (s.push (UInt8.ofNat n.toNat))
  rw [zmp,List.forIn_cons]
  simp only [Sem.run_bind,hF,Result.andThen_ok]
  exact ih
theorem axU (htt:bC P tt) {o:Oper} {s:St} {T T2 e:TypeId} {x:Operand} {p:PV} {ns:List Int} (ho:o.op= .convert T T2 x) (hx:opd s x=some p) (hp:eK p=some (ns.map U8)) (hk:tiK tt T=some (.slice e)) (he:tiK tt e=some (.int .u8)) (h2:tiK tt T2=some .str):OpV P o s (.val (.string (tL ns))):=by
 refine aM λw g ρ hm hρ=> ?_
 have rx:=lW hp (hρ x (by rw [ho];simp [Op.operands]) _ hx)
 have hu:=bP (aP htt hk).1
 have hue:=lX (aP htt he).1
 have hu2:=jQ (aP htt h2).1
 refine ⟨.string (tL ns), ?_,by simp [Rep]⟩
 simp only [Rep] at rx
 obtain ⟨a,cap,ex,h3,h4,h5⟩:=rx
 have hnil:ns=[]->(Conv.bytesToString (.slice a (ns.map U8).length cap)).run P w= .ok (.string (tL ns)) w:=λh=>by
  subst h
  cases a with
  |none=>simp [Conv.bytesToString,tL]
  |some a=>simp [Conv.bytesToString,tL,loadCells,loadCellsFrom]
 have hrun:(Conv.bytesToString (.slice a (ns.map U8).length cap)).run P w= .ok (.string (tL ns)) w:=by
  rcases h5 with h5|⟨b,off,sz,rfl,hR⟩
  ·exact hnil (by simpa using h5)
  ·by_cases h0:ns=[]
   ·exact hnil h0
   ·obtain ⟨vs,v1,v2,v3⟩:=hR.vals
    have hv:=yL v1
    subst hv
    have hsz:(ns.map (Value.int .u8)).length=(ns.map U8).length:=by simp
    have hl:=run_loadCells_list (P:=P) (w:=w) ⟨b,off,none⟩ (ns.map (Value.int .u8)) (λj v hj=>by rw [cE];exact iL hm (v3 j v hj).1)
    rw [hsz] at hl
    simp only [Conv.bytesToString,Sem.run_bind,hl,Result.andThen_ok]
    rw [<-Array.forIn_toList]
    rw [alL (P:=P) (w:=w) (λn r w=>by simp) ns ByteArray.empty]
    rfl
 simp only [execOp,ho,convert,ex,Sem.run_bind,run_underlying hu,run_underlying hu2,run_underlying hue,Result.andThen_ok,hrun,Sem.run_pure]
end
section
variable {P:Program} {tt:TT} {l:List Oper} {d:Md} {r:List Oper} {s:St} {K:St->Prop} {t:Nat} {op:Op} {ty:TypeId} {pos:String} {after:Array Edge} {gd:Option (Nat×Bool)}
theorem aDc (pk:Pk P tt) (ns:List Int) {T T2 e:TypeId} {x:Operand} {w:Bool} {p:PV} (hw:bF l ⟨some t, .convert T T2 x,ty,pos,after,gd⟩ s=some w) (hx:opd s x=some p) (hp:eK p=some (ns.map U8)) (hk:tiK tt T=some (.slice e)) (he:tiK tt e=some (.int .u8)) (h2:tiK tt T2=some .str) (hf:All (flagsI s w [x] [])) (hd:Nat.blt t s.n=true) (ht:cI d l r=true)
  (k:Ev P l d r (s.put (some t) w (.pv (.val (.string (tL ns))))) K):Ev P l d (⟨some t, .convert T T2 x,ty,pos,after,gd⟩::r) s K:=
 cN hw (λ_ st'=>axU (s:=s.sst st') pk.htt rfl ((cA x).trans hx) hp hk he h2) (λz hz=>aR (λ_ _ _ e=>by cases e) hz) (flagsI.g hf).1 hd ht k
end
section
variable {P:Program} {tt:TT} {l:List Oper} {d:Md} {r:List Oper} {s:St} {K:St->Prop} {t:Nat} {op:Op} {ty:TypeId} {pos:String} {after:Array Edge} {gd:Option (Nat×Bool)}
end
def LE (T sz:Nat) (st:aD) (rows:List (List PV)) (p:PV) (st':aD):Prop:=
 (∃id,p= .vec id sz 0 rows.length/\st'=upd st id (some (.arr T rows))/\st id=none)\/(p= .emp/\st'=st/\rows=[])
theorem auT {P:Program} {f:FuncId} {args:List PV} {st:aD} {R R':PV->aD->Prop} (h:PC P f args st R) (hr:∀p st',R p st'->∃q st2,Wk p q/\StSub st2 st'/\R' q st2):PC P f args st R':=
 eZ (sz:=0) h λp st' hR=> .inr (hr p st' hR)
theorem aCe {P:Program} {f:FuncId} {args:List PV} {st:aD} {T sz:Nat} {rows:List (List PV)} (h:PC P f args st (LR T sz st rows)):PC P f args st (LE T sz st rows):=
 auT h λp st' hR=>by
  rcases hR with ⟨id,e,h1,h2,h3⟩|⟨e,h1,h2⟩
  ·refine ⟨p,upd st id (some (.arr T rows)),zwr p,λj=> ?_, .inl ⟨id,e,rfl,h1⟩⟩
   by_cases hj:j=id
   ·right;rw [hj,aA,h2]
   ·rw [aC hj]
    rcases h3 j with h|h
    ·exact .inl h
    ·right;rw [h,aC hj]
  ·refine ⟨.emp,st,λg v hr=> ?_,h2, .inr ⟨rfl,rfl,h1⟩⟩
   obtain ⟨a,rfl⟩:=nI e hr
   simp only [Rep]
   exact ⟨a,rfl⟩
theorem SI.empV {P:Program} {c:Ctx} {s:St} {a:Act} {w:World} {g:G} {lam:Nat->Nat} (hs:SI P c s a w g lam) (t:Nat) (T sz:Nat) {q:PV} (hx:s.env t=(true, .pv q)) (hq:isEmp q=true) (hd:Nat.blt t s.n=true):
  ∃id g',s.st id=none/\SI P c ((s.sst (upd s.st id (some (.arr T [])))).pv t (.vec id sz 0 0)) a w g' lam:=by
 obtain ⟨id',g',f1,f2,f3,m1,m2,m3,m4⟩:=mO hs.mem T
 have hstep:=hs.step m1 m2 m3 m4
 have hn:t<s.n:=by simpa [Nat.blt_eq] using hd
 obtain ⟨b,hv⟩:∃b,a.tmps.getD t undef= .slice b 0 0:=by
  have:=hs.env t;rw [hx] at this
  exact nI hq this
 have hput:=hstep.put (d:=some t) (b:=true) (e:= .pv (.vec id' sz 0 0)) (v:= .slice b 0 0) (λz hz=>by cases hz;exact hn) (f3 sz b) (λ_ _ e=>by cases e)
 have ha:a.put (some t) (.slice b 0 0)=a:=by
  have hlt:t<a.tmps.size:=by rw [hs.n];exact hn
  have h2:a.tmps[t]= .slice b 0 0:=by simpa [hlt] using hv
  simp only [Act.put]
  cases a with
  |mk tmps defers=>
   simp only at h2 hlt⊢
   congr 1
   apply Array.ext
   ·simp
   ·intro i h1 h3
    by_cases hi:i=t
    ·subst hi;simp [h2]
    ·rw [Array.getElem_setIfInBounds_ne];exact Ne.symm hi
 rw [ha] at hput
 exact ⟨id',g',f2,hput⟩
theorem dU {P:Program} {cd:Code} {Q:Exit->St->Prop} {s:St} (t:Nat) (T sz:Nat) {q:PV} (hx:s.env t=(true, .pv q)) (hq:isEmp q=true) (hd:Nat.blt t s.n=true) (k:∀id,s.st id=none->PWp P cd Q ((s.sst (upd s.st id (some (.arr T [])))).pv t (.vec id sz 0 0))):PWp P cd Q s:=by
 intro c a w g lam hs
 obtain ⟨id,g',h1,h2⟩:=hs.empV t T sz hx hq hd
 exact k id h1 c a w g' lam h2
end
end Go.Abs
