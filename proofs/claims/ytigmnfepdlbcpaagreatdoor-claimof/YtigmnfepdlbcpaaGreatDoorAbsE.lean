import Derived.Laws.Bits64
import Derived.Test.YtigmnfepdlbcpaaGreatDoorAbsD
import Derived.KernelRfl
set_option linter.all false
namespace Go.Abs
open Go
variable{a b p:Prop}{i sl w:Bool}{A B:List Prop}{o:Oper}{Q:Exit->St->Prop}{id j off sz:Nat}{f m x y:Operand}{args caps cs ps:List PV}{e ty:TypeId}{rows:List (List PV)}{n:Int}{c h k:IntKind}{q z:PV}{key v:Value}{K α:Type}{st st':aD}{s:St}{lo:Option Operand}{R R':PV->aD->Prop}{P:Program}{pos:String}{after:Array Edge}{l r:List Oper}
section
inductive CallG (P:Program) (w:Bool) (f:FuncId) (ps cs:List PV) (G:PV->Prop) (z:Bool) (st:aD) (H:PV->aD->Prop):Prop
 |w (qs:List PV) {p:PV} (hq:WkL ps qs) (h:w=true->PF P f (qs++cs) p) (k:G p)
 |p (qs:List PV) {R:PV->aD->Prop} (hz:z=true) (hq:WkL ps qs) (h:PC P f (qs++cs) st R) (k:∀p st',R p st'->H p st')
inductive Cd
 |a (l:List Prop)
 |i (w f:Bool)
 |x (w x b f:Bool)
 |b (c:Bool) (x y:Prop)
 |s (s s2:St)
 |t (st2 st:aD)
 |e (q:Option PV) (st:aD) (r:PV) (st0:aD)
 |r (q:Option PV) (st:aD) (R:PV->aD->Prop)
 |c (P:Program) (w:Bool) (f:FuncId) (ps cs:List PV) (G:PV->Prop) (z:Bool) (st:aD) (H:PV->aD->Prop)
 |n (w:Bool) (rows:List (List PV)) (n:Int) (sz:Nat) (G:List PV->Prop)
def jV :List Prop->Prop
 |[]=>True
 |p::ps=>p/\jV ps
def Cd.says :Cd->Prop
 | .a l'=>jV l'
 | .i w' f'=>w'=true->f'=true
 | .x w' y' b' f'=>w'=true->y'=b'->f'=true
 | .b c' x' y'=>(c'=true->x')/\(c'=false->y')
 | .s s1 s2=>Sub s1 s2
 | .t st2 st=>StSub st2 st
 | .e q' st r' st0=>∃h k st2,q'=some h/\Wk h k/\StSub st2 st/\k=r'/\st2=st0
 | .r q' st R=>∃h k st2,q'=some h/\Wk h k/\StSub st2 st/\R k st2
 | .c P w' f' ps cs G z' st H=>CallG P w' f' ps cs G z' st H
 | .n w' rows n' sz G=>∃(j:Nat) (row:List PV),(w'=true->n'=j)/\(w'=true->rows[j]?=some row)/\(w'=true->row.length=sz)/\G row
inductive Cn :Cd->Prop
 |nil:Cn (.a [])
 |cons {p:Prop} {ps:List Prop} (h:p) (t:Cn (.a ps)):Cn (.a (p::ps))
 |one {w:Bool}:Cn (.i w true)
 |same {w:Bool}:Cn (.i w w)
 |left {w x b f:Bool} (h:Cn (.i w f)):Cn (.i (gw w x b) f)
 |xone {w x b:Bool}:Cn (.x w x b true)
 |xsame {w x:Bool}:Cn (.x w x true x)
 |xmk {w x b:Bool}:Cn (.x w x b (gw w x b))
 |xup {w x y c b f:Bool} (h:Cn (.x w x b f)):Cn (.x (gw w y c) x b f)
 |xold {w x b f:Bool} (h:Cn (.i w f)):Cn (.x w x b f)
 |bt {x y:Prop} (h:x):Cn (.b true x y)
 |bf {x y:Prop} (h:y):Cn (.b false x y)
 |bn {c:Bool} {x y:Prop} (h:Cn (.b c y x)):Cn (.b (!c) x y)
 |bd {p x y:Prop} [Decidable p] (h:p->x) (k:¬p->y):Cn (.b (decide p) x y)
 |bb {c:Bool} {x y:Prop} (h:c=true->x) (k:c=false->y):Cn (.b c x y)
 |spv {s s2:St} {t:Nat} {p q:PV} (h:Cn (.s s s2)) (e:s.env t=(true, .pv q)) (hq:q=p):Cn (.s s (s2.pv t p))
 |svar {s s2:St} {t:Nat} {T:TypeId} {cs ds:List PV} (h:Cn (.s s s2)) (e:s.env t=(true, .adr t 0)) (eL:s.L t=some (T,ds)) (hq:ds=cs):Cn (.s s (s2.var t T cs))
 |snil {s:St} {n:Nat} {st:aD} (h:Cn (.t st s.st)) (hn:(n,none)=(s.n,s.top)):Cn (.s s (St.nil n st))
 |t0 {st:aD}:Cn (.t st st)
 |ef {p r:PV} {st st0:aD} (e:p=r) (hs:st=st0):Cn (.e (some p) st r st0)
 |rr {p:PV} {st:aD} {R:PV->aD->Prop} (h:R p st):Cn (.r (some p) st R)
 |cf {P:Program} {w z:Bool} {f:FuncId} {ps cs:List PV} {G:PV->Prop} {st:aD} {H:PV->aD->Prop} {p:PV} (h:PF P f (ps++cs) p) (k:G p):Cn (.c P w f ps cs G z st H)
 |nm {α:Type} {f:α->List PV} {l:List α} {w:Bool} {j sz:Nat} {G:List PV->Prop} {a:α} (h:l[j]?=some a) (hl:(f a).length=sz) (k:G (f a)):Cn (.n w (l.map f) (j:Int) sz G)
 |any {c:Cd} (h:c.says):Cn c
abbrev All(l:List Prop):Prop:=Cn (.a l)
theorem All.nil :All []:=Cn.nil
theorem All.cons{ps:List Prop}(h:p)(t:All ps):All (p::ps):=Cn.cons h t
abbrev Imp(w f:Bool):Prop:=Cn (.i w f)
abbrev ImpX(w x b f:Bool):Prop:=Cn (.x w x b f)
theorem Cn.ok{c:Cd}(h:Cn c):c.says:=by
 induction h with
 |nil=>trivial
 |cons h _ ih=>trivial
 |one=>exactλ_=>rfl
 |same=>exactλh=>h
 |left _ ih=>exactλh=>ih (aCH h)
 |xone=>exactλ_ _=>rfl
 |xsame=>exactλ_ h=>h
 |xmk=>
  rename_i w x b;intro hw hx;subst hw;subst hx;cases x<;>rfl
 |xup _ ih=>exactλh=>ih (aCH h)
 |xold _ ih=>exactλhw _=>ih hw
 |bt h=>exact⟨λ_=>h,λe=>by cases e⟩
 |bf h=>exact⟨λe=>(by cases e),λ_=>h⟩
 |bn _ ih=>exact⟨λe=>ih.2 (by grind),λe=>ih.1 (by grind)⟩
 |bd h k=>exact⟨λe=>h (of_decide_eq_true e),λe=>k (of_decide_eq_false e)⟩
 |bb h k=>trivial
 |spv _ e hq ih=>exact ih.pv' e hq
 |svar _ e eL hq ih=>exact ih.var' e eL hq
 |snil _ hn ih=>exact Sub.nil _ _ _ ih hn
 |t0=>exact zsr _
 |ef e hs=>exact⟨_,_,_,rfl,zwr _,zsr _,e,hs⟩
 |rr h=>exact⟨_,_,_,rfl,zwr _,zsr _,h⟩
 |cf h k=>exact .w _ (WkL.refl _) (λ_=>h) k
 |nm h hl k=>exact⟨_,_,λ_=>rfl,λ_=>by simp[h],λ_=>hl,k⟩
 |any h=>exact h
theorem Imp.ok{f:Bool}(h:Imp w f):w=true->f=true:=Cn.ok h
theorem ImpX.ok{x b f:Bool}(h:ImpX w x b f):w=true->x=b->f=true:=Cn.ok h
def flagsI(s:St)(w:Bool):List Operand->List Prop->List Prop
 |[],A=>A
 |x::xs,A=>Imp w (kE s x)::flagsI s w xs A
theorem All.hd{ps:List Prop}(h:All (p::ps)):p:=(Cn.ok h).1
theorem All.tl{ps:List Prop}(h:All (p::ps)):All ps:= .any (Cn.ok h).2
theorem flagsI.g{s:St}{w:Bool}:∀{xs:List Operand}{A:List Prop},All (flagsI s w xs A)->lC s w xs/\All A
 |[],_,h=>⟨trivial,h⟩
 |_::_,_,h=>⟨⟨h.hd.ok,(flagsI.g h.tl).1⟩,(flagsI.g h.tl).2⟩
structure Out where
 s:St
 a:List Prop
 b:List Prop
def okD(s:St)(t:Nat)(o:Out):Option Out:=bif Nat.blt t s.n then some o else none
def aIu(op:BinOp)(s:St)(x y:Operand):Option (Int×Prop):=
 match opd s x,opd s y with
 |some (.val (.int .i64 a)),some (.val (.int .i64 b))=>match op with
  | .add=>some (a+b, -9223372036854775808<=a+b/\a+b<=9223372036854775807)
  | .sub=>some (a-b, -9223372036854775808<=a-b/\a-b<=9223372036854775807)
  | .mul=>some (a*b, -9223372036854775808<=a*b/\a*b<=9223372036854775807)
  | .quo=>some (a/b,(0<=a/\a<=9223372036854775807)/\0<b)
  | .rem=>some (a%b,(0<=a/\a<=9223372036854775807)/\0<b)
  |_=>none
 |_,_=>none
def aJB :BinOp->Bool
 | .add| .sub| .mul| .quo| .rem=>true
 |_=>false
def okF(s:St)(w a:Bool)(xs:List Operand)(t:Nat)(e:E)(A B:List Prop):Option Out:=
 match a with
 |true=>match bS s xs with
  |true=>okD s t ⟨s.put (some t) true e,A,B⟩
  |false=>none
 |false=>okD s t ⟨s.put (some t) w e,flagsI s w xs A,B⟩
def nW(tt:TT)(w a:Bool)(op:Op)(t:Nat)(s:St)(A B:List Prop):Option Out:=
 match ahS tt s op with
 |some p=>okF s w a (opl op) t (.pv p) A B
 |none=>none
def aCF(tt:TT)(w e:Bool)(op:Op)(t:Nat)(s:St)(A B:List Prop):Option Out:=
  match op with
  | .fieldAddr T (.tmp x) f=>match s.env x with
    |(_, .adr _ _)=>match aIy tt s (.fieldAddr T (.tmp x) f)with
      |some (_,u,off)=>okF s w e [.tmp x] t (.adr u off) A B
      |none=>none
    |_=>nW tt w e (.fieldAddr T (.tmp x) f) t s A B
  | .load T (.tmp x)=>match s.env x with
    |(_, .adr u off)=>match s.L u with
      |some (_,cs)=>match nJ tt T cs off with
        |some p=>okF s w e [.tmp x] t (.pv p) A B
        |none=>none
      |none=>none
    |_=>nW tt w e (.load T (.tmp x)) t s A B
  | .alloc T=>match e,s.ad t,aHO tt T with
    |true,false,some cs=>okD s t ⟨s.var t T cs,A,B⟩
    |_,_,_=>none
  | .box T x=>match e,s.ad t,kE s x,aEA s x with
    |true,false,true,some cs=>okD s t ⟨s.var t T cs,A,B⟩
    |_,_,_,_=>none
  | .pick (.tmp u) a b=>match s.env u with
    |(wt, .pv (.val (.bool x)))=>match b with
      | .const (.bool false)=>match opd s a with
        |some (.val (.bool y))=>okD s t ⟨s.put (some t) w (.pv (.val (.bool (x&&y)))),Imp w wt::ImpX w x true (kE s a)::A,B⟩
        |_=>none
      |b=>match a with
        | .const (.bool true)=>match opd s b with
          |some (.val (.bool y))=>okD s t ⟨s.put (some t) w (.pv (.val (.bool (x||y)))),Imp w wt::ImpX w x false (kE s b)::A,B⟩
          |_=>none
        |_=>none
    |_=>none
  | .buildSlice T len ps=>match xX tt s T len ps.toList with
    |some p=>okF s w e (opl (.buildSlice T len ps)) t (.pv p) A B
    |none=>none
  | .binOp op T x y T2=>match aJB op with
    |true=>match aIu op s x y with
      |some (c,b)=>match e with
        |true=>okF s w true [x,y] t (.pv (.val (.int .i64 c))) A (b::B)
        |false=>okF s w false [x,y] t (.pv (.val (.int .i64 c))) A ((w=true->b)::B)
      |none=>none
    |false=>nW tt w e (.binOp op T x y T2) t s A B
  | .unOp .neg _ x=>match opd s x with
    |some (.val (.int .i64 a))=>match e with
      |true=>okF s w true [x] t (.pv (.val (.int .i64 (0-a)))) A ((-9223372036854775808<=0-a/\0-a<=9223372036854775807)::B)
      |false=>okF s w false [x] t (.pv (.val (.int .i64 (0-a)))) A ((w=true-> -9223372036854775808<=0-a/\0-a<=9223372036854775807)::B)
    |_=>none
  |op=>nW tt w e op t s A B
def bV(tt:TT)(l:List Oper)(o:Oper)(s:St)(A B:List Prop):Option Out:=
  match o with
  |⟨some t,op,_,_,_,none⟩=>aCF tt true true op t s A B
  |⟨some t,op,ty,pos,after,some g⟩=>match bG l ⟨some t,op,ty,pos,after,some g⟩ s with
    |some w=>aCF tt w false op t s A B
    |none=>none
  |⟨none, .store T (.tmp x) y,_,_,_,none⟩=>match s.env x with
    |(true, .adr u off)=>match s.L u with
      |some (T',cs)=>match mI tt s T y cs off with
        |some cs'=>match kE s y with
          |true=>some ⟨s.setv u T' cs',A,B⟩
          |false=>none
        |none=>none
      |none=>none
    |_=>none
  |_=>none
section
variable{P:Program}{tt:TT}{l:List Oper}{d:Md}{r:List Oper}{s:St}{K:St->Prop}{t:Nat}{op:Op}{ty:TypeId}{pos:String}{after:Array Edge}{gd:Option (Nat×Bool)}
theorem abY{o o':Out}(h:okD s t o=some o'):Nat.blt t s.n=true/\o'=o:=by
 unfold okD at h
 grind
theorem nC{e:E}{o:Out}{xs:List Operand}(c:i=true->w=true)(h:okF s w i xs t e A B=some o)(ha:All o.a)(hb:All o.b):Nat.blt t s.n=true/\lC s w xs/\o.s=s.put (some t) w e/\All A/\All B:=by
 unfold okF at h;split at h
 ·split at h
  ·rename_i hf
   obtain⟨hd,rfl⟩:=abY h;have:=c rfl;subst this;refine⟨hd,?_,rfl,ha,hb⟩
   induction xs with
   |nil=>trivial
   |cons x xs ih=>
    simp only[bS,zba]at hf;exact⟨λ_=>hf.1,ih hf.2⟩
  ·cases h
 ·obtain⟨hd,rfl⟩:=abY h
  have:=flagsI.g ha
  grind
theorem qS(htt:bI P tt){o:Out}(c:i=true->w=true)(hw:bG l ⟨some t,op,ty,pos,after,gd⟩ s=some w)(h:nW tt w i op t s A B=some o)(ha:All o.a)(hb:All o.b)(ht:cX d l r=true)(k:Ev P l d r o.s K):Ev P l d (⟨some t,op,ty,pos,after,gd⟩::r) s K/\All A/\All B:=by
 unfold nW at h;split at h
 ·rename_i p hp
  have⟨hd,hf,e,j,m⟩:=nC c h ha hb;rw[e]at k;exact⟨aJU htt hw hp hf hd ht k,j,m⟩
 ·cases h
theorem acS(htt:bI P tt){E:Bool}{o:Out}(D:E=true->gd=none/\w=true)(hw:bG l ⟨some t,op,ty,pos,after,gd⟩ s=some w)(h:aCF tt w E op t s A B=some o)(ha:All o.a)(hb:All o.b)(ht:cX d l r=true)(k:Ev P l d r o.s K):Ev P l d (⟨some t,op,ty,pos,after,gd⟩::r) s K/\All A/\All B:=by
 have i:E=true->w=true:=λe=>(D e).2;unfold aCF at h;split at h
 ·rename_i T x f
  split at h
  ·rename_i wx _ _ hx
   split at h
   ·rename_i H u off hp
    have⟨hd,hf,e,n,m⟩:=nC i h ha hb;rw[e]at k;refine⟨aG3 htt hw hp (λv=>?_) hd ht k,n,m⟩;have F:=hf.1 v;simp only[aIy,hx]at hp;simp only[kE,hx]at F;split at hp
    ·split at hp
     ·split at hp
      ·injection hp with hp;injection hp with hp _;rw[<-hp];exact F
      ·cases hp
     ·cases hp
    ·cases hp
   ·cases h
  ·exact qS htt i hw h ha hb ht k
 ·rename_i T x
  split at h
  ·rename_i wx u off hx
   split at h
   ·rename_i T' cs hL
    split at h
    ·rename_i p hp
     have⟨hd,hf,e,n,m⟩:=nC i h ha hb;rw[e]at k;exact⟨aCP htt hw hx hL hp (λv=>by have:=hf.1 v;simpa[kE,hx]using this) hd ht k,n,m⟩
    ·cases h
   ·cases h
  ·exact qS htt i hw h ha hb ht k
 ·rename_i T
  split at h
  ·rename_i cs had hz
   obtain⟨hd,rfl⟩:=abY h;have:=(D rfl).1;subst this;exact⟨awQ htt hz hd had ht k,ha,hb⟩
  ·cases h
 ·rename_i T x
  split at h
  ·rename_i cs had hf hz
   obtain⟨hd,rfl⟩:=abY h;have:=(D rfl).1;subst this;exact⟨aMW hz hf hd had ht k,ha,hb⟩
  ·cases h
 ·rename_i u a b
  split at h
  ·rename_i wt x hu
   split at h
   ·split at h
    ·rename_i y hy
     obtain⟨hd,rfl⟩:=abY h;exact⟨aMU hw hu hy ha.hd.ok (λn m=>ha.tl.hd.ok n m) hd ht k,ha.tl.tl,hb⟩
    ·cases h
   ·split at h
    ·split at h
     ·rename_i y hy
      obtain⟨hd,rfl⟩:=abY h;exact⟨aN0 hw hu hy ha.hd.ok (λn m=>ha.tl.hd.ok n m) hd ht k,ha.tl.tl,hb⟩
     ·cases h
    ·cases h
  ·cases h
 ·rename_i T len ps
  split at h
  ·rename_i p hp
   have⟨hd,hf,e,n,m⟩:=nC i h ha hb;rw[e]at k;exact⟨aGQ htt hw hp hf hd ht k,n,m⟩
  ·cases h
 ·rename_i op T x y T2
  split at h
  ·rename_i G
   split at h
   ·rename_i c b q
    have key:∀{bb:Prop},(bb->w=true->b)->okF s w E [x,y] t (.pv (.val (.int .i64 c))) A (bb::B)=some o->Ev P l d (⟨some t, .binOp op T x y T2,ty,pos,after,gd⟩::r) s K/\All A/\All B:=by
     intro bb C h;have⟨hd,hf,e,n,m⟩:=nC i h ha hb;rw[e]at k;refine⟨?_,n,m.tl⟩;have j:=C m.hd;unfold aIu at q;split at q
     ·rename_i I b1 hx hy
      cases op<;>simp only at q<;>first|cases q;done|skip
      all_goals injection q with q
      all_goals injection q with n m
      all_goals subst n
      all_goals subst m
      ·exact aKz _ hw hx hy hf hd (λ_=>rfl) (λh=>(j h).1) (λh=>(j h).2) ht k
      ·exact aKU _ hw hx hy hf hd (λ_=>rfl) (λh=>(j h).1) (λh=>(j h).2) ht k
      ·exact nA hw hx hy (λh=> .inr (.inr (.inl ⟨rfl,aiB (j h).1 (j h).2⟩))) hf hd ht k
      ·refine nA hw hx hy (λh=> .inr (.inr (.inr (.inl ⟨rfl,by have:=(j h).2;omega,?_⟩)))) hf hd ht k
       have n:=(j h).1;have m:=(j h).2;rw[Int.tdiv_eq_ediv_of_nonneg n.1];have F:=Int.ediv_le_self b1 n.1;have h4:=Int.ediv_nonneg n.1 (Int.le_of_lt m);exact aiB (by omega) (by omega)
      ·refine nA hw hx hy (λh=> .inr (.inr (.inr (.inr ⟨rfl,by have:=(j h).2;omega,?_⟩)))) hf hd ht k
       rw[Int.tmod_eq_emod_of_nonneg (j h).1.1]
     ·cases q
    split at h
    ·exact key (λh _=>h) h
    ·exact key (λh=>h) h
   ·cases h
  ·exact qS htt i hw h ha hb ht k
 ·rename_i T x
  split at h
  ·rename_i a hx
   have key:∀{bb:Prop},(bb->w=true-> -9223372036854775808<=0-a/\0-a<=9223372036854775807)->okF s w E [x] t (.pv (.val (.int .i64 (0-a)))) A (bb::B)=some o->Ev P l d (⟨some t, .unOp .neg T x,ty,pos,after,gd⟩::r) s K/\All A/\All B:=by
    intro bb C h;have⟨hd,hf,e,n,m⟩:=nC i h ha hb;rw[e]at k;exact⟨dC hw (λv _=>aKF rfl hx (aiB (C m.hd v).1 (C m.hd v).2)) (λz hz=>aO (λ_ _ _ e=>by cases e) hz) hf hd ht k,n,m.tl⟩
   split at h
   ·exact key (λh _=>h) h
   ·exact key (λh=>h) h
  ·cases h
 ·exact qS htt i hw h ha hb ht k
theorem awP(htt:bI P tt){x:Out}(h:bV tt l o s A B=some x)(ha:All x.a)(hb:All x.b)(ht:cX d l r=true)(k:Ev P l d r x.s K):Ev P l d (o::r) s K/\All A/\All B:=by
 unfold bV at h;split at h
 ·exact acS htt (λ_=>⟨rfl,rfl⟩) rfl h ha hb ht k
 ·split at h
  ·rename_i w hw
   exact acS htt (λe=>by grind) hw h ha hb ht k
  ·cases h
 ·split at h
  ·rename_i u off hx
   split at h
   ·rename_i T' cs hL
    split at h
    ·rename_i c hp
     split at h
     ·rename_i hf
      injection h with h;subst h
      exact⟨auD htt hx hL hp hf ht k,ha,hb⟩
     ·cases h
    ·cases h
   ·cases h
  ·cases h
 ·cases h
inductive Fr where
 |seq (c:Code)
 |blk (id:Nat)
def dQ(P:Program):List Fr->(Exit->St->Prop)->Exit->St->Prop
 |[],Q=>Q
 | .seq c::k,Q=>aLp (PWp P c (dQ P k Q)) (dQ P k Q)
 | .blk id::k,Q=>xB id (dQ P k Q)
def adP(P:Program)(k:List Fr)(Q:Exit->St->Prop)(s:St):Prop:=dQ P k Q .normal s
inductive Bx where
 |mk (a b g:Prop)
 |no
inductive Rn where
 |mk (s:St) (r:List Oper) (A B:List Prop)
def aAN(tt:TT)(d:Md)(l:List Oper):List Oper->St->List Prop->List Prop->Rn
 |[],s,A,B=> .mk s [] A B
 |o::r,s,A,B=>match cX d l r with
  |true=>match bV tt l o s A B with
   |some ⟨s',A',B'⟩=>aAN tt d l r s' A' B'
   |none=> .mk s (o::r) A B
  |false=> .mk s (o::r) A B
theorem nZ(htt:bI P tt):∀{r:List Oper}{s:St}{A B:List Prop}{c:St}{b:List Oper}{a B':List Prop},aAN tt d l r s A B= .mk c b a B'->All a->All B'->Ev P l d b c K->Ev P l d r s K/\All A/\All B
 |[],_,_,_,_,_,_,_,e,ha,hb,h=>by
  simp only[aAN]at e
  grind
 |o::r,s,A,B,c,b,a,B',e,ha,hb,h=>by
  simp only[aAN]at e
  split at e
  ·rename_i ht
   split at e
   ·rename_i p m n hs
    have⟨i,j,k⟩:=nZ htt e ha hb h;exact awP htt hs j k ht i
   grind
  grind
inductive Pt where
 |code (c:Code)
 |norm
 |out (id:Nat)
def holds(P:Program)(k:List Fr)(Q:Exit->St->Prop)(s:St):Pt->Prop
 | .code c=>PWp P c (dQ P k Q) s
 | .norm=>dQ P k Q .normal s
 | .out id=>dQ P k Q (.exit id) s
def aIh(P:Program)(a:Pt)(k:List Fr)(Q:Exit->St->Prop)(s:St)(A B:List Prop):Bx:=
 match a with
 | .code c=> .mk (All A) (All B) (PWp P c (dQ P k Q) s)
 | .norm=> .mk (All A) (All B) (dQ P k Q .normal s)
 | .out id=> .mk (All A) (All B) (dQ P k Q (.exit id) s)
def adv(P:Program)(tt:TT):Nat->Pt->List Fr->(Exit->St->Prop)->St->List Prop->List Prop->Bx
 |0,pt,k,Q,s,A,B=>aIh P pt k Q s A B
 |n+1, .norm,k,Q,s,A,B=>match k with
  |[]=> .mk (All A) (All B) (Q .normal s)
  | .seq c'::k'=>adv P tt n (.code c') k' Q s A B
  | .blk _::k'=>adv P tt n .norm k' Q s A B
 |n+1, .out id,k,Q,s,A,B=>match k with
  |[]=> .mk (All A) (All B) (Q (.exit id) s)
  | .seq _::k'=>adv P tt n (.out id) k' Q s A B
  | .blk id'::k'=>match Nat.beq id id' with
   |true=>adv P tt n .norm k' Q s A B
   |false=>adv P tt n (.out id) k' Q s A B
 |n+1, .code c,k,Q,s,A,B=>match c with
  | .skip=>adv P tt n .norm k Q s A B
  | .exit id=>adv P tt n (.out id) k Q s A B
  | .seq x y=>adv P tt n (.code x) (.seq y::k) Q s A B
  | .block id x=>adv P tt n (.code x) (.blk id::k) Q s A B
  | .region _ ops false=>match aAN tt .seq ops.toList ops.toList s A B with
   | .mk s' [] A' B'=>adv P tt n .norm k Q s' A' B'
   | .mk s' (o::r) A' B'=> .mk (All A') (All B') (Ev P ops.toList .seq (o::r) s' (adP P k Q))
  |c=> .mk (All A) (All B) (PWp P c (dQ P k Q) s)
theorem lA(htt:bI P tt):∀(n:Nat)(w:Pt)(k:List Fr)(Q:Exit->St->Prop)(s:St)(A B:List Prop){a b g:Prop},adv P tt n w k Q s A B= .mk a b g->a->b->g->holds P k Q s w/\All A/\All B:=by
 intro n
 induction n with
 |zero=>
  intro w k Q s A B a b g h ha hb hg;cases w<;>simp only[adv,aIh]at h<;>injection h with i j u<;>subst i<;>subst j<;>subst u<;>exact⟨hg,ha,hb⟩
 |succ n ih=>
  intro w k Q s A B a b g h ha hb hg;have p:∀{H:Prop},Bx.mk (All A) (All B) H= .mk a b g->H/\All A/\All B:=fun{H} e=>by
   injection e with i j u
   subst i;subst j;subst u
   exact⟨hg,ha,hb⟩
  cases w with
  |norm=>
   simp only[adv]at h;split at h
   ·exact p h
   ·have:=ih _ _ _ _ _ _ h ha hb hg;exact this
   ·have:=ih _ _ _ _ _ _ h ha hb hg;exact this
  |out id=>
   simp only[adv]at h;split at h
   ·exact p h
   ·have:=ih _ _ _ _ _ _ h ha hb hg;exact this
   ·rename_i v k'
    split at h
    ·rename_i q
     have:=Nat.eq_of_beq_eq_true q;have⟨i,j⟩:=ih _ _ _ _ _ _ h ha hb hg;refine⟨?_,j⟩;show xB v (dQ P k' Q) (.exit id) s;simp only[xB,zp this];exact i
    ·rename_i q
     have:id≠v:=λe=>by subst e;rw[Nat.beq_refl]at q;cases q
     have⟨i,j⟩:=ih _ _ _ _ _ _ h ha hb hg;refine⟨?_,j⟩;show xB v (dQ P k' Q) (.exit id) s;simp only[xB,zn this];exact i
  |code c=>
   have reg:∀{m:Array Oper},(match aAN tt .seq m.toList m.toList s A B with
      | .mk y [] x B'=>adv P tt n .norm k Q y x B'
      | .mk y (o::r) x B'=> .mk (All x) (All B') (Ev P m.toList .seq (o::r) y (adP P k Q)))=Bx.mk a b g->Ev P m.toList .seq m.toList s (adP P k Q)/\All A/\All B:=by
    intro m e
    split at e
    ·rename_i y x B' z
     have⟨i,j,u⟩:=ih _ _ _ _ _ _ e ha hb hg;exact nZ htt z j u (rU i)
    ·rename_i y o r x B' z
     injection e with i j u
     subst i;subst j;subst u;exact nZ htt z ha hb hg
   simp only[adv]at h;split at h
   ·have⟨i,j⟩:=ih _ _ _ _ _ _ h ha hb hg
    exact⟨aHc i,j⟩
   ·have⟨i,j⟩:=ih _ _ _ _ _ _ h ha hb hg
    exact⟨aGB i,j⟩
   ·have⟨i,j⟩:=ih _ _ _ _ _ _ h ha hb hg
    exact⟨aJy i,j⟩
   ·have⟨i,j⟩:=ih _ _ _ _ _ _ h ha hb hg
    exact⟨aDl i,j⟩
   ·have⟨i,j⟩:=reg h
    exact⟨iG (Q:=dQ P k Q) (l:=Array.toList _) i,j⟩
   ·exact p h
class Pk (P:Program) (tt:outParam TT):Prop where
  hm:P.follows .mixedOrders=true
  htt:bI P tt
  nm :(P.funcs.all λfn => !(fn.name == "runtime.NumGoroutine")) = true
theorem go0(pk:Pk P tt){c:Code}{g:Prop}(h:adv P tt 1000 (.code c) [] Q s [] []= .mk a b g)(ha:a)(hb:b)(hg:g):PWp P c Q s:=
 (lA pk.htt _ _ _ _ _ _ _ h ha hb hg).1
theorem go(pk:Pk P tt){c:Code}{k:List Fr}{g:Prop}(h:adv P tt 1000 (.code c) k Q s [] []= .mk a b g)(ha:a)(hb:b)(hg:g):PWp P c (dQ P k Q) s:=
 (lA pk.htt _ _ _ _ _ _ _ h ha hb hg).1
theorem goN(pk:Pk P tt){k:List Fr}{g:Prop}(h:adv P tt 1000 .norm k Q s [] []= .mk a b g)(ha:a)(hb:b)(hg:g):dQ P k Q .normal s:=
 (lA pk.htt _ _ _ _ _ _ _ h ha hb hg).1
theorem goX(pk:Pk P tt){k:List Fr}{g:Prop}(h:adv P tt 1000 (.out id) k Q s [] []= .mk a b g)(ha:a)(hb:b)(hg:g):dQ P k Q (.exit id) s:=
 (lA pk.htt _ _ _ _ _ _ _ h ha hb hg).1
def apB(P:Program)(tt:TT)(l:List Oper)(d:Md)(r:List Oper)(s:St)(k:List Fr)(Q:Exit->St->Prop):Bx:=
 match aAN tt d l r s [] []with
 | .mk s' [] A' B'=>adv P tt 1000 .norm k Q s' A' B'
 | .mk s' (o::r) A' B'=> .mk (All A') (All B') (Ev P l d (o::r) s' (adP P k Q))
theorem goE(pk:Pk P tt){k:List Fr}{g:Prop}(h:apB P tt l d r s k Q= .mk a b g)(ha:a)(hb:b)(hg:g):Ev P l d r s (adP P k Q):=by
 unfold apB at h;split at h
 ·rename_i n m B' j
  have⟨c,e,i⟩:=lA pk.htt _ _ _ _ _ _ _ h ha hb hg;exact(nZ pk.htt j e i (rU c)).1
 ·rename_i n o r m B' j
  injection h with c e i
  subst c;subst e;subst i;exact(nZ pk.htt j ha hb hg).1
theorem goD(pk:Pk P tt){c:Array Oper}{k:List Fr}{g:Prop}{z rd:List Nat}(hl:azF c.toList (.draw z rd)=true)(e:akQ c.toList s=true)(h:apB P tt c.toList (.draw z rd) c.toList s k Q= .mk a b g)(ha:a)(hb:b)(hg:g):PWp P (.region id c true) (dQ P k Q) s:=
 sC pk.hm hl e (goE pk h ha hb hg)
theorem amM{args:Array Operand}{j:Array TypeId}{a:FuncId}(qs:List PV){p:PV}(hw:bG l ⟨some t, .call ⟨.value f,args,j⟩,ty,pos,after,gd⟩ s=some w)(hf:opd s f=some (.fn a caps))(c:pH s args.toList=some ps)(hq:WkL ps qs)(h:w=true->PF P a (qs++caps) p)(b:All (flagsI s w (f::args.toList) []))(hd:Nat.blt t s.n=true)(ht:cX d l r=true)(k:Ev P l d r (s.put (some t) w (.pv p)) K):Ev P l d (⟨some t, .call ⟨.value f,args,j⟩,ty,pos,after,gd⟩::r) s K:=
 dC hw (λi _=>aIv rfl hf ((yB _).trans c) hq (h i)) (λ_ hx=>aO (λ_ _ _ e=>by grind) hx) (flagsI.g b).1 hd ht k
theorem cR(pk:Pk P tt){T:TypeId}{p:PV}{b:IntKind}{row:List PV}(hw:bG l ⟨some t, .indexAddr T x y,ty,pos,after,gd⟩ s=some w)(hx:opd s x=some p)(hp:gQ p=some rows)(hy:opd s y=some (.val (.int b n)))(hk:tiK tt T=some (.slice e))(hs:aP tt e=some sz)(hf:All (flagsI s w [x,y] []))(hd:Nat.blt t s.n=true)(hj:w=true->n=(j:Int))(a:w=true->rows[j]?=some row)(hl:w=true->row.length=sz)(ht:cX d l r=true)(k:Ev P l d r (s.put (some t) w (.pv (.rp row))) K):Ev P l d (⟨some t, .indexAddr T x y,ty,pos,after,gd⟩::r) s K:=
 aEB pk.htt hw hx hp hy hk hs (flagsI.g hf).1 hd hj a hl ht k
theorem mG(pk:Pk P tt){T:TypeId}{x:Nat}{wx:Bool}{u n e:Nat}{i:Int}(j:Nat)(hw:bG l ⟨some t, .indexAddr T (.tmp x) y,ty,pos,after,gd⟩ s=some w)(hx:s.env x=(wx, .adr u off))(hy:opd s y=some (.val (.int c i)))(hk:tiK tt T=some (.arr n e))(hs:aP tt e=some sz)(hf:All (flagsI s w [.tmp x,y] []))(hd:Nat.blt t s.n=true)(hj:w=true->i=(j:Int))(b:w=true->j<n)(ht:cX d l r=true)(k:Ev P l d r (s.put (some t) w (.adr u (off+j*sz))) K):Ev P l d (⟨some t, .indexAddr T (.tmp x) y,ty,pos,after,gd⟩::r) s K:=by
 have h:=(flagsI.g hf).1
 exact aM5 pk.htt j hw hx hy hk hs (λa=>by have:=h.1 a;simpa[kE,hx]using this) (λa=>h.2.1 a) hd hj b ht k
theorem sH(pk:Pk P tt){T:TypeId}{ok:Bool}{p:PV}{es:List (Value×PV)}(hw:bG l ⟨some t, .lookup T x y ok,ty,pos,after,gd⟩ s=some w)(hx:opd s x=some q)(hq:aBz q=some es)(hy:opd s y=some (.val key))(hf:All (flagsI s w (opl (.lookup T x y ok)) []))(hd:Nat.blt t s.n=true)(h:jI tt T es key ok=some p)(ht:cX d l r=true)(k:Ev P l d r (s.put (some t) w (.pv p)) K):Ev P l d (⟨some t, .lookup T x y ok,ty,pos,after,gd⟩::r) s K:=
 aDR pk.htt hw hx hq hy (flagsI.g hf).1 hd h ht k
theorem aGv(pk:Pk P tt)(n:Nat){c:Code}{g:Prop}(h:adv P tt n (.code c) [] Q s [] []= .mk a b g)(ha:a)(hb:b)(hg:g):PWp P c Q s:=
 (lA pk.htt _ _ _ _ _ _ _ h ha hb hg).1
theorem gon(pk:Pk P tt)(n:Nat){c:Code}{k:List Fr}{g:Prop}(h:adv P tt n (.code c) k Q s [] []= .mk a b g)(ha:a)(hb:b)(hg:g):PWp P c (dQ P k Q) s:=
 (lA pk.htt _ _ _ _ _ _ _ h ha hb hg).1
theorem agH :∀(k1 k2:List Fr)(Q:Exit->St->Prop),dQ P (k1++k2) Q=dQ P k1 (dQ P k2 Q)
 |[],_,_=>rfl
 | .seq c::k1,k2,Q=>by simp only[List.cons_append,dQ,agH _ _ Q]
 | .blk _::k1,k2,Q=>by simp only[List.cons_append,dQ,agH _ _ Q]
theorem acH{Q b:Exit->St->Prop}(hq:∀e s,Q e s->b e s):∀(k:List Fr)(e:Exit)(s:St),dQ P k Q e s->dQ P k b e s
 |[],e,s,h=>hq e s h
 | .seq c::k,e,s,h=>by
  have a:=acH hq k
  cases e with
  |normal=>exact PWp.mono (h) a
  |_=>exact a _ _ h
 | .blk id::k,e,s,h=>by
  have a:=acH hq k
  cases e with
  |exit id'=>
   have h:(if id'=id then dQ P k Q _ s else dQ P k Q _ s):=h;show(if id'=id then dQ P k _ _ s else dQ P k _ _ s)
   grind
  |_=>exact a _ _ h
end
end
section
section
variable{P:Program}{tt:TT}{l:List Oper}{d:Md}{r:List Oper}{s:St}{K:St->Prop}{t:Nat}{ty:TypeId}{pos:String}{after:Array Edge}{gd:Option (Nat×Bool)}
@[reducible] def inR(k:IntKind)(a:Int):Prop:=
 match k with
 | .i64=> -9223372036854775808<=a/\a<=9223372036854775807
 | .u64=>0<=a/\a<=18446744073709551615
 | .u8=>0<=a/\a<=255
 | .i32=> -2147483648<=a/\a<=2147483647
 | .u32=>0<=a/\a<=4294967295
 |_=>False
theorem atG{a:Int}(h:inR k a):k.wrap a=a:=by
 all_goals simp only[IntKind.wrap,IntKind.bits,IntKind.signed,Bool.false_and]
 grind
theorem cvA(pk:bI P tt){T T2:TypeId}{k2:IntKind}{a:Int}(hx:opd s x=some (.val (.int h a)))(hT:(tiK tt T).isSome=true)(hk:tiK tt T2=some (.int k2))(hf:bS s [x]=true)(hd:Nat.blt t s.n=true)(hc:inR k2 a)(ht:cX d l r=true)(k:Ev P l d r (s.pv t (.val (.int k2 a))) K):Ev P l d (⟨some t, .convert T T2 x,ty,pos,after,none⟩::r) s K:=
 aJd pk hx hT hk (atG hc) hf hd ht k
theorem auS(htt:bI P tt){T:TypeId}{b:ByteArray}{i:Int}{c:UInt8}(ho:o.op= .index T x y)(hx:opd s x=some (.val (.string b)))(hy:opd s y=some (.val (.int k i)))(hT:tiK tt T=some .str)(hi:i=j)(hb:b[j]?=some c):OpV P o s (.val (.int .u8 c.toNat)):=by
 refine aN λw g ρ _ hρ=>?_;have ex:=aL (hρ x (by rw[ho];simp[Op.operands]) _ hx);have a:=aL (hρ y (by rw[ho];simp[Op.operands]) _ hy);have hu:=pA (aR htt hT).1;subst hi;refine⟨.int .u8 _,?_,rfl⟩;have h0:=by omega
 simp[execOp,ho,ex,Instr.index,asIntOf,run_underlying hu,h0,hb]
theorem sxA(pk:bI P tt){T:TypeId}{b:ByteArray}{a:IntKind}{i:Int}(j:Nat)(c:UInt8)(hx:opd s x=some (.val (.string b)))(hy:opd s y=some (.val (.int a i)))(hT:tiK tt T=some .str)(hf:bS s [x,y]=true)(hd:Nat.blt t s.n=true)(hi:i=j)(hb:b[j]?=some c)(ht:cX d l r=true)(k:Ev P l d r (s.pv t (.val (.int .u8 c.toNat))) K):Ev P l d (⟨some t, .index T x y,ty,pos,after,none⟩::r) s K:=
 xD (λ_=>auS pk rfl hx hy hT hi hb) (λz hz=>aO (λ_ _ _ e=>by grind) hz) hf hd ht k
end
end
section
structure Elem (tt:TT) (T:TypeId) {α:Type} (f:α->List PV) (g:α->PV) (sz:Nat):Prop where
 size:aP tt T=some sz
 ld:∀a,nJ tt T (f a) 0=some (g a)
 fl:∀a,(g a).flat=true
 ce:∀a,(g a).cells=f a
 len:∀a,(f a).length=sz
section
variable{P:Program}{tt:TT}{l:List Oper}{d:Md}{r:List Oper}{s:St}{K:St->Prop}{t:Nat}{op:Op}{ty:TypeId}{pos:String}{after:Array Edge}{gd:Option (Nat×Bool)}
variable{α:Type}{f:α->List PV}{g:α->PV}{sz:Nat}
theorem aKc[Inhabited α]{xs:Array α}(h:j<xs.size):(xs.toList.map f)[j]?=some (f xs[j]!):=by grind
theorem ixA(pk:Pk P tt){T:TypeId}{len j':Nat}(hw:bG l ⟨some t, .indexAddr T x y,ty,pos,after,gd⟩ s=some w)(hx:opd s x=some (.vec id sz off len))(hy:opd s y=some (.val (.int h n)))(hk:tiK tt T=some (.slice e))(hs:aP tt e=some sz)(hf:All (flagsI s w [x,y] []))(hd:Nat.blt t s.n=true)(hj:w=true->n=(j:Int))(c:w=true->j<len)(ht:cX d l r=true)(b:off+j=j')(k:Ev P l d r (s.put (some t) w (.pv (.el id sz j' 0))) K):Ev P l d (⟨some t, .indexAddr T x y,ty,pos,after,gd⟩::r) s K:=by
 subst b
 exact dC hw (λa st'=>aAZ pk.htt rfl ((cA x).trans hx) ((cA y).trans hy) (hj a) (c a) hk hs) (λz hz=>aO (λ_ _ _ e=>by grind) hz) (flagsI.g hf).1 hd ht k
theorem ldA[Inhabited α](pk:Pk P tt){T:TypeId}(c:Elem tt T f g sz){xs:Array α}(hw:bG l ⟨some t, .load T x,ty,pos,after,gd⟩ s=some w)(hx:opd s x=some (.el id sz j 0))(hf:All (flagsI s w [x] []))(hd:Nat.blt t s.n=true)(a:s.st id=some (.arr T (xs.toList.map f)))(hj:w=true->j<xs.size)(ht:zG d l r=true)(k:Ev P l d r (s.put (some t) w (.pv (g xs[j]!))) K):Ev P l d (⟨some t, .load T x,ty,pos,after,gd⟩::r) s K:=
 tE hw (λb=>wW pk.htt rfl hx a c.size (aKc (hj b)) (c.ld _)) (λz hz=>aO (λ_ _ _ e=>by grind) hz) (flagsI.g hf).1 hd ht k
theorem aER(ps:List PV):∀(cs:List PV),cs.length=ps.length->iV cs 0 ps=ps:=by
 induction ps with
 |nil=>simp_all[iV]
 |cons p ps ih=>
  intro cs h;cases cs with
  |nil=>simp at h
  |cons c cs=>simp only[iV];grind
theorem stA(pk:Pk P tt){T:TypeId}(b:Elem tt T f g sz){xs:Array α}(a:α)(hx:opd s x=some (.el id sz j 0))(hy:opd s y=some (g a))(hf:bS s [x,y]=true)(c:s.st id=some (.arr T (xs.toList.map f)))(hj:j<xs.size)(ht:jU d l r=true)(k:Ev P l d r (s.sst (upd s.st id (some (.arr T ((xs.setIfInBounds j a).toList.map f))))) K):Ev P l d (⟨none, .store T x y,ty,pos,after,none⟩::r) s K:=by
 have h:(xs.toList.map f)[j]?=some (f (xs[j]'hj)):=by grind
 have hp:mI tt s T y (f (xs[j]'hj)) 0=some (f a):=by
  unfold mI aEA;rw[hy,b.size];simp only[b.fl,zqt,cT,alY,b.ce,b.len,Nat.zero_add,Bool.true_and];rw[show Nat.ble sz sz=true from Nat.ble_eq_true_of_le (znr _)];simp;rw[aER _ _ (by rw[b.len,b.len])]
 refine eM (uH pk.htt hx c b.size h hp) (λz hz=>aO (λ_ _ _ e=>by cases e) hz) hf rfl ht λz hz=>?_
 subst hz
 have e:(xs.toList.map f).set j (f a)=(xs.setIfInBounds j a).toList.map f:=by simp
 rw[e]
 exact k
def aHE :PV->Bool
 | .ref _ _| .el _ _ _ _| .rp _=>true
 |_=>false
theorem aJ0{s:St}{p:PV}(ho:o.op= .nilCheck x)(hx:opd s x=some p)(hp:aHE p=true):OpV P o s p:=by
 refine aN λw g ρ hm hρ=>?_;have b:=hρ x (by rw[ho];simp[Op.operands]) _ hx;have hv:∃a,ρ x= .pointer (some a):=by
  cases p<;>simp[aHE]at hp
  ·simp only[Rep]at b;grind
  ·simp only[Rep]at b;grind
  ·simp only[Rep]at b;grind
 have⟨a,hv⟩:=hv;refine⟨ρ x,?_,b⟩;simp[execOp,ho,hv]
theorem ncA{p:PV}(hw:bG l ⟨some t, .nilCheck x,ty,pos,after,gd⟩ s=some w)(hx:opd s x=some p)(hp:aHE p=true)(hf:All (flagsI s w [x] []))(hd:Nat.blt t s.n=true)(ht:cX d l r=true)(k:Ev P l d r (s.put (some t) w (.pv p)) K):Ev P l d (⟨some t, .nilCheck x,ty,pos,after,gd⟩::r) s K:=
 dC hw (λ_ st'=>aJ0 rfl ((cA x).trans hx) hp) (λz hz=>aO (λ_ _ _ e=>by grind) hz) (flagsI.g hf).1 hd ht k
theorem ldR(pk:Pk P tt){T T':TypeId}{p:PV}(hw:bG l ⟨some t, .load T x,ty,pos,after,gd⟩ s=some w)(hx:opd s x=some (.ref id off))(hf:All (flagsI s w [x] []))(hd:Nat.blt t s.n=true)(a:s.st id=some (.cells T' cs))(hp:nJ tt T cs off=some p)(ht:zG d l r=true)(k:Ev P l d r (s.put (some t) w (.pv p)) K):Ev P l d (⟨some t, .load T x,ty,pos,after,gd⟩::r) s K:=
 tE hw (λ_=>awU pk.htt rfl hx a hp) (λz hz=>aO (λ_ _ _ e=>by grind) hz) (flagsI.g hf).1 hd ht k
theorem stR(pk:Pk P tt){T T':TypeId}{a:List PV}(hx:opd s x=some (.ref id off))(hf:bS s [x,y]=true)(b:s.st id=some (.cells T' cs))(hp:mI tt s T y cs off=some a)(ht:jU d l r=true)(k:Ev P l d r (s.sst (upd s.st id (some (.cells T' a)))) K):Ev P l d (⟨none, .store T x y,ty,pos,after,none⟩::r) s K:=
 eM (aqH pk.htt hx b hp) (λz hz=>aO (λ_ _ _ e=>by grind) hz) hf rfl ht λz hz=>by subst hz;exact k
def atT(u:Nat):List Oper->Option Op
 |[]=>none
 |o::r=>match o.dst with
  |some v=>match Nat.beq u v with
   |true=>some o.op
   |false=>atT u r
  |none=>atT u r
def aDO(s:St)(l:List Oper):Nat->Operand->Bool
 |0,_=>false
 |n+1, .tmp u=>match atT u l with
  |some (.indexAddr _ _ _)|some (.nilCheck _)=>true
  |some (.fieldAddr _ x _)=>aDO s l n x
  |some (.move x)=>aDO s l n x
  |some _=>false
  |none=>match s.env u with
   |(_, .pv (.ref _ _))|(_, .pv (.el _ _ _ _))=>true
   |_=>false
 |_+1,_=>false
def aNb(s:St)(l:List Oper):Operand->Bool
 | .tmp u=>match atT u l with
  |some (.move (.tmp x))=>match s.env x with
   |(_, .pv (.mref _))=>true
   |_=>false
  |_=>match s.env u with
   |(_, .pv (.mref _))=>true
   |_=>false
 |_=>false
def aCg(s:St)(l:List Oper):List Oper->Nat->List Nat
 |[],_=>[]
 |o::r,k=>match o.op with
  | .store _ x _=>bif aDO s l 5 x then k::aCg s l r (k+1)else aCg s l r (k+1)
  |_=>aCg s l r (k+1)
def aBV(s:St)(l:List Oper):List Oper->Nat->List Nat
 |[],_=>[]
 |o::r,k=>match o.op with
  | .load _ x=>bif aDO s l 5 x then k::aBV s l r (k+1)else aBV s l r (k+1)
  |_=>aBV s l r (k+1)
end
end
section
section
variable{P:Program}{tt:TT}{l:List Oper}{d:Md}{r:List Oper}{s:St}{K:St->Prop}{t:Nat}{op:Op}{ty:TypeId}{pos:String}{after:Array Edge}{gd:Option (Nat×Bool)}
def isW :Code->Bool
 | .seq _ _| .block _ _| .skip| .exit _| .region _ _ false=>true
 |_=>false
theorem wC(pk:Pk P tt){c:Code}{k:List Fr}{g:Prop}(e:isW c=true)(h:adv P tt 1000 (.code c) k Q s [] []= .mk a b g)(ha:a)(hb:b)(hg:g):PWp P c (dQ P k Q) s:=go pk h ha hb hg
theorem wO(pk:Pk P tt){c:Code}{g:Prop}(h:adv P tt 1000 (.code c) [] Q s [] []= .mk a b g)(ha:a)(hb:b)(hg:g):PWp P c Q s:=go0 pk h ha hb hg
def aKw(tt:TT)(d:Md)(l:List Oper)(r:List Oper)(s:St):Bool:=
 match r with
 |[]=>true
 |o::r=>match cX d l r,bV tt l o s [] []with
  |true,some _=>true
  |_,_=>false
def zK{β:Type}:List Nat->(List Nat->Option β)->Option β
 |[],k=>k []
 |x::xs,k=>zK xs λa=>k (x::a)
def aND(s:St)(l:List Oper):Option (List Nat×List Nat):=zK (aCg s l l 0) λz=>zK (aBV s l l 0) λr=>some (z,r)
theorem wDx(pk:Pk P tt){c:Array Oper}{k:List Fr}{g:Prop}{z rd:List Nat}(e:aND s c.toList=some (z,rd))(hl:azF c.toList (.draw z rd)=true)(i:akQ c.toList s=true)(h:apB P tt c.toList (.draw z rd) c.toList s k Q= .mk a b g)(ha:a)(hb:b)(hg:g):PWp P (.region id c true) (dQ P k Q) s:=goD pk hl i h ha hb hg
theorem wD(pk:Pk P tt)(z rd:List Nat){c:Array Oper}{k:List Fr}{g:Prop}(hl:azF c.toList (.draw z rd)=true)(e:akQ c.toList s=true)(h:apB P tt c.toList (.draw z rd) c.toList s k Q= .mk a b g)(ha:a)(hb:b)(hg:g):PWp P (.region id c true) (dQ P k Q) s:=goD pk hl e h ha hb hg
theorem amF{b:Bool}{x y:Code}(h:PWp P (bif b then x else y) Q s):PWp P (.cond (.const (.bool b)) x y) Q s:=λc a w g lam hs=>by
 cases b
 ·exact wpIn_cond_false rfl (h c a w g _ hs)
 ·exact wpIn_cond_true rfl (h c a w g _ hs)
def atC(id:Nat):List Fr->Nat
 |[]=>0
 | .blk j::k=>match Nat.beq id j with
  |true=>1
  |false=>atC id k+1
 | .seq _::k=>atC id k+1
def aAX :List Fr->Bool
 |[]=>false
 | .seq _::_=>true
 | .blk _::k=>aAX k
theorem auE{Q:Exit->St->Prop}{s s2:St}(h:Sub s s2):∀{k:List Fr},aAX k=true->dQ P k Q .normal s2->dQ P k Q .normal s
 | .seq _::_,_,hk=>aKf _ h hk
 | .blk _::k,hq,hk=>auE (k:=k) h hq hk
theorem aM9(id:Nat){c:Code}{k:List Fr}(b:St)(hq:aAX (k.drop (atC id k))=true)(h:PWp P c (dQ P (k.take (atC id k)) (aBA (λa=>Sub a b) (dQ P (k.drop (atC id k)) Q))) s)(hk:dQ P (k.drop (atC id k)) Q .normal b):PWp P c (dQ P k Q) s:=by
 have e:dQ P k Q=dQ P (k.take (atC id k)) (dQ P (k.drop (atC id k)) Q):=by rw[<-agH,List.take_append_drop]
 rw[e];refine h.mono λe a q=>acH (λe a q=>?_) _ e _ q;cases e<;>first|exact auE q hq hk|exact q
theorem apS(pk:Pk P tt){f:α->List PV}{xs:List α}(a:α){T T2:TypeId}(B:Nat)(hx:opd s x=some (.own id (xs.map f)))(hy:opd s y=some (.seq [f a]))(hk:tiK tt T=some (.slice e))(i:dM tt T2=true)(hs:aP tt e=some sz)(hz:(tiZ tt e).map List.length=some sz)(hf:bS s [x,y]=true)(hd:Nat.blt t s.n=true)(c:s.st id=some (.tok e))(hl:∀a,(f a).length=sz)(p:∀a,(f a).all PV.one=true)(o:P.bytesOf e=B)(hb:(xs.length+1)*B<=140737488355328)(m:xs.length+1<4611686018427387904)(ht:jU d l r=true)(k:∀b,s.st b=none->Ev P l d r ((s.sst (upd (upd s.st id none) b (some (.tok e)))).pv t (.own b ((xs++[a]).map f))) K):Ev P l d (⟨some t, .call ⟨.builtin .append, #[x,y], #[T,T2]⟩,ty,pos,after,none⟩::r) s K:=by
 refine eM (aAL pk.htt B hx hy rfl hk i hs hz c (λr j=>by grind) (λr j=>by grind) (λr j=>by grind) o (by grind) (by grind)) (λz hz=>aO (λ_ _ _ e=>by grind) hz) hf hd ht λz hz=>?_
 obtain⟨b,h,rfl⟩:=hz
 have:=k _ h
 simpa
theorem eX(f:Nat->α)(i:Nat)(a b:α):upd (upd f i a) i b=upd f i b:=by
 funext j
 by_cases h:j=i
 ·rw[h,aA,aA]
 ·rw[aB h,aB h,aB h]
theorem aOm{f:Nat->α}{i:Nat}(h:i≠j)(a b c d:α):upd (upd (upd (upd f i a) j b) i c) j d=upd (upd f i c) j d:=by
 funext k
 by_cases e:k=j
 ·subst e;rw[aA,aA]
 ·rw[aB e,aB e]
  by_cases m:k=i
  ·subst m;rw[aA,aA]
  ·rw[aB m,aB e,aB m,aB m]
theorem mT{f:Nat->α}{i:Nat}{a:α}(h:f i=a):upd f i a=f:=by
 funext j
 by_cases hj:j=i
 ·rw[hj,aA,h]
 ·rw[aB hj]
theorem aG{o:Option AObj}(h:StSub st st')(a:st id=none):StSub st (upd st' id o):=λj=>by
 by_cases hj:j=id
 ·grind
 ·rw[aB hj];exact h j
theorem cZ(h:st=st'):StSub st st':=h▸zsr _
theorem aBG{f:α->List PV}{l:List α}(h:j<l.length):(l.map f)[j]?=some (f (l[j]'h)):=by grind
end
end
section
section
variable{P:Program}{tt:TT}
def ckV(tt:TT):Nat->TypeId->Value->Bool
 |0,_,_=>false
 |d+1,t,x=>match tiK tt t with
  |some (.int _)|some .bool|some .str=>true
  |some (.struct fs)=>match x with
   | .agg xs=>fs.all λf=>match lO tt f.1,aP tt f.1 with
    |some true,some n=>ckV tt d f.1 (.agg ((xs.toList.drop f.2).take n).toArray)
    |some false,some _=>match xs.toList[f.2]? with
     |some v=>ckV tt d f.1 v
     |none=>false
    |_,_=>false
   |_=>false
  |_=>false
theorem uE(htt:bI P tt){w:World}{t:Nat}{xs:Array Value}{d:Nat}(h:(match lO tt t,aP tt t with
    |some true,some n=>ckV tt d t (.agg ((xs.toList.drop off).take n).toArray)
    |some false,some _=>match xs.toList[off]? with
     |some v=>ckV tt d t v
     |none=>false
    |_,_=>false)=true):∃v,(part t xs off).run P w= .ok v w/\ckV tt d t v=true:=by
 split at h
 ·rename_i n ha hn
  have⟨a,b⟩:=cH htt ha;refine⟨.agg (xs.extract off (off+n)),by simp[part,eB a b,aZ (aQ htt hn).1],?_⟩;rw[<-h];congr 2
  grind
 ·rename_i n ha hn
  have⟨a,b⟩:=cH htt ha;split at h
  ·rename_i v hv
   refine⟨v,?_,h⟩;have c:=by simpa using hv
   simp[part,eB a b,c]
  ·cases h
 ·cases h
theorem apR(htt:bI P tt){b:Bool}{w:World}:∀(d n:Nat),d<=n->∀t x,ckV tt d t x=true->(Instr.checkKey b n t x).run P w= .ok () w
  |0,_,_,_,_,h=>by simp[ckV]at h
  |d+1,0,hn,_,_,_=>by omega
  |d+1,n+1,hn,t,x,h=>by
    rw[Instr.checkKey]
    simp only[ckV]at h
    split at h
    · rename_i k hk
      have hu:=sX (aR htt hk).1;simp only[Sem.run_bind,run_underlying hu,Result.andThen_ok];simp
    · rename_i hk
      have hu:P.underlying t=some .bool:=by
        have:=(aR htt hk).1;unfold jT at this;split at this<;>simp_all
      simp only[Sem.run_bind,run_underlying hu,Result.andThen_ok];simp
    · rename_i hk
      have hu:=pA (aR htt hk).1;simp only[Sem.run_bind,run_underlying hu,Result.andThen_ok];simp
    · rename_i fs hk
      have⟨a,hu,e⟩:=fJ (aR htt hk).1;split at h
      · rename_i xs
        simp only[Sem.run_bind,run_underlying hu,Result.andThen_ok];rw[<-Array.forIn_toList];subst e;rw[List.all_map]at h;clear hu hk;generalize a.toList=L at h
        induction L with
        |nil=>simp
        |cons f L ih=>
          rw[List.all_cons,zba]at h;have⟨v,i,j⟩:=uE htt (w:=w) h.1;have m:=apR htt (b:=b) (w:=w) d n (by omega) f.type v j;by_cases c : f.name = "_"
          · simp only[List.forIn_cons,Sem.run_bind,c,ne_eq,not_true_eq_false,if_false,Result.andThen_ok,Sem.run_pure]
            exact ih h.2
          · simp only[List.forIn_cons,Sem.run_bind,c,ne_eq,not_false_eq_true,if_true,Result.andThen_ok,i,m,Sem.run_pure]
            exact ih h.2
      · cases h
    · cases h
theorem afE(s:ByteArray):(s==s)=true:=by
 have⟨x⟩:=s;exact beq_self_eq_true x
def aoO :Value->Bool
 | .int _ _| .bool _| .string _=>true
 |_=>false
theorem aiW{n:Nat}(h:aoO v=true):Instr.sameBits n v v=true:=by
 cases v<;>simp[aoO]at h<;>simp[Instr.sameBits]
 rename_i s;exact afE s
theorem afT{vs:List Value}(h:vs.all aoO=true):Instr.sameBits 10000 (.agg vs.toArray) (.agg vs.toArray)=true:=by
 rw[Instr.sameBits];simp only[beq_self_eq_true,Bool.true_and,zal];rintro⟨x,y⟩ hxy;have:x=y/\x∈vs:=by
  induction vs with
  |nil=>simp at hxy
  |cons v vs ih=>
   simp at hxy
   grind
 rw[<-this.1];exact aiW (zal.1 h x this.2)
theorem yZ{g:G}:∀{vs:List Value}{a:List Value},RepL g (vs.map .val) a->a=vs
 |[],a,h=>‹_›
 |v::vs,a,h=>by
  obtain⟨u,e,rfl,b,c⟩:=h
  rw[yZ c,aL b]
theorem adA(g:G):∀(vs:List Value),RepL g (vs.map .val) vs
 |[]=>rfl
 |v::vs=>by exact⟨v,vs,rfl,rfl,adA g _⟩
theorem zY(htt:bI P tt){kt:TypeId}[DecidableEq K](vals:K->List Value){fs:List (TypeId×Nat)}(hT:tiK tt kt=some (.struct fs))(hc:avG tt kt=true)(hk:∀k,ckV tt 8 kt (.agg (vals k).toArray)=true)(i:∀a b,peq tt 8 kt ((vals a).map .val) ((vals b).map .val)=some (decide (a=b)))(hb:∀k,(vals k).all aoO=true)(e:rP P 8 kt=true):KeyOK P kt (λk=> .agg (vals k).toArray) (λk=> .agg ((vals k).map .val)) where
 und:=by have⟨c,hu,_⟩:=fJ (aR htt hT).1;simp[hu]
 chk k b w:=apR htt 8 _ (by omega) _ _ (hk k)
 now kd _ a b:= .inl (by cases kd<;>rfl)
 eq a b w:=by
  have⟨c,hu,_⟩:=fJ (aR htt hT).1;have ha:bK P kt=true:=by simp[bK,hu]
  have g:G:=⟨#[],λ_=>none,λ_=>0,λ_=>False⟩;exact lD htt 8 _ (by decide) kt _ _ _ _ _ (i a b) e (tW (by exact⟨_,rfl,adA g _⟩) ha) (tW (by exact⟨_,rfl,adA g _⟩) ha)
 rp k g v h:=by
  obtain⟨vs,rfl,h⟩:=h;rw[yZ h]
 bits k:=afT (hb k)
end
section
variable{P:Program}{tt:TT}{l:List Oper}{d:Md}{r:List Oper}{s:St}{Kt:St->Prop}{t:Nat}{op:Op}{ty:TypeId}{pos:String}{after:Array Edge}{gd:Option (Nat×Bool)}
variable{K V:Type}[DecidableEq K]{kt:TypeId}{enc:K->Value}{rep:K->PV}{f:V->PV}
theorem lkM(pk:Pk P tt)(hk:KeyOK P kt enc rep){T:TypeId}{ok:Bool}{es:List (K×V)}{k:K}(hw:bG l ⟨some t, .lookup T x y ok,ty,pos,after,gd⟩ s=some w)(hx:opd s x=some (.mref id))(hy:opd s y=some (rep k))(hT:tiK tt T=some (.map kt e))(hz:pzv tt e=some z)(hf:All (flagsI s w [x,y] []))(hd:Nat.blt t s.n=true)(a:s.st id=some (.map (aY enc f es)))(ht:zG d l r=true)(b:Ev P l d r (s.put (some t) w (.pv (nT z f ok (cK k es)))) Kt):Ev P l d (⟨some t, .lookup T x y ok,ty,pos,after,gd⟩::r) s Kt:=
 tE hw (λ_=>asH pk.htt hk rfl hx a hy hT hz) (λz hz=>aO (λ_ _ _ e=>by grind) hz) (flagsI.g hf).1 hd ht b
theorem aGX(pk:Pk P tt)(hk:KeyOK P kt enc rep){T:TypeId}{ok:Bool}{es:List (K×V)}{k:K}(hw:bG l ⟨some t, .lookup T x y ok,ty,pos,after,gd⟩ s=some w)(hx:opd s x=some (.mref id))(hy:opd s y=some (rep k))(hT:tiK tt T=some (.map kt e))(hz:pzv tt e=some z)(hf:All (flagsI s w [x,y] []))(hd:Nat.blt t s.n=true)(a:s.st id=some (.map (aY enc f es)))(ht:zG d l r=true)(k1:∀v,cK k es=some v->Ev P l d r (s.put (some t) w (.pv (bif ok then .tup [f v, .val (.bool true)]else f v))) Kt)(k2:cK k es=none->Ev P l d r (s.put (some t) w (.pv (bif ok then .tup [z, .val (.bool false)]else z))) Kt):Ev P l d (⟨some t, .lookup T x y ok,ty,pos,after,gd⟩::r) s Kt:=by
 refine lkM pk hk hw hx hy hT hz hf hd a ht ?_
 cases h:cK k _ with
 |some v=>exact k1 v h
 |none=>exact k2 h
theorem muA(pk:Pk P tt)(hk:KeyOK P kt enc rep){T:TypeId}{z:Operand}{es:List (K×V)}{k:K}{v:V}(a:op= .insert T m y z\/op= .mapUpdate T m y z)(hm:opd s m=some (.mref id))(hy:opd s y=some (rep k))(hz:opd s z=some (f v))(hT:tiK tt T=some (.map kt e))(hf:bS s [m,y,z]=true)(b:s.st id=some (.map (aY enc f es)))(ht:jU d l r=true)(c:Ev P l d r (s.sst (upd s.st id (some (.map (aY enc f (dE k v es)))))) Kt):Ev P l d (⟨none,op,ty,pos,after,none⟩::r) s Kt:=by
 refine eM (asJ pk.htt hk a hm hy hz hT b) (λz hz=>aO (λ_ _ _ e=>by grind) hz) ?_ rfl ht λz hz=>by subst hz;exact c
 rcases a with rfl|rfl<;>exact hf
theorem meA(pk:Pk P tt)(hk:KeyOK P kt enc rep){T:TypeId}{es:List (K×V)}{k:K}{z:V}(hm:opd s m=some (.mref id))(hy:opd s y=some (rep k))(hT:tiK tt T=some (.map kt e))(hz:pzv tt e=some (f z))(hf:bS s [m,y]=true)(hd:Nat.blt t s.n=true)(a:s.st id=some (.map (aY enc f es)))(ht:jU d l r=true)(b:Ev P l d r ((s.sst (upd s.st id (some (.map (aY enc f (wJ k z es)))))).pv t (.tup [f ((cK k es).getD z), .val (.int .i64 (tP k es:Nat))])) Kt):Ev P l d (⟨some t, .mapEntry T m y,ty,pos,after,none⟩::r) s Kt:=
 eM (akD pk.htt hk hm hy hT hz a) (λz hz=>aO (λ_ _ _ e=>by grind) hz) hf hd ht λz hz=>by subst hz;exact b
theorem auT(k:K)(z v:V):∀(es:List (K×V)),∃v0,(wJ k z es)[tP k es]?=some (k,v0)/\(wJ k z es).set (tP k es) (k,v)=dE k v es:=by
 intro es;unfold wJ tP;cases h:vT k _ with
 |none=>exact⟨z,by simp,by rw[(qQ h).2 v];simp⟩
 |some j=>
  have⟨v0,a,_,b⟩:=pR h
  grind
theorem esA(pk:Pk P tt)(b:KeyOK P kt enc rep){T:TypeId}{m y z:Operand}{id:Nat}{es:List (K×V)}{k:K}{z0 v:V}(hm:opd s m=some (.mref id))(hy:opd s y=some (.val (.int .i64 (tP k es:Nat))))(hz:opd s z=some (f v))(hf:bS s [m,y,z]=true)
  (a:s.st id=some (.map (aY enc f (wJ k z0 es)))) (ht:jU d l r=true) (i:Ev P l d r (s.sst (upd s.st id (some (.map (aY enc f (dE k v es)))))) Kt):Ev P l d (⟨none, .entryStore T m y z,ty,pos,after,none⟩::r) s Kt:=by
 obtain⟨v0,c,h⟩:=auT k _ v _
 refine eM (aeL hm hy rfl hz c a) (λz hz=>aO (λ_ _ _ e=>by grind) hz) hf rfl ht λz hz=>?_
 subst hz
 rw[h]
 exact i
theorem mkM{V:Type}{enc:α->Value}{f:V->PV}{T:TypeId}(hd:Nat.blt t s.n=true)(a:∀id,s.st id=none->Ev P l .seq r ((s.sst (upd s.st id (some (.map (aY enc f []))))).pv t (.mref id)) Kt):Ev P l .seq (⟨some t, .makeMap T none,ty,pos,after,none⟩::r) s Kt:=
 rQ hd a
def aaU(s:St)(l:List Oper):List Oper->Nat->List Nat
 |[],_=>[]
 |o::r,k=>match o.op with
  | .store _ x _=>bif aDO s l 5 x then k::aaU s l r (k+1)else aaU s l r (k+1)
  | .mapEntry .. | .entryStore .. | .mapUpdate .. | .insert .. =>k::aaU s l r (k+1)
  | .call ⟨.builtin .append,_,_⟩=>k::aaU s l r (k+1)
  |_=>aaU s l r (k+1)
def aLA(s:St)(l:List Oper)(x:Operand):Bool:=
 match x with
 | .tmp u=>match atT u l with
  |some (.load _ _)=>true
  |_=>aNb s l x
 |_=>false
def abI(s:St)(l:List Oper):List Oper->Nat->List Nat
 |[],_=>[]
 |o::r,k=>match o.op with
  | .load _ x=>bif aDO s l 5 x then k::abI s l r (k+1)else abI s l r (k+1)
  | .lookup _ x _ _=>bif aLA s l x then k::abI s l r (k+1)else abI s l r (k+1)
  |_=>abI s l r (k+1)
def aNx(s:St)(l:List Oper):Option (List Nat×List Nat):=zK (aaU s l l 0) λz=>zK (abI s l l 0) λr=>some (z,r)
theorem wDm(pk:Pk P tt){c:Array Oper}{k:List Fr}{g:Prop}{z rd:List Nat}(e:aNx s c.toList=some (z,rd))(hl:azF c.toList (.draw z rd)=true)(i:akQ c.toList s=true)(h:apB P tt c.toList (.draw z rd) c.toList s k Q= .mk a b g)(ha:a)(hb:b)(hg:g):PWp P (.region id c true) (dQ P k Q) s:=goD pk hl i h ha hb hg
end
end
section
section
variable{P:Program}{tt:TT}
theorem aiI{g:G}{b sz:Nat}:∀(n off:Nat)(cs:List PV),cs.length=n*sz->RepA g b off cs->RepR g b off sz (qR sz n cs)
 |0,_,_,_,_=>by trivial
 |n+1,off,cs,hl,h=>by
  exact⟨by grind,RepA.take _ h,aiI n _ _ (by grind) (RepA.drop _ h)⟩
theorem aqT(htt:bI P tt){T e n:Nat}(ho:o.op= .slice T x none none none)(hx:opd s x=some (.rp cs))(hk:tiK tt T=some (.arr n e))(hs:aP tt e=some sz)(hl:cs.length=n*sz)(c:n<4611686018427387904)(h:qR sz n cs=rows):OpV P o s (.seq rows):=by
 subst h;refine aN λw g ρ _ hρ=>?_;have a:=hρ x (by rw[ho];simp[Op.operands]) _ hx;have⟨b,off,ex,a⟩:=a;have hu:=jN (aR htt hk).1;have hc:=(xG sz n cs hl).2.1;refine⟨.slice (some ⟨b,off,none⟩) n n,?_,?_⟩
 ·simp only[execOp,ho,Instr.sliceAt,ex,Instr.sureAddr,Instr.sliceBounds,Sem.run_bind,Sem.run_pure,Result.andThen_ok,run_underlying hu,aZ (aQ htt hs).1,Nat.sub_zero]
  by_cases h0:n=0
  ·subst h0;simp
  ·simp[h0,dA]
 ·exact⟨_,n,by rw[hc],by omega,by grind, .inr ⟨b,off,sz,rfl,aiI n off cs hl a⟩⟩
theorem RepR.drop{g:G}{b sz:Nat}:∀{rows:List (List PV)}{off:Nat}(k:Nat),RepR g b off sz rows->RepR g b (off+k*sz) sz (rows.drop k)
 |_,_,0,h=>by grind
 |[],_,k+1,_=>‹_›
 |c::cs,off,k+1,h=>by
  have:=RepR.drop k h.2.2
  grind
theorem RepR.take{g:G}{b sz:Nat}:∀{rows:List (List PV)}{off:Nat}(k:Nat),RepR g b off sz rows->RepR g b off sz (rows.take k)
 |_,_,0,_=>by simp[RepR]
 |[],_,k+1,_=>‹_›
 |c::cs,off,k+1,h=>by
  exact⟨h.1,h.2.1,RepR.take k h.2.2⟩
def bnd(s:St)(y:Option Operand)(a:Nat)(j:Nat):Prop:=
 match y with
 |none=>j=a
 |some y=>∃k n,opd s y=some (.val (.int k n))/\n=(j:Int)
theorem bZ:bnd s none j j:=rfl
theorem bC{d:Nat}(h:opd s y=some (.val (.int k n)))(hn:n=(j:Int)):bnd s (some y) d j:=⟨k,n,h,hn⟩
theorem tU{w:World}{y:Nat}{c:BoundsCode}(h:j<=y):(Instr.sliceBound (.int k (j:Int)) y c).run P w= .ok j w:=by
 simp only[Instr.sliceBound,asIntOf,Result.andThen_ok];simp_all
theorem kU{w:World}{g:G}{ρ:Operand->Value}{hi:Option Operand}{i len cap:Nat}(b:bnd s lo 0 i)(a:bnd s hi len j)(u:∀y,lo=some y\/hi=some y->kC g s y (ρ y))(o:i<=j)(hj:j<=cap):
  (Instr.sliceBounds sl len cap (lo.map ρ) (hi.map ρ) none).run P w= .ok (i,j,cap) w:=by
 have hh:∀y,hi=some y->∃k,ρ y= .int k (j:Int):=λy e=>by
  subst e
  have⟨k,n,h,m⟩:=a
  exact⟨k,by rw[aL (u y (.inr rfl) _ h),m]⟩
 have hl:∀y,lo=some y->∃k,ρ y= .int k (i:Int):=λy e=>by
  subst e
  have⟨k,n,h,m⟩:=b
  exact⟨k,by rw[aL (u y (.inl rfl) _ h),m]⟩
 have v:∀{k:IntKind}{c:BoundsCode}{w:World},(Instr.sliceBound (.int k (i:Int)) j c).run P w= .ok i w:=tU o
 have s2:∀{k:IntKind}{c:BoundsCode}{w:World},(Instr.sliceBound (.int k (j:Int)) cap c).run P w= .ok j w:=tU hj
 unfold Instr.sliceBounds
 cases lo with
 |none=>
  have p:i=0:=b;cases hi with
  |none=>
   have q:j=len:=a;simp[p,q]
  |some y=>have⟨k,e⟩:=hh y rfl;simp_all
 |some x=>
  have⟨k1,p⟩:=hl x rfl;cases hi with
  |none=>
   have q:j=len:=a;simp_all
  |some y=>have⟨k,e⟩:=hh y rfl;simp_all
theorem aqK(htt:bI P tt){T e i:Nat}{hi:Option Operand}{p:PV}(ho:o.op= .slice T x lo hi none)(hx:opd s x=some p)(hp:gQ p=some rows)(hk:tiK tt T=some (.slice e))(hs:aP tt e=some sz)(h:∀r∈rows,r.length=sz)(q:bnd s lo 0 i)(m:bnd s hi rows.length j)(n:i<=j)(hj:j<=rows.length):
  OpV P o s (.seq ((rows.drop i).take (j-i))):=by
 refine aN λw g ρ _ hρ=>?_
 have B:=sW hp (hρ x (by rw[ho];simp[Op.operands]) _ hx)
 have hb:∀y,lo=some y\/hi=some y->kC g s y (ρ y):=λy hy=>hρ y (by rw[ho];rcases hy with rfl|rfl<;>simp[Op.operands])
 simp only[Rep]at B
 have⟨a,cap,ex,z,C,h4⟩:=B
 have hu:=cD (aR htt hk).1
 have k:=kU (P:=P) (w:=w) (sl:=true) (len:=rows.length) (cap:=cap) q m hb n (by omega)
 have u:((rows.drop i).take (j-i)).length=j-i:=by simp;omega
 refine⟨.slice (if cap=i then a else a.map (·.add (i*sz))) (j-i) (cap-i),?_,?_⟩
 ·simp only[execOp,ho,Instr.sliceAt,Instr.slice,ex,Sem.run_bind,Sem.run_pure,Result.andThen_ok,run_underlying hu,aZ (aQ htt hs).1,Option.map_none,k]
 ·unfold Rep
  refine⟨_,cap-i,by rw[u],by omega,by omega,?_⟩;rcases h4 with h4|⟨b,off,c,rfl,A⟩
  ·subst h4;left;simp
  ·by_cases hn:j-i=0
   ·left;rw[hn];simp
   ·right
    have v:c=sz:=by
     have hi:i<rows.length:=by omega
     have z:=(A.get (zgg hi)).1;rw[<-z,h _ (zgm hi)]
    subst v;rw[zn (by omega)];exact⟨b,off+i*c,c,by simp[dA],RepR.take _ (RepR.drop _ A)⟩
theorem aqF(htt:bI P tt){T i:Nat}{hi:Option Operand}{b:ByteArray}(ho:o.op= .slice T x lo hi none)(hx:opd s x=some (.val (.string b)))(hk:tiK tt T=some .str)(h:bnd s lo 0 i)(c:bnd s hi b.size j)(e:i<=j)(hj:j<=b.size):
  OpV P o s (.val (.string (b.extract i j))):=by
 refine aN λw g ρ _ hρ=>?_
 have ex:=aL (hρ x (by rw[ho];simp[Op.operands]) _ hx)
 have hb:∀y,lo=some y\/hi=some y->kC g s y _:=λy hy=>hρ y (by rw[ho];rcases hy with rfl|rfl<;>simp[Op.operands])
 have hu:=pA (aR htt hk).1
 have a:=kU (P:=P) (w:=w) (sl:=false) h c hb e hj
 refine⟨.string _,?_,rfl⟩
 simp only[execOp,ho,Instr.sliceAt,Instr.slice,ex,Sem.run_bind,Sem.run_pure,Result.andThen_ok,run_underlying hu,Option.map_none,Option.isSome_none,Bool.false_eq_true,if_false,a]
end
section
variable{P:Program}{tt:TT}{l:List Oper}{d:Md}{r:List Oper}{s:St}{K:St->Prop}{t:Nat}{op:Op}{ty:TypeId}{pos:String}{after:Array Edge}{gd:Option (Nat×Bool)}
theorem slA(pk:Pk P tt){T e n:Nat}(hw:bG l ⟨some t, .slice T x none none none,ty,pos,after,gd⟩ s=some w)(hx:opd s x=some (.rp cs))(hk:tiK tt T=some (.arr n e))(hs:aP tt e=some sz)(hl:Nat.beq cs.length (n*sz)=true)(a:Nat.blt n 4611686018427387904=true)(b:qR sz n cs=rows)(hf:All (flagsI s w [x] []))(hd:Nat.blt t s.n=true)(ht:cX d l r=true)(k:Ev P l d r (s.put (some t) w (.pv (.seq rows))) K):Ev P l d (⟨some t, .slice T x none none none,ty,pos,after,gd⟩::r) s K:=
 dC hw (λ_ st'=>aqT pk.htt rfl ((cA x).trans hx) hk hs (Nat.eq_of_beq_eq_true hl) (Nat.le_of_ble_eq_true a) b) (λz hz=>aO (λ_ _ _ e=>by grind) hz) (flagsI.g hf).1 hd ht k
theorem oN{y:Option Operand}{a:Nat}(h:bnd s y a j):bnd (s.sst st') y a j:=‹_›
theorem slS(pk:Pk P tt){f:α->List PV}{xs:List α}{T e:Nat}(i j:Nat){hi:Option Operand}{p:PV}(hw:bG l ⟨some t, .slice T x lo hi none,ty,pos,after,gd⟩ s=some w)(hx:opd s x=some p)(hp:gQ p=some (xs.map f))(hk:tiK tt T=some (.slice e))(hs:aP tt e=some sz)(hf:All (flagsI s w (opl (.slice T x lo hi none)) []))(hd:Nat.blt t s.n=true)(o:∀a,(f a).length=sz)(m:w=true->bnd s lo 0 i)(c:w=true->bnd s hi xs.length j)(h:w=true->i<=j)(hj:w=true->j<=xs.length)(ht:cX d l r=true)(k:Ev P l d r (s.put (some t) w (.pv (.seq (((xs.drop i).take (j-i)).map f)))) K):Ev P l d (⟨some t, .slice T x lo hi none,ty,pos,after,gd⟩::r) s K:=by
 rw[List.map_take,List.map_drop]at k
 exact dC hw (λb st'=>aqK pk.htt rfl ((cA x).trans hx) hp hk hs (λr q=>by grind) (oN (m b)) (by rw[zql];exact oN (c b)) (h b) (by grind)) (λz hz=>aO (λ_ _ _ e=>by grind) hz) (flagsI.g hf).1 hd ht k
theorem slT(pk:Pk P tt){T:Nat}(i j:Nat){hi:Option Operand}{b:ByteArray}(hw:bG l ⟨some t, .slice T x lo hi none,ty,pos,after,gd⟩ s=some w)(hx:opd s x=some (.val (.string b)))(hk:tiK tt T=some .str)(hf:All (flagsI s w (opl (.slice T x lo hi none)) []))(hd:Nat.blt t s.n=true)(m:w=true->bnd s lo 0 i)(c:w=true->bnd s hi b.size j)(h:w=true->i<=j)(hj:w=true->j<=b.size)(ht:cX d l r=true)(k:Ev P l d r (s.put (some t) w (.pv (.val (.string (b.extract i j))))) K):Ev P l d (⟨some t, .slice T x lo hi none,ty,pos,after,gd⟩::r) s K:=
 dC hw (λa st'=>aqF pk.htt rfl ((cA x).trans hx) hk (oN (m a)) (oN (c a)) (h a) (hj a)) (λz hz=>aO (λ_ _ _ e=>by grind) hz) (flagsI.g hf).1 hd ht k
def aKE :List Oper->Bool
 |⟨_, .slice _ _ _ _ _,_,_,_,_⟩::_=>true
 |_=>false
theorem aCu(u:Nat){a:Array Oper}{b:Bool}{T:TypeId}(c:aKE a.toList=true)(hx:s.env u=(true, .adr u 0))(hL:s.L u=some (T,cs))(k:PWp P (.region id a b) Q (s.frozen u cs)):PWp P (.region id a b) Q s:=aiN u hx hL k
end
end
section
section
variable{P:Program}{tt:TT}{l:List Oper}{d:Md}{r:List Oper}{s:St}{K:St->Prop}{t:Nat}{op:Op}{ty:TypeId}{pos:String}{after:Array Edge}{gd:Option (Nat×Bool)}
variable{α:Type}{f:α->List PV}
theorem apV(pk:Pk P tt){xs:List α}(c:List α){T T2:TypeId}{n:Nat}{p:PV}(B:Nat)(hx:opd s x=some (.vec id sz 0 n))(hy:opd s y=some p)(hp:gQ p=some (c.map f))(hk:tiK tt T=some (.slice e))(i:dM tt T2=true)(hs:aP tt e=some sz)(hz:(tiZ tt e).map List.length=some sz)(hf:bS s [x,y]=true)(hd:Nat.blt t s.n=true)(j:s.st id=some (.arr e (xs.map f)))(hn:xs.length=n)(hl:∀a,(f a).length=sz)(u:∀a,(f a).all PV.one=true)(o:P.bytesOf e=B)(hb:(n+c.length)*B<=140737488355328)(m:n+c.length<4611686018427387904)(ht:jU d l r=true)(k:∀b,s.st b=none->Ev P l d r ((s.sst (upd (upd s.st id none) b (some (.arr e ((xs++c).map f))))).pv t (.vec b sz 0 (n+c.length))) K):Ev P l d (⟨some t, .call ⟨.builtin .append, #[x,y], #[T,T2]⟩,ty,pos,after,none⟩::r) s K:=by
 refine eM (axG pk.htt B hx (by simpa) hy hp hk i hs hz j (λr q=>by grind) (λr q=>by grind) o (by grind) (by grind)) (λz hz=>aO (λ_ _ _ e=>by cases e) hz) hf hd ht λz hz=>?_
 obtain⟨b,h,rfl⟩:=hz
 have:=k b h
 rw[zmd]at this
 simp only[zql,hn]
 exact this
theorem ap0(pk:Pk P tt)(c:List α){T T2:TypeId}{p:PV}(B:Nat)(hx:opd s x=some q)(hq:isEmp q=true)(hy:opd s y=some p)(hp:gQ p=some (c.map f))(hk:tiK tt T=some (.slice e))(i:dM tt T2=true)(hs:aP tt e=some sz)(hz:(tiZ tt e).map List.length=some sz)(hf:bS s [x,y]=true)(hd:Nat.blt t s.n=true)(hl:∀a,(f a).length=sz)(u:∀a,(f a).all PV.one=true)(m:P.bytesOf e=B)(hb:c.length*B<=140737488355328)(j:c.length<4611686018427387904)(ht:jU d l r=true)(k:∀b,s.st b=none->Ev P l d r ((s.sst (upd s.st b (some (.arr e (c.map f))))).pv t (.vec b sz 0 c.length)) K):Ev P l d (⟨some t, .call ⟨.builtin .append, #[x,y], #[T,T2]⟩,ty,pos,after,none⟩::r) s K:=by
 refine eM (atD pk.htt B hx hq hy hp hk i hs hz (λr o=>by grind) (λr o=>by grind) m (by grind) (by grind)) (λz hz=>aO (λ_ _ _ e=>by grind) hz) hf hd ht λz hz=>?_
 obtain⟨b,h,rfl⟩:=hz
 have:=k _ h
 simpa
end
section
variable{P:Program}{tt:TT}
def LR(T sz:Nat)(st:aD)(rows:List (List PV))(p:PV)(st':aD):Prop:=
 (∃id,p= .vec id sz 0 rows.length/\st id=none/\st' id=some (.arr T rows)/\StSub st (upd st' id none))\/(isEmp p=true/\rows=[]/\StSub st st')
theorem Wk.isEmp{p:PV}(h:isEmp p=true):Wk p (.seq []):=λg v b=>by
 obtain⟨a,rfl⟩:=qO h b
 unfold Rep
 simp
theorem eS{f:FuncId}(h:PC P f args st R)(y:∀p st',R p st'->(∃id T rows q st2,st' id=some (.arr T rows)/\P.cellsOf T=sz/\Fz id sz rows p q/\StSub st2 (upd st' id none)/\R' q st2)\/∃q st2,Wk p q/\StSub st2 st'/\R' q st2):PC P f args st R':=
 ⟨h.1,λw g vs hm hv=>(h.2 w g _ hm hv).mono λe w' ⟨v,r,st',g',k,x,m,h4,h5,a,n⟩=>by
  rcases y _ _ x with⟨id,T,rows,q,st2,k1,k2,i,o,A⟩|⟨q,st2,k1,k2,i⟩
  ·have⟨c,m1,u,B,G,H,I⟩:=kO h4 k1 k2
   refine⟨v,q,st2,c,k,A,Fz.rep B i _ (Rep.mono u _ _ m),m1.sub o,h5.trans u,⟨a.os,a.tape,a.output,a.size,λb hb hn=>?_⟩,λb hb=>?_⟩
   ·have⟨C,D,E⟩:=a.old b hb hn
    grind
   ·have⟨j,z,F⟩:=hb.sub o
    exact n b ⟨j,(dP z).2,by grind⟩
  ·exact⟨v,q,st2,g',k,i,k1 _ _ m,h4.sub k2,h5,a,λb hb=>n b (hb.sub k2)⟩⟩
theorem aCz{f:FuncId}{T:Nat}(hT:P.cellsOf T=sz)(h:∀st,PC P f args st (LR T sz st rows)):PF P f args (.seq rows):=λst=>
 eS (h _) λp st' i=>by
  rcases i with⟨id,e,b,a,c⟩|⟨e,b,a⟩
  ·exact .inl ⟨id,T,rows, .seq _,st,a,hT,e▸ .all,c,rfl,rfl⟩
  ·exact .inr ⟨.seq _,st,b▸Wk.isEmp e,a,rfl,rfl⟩
end
section
variable{P:Program}{tt:TT}{l:List Oper}{d:Md}{r:List Oper}{s:St}{K:St->Prop}{t:Nat}{op:Op}{ty:TypeId}{pos:String}{after:Array Edge}{gd:Option (Nat×Bool)}
variable{α:Type}{f:α->List PV}{g:α->PV}{sz:Nat}
theorem ldL(pk:Pk P tt){T:TypeId}(c:Elem tt T f g sz){xs:List α}{a:α}(hw:bG l ⟨some t, .load T x,ty,pos,after,gd⟩ s=some w)(hx:opd s x=some (.el id sz j 0))(hf:All (flagsI s w [x] []))(hd:Nat.blt t s.n=true)(b:s.st id=some (.arr T (xs.map f)))(hj:w=true->xs[j]?=some a)(ht:zG d l r=true)(k:Ev P l d r (s.put (some t) w (.pv (g a))) K):Ev P l d (⟨some t, .load T x,ty,pos,after,gd⟩::r) s K:=
 tE hw (λh=>wW pk.htt rfl hx b c.size (by grind) (c.ld _)) (λz hz=>aO (λ_ _ _ e=>by grind) hz) (flagsI.g hf).1 hd ht k
end
theorem aoC{tt:TT}(htt:bI P tt){t:Nat}{T T2:TypeId}{p:PV}(hx:opd s x=some p)(hp:gQ p=some rows)(hT:dM tt T=true):
  OpZ P ⟨some t, .binOp .eql T x (.const (.slice none 0 0)) T2,ty,pos,after,none⟩ s λz=>∃b,z=(s.st, .val (.bool b))/\(b=true->rows=[]):=by
 intro w g ρ hm hρ
 have i:=sW hp (hρ x (by simp[Op.operands]) _ hx)
 have j:=aL (hρ (.const (.slice none 0 0)) (by simp[Op.operands]) (.val (.slice none 0 0)) rfl)
 simp only[Rep]at i
 have⟨a,cap,ex,_,_,h4⟩:=i
 obtain⟨e,hu⟩:∃e,P.underlying T=some (.slice e):=by
  unfold dM at hT;split at hT
  ·rename_i e o;exact⟨e,cD (aR htt o).1⟩
  ·cases hT
 have h:(execOp ρ (⟨some t, .binOp .eql T x (.const (.slice none 0 0)) T2,ty,pos,after,none⟩:Oper)).run P w= .ok (.value (.bool a.isNone)) w:=by
  refine fH rfl ?_ ?_
  ·rw[ex,j];simp[eqGuard]
  ·rw[ex,j]
   have k:∀n l c,(Op.equalIn (n+1) T (.slice a l c) (.slice none 0 0)).run P w= .ok a.isNone w:=λn l c=>by
    rw[Op.equalIn]
    cases a<;>simp[run_underlying hu,Sem.run_bind]
   have m:=k 9999 rows.length cap;show(do pure (.bool (<-Op.equal T (.slice a rows.length cap) (.slice none 0 0))):Sem Value).run P w=_;simp only[Sem.run_bind,Op.equal];rw[show Op.maxDepth=9999+1 from rfl,m];rfl
 rw[h]
 refine⟨g,_,⟨a.isNone,rfl,λhb=>?_⟩,by simp[Rep],hm,Le.refl g,Frame.refl _ w g,λb hb=> .inl hb⟩
 rcases h4 with h4|⟨b,off,sz,rfl,_⟩
 ·exact h4
 ·cases hb
theorem aGC{tt:TT}(pk:Pk P tt){d:Md}{K:St->Prop}{t:Nat}{T T2:TypeId}{p:PV}(hx:opd s x=some p)(hp:gQ p=some rows)(hT:dM tt T=true)(hf:bS s [x, .const (.slice none 0 0)]=true)(hd:Nat.blt t s.n=true)(ht:jU d l r=true)(k:∀b,(b=true->rows=[])->Ev P l d r (s.pv t (.val (.bool b))) K):Ev P l d (⟨some t, .binOp .eql T x (.const (.slice none 0 0)) T2,ty,pos,after,none⟩::r) s K:=
 eM (aoC pk.htt hx hp hT) (λz hz=>aO (λ_ _ _ e=>by grind) hz) hf hd ht λz hz=>by
  obtain⟨b,rfl,hb⟩:=hz
  exact k b hb
end
section
section
variable{P:Program}{tt:TT}
def U8(n:Int):List PV:=[.val (.int .u8 n)]
def kF(ns:List Int):ByteArray:=ns.foldl (λs n=>s.push (UInt8.ofNat n.toNat)) ByteArray.empty
theorem akW{g:G}:∀{ns:List Int}{vs:List Value},RepL g ((ns.map U8).flatten) vs->vs=ns.map (Value.int .u8)
 |[],vs,h=>‹_›
 |n::ns,vs,h=>by
  obtain⟨v,c,rfl,a,b⟩:=h
  rw[aL a,akW b];rfl
theorem aCa{F:Value->ByteArray->Sem (ForInStep ByteArray)}(a:∀n r w,(F (.int .u8 n) r).run P w= .ok (.yield (r.push (UInt8.ofNat n.toNat))) w){w:World}:∀(ns:List Int)(s:ByteArray),(forIn (ns.map (Value.int .u8)) s F:Sem ByteArray).run P w= .ok (ns.foldl (λs n=>s.push (UInt8.ofNat n.toNat)) s) w
 |[],s=>rfl
 |n::ns,s=>by
  have b:=aCa a (w:=w) ns (s.push (UInt8.ofNat n.toNat))
  simp_all
theorem aI1(htt:bI P tt){T T2:TypeId}{p:PV}{ns:List Int}(ho:o.op= .convert T T2 x)(hx:opd s x=some p)(hp:gQ p=some (ns.map U8))(hk:tiK tt T=some (.slice e))(A:tiK tt e=some (.int .u8))(y:tiK tt T2=some .str):OpV P o s (.val (.string (kF ns))):=by
 refine aN λw g ρ hm hρ=>?_;have u:=sW hp (hρ x (by rw[ho];simp[Op.operands]) _ hx);have hu:=cD (aR htt hk).1;have q:=sX (aR htt A).1;have m:=pA (aR htt y).1;refine⟨.string (kF ns),?_,by simp[Rep]⟩;simp only[Rep]at u;have⟨a,cap,ex,D,h4,h5⟩:=u;have c:ns=[]->(Conv.bytesToString (.slice a (ns.map U8).length cap)).run P w= .ok (.string (kF ns)) w:=λh=>by
  subst h
  cases a with
  |none=>simp[Conv.bytesToString,kF]
  |some a=>simp[Conv.bytesToString,kF,loadCells,loadCellsFrom]
 have i:(Conv.bytesToString (.slice a (ns.map U8).length cap)).run P w= .ok (.string (kF ns)) w:=by
  rcases h5 with h5|⟨b,off,sz,rfl,z⟩
  ·exact c (by simpa using h5)
  ·by_cases h0:ns=[]
   ·exact c h0
   ·have⟨vs,B,E,C⟩:=z.vals
    have hv:=akW B;subst hv;have k:(ns.map (Value.int .u8)).length=(ns.map U8).length:=by simp
    have hl:=run_loadCells_list (P:=P) (w:=w) ⟨b,off,none⟩ (ns.map (Value.int .u8)) (λj v hj=>by rw[dA];exact nI hm (C j v hj).1);rw[k]at hl;simp only[Conv.bytesToString,Sem.run_bind,hl,Result.andThen_ok];rw[<-Array.forIn_toList];rw[aCa (P:=P) (w:=w) (λn r w=>by simp) ns ByteArray.empty];rfl
 simp only[execOp,ho,convert,ex,Sem.run_bind,run_underlying hu,run_underlying m,run_underlying q,Result.andThen_ok,i,Sem.run_pure]
theorem aI7{T T2:TypeId}{a b:ByteArray}(ho:o.op= .binOp .add T x y T2)(hx:opd s x=some (.val (.string a)))(hy:opd s y=some (.val (.string b)))(hs:(a.size:Int)+b.size<=9223372036854775807):OpV P o s (.val (.string (a++b))):=by
 refine aN λw g ρ hm hρ=>?_;have ex:=aL (hρ x (by rw[ho];simp[Op.operands]) _ hx);have c:=aL (hρ y (by rw[ho];simp[Op.operands]) _ hy);refine⟨.string _,fH ho rfl ?_,rfl⟩;rw[ex,c];have:¬(((a.size+b.size:Nat))>IntKind.i64.max):=by simp_all
 simp only[binOp,Op.stringOp,zn this,Sem.run_pure]
end
section
variable{P:Program}{tt:TT}{l:List Oper}{d:Md}{r:List Oper}{s:St}{K:St->Prop}{t:Nat}{op:Op}{ty:TypeId}{pos:String}{after:Array Edge}{gd:Option (Nat×Bool)}
theorem aNw(pk:Pk P tt)(ns:List Int){T T2:TypeId}{p:PV}(hw:bG l ⟨some t, .convert T T2 x,ty,pos,after,gd⟩ s=some w)(hx:opd s x=some p)(hp:gQ p=some (ns.map U8))(hk:tiK tt T=some (.slice e))(b:tiK tt e=some (.int .u8))(a:tiK tt T2=some .str)(hf:All (flagsI s w [x] []))(hd:Nat.blt t s.n=true)(ht:cX d l r=true)(k:Ev P l d r (s.put (some t) w (.pv (.val (.string (kF ns))))) K):Ev P l d (⟨some t, .convert T T2 x,ty,pos,after,gd⟩::r) s K:=
 dC hw (λ_ st'=>aI1 pk.htt rfl ((cA x).trans hx) hp hk b a) (λz hz=>aO (λ_ _ _ e=>by grind) hz) (flagsI.g hf).1 hd ht k
theorem aOu{T T2:TypeId}{a b:ByteArray}(hw:bG l ⟨some t, .binOp .add T x y T2,ty,pos,after,gd⟩ s=some w)(hx:opd s x=some (.val (.string a)))(hy:opd s y=some (.val (.string b)))(hf:All (flagsI s w [x,y] []))(hd:Nat.blt t s.n=true)(hs:w=true->(a.size:Int)+b.size<=9223372036854775807)(ht:cX d l r=true)(k:Ev P l d r (s.put (some t) w (.pv (.val (.string (a++b))))) K):Ev P l d (⟨some t, .binOp .add T x y T2,ty,pos,after,gd⟩::r) s K:=
 dC hw (λc st'=>aI7 rfl ((cA x).trans hx) ((cA y).trans hy) (hs c)) (λz hz=>aO (λ_ _ _ e=>by grind) hz) (flagsI.g hf).1 hd ht k
end
section
variable{P:Program}{tt:TT}{l:List Oper}{d:Md}{r:List Oper}{s:St}{K:St->Prop}{t:Nat}{op:Op}{ty:TypeId}{pos:String}{after:Array Edge}{gd:Option (Nat×Bool)}
theorem stF{f:α->List PV}(pk:Pk P tt){T T':TypeId}{xs:List α}(a c:α)(hx:opd s x=some (.el id sz j off))(hf:bS s [x,y]=true)(b:s.st id=some (.arr T' (xs.map f)))(hs:aP tt T'=some sz)(hj:xs[j]?=some a)(hp:mI tt s T y (f a) off=some (f c))(ht:jU d l r=true)(k:Ev P l d r (s.sst (upd s.st id (some (.arr T' ((xs.set j c).map f))))) K):Ev P l d (⟨none, .store T x y,ty,pos,after,none⟩::r) s K:=by
 refine eM (uH pk.htt hx b hs (by grind) hp) (λz hz=>aO (λ_ _ _ e=>by grind) hz) hf rfl ht λz hz=>?_
 subst hz
 rw[List.map_set]at k
 exact k
theorem aKY(u:Nat){o:Oper}{id sz n T:Nat}{rows:List (List PV)}(hx:s.env u=(true, .pv (.vec id sz 0 n)))(h:s.st id=some (.arr T rows))(hn:rows.length=n)(hT:P.cellsOf T=sz)(k:Ev P l .seq (o::r) ((s.sst (upd s.st id none)).pv u (.seq rows)) K):Ev P l .seq (o::r) s K:=by
 subst hn;intro c a w g lam hs;obtain⟨g',b⟩:=hs.subF (s2:=(s.sst _).pv u _) h hT ⟨λv=>by
   by_cases hv:v=u
   ·subst hv;exact .inr (.inr ⟨_,_,hx,aA _ _ _, .all⟩)
   ·right;left;exact aB hv,λv T cs e=>⟨cs,e,FzL.refl cs⟩,zsr _,rfl,rfl,λv w x off e=>by
   by_cases hv:v=u
   ·subst hv;have:upd _ v _ v=_:=e;rw[aA]at this;cases this
   ·have:upd _ u _ v=_:=e;rw[aB hv]at this;exact hs.ad v w x off this,hs.adL⟩
 exact k c a w g' lam b
end
def LE(T sz:Nat)(st:aD)(rows:List (List PV))(p:PV)(st':aD):Prop:=
 (∃id,p= .vec id sz 0 rows.length/\st'=upd st id (some (.arr T rows))/\st id=none)\/(p= .emp/\st'=st/\rows=[])
theorem abQ{f:FuncId}(h:PC P f args st R)(b:∀p st',R p st'->∃q st2,Wk p q/\StSub st2 st'/\R' q st2):PC P f args st R':=
 eS (sz:=0) h λp st' a=> .inr (b p _ a)
theorem aNt{f:FuncId}{T:Nat}(h:PC P f args st (LR T sz st rows)):PC P f args st (LE T sz st rows):=
 abQ h λp st' k=>by
  rcases k with⟨id,e,b,c,i⟩|⟨e,b,c⟩
  ·refine⟨p,upd _ _ _,zwr p,λj=>?_, .inl ⟨id,e,rfl,b⟩⟩
   by_cases hj:j=id
   ·right;rw[hj,aA,c]
   ·rw[aB hj]
    rcases i j with h|h
    ·exact .inl h
    ·right;rw[h,aB hj]
  ·refine⟨.emp,st,λg v m=>?_,c, .inr ⟨rfl,rfl,b⟩⟩
   obtain⟨a,rfl⟩:=qO e m;exact⟨a,rfl⟩
theorem SI.empV{c:Ctx}{a:Act}{w:World}{g:G}{lam:Nat->Nat}(hs:SI P c s a w g lam)(t:Nat)(T sz:Nat)(hx:s.env t=(true, .pv q))(hq:isEmp q=true)(hd:Nat.blt t s.n=true):
  ∃id g',s.st id=none/\SI P c ((s.sst (upd s.st id (some (.arr T [])))).pv t (.vec id sz 0 0)) a w g' lam:=by
 have⟨j,g',x,m,o,m1,p,u,v⟩:=qE hs.mem T
 have i:=hs.step m1 p u v
 have hn:t<s.n:=by simp_all
 obtain⟨b,hv⟩:∃b,a.tmps.getD t undef= .slice b 0 0:=by
  have:=hs.env t;rw[hx]at this;exact qO hq this
 have h:=i.put (d:=some t) (b:=true) (e:= .pv (.vec j sz 0 0)) (λz hz=>by cases hz;exact hn) (o sz b) λ_ _ e=>by cases e
 have ha:a.put (some t) (.slice b 0 0)=a:=by
  have k:t<a.tmps.size:=by rw[hs.n];exact hn
  have y:=by simpa[k]using hv
  simp only[Act.put];cases a with
  |mk tmps defers=>
   congr 1
   grind
 rw[ha]at h
 exact⟨j,g',m,h⟩
theorem cL{P:Program}{b:Code}{Q:Exit->St->Prop}{s:St}(t:Nat)(T sz:Nat){q:PV}(hx:s.env t=(true, .pv q))(hq:isEmp q=true)(hd:Nat.blt t s.n=true)(k:∀id,s.st id=none->PWp P b Q ((s.sst (upd s.st id (some (.arr T [])))).pv t (.vec id sz 0 0))):PWp P b Q s:=by
 intro c a w g lam hs;obtain⟨id,g',e,h⟩:=hs.empV t T _ hx hq hd;exact k _ e c a w _ _ h
end
end Go.Abs
