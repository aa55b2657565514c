import Derived.Test.YtcglimangneafaaGreatDoorAbsC
import Derived.Laws.Bits64
import Derived.Test.YtcglimangneafaaGreatDoorAbsD
import Derived.KernelRfl
set_option linter.unusedSimpArgs false
set_option linter.unusedVariables false
namespace Go.Abs
open Go
inductive Imp :Bool→Bool→Prop
  |one {w:Bool}:Imp w true
  |same {w:Bool}:Imp w w
  |left {w x b f:Bool} (h:Imp w f):Imp (gw w x b) f
theorem Imp.ok {w f:Bool} (h:Imp w f):w=true→f=true:=by
  induction h with
  |one=>exact fun _=>rfl
  |same=>exact fun h=>h
  |left _ ih=>exact fun h=>ih (akZ h)
inductive ImpX :Bool→Bool→Bool→Bool→Prop
  |one {w x b:Bool}:ImpX w x b true
  |same {w x:Bool}:ImpX w x true x
  |mk {w x b:Bool}:ImpX w x b (gw w x b)
  |up {w x y c b f:Bool} (h:ImpX w x b f):ImpX (gw w y c) x b f
  |old {w x b f:Bool} (h:Imp w f):ImpX w x b f
theorem ImpX.ok {w x b f:Bool} (h:ImpX w x b f):w=true→x=b→f=true:=by
  induction h with
  |one=>exact fun _ _=>rfl
  |same=>exact fun _ h=>h
  |mk=>
    rename_i w x b
    intro hw hx
    subst hw;subst hx
    cases x<;>rfl
  |up _ ih=>exact fun h=>ih (akZ h)
  |old h=>exact fun hw _=>h.ok hw
def flagsI (s:St) (w:Bool):List Operand→List Prop→List Prop
  |[],A=>A
  |x::xs,A=>Imp w (hY s x)::flagsI s w xs A
inductive All :List Prop→Prop
  |nil:All []
  |cons {p:Prop} {ps:List Prop} (h:p) (t:All ps):All (p::ps)
theorem All.hd {p:Prop} {ps:List Prop} (h:All (p::ps)):p:=by cases h;assumption
theorem All.tl {p:Prop} {ps:List Prop} (h:All (p::ps)):All ps:=by cases h;assumption
theorem flagsI.g {s:St} {w:Bool}:∀{xs:List Operand} {A:List Prop},All (flagsI s w xs A)→fT s w xs∧All A
  |[],_,h=>⟨trivial,h⟩
  |_::_,_,h=>⟨⟨h.hd.ok,(flagsI.g h.tl).1⟩,(flagsI.g h.tl).2⟩
structure Out where
  s:St
  a:List Prop
  b:List Prop
def okD (s:St) (t:Nat) (o:Out):Option Out:=bif Nat.blt t s.n then some o else none
def auB (op:BinOp) (s:St) (x y:Operand):Option (Int×Prop):=
  match opd s x,opd s y with
  |some (.val (.int .i64 a)),some (.val (.int .i64 b))=>match op with
    | .add=>some (a+b, -9223372036854775808≤a+b∧a+b≤9223372036854775807)
    | .sub=>some (a-b, -9223372036854775808≤a-b∧a-b≤9223372036854775807)
    | .mul=>some (a*b, -9223372036854775808≤a*b∧a*b≤9223372036854775807)
    | .quo=>some (a/b,(0≤a∧a≤9223372036854775807)∧0<b)
    | .rem=>some (a%b,(0≤a∧a≤9223372036854775807)∧0<b)
    |_=>none
  |_,_=>none
def avJ :BinOp→Bool
  | .add| .sub| .mul| .quo| .rem=>true
  |_=>false
def okF (s:St) (w un:Bool) (xs:List Operand) (t:Nat) (e:E) (A B:List Prop):Option Out:=
  match un with
  |true=>match bM s xs with
    |true=>okD s t ⟨s.put (some t) true e,A,B⟩
    |false=>none
  |false=>okD s t ⟨s.put (some t) w e,flagsI s w xs A,B⟩
def anU (tt:TT) (w un:Bool) (op:Op) (t:Nat) (s:St) (A B:List Prop):Option Out:=
  match yA tt s op with
  |some p=>okF s w un (opl op) t (.pv p) A B
  |none=>none
def akY (tt:TT) (w un:Bool) (op:Op) (t:Nat) (s:St) (A B:List Prop):Option Out:=
  match op with
  | .fieldAddr T (.tmp x) f=>match s.env x with
    |(_, .adr _ _)=>match auE tt s (.fieldAddr T (.tmp x) f) with
      |some (_,u,off)=>okF s w un [.tmp x] t (.adr u off) A B
      |none=>none
    |_=>anU tt w un (.fieldAddr T (.tmp x) f) t s A B
  | .load T (.tmp x)=>match s.env x with
    |(_, .adr u off)=>match s.L u with
      |some (_,cs)=>match jN tt T cs off with
        |some p=>okF s w un [.tmp x] t (.pv p) A B
        |none=>none
      |none=>none
    |_=>anU tt w un (.load T (.tmp x)) t s A B
  | .alloc T=>match un,s.ad t,atA tt T with
    |true,false,some cs=>okD s t ⟨s.var t T cs,A,B⟩
    |_,_,_=>none
  | .box T x=>match un,s.ad t,hY s x,anO s x with
    |true,false,true,some cs=>okD s t ⟨s.var t T cs,A,B⟩
    |_,_,_,_=>none
  | .pick (.tmp u) a b=>match s.env u with
    |(wt, .pv (.val (.bool x)))=>match b with
      | .const (.bool false)=>match opd s a with
        |some (.val (.bool y))=>okD s t ⟨s.put (some t) w (.pv (.val (.bool (x&&y)))),Imp w wt::ImpX w x true (hY s a)::A,B⟩
        |_=>none
      |b=>match a with
        | .const (.bool true)=>match opd s b with
          |some (.val (.bool y))=>okD s t ⟨s.put (some t) w (.pv (.val (.bool (x||y)))),Imp w wt::ImpX w x false (hY s b)::A,B⟩
          |_=>none
        |_=>none
    |_=>none
  | .buildSlice T len ps=>match pI tt s T len ps.toList with
    |some p=>okF s w un (opl (.buildSlice T len ps)) t (.pv p) A B
    |none=>none
  | .binOp op T x y T2=>match avJ op with
    |true=>match auB op s x y with
      |some (c,b)=>match un with
        |true=>okF s w true [x,y] t (.pv (.val (.int .i64 c))) A (b::B)
        |false=>okF s w false [x,y] t (.pv (.val (.int .i64 c))) A ((w=true→b)::B)
      |none=>none
    |false=>anU tt w un (.binOp op T x y T2) t s A B
  | .unOp .neg _ x=>match opd s x with
    |some (.val (.int .i64 a))=>match un with
      |true=>okF s w true [x] t (.pv (.val (.int .i64 (0-a)))) A ((-9223372036854775808≤0-a∧0-a≤9223372036854775807)::B)
      |false=>okF s w false [x] t (.pv (.val (.int .i64 (0-a)))) A ((w=true→ -9223372036854775808≤0-a∧0-a≤9223372036854775807)::B)
    |_=>none
  |op=>anU tt w un op t s A B
def akJ (tt:TT) (l:List Oper) (o:Oper) (s:St) (A B:List Prop):Option Out:=
  match o with
  |⟨some t,op,_,_,_,none⟩=>akY tt true true op t s A B
  |⟨some t,op,ty,pos,after,some g⟩=>match bH l ⟨some t,op,ty,pos,after,some g⟩ s with
    |some w=>akY tt w false op t s A B
    |none=>none
  |⟨none, .store T (.tmp x) y,_,_,_,none⟩=>match s.env x with
    |(true, .adr u off)=>match s.L u with
      |some (T',cs)=>match iW tt s T y cs off with
        |some cs'=>match hY s y with
          |true=>some ⟨s.setv u T' cs',A,B⟩
          |false=>none
        |none=>none
      |none=>none
    |_=>none
  |_=>none
section
variable {P:Program} {tt:TT} {l:List Oper} {d:Md} {r:List Oper} {s:St} {K:St→Prop} {t:Nat} {op:Op} {ty:TypeId} {pos:String} {after:Array Edge} {gd:Option (Nat×Bool)}
theorem rX {o o':Out} (h:okD s t o=some o'):Nat.blt t s.n=true∧o'=o:=by
  unfold okD at h
  cases hb:Nat.blt t s.n with
  |false=>rw [hb] at h;simp at h
  |true=>rw [hb] at h;simp at h;exact ⟨rfl,h.symm⟩
theorem iK {w un:Bool} {e:E} {A B:List Prop} {o:Out} {xs:List Operand} (hun:un=true→w=true) (h:okF s w un xs t e A B=some o) (ha:All o.a) (hb:All o.b):Nat.blt t s.n=true∧fT s w xs∧o.s=s.put (some t) w e∧All A∧All B:=by
  unfold okF at h
  split at h
  · split at h
    · rename_i hf
      obtain ⟨hd,rfl⟩:=rX h
      have:=hun rfl
      subst this
      refine ⟨hd, ?_,rfl,ha,hb⟩
      clear h ha hb hd
      induction xs with
      |nil=>trivial
      |cons x xs ih=>
        simp only [bM,Bool.and_eq_true] at hf
        exact ⟨fun _=>hf.1,ih hf.2⟩
    · cases h
  · obtain ⟨hd,rfl⟩:=rX h
    have:=flagsI.g ha
    exact ⟨hd,this.1,rfl,this.2,hb⟩
theorem kU (htt:bI P tt) {w un:Bool} {A B:List Prop} {o:Out} (hun:un=true→w=true) (hw:bH l ⟨some t,op,ty,pos,after,gd⟩ s=some w) (h:anU tt w un op t s A B=some o) (ha:All o.a) (hb:All o.b) (ht:cI d l r=true) (k:Ev P l d r o.s K):Ev P l d (⟨some t,op,ty,pos,after,gd⟩::r) s K∧All A∧All B:=by
  unfold anU at h
  split at h
  · rename_i p hp
    obtain ⟨hd,hf,e,h1,h2⟩:=iK hun h ha hb
    rw [e] at k
    exact ⟨avU htt hw hp hf hd ht k,h1,h2⟩
  · cases h
theorem sO (htt:bI P tt) {w un:Bool} {A B:List Prop} {o:Out} (hun:un=true→gd=none∧w=true) (hw:bH l ⟨some t,op,ty,pos,after,gd⟩ s=some w) (h:akY tt w un op t s A B=some o) (ha:All o.a) (hb:All o.b) (ht:cI d l r=true) (k:Ev P l d r o.s K):Ev P l d (⟨some t,op,ty,pos,after,gd⟩::r) s K∧All A∧All B:=by
  have hun2:un=true→w=true:=fun e=>(hun e).2
  unfold akY at h
  split at h
  · rename_i T x f
    split at h
    · rename_i wx _ _ hx
      split at h
      · rename_i wx' u off hp
        obtain ⟨hd,hf,e,h1,h2⟩:=iK hun2 h ha hb
        rw [e] at k
        refine ⟨arV htt hw hp (fun hw'=> ?_) hd ht k,h1,h2⟩
        have h3:=hf.1 hw'
        simp only [auE,hx] at hp
        simp only [hY,hx] at h3
        split at hp
        · split at hp
          · split at hp
            · injection hp with hp;injection hp with hp _;rw [←hp];exact h3
            · cases hp
          · cases hp
        · cases hp
      · cases h
    · exact kU htt hun2 hw h ha hb ht k
  · rename_i T x
    split at h
    · rename_i wx u off hx
      split at h
      · rename_i T' cs hL
        split at h
        · rename_i p hp
          obtain ⟨hd,hf,e,h1,h2⟩:=iK hun2 h ha hb
          rw [e] at k
          exact ⟨alD htt hw hx hL hp (fun hw'=>by have:=hf.1 hw';simpa [hY,hx] using this) hd ht k,h1,h2⟩
        · cases h
      · cases h
    · exact kU htt hun2 hw h ha hb ht k
  · rename_i T
    split at h
    · rename_i cs had hz
      obtain ⟨hd,rfl⟩:=rX h
      have:=(hun rfl).1
      subst this
      exact ⟨afF htt hz hd had ht k,ha,hb⟩
    · cases h
  · rename_i T x
    split at h
    · rename_i cs had hf hz
      obtain ⟨hd,rfl⟩:=rX h
      have:=(hun rfl).1
      subst this
      exact ⟨azD hz hf hd had ht k,ha,hb⟩
    · cases h
  · rename_i u a b
    split at h
    · rename_i wt x hu
      split at h
      · split at h
        · rename_i y hy
          obtain ⟨hd,rfl⟩:=rX h
          exact ⟨azB hw hu hy ha.hd.ok (fun h1 h2=>ha.tl.hd.ok h1 h2) hd ht k,ha.tl.tl,hb⟩
        · cases h
      · split at h
        · split at h
          · rename_i y hy
            obtain ⟨hd,rfl⟩:=rX h
            exact ⟨aAy hw hu hy ha.hd.ok (fun h1 h2=>ha.tl.hd.ok h1 h2) hd ht k,ha.tl.tl,hb⟩
          · cases h
        · cases h
    · cases h
  · rename_i T len ps
    split at h
    · rename_i p hp
      obtain ⟨hd,hf,e,h1,h2⟩:=iK hun2 h ha hb
      rw [e] at k
      exact ⟨arM htt hw hp hf hd ht k,h1,h2⟩
    · cases h
  · rename_i op T x y T2
    split at h
    · rename_i hia
      split at h
      · rename_i c b hab
        have key:∀{bb:Prop},(bb→w=true→b)→okF s w un [x,y] t (.pv (.val (.int .i64 c))) A (bb::B)=some o→Ev P l d (⟨some t, .binOp op T x y T2,ty,pos,after,gd⟩::r) s K∧All A∧All B:=by
          intro bb hbb h
          obtain ⟨hd,hf,e,h1,h2⟩:=iK hun2 h ha hb
          rw [e] at k
          refine ⟨?_,h1,h2.tl⟩
          have hb':=hbb h2.hd
          unfold auB at hab
          split at hab
          · rename_i a1 b1 hx hy
            cases op<;>simp only at hab<;>first|(cases hab;done)|skip
            all_goals injection hab with hab
            all_goals injection hab with h1 h2
            all_goals subst h1
            all_goals subst h2
            · exact awQ _ hw hx hy hf hd (fun _=>rfl) (fun h=>(hb' h).1) (fun h=>(hb' h).2) ht k
            · exact axF _ hw hx hy hf hd (fun _=>rfl) (fun h=>(hb' h).1) (fun h=>(hb' h).2) ht k
            · exact iJ hw hx hy (fun h=> .inr (.inr (.inl ⟨rfl,rT (hb' h).1 (hb' h).2⟩))) hf hd ht k
            · refine iJ hw hx hy (fun h=> .inr (.inr (.inr (.inl ⟨rfl,by have:=(hb' h).2;omega, ?_⟩)))) hf hd ht k
              have h1:=(hb' h).1
              have h2:=(hb' h).2
              rw [Int.tdiv_eq_ediv_of_nonneg h1.1]
              have h3:=Int.ediv_le_self b1 h1.1
              have h4:=Int.ediv_nonneg h1.1 (Int.le_of_lt h2)
              exact rT (by omega) (by omega)
            · refine iJ hw hx hy (fun h=> .inr (.inr (.inr (.inr ⟨rfl,by have:=(hb' h).2;omega, ?_⟩)))) hf hd ht k
              rw [Int.tmod_eq_emod_of_nonneg (hb' h).1.1]
          · cases hab
        split at h
        · exact key (fun h _=>h) h
        · exact key (fun h=>h) h
      · cases h
    · exact kU htt hun2 hw h ha hb ht k
  · rename_i T x
    split at h
    · rename_i a hx
      have key:∀{bb:Prop},(bb→w=true→ -9223372036854775808≤0-a∧0-a≤9223372036854775807)→okF s w un [x] t (.pv (.val (.int .i64 (0-a)))) A (bb::B)=some o→Ev P l d (⟨some t, .unOp .neg T x,ty,pos,after,gd⟩::r) s K∧All A∧All B:=by
        intro bb hbb h
        obtain ⟨hd,hf,e,h1,h2⟩:=iK hun2 h ha hb
        rw [e] at k
        exact ⟨cO hw (fun hw' _=>awU rfl hx (rT (hbb h2.hd hw').1 (hbb h2.hd hw').2)) (fun z hz=>aW (fun _ _ _ e=>by cases e) hz) hf hd ht k,h1,h2.tl⟩
      split at h
      · exact key (fun h _=>h) h
      · exact key (fun h=>h) h
    · cases h
  · exact kU htt hun2 hw h ha hb ht k
theorem afE (htt:bI P tt) {o:Oper} {A B:List Prop} {x:Out} (h:akJ tt l o s A B=some x) (ha:All x.a) (hb:All x.b) (ht:cI d l r=true) (k:Ev P l d r x.s K):Ev P l d (o::r) s K∧All A∧All B:=by
  unfold akJ at h
  split at h
  · exact sO htt (fun _=>⟨rfl,rfl⟩) rfl h ha hb ht k
  · split at h
    · rename_i w hw
      exact sO htt (fun e=>by cases e) hw h ha hb ht k
    · cases h
  · split at h
    · rename_i u off hx
      split at h
      · rename_i T' cs hL
        split at h
        · rename_i cs' hp
          split at h
          · rename_i hf
            injection h with h;subst h
            exact ⟨adP htt hx hL hp hf ht k,ha,hb⟩
          · cases h
        · cases h
      · cases h
    · cases h
  · cases h
inductive Fr where
  |seq (c:Code)
  |blk (id:Nat)
def dD (P:Program):List Fr→(Exit→St→Prop)→Exit→St→Prop
  |[],Q=>Q
  | .seq c::k,Q=>axU (PWp P c (dD P k Q)) (dD P k Q)
  | .blk id::k,Q=>oW id (dD P k Q)
def zL (P:Program) (k:List Fr) (Q:Exit→St→Prop) (s:St):Prop:=dD P k Q .normal s
inductive Bx where
  |mk (a b g:Prop)
inductive Rn where
  |mk (s:St) (r:List Oper) (A B:List Prop)
def aiP (tt:TT) (d:Md) (l:List Oper):List Oper→St→List Prop→List Prop→Rn
  |[],s,A,B=> .mk s [] A B
  |o::r,s,A,B=>match cI d l r with
    |true=>match akJ tt l o s A B with
      |some ⟨s',A',B'⟩=>aiP tt d l r s' A' B'
      |none=> .mk s (o::r) A B
    |false=> .mk s (o::r) A B
theorem jE (htt:bI P tt):∀{r:List Oper} {s:St} {A B:List Prop} {s':St} {r':List Oper} {A' B':List Prop},aiP tt d l r s A B= .mk s' r' A' B'→All A'→All B'→Ev P l d r' s' K→Ev P l d r s K∧All A∧All B
  |[],_,_,_,_,_,_,_,e,ha,hb,h=>by
    simp only [aiP] at e
    injection e with e1 e2 e3 e4
    subst e1;subst e2;subst e3;subst e4
    exact ⟨h,ha,hb⟩
  |o::r,s,A,B,s',r',A',B',e,ha,hb,h=>by
    simp only [aiP] at e
    split at e
    · rename_i ht
      split at e
      · rename_i s1 A1 B1 hs
        obtain ⟨h1,h2,h3⟩:=jE htt e ha hb h
        exact afE htt hs h2 h3 ht h1
      · injection e with e1 e2 e3 e4
        subst e1;subst e2;subst e3;subst e4
        exact ⟨h,ha,hb⟩
    · injection e with e1 e2 e3 e4
      subst e1;subst e2;subst e3;subst e4
      exact ⟨h,ha,hb⟩
inductive Pt where
  |code (c:Code)
  |norm
  |out (id:Nat)
def holds (P:Program) (k:List Fr) (Q:Exit→St→Prop) (s:St):Pt→Prop
  | .code c=>PWp P c (dD P k Q) s
  | .norm=>dD P k Q .normal s
  | .out id=>dD P k Q (.exit id) s
def atU (P:Program) (pt:Pt) (k:List Fr) (Q:Exit→St→Prop) (s:St) (A B:List Prop):Bx:=
  match pt with
  | .code c=> .mk (All A) (All B) (PWp P c (dD P k Q) s)
  | .norm=> .mk (All A) (All B) (dD P k Q .normal s)
  | .out id=> .mk (All A) (All B) (dD P k Q (.exit id) s)
def adv (P:Program) (tt:TT):Nat→Pt→List Fr→(Exit→St→Prop)→St→List Prop→List Prop→Bx
  |0,pt,k,Q,s,A,B=>atU P pt k Q s A B
  |n+1, .norm,k,Q,s,A,B=>match k with
    |[]=> .mk (All A) (All B) (Q .normal s)
    | .seq c'::k'=>adv P tt n (.code c') k' Q s A B
    | .blk _::k'=>adv P tt n .norm k' Q s A B
  |n+1, .out id,k,Q,s,A,B=>match k with
    |[]=> .mk (All A) (All B) (Q (.exit id) s)
    | .seq _::k'=>adv P tt n (.out id) k' Q s A B
    | .blk id'::k'=>match Nat.beq id id' with
      |true=>adv P tt n .norm k' Q s A B
      |false=>adv P tt n (.out id) k' Q s A B
  |n+1, .code c,k,Q,s,A,B=>match c with
    | .skip=>adv P tt n .norm k Q s A B
    | .exit id=>adv P tt n (.out id) k Q s A B
    | .seq x y=>adv P tt n (.code x) (.seq y::k) Q s A B
    | .block id x=>adv P tt n (.code x) (.blk id::k) Q s A B
    | .region _ ops false=>match aiP tt .seq ops.toList ops.toList s A B with
      | .mk s' [] A' B'=>adv P tt n .norm k Q s' A' B'
      | .mk s' (o::r) A' B'=> .mk (All A') (All B') (Ev P ops.toList .seq (o::r) s' (zL P k Q))
    |c=> .mk (All A) (All B) (PWp P c (dD P k Q) s)
theorem gM (htt:bI P tt):∀(n:Nat) (pt:Pt) (k:List Fr) (Q:Exit→St→Prop) (s:St) (A B:List Prop) {a b g:Prop},adv P tt n pt k Q s A B= .mk a b g→a→b→g→holds P k Q s pt∧All A∧All B:=by
  intro n
  induction n with
  |zero=>
    intro pt k Q s A B a b g h ha hb hg
    cases pt<;>simp only [adv,atU] at h<;>injection h with h1 h2 h3<;>subst h1<;>subst h2<;>subst h3<;>exact ⟨hg,ha,hb⟩
  |succ n ih=>
    intro pt k Q s A B a b g h ha hb hg
    have fin':∀{H:Prop},Bx.mk (All A) (All B) H= .mk a b g→H∧All A∧All B:=fun {H} e=>by
      injection e with h1 h2 h3
      subst h1;subst h2;subst h3
      exact ⟨hg,ha,hb⟩
    cases pt with
    |norm=>
      simp only [adv] at h
      split at h
      · exact fin' h
      · have:=ih _ _ _ _ _ _ h ha hb hg;exact this
      · have:=ih _ _ _ _ _ _ h ha hb hg;exact this
    |out id=>
      simp only [adv] at h
      split at h
      · exact fin' h
      · have:=ih _ _ _ _ _ _ h ha hb hg;exact this
      · rename_i id' k'
        split at h
        · rename_i hid
          have:=Nat.eq_of_beq_eq_true hid
          obtain ⟨h1,h2⟩:=ih _ _ _ _ _ _ h ha hb hg
          refine ⟨?_,h2⟩
          show oW id' (dD P k' Q) (.exit id) s
          simp only [oW,if_pos this]
          exact h1
        · rename_i hid
          have:id≠id':=fun e=>by subst e;rw [Nat.beq_refl] at hid;cases hid
          obtain ⟨h1,h2⟩:=ih _ _ _ _ _ _ h ha hb hg
          refine ⟨?_,h2⟩
          show oW id' (dD P k' Q) (.exit id) s
          simp only [oW,if_neg this]
          exact h1
    |code c=>
      have reg:∀{ops:Array Oper},(match aiP tt .seq ops.toList ops.toList s A B with
            | .mk s' [] A' B'=>adv P tt n .norm k Q s' A' B'
            | .mk s' (o::r) A' B'=> .mk (All A') (All B') (Ev P ops.toList .seq (o::r) s' (zL P k Q)))=Bx.mk a b g→Ev P ops.toList .seq ops.toList s (zL P k Q)∧All A∧All B:=by
        intro ops e
        split at e
        · rename_i s' A' B' hr
          obtain ⟨h1,h2,h3⟩:=ih _ _ _ _ _ _ e ha hb hg
          exact jE htt hr h2 h3 (nA h1)
        · rename_i s' o r A' B' hr
          injection e with h1 h2 h3
          subst h1;subst h2;subst h3
          exact jE htt hr ha hb hg
      simp only [adv] at h
      split at h
      · obtain ⟨h1,h2⟩:=ih _ _ _ _ _ _ h ha hb hg
        exact ⟨asC h1,h2⟩
      · obtain ⟨h1,h2⟩:=ih _ _ _ _ _ _ h ha hb hg
        exact ⟨aqZ h1,h2⟩
      · obtain ⟨h1,h2⟩:=ih _ _ _ _ _ _ h ha hb hg
        exact ⟨avI h1,h2⟩
      · obtain ⟨h1,h2⟩:=ih _ _ _ _ _ _ h ha hb hg
        exact ⟨alW h1,h2⟩
      · obtain ⟨h1,h2⟩:=reg h
        exact ⟨fC (Q:=dD P k Q) (l:=Array.toList _) h1,h2⟩
      · exact fin' h
structure Pk (P:Program) (tt:TT):Prop where
  hm:P.follows .mixedOrders=true
  htt:bI P tt
theorem go0 (pk:Pk P tt) {c:Code} {Q:Exit→St→Prop} {a b g:Prop} (h:adv P tt 1000 (.code c) [] Q s [] []= .mk a b g) (ha:a) (hb:b) (hg:g):PWp P c Q s:=
  (gM pk.htt _ _ _ _ _ _ _ h ha hb hg).1
theorem go (pk:Pk P tt) {c:Code} {k:List Fr} {Q:Exit→St→Prop} {a b g:Prop} (h:adv P tt 1000 (.code c) k Q s [] []= .mk a b g) (ha:a) (hb:b) (hg:g):PWp P c (dD P k Q) s:=
  (gM pk.htt _ _ _ _ _ _ _ h ha hb hg).1
theorem goN (pk:Pk P tt) {k:List Fr} {Q:Exit→St→Prop} {a b g:Prop} (h:adv P tt 1000 .norm k Q s [] []= .mk a b g) (ha:a) (hb:b) (hg:g):dD P k Q .normal s:=
  (gM pk.htt _ _ _ _ _ _ _ h ha hb hg).1
theorem goX (pk:Pk P tt) {id:Nat} {k:List Fr} {Q:Exit→St→Prop} {a b g:Prop} (h:adv P tt 1000 (.out id) k Q s [] []= .mk a b g) (ha:a) (hb:b) (hg:g):dD P k Q (.exit id) s:=
  (gM pk.htt _ _ _ _ _ _ _ h ha hb hg).1
def ahF (P:Program) (tt:TT) (l:List Oper) (d:Md) (r:List Oper) (s:St) (k:List Fr) (Q:Exit→St→Prop):Bx:=
  match aiP tt d l r s [] [] with
  | .mk s' [] A' B'=>adv P tt 1000 .norm k Q s' A' B'
  | .mk s' (o::r) A' B'=> .mk (All A') (All B') (Ev P l d (o::r) s' (zL P k Q))
theorem goE (pk:Pk P tt) {k:List Fr} {Q:Exit→St→Prop} {a b g:Prop} (h:ahF P tt l d r s k Q= .mk a b g) (ha:a) (hb:b) (hg:g):Ev P l d r s (zL P k Q):=by
  unfold ahF at h
  split at h
  · rename_i s' A' B' hr
    obtain ⟨h1,h2,h3⟩:=gM pk.htt _ _ _ _ _ _ _ h ha hb hg
    exact (jE pk.htt hr h2 h3 (nA h1)).1
  · rename_i s' o r A' B' hr
    injection h with h1 h2 h3
    subst h1;subst h2;subst h3
    exact (jE pk.htt hr ha hb hg).1
theorem goD (pk:Pk P tt) {id:Nat} {ops:Array Oper} {k:List Fr} {Q:Exit→St→Prop} {a b g:Prop} {z rd:List Nat} (hl:amB ops.toList (.draw z rd)=true) (hF:ahX ops.toList s=true) (h:ahF P tt ops.toList (.draw z rd) ops.toList s k Q= .mk a b g) (ha:a) (hb:b) (hg:g):PWp P (.region id ops true) (dD P k Q) s:=
  tT (l:=ops.toList) pk.hm hl hF (goE pk h ha hb hg)
theorem aI {f:Operand} {args:Array Operand} {ts:Array TypeId} {fid:FuncId} {caps ps:List PV} {w:Bool} {p:PV} (hw:bH l ⟨some t, .call ⟨.value f,args,ts⟩,ty,pos,after,gd⟩ s=some w) (hf:opd s f=some (.fn fid caps)) (hps:lK s args.toList=some ps) (h:w=true→PF P fid (ps++caps) p) (hfl:All (flagsI s w (f::args.toList) [])) (hd:Nat.blt t s.n=true)
    (ht:cI d l r=true) (k:Ev P l d r (s.put (some t) w (.pv p)) K):Ev P l d (⟨some t, .call ⟨.value f,args,ts⟩,ty,pos,after,gd⟩::r) s K:=
  aqS hw hf hps h (flagsI.g hfl).1 hd ht k
theorem aAi {f:Operand} {args:Array Operand} {ts:Array TypeId} {fid:FuncId} {caps ps:List PV} {w:Bool} (qs:List PV) {p:PV} (hw:bH l ⟨some t, .call ⟨.value f,args,ts⟩,ty,pos,after,gd⟩ s=some w) (hf:opd s f=some (.fn fid caps)) (hps:lK s args.toList=some ps) (hq:WkL ps qs) (h:w=true→PF P fid (qs++caps) p) (hfl:All (flagsI s w (f::args.toList) [])) (hd:Nat.blt t s.n=true)
    (ht:cI d l r=true) (k:Ev P l d r (s.put (some t) w (.pv p)) K):Ev P l d (⟨some t, .call ⟨.value f,args,ts⟩,ty,pos,after,gd⟩::r) s K:=
  cO hw (fun hw' _=>afX rfl hf ((pJ _).trans hps) hq (h hw')) (fun _ hx=>aW (fun _ _ _ e=>by cases e) hx) (flagsI.g hfl).1 hd ht k
theorem aM (pk:Pk P tt) {T e:TypeId} {x y:Operand} {w:Bool} {p:PV} {rows:List (List PV)} {kk:IntKind} {n:Int} {j sz:Nat} {row:List PV} (hw:bH l ⟨some t, .indexAddr T x y,ty,pos,after,gd⟩ s=some w) (hx:opd s x=some p) (hp:fO p=some rows) (hy:opd s y=some (.val (.int kk n))) (hk:tiK tt T=some (.slice e)) (hs:aS tt e=some sz) (hf:All (flagsI s w [x,y] [])) (hd:Nat.blt t s.n=true)
    (hj:w=true→n=(j:Int)) (hr:w=true→rows[j]?=some row) (hl:w=true→row.length=sz) (ht:cI d l r=true) (k:Ev P l d r (s.put (some t) w (.pv (.rp row))) K):Ev P l d (⟨some t, .indexAddr T x y,ty,pos,after,gd⟩::r) s K:=
  anP pk.htt hw hx hp hy hk hs (flagsI.g hf).1 hd hj hr hl ht k
theorem aqB (pk:Pk P tt) {T:TypeId} {x:Nat} {y:Operand} {w wx:Bool} {u off n e sz:Nat} {kk:IntKind} {i:Int} (j:Nat) (hw:bH l ⟨some t, .indexAddr T (.tmp x) y,ty,pos,after,gd⟩ s=some w) (hx:s.env x=(wx, .adr u off)) (hy:opd s y=some (.val (.int kk i))) (hk:tiK tt T=some (.arr n e)) (hs:aS tt e=some sz)
    (hf:All (flagsI s w [.tmp x,y] [])) (hd:Nat.blt t s.n=true) (hj:w=true→i=(j:Int)) (hlt:w=true→j<n) (ht:cI d l r=true) (k:Ev P l d r (s.put (some t) w (.adr u (off+j*sz))) K):Ev P l d (⟨some t, .indexAddr T (.tmp x) y,ty,pos,after,gd⟩::r) s K:=by
  have h:=(flagsI.g hf).1
  exact azI pk.htt j hw hx hy hk hs (fun hw'=>by have:=h.1 hw';simpa [hY,hx] using this) (fun hw'=>h.2.1 hw') hd hj hlt ht k
theorem oN (pk:Pk P tt) {T:TypeId} {x y:Operand} {ok w:Bool} {q p:PV} {es:List (Value×PV)} {key:Value} (hw:bH l ⟨some t, .lookup T x y ok,ty,pos,after,gd⟩ s=some w) (hx:opd s x=some q) (hq:ajL q=some es) (hy:opd s y=some (.val key)) (hf:All (flagsI s w (opl (.lookup T x y ok)) [])) (hd:Nat.blt t s.n=true)
    (h:iG tt T es key ok=some p) (ht:cI d l r=true) (k:Ev P l d r (s.put (some t) w (.pv p)) K):Ev P l d (⟨some t, .lookup T x y ok,ty,pos,after,gd⟩::r) s K:=
  amN pk.htt hw hx hq hy (flagsI.g hf).1 hd h ht k
theorem aqR (pk:Pk P tt) (n:Nat) {c:Code} {Q:Exit→St→Prop} {a b g:Prop} (h:adv P tt n (.code c) [] Q s [] []= .mk a b g) (ha:a) (hb:b) (hg:g):PWp P c Q s:=
  (gM pk.htt _ _ _ _ _ _ _ h ha hb hg).1
theorem gon (pk:Pk P tt) (n:Nat) {c:Code} {k:List Fr} {Q:Exit→St→Prop} {a b g:Prop} (h:adv P tt n (.code c) k Q s [] []= .mk a b g) (ha:a) (hb:b) (hg:g):PWp P c (dD P k Q) s:=
  (gM pk.htt _ _ _ _ _ _ _ h ha hb hg).1
theorem vF :∀(k1 k2:List Fr) (Q:Exit→St→Prop),dD P (k1++k2) Q=dD P k1 (dD P k2 Q)
  |[],_,_=>rfl
  | .seq c::k1,k2,Q=>by simp only [List.cons_append,dD,vF k1 k2 Q]
  | .blk id::k1,k2,Q=>by simp only [List.cons_append,dD,vF k1 k2 Q]
theorem sD {Q Q':Exit→St→Prop} (hq:∀e s,Q e s→Q' e s):∀(k:List Fr) (e:Exit) (s:St),dD P k Q e s→dD P k Q' e s
  |[],e,s,h=>hq e s h
  | .seq c::k,e,s,h=>by
    have ih:=sD hq k
    cases e with
    |normal=>exact PWp.mono (h:PWp P c (dD P k Q) s) ih
    |_=>exact ih _ _ h
  | .blk id::k,e,s,h=>by
    have ih:=sD hq k
    cases e with
    |exit id'=>
      have h:(if id'=id then dD P k Q .normal s else dD P k Q (.exit id') s):=h
      show (if id'=id then dD P k Q' .normal s else dD P k Q' (.exit id') s)
      split
      · rename_i e;rw [if_pos e] at h;exact ih _ _ h
      · rename_i e;rw [if_neg e] at h;exact ih _ _ h
    |_=>exact ih _ _ h
end
end Go.Abs
namespace Go.Abs
open Go
section
variable {P:Program} {tt:TT} {l:List Oper} {d:Md} {r:List Oper} {s:St} {K:St→Prop} {t:Nat} {ty:TypeId} {pos:String} {after:Array Edge} {gd:Option (Nat×Bool)}
@[reducible] def inR (k:IntKind) (a:Int):Prop:=
  match k with
  | .i64=> -9223372036854775808≤a∧a≤9223372036854775807
  | .u64=>0≤a∧a≤18446744073709551615
  | .u8=>0≤a∧a≤255
  | .i32=> -2147483648≤a∧a≤2147483647
  | .u32=>0≤a∧a≤4294967295
  |_=>False
theorem acY {k:IntKind} {a:Int} (h:inR k a):k.wrap a=a:=by
  cases k<;>simp only [inR] at h<;>first|exact rT h.1 h.2|(exfalso;exact h)|skip
  all_goals simp only [IntKind.wrap,IntKind.bits,IntKind.signed,Bool.true_and,Bool.false_and]
  all_goals first|omega|(split<;>rename_i h<;>simp at h<;>omega)
theorem cvA (pk:bI P tt) {T T2:TypeId} {x:Operand} {k1 k2:IntKind} {a:Int} (hx:opd s x=some (.val (.int k1 a))) (hT:(tiK tt T).isSome=true) (hk:tiK tt T2=some (.int k2)) (hf:bM s [x]=true) (hd:Nat.blt t s.n=true) (hc:inR k2 a)
    (ht:cI d l r=true) (k:Ev P l d r (s.pv t (.val (.int k2 a))) K):Ev P l d (⟨some t, .convert T T2 x,ty,pos,after,none⟩::r) s K:=
  avA pk hx hT hk (acY hc) hf hd ht k
theorem adY (htt:bI P tt) {o:Oper} {T:TypeId} {x y:Operand} {b:ByteArray} {k:IntKind} {i:Int} {j:Nat} {c:UInt8} (ho:o.op= .index T x y) (hx:opd s x=some (.val (.string b))) (hy:opd s y=some (.val (.int k i))) (hT:tiK tt T=some .str) (hi:i=j) (hb:b[j]?=some c):OpV P o s (.val (.int .u8 c.toNat)):=by
  refine aQ fun w g ρ _ hρ=> ?_
  have ex:=aP (hρ x (by rw [ho];simp [Op.operands]) _ hx)
  have ey:=aP (hρ y (by rw [ho];simp [Op.operands]) _ hy)
  have hu:=jW (aT htt hT).1
  subst hi
  refine ⟨.int .u8 c.toNat, ?_,by simp [Rep]⟩
  have h0:(0:Int)≤(j:Int):=by omega
  simp [execOp,ho,ex,ey,Instr.index,asIntOf,run_underlying hu,h0,hb]
theorem sxA (pk:bI P tt) {T:TypeId} {x y:Operand} {b:ByteArray} {kk:IntKind} {i:Int} (j:Nat) (c:UInt8) (hx:opd s x=some (.val (.string b))) (hy:opd s y=some (.val (.int kk i))) (hT:tiK tt T=some .str) (hf:bM s [x,y]=true) (hd:Nat.blt t s.n=true) (hi:i=j) (hb:b[j]?=some c)
    (ht:cI d l r=true) (k:Ev P l d r (s.pv t (.val (.int .u8 c.toNat))) K):Ev P l d (⟨some t, .index T x y,ty,pos,after,none⟩::r) s K:=
  rB (fun _=>adY pk rfl hx hy hT hi hb) (fun z hz=>aW (fun _ _ _ e=>by cases e) hz) hf hd ht k
end
end Go.Abs
namespace Go.Abs
open Go
def softF :Nat→PV→PV
  |0,p=>match p with
    | .own _ rows=> .seq rows
    | .val (.slice none 0 0)=> .seq []
    | .emp=> .seq []
    |p=>p
  |n+1,p=>match p with
    | .own _ rows=> .seq rows
    | .val (.slice none 0 0)=> .seq []
    | .emp=> .seq []
    | .agg cs=> .agg (cs.map (softF n))
    | .tup cs=> .tup (cs.map (softF n))
    |p=>p
def soft (p:PV):PV:=softF 3 p
theorem Wk.emp :Wk .emp (.seq []):=fun g v h=>by
  simp only [Rep] at h
  obtain ⟨a,rfl⟩:=h
  unfold Rep
  exact ⟨a,0,rfl,by simp,by simp, .inl rfl⟩
theorem rW :∀(cs:List PV) {g:PV→PV},(∀q∈cs,Wk q (g q))→WkL cs (cs.map g)
  |[],_,_=> .nil
  |c::cs,g,h=> .cons (h c (by simp)) (rW cs fun q hq=>h q (by simp [hq]))
theorem Wk.softF :∀(n:Nat) (p:PV),Wk p (softF n p)
  |0,p=>by
    unfold Go.Abs.softF
    split
    · exact Wk.own _ _
    · exact Wk.nil
    · exact Wk.emp
    · exact Wk.refl _
  |n+1,p=>by
    unfold Go.Abs.softF
    split
    · exact Wk.own _ _
    · exact Wk.nil
    · exact Wk.emp
    · exact Wk.agg (rW _ fun q _=>Wk.softF _ q)
    · exact Wk.tup (rW _ fun q _=>Wk.softF _ q)
    · exact Wk.refl _
theorem Wk.soft (p:PV):Wk p (soft p):=Wk.softF 3 p
theorem WkL.soft :∀(ps:List PV),WkL ps (ps.map soft)
  |[]=> .nil
  |p::ps=> .cons (Wk.soft p) (WkL.soft ps)
structure Elem (tt:TT) (T:TypeId) {α:Type} (f:α→List PV) (g:α→PV) (sz:Nat):Prop where
  size:aS tt T=some sz
  ld:∀a,jN tt T (f a) 0=some (g a)
  fl:∀a,(g a).flat=true
  ce:∀a,(g a).cells=f a
  len:∀a,(f a).length=sz
section
variable {P:Program} {tt:TT} {l:List Oper} {d:Md} {r:List Oper} {s:St} {K:St→Prop} {t:Nat} {op:Op} {ty:TypeId} {pos:String} {after:Array Edge} {gd:Option (Nat×Bool)}
variable {α:Type} {f:α→List PV} {g:α→PV} {sz:Nat}
theorem awD [Inhabited α] {xs:Array α} {j:Nat} (h:j<xs.size):(xs.toList.map f)[j]?=some (f xs[j]!):=by
  have e:xs[j]! =xs[j]'h:=by simp [h]
  rw [e];simp [h]
theorem ixA (pk:Pk P tt) {T e:TypeId} {x y:Operand} {id off len j j':Nat} {kk:IntKind} {n:Int} {w:Bool} (hw:bH l ⟨some t, .indexAddr T x y,ty,pos,after,gd⟩ s=some w) (hx:opd s x=some (.vec id sz off len)) (hy:opd s y=some (.val (.int kk n))) (hk:tiK tt T=some (.slice e)) (hs:aS tt e=some sz) (hf:All (flagsI s w [x,y] [])) (hd:Nat.blt t s.n=true)
    (hj:w=true→n=(j:Int)) (hlt:w=true→j<len) (ht:cI d l r=true) (hjj:off+j=j') (k:Ev P l d r (s.put (some t) w (.pv (.el id sz j' 0))) K):Ev P l d (⟨some t, .indexAddr T x y,ty,pos,after,gd⟩::r) s K:=by
  subst hjj
  exact cO hw (fun hw' st'=>aiV (s:=s.sst st') pk.htt rfl ((bS x).trans hx) ((bS y).trans hy) (hj hw') (hlt hw') hk hs) (fun z hz=>aW (fun _ _ _ e=>by cases e) hz) (flagsI.g hf).1 hd ht k
theorem ldA [Inhabited α] (pk:Pk P tt) {T:TypeId} (he:Elem tt T f g sz) {x:Operand} {id j:Nat} {w:Bool} {xs:Array α} (hw:bH l ⟨some t, .load T x,ty,pos,after,gd⟩ s=some w) (hx:opd s x=some (.el id sz j 0)) (hf:All (flagsI s w [x] [])) (hd:Nat.blt t s.n=true)
    (hst:s.st id=some (.arr T (xs.toList.map f))) (hj:w=true→j<xs.size) (ht:tW d l r=true) (k:Ev P l d r (s.put (some t) w (.pv (g xs[j]!))) K):Ev P l d (⟨some t, .load T x,ty,pos,after,gd⟩::r) s K:=
  oV hw (fun hw'=>uT pk.htt rfl hx hst he.size (awD (hj hw')) (he.ld _)) (fun z hz=>aW (fun _ _ _ e=>by cases e) hz) (flagsI.g hf).1 hd ht k
theorem aoA (ps:List PV):∀(cs:List PV),cs.length=ps.length→fL cs 0 ps=ps:=by
  induction ps with
  |nil=>intro cs h;cases cs<;>simp_all [fL]
  |cons p ps ih=>
    intro cs h
    cases cs with
    |nil=>simp at h
    |cons c cs=>simp only [fL];rw [ih cs (by simpa using h)]
theorem stA (pk:Pk P tt) {T:TypeId} (he:Elem tt T f g sz) {x y:Operand} {id j:Nat} {xs:Array α} (a:α) (hx:opd s x=some (.el id sz j 0)) (hy:opd s y=some (g a)) (hf:bM s [x,y]=true)
    (hst:s.st id=some (.arr T (xs.toList.map f))) (hj:j<xs.size) (ht:jY d l r=true) (k:Ev P l d r (s.sst (upd s.st id (some (.arr T ((xs.setIfInBounds j a).toList.map f))))) K):Ev P l d (⟨none, .store T x y,ty,pos,after,none⟩::r) s K:=by
  have hr:(xs.toList.map f)[j]?=some (f (xs[j]'hj)):=by simp [hj]
  have hp:iW tt s T y (f (xs[j]'hj)) 0=some (f a):=by
    unfold iW anO
    rw [hy,he.size]
    simp only [he.fl,zqt,bU,yW,he.ce,he.len,Nat.zero_add,Nat.beq_refl,Bool.true_and]
    rw [show Nat.ble sz sz=true from Nat.ble_eq_true_of_le (Nat.le_refl _)]
    simp only [zqt]
    rw [aoA _ _ (by rw [he.len,he.len])]
  refine eE (tC pk.htt hx hst he.size hr hp) (fun z hz=>aW (fun _ _ _ e=>by cases e) hz) hf rfl ht fun z hz=> ?_
  subst hz
  have e:(xs.toList.map f).set j (f a)=(xs.setIfInBounds j a).toList.map f:=by
    rw [Array.toList_setIfInBounds,List.map_set]
  rw [e]
  exact k
theorem iS {f:Operand} {args:Array Operand} {ts:Array TypeId} {fid:FuncId} {caps ps:List PV} {dst:Option Nat} {R:PV→aL→Prop} (hf:opd s f=some (.fn fid caps)) (hps:lK s args.toList=some ps) (h:PC P fid (ps.map soft++caps) s.st R) (hfl:bM s (f::args.toList)=true) (hd:gU ⟨dst, .call ⟨.value f,args,ts⟩,ty,pos,after,none⟩ s=true) (ht:jY d l r=true)
    (k:∀p st',R p st'→Ev P l d r ((s.sst st').put dst true (.pv p)) K):Ev P l d (⟨dst, .call ⟨.value f,args,ts⟩,ty,pos,after,none⟩::r) s K:=
  eE (aqF (ps.map soft) hf hps (WkL.soft ps) h) (fun z hz=>aW (fun _ _ _ e=>by cases e) hz) hfl hd ht fun z hz=>k _ _ hz
theorem ldR (pk:Pk P tt) {T T':TypeId} {x:Operand} {id off:Nat} {cs:List PV} {p:PV} {w:Bool} (hw:bH l ⟨some t, .load T x,ty,pos,after,gd⟩ s=some w) (hx:opd s x=some (.ref id off)) (hf:All (flagsI s w [x] [])) (hd:Nat.blt t s.n=true) (hst:s.st id=some (.cells T' cs)) (hp:jN tt T cs off=some p) (ht:tW d l r=true) (k:Ev P l d r (s.put (some t) w (.pv p)) K):Ev P l d (⟨some t, .load T x,ty,pos,after,gd⟩::r) s K:=
  oV hw (fun _=>afI pk.htt rfl hx hst hp) (fun z hz=>aW (fun _ _ _ e=>by cases e) hz) (flagsI.g hf).1 hd ht k
theorem stR (pk:Pk P tt) {T T':TypeId} {x y:Operand} {id off:Nat} {cs cs':List PV} (hx:opd s x=some (.ref id off)) (hf:bM s [x,y]=true) (hst:s.st id=some (.cells T' cs)) (hp:iW tt s T y cs off=some cs') (ht:jY d l r=true) (k:Ev P l d r (s.sst (upd s.st id (some (.cells T' cs')))) K):Ev P l d (⟨none, .store T x y,ty,pos,after,none⟩::r) s K:=
  eE (abJ pk.htt hx hst hp) (fun z hz=>aW (fun _ _ _ e=>by cases e) hz) hf rfl ht fun z hz=>by subst hz;exact k
def adE (u:Nat):List Oper→Option Op
  |[]=>none
  |o::r=>match o.dst with
    |some v=>match Nat.beq u v with
      |true=>some o.op
      |false=>adE u r
    |none=>adE u r
def amK (s:St) (l:List Oper):Nat→Operand→Bool
  |0,_=>false
  |n+1, .tmp u=>match adE u l with
    |some (.indexAddr _ _ _)|some (.nilCheck _)=>true
    |some (.fieldAddr _ x _)=>amK s l n x
    |some (.move x)=>amK s l n x
    |some _=>false
    |none=>match s.env u with
      |(_, .pv (.ref _ _))|(_, .pv (.el _ _ _ _))=>true
      |_=>false
  |_+1,_=>false
def azL (s:St) (l:List Oper):Operand→Bool
  | .tmp u=>match adE u l with
    |some (.move (.tmp x))=>match s.env x with
      |(_, .pv (.mref _))=>true
      |_=>false
    |_=>match s.env u with
      |(_, .pv (.mref _))=>true
      |_=>false
  |_=>false
def akL (s:St) (l:List Oper):List Oper→Nat→List Nat
  |[],_=>[]
  |o::r,k=>match o.op with
    | .store _ x _=>bif amK s l 5 x then k::akL s l r (k+1) else akL s l r (k+1)
    |_=>akL s l r (k+1)
def ajW (s:St) (l:List Oper):List Oper→Nat→List Nat
  |[],_=>[]
  |o::r,k=>match o.op with
    | .load _ x=>bif amK s l 5 x then k::ajW s l r (k+1) else ajW s l r (k+1)
    |_=>ajW s l r (k+1)
end
end Go.Abs
namespace Go.Abs
open Go
section
variable {P:Program} {tt:TT} {l:List Oper} {d:Md} {r:List Oper} {s:St} {K:St→Prop} {t:Nat} {op:Op} {ty:TypeId} {pos:String} {after:Array Edge} {gd:Option (Nat×Bool)}
def isW :Code→Bool
  | .seq _ _| .block _ _| .skip| .exit _| .region _ _ false=>true
  |_=>false
theorem wC (pk:Pk P tt) {c:Code} {k:List Fr} {Q:Exit→St→Prop} {a b g:Prop} (_hp:isW c=true) (h:adv P tt 1000 (.code c) k Q s [] []= .mk a b g) (ha:a) (hb:b) (hg:g):PWp P c (dD P k Q) s:=go pk h ha hb hg
theorem wO (pk:Pk P tt) {c:Code} {Q:Exit→St→Prop} {a b g:Prop} (h:adv P tt 1000 (.code c) [] Q s [] []= .mk a b g) (ha:a) (hb:b) (hg:g):PWp P c Q s:=go0 pk h ha hb hg
theorem wX (pk:Pk P tt) {id:Nat} {k:List Fr} {Q:Exit→St→Prop} {a b g:Prop} (h:adv P tt 1000 (.out id) k Q s [] []= .mk a b g) (ha:a) (hb:b) (hg:g):dD P k Q (.exit id) s:=goX pk h ha hb hg
theorem wN (pk:Pk P tt) {k:List Fr} {Q:Exit→St→Prop} {a b g:Prop} (h:adv P tt 1000 .norm k Q s [] []= .mk a b g) (ha:a) (hb:b) (hg:g):dD P k Q .normal s:=goN pk h ha hb hg
def awO (tt:TT) (d:Md) (l:List Oper) (r:List Oper) (s:St):Bool:=
  match r with
  |[]=>true
  |o::r=>match cI d l r,akJ tt l o s [] [] with
    |true,some _=>true
    |_,_=>false
theorem wE (pk:Pk P tt) {k:List Fr} {Q:Exit→St→Prop} {a b g:Prop} (_hp:awO tt d l r s=true) (h:ahF P tt l d r s k Q= .mk a b g) (ha:a) (hb:b) (hg:g):Ev P l d r s (zL P k Q):=goE pk h ha hb hg
def qA {β:Type}:List Nat→(List Nat→Option β)→Option β
  |[],k=>k []
  |x::xs,k=>qA xs fun ys=>k (x::ys)
def aAg (s:St) (l:List Oper):Option (List Nat×List Nat):=qA (akL s l l 0) fun z=>qA (ajW s l l 0) fun r=>some (z,r)
theorem wDx (pk:Pk P tt) {id:Nat} {ops:Array Oper} {k:List Fr} {Q:Exit→St→Prop} {a b g:Prop} {z rd:List Nat} (_hz:aAg s ops.toList=some (z,rd)) (hl:amB ops.toList (.draw z rd)=true) (hF:ahX ops.toList s=true) (h:ahF P tt ops.toList (.draw z rd) ops.toList s k Q= .mk a b g) (ha:a) (hb:b) (hg:g):PWp P (.region id ops true) (dD P k Q) s:=goD pk hl hF h ha hb hg
theorem wD (pk:Pk P tt) (z rd:List Nat) {id:Nat} {ops:Array Oper} {k:List Fr} {Q:Exit→St→Prop} {a b g:Prop} (hl:amB ops.toList (.draw z rd)=true) (hF:ahX ops.toList s=true) (h:ahF P tt ops.toList (.draw z rd) ops.toList s k Q= .mk a b g) (ha:a) (hb:b) (hg:g):PWp P (.region id ops true) (dD P k Q) s:=goD pk hl hF h ha hb hg
theorem amJ {b:Bool} {x y:Code} {Q:Exit→St→Prop} (h:PWp P (bif b then x else y) Q s):PWp P (.cond (.const (.bool b)) x y) Q s:=fun c a w g lam hs=>by
  cases b
  · exact wpIn_cond_false (c:= .const (.bool false)) rfl (h c a w g lam hs)
  · exact wpIn_cond_true (c:= .const (.bool true)) rfl (h c a w g lam hs)
def aaK (id:Nat):List Fr→Nat
  |[]=>0
  | .blk j::k=>match Nat.beq id j with
    |true=>1
    |false=>aaK id k+1
  | .seq _::k=>aaK id k+1
def aiU :List Fr→Bool
  |[]=>false
  | .seq _::_=>true
  | .blk _::k=>aiU k
theorem adQ {Q:Exit→St→Prop} {s s2:St} (h:Sub s s2):∀{k:List Fr},aiU k=true→dD P k Q .normal s2→dD P k Q .normal s
  | .seq _::_,_,hk=>awF s2 h hk
  | .blk _::k,hq,hk=>adQ (k:=k) h hq hk
theorem azJ (id:Nat) {c:Code} {k:List Fr} {Q:Exit→St→Prop} (S0:St) (hq:aiU (k.drop (aaK id k))=true) (h:PWp P c (dD P (k.take (aaK id k)) (axK (fun s'=>Sub s' S0) (dD P (k.drop (aaK id k)) Q))) s) (hk:dD P (k.drop (aaK id k)) Q .normal S0):PWp P c (dD P k Q) s:=by
  have e:dD P k Q=dD P (k.take (aaK id k)) (dD P (k.drop (aaK id k)) Q):=by rw [←vF,List.take_append_drop]
  rw [e]
  refine h.mono fun e s' q=>sD (fun e s' q=> ?_) (k.take (aaK id k)) e s' q
  cases e<;>first|exact adQ q hq hk|exact q
theorem apS (pk:Pk P tt) {α:Type} {f:α→List PV} {xs:List α} (a:α) {T T2 e:TypeId} {x y:Operand} {id sz:Nat} (B:Nat) (hx:opd s x=some (.own id (xs.map f))) (hy:opd s y=some (.seq [f a])) (hk:tiK tt T=some (.slice e)) (hk2:cX tt T2=true) (hs:aS tt e=some sz) (hz:(tiZ tt e).map List.length=some sz) (hf:bM s [x,y]=true) (hd:Nat.blt t s.n=true)
    (htok:s.st id=some (.tok e)) (hl:∀a,(f a).length=sz) (h1:∀a,(f a).all PV.one=true) (hB:P.bytesOf e=B) (hb:(xs.length+1)*B≤140737488355328) (h62:xs.length+1<4611686018427387904) (ht:jY d l r=true)
    (k:∀id',s.st id'=none→Ev P l d r ((s.sst (upd (upd s.st id none) id' (some (.tok e)))).pv t (.own id' ((xs++[a]).map f))) K):Ev P l d (⟨some t, .call ⟨.builtin .append, #[x,y], #[T,T2]⟩,ty,pos,after,none⟩::r) s K:=by
  refine eE (aiN pk.htt B hx hy rfl hk hk2 hs hz htok (fun r hr=>by obtain ⟨a,_,rfl⟩:=List.mem_map.1 hr;exact hl a) (fun r hr=>by rw [List.mem_singleton.1 hr];exact hl a) (fun r hr=>by rw [List.mem_singleton.1 hr];exact h1 a) hB (by simpa using hb) (by simpa using h62)) (fun z hz=>aW (fun _ _ _ e=>by cases e) hz) hf hd ht fun z hz=> ?_
  obtain ⟨id',h,rfl⟩:=hz
  have:=k id' h
  rw [List.map_append] at this
  exact this
theorem gP {α:Type} (f:Nat→α) (i:Nat) (a b:α):upd (upd f i a) i b=upd f i b:=by
  funext j
  by_cases h:j=i
  · rw [h,aC,aC]
  · rw [aG h,aG h,aG h]
theorem aAJ {α:Type} {f:Nat→α} {i j:Nat} (h:i≠j) (a b c d:α):upd (upd (upd (upd f i a) j b) i c) j d=upd (upd f i c) j d:=by
  funext k
  by_cases h1:k=j
  · subst h1;rw [aC,aC]
  · rw [aG h1,aG h1]
    by_cases h2:k=i
    · subst h2;rw [aC,aC]
    · rw [aG h2,aG h1,aG h2,aG h2]
theorem gQ {α:Type} {f:Nat→α} {i:Nat} {a:α} (h:f i=a):upd f i a=f:=by
  funext j
  by_cases hj:j=i
  · rw [hj,aC,h]
  · rw [aG hj]
theorem eK {st st':aL} {id:Nat} {o:Option AObj} (h:StSub st st') (hid:st id=none):StSub st (upd st' id o):=fun j=>by
  by_cases hj:j=id
  · left;rw [hj];exact hid
  · rw [aG hj];exact h j
theorem iO {st st':aL} (h:st=st'):StSub st st':=h▸StSub.refl st
theorem aF {α:Type} {f:α→List PV} {l:List α} {j:Nat} (h:j<l.length):(l.map f)[j]?=some (f (l[j]'h)):=by simp [h]
end
end Go.Abs
namespace Go.Abs
open Go
section
variable {P:Program} {tt:TT}
def ckV (tt:TT):Nat→TypeId→Value→Bool
  |0,_,_=>false
  |d+1,t,x=>match tiK tt t with
    |some (.int _)|some .bool|some .str=>true
    |some (.struct fs)=>match x with
      | .agg xs=>fs.all fun f=>match kH tt f.1,aS tt f.1 with
        |some true,some n=>ckV tt d f.1 (.agg ((xs.toList.drop f.2).take n).toArray)
        |some false,some _=>match xs.toList[f.2]? with
          |some v=>ckV tt d f.1 v
          |none=>false
        |_,_=>false
      |_=>false
    |_=>false
theorem aeP (htt:bI P tt) {w:World} {t off:Nat} {xs:Array Value} {d:Nat} (h:(match kH tt t,aS tt t with
        |some true,some n=>ckV tt d t (.agg ((xs.toList.drop off).take n).toArray)
        |some false,some _=>match xs.toList[off]? with
          |some v=>ckV tt d t v
          |none=>false
        |_,_=>false)=true):∃v,(part t xs off).run P w= .ok v w∧ckV tt d t v=true:=by
  split at h
  · rename_i n ha hn
    obtain ⟨h1,h2⟩:=bO htt ha
    refine ⟨.agg (xs.extract off (off+n)),by simp [part,cU h1 h2,bB (aR htt hn).1], ?_⟩
    rw [←h];congr 2
    apply Array.toList_inj.1
    simp [List.extract_eq_take_drop]
  · rename_i n ha hn
    obtain ⟨h1,h2⟩:=bO htt ha
    split at h
    · rename_i v hv
      refine ⟨v, ?_,h⟩
      have hv':xs[off]?=some v:=by simpa using hv
      simp [part,cU h1 h2,hv']
    · cases h
  · cases h
theorem arS (htt:bI P tt) {b:Bool} {w:World}:∀(d n:Nat),d≤n→∀t x,ckV tt d t x=true→(Instr.checkKey b n t x).run P w= .ok () w
  |0,_,_,_,_,h=>by simp [ckV] at h
  |d+1,0,hn,_,_,_=>by omega
  |d+1,n+1,hn,t,x,h=>by
    rw [Instr.checkKey]
    simp only [ckV] at h
    split at h
    · rename_i k hk
      have hu:=lX (aT htt hk).1
      simp only [Sem.run_bind,run_underlying hu,Result.andThen_ok]
      simp
    · rename_i hk
      have hu:P.underlying t=some .bool:=by
        have:=(aT htt hk).1
        unfold fU at this;split at this<;>simp_all
      simp only [Sem.run_bind,run_underlying hu,Result.andThen_ok]
      simp
    · rename_i hk
      have hu:=jW (aT htt hk).1
      simp only [Sem.run_bind,run_underlying hu,Result.andThen_ok]
      simp
    · rename_i fs hk
      obtain ⟨fields,hu,hfs⟩:=dT (aT htt hk).1
      split at h
      · rename_i xs
        simp only [Sem.run_bind,run_underlying hu,Result.andThen_ok]
        rw [←Array.forIn_toList]
        subst hfs
        rw [List.all_map] at h
        clear hu hk
        generalize fields.toList=L at h
        induction L with
        |nil=>simp
        |cons f L ih=>
          rw [List.all_cons,Bool.and_eq_true] at h
          obtain ⟨v,p1,p2⟩:=aeP htt (w:=w) h.1
          have p3:=arS htt (b:=b) (w:=w) d n (by omega) f.type v p2
          by_cases hn' : f.name = "_"
          · simp only [List.forIn_cons,Sem.run_bind,hn',ne_eq,not_true_eq_false,if_false,Result.andThen_ok,Sem.run_pure]
            exact ih h.2
          · simp only [List.forIn_cons,Sem.run_bind,hn',ne_eq,not_false_eq_true,if_true,Result.andThen_ok,p1,p3,Sem.run_pure]
            exact ih h.2
      · cases h
    · cases h
theorem uN (s:ByteArray):(s==s)=true:=by
  obtain ⟨x⟩:=s
  exact (beq_self_eq_true x:(x==x)=true)
def aaH :Value→Bool
  | .int _ _| .bool _| .string _=>true
  |_=>false
theorem wZ {n:Nat} {v:Value} (h:aaH v=true):Instr.sameBits n v v=true:=by
  cases v<;>simp [aaH] at h<;>simp [Instr.sameBits]
  rename_i s
  exact uN s
theorem apC {vs:List Value} (h:vs.all aaH=true):Instr.sameBits 10000 (.agg vs.toArray) (.agg vs.toArray)=true:=by
  rw [show (10000:Nat)=9999+1 from rfl,Instr.sameBits]
  simp only [beq_self_eq_true,Bool.true_and,List.all_eq_true]
  rintro ⟨x,y⟩ hxy
  have:x=y∧x∈vs:=by
    clear h
    induction vs with
    |nil=>simp at hxy
    |cons v vs ih=>
      simp only [List.zip_cons_cons,List.mem_cons,Prod.mk.injEq] at hxy
      rcases hxy with ⟨rfl,rfl⟩|h
      · simp
      · have:=ih h;exact ⟨this.1,by simp [this.2]⟩
  rw [←this.1]
  exact wZ (List.all_eq_true.1 h x this.2)
theorem adK {g:G}:∀{vs:List Value} {us:List Value},RepL g (vs.map .val) us→us=vs
  |[],us,h=>by simpa [RepL] using h
  |v::vs,us,h=>by
    simp only [List.map_cons,RepL] at h
    obtain ⟨u,us',rfl,h1,h2⟩:=h
    rw [adK h2,aP h1]
theorem aqO (g:G):∀(vs:List Value),RepL g (vs.map .val) vs
  |[]=>by simp [RepL]
  |v::vs=>by simp only [List.map_cons,RepL];exact ⟨v,vs,rfl,by simp [Rep],aqO g vs⟩
theorem qL (htt:bI P tt) {kt:TypeId} {K:Type} [DecidableEq K] (vals:K→List Value) {fs:List (TypeId×Nat)} (hT:tiK tt kt=some (.struct fs)) (hc:aeE tt kt=true) (hk:∀k,ckV tt 8 kt (.agg (vals k).toArray)=true)
    (he:∀a b,peq tt 8 kt ((vals a).map .val) ((vals b).map .val)=some (decide (a=b))) (hb:∀k,(vals k).all aaH=true) (hcm:mX P 8 kt=true):KeyOK P kt (fun k=> .agg (vals k).toArray) (fun k=> .agg ((vals k).map .val)) where
  und:=by obtain ⟨fields,hu,_⟩:=dT (aT htt hT).1;simp [hu]
  chk k b w:=arS htt 8 10000 (by omega) kt _ (hk k)
  now kd _ a b:= .inl (by cases kd<;>rfl)
  eq a b w:=by
    obtain ⟨fields,hu,_⟩:=dT (aT htt hT).1
    have ha:bF P kt=true:=by simp [bF,hu]
    have g:G:=⟨#[],fun _=>none,fun _=>0,fun _=>False⟩
    exact iL htt (g:=g) 8 Op.maxDepth (by decide) kt _ _ _ _ _ (he a b) hcm (abA (by simp only [Rep];exact ⟨_,rfl,aqO g _⟩) ha) (abA (by simp only [Rep];exact ⟨_,rfl,aqO g _⟩) ha)
  rp k g v h:=by
    simp only [Rep] at h
    obtain ⟨vs,rfl,h⟩:=h
    rw [adK h]
  bits k:=apC (hb k)
end
section
variable {P:Program} {tt:TT} {l:List Oper} {d:Md} {r:List Oper} {s:St} {Kt:St→Prop} {t:Nat} {op:Op} {ty:TypeId} {pos:String} {after:Array Edge} {gd:Option (Nat×Bool)}
variable {K V:Type} [DecidableEq K] {kt:TypeId} {enc:K→Value} {rep:K→PV} {f:V→PV}
theorem lkM (pk:Pk P tt) (hk:KeyOK P kt enc rep) {T e:TypeId} {x y:Operand} {ok w:Bool} {id:Nat} {z:PV} {es:List (K×V)} {k:K} (hw:bH l ⟨some t, .lookup T x y ok,ty,pos,after,gd⟩ s=some w) (hx:opd s x=some (.mref id)) (hy:opd s y=some (rep k)) (hT:tiK tt T=some (.map kt e)) (hz:pzv tt e=some z) (hf:All (flagsI s w [x,y] [])) (hd:Nat.blt t s.n=true)
    (hst:s.st id=some (.map (bA enc f es))) (ht:tW d l r=true) (kk:Ev P l d r (s.put (some t) w (.pv (lG z f ok (bT k es)))) Kt):Ev P l d (⟨some t, .lookup T x y ok,ty,pos,after,gd⟩::r) s Kt:=
  oV hw (fun _=>acG pk.htt hk rfl hx hst hy hT hz) (fun z hz=>aW (fun _ _ _ e=>by cases e) hz) (flagsI.g hf).1 hd ht kk
theorem arR (pk:Pk P tt) (hk:KeyOK P kt enc rep) {T e:TypeId} {x y:Operand} {ok w:Bool} {id:Nat} {z:PV} {es:List (K×V)} {k:K} (hw:bH l ⟨some t, .lookup T x y ok,ty,pos,after,gd⟩ s=some w) (hx:opd s x=some (.mref id)) (hy:opd s y=some (rep k)) (hT:tiK tt T=some (.map kt e)) (hz:pzv tt e=some z) (hf:All (flagsI s w [x,y] [])) (hd:Nat.blt t s.n=true)
    (hst:s.st id=some (.map (bA enc f es))) (ht:tW d l r=true) (k1:∀v,bT k es=some v→Ev P l d r (s.put (some t) w (.pv (bif ok then .tup [f v, .val (.bool true)] else f v))) Kt) (k2:bT k es=none→Ev P l d r (s.put (some t) w (.pv (bif ok then .tup [z, .val (.bool false)] else z))) Kt):Ev P l d (⟨some t, .lookup T x y ok,ty,pos,after,gd⟩::r) s Kt:=by
  refine lkM pk hk hw hx hy hT hz hf hd hst ht ?_
  cases h:bT k es with
  |some v=>exact k1 v h
  |none=>exact k2 h
theorem muA (pk:Pk P tt) (hk:KeyOK P kt enc rep) {T e:TypeId} {m y z:Operand} {id:Nat} {es:List (K×V)} {k:K} {v:V} (hop:op= .insert T m y z∨op= .mapUpdate T m y z) (hm:opd s m=some (.mref id)) (hy:opd s y=some (rep k)) (hz:opd s z=some (f v)) (hT:tiK tt T=some (.map kt e)) (hf:bM s [m,y,z]=true)
    (hst:s.st id=some (.map (bA enc f es))) (ht:jY d l r=true) (kk:Ev P l d r (s.sst (upd s.st id (some (.map (bA enc f (cK k v es)))))) Kt):Ev P l d (⟨none,op,ty,pos,after,none⟩::r) s Kt:=by
  refine eE (acJ pk.htt hk hop hm hy hz hT hst) (fun z hz=>aW (fun _ _ _ e=>by rcases hop with rfl|rfl<;>cases e) hz) ?_ rfl ht fun z hz=>by subst hz;exact kk
  rcases hop with rfl|rfl<;>exact hf
theorem meA (pk:Pk P tt) (hk:KeyOK P kt enc rep) {T e:TypeId} {m y:Operand} {id:Nat} {es:List (K×V)} {k:K} {z:V} (hm:opd s m=some (.mref id)) (hy:opd s y=some (rep k)) (hT:tiK tt T=some (.map kt e)) (hz:pzv tt e=some (f z)) (hf:bM s [m,y]=true) (hd:Nat.blt t s.n=true)
    (hst:s.st id=some (.map (bA enc f es))) (ht:jY d l r=true) (kk:Ev P l d r ((s.sst (upd s.st id (some (.map (bA enc f (oJ k z es)))))).pv t (.tup [f ((bT k es).getD z), .val (.int .i64 (mH k es:Nat))])) Kt):Ev P l d (⟨some t, .mapEntry T m y,ty,pos,after,none⟩::r) s Kt:=
  eE (xU pk.htt hk hm hy hT hz hst) (fun z hz=>aW (fun _ _ _ e=>by cases e) hz) hf hd ht fun z hz=>by subst hz;exact kk
theorem adZ (k:K) (z v:V):∀(es:List (K×V)),∃v0,(oJ k z es)[mH k es]?=some (k,v0)∧(oJ k z es).set (mH k es) (k,v)=cK k v es:=by
  intro es
  unfold oJ mH
  cases h:mG k es with
  |none=>exact ⟨z,by simp,by rw [(kQ h).2 v];simp⟩
  |some j=>
    obtain ⟨v0,h1,_,h3⟩:=kG h
    exact ⟨v0,by simpa using h1,by rw [h3 v];simp⟩
theorem esA (pk:Pk P tt) (_hk:KeyOK P kt enc rep) {T:TypeId} {m y z:Operand} {id:Nat} {es:List (K×V)} {k:K} {z0 v:V} (hm:opd s m=some (.mref id)) (hy:opd s y=some (.val (.int .i64 (mH k es:Nat)))) (hz:opd s z=some (f v)) (hf:bM s [m,y,z]=true)
    (hst:s.st id=some (.map (bA enc f (oJ k z0 es)))) (ht:jY d l r=true) (kk:Ev P l d r (s.sst (upd s.st id (some (.map (bA enc f (cK k v es)))))) Kt):Ev P l d (⟨none, .entryStore T m y z,ty,pos,after,none⟩::r) s Kt:=by
  obtain ⟨v0,h1,h2⟩:=adZ k z0 v es
  refine eE (tY (enc:=enc) hm hy rfl hz h1 hst) (fun z hz=>aW (fun _ _ _ e=>by cases e) hz) hf rfl ht fun z hz=> ?_
  subst hz
  rw [h2]
  exact kk
theorem mkM {K V:Type} {enc:K→Value} {f:V→PV} {T:TypeId} (hd:Nat.blt t s.n=true) (kk:∀id,s.st id=none→Ev P l .seq r ((s.sst (upd s.st id (some (.map (bA enc f []))))).pv t (.mref id)) Kt):Ev P l .seq (⟨some t, .makeMap T none,ty,pos,after,none⟩::r) s Kt:=
  xB hd kk
def rD (s:St) (l:List Oper):List Oper→Nat→List Nat
  |[],_=>[]
  |o::r,k=>match o.op with
    | .store _ x _=>bif amK s l 5 x then k::rD s l r (k+1) else rD s l r (k+1)
    | .mapEntry .. | .entryStore .. | .mapUpdate .. | .insert .. =>k::rD s l r (k+1)
    | .call ⟨.builtin .append,_,_⟩=>k::rD s l r (k+1)
    |_=>rD s l r (k+1)
def axW (s:St) (l:List Oper) (x:Operand):Bool:=
  match x with
  | .tmp u=>match adE u l with
    |some (.load _ _)=>true
    |_=>azL s l x
  |_=>false
def rM (s:St) (l:List Oper):List Oper→Nat→List Nat
  |[],_=>[]
  |o::r,k=>match o.op with
    | .load _ x=>bif amK s l 5 x then k::rM s l r (k+1) else rM s l r (k+1)
    | .lookup _ x _ _=>bif axW s l x then k::rM s l r (k+1) else rM s l r (k+1)
    |_=>rM s l r (k+1)
def aAa (s:St) (l:List Oper):Option (List Nat×List Nat):=qA (rD s l l 0) fun z=>qA (rM s l l 0) fun r=>some (z,r)
theorem wDm (pk:Pk P tt) {id:Nat} {ops:Array Oper} {k:List Fr} {Q:Exit→St→Prop} {a b g:Prop} {z rd:List Nat} (_hz:aAa s ops.toList=some (z,rd)) (hl:amB ops.toList (.draw z rd)=true) (hF:ahX ops.toList s=true) (h:ahF P tt ops.toList (.draw z rd) ops.toList s k Q= .mk a b g) (ha:a) (hb:b) (hg:g):PWp P (.region id ops true) (dD P k Q) s:=goD pk hl hF h ha hb hg
end
end Go.Abs
namespace Go.Abs
open Go
section
variable {P:Program} {tt:TT}
theorem wP {g:G} {b sz:Nat}:∀(n off:Nat) (cs:List PV),cs.length=n*sz→RepA g b off cs→RepR g b off sz (jF sz n cs)
  |0,_,_,_,_=>by simp [jF,RepR]
  |n+1,off,cs,hl,h=>by
    have e:(n+1)*sz=n*sz+sz:=by rw [Nat.add_mul];omega
    simp only [jF,RepR]
    exact ⟨by rw [List.length_take];omega,RepA.take sz h,wP n (off+sz) (cs.drop sz) (by rw [List.length_drop];omega) (RepA.drop sz h)⟩
theorem abP (htt:bI P tt) {o:Oper} {s:St} {T e n sz:Nat} {x:Operand} {cs:List PV} {rows:List (List PV)} (ho:o.op= .slice T x none none none) (hx:opd s x=some (.rp cs)) (hk:tiK tt T=some (.arr n e)) (hs:aS tt e=some sz) (hl:cs.length=n*sz) (h62:n<4611686018427387904) (hr:jF sz n cs=rows):OpV P o s (.seq rows):=by
  subst hr
  refine aQ fun w g ρ _ hρ=> ?_
  have rx:=hρ x (by rw [ho];simp [Op.operands]) _ hx
  simp only [Rep] at rx
  obtain ⟨b,off,ex,rx⟩:=rx
  have hu:=pG (aT htt hk).1
  have hc:=(oZ sz n cs hl).2.1
  refine ⟨.slice (some ⟨b,off,none⟩) n n, ?_, ?_⟩
  · simp only [execOp,ho,Instr.sliceAt,ex,Instr.sureAddr,Instr.sliceBounds,Sem.run_bind,Sem.run_pure,Result.andThen_ok,run_underlying hu,Option.map_none,bB (aR htt hs).1,Nat.sub_zero]
    by_cases h0:n=0
    · subst h0;simp
    · simp [h0,cF]
  · unfold Rep
    exact ⟨_,n,by rw [hc],by rw [hc];exact Nat.le_refl _,by rw [hc];exact h62, .inr ⟨b,off,sz,rfl,wP n off cs hl rx⟩⟩
theorem RepR.drop {g:G} {b sz:Nat}:∀{rows:List (List PV)} {off:Nat} (k:Nat),RepR g b off sz rows→RepR g b (off+k*sz) sz (rows.drop k)
  |_,_,0,h=>by simpa using h
  |[],_,k+1,_=>by simp [RepR]
  |c::cs,off,k+1,h=>by
    simp only [RepR] at h
    have:=RepR.drop k h.2.2
    rw [show off+(k+1)*sz=off+sz+k*sz from by rw [Nat.add_mul];omega]
    simpa using this
theorem RepR.take {g:G} {b sz:Nat}:∀{rows:List (List PV)} {off:Nat} (k:Nat),RepR g b off sz rows→RepR g b off sz (rows.take k)
  |_,_,0,_=>by simp [RepR]
  |[],_,k+1,_=>by simp [RepR]
  |c::cs,off,k+1,h=>by
    simp only [RepR] at h
    simp only [List.take_succ_cons,RepR]
    exact ⟨h.1,h.2.1,RepR.take k h.2.2⟩
def bnd (s:St) (y:Option Operand) (dflt:Nat) (j:Nat):Prop:=
  match y with
  |none=>j=dflt
  |some y=>∃k n,opd s y=some (.val (.int k n))∧n=(j:Int)
theorem dC {s:St} {j:Nat}:bnd s none j j:=rfl
theorem cJ {s:St} {y:Operand} {d j:Nat} {k:IntKind} {n:Int} (h:opd s y=some (.val (.int k n))) (hn:n=(j:Int)):bnd s (some y) d j:=⟨k,n,h,hn⟩
theorem mK {w:World} {k:IntKind} {j y:Nat} {c:BoundsCode} (h:j≤y):(Instr.sliceBound (.int k (j:Int)) y c).run P w= .ok j w:=by
  simp only [Instr.sliceBound,asIntOf,Sem.run_bind,Sem.run_pure,Result.andThen_ok]
  rw [if_pos ⟨by omega,by omega⟩]
  simp
theorem iQ {w:World} {g:G} {s:St} {ρ:Operand→Value} {lo hi:Option Operand} {i j len cap:Nat} {sl:Bool} (hlo:bnd s lo 0 i) (hhi:bnd s hi len j) (hρ:∀y,lo=some y∨hi=some y→gY g s y (ρ y)) (hij:i≤j) (hj:j≤cap):
    (Instr.sliceBounds sl len cap (lo.map ρ) (hi.map ρ) none).run P w= .ok (i,j,cap) w:=by
  have hh:∀y,hi=some y→∃k,ρ y= .int k (j:Int):=fun y e=>by
    subst e
    obtain ⟨k,n,h1,h2⟩:=hhi
    exact ⟨k,by rw [aP (hρ y (.inr rfl) _ h1),h2]⟩
  have hl:∀y,lo=some y→∃k,ρ y= .int k (i:Int):=fun y e=>by
    subst e
    obtain ⟨k,n,h1,h2⟩:=hlo
    exact ⟨k,by rw [aP (hρ y (.inl rfl) _ h1),h2]⟩
  have s1:∀{k:IntKind} {c:BoundsCode} {w:World},(Instr.sliceBound (.int k (i:Int)) j c).run P w= .ok i w:=mK hij
  have s2:∀{k:IntKind} {c:BoundsCode} {w:World},(Instr.sliceBound (.int k (j:Int)) cap c).run P w= .ok j w:=mK hj
  unfold Instr.sliceBounds
  cases lo with
  |none=>
    have e1:i=0:=hlo
    cases hi with
    |none=>
      have e2:j=len:=hhi
      simp [e1,e2]
    |some y=>obtain ⟨k,e⟩:=hh y rfl;simp only [Option.map_some,Option.map_none,e,Sem.run_bind,Sem.run_pure,Result.andThen_ok,s2,e1]
  |some x=>
    obtain ⟨k1,e1⟩:=hl x rfl
    cases hi with
    |none=>
      have e2:j=len:=hhi
      subst e2
      simp only [Option.map_some,Option.map_none,e1,Sem.run_bind,Sem.run_pure,Result.andThen_ok,s1]
    |some y=>obtain ⟨k,e⟩:=hh y rfl;simp only [Option.map_some,e,e1,Sem.run_bind,Sem.run_pure,Result.andThen_ok,s2,s1]
theorem abL (htt:bI P tt) {o:Oper} {s:St} {T e i j sz:Nat} {x:Operand} {lo hi:Option Operand} {p:PV} {rows:List (List PV)} (ho:o.op= .slice T x lo hi none) (hx:opd s x=some p) (hp:fO p=some rows) (hk:tiK tt T=some (.slice e)) (hs:aS tt e=some sz) (hlen:∀r∈rows,r.length=sz) (hlo:bnd s lo 0 i) (hhi:bnd s hi rows.length j) (hij:i≤j) (hj:j≤rows.length):
    OpV P o s (.seq ((rows.drop i).take (j-i))):=by
  refine aQ fun w g ρ _ hρ=> ?_
  have rx:=pM hp (hρ x (by rw [ho];simp [Op.operands]) _ hx)
  have hb:∀y,lo=some y∨hi=some y→gY g s y (ρ y):=fun y hy=>hρ y (by rw [ho];rcases hy with rfl|rfl<;>simp [Op.operands])
  simp only [Rep] at rx
  obtain ⟨a,cap,ex,h1,h2,h4⟩:=rx
  have hu:=bV (aT htt hk).1
  have hrun:=iQ (P:=P) (w:=w) (sl:=true) (len:=rows.length) (cap:=cap) hlo hhi hb hij (by omega)
  have hlt:((rows.drop i).take (j-i)).length=j-i:=by simp;omega
  refine ⟨.slice (if cap=i then a else a.map (·.add (i*sz))) (j-i) (cap-i), ?_, ?_⟩
  · simp only [execOp,ho,Instr.sliceAt,Instr.slice,ex,Sem.run_bind,Sem.run_pure,Result.andThen_ok,run_underlying hu,bB (aR htt hs).1,Option.map_none,hrun]
  · unfold Rep
    refine ⟨_,cap-i,by rw [hlt],by omega,by omega, ?_⟩
    rcases h4 with h4|⟨b,off,sz',rfl,hR⟩
    · subst h4;left;simp
    · by_cases hn:j-i=0
      · left;rw [hn];simp
      · right
        have hsz:sz'=sz:=by
          have hi:i<rows.length:=by omega
          have h1:=(hR.get (List.getElem?_eq_getElem hi)).1
          rw [←h1,hlen _ (List.getElem_mem hi)]
        subst hsz
        rw [if_neg (by omega)]
        exact ⟨b,off+i*sz',sz',by simp [cF],RepR.take _ (RepR.drop _ hR)⟩
theorem abI (htt:bI P tt) {o:Oper} {s:St} {T i j:Nat} {x:Operand} {lo hi:Option Operand} {b:ByteArray} (ho:o.op= .slice T x lo hi none) (hx:opd s x=some (.val (.string b))) (hk:tiK tt T=some .str) (hlo:bnd s lo 0 i) (hhi:bnd s hi b.size j) (hij:i≤j) (hj:j≤b.size):
    OpV P o s (.val (.string (b.extract i j))):=by
  refine aQ fun w g ρ _ hρ=> ?_
  have ex:=aP (hρ x (by rw [ho];simp [Op.operands]) _ hx)
  have hb:∀y,lo=some y∨hi=some y→gY g s y (ρ y):=fun y hy=>hρ y (by rw [ho];rcases hy with rfl|rfl<;>simp [Op.operands])
  have hu:=jW (aT htt hk).1
  have hrun:=iQ (P:=P) (w:=w) (sl:=false) (len:=b.size) (cap:=b.size) hlo hhi hb hij hj
  refine ⟨.string (b.extract i j), ?_,by simp [Rep]⟩
  simp only [execOp,ho,Instr.sliceAt,Instr.slice,ex,Sem.run_bind,Sem.run_pure,Result.andThen_ok,run_underlying hu,Option.map_none,Option.isSome_none,Bool.false_eq_true,if_false,hrun]
end
section
variable {P:Program} {tt:TT} {l:List Oper} {d:Md} {r:List Oper} {s:St} {K:St→Prop} {t:Nat} {op:Op} {ty:TypeId} {pos:String} {after:Array Edge} {gd:Option (Nat×Bool)}
theorem slA (pk:Pk P tt) {T e n sz:Nat} {x:Operand} {w:Bool} {cs:List PV} {rows:List (List PV)} (hw:bH l ⟨some t, .slice T x none none none,ty,pos,after,gd⟩ s=some w) (hx:opd s x=some (.rp cs)) (hk:tiK tt T=some (.arr n e)) (hs:aS tt e=some sz) (hl:Nat.beq cs.length (n*sz)=true) (h62:Nat.blt n 4611686018427387904=true) (hr:jF sz n cs=rows) (hf:All (flagsI s w [x] [])) (hd:Nat.blt t s.n=true) (ht:cI d l r=true)
    (k:Ev P l d r (s.put (some t) w (.pv (.seq rows))) K):Ev P l d (⟨some t, .slice T x none none none,ty,pos,after,gd⟩::r) s K:=
  cO hw (fun _ st'=>abP (s:=s.sst st') pk.htt rfl ((bS x).trans hx) hk hs (Nat.eq_of_beq_eq_true hl) (Nat.le_of_ble_eq_true h62) hr) (fun z hz=>aW (fun _ _ _ e=>by cases e) hz) (flagsI.g hf).1 hd ht k
theorem gR {st':aL} {y:Option Operand} {dd j:Nat} (h:bnd s y dd j):bnd (s.sst st') y dd j:=by
  cases y with
  |none=>exact h
  |some y=>obtain ⟨k,n,h1,h2⟩:=h;exact ⟨k,n,(bS y).trans h1,h2⟩
theorem slS (pk:Pk P tt) {α:Type} {f:α→List PV} {xs:List α} {T e sz:Nat} (i j:Nat) {x:Operand} {lo hi:Option Operand} {w:Bool} {p:PV} (hw:bH l ⟨some t, .slice T x lo hi none,ty,pos,after,gd⟩ s=some w) (hx:opd s x=some p) (hp:fO p=some (xs.map f)) (hk:tiK tt T=some (.slice e)) (hs:aS tt e=some sz) (hf:All (flagsI s w (opl (.slice T x lo hi none)) [])) (hd:Nat.blt t s.n=true) (hlen:∀a,(f a).length=sz)
    (hlo:w=true→bnd s lo 0 i) (hhi:w=true→bnd s hi xs.length j) (hij:w=true→i≤j) (hj:w=true→j≤xs.length) (ht:cI d l r=true)
    (k:Ev P l d r (s.put (some t) w (.pv (.seq (((xs.drop i).take (j-i)).map f)))) K):Ev P l d (⟨some t, .slice T x lo hi none,ty,pos,after,gd⟩::r) s K:=by
  rw [List.map_take,List.map_drop] at k
  exact cO hw (fun hw' st'=>abL (s:=s.sst st') pk.htt rfl ((bS x).trans hx) hp hk hs (fun r hr=>by obtain ⟨a,_,rfl⟩:=List.mem_map.1 hr;exact hlen a) (gR (hlo hw')) (by rw [zql];exact gR (hhi hw')) (hij hw') (by rw [zql];exact hj hw')) (fun z hz=>aW (fun _ _ _ e=>by cases e) hz) (flagsI.g hf).1 hd ht k
theorem slT (pk:Pk P tt) {T:Nat} (i j:Nat) {x:Operand} {lo hi:Option Operand} {w:Bool} {b:ByteArray} (hw:bH l ⟨some t, .slice T x lo hi none,ty,pos,after,gd⟩ s=some w) (hx:opd s x=some (.val (.string b))) (hk:tiK tt T=some .str) (hf:All (flagsI s w (opl (.slice T x lo hi none)) [])) (hd:Nat.blt t s.n=true)
    (hlo:w=true→bnd s lo 0 i) (hhi:w=true→bnd s hi b.size j) (hij:w=true→i≤j) (hj:w=true→j≤b.size) (ht:cI d l r=true)
    (k:Ev P l d r (s.put (some t) w (.pv (.val (.string (b.extract i j))))) K):Ev P l d (⟨some t, .slice T x lo hi none,ty,pos,after,gd⟩::r) s K:=
  cO hw (fun hw' st'=>abI (s:=s.sst st') pk.htt rfl ((bS x).trans hx) hk (gR (hlo hw')) (gR (hhi hw')) (hij hw') (hj hw')) (fun z hz=>aW (fun _ _ _ e=>by cases e) hz) (flagsI.g hf).1 hd ht k
def awT :List Oper→Bool
  |⟨_, .slice _ _ _ _ _,_,_,_,_⟩::_=>true
  |_=>false
theorem axT (u:Nat) {id:Nat} {ops:Array Oper} {dr:Bool} {Q:Exit→St→Prop} {T:TypeId} {cs:List PV} (_h:awT ops.toList=true) (hx:s.env u=(true, .adr u 0)) (hL:s.L u=some (T,cs)) (k:PWp P (.region id ops dr) Q (s.frozen u cs)):PWp P (.region id ops dr) Q s:=aiF u hx hL k
end
end Go.Abs
namespace Go.Abs
open Go
section
variable {P:Program} {tt:TT} {l:List Oper} {d:Md} {r:List Oper} {s:St} {K:St→Prop} {t:Nat} {op:Op} {ty:TypeId} {pos:String} {after:Array Edge} {gd:Option (Nat×Bool)}
variable {α:Type} {f:α→List PV}
theorem apV (pk:Pk P tt) {xs:List α} (ys:List α) {T T2 e:TypeId} {x y:Operand} {id n sz:Nat} {p:PV} (B:Nat) (hx:opd s x=some (.vec id sz 0 n)) (hy:opd s y=some p) (hp:fO p=some (ys.map f)) (hk:tiK tt T=some (.slice e)) (hk2:cX tt T2=true) (hs:aS tt e=some sz) (hz:(tiZ tt e).map List.length=some sz) (hf:bM s [x,y]=true) (hd:Nat.blt t s.n=true)
    (hst:s.st id=some (.arr e (xs.map f))) (hn:xs.length=n) (hl:∀a,(f a).length=sz) (h1:∀a,(f a).all PV.one=true) (hB:P.bytesOf e=B) (hb:(n+ys.length)*B≤140737488355328) (h62:n+ys.length<4611686018427387904) (ht:jY d l r=true)
    (k:∀id',s.st id'=none→Ev P l d r ((s.sst (upd (upd s.st id none) id' (some (.arr e ((xs++ys).map f))))).pv t (.vec id' sz 0 (n+ys.length))) K):Ev P l d (⟨some t, .call ⟨.builtin .append, #[x,y], #[T,T2]⟩,ty,pos,after,none⟩::r) s K:=by
  refine eE (afQ pk.htt B hx (by rw [zql];exact hn) hy hp hk hk2 hs hz hst (fun r hr=>by obtain ⟨a,_,rfl⟩:=List.mem_map.1 hr;exact hl a) (fun r hr=>by obtain ⟨a,_,rfl⟩:=List.mem_map.1 hr;exact h1 a) hB (by rw [zql,zql,hn];exact hb) (by rw [zql,zql,hn];exact h62)) (fun z hz=>aW (fun _ _ _ e=>by cases e) hz) hf hd ht fun z hz=> ?_
  obtain ⟨id',h,rfl⟩:=hz
  have:=k id' h
  rw [List.map_append] at this
  simp only [zql,hn]
  exact this
theorem ap0 (pk:Pk P tt) (ys:List α) {T T2 e:TypeId} {x y:Operand} {sz:Nat} {q p:PV} (B:Nat) (hx:opd s x=some q) (hq:isEmp q=true) (hy:opd s y=some p) (hp:fO p=some (ys.map f)) (hk:tiK tt T=some (.slice e)) (hk2:cX tt T2=true) (hs:aS tt e=some sz) (hz:(tiZ tt e).map List.length=some sz) (hf:bM s [x,y]=true) (hd:Nat.blt t s.n=true)
    (hl:∀a,(f a).length=sz) (h1:∀a,(f a).all PV.one=true) (hB:P.bytesOf e=B) (hb:ys.length*B≤140737488355328) (h62:ys.length<4611686018427387904) (ht:jY d l r=true)
    (k:∀id',s.st id'=none→Ev P l d r ((s.sst (upd s.st id' (some (.arr e (ys.map f))))).pv t (.vec id' sz 0 ys.length)) K):Ev P l d (⟨some t, .call ⟨.builtin .append, #[x,y], #[T,T2]⟩,ty,pos,after,none⟩::r) s K:=by
  refine eE (acW pk.htt B hx hq hy hp hk hk2 hs hz (fun r hr=>by obtain ⟨a,_,rfl⟩:=List.mem_map.1 hr;exact hl a) (fun r hr=>by obtain ⟨a,_,rfl⟩:=List.mem_map.1 hr;exact h1 a) hB (by rw [zql];exact hb) (by rw [zql];exact h62)) (fun z hz=>aW (fun _ _ _ e=>by cases e) hz) hf hd ht fun z hz=> ?_
  obtain ⟨id',h,rfl⟩:=hz
  have:=k id' h
  simp only [zql]
  exact this
end
section
variable {P:Program} {tt:TT}
def LR (T sz:Nat) (st:aL) (rows:List (List PV)) (p:PV) (st':aL):Prop:=
  (∃id,p= .vec id sz 0 rows.length∧st id=none∧st' id=some (.arr T rows)∧StSub st (upd st' id none))∨(isEmp p=true∧rows=[]∧StSub st st')
theorem Wk.isEmp {p:PV} (h:isEmp p=true):Wk p (.seq []):=fun g v hr=>by
  obtain ⟨a,rfl⟩:=xJ h hr
  unfold Rep
  exact ⟨a,0,rfl,by simp,by simp, .inl rfl⟩
theorem wG {f:FuncId} {args:List PV} {st:aL} {R R':PV→aL→Prop} {sz:Nat} (h:PC P f args st R)
    (hr:∀p st',R p st'→(∃id T rows q st2,st' id=some (.arr T rows)∧P.cellsOf T=sz∧Fz id sz rows p q∧StSub st2 (upd st' id none)∧R' q st2)∨∃q st2,Wk p q∧StSub st2 st'∧R' q st2):PC P f args st R':=
  ⟨h.1,fun w g vs hm hv=>(h.2 w g vs hm hv).mono fun e w' ⟨v,r,st',g',h1,h2,h3,h4,h5,h6,h7⟩=>by
    rcases hr _ _ h2 with ⟨id,T,rows,q,st2,k1,k2,k3,k4,k5⟩|⟨q,st2,k1,k2,k3⟩
    · obtain ⟨g'',m1,m2,m3,m4,m5,m6⟩:=agV h4 k1 k2
      refine ⟨v,q,st2,g'',h1,k5,Fz.rep m3 k3 _ (Rep.mono m2 _ _ h3),m1.sub k4,h5.trans m2,⟨h6.os,h6.tape,h6.output,h6.size,fun b hb hn=> ?_⟩,fun b hb=> ?_⟩
      · obtain ⟨f1,f2,f3⟩:=h6.old b hb hn
        have hnb:¬Blocks st' g' b:=fun hb'=>by
          rcases h7 b hb' with h'|h'
          · exact hn h'
          · omega
        obtain ⟨q1,q2⟩:=m5 b hnb
        exact ⟨f1,q1.trans f2,q2.trans f3⟩
      · obtain ⟨j,j1,j2⟩:=hb.sub k4
        exact h7 b ⟨j,(eQ j1).2,by rw [←m6];exact j2⟩
    · exact ⟨v,q,st2,g',h1,k3,k1 _ _ h3,h4.sub k2,h5,h6,fun b hb=>h7 b (hb.sub k2)⟩⟩
theorem akW {f:FuncId} {args:List PV} {T sz:Nat} {rows:List (List PV)} (hT:P.cellsOf T=sz) (h:∀st,PC P f args st (LR T sz st rows)):PF P f args (.seq rows):=fun st=>
  wG (sz:=sz) (h st) fun p st' hR=>by
    rcases hR with ⟨id,e,h1,h2,h3⟩|⟨e,h1,h2⟩
    · exact .inl ⟨id,T,rows, .seq rows,st,h2,hT,e▸ .all,h3,rfl,rfl⟩
    · exact .inr ⟨.seq rows,st,h1▸Wk.isEmp e,h2,rfl,rfl⟩
end
section
variable {P:Program} {tt:TT} {l:List Oper} {d:Md} {r:List Oper} {s:St} {K:St→Prop} {t:Nat} {op:Op} {ty:TypeId} {pos:String} {after:Array Edge} {gd:Option (Nat×Bool)}
variable {α:Type} {f:α→List PV} {g:α→PV} {sz:Nat}
theorem ldL (pk:Pk P tt) {T:TypeId} (he:Elem tt T f g sz) {x:Operand} {id j:Nat} {w:Bool} {xs:List α} {a:α} (hw:bH l ⟨some t, .load T x,ty,pos,after,gd⟩ s=some w) (hx:opd s x=some (.el id sz j 0)) (hf:All (flagsI s w [x] [])) (hd:Nat.blt t s.n=true)
    (hst:s.st id=some (.arr T (xs.map f))) (hj:w=true→xs[j]?=some a) (ht:tW d l r=true) (k:Ev P l d r (s.put (some t) w (.pv (g a))) K):Ev P l d (⟨some t, .load T x,ty,pos,after,gd⟩::r) s K:=
  oV hw (fun hw'=>uT pk.htt rfl hx hst he.size (by rw [List.getElem?_map,hj hw'];rfl) (he.ld _)) (fun z hz=>aW (fun _ _ _ e=>by cases e) hz) (flagsI.g hf).1 hd ht k
end
end Go.Abs
namespace Go.Abs
open Go
section
variable {P:Program} {tt:TT}
def U8 (n:Int):List PV:=[.val (.int .u8 n)]
def fX (ns:List Int):ByteArray:=ns.foldl (fun s n=>s.push (UInt8.ofNat n.toNat)) ByteArray.empty
theorem yF {g:G}:∀{ns:List Int} {vs:List Value},RepL g ((ns.map U8).flatten) vs→vs=ns.map (Value.int .u8)
  |[],vs,h=>by simpa [RepL] using h
  |n::ns,vs,h=>by
    simp only [List.map_cons,U8,List.flatten_cons,List.cons_append,List.nil_append,RepL] at h
    obtain ⟨v,vs',rfl,h1,h2⟩:=h
    rw [aP h1,yF h2];rfl
theorem akG {F:Value→ByteArray→Sem (ForInStep ByteArray)} (hF:∀n r w,(F (.int .u8 n) r).run P w= .ok (.yield (r.push (UInt8.ofNat n.toNat))) w) {w:World}:∀(ns:List Int) (s:ByteArray),(forIn (ns.map (Value.int .u8)) s F:Sem ByteArray).run P w= .ok (ns.foldl (fun s n=>s.push (UInt8.ofNat n.toNat)) s) w
  |[],s=>by simp
  |n::ns,s=>by
    have ih:=akG hF (w:=w) ns (s.push (UInt8.ofNat n.toNat))
    rw [List.map_cons,List.forIn_cons]
    simp only [Sem.run_bind,hF,Result.andThen_ok]
    exact ih
theorem auS (htt:bI P tt) {o:Oper} {s:St} {T T2 e:TypeId} {x:Operand} {p:PV} {ns:List Int} (ho:o.op= .convert T T2 x) (hx:opd s x=some p) (hp:fO p=some (ns.map U8)) (hk:tiK tt T=some (.slice e)) (he:tiK tt e=some (.int .u8)) (h2:tiK tt T2=some .str):OpV P o s (.val (.string (fX ns))):=by
  refine aQ fun w g ρ hm hρ=> ?_
  have rx:=pM hp (hρ x (by rw [ho];simp [Op.operands]) _ hx)
  have hu:=bV (aT htt hk).1
  have hue:=lX (aT htt he).1
  have hu2:=jW (aT htt h2).1
  refine ⟨.string (fX ns), ?_,by simp [Rep]⟩
  simp only [Rep] at rx
  obtain ⟨a,cap,ex,h3,h4,h5⟩:=rx
  have hnil:ns=[]→(Conv.bytesToString (.slice a (ns.map U8).length cap)).run P w= .ok (.string (fX ns)) w:=fun h=>by
    subst h
    cases a with
    |none=>simp [Conv.bytesToString,fX]
    |some a=>simp [Conv.bytesToString,fX,loadCells,loadCellsFrom]
  have hrun:(Conv.bytesToString (.slice a (ns.map U8).length cap)).run P w= .ok (.string (fX ns)) w:=by
    rcases h5 with h5|⟨b,off,sz,rfl,hR⟩
    · exact hnil (by simpa using h5)
    · by_cases h0:ns=[]
      · exact hnil h0
      · obtain ⟨vs,v1,v2,v3⟩:=hR.vals
        have hv:=yF v1
        subst hv
        have hsz:(ns.map (Value.int .u8)).length=(ns.map U8).length:=by simp
        have hl:=run_loadCells_list (P:=P) (w:=w) ⟨b,off,none⟩ (ns.map (Value.int .u8)) (fun j v hj=>by rw [cF];exact iP hm (v3 j v hj).1)
        rw [hsz] at hl
        simp only [Conv.bytesToString,Sem.run_bind,hl,Result.andThen_ok]
        rw [←Array.forIn_toList]
        rw [akG (P:=P) (w:=w) (fun n r w=>by simp) ns ByteArray.empty]
        rfl
  simp only [execOp,ho,convert,ex,Sem.run_bind,run_underlying hu,run_underlying hu2,run_underlying hue,Result.andThen_ok,hrun,Sem.run_pure]
theorem auW {o:Oper} {s:St} {T T2:TypeId} {x y:Operand} {a b:ByteArray} (ho:o.op= .binOp .add T x y T2) (hx:opd s x=some (.val (.string a))) (hy:opd s y=some (.val (.string b))) (hs:(a.size:Int)+b.size≤9223372036854775807):OpV P o s (.val (.string (a++b))):=by
  refine aQ fun w g ρ hm hρ=> ?_
  have ex:=aP (hρ x (by rw [ho];simp [Op.operands]) _ hx)
  have ey:=aP (hρ y (by rw [ho];simp [Op.operands]) _ hy)
  refine ⟨.string (a++b),eA ho (by rw [ex,ey];simp [eqGuard]) ?_,by simp [Rep]⟩
  rw [ex,ey]
  have:¬(((a.size+b.size:Nat):Int)>IntKind.i64.max):=by
    have e:IntKind.i64.max=9223372036854775807:=rfl
    rw [e];omega
  simp only [binOp,Op.stringOp,if_neg this,Sem.run_pure]
end
section
variable {P:Program} {tt:TT} {l:List Oper} {d:Md} {r:List Oper} {s:St} {K:St→Prop} {t:Nat} {op:Op} {ty:TypeId} {pos:String} {after:Array Edge} {gd:Option (Nat×Bool)}
theorem azZ (pk:Pk P tt) (ns:List Int) {T T2 e:TypeId} {x:Operand} {w:Bool} {p:PV} (hw:bH l ⟨some t, .convert T T2 x,ty,pos,after,gd⟩ s=some w) (hx:opd s x=some p) (hp:fO p=some (ns.map U8)) (hk:tiK tt T=some (.slice e)) (he:tiK tt e=some (.int .u8)) (h2:tiK tt T2=some .str) (hf:All (flagsI s w [x] [])) (hd:Nat.blt t s.n=true) (ht:cI d l r=true)
    (k:Ev P l d r (s.put (some t) w (.pv (.val (.string (fX ns))))) K):Ev P l d (⟨some t, .convert T T2 x,ty,pos,after,gd⟩::r) s K:=
  cO hw (fun _ st'=>auS (s:=s.sst st') pk.htt rfl ((bS x).trans hx) hp hk he h2) (fun z hz=>aW (fun _ _ _ e=>by cases e) hz) (flagsI.g hf).1 hd ht k
theorem aAS {T T2:TypeId} {x y:Operand} {w:Bool} {a b:ByteArray} (hw:bH l ⟨some t, .binOp .add T x y T2,ty,pos,after,gd⟩ s=some w) (hx:opd s x=some (.val (.string a))) (hy:opd s y=some (.val (.string b))) (hf:All (flagsI s w [x,y] [])) (hd:Nat.blt t s.n=true) (hs:w=true→(a.size:Int)+b.size≤9223372036854775807) (ht:cI d l r=true)
    (k:Ev P l d r (s.put (some t) w (.pv (.val (.string (a++b))))) K):Ev P l d (⟨some t, .binOp .add T x y T2,ty,pos,after,gd⟩::r) s K:=
  cO hw (fun hw' st'=>auW (s:=s.sst st') rfl ((bS x).trans hx) ((bS y).trans hy) (hs hw')) (fun z hz=>aW (fun _ _ _ e=>by cases e) hz) (flagsI.g hf).1 hd ht k
end
section
variable {P:Program} {tt:TT} {l:List Oper} {d:Md} {r:List Oper} {s:St} {K:St→Prop} {t:Nat} {op:Op} {ty:TypeId} {pos:String} {after:Array Edge} {gd:Option (Nat×Bool)}
theorem stF {α:Type} {f:α→List PV} (pk:Pk P tt) {T T':TypeId} {x y:Operand} {id sz j off:Nat} {xs:List α} (a a':α) (hx:opd s x=some (.el id sz j off)) (hf:bM s [x,y]=true) (hst:s.st id=some (.arr T' (xs.map f))) (hs:aS tt T'=some sz) (hj:xs[j]?=some a) (hp:iW tt s T y (f a) off=some (f a')) (ht:jY d l r=true)
    (k:Ev P l d r (s.sst (upd s.st id (some (.arr T' ((xs.set j a').map f))))) K):Ev P l d (⟨none, .store T x y,ty,pos,after,none⟩::r) s K:=by
  refine eE (tC pk.htt hx hst hs (by rw [List.getElem?_map,hj];rfl) hp) (fun z hz=>aW (fun _ _ _ e=>by cases e) hz) hf rfl ht fun z hz=> ?_
  subst hz
  rw [List.map_set] at k
  exact k
end
theorem SI.empV {P:Program} {c:Ctx} {s:St} {a:Act} {w:World} {g:G} {lam:Nat→Nat} (hs:SI P c s a w g lam) (t:Nat) (T sz:Nat) {q:PV} (hx:s.env t=(true, .pv q)) (hq:isEmp q=true) (hd:Nat.blt t s.n=true):
    ∃id g',s.st id=none∧SI P c ((s.sst (upd s.st id (some (.arr T [])))).pv t (.vec id sz 0 0)) a w g' lam:=by
  obtain ⟨id',g',f1,f2,f3,m1,m2,m3,m4⟩:=vZ hs.mem T
  have hstep:=hs.step m1 m2 m3 m4
  have hn:t<s.n:=by simpa [Nat.blt_eq] using hd
  obtain ⟨b,hv⟩:∃b,a.tmps.getD t undef= .slice b 0 0:=by
    have:=hs.env t;rw [hx] at this
    exact xJ hq this
  have hput:=hstep.put (d:=some t) (b:=true) (e:= .pv (.vec id' sz 0 0)) (v:= .slice b 0 0) (fun z hz=>by cases hz;exact hn) (f3 sz b) (fun _ _ e=>by cases e)
  have ha:a.put (some t) (.slice b 0 0)=a:=by
    have hlt:t<a.tmps.size:=by rw [hs.n];exact hn
    have h2:a.tmps[t]= .slice b 0 0:=by simpa [hlt] using hv
    simp only [Act.put]
    cases a with
    |mk tmps defers=>
      simp only at h2 hlt⊢
      congr 1
      apply Array.ext
      · simp
      · intro i h1 h3
        by_cases hi:i=t
        · subst hi;simp [h2]
        · rw [Array.getElem_setIfInBounds_ne];exact Ne.symm hi
  rw [ha] at hput
  exact ⟨id',g',f2,hput⟩
theorem jH {P:Program} {cd:Code} {Q:Exit→St→Prop} {s:St} (t:Nat) (T sz:Nat) {q:PV} (hx:s.env t=(true, .pv q)) (hq:isEmp q=true) (hd:Nat.blt t s.n=true) (k:∀id,s.st id=none→PWp P cd Q ((s.sst (upd s.st id (some (.arr T [])))).pv t (.vec id sz 0 0))):PWp P cd Q s:=by
  intro c a w g lam hs
  obtain ⟨id,g',h1,h2⟩:=hs.empV t T sz hx hq hd
  exact k id h1 c a w g' lam h2
end Go.Abs
